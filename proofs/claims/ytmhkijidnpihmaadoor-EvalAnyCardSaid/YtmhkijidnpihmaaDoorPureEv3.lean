/- furrow: what a right expression comes to is the same on both sides; no conditions. -/
import Derived.Test.YtmhkijidnpihmaaDoorPureEv2
import Derived.Test.YtmhkijidnpihmaaDoorHandE
import Derived.Test.YtmhkijidnpihmaaDoorHandV
import Derived.Test.YtmhkijidnpihmaaDoorHandW
import Derived.Test.YtmhkijidnpihmaaDoorXx2
import Derived.Test.YtmhkijidnpihmaaDoorXx3
import Derived.Laws.Bits64
namespace Go.Proofs.YtmhkijidnpihmaaDoor.Pure
open Go.RowKit Go.Proofs.YtmhkijidnpihmaaDoor.X Go.Proofs.YtmhkijidnpihmaaDoor.Flt Go.Proofs.YtmhkijidnpihmaaDoor.H Go.Proofs.YtmhkijidnpihmaaDoorW.PrintWords Go.Proofs.YtmhkijidnpihmaaDoorW.PrintLast Go.Proofs.YtmhkijidnpihmaaDoorW.PrintMore
set_option linter.unusedVariables false
set_option linter.unusedSimpArgs false
/-! the table, the cells; what an expression comes to is the same on both sides -/
def TT (n : Int) : List S71 := [⟨⟨#[97]⟩, [n], 0, n⟩, ⟨⟨#[98]⟩, [3, 2], n, 6⟩, ⟨⟨#[120]⟩, [], n + 6, 1⟩, ⟨⟨#[121]⟩, [], n + 7, 1⟩, ⟨⟨#[110]⟩, [], n + 8, 1⟩, ⟨⟨#[105]⟩, [], n + 9, 1⟩, ⟨⟨#[106]⟩, [], n + 10, 1⟩]
theorem table_spec {n : Int} (h : 1 ≤ n ∧ n ≤ 9) : Says (fun k => furrowlaw9_Table.f k n) (TT n, n + 11) := by
  obtain rfl | rfl | rfl | rfl | rfl | rfl | rfl | rfl | rfl := (show n = 1 ∨ n = 2 ∨ n = 3 ∨ n = 4 ∨ n = 5 ∨ n = 6 ∨ n = 7 ∨ n = 8 ∨ n = 9 by omega)
  all_goals exact Says.more (furrowlaw9_Table.mono _) (K := 20) (by kernel_rfl)
def toS (s : S71) : S64 := ⟨s.f0, s.f1, s.f2, s.f3⟩
theorem to_spec (n c : Int) : Says (fun k => furrowlaw8_To.f k (TT n) c) ((TT n).map toS, c) := Says.more (furrowlaw8_To.mono _ _) (K := 20) (by kernel_rfl)
theorem sfind_spec (xs : List S71) (s : ByteArray) (hl : xs.length ≤ 7) : ∀ (n i : Nat), i + n = xs.length → Says (fun k => sema_Table_Find.l0 k s (xs.map toS) ((xs.map toS).length : Int) (i : Int)) (lookup (xs.drop i) s)
  | 0, i, h => by
    rw [List.drop_of_length_le (by omega)]
    exact .step (fun k => sema_Table_Find.l0.eq_2 ..) (.neg (by rw [List.length_map]; omega) .now)
  | n + 1, i, h => by
    have q : rd_T64 (xs.map toS) (i : Int) = toS (xs.getD i z71) := by
      show (xs.map toS).getD i z64 = _
      rw [List.getD_eq_getElem?_getD, List.getD_eq_getElem?_getD, List.getElem?_map, List.getElem?_eq_getElem (show i < xs.length by omega)]; rfl
    rw [drop_at (d := z71) (by omega)]
    refine .step (fun k => sema_Table_Find.l0.eq_2 ..) (.pos (by rw [List.length_map]; omega) (.pos (by omega) (.pos (by rw [List.length_map]; omega) ?_)))
    rw [q]
    by_cases e : (xs.getD i z71).f0.toList = s.toList
    · rw [lookup, if_pos e]; exact .pos e .now
    · rw [lookup, if_neg e, wnext (n := 7) (by omega) (by omega)]; exact .neg e (sfind_spec xs s hl n (i + 1) (by omega))
theorem lookup_all {P : List Int → Int → Prop} {s : ByteArray} : ∀ {xs : List S71}, (∀ x ∈ xs, P x.f1 x.f2) → (lookup xs s).2.2.2.2 = true → P (lookup xs s).2.1 (lookup xs s).2.2.1
  | [], _, h => by cases h
  | x :: xs, hp, h => by
    by_cases e : x.f0.toList = s.toList
    · rw [lookup, if_pos e]; exact hp x (by simp)
    · rw [lookup, if_neg e] at h ⊢; exact lookup_all (fun y hy => hp y (by simp [hy])) h
/-- A name's subscripts and where it stands. -/
def Ent (n : Int) (d : List Int) (a : Int) : Prop := (d = [] ∧ 0 ≤ a ∧ a < n + 11) ∨ (d = [n] ∧ a = 0) ∨ (d = [3, 2] ∧ a = n)
theorem ent {n : Int} (h : 1 ≤ n ∧ n ≤ 9) {s : ByteArray} : (lookup (TT n) s).2.2.2.2 = true → Ent n (lookup (TT n) s).2.1 (lookup (TT n) s).2.2.1 := by
  apply lookup_all
  intro x hx
  simp only [TT, List.mem_cons, List.not_mem_nil, or_false] at hx
  unfold Ent
  obtain rfl | rfl | rfl | rfl | rfl | rfl | rfl := hx
  · exact .inr (.inl ⟨rfl, rfl⟩)
  · exact .inr (.inr ⟨rfl, rfl⟩)
  all_goals exact .inl ⟨rfl, by dsimp only; omega, by dsimp only; omega⟩
/-- A fault of the program's, as the document has it. -/
def Alike (fl : List Flt) (ps : List S83) (er : Int) : Prop := (er = 0 ∧ fl = [] ∧ ps = []) ∨ (er ≠ 0 ∧ ∃ p a, fl = [⟨p, a, some er⟩] ∧ ps = [⟨p, a⟩])
theorem Alike.ok : Alike [] [] 0 := .inl ⟨rfl, rfl, rfl⟩
theorem Alike.zero {fl : List Flt} {ps : List S83} {er : Int} (h : Alike fl ps er) (he : er = 0) : fl = [] ∧ ps = [] := by
  rcases h with ⟨_, h1, h2⟩ | ⟨h, _⟩
  · exact ⟨h1, h2⟩
  · exact absurd he h
theorem Alike.not {fl : List Flt} {ps : List S83} {er : Int} (h : Alike fl ps er) (he : er ≠ 0) : ¬(fl.length : Int) = 0 := by
  rcases h with ⟨h, _⟩ | ⟨_, p, a, rfl, _⟩
  · exact absurd h he
  · simp
theorem tells_spec {fl : List Flt} {ps : List S83} {er : Int} (h : Alike fl ps er) : furrowlaw2_Tells.f fl ps er = some true := by
  rcases h with ⟨rfl, rfl, rfl⟩ | ⟨h, p, a, rfl, rfl⟩
  · rfl
  · unfold furrowlaw2_Tells.f; rw [if_neg h]; simp
abbrev sub9 : ByteArray := ⟨#[115, 117, 98, 115, 99, 114, 105, 112, 116]⟩
section
variable {a b c i' : Int} {acc d : List Int} {nm : ByteArray} {s0 s1 : Int} {i : Nat}
theorem el_bad (h1 : i < acc.length) (h2 : i < d.length) (hn : rd acc i < 1 ∨ rd acc i > rd d i) : Says (fun k => eval_Place.l1 k a b acc (acc.length : Int) (i : Int) nm d s0 s1) (0, [⟨sub9, i, some 14⟩]) := by
  refine .step (fun k => eval_Place.l1.eq_2 ..) (.pos (by omega) (.pos (by omega) (.pos (by omega) ?_)))
  by_cases h : rd acc i < 1
  · exact .pos h .now
  · exact .neg h (.pos (by omega) (.pos (by omega) .now))
theorem el_good {r : Int × List Flt} (h1 : i < acc.length) (h2 : i < d.length) (hl : acc.length ≤ 9) (hn : ¬(rd acc i < 1 ∨ rd acc i > rd d i)) (h : Says (fun k => eval_Place.l1 k (wrap64 (a + wrap64 (wrap64 (rd acc i - 1) * b))) (wrap64 (b * rd d i)) acc (acc.length : Int) ((i + 1 : Nat) : Int) nm d s0 s1) r) : Says (fun k => eval_Place.l1 k a b acc (acc.length : Int) (i : Int) nm d s0 s1) r := by
  refine .step (fun k => eval_Place.l1.eq_2 ..) (.pos (by omega) (.pos (by omega) (.pos (by omega) (.neg (by omega) (.pos (by omega) (.neg (by omega) ?_))))))
  rw [wnext (n := 9) (by omega) (by omega)]; exact h
theorem el_end (h : i = acc.length) : Says (fun k => eval_Place.l1 k a b acc (acc.length : Int) (i : Int) nm d s0 s1) (a, []) := .step (fun k => eval_Place.l1.eq_2 ..) (.neg (by omega) .now)
theorem rl_bad (h1 : i < acc.length) (h2 : i < d.length) (hn : rd acc i < 1 ∨ rd acc i > rd d i) : Says (fun k => furrowref10_Place.l1 k acc a b (i : Int) nm d s0 s1) (0, [⟨sub9, i⟩], 14) := by
  refine .step (fun k => furrowref10_Place.l1.eq_2 ..) (.pos (by omega) (.pos (by omega) ?_))
  by_cases h : rd acc i < 1
  · exact .pos h (.bind (v := ([⟨sub9, i⟩], 14)) ⟨0, fun _ _ => rfl⟩ .now)
  · exact .neg h (.pos (by omega) (.pos (by omega) (.bind (v := ([⟨sub9, i⟩], 14)) ⟨0, fun _ _ => rfl⟩ .now)))
theorem rl_good {r : Int × List S83 × Int} (h1 : i < acc.length) (h2 : i < d.length) (hl : acc.length ≤ 9) (hn : ¬(rd acc i < 1 ∨ rd acc i > rd d i)) (h : Says (fun k => furrowref10_Place.l1 k acc (wrap64 (a + wrap64 (wrap64 (rd acc i - 1) * b))) (wrap64 (b * rd d i)) ((i + 1 : Nat) : Int) nm d s0 s1) r) : Says (fun k => furrowref10_Place.l1 k acc a b (i : Int) nm d s0 s1) r := by
  refine .step (fun k => furrowref10_Place.l1.eq_2 ..) (.pos (by omega) (.pos (by omega) (.neg (by omega) (.pos (by omega) (.neg (by omega) ?_)))))
  rw [wnext (n := 9) (by omega) (by omega)]; exact h
theorem rl_end (h : i = acc.length) : Says (fun k => furrowref10_Place.l1 k acc a b (i : Int) nm d s0 s1) (wrap64 (s0 + a), [], 0) := .step (fun k => furrowref10_Place.l1.eq_2 ..) (.neg (by omega) .now)
end
theorem place_end {n : Int} (h : 1 ≤ n ∧ n ≤ 9) {d : List Int} {at_ : Int} (he : Ent n d at_) (nm : ByteArray) (sz : Int) (acc : List Int) (hl : acc.length = d.length) :
    ∃ (v : Int) (fl : List Flt) (ps : List S83) (er : Int), Says (fun k => eval_Place.l1 k at_ 1 acc (acc.length : Int) 0 nm d at_ sz) (v, fl) ∧ Says (fun k => furrowref10_Place.l1 k acc 0 1 0 nm d at_ sz) (v, ps, er) ∧ Alike fl ps er ∧ (er = 0 → 0 ≤ v ∧ v < n + 11) := by
  have bad : ∀ i : Nat, Alike [⟨sub9, (i : Int), some 14⟩] [⟨sub9, i⟩] 14 := fun i => .inr ⟨by decide, _, _, rfl, rfl⟩
  rcases he with ⟨rfl, h1, h2⟩ | ⟨rfl, rfl⟩ | ⟨rfl, rfl⟩
  · obtain rfl := List.length_eq_zero_iff.1 hl
    refine ⟨at_, [], [], 0, el_end (i := 0) rfl, ?_, .ok, fun _ => ⟨h1, h2⟩⟩
    have := @rl_end 0 1 [] [] nm at_ sz 0 rfl
    rw [show wrap64 (at_ + 0) = at_ by rw [w64 (by omega)]; omega] at this
    exact this
  · obtain ⟨p, rfl⟩ : ∃ p, acc = [p] := List.length_eq_one_iff.1 hl
    by_cases c : rd [p] (0 : Nat) < 1 ∨ rd [p] (0 : Nat) > rd [n] (0 : Nat)
    · exact ⟨0, _, _, 14, el_bad (i := 0) (by simp) (by simp) c, rl_bad (i := 0) (by simp) (by simp) c, bad 0, fun h => by cases h⟩
    · have c' : 1 ≤ p ∧ p ≤ n := by
        have e1 : rd [p] (0 : Nat) = p := rfl
        have e2 : rd [n] (0 : Nat) = n := rfl
        omega
      refine ⟨p - 1, [], [], 0, ?_, ?_, .ok, fun _ => by omega⟩
      · have q := @el_end (wrap64 (0 + wrap64 (wrap64 (rd [p] (0 : Nat) - 1) * 1))) (wrap64 (1 * rd [n] (0 : Nat))) [p] [n] nm 0 sz 1 rfl
        have e : wrap64 (0 + wrap64 (wrap64 (rd [p] (0 : Nat) - 1) * 1)) = p - 1 := by
          show wrap64 (0 + wrap64 (wrap64 (p - 1) * 1)) = p - 1
          unfold wrap64; omega
        have q := el_good (i := 0) (by simp) (by simp) (by simp) c q
        rw [e] at q
        exact q
      · have q := @rl_end (wrap64 (0 + wrap64 (wrap64 (rd [p] (0 : Nat) - 1) * 1))) (wrap64 (1 * rd [n] (0 : Nat))) [p] [n] nm 0 sz 1 rfl
        have e : wrap64 (0 + wrap64 (0 + wrap64 (wrap64 (rd [p] (0 : Nat) - 1) * 1))) = p - 1 := by
          show wrap64 (0 + wrap64 (0 + wrap64 (wrap64 (p - 1) * 1))) = p - 1
          unfold wrap64; omega
        have q := rl_good (i := 0) (by simp) (by simp) (by simp) c q
        rw [e] at q
        exact q
  · obtain ⟨p, r, rfl⟩ : ∃ p r, acc = [p, r] := by
      match acc, hl with
      | [p, r], _ => exact ⟨p, r, rfl⟩
    by_cases c : rd [p, r] (0 : Nat) < 1 ∨ rd [p, r] (0 : Nat) > rd [3, 2] (0 : Nat)
    · exact ⟨0, _, _, 14, el_bad (i := 0) (by simp) (by simp) c, rl_bad (i := 0) (by simp) (by simp) c, bad 0, fun h => by cases h⟩
    by_cases c2 : rd [p, r] (1 : Nat) < 1 ∨ rd [p, r] (1 : Nat) > rd [3, 2] (1 : Nat)
    · exact ⟨0, _, _, 14, el_good (i := 0) (by simp) (by simp) (by simp) c (el_bad (i := 1) (by simp) (by simp) c2), rl_good (i := 0) (by simp) (by simp) (by simp) c (rl_bad (i := 1) (by simp) (by simp) c2), bad 1, fun h => by cases h⟩
    have e1 : rd [p, r] (0 : Nat) = p := rfl
    have e2 : rd [3, 2] (0 : Nat) = 3 := rfl
    have e3 : rd [p, r] (1 : Nat) = r := rfl
    have e4 : rd [3, 2] (1 : Nat) = 2 := rfl
    have hp : 1 ≤ p ∧ p ≤ 3 := by omega
    have hr : 1 ≤ r ∧ r ≤ 2 := by omega
    refine ⟨at_ + (p - 1) + (r - 1) * 3, [], [], 0, ?_, ?_, .ok, fun _ => by omega⟩
    · have q := el_good (a := at_) (b := 1) (nm := nm) (s0 := at_) (s1 := sz) (i := 0) (by simp) (by simp) (by simp) c (el_good (i := 1) (by simp) (by simp) (by simp) c2 (el_end (i := 2) rfl))
      have e : wrap64 (wrap64 (at_ + wrap64 (wrap64 (rd [p, r] (0 : Nat) - 1) * 1)) + wrap64 (wrap64 (rd [p, r] (1 : Nat) - 1) * wrap64 (1 * rd [3, 2] (0 : Nat)))) = at_ + (p - 1) + (r - 1) * 3 := by
        rw [e1, e2, e3, w64 (a := 1 * 3) (by omega), w64 (a := p - 1) (by omega), w64 (a := r - 1) (by omega), w64 (a := (p - 1) * 1) (by omega), w64 (a := (r - 1) * (1 * 3)) (by omega), w64 (a := at_ + (p - 1) * 1) (by omega), w64 (by omega)]; omega
      rw [e] at q
      exact q
    · have q := rl_good (a := 0) (b := 1) (nm := nm) (s0 := at_) (s1 := sz) (i := 0) (by simp) (by simp) (by simp) c (rl_good (i := 1) (by simp) (by simp) (by simp) c2 (rl_end (i := 2) rfl))
      have e : wrap64 (at_ + wrap64 (wrap64 (0 + wrap64 (wrap64 (rd [p, r] (0 : Nat) - 1) * 1)) + wrap64 (wrap64 (rd [p, r] (1 : Nat) - 1) * wrap64 (1 * rd [3, 2] (0 : Nat))))) = at_ + (p - 1) + (r - 1) * 3 := by
        rw [e1, e2, e3, w64 (a := 1 * 3) (by omega), w64 (a := p - 1) (by omega), w64 (a := r - 1) (by omega), w64 (a := (p - 1) * 1) (by omega), w64 (a := (r - 1) * (1 * 3)) (by omega), w64 (a := 0 + (p - 1) * 1) (by omega), w64 (a := 0 + (p - 1) * 1 + (r - 1) * (1 * 3)) (by omega), w64 (by omega)]; omega
      rw [e] at q
      exact q
/-- Both sides tell the same of an expression. -/
def Both (n : Int) (st : List Int) (x : S24) (y : S33) : Prop := ∃ (v : Int) (fl : List Flt) (ps : List S83) (er : Int), Says (fun k => eval_Eval.f k ((TT n).map toS) (n + 11) st x.f0 x.f1 x.f2 x.f3) (v, fl) ∧ Says (fun k => furrowref10_Eval.f k (TT n) (n + 11) st y.f0 y.f1 y.f2 y.f3) (v, ps, er) ∧ Alike fl ps er
theorem place_spec {n : Int} (h : 1 ≤ n ∧ n ≤ 9) {st : List Int} {x : S24} {y : S33} (e2 : y.f2 = x.f2) (el : y.f3.length = x.f3.length) (hd : (lookup (TT n) y.f2).2.2.2.2 = true ∧ (lookup (TT n) y.f2).2.1.length = y.f3.length) (kids : ∀ i : Nat, i < x.f3.length → Both n st (x.f3.getD i z24) (y.f3.getD i z33)) :
    ∃ (v : Int) (fl : List Flt) (ps : List S83) (er : Int), Says (fun k => eval_Place.f k ((TT n).map toS) (n + 11) st x.f0 x.f1 x.f2 x.f3) (v, fl) ∧ Says (fun k => furrowref10_Place.f k (TT n) (n + 11) st y.f0 y.f1 y.f2 y.f3) (v, ps, er) ∧ Alike fl ps er ∧ (er = 0 → 0 ≤ v ∧ v < n + 11) := by
  have he := ent h hd.1
  generalize hL : lookup (TT n) y.f2 = L at hd he
  obtain ⟨nm, d, at_, sz, fd⟩ := L
  have f1 : Says (fun k => sema_Table_Find.f k ((TT n).map toS) (n + 11) x.f2) (nm, d, at_, sz, fd) := by
    rw [← hL, e2]; exact .eq (fun k => sema_Table_Find.f.eq_1 ..) (sfind_spec (TT n) x.f2 (by simp [TT]) (TT n).length 0 (by omega))
  have f2 : Says (fun k => furrowref10_Table_Find.f k (TT n) (n + 11) y.f2) (nm, d, at_, sz, fd) := by
    rw [← hL]; exact .eq (fun k => furrowref10_Table_Find.f.eq_1 ..) (find_spec (TT n) (n + 11) y.f2 (by simp [TT]) (TT n).length 0 (by omega))
  have dl : d.length ≤ 2 := by rcases he with ⟨e, _⟩ | ⟨e, _⟩ | ⟨e, _⟩ <;> simp only at e <;> rw [e] <;> simp
  have loop : ∀ (m : Nat) (acc : List Int), acc.length + m = x.f3.length → ∃ (v : Int) (fl : List Flt) (ps : List S83) (er : Int), Says (fun k => eval_Place.l0 k st acc x.f3 (x.f3.length : Int) (acc.length : Int) ((TT n).map toS) (n + 11) nm d at_ sz) (v, fl) ∧ Says (fun k => furrowref10_Place.l0 k st acc (acc.length : Int) (TT n) (n + 11) y.f0 y.f1 y.f2 y.f3 nm d at_ sz) (v, ps, er) ∧ Alike fl ps er ∧ (er = 0 → 0 ≤ v ∧ v < n + 11) := by
    intro m
    induction m with
    | zero =>
      intro acc ha
      obtain ⟨v, fl, ps, er, q1, q2, q3, q4⟩ := place_end h he nm sz acc (by have := hd.2; simp only at this ⊢; omega)
      exact ⟨v, fl, ps, er, .step (fun k => eval_Place.l0.eq_2 ..) (.neg (by omega) q1), .step (fun k => furrowref10_Place.l0.eq_2 ..) (.neg (by omega) q2), q3, q4⟩
    | succ m ihm =>
      intro acc ha
      obtain ⟨v, fl, ps, er, q1, q2, q3⟩ := kids acc.length (by omega)
      have ld : x.f3.length ≤ 2 := by have := hd.2; simp only at this; omega
      by_cases ez : er = 0
      · obtain ⟨rfl, rfl⟩ := q3.zero ez
        obtain ⟨u, fl', ps', er', r1, r2, r3, r4⟩ := ihm (acc ++ [v]) (by simp; omega)
        rw [show (acc ++ [v]).length = acc.length + 1 by simp] at r1 r2
        refine ⟨u, fl', ps', er', .step (fun k => eval_Place.l0.eq_2 ..) (.pos (by omega) (.pos (by omega) (.pos (by omega) (.bind q1 (.pos (by simp) (.pos (by omega) ?_)))))), .step (fun k => furrowref10_Place.l0.eq_2 ..) (.pos (by omega) (.pos (by omega) (.bind q2 (.pos ez (.pos (by omega) ?_))))), r3, r4⟩
        · rw [wnext (n := 2) (by omega) (by omega)]; exact r1
        · rw [wnext (n := 2) (by omega) (by omega)]; exact r2
      · exact ⟨0, fl, ps, er, .step (fun k => eval_Place.l0.eq_2 ..) (.pos (by omega) (.pos (by omega) (.pos (by omega) (.bind q1 (.neg (q3.not ez) .now))))), .step (fun k => furrowref10_Place.l0.eq_2 ..) (.pos (by omega) (.pos (by omega) (.bind q2 (.neg ez .now)))), q3, fun h => absurd h ez⟩
  obtain ⟨v, fl, ps, er, q1, q2, q3, q4⟩ := loop x.f3.length [] (by simp)
  exact ⟨v, fl, ps, er, .step (fun k => eval_Place.f.eq_2 ..) (.bind f1 q1), .step (fun k => furrowref10_Place.f.eq_2 ..) (.bind f2 q2), q3, q4⟩
theorem wz (a : Int) : wrap64 (0 + wrap64 (-a)) = wrap64 (-a) := by unfold wrap64; omega
theorem wsub (a b : Int) : wrap64 (a + wrap64 (-b)) = wrap64 (a - b) := by unfold wrap64; omega
theorem eval_spec {n : Int} (h : 1 ≤ n ∧ n ≤ 9) {st : List Int} (hst : (st.length : Int) = n + 11) {x : S24} {y : S33} (hr : Rel x y) : R1 y → R2 (TT n) y → Both n st x y := by
  induction hr with
  | mk x y e0 e1 e2 el en ek ih =>
    rintro ⟨_, hk, h1⟩ ⟨_, hn, h2⟩
    have kids : ∀ i : Nat, i < x.f3.length → Both n st (x.f3.getD i z24) (y.f3.getD i z33) := fun i hi => ih i hi (h1 i (by omega)) (h2 i (by omega))
    have E : ∀ {g : Nat → Option (Int × List Flt)} {v}, (∀ k, eval_Eval.f (k + 1) ((TT n).map toS) (n + 11) st x.f0 x.f1 x.f2 x.f3 = g k) → Says g v → Says (fun k => eval_Eval.f k ((TT n).map toS) (n + 11) st x.f0 x.f1 x.f2 x.f3) v := fun hg hv => .step hg hv
    by_cases k1 : y.f0 = 1
    · exact ⟨y.f1, [], [], 0, .step (fun k => eval_Eval.f.eq_2 ..) (.pos (by omega) (by rw [e1]; exact .now)), .step (fun k => furrowref10_Eval.f.eq_2 ..) (.pos k1 .now), .ok⟩
    by_cases kp : y.f0 = 2 ∨ y.f0 = 3
    · obtain ⟨v, fl, ps, er, q1, q2, q3, q4⟩ := place_spec h e2 el (hn kp) kids
      have fin : ∃ (v : Int) (fl : List Flt) (ps : List S83) (er : Int), Says (fun k => eval_Eval.j0 k st true ((TT n).map toS) (n + 11) x.f0 x.f1 x.f2 x.f3) (v, fl) ∧ Says (fun k => furrowref10_Eval.j0 k st true (TT n) (n + 11) y.f0 y.f1 y.f2 y.f3) (v, ps, er) ∧ Alike fl ps er := by
        by_cases ez : er = 0
        · obtain ⟨rfl, rfl⟩ := q3.zero ez
          have := q4 ez
          exact ⟨rd st v, [], [], 0, .step (fun k => eval_Eval.j0.eq_2 ..) (.pos rfl (.bind q1 (.pos (by simp) (.pos this.1 (.pos (by simp only; omega) .now))))), .step (fun k => furrowref10_Eval.j0.eq_2 ..) (.pos rfl (.bind q2 (.pos ez (.pos this.1 (.pos (by simp only; omega) .now))))), .ok⟩
        · exact ⟨0, fl, ps, er, .step (fun k => eval_Eval.j0.eq_2 ..) (.pos rfl (.bind q1 (.neg (q3.not ez) .now))), .step (fun k => furrowref10_Eval.j0.eq_2 ..) (.pos rfl (.bind q2 (.neg ez .now))), q3⟩
      obtain ⟨v, fl, ps, er, q1, q2, q3⟩ := fin
      refine ⟨v, fl, ps, er, .step (fun k => eval_Eval.f.eq_2 ..) (.neg (by omega) ?_), .step (fun k => furrowref10_Eval.f.eq_2 ..) (.neg k1 ?_), q3⟩
      · by_cases c : x.f0 = 2
        · refine .pos c ?_
          rw [show (x.f0 == 2) = true by rw [c]; rfl]; exact q1
        · refine .neg c ?_
          rw [show (x.f0 == 3) = true by rw [show x.f0 = 3 by omega]; rfl]; exact q1
      · by_cases c : y.f0 = 2
        · refine .pos c ?_
          rw [show (y.f0 == 2) = true by rw [c]; rfl]; exact q2
        · refine .neg c ?_
          rw [show (y.f0 == 3) = true by rw [show y.f0 = 3 by omega]; rfl]; exact q2
    have into : ∀ {v fl ps er}, Says (fun k => eval_Eval.l0 k st x.f3 (x.f3.length : Int) 0 ((TT n).map toS) (n + 11) x.f0 x.f1 x.f2 x.f3 0 0) (v, fl) → Says (fun k => furrowref10_Eval.j0 k st false (TT n) (n + 11) y.f0 y.f1 y.f2 y.f3) (v, ps, er) → Alike fl ps er → Both n st x y := by
      intro v fl ps er q1 q2 q3
      refine ⟨v, fl, ps, er, .step (fun k => eval_Eval.f.eq_2 ..) (.neg (by omega) (.neg (by omega) ?_)), .step (fun k => furrowref10_Eval.f.eq_2 ..) (.neg k1 (.neg (by omega) ?_)), q3⟩
      · rw [show (x.f0 == 3) = false by rw [beq_eq_false_iff_ne]; omega]
        exact .step (fun k => eval_Eval.j0.eq_2 ..) (.neg (by simp) q1)
      · rw [show (y.f0 == 3) = false by rw [beq_eq_false_iff_ne]; omega]; exact q2
    have nz : 0 < x.f3.length := by omega
    obtain ⟨a, fl, ps, er, q1, q2, q3⟩ := kids 0 nz
    by_cases ez : er = 0
    case neg =>
      exact into (v := 0) (.step (fun k => eval_Eval.l0.eq_2 ..) (.pos (by omega) (.pos (by omega) (.pos (by omega) (.bind q1 (.neg (q3.not ez) .now))))))
        (.step (fun k => furrowref10_Eval.j0.eq_2 ..) (.neg (by simp) (.pos (by omega) (.bind q2 (.neg ez .now))))) q3
    obtain ⟨rfl, rfl⟩ := q3.zero ez
    have w1 : wrap64 ((0 : Int) + 1) = 1 := w64 (by omega)
    by_cases k4 : y.f0 = 4
    · refine into (v := wrap64 (-a)) (fl := []) (ps := []) (er := 0) (.step (fun k => eval_Eval.l0.eq_2 ..) (.pos (by omega) (.pos (by omega) (.pos (by omega) (.bind q1 (.pos (by simp) (.pos rfl ?_)))))))
        (.step (fun k => furrowref10_Eval.j0.eq_2 ..) (.neg (by simp) (.pos (by omega) (.bind q2 (.pos ez (.pos k4 .now)))))) .ok
      rw [w1, ← wz a]
      exact .step (fun k => eval_Eval.l0.eq_2 ..) (.neg (by omega) (.pos (by omega) .now))
    have l2 : y.f3.length = 2 := by omega
    obtain ⟨b, fl', ps', er', r1, r2, r3⟩ := kids 1 (by omega)
    have w2 : wrap64 ((1 : Int) + 1) = 2 := w64 (by omega)
    have first : ∀ {v fl}, Says (fun k => eval_Eval.l0 k st x.f3 (x.f3.length : Int) 1 ((TT n).map toS) (n + 11) x.f0 x.f1 x.f2 x.f3 a 0) (v, fl) → Says (fun k => eval_Eval.l0 k st x.f3 (x.f3.length : Int) 0 ((TT n).map toS) (n + 11) x.f0 x.f1 x.f2 x.f3 0 0) (v, fl) := by
      intro v fl hv
      refine .step (fun k => eval_Eval.l0.eq_2 ..) (.pos (by omega) (.pos (by omega) (.pos (by omega) (.bind q1 (.pos (by simp) (.pos rfl ?_))))))
      rw [w1]; exact hv
    by_cases ez' : er' = 0
    case neg =>
      refine into (v := 0) (first (.step (fun k => eval_Eval.l0.eq_2 ..) (.pos (by omega) (.pos (by omega) (.pos (by omega) (.bind r1 (.neg (r3.not ez') .now)))))))
        (.step (fun k => furrowref10_Eval.j0.eq_2 ..) (.neg (by simp) (.pos (by omega) (.bind q2 (.pos ez (.neg k4 (.pos (by omega) (.bind r2 (.neg ez' .now)))))))) ) r3
    obtain ⟨rfl, rfl⟩ := r3.zero ez'
    have both : ∀ {v fl}, Says (fun k => eval_Eval.l0 k st x.f3 (x.f3.length : Int) 2 ((TT n).map toS) (n + 11) x.f0 x.f1 x.f2 x.f3 a b) (v, fl) → Says (fun k => eval_Eval.l0 k st x.f3 (x.f3.length : Int) 0 ((TT n).map toS) (n + 11) x.f0 x.f1 x.f2 x.f3 0 0) (v, fl) := by
      intro v fl hv
      refine first (.step (fun k => eval_Eval.l0.eq_2 ..) (.pos (by omega) (.pos (by omega) (.pos (by omega) (.bind r1 (.pos (by simp) (.neg (by decide) (.pos rfl ?_))))))))
      rw [w2]; exact hv
    by_cases k5 : y.f0 = 5
    · exact into (v := wrap64 (a + b)) (both (.step (fun k => eval_Eval.l0.eq_2 ..) (.neg (by omega) (.neg (by omega) (.neg (by omega) (.pos (by omega) .now))))))
        (.step (fun k => furrowref10_Eval.j0.eq_2 ..) (.neg (by simp) (.pos (by omega) (.bind q2 (.pos ez (.neg k4 (.pos (by omega) (.bind r2 (.pos ez' (.pos k5 .now)))))))))) .ok
    by_cases k6 : y.f0 = 6
    · refine into (v := wrap64 (a - b)) (both (.step (fun k => eval_Eval.l0.eq_2 ..) (.neg (by omega) (.neg (by omega) (.pos (by omega) ?_)))))
        (.step (fun k => furrowref10_Eval.j0.eq_2 ..) (.neg (by simp) (.pos (by omega) (.bind q2 (.pos ez (.neg k4 (.pos (by omega) (.bind r2 (.pos ez' (.neg k5 (.pos k6 .now))))))))))) .ok
      rw [← wsub]; exact .now
    by_cases k7 : y.f0 = 7
    · exact into (v := wrap64 (a * b)) (both (.step (fun k => eval_Eval.l0.eq_2 ..) (.neg (by omega) (.neg (by omega) (.neg (by omega) (.neg (by omega) (.pos (by omega) .now)))))))
        (.step (fun k => furrowref10_Eval.j0.eq_2 ..) (.neg (by simp) (.pos (by omega) (.bind q2 (.pos ez (.neg k4 (.pos (by omega) (.bind r2 (.pos ez' (.neg k5 (.neg k6 (.pos k7 .now)))))))))))) .ok
    by_cases kz : b = 0
    · exact into (v := 0) (both (.step (fun k => eval_Eval.l0.eq_2 ..) (.neg (by omega) (.neg (by omega) (.neg (by omega) (.neg (by omega) (.neg (by omega) (.pos kz .now))))))))
        (.step (fun k => furrowref10_Eval.j0.eq_2 ..) (.neg (by simp) (.pos (by omega) (.bind q2 (.pos ez (.neg k4 (.pos (by omega) (.bind r2 (.pos ez' (.neg k5 (.neg k6 (.neg k7 (.pos kz (.bind (v := ([⟨⟨#[100, 105, 118]⟩, 0⟩], 13)) ⟨0, fun _ _ => rfl⟩ .now)))))))))))))) (.inr ⟨by decide, _, _, rfl, rfl⟩)
    refine into (v := wrap64 (Int.tdiv a b)) (both (.step (fun k => eval_Eval.l0.eq_2 ..) (.neg (by omega) (.neg (by omega) (.neg (by omega) (.neg (by omega) (.neg (by omega) (.neg kz .now))))))))
        (.step (fun k => furrowref10_Eval.j0.eq_2 ..) (.neg (by simp) (.pos (by omega) (.bind q2 (.pos ez (.neg k4 (.pos (by omega) (.bind r2 (.pos ez' (.neg k5 (.neg k6 (.neg k7 (.neg kz ?_))))))))))))) .ok
    by_cases km : b = -1
    · refine .pos km ?_
      rw [km, Int.tdiv_neg, Int.tdiv_one]; exact .now
    · exact .neg km .now

end Go.Proofs.YtmhkijidnpihmaaDoor.Pure
