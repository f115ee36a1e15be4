/- A tree's form is what it comes to, at any point. -/
import Derived.Test.YtnkckdbjeemjeaaGreatDoorPureLm1
import Derived.Test.YtnkckdbjeemjeaaGreatDoorPureEv1
import Derived.Test.YtnkckdbjeemjeaaGreatDoorXx24
import Derived.Test.YtnkckdbjeemjeaaGreatDoorXx26
import Derived.Test.YtnkckdbjeemjeaaGreatDoorXx20
import Derived.Test.YtnkckdbjeemjeaaGreatDoorXx21
import Derived.Test.YtnkckdbjeemjeaaGreatDoorXx14
import Derived.Laws.Bits64
namespace Go.Proofs.YtnkckdbjeemjeaaGreatDoor.Pure
open Go.RowKit Go.Proofs.YtnkckdbjeemjeaaGreatDoor.X Go.Proofs.YtnkckdbjeemjeaaGreatDoor.Flt Go.Proofs.YtnkckdbjeemjeaaGreatDoor.H Go.Proofs.YtnkckdbjeemjeaaGreatDoorW.PrintWords Go.Proofs.YtnkckdbjeemjeaaGreatDoorW.PrintLast Go.Proofs.YtnkckdbjeemjeaaGreatDoorW.PrintMore
set_option linter.unusedVariables false
set_option linter.unusedSimpArgs false
def L2 : List ByteArray := [⟨#[105]⟩, ⟨#[106]⟩]
def T2 : List S52 := [⟨⟨#[105]⟩, [], 0, 1⟩, ⟨⟨#[106]⟩, [], 1, 1⟩]
def Ok (e : S24) (a b K : Int) : Prop := Says (fun k => lift_of.f k e.f0 e.f1 e.f2 e.f3 L2) ([a, b], K, none)
def Comes (i j : Int) (y : S30) (v : Int) : Prop := Says (fun k => furrowref10_Eval.f k T2 2 [i, j] y.f0 y.f1 y.f2 y.f3) (v, [], 0)
inductive NR : S24 → Prop
  | mk (x : S24) (h : inR x.f1) (hk : ∀ i : Nat, i < x.f3.length → NR (x.f3.getD i z24)) : NR x
theorem nr_of {x : S24} (h : GE x) : NR x := by
  induction h with
  | mk x h1 h2 h3 h4 h5 ih =>
    refine .mk x ?_ (fun i hi => ih _ (getD_mem hi))
    simp [Lit.wf, IntKind.min, IntKind.max, IntKind.signed, IntKind.bits] at h2
    unfold inR; omega
theorem wmod (x : Int) : ∃ t, wrap64 x = x + 18446744073709551616 * t := ⟨(wrap64 x - x) / 18446744073709551616, by unfold wrap64; omega⟩
theorem wadd (x t : Int) : wrap64 (x + 18446744073709551616 * t) = wrap64 x := by unfold wrap64; omega
theorem wmul (x y : Int) : wrap64 (wrap64 x * wrap64 y) = wrap64 (x * y) := by
  obtain ⟨s, hs⟩ := wmod x
  obtain ⟨t, ht⟩ := wmod y
  rw [hs, ht]
  have e : (x + 18446744073709551616 * s) * (y + 18446744073709551616 * t) = x * y + 18446744073709551616 * (x * t + s * y + 18446744073709551616 * (s * t)) := by
    simp only [Int.add_mul, Int.mul_add]
    have e1 : 18446744073709551616 * s * y = 18446744073709551616 * (s * y) := Int.mul_assoc ..
    have e2 : x * (18446744073709551616 * t) = 18446744073709551616 * (x * t) := Int.mul_left_comm ..
    have e3 : 18446744073709551616 * s * (18446744073709551616 * t) = 18446744073709551616 * (18446744073709551616 * (s * t)) := by rw [Int.mul_assoc, Int.mul_left_comm s]
    rw [e1, e2, e3]; omega
  rw [e, wadd]
theorem wsum (x y : Int) : wrap64 (wrap64 x + wrap64 y) = wrap64 (x + y) := by unfold wrap64; omega
theorem wsub (x y : Int) : wrap64 (wrap64 x - wrap64 y) = wrap64 (x - y) := by unfold wrap64; omega
theorem wneg (x : Int) : wrap64 (-wrap64 x) = wrap64 (-x) := by unfold wrap64; omega
section
variable {x : S24} {y : S30} {a b K c d M i j : Int}
theorem of_kids2 {r : List Int × Int × Option Int} (hl : x.f3.length = 2) (hk : x.f0 ≠ 1 ∧ x.f0 ≠ 2 ∧ x.f0 ≠ 3 ∧ x.f0 ≠ 8) (h0 : Ok (x.f3.getD 0 z24) a b K) (h1 : Ok (x.f3.getD 1 z24) c d M)
    (h : Says (fun k => lift_of.l0 k L2 [⟨[a, b], K⟩, ⟨[c, d], M⟩] x.f3 (x.f3.length : Int) 2 x.f0 x.f1 x.f2 x.f3) r) : Says (fun k => lift_of.f k x.f0 x.f1 x.f2 x.f3 L2) r := by
  refine .step (fun k => lift_of.f.eq_2 ..) (.neg hk.1 (.neg hk.2.1 (.neg hk.2.2.1 (.neg hk.2.2.2 ?_))))
  refine .step (fun k => lift_of.l0.eq_2 ..) (.pos (by omega) (.pos (by omega) (.pos (by omega) (.bind h0 (.pos rfl (.pos (by simp) ?_))))))
  rw [w01]
  refine .step (fun k => lift_of.l0.eq_2 ..) (.pos (by omega) (.pos (by omega) (.pos (by omega) (.bind h1 (.pos rfl (.pos (by simp) ?_))))))
  rw [w12]
  exact h
theorem of_kids1 {r : List Int × Int × Option Int} (hl : x.f3.length = 1) (hk : x.f0 ≠ 1 ∧ x.f0 ≠ 2 ∧ x.f0 ≠ 3 ∧ x.f0 ≠ 8) (h0 : Ok (x.f3.getD 0 z24) a b K)
    (h : Says (fun k => lift_of.l0 k L2 [⟨[a, b], K⟩] x.f3 (x.f3.length : Int) 1 x.f0 x.f1 x.f2 x.f3) r) : Says (fun k => lift_of.f k x.f0 x.f1 x.f2 x.f3 L2) r := by
  refine .step (fun k => lift_of.f.eq_2 ..) (.neg hk.1 (.neg hk.2.1 (.neg hk.2.2.1 (.neg hk.2.2.2 ?_))))
  refine .step (fun k => lift_of.l0.eq_2 ..) (.pos (by omega) (.pos (by omega) (.pos (by omega) (.bind h0 (.pos rfl (.pos (by simp) ?_))))))
  rw [w01]
  exact h
theorem ok_neg (hl : x.f3.length = 1) (h4 : x.f0 = 4) (h0 : Ok (x.f3.getD 0 z24) a b K) (ha : inR a) (hb : inR b) (hK : inR K) (i0 : inR (a * -1)) (i1 : inR (b * -1)) (i2 : inR (K * -1)) : Ok x (a * -1) (b * -1) (K * -1) :=
  of_kids1 hl (by omega) h0 (.step (fun k => lift_of.l0.eq_2 ..) (.neg (by omega) (.pos h4 (.pos (by simp) (.bind (v := ([a * -1, b * -1], K * -1, [])) ⟨0, fun _ _ => scale2f ha hb hK (by unfold inR; omega) i0 i1 i2⟩ (.pos rfl .now))))))
theorem ok_add (hl : x.f3.length = 2) (h5 : x.f0 = 5) (h0 : Ok (x.f3.getD 0 z24) a b K) (h1 : Ok (x.f3.getD 1 z24) c d M) (ha : inR a) (hb : inR b) (hK : inR K) (hc : inR c) (hd : inR d) (hM : inR M) (i0 : inR (a + c)) (i1 : inR (b + d)) (i2 : inR (K + M)) : Ok x (a + c) (b + d) (K + M) :=
  of_kids2 hl (by omega) h0 h1 (.step (fun k => lift_of.l0.eq_2 ..) (.neg (by omega) (.neg (by omega) (.neg (by omega) (.pos h5 (.pos (by simp) (.pos (by simp) (.bind (v := ([a + c, b + d], K + M, [])) ⟨0, fun _ _ => add2f ha hb hK hc hd hM i0 i1 i2⟩ (.pos rfl .now)))))))))
theorem ok_sub (hl : x.f3.length = 2) (h6 : x.f0 = 6) (h0 : Ok (x.f3.getD 0 z24) a b K) (h1 : Ok (x.f3.getD 1 z24) c d M) (ha : inR a) (hb : inR b) (hK : inR K) (hc : inR c) (hd : inR d) (hM : inR M) (i0 : inR (a - c)) (i1 : inR (b - d)) (i2 : inR (K - M)) : Ok x (a - c) (b - d) (K - M) :=
  of_kids2 hl (by omega) h0 h1 (.step (fun k => lift_of.l0.eq_2 ..) (.neg (by omega) (.neg (by omega) (.neg (by omega) (.neg (by omega) (.pos (by simp) (.pos (by simp) (.bind (less2f ha hb hK hc hd hM i0 i1 i2) .now))))))))
theorem ok_mul {u v w : Int} (hl : x.f3.length = 2) (h7 : x.f0 = 7) (h0 : Ok (x.f3.getD 0 z24) a b K) (h1 : Ok (x.f3.getD 1 z24) c d M) (h : Says (fun k => lift_product.f k [a, b] K [c, d] M) ([u, v], w, none)) : Ok x u v w :=
  of_kids2 hl (by omega) h0 h1 (.step (fun k => lift_of.l0.eq_2 ..) (.neg (by omega) (.neg (by omega) (.pos h7 (.pos (by simp) (.pos (by simp) (.bind h .now)))))))
theorem ev0 (h1 : y.f0 ≠ 1) (h2 : y.f0 ≠ 2) (h3 : y.f0 ≠ 3) {v : Int} (h : Says (fun k => furrowref10_Eval.j0 k [i, j] false T2 2 y.f0 y.f1 y.f2 y.f3) (v, [], 0)) : Comes i j y v :=
  .step (fun k => furrowref10_Eval.f.eq_2 ..) (.neg h1 (.neg h2 (by rw [beq_eq_false_iff_ne.mpr h3]; exact h)))
theorem ev_neg {v : Int} (hl : y.f3.length = 1) (h4 : y.f0 = 4) (h0 : Comes i j (y.f3.getD 0 z30) v) : Comes i j y (wrap64 (-v)) :=
  ev0 (by omega) (by omega) (by omega) (.step (fun k => furrowref10_Eval.j0.eq_2 ..) (.neg (by simp) (.pos (by omega) (.bind h0 (.pos rfl (.step (fun k => furrowref10_Eval.j1.eq_2 ..) (.pos h4 .now)))))))
theorem ev_two {v u w : Int} (hl : y.f3.length = 2) (h5 : y.f0 = 5 ∨ y.f0 = 6 ∨ y.f0 = 7) (h0 : Comes i j (y.f3.getD 0 z30) v) (h1 : Comes i j (y.f3.getD 1 z30) u) (h : Says (fun k => furrowref10_Eval.j2 k v u y.f0 y.f1 y.f2 y.f3) (w, [], 0)) : Comes i j y w :=
  ev0 (by omega) (by omega) (by omega) (.step (fun k => furrowref10_Eval.j0.eq_2 ..) (.neg (by simp) (.pos (by omega) (.bind h0 (.pos rfl (.step (fun k => furrowref10_Eval.j1.eq_2 ..) (.neg (by omega) (.pos (by omega) (.bind h1 (.pos rfl h))))))))))
theorem ev_add {v u : Int} (hl : y.f3.length = 2) (h5 : y.f0 = 5) (h0 : Comes i j (y.f3.getD 0 z30) v) (h1 : Comes i j (y.f3.getD 1 z30) u) : Comes i j y (wrap64 (v + u)) :=
  ev_two hl (by omega) h0 h1 (.step (fun k => furrowref10_Eval.j2.eq_2 ..) (.pos h5 .now))
theorem ev_sub {v u : Int} (hl : y.f3.length = 2) (h5 : y.f0 = 6) (h0 : Comes i j (y.f3.getD 0 z30) v) (h1 : Comes i j (y.f3.getD 1 z30) u) : Comes i j y (wrap64 (v - u)) :=
  ev_two hl (by omega) h0 h1 (.step (fun k => furrowref10_Eval.j2.eq_2 ..) (.neg (by omega) (.pos h5 .now)))
theorem ev_mul {v u : Int} (hl : y.f3.length = 2) (h5 : y.f0 = 7) (h0 : Comes i j (y.f3.getD 0 z30) v) (h1 : Comes i j (y.f3.getD 1 z30) u) : Comes i j y (wrap64 (v * u)) :=
  ev_two hl (by omega) h0 h1 (.step (fun k => furrowref10_Eval.j2.eq_2 ..) (.neg (by omega) (.neg (by omega) (.pos h5 .now))))
theorem bytes_of {s t : ByteArray} (h : t.toList = s.toList) : s = t := by
  rw [ByteArray.toList_eq, ByteArray.toList_eq] at h
  cases s; cases t
  exact congrArg ByteArray.mk (Array.ext' h.symm)
end
def Told (i j : Int) (x : S24) (y : S30) : Prop :=
  (∃ l m ps er, er ≠ 0 ∧ Says (fun k => furrowref14_Lift.f k y.f0 y.f1 y.f2 y.f3 L2) (l, m, ps, er)) ∨
  ∃ a b K, inR a ∧ inR b ∧ inR K ∧ Says (fun k => furrowref14_Lift.f k y.f0 y.f1 y.f2 y.f3 L2) ([a, b], K, [], 0) ∧ Ok x a b K ∧ Comes i j y (wrap64 (a * i + b * j + K))

theorem const_n (n : Int) : furrowref14_Const.f (L2.length : Int) n = some ([0, 0], n) := by
  unfold furrowref14_Const.f
  rw [if_neg (by decide), if_pos (by decide), if_pos (by decide)]; rfl
theorem idx_i : Says (fun k => slices_Index_string_string.f k L2 ⟨#[105]⟩) 0 := Says.more (fun k => slices_Index_string_string.mono _ _ k) (K := 5) (by decide +kernel)
theorem idx_j : Says (fun k => slices_Index_string_string.f k L2 ⟨#[106]⟩) 1 := Says.more (fun k => slices_Index_string_string.mono _ _ k) (K := 5) (by decide +kernel)
theorem mul_lin (K c d M i j : Int) : K * (c * i + d * j + M) = c * K * i + d * K * j + M * K := by
  rw [Int.mul_add, Int.mul_add, ← Int.mul_assoc, ← Int.mul_assoc, Int.mul_comm K c, Int.mul_comm K d, Int.mul_comm K M]
section
variable {x : S24} {y : S30} {a b K c d M i j : Int}
theorem lf_kid (h1 : y.f0 ≠ 1) (h2 : y.f0 ≠ 2) (h3 : y.f0 ≠ 3) (h8 : y.f0 ≠ 8) (hl : 0 < y.f3.length) {r : RL} (h0 : Says (fun k => furrowref14_Lift.f k (y.f3.getD 0 z30).f0 (y.f3.getD 0 z30).f1 (y.f3.getD 0 z30).f2 (y.f3.getD 0 z30).f3 L2) ([a, b], K, [], 0))
    (h : Says (fun k => furrowref14_Lift.j1 k L2 y.f0 y.f1 y.f2 y.f3 [a, b] K) r) : Says (fun k => furrowref14_Lift.f k y.f0 y.f1 y.f2 y.f3 L2) r :=
  .step (fun k => furrowref14_Lift.f.eq_2 ..) (.neg h1 (.neg h2 (.neg h3 (.neg h8 (.pos (by omega) (.bind h0 (.pos rfl h)))))))
theorem lf_kid_no (h1 : y.f0 ≠ 1) (h2 : y.f0 ≠ 2) (h3 : y.f0 ≠ 3) (h8 : y.f0 ≠ 8) (hl : 0 < y.f3.length) {l : List Int} {m : Int} {ps : List S90} {er : Int} (he : er ≠ 0) (h0 : Says (fun k => furrowref14_Lift.f k (y.f3.getD 0 z30).f0 (y.f3.getD 0 z30).f1 (y.f3.getD 0 z30).f2 (y.f3.getD 0 z30).f3 L2) (l, m, ps, er)) :
    Says (fun k => furrowref14_Lift.f k y.f0 y.f1 y.f2 y.f3 L2) ([], 0, ps, er) :=
  .step (fun k => furrowref14_Lift.f.eq_2 ..) (.neg h1 (.neg h2 (.neg h3 (.neg h8 (.pos (by omega) (.bind h0 (.neg he .now)))))))
theorem lf_two (h4 : y.f0 ≠ 4) (hl : 1 < y.f3.length) {r : RL} (h1 : Says (fun k => furrowref14_Lift.f k (y.f3.getD 1 z30).f0 (y.f3.getD 1 z30).f1 (y.f3.getD 1 z30).f2 (y.f3.getD 1 z30).f3 L2) ([c, d], M, [], 0))
    (h : Says (fun k => furrowref14_Lift.j2 k y.f0 y.f1 y.f2 y.f3 [a, b] K [c, d] M) r) : Says (fun k => furrowref14_Lift.j1 k L2 y.f0 y.f1 y.f2 y.f3 [a, b] K) r :=
  .step (fun k => furrowref14_Lift.j1.eq_2 ..) (.neg h4 (.pos (by omega) (.bind h1 (.pos rfl h))))
theorem lf_two_no (h4 : y.f0 ≠ 4) (hl : 1 < y.f3.length) {l : List Int} {m : Int} {ps : List S90} {er : Int} (he : er ≠ 0) (h1 : Says (fun k => furrowref14_Lift.f k (y.f3.getD 1 z30).f0 (y.f3.getD 1 z30).f1 (y.f3.getD 1 z30).f2 (y.f3.getD 1 z30).f3 L2) (l, m, ps, er)) :
    Says (fun k => furrowref14_Lift.j1 k L2 y.f0 y.f1 y.f2 y.f3 [a, b] K) ([], 0, ps, er) :=
  .step (fun k => furrowref14_Lift.j1.eq_2 ..) (.neg h4 (.pos (by omega) (.bind h1 (.neg he .now))))
theorem Comes.to {v w : Int} (h : Comes i j y v) (e : v = w) : Comes i j y w := e ▸ h
theorem Ok.to {a' b' K' : Int} (h : Ok x a b K) (h1 : a = a') (h2 : b = b') (h3 : K = K') : Ok x a' b' K' := by subst h1 h2 h3; exact h
theorem told_two (hl : x.f3.length = 2) (ly : y.f3.length = 2) (e0 : y.f0 = x.f0) (hk : y.f0 = 5 ∨ y.f0 = 6 ∨ y.f0 = 7)
    (ha : inR a) (hb : inR b) (hK : inR K) (hc : inR c) (hd : inR d) (hM : inR M) (o0 : Ok (x.f3.getD 0 z24) a b K) (o1 : Ok (x.f3.getD 1 z24) c d M)
    (v0 : Comes i j (y.f3.getD 0 z30) (wrap64 (a * i + b * j + K))) (v1 : Comes i j (y.f3.getD 1 z30) (wrap64 (c * i + d * j + M))) :
    (∃ l m ps er, er ≠ 0 ∧ Says (fun k => furrowref14_Lift.j2 k y.f0 y.f1 y.f2 y.f3 [a, b] K [c, d] M) (l, m, ps, er)) ∨
    ∃ u v w, inR u ∧ inR v ∧ inR w ∧ Says (fun k => furrowref14_Lift.j2 k y.f0 y.f1 y.f2 y.f3 [a, b] K [c, d] M) ([u, v], w, [], 0) ∧ Ok x u v w ∧ Comes i j y (wrap64 (u * i + v * j + w)) := by
  have tail : ∀ {r : RL}, y.f0 ≠ 7 → Says (fun k => furrowref14_Lift.j4 k false y.f0 y.f1 y.f2 y.f3 [a, b] K [c, d] M) r → Says (fun k => furrowref14_Lift.j2 k y.f0 y.f1 y.f2 y.f3 [a, b] K [c, d] M) r := fun h7 h =>
    .step (fun k => furrowref14_Lift.j2.eq_2 ..) (.neg h7 (.step (fun k => furrowref14_Lift.j3.eq_2 ..) (.neg (by simp) (.neg h7 h))))
  rcases hk with h | h | h
  · have t : ∀ {r : RL}, Says (fun k => (furrowref14_Add.f k [a, b] K [c, d] M).bind fun r => (furrowref4_Within.f (⟨#[108, 105, 102, 116]⟩ : ByteArray) 0 r.2.2.1 r.2.2.2).bind fun s => some (r.1, r.2.1, s.1, s.2)) r → Says (fun k => furrowref14_Lift.j2 k y.f0 y.f1 y.f2 y.f3 [a, b] K [c, d] M) r := fun s =>
      tail (by omega) (.step (fun k => furrowref14_Lift.j4.eq_2 ..) (.neg (by simp) (.neg (by omega) (.neg (by omega) s))))
    rcases add_out ha hb hK hc hd hM with ⟨i0, i1, i2, s⟩ | ⟨l, m, ps, er, ne, s⟩
    · refine .inr ⟨_, _, _, i0, i1, i2, t s, ok_add hl (by omega) o0 o1 ha hb hK hc hd hM i0 i1 i2, (ev_add ly h v0 v1).to ?_⟩
      rw [wsum, Int.add_mul, Int.add_mul]; congr 1; omega
    · exact .inl ⟨l, m, ps, er, ne, t s⟩
  · have t : ∀ {r : RL}, Says (fun k => furrowref14_taken.f k [a, b] K [c, d] M) r → Says (fun k => furrowref14_Lift.j2 k y.f0 y.f1 y.f2 y.f3 [a, b] K [c, d] M) r := fun s =>
      tail (by omega) (.step (fun k => furrowref14_Lift.j4.eq_2 ..) (.neg (by simp) (.neg (by omega) (.pos h (.bind s .now)))))
    rcases taken_out ha hb hK hc hd hM with ⟨i0, i1, i2, s⟩ | ⟨l, m, ps, er, ne, s⟩
    · refine .inr ⟨_, _, _, i0, i1, i2, t s, ok_sub hl (by omega) o0 o1 ha hb hK hc hd hM i0 i1 i2, (ev_sub ly h v0 v1).to ?_⟩
      rw [wsub, Int.sub_mul, Int.sub_mul]; congr 1; omega
    · exact .inl ⟨l, m, ps, er, ne, t s⟩
  · by_cases ca : a = 0 ∧ b = 0
    · obtain ⟨rfl, rfl⟩ := ca
      have t : ∀ {r : RL}, Says (fun k => furrowref14_scaled.f k [c, d] M K) r → Says (fun k => furrowref14_Lift.j2 k y.f0 y.f1 y.f2 y.f3 [0, 0] K [c, d] M) r := fun s =>
        .step (fun k => furrowref14_Lift.j2.eq_2 ..) (.pos h (.bind (rconst2 true ⟨fun _ => rfl, fun _ => ⟨rfl, rfl⟩⟩) (.step (fun k => furrowref14_Lift.j3.eq_2 ..) (.pos rfl (.bind s .now)))))
      rcases scaled_out hc hd hM hK with ⟨i0, i1, i2, s⟩ | ⟨l, m, ps, er, ne, s⟩
      · refine .inr ⟨_, _, _, i0, i1, i2, t s, ?_, (ev_mul ly h v0 v1).to ?_⟩
        · by_cases cc : c = 0 ∧ d = 0
          · obtain ⟨rfl, rfl⟩ := cc
            have z : inR ((0 : Int) * M) := by rw [Int.zero_mul]; unfold inR; omega
            exact (ok_mul hl (by omega) o0 o1 (prod_r ha hb hK hM z z (by rw [Int.mul_comm]; exact i2))).to (by rw [Int.zero_mul, Int.zero_mul]) (by rw [Int.zero_mul, Int.zero_mul]) (Int.mul_comm _ _)
          · exact ok_mul hl (by omega) o0 o1 (prod_l hK hc hd hM cc i0 i1 i2)
        · rw [wmul, Int.zero_mul, Int.zero_mul, Int.zero_add, Int.zero_add, mul_lin]
      · exact .inl ⟨l, m, ps, er, ne, t s⟩
    · by_cases cc : c = 0 ∧ d = 0
      · obtain ⟨rfl, rfl⟩ := cc
        have t : ∀ {r : RL}, Says (fun k => furrowref14_scaled.f k [a, b] K M) r → Says (fun k => furrowref14_Lift.j2 k y.f0 y.f1 y.f2 y.f3 [a, b] K [0, 0] M) r := fun s =>
          .step (fun k => furrowref14_Lift.j2.eq_2 ..) (.pos h (.bind (rconst2 false ⟨fun h => absurd h ca, fun h => by cases h⟩) (.step (fun k => furrowref14_Lift.j3.eq_2 ..) (.neg (by simp) (.pos h (.bind (rconst2 true ⟨fun _ => rfl, fun _ => ⟨rfl, rfl⟩⟩) (.step (fun k => furrowref14_Lift.j4.eq_2 ..) (.pos rfl (.bind s .now)))))))))
        rcases scaled_out ha hb hK hM with ⟨i0, i1, i2, s⟩ | ⟨l, m, ps, er, ne, s⟩
        · refine .inr ⟨_, _, _, i0, i1, i2, t s, ok_mul hl (by omega) o0 o1 (prod_r ha hb hK hM i0 i1 i2), (ev_mul ly h v0 v1).to ?_⟩
          rw [wmul, Int.zero_mul, Int.zero_mul, Int.zero_add, Int.zero_add, Int.mul_comm _ M, mul_lin]
        · exact .inl ⟨l, m, ps, er, ne, t s⟩
      · exact .inl ⟨[], 0, [⟨abL, 0⟩], 2, by decide, .step (fun k => furrowref14_Lift.j2.eq_2 ..) (.pos h (.bind (rconst2 false ⟨fun h => absurd h ca, fun h => by cases h⟩) (.step (fun k => furrowref14_Lift.j3.eq_2 ..) (.neg (by simp) (.pos h (.bind (rconst2 false ⟨fun h => absurd h cc, fun h => by cases h⟩) (.step (fun k => furrowref14_Lift.j4.eq_2 ..) (.neg (by simp) (.pos h (.bind (v := (([⟨abL, 0⟩] : List S90), (2 : Int))) ⟨0, fun _ _ => rfl⟩ .now))))))))))⟩
theorem told_var (hi : -32768 ≤ i ∧ i ≤ 32767) (hj : -32768 ≤ j ∧ j ≤ 32767) (e0 : y.f0 = x.f0) (e2 : y.f2 = x.f2) (k2 : y.f0 = 2) (hl : y.f3.length = 0) : Told i j x y := by
  by_cases c1 : (⟨#[105]⟩ : ByteArray).toList = y.f2.toList
  · have s : x.f2 = ⟨#[105]⟩ := by rw [← e2]; exact bytes_of c1
    refine .inr ⟨1, 0, 0, by unfold inR; omega, by unfold inR; omega, by unfold inR; omega, ?_, ?_, ?_⟩
    · exact .step (fun k => furrowref14_Lift.f.eq_2 ..) (.neg (by omega) (.pos k2 (.step (fun k => furrowref14_Lift.l0.eq_2 ..) (.pos (by decide) (.pos (by decide) (.pos (by decide) (.pos c1 (.bind (v := ([1, 0], 0)) ⟨0, fun _ _ => rfl⟩ .now))))))))
    · unfold Ok; rw [s]
      exact .step (fun k => lift_of.f.eq_2 ..) (.neg (by omega) (.pos (by omega) (.bind idx_i (.neg (by decide) (.bind (v := ([1, 0], 0)) ⟨0, fun _ _ => rfl⟩ .now)))))
    · have pl : Says (fun k => furrowref10_Place.f k T2 2 [i, j] y.f0 y.f1 y.f2 y.f3) (0, [], 0) :=
        .eq (fun k => furrowref10_Place.f.eq_1 ..) (.bind (v := (⟨#[105]⟩, [], 0, 1, true)) (.eq (fun k => furrowref10_Table_Find.f.eq_1 ..) (.step (fun k => furrowref10_Table_Find.l0.eq_2 ..) (.pos (by decide) (.pos (by decide) (.pos c1 .now)))))
          (.step (fun k => furrowref10_Place.l0.eq_2 ..) (.neg (by omega) (.step (fun k => furrowref10_Place.l1.eq_2 ..) (.neg (by decide) (by rw [show wrap64 ((0 : Int) + 0) = 0 from w64 (a := 0) (by omega)]; exact .now))))))
      refine Comes.to (v := i) (.step (fun k => furrowref10_Eval.f.eq_2 ..) (.neg (by omega) (.pos k2 ?_))) (by rw [Int.one_mul, Int.zero_mul, Int.add_zero, Int.add_zero, w64 (by omega)])
      rw [beq_iff_eq.mpr k2]
      exact .step (fun k => furrowref10_Eval.j0.eq_2 ..) (.pos rfl (.bind pl (.pos rfl (.pos (by decide) (.pos (by simp) .now)))))
  by_cases c2 : (⟨#[106]⟩ : ByteArray).toList = y.f2.toList
  · have s : x.f2 = ⟨#[106]⟩ := by rw [← e2]; exact bytes_of c2
    refine .inr ⟨0, 1, 0, by unfold inR; omega, by unfold inR; omega, by unfold inR; omega, ?_, ?_, ?_⟩
    · refine .step (fun k => furrowref14_Lift.f.eq_2 ..) (.neg (by omega) (.pos k2 (.step (fun k => furrowref14_Lift.l0.eq_2 ..) (.pos (by decide) (.pos (by decide) (.pos (by decide) (.neg c1 ?_)))))))
      rw [w01]
      exact .step (fun k => furrowref14_Lift.l0.eq_2 ..) (.pos (by decide) (.pos (by decide) (.pos (by decide) (.pos c2 (.bind (v := ([0, 1], 0)) ⟨0, fun _ _ => rfl⟩ .now)))))
    · unfold Ok; rw [s]
      exact .step (fun k => lift_of.f.eq_2 ..) (.neg (by omega) (.pos (by omega) (.bind idx_j (.neg (by decide) (.bind (v := ([0, 1], 0)) ⟨0, fun _ _ => rfl⟩ .now)))))
    · have fd : Says (fun k => furrowref10_Table_Find.f k T2 2 y.f2) (⟨#[106]⟩, [], 1, 1, true) := by
        refine .eq (fun k => furrowref10_Table_Find.f.eq_1 ..) (.step (fun k => furrowref10_Table_Find.l0.eq_2 ..) (.pos (by decide) (.pos (by decide) (.neg c1 ?_))))
        rw [w01]
        exact .step (fun k => furrowref10_Table_Find.l0.eq_2 ..) (.pos (by decide) (.pos (by decide) (.pos c2 .now)))
      have pl : Says (fun k => furrowref10_Place.f k T2 2 [i, j] y.f0 y.f1 y.f2 y.f3) (1, [], 0) :=
        .eq (fun k => furrowref10_Place.f.eq_1 ..) (.bind fd
          (.step (fun k => furrowref10_Place.l0.eq_2 ..) (.neg (by omega) (.step (fun k => furrowref10_Place.l1.eq_2 ..) (.neg (by decide) (by rw [show wrap64 ((1 : Int) + 0) = 1 from w64 (a := 1) (by omega)]; exact .now))))))
      refine Comes.to (v := j) (.step (fun k => furrowref10_Eval.f.eq_2 ..) (.neg (by omega) (.pos k2 ?_))) (by rw [Int.one_mul, Int.zero_mul, Int.zero_add, Int.add_zero, w64 (by omega)])
      rw [beq_iff_eq.mpr k2]
      exact .step (fun k => furrowref10_Eval.j0.eq_2 ..) (.pos rfl (.bind pl (.pos rfl (.pos (by decide) (.pos (by simp) .now)))))
  · refine .inl ⟨[], 0, [⟨abL, 0⟩], 6, by decide, .step (fun k => furrowref14_Lift.f.eq_2 ..) (.neg (by omega) (.pos k2 (.step (fun k => furrowref14_Lift.l0.eq_2 ..) (.pos (by decide) (.pos (by decide) (.pos (by decide) (.neg c1 ?_)))))))⟩
    rw [w01]
    refine .step (fun k => furrowref14_Lift.l0.eq_2 ..) (.pos (by decide) (.pos (by decide) (.pos (by decide) (.neg c2 ?_))))
    rw [w12]
    exact .step (fun k => furrowref14_Lift.l0.eq_2 ..) (.neg (by decide) (.bind (v := (([⟨abL, 0⟩] : List S90), (6 : Int))) ⟨0, fun _ _ => rfl⟩ .now))
end
theorem told {i j : Int} (hi : -32768 ≤ i ∧ i ≤ 32767) (hj : -32768 ≤ j ∧ j ≤ 32767) {x : S24} {y : S30} (h : Rel x y) : R1 y → NR x → Told i j x y := by
  induction h with
  | mk x y e0 e1 e2 el en ek ih =>
    intro hr hn
    obtain ⟨_, hk, hkids⟩ := hr
    obtain ⟨_, hx, hnk⟩ := hn
    have kid : ∀ q, q < x.f3.length → Told i j (x.f3.getD q z24) (y.f3.getD q z30) := fun q hq => ih q hq (hkids q (by omega)) (hnk q hq)
    have bad : ∀ (w : y.f0 = 3 ∨ y.f0 = 8), Told i j x y := fun w => .inl ⟨[], 0, [⟨abL, 0⟩], 2, by decide, by
      rcases w with w | w
      · exact .step (fun k => furrowref14_Lift.f.eq_2 ..) (.neg (by omega) (.neg (by omega) (.pos w (.bind (v := (([⟨abL, 0⟩] : List S90), (2 : Int))) ⟨0, fun _ _ => rfl⟩ .now))))
      · exact .step (fun k => furrowref14_Lift.f.eq_2 ..) (.neg (by omega) (.neg (by omega) (.neg (by omega) (.pos w (.bind (v := (([⟨abL, 0⟩] : List S90), (2 : Int))) ⟨0, fun _ _ => rfl⟩ .now)))))⟩
    rcases hk with ⟨k1, l0⟩ | ⟨k2, l0⟩ | ⟨k3, _⟩ | ⟨k4, l1⟩ | ⟨k5, l2⟩
    · refine .inr ⟨0, 0, y.f1, by unfold inR; omega, by unfold inR; omega, by rw [e1]; exact hx, .step (fun k => furrowref14_Lift.f.eq_2 ..) (.pos k1 (.bind (v := ([0, 0], y.f1)) ⟨0, fun _ _ => const_n _⟩ .now)), ?_, ?_⟩
      · rw [e1]
        exact .step (fun k => lift_of.f.eq_2 ..) (.pos (by omega) (.bind (v := ([0, 0], x.f1)) ⟨0, fun _ _ => rfl⟩ .now))
      · exact Comes.to (v := y.f1) (.step (fun k => furrowref10_Eval.f.eq_2 ..) (.pos k1 .now)) (by rw [Int.zero_mul, Int.zero_mul, Int.zero_add, Int.zero_add, w64 (by rw [e1]; exact hx)])
    · exact told_var hi hj e0 e2 k2 l0
    · exact bad (.inl k3)
    · rcases kid 0 (by omega) with ⟨l, m, ps, er, ne, s⟩ | ⟨a, b, K, ha, hb, hK, s, o, v⟩
      · exact .inl ⟨_, _, ps, er, ne, lf_kid_no (by omega) (by omega) (by omega) (by omega) (by omega) ne s⟩
      · have t : ∀ {r : RL}, Says (fun k => furrowref14_scaled.f k [a, b] K (-1)) r → Says (fun k => furrowref14_Lift.f k y.f0 y.f1 y.f2 y.f3 L2) r := fun q =>
          lf_kid (by omega) (by omega) (by omega) (by omega) (by omega) s (.step (fun k => furrowref14_Lift.j1.eq_2 ..) (.pos k4 (.bind q .now)))
        rcases scaled_out ha hb hK (M := -1) (by unfold inR; omega) with ⟨i0, i1, i2, q⟩ | ⟨l, m, ps, er, ne, q⟩
        · refine .inr ⟨_, _, _, i0, i1, i2, t q, ok_neg (by omega) (by omega) o ha hb hK i0 i1 i2, (ev_neg l1 k4 v).to ?_⟩
          rw [wneg]; congr 1
          simp only [Int.mul_neg, Int.mul_one, Int.neg_mul]; omega
        · exact .inl ⟨l, m, ps, er, ne, t q⟩
    · by_cases k8 : y.f0 = 8
      · exact bad (.inr k8)
      rcases kid 0 (by omega) with ⟨l, m, ps, er, ne, s⟩ | ⟨a, b, K, ha, hb, hK, s, o0, v0⟩
      · exact .inl ⟨_, _, ps, er, ne, lf_kid_no (by omega) (by omega) (by omega) (by omega) (by omega) ne s⟩
      rcases kid 1 (by omega) with ⟨l, m, ps, er, ne, s1⟩ | ⟨c, d, M, hc, hd, hM, s1, o1, v1⟩
      · exact .inl ⟨_, _, ps, er, ne, lf_kid (by omega) (by omega) (by omega) (by omega) (by omega) s (lf_two_no (by omega) (by omega) ne s1)⟩
      have t : ∀ {r : RL}, Says (fun k => furrowref14_Lift.j2 k y.f0 y.f1 y.f2 y.f3 [a, b] K [c, d] M) r → Says (fun k => furrowref14_Lift.f k y.f0 y.f1 y.f2 y.f3 L2) r := fun q =>
        lf_kid (by omega) (by omega) (by omega) (by omega) (by omega) s (lf_two (by omega) (by omega) s1 q)
      rcases told_two (i := i) (j := j) (by omega) l2 e0 (by omega) ha hb hK hc hd hM o0 o1 v0 v1 with ⟨l, m, ps, er, ne, q⟩ | ⟨u, v, w, i0, i1, i2, q, o, cv⟩
      · exact .inl ⟨l, m, ps, er, ne, t q⟩
      · exact .inr ⟨u, v, w, i0, i1, i2, t q, o, cv⟩

end Go.Proofs.YtnkckdbjeemjeaaGreatDoor.Pure
