/- Words of a short text; no conditions. -/
import Derived.Test.YtnkckdbjeemjeaaGreatDoorXx7
import Derived.Laws.Bits64
import Derived.Test.YtnkckdbjeemjeaaGreatDoorOpR
import Derived.Test.YtnkckdbjeemjeaaGreatDoorXx14
namespace Go.Proofs.YtnkckdbjeemjeaaGreatDoor.Pure
open Go.RowKit Go.Proofs.YtnkckdbjeemjeaaGreatDoor.X Go.Proofs.YtnkckdbjeemjeaaGreatDoor.Flt Go.Proofs.YtnkckdbjeemjeaaGreatDoor.H Go.Proofs.YtnkckdbjeemjeaaGreatDoorW.PrintWords Go.Proofs.YtnkckdbjeemjeaaGreatDoorW.PrintLast Go.Proofs.YtnkckdbjeemjeaaGreatDoorW.PrintMore
set_option linter.unusedVariables false
set_option linter.unusedSimpArgs false
theorem w64 {a : Int} (h : -9223372036854775808 ≤ a ∧ a ≤ 9223372036854775807) : wrap64 a = a := by unfold wrap64; omega
theorem wnext {i n : Nat} (h : i < n) (hn : n ≤ 4611686018427387904) : wrap64 ((i : Int) + 1) = ((i + 1 : Nat) : Int) := by rw [w64 (by omega)]; omega
def Says {α : Type} (f : Nat → Option α) (v : α) : Prop := ∃ K, ∀ k, K ≤ k → f k = some v
section
variable {α β : Type} {f g : Nat → Option α} {v : α} {c : Prop} [Decidable c]
theorem Says.bind {h : Nat → α → Option β} {r : β} (hf : Says f v) (hg : Says (fun k => h k v) r) : Says (fun k => (f k).bind (h k)) r := by
  obtain ⟨K, hK⟩ := hf; obtain ⟨L, hL⟩ := hg
  exact ⟨max K L, fun k hk => by show (f k).bind (h k) = _; rw [hK k (by omega)]; exact hL k (by omega)⟩
theorem Says.step (h : ∀ k, f (k + 1) = g k) (hg : Says g v) : Says f v := by
  obtain ⟨K, hK⟩ := hg
  exact ⟨K + 1, fun k hk => by obtain ⟨k, rfl⟩ : ∃ m, k = m + 1 := ⟨k - 1, by omega⟩; rw [h]; exact hK k (by omega)⟩
theorem Says.eq (h : ∀ k, f k = g k) (hg : Says g v) : Says f v := by
  obtain ⟨K, hK⟩ := hg
  exact ⟨K, fun k hk => (h k).trans (hK k hk)⟩
theorem Says.now : Says (fun _ => some v) v := ⟨0, fun _ _ => rfl⟩
theorem Says.pos (hc : c) (h : Says f v) : Says (fun k => if c then f k else g k) v := by
  obtain ⟨K, hK⟩ := h
  exact ⟨K, fun k hk => by show (if c then f k else g k) = _; rw [if_pos hc]; exact hK k hk⟩
theorem Says.neg (hc : ¬c) (h : Says g v) : Says (fun k => if c then f k else g k) v := by
  obtain ⟨K, hK⟩ := h
  exact ⟨K, fun k hk => by show (if c then f k else g k) = _; rw [if_neg hc]; exact hK k hk⟩
theorem Says.one {u : α} (h : Says f v) (h' : Says f u) : v = u := by
  obtain ⟨K, hK⟩ := h; obtain ⟨L, hL⟩ := h'
  have a := hK (max K L) (by omega); rw [hL (max K L) (by omega)] at a
  exact (Option.some.inj a).symm
theorem Says.more (h : ∀ k, LeO (f k) (f (k + 1))) {K : Nat} (hK : f K = some v) : Says f v := by
  refine ⟨K, fun k hk => ?_⟩
  obtain ⟨j, rfl⟩ : ∃ j, k = K + j := ⟨k - K, by omega⟩
  clear hk
  induction j with
  | zero => exact hK
  | succ j ih => exact h _ _ ih
def Tot (f : Nat → Option α) : Prop := ∃ v, Says f v
theorem Tot.step (h : ∀ k, f (k + 1) = g k) (hg : Tot g) : Tot f := hg.elim fun v hv => ⟨v, hv.step h⟩
theorem Tot.eq (h : ∀ k, f k = g k) (hg : Tot g) : Tot f := hg.elim fun v hv => ⟨v, hv.eq h⟩
theorem Tot.bind {h : Nat → α → Option β} (hf : Tot f) (hg : ∀ v, Says f v → Tot (fun k => h k v)) : Tot (fun k => (f k).bind (h k)) := by
  obtain ⟨v, hv⟩ := hf; obtain ⟨r, hr⟩ := hg v hv
  exact ⟨r, hv.bind hr⟩
theorem Tot.now (v : α) : Tot (fun _ => some v) := ⟨v, .now⟩
theorem Tot.pos (hc : c) (h : Tot f) : Tot (fun k => if c then f k else g k) := h.elim fun v hv => ⟨v, hv.pos hc⟩
theorem Tot.neg (hc : ¬c) (h : Tot g) : Tot (fun k => if c then f k else g k) := h.elim fun v hv => ⟨v, hv.neg hc⟩
theorem Tot.ite (hf : c → Tot f) (hg : ¬c → Tot g) : Tot (fun k => if c then f k else g k) := by
  by_cases h : c
  · exact .pos h (hf h)
  · exact .neg h (hg h)
end

theorem letter_tot (a : Int) : ∃ b, furrowref4_letter.f a = some b := by unfold furrowref4_letter.f; split <;> exact ⟨_, rfl⟩
theorem digit_tot (a : Int) : ∃ b, furrowref4_digit.f a = some b := by unfold furrowref4_digit.f; split <;> exact ⟨_, rfl⟩
theorem behind_tot (a : Int) : ∃ b, furrowref4_behind.f a = some b := by
  unfold furrowref4_behind.f
  obtain ⟨b, h⟩ := letter_tot a; obtain ⟨d, hd⟩ := digit_tot a
  rw [h, hd]
  cases b <;> cases d <;> exact ⟨_, rfl⟩
theorem behind_letter {a : Int} (h : furrowref4_letter.f a = some true) : furrowref4_behind.f a = some true := by unfold furrowref4_behind.f; rw [h]; rfl
theorem iskey_tot (s : ByteArray) (l : List ByteArray) (hl : l.length ≤ 8) : ∀ (n i : Nat), i + n = l.length → Tot (fun k => furrowref4_IsKey.l0 k s l (i : Int))
  | 0, i, h => .step (fun k => furrowref4_IsKey.l0.eq_2 ..) (.neg (by omega) (.now _))
  | n + 1, i, h => .step (fun k => furrowref4_IsKey.l0.eq_2 ..) (.pos (by omega) (.pos (by omega) (.ite (fun _ => .now _) fun _ => by
      rw [wnext (n := 8) (by omega) (by omega)]; exact iskey_tot s l hl n (i + 1) (by omega))))
theorem number_tot (s : ByteArray) (hs : s.size ≤ 40) : ∀ (n i : Nat) (a : Int), i + n = s.size → Tot (fun k => furrowref4_number.l0 k s a (i : Int))
  | 0, i, a, h => .step (fun k => furrowref4_number.l0.eq_2 ..) (.neg (by omega) (.now _))
  | n + 1, i, a, h => .step (fun k => furrowref4_number.l0.eq_2 ..) (.pos (by omega) (.pos (by omega) (.ite (fun _ => .now _) fun _ => by
      rw [wnext (n := 40) (by omega) (by omega)]; exact number_tot s hs n (i + 1) _ (by omega))))
theorem sign_tot (s : ByteArray) (hs : s.size ≤ 40) (i : Nat) (hi : i < s.size) : ∃ t : Int, Says (fun k => furrowref4_sign.f k s (i : Int)) t ∧ (t = 0 ∨ t = 1 ∨ (t = 2 ∧ i + 2 ≤ s.size)) := by
  have j1 : ∀ (b : Bool) (x : Int) (d : Bool), (b = true → i + 2 ≤ s.size) → ∃ t : Int, Says (fun k => furrowref4_sign.j1 k b x d) t ∧ (t = 0 ∨ t = 1 ∨ (t = 2 ∧ i + 2 ≤ s.size)) := by
    intro b x d hb
    suffices h : ∃ t : Int, (∀ k, furrowref4_sign.j1 (k + 1) b x d = some t) ∧ (t = 0 ∨ t = 1 ∨ (t = 2 ∧ i + 2 ≤ s.size)) by
      obtain ⟨t, h1, h2⟩ := h
      exact ⟨t, .step (g := fun _ => some t) h1 .now, h2⟩
    simp only [furrowref4_sign.j1]
    cases b with
    | true =>
      have hb := hb rfl
      repeat' split
      all_goals first | exact ⟨2, fun _ => rfl, by omega⟩ | exact ⟨1, fun _ => rfl, by omega⟩ | exact ⟨0, fun _ => rfl, by omega⟩
    | false =>
      repeat' split
      all_goals first | exact ⟨1, fun _ => rfl, by omega⟩ | exact ⟨0, fun _ => rfl, by omega⟩ | contradiction
  have j0 : ∀ b : Bool, (b = true → i + 2 ≤ s.size) → ∃ t : Int, Says (fun k => furrowref4_sign.j0 k s (i : Int) b) t ∧ (t = 0 ∨ t = 1 ∨ (t = 2 ∧ i + 2 ≤ s.size)) := by
    intro b hb
    have q : ∀ d : Bool, ∃ t : Int, Says (fun k => furrowref4_sign.j1 k b (bt s i) d) t ∧ (t = 0 ∨ t = 1 ∨ (t = 2 ∧ i + 2 ≤ s.size)) := fun d => j1 b _ d hb
    suffices h : ∃ d, ∀ k, furrowref4_sign.j0 (k + 1) s (i : Int) b = furrowref4_sign.j1 k b (bt s i) d by
      obtain ⟨d, hd⟩ := h
      obtain ⟨t, h1, h2⟩ := q d
      exact ⟨t, .step hd h1, h2⟩
    simp only [furrowref4_sign.j0]
    simp only [show ((0 : Int) ≤ i) = True from eq_true (by omega), show ((i : Int) < s.size) = True from eq_true (by omega), if_true]
    repeat' split
    all_goals exact ⟨_, fun _ => rfl⟩
  unfold furrowref4_sign.f
  rw [wnext hi (by omega)]
  by_cases h : ((i + 1 : Nat) : Int) < s.size
  · obtain ⟨t, h1, h2⟩ := j0 ((bt s ((i + 1 : Nat) : Int)) == 61) (fun _ => by omega)
    exact ⟨t, .pos h (.pos (by omega) h1), h2⟩
  · obtain ⟨t, h1, h2⟩ := j0 false (fun h => by cases h)
    exact ⟨t, .neg h h1, h2⟩
theorem toks_tot (s : ByteArray) (hs : s.size ≤ 40) : ∀ (n i : Nat) (acc : List S101), i + n = s.size → acc.length ≤ i → Tot (fun k => furrowref4_Toks.l0 k s acc (i : Int)) := by
  intro n
  induction n using Nat.strongRecOn with
  | _ n ih =>
  intro i acc hi ha
  have go : ∀ (j : Nat) (acc' : List S101), i < j → j ≤ s.size → acc'.length ≤ j → Tot (fun k => furrowref4_Toks.l0 k s acc' (j : Int)) := fun j acc' h1 h2 h3 => ih (s.size - j) (by omega) j acc' (by omega) h3
  have j3 : ∀ j : Nat, i < j → j ≤ s.size → Tot (fun k => furrowref4_Toks.j3 k s acc (j : Int) (i : Int)) := fun j h1 h2 =>
    .step (fun k => furrowref4_Toks.j3.eq_2 ..) (.pos (by omega) (.pos (by omega) (.pos (by omega) (.bind (.eq (fun k => furrowref4_IsKey.f.eq_1 ..) (iskey_tot _ _ (by decide) 8 0 (by decide))) fun b _ =>
      .ite (fun _ => .ite (fun _ => .eq (fun k => by rw [furrowref4_At.f]; rfl) (.now _)) fun _ => .pos (by omega) (go j _ h1 h2 (by simp; omega)))
        fun _ => .ite (fun _ => .eq (fun k => by rw [furrowref4_At.f]; rfl) (.now _)) fun _ => .pos (by omega) (go j _ h1 h2 (by simp; omega))))))
  have j5 : ∀ j : Nat, i < j → j ≤ s.size → Tot (fun k => furrowref4_Toks.j5 k s acc (j : Int) (i : Int)) := fun j h1 h2 =>
    .step (fun k => furrowref4_Toks.j5.eq_2 ..) (.pos (by omega) (.pos (by omega) (.pos (by omega) (.bind (.eq (fun k => furrowref4_number.f.eq_1 ..) (number_tot _ (by rw [ByteArray.size_extract]; omega) _ 0 _ (Nat.zero_add _))) fun b _ =>
      .ite (fun _ => .ite (fun h => .pos (by omega) (by
        obtain ⟨c, hc⟩ := letter_tot (bt s (j : Int))
        rw [hc]
        exact .ite (fun _ => .eq (fun k => by rw [furrowref4_At.f]; rfl) (.now _)) fun _ => .pos (by omega) (go j _ h1 h2 (by simp; omega))))
        fun _ => .pos (by omega) (go j _ h1 h2 (by simp; omega)))
        fun _ => .eq (fun k => by rw [furrowref4_At.f]; rfl) (.now _)))))
  have l1 : ∀ (m j : Nat), j + m = s.size → i < j → Tot (fun k => furrowref4_Toks.l1 k s acc (j : Int) (i : Int)) := by
    intro m
    induction m with
    | zero => intro j h1 h2; exact .step (fun k => furrowref4_Toks.l1.eq_2 ..) (.neg (by omega) (j3 j h2 (by omega)))
    | succ m ihm =>
      intro j h1 h2
      refine .step (fun k => furrowref4_Toks.l1.eq_2 ..) (.pos (by omega) (.pos (by omega) ?_))
      obtain ⟨c, hc⟩ := behind_tot (bt s (j : Int))
      rw [hc, wnext (n := 40) (by omega) (by omega)]
      exact .ite (fun _ => ihm (j + 1) (by omega) (by omega)) fun _ => j3 j h2 (by omega)
  have l2 : ∀ (m j : Nat), j + m = s.size → i < j → Tot (fun k => furrowref4_Toks.l2 k s acc (j : Int) (i : Int)) := by
    intro m
    induction m with
    | zero => intro j h1 h2; exact .step (fun k => furrowref4_Toks.l2.eq_2 ..) (.neg (by omega) (j5 j h2 (by omega)))
    | succ m ihm =>
      intro j h1 h2
      refine .step (fun k => furrowref4_Toks.l2.eq_2 ..) (.pos (by omega) (.pos (by omega) ?_))
      obtain ⟨c, hc⟩ := digit_tot (bt s (j : Int))
      rw [hc, wnext (n := 40) (by omega) (by omega)]
      exact .ite (fun _ => ihm (j + 1) (by omega) (by omega)) fun _ => j5 j h2 (by omega)
  refine .step (fun k => furrowref4_Toks.l0.eq_2 ..) (.ite (fun hlt => .pos (by omega) ?_) fun _ => .now _)
  have q : ∀ b : Bool, Tot (fun k => furrowref4_Toks.j1 k s acc (i : Int) (i : Int) b) := by
    intro b
    refine .step (fun k => furrowref4_Toks.j1.eq_2 ..) (.ite (fun _ => ?_) fun _ => .pos (by omega) (.pos (by omega) ?_))
    · rw [wnext (n := 40) (by omega) (by omega)]; exact go (i + 1) acc (by omega) (by omega) (by omega)
    obtain ⟨c, hc⟩ := letter_tot (bt s (i : Int))
    rw [hc]
    refine .ite (fun hcc => ?_) fun _ => ?_
    · refine .step (fun k => furrowref4_Toks.l1.eq_2 ..) (.pos (by omega) (.pos (by omega) ?_))
      rw [behind_letter (by rw [hc, hcc]), wnext (n := 40) (by omega) (by omega)]
      exact l1 (s.size - (i + 1)) (i + 1) (by omega) (by omega)
    obtain ⟨d, hd⟩ := digit_tot (bt s (i : Int))
    rw [hd]
    refine .ite (fun hdd => ?_) fun _ => ?_
    · refine .step (fun k => furrowref4_Toks.l2.eq_2 ..) (.pos (by omega) (.pos (by omega) ?_))
      rw [hd, wnext (n := 40) (by omega) (by omega)]
      exact .pos hdd (l2 (s.size - (i + 1)) (i + 1) (by omega) (by omega))
    obtain ⟨t, ht, ho⟩ := sign_tot s hs i (by omega)
    refine .bind ⟨t, ht⟩ fun t' ht' => ?_
    obtain rfl := ht.one ht'
    refine .ite (fun _ => .eq (fun k => by rw [furrowref4_At.f]; rfl) (.now _)) fun hne => ?_
    obtain ⟨u, hu, hu1, hu2⟩ : ∃ u : Nat, wrap64 ((i : Int) + t) = (u : Int) ∧ i < u ∧ u ≤ s.size := by
      rcases ho with h | h | ⟨h, h'⟩
      · exact absurd h hne
      · exact ⟨i + 1, by rw [h]; exact wnext (n := 40) (by omega) (by omega), by omega, by omega⟩
      · exact ⟨i + 2, by rw [h, w64 (by omega)]; omega, by omega, by omega⟩
    rw [hu]
    exact .pos (by omega) (.pos (by omega) (.pos (by omega) (.pos (by omega) (go u _ hu1 hu2 (by simp; omega)))))
  exact .ite (fun _ => q _) fun _ => q _
theorem isname_tot (s : ByteArray) (hs : s.size ≤ 40) : Tot (fun k => furrowref4_IsName.f k s) := by
  refine .eq (fun k => furrowref4_IsName.f.eq_1 ..) (.bind (.eq (fun k => furrowref4_Toks.f.eq_1 ..) (toks_tot s hs s.size 0 [] (by omega) (by simp))) fun r _ => ?_)
  exact .ite (fun _ => .ite (fun _ => .pos (by omega) (.ite (fun _ => .now _) fun _ => .now _)) fun _ => .now _) fun _ => .now _

theorem getD_mem {α : Type} {l : List α} {d : α} {i : Nat} (h : i < l.length) : l.getD i d ∈ l := by
  rw [List.getD_eq_getElem?_getD, List.getElem?_eq_getElem h]; exact List.getElem_mem h
theorem getD_old {α : Type} {l : List α} {d x : α} {i : Nat} (h : i < l.length) : (l ++ [x]).getD i d = l.getD i d := by
  rw [List.getD_eq_getElem?_getD, List.getD_eq_getElem?_getD, List.getElem?_append_left h]
theorem getD_new {α : Type} {l : List α} {d x : α} : (l ++ [x]).getD l.length d = x := by
  rw [List.getD_eq_getElem?_getD, List.getElem?_append_right (Nat.le_refl _)]; simp
inductive Rel : S24 → S30 → Prop
  | mk (x : S24) (y : S30) (e0 : y.f0 = x.f0) (e1 : y.f1 = x.f1) (e2 : y.f2 = x.f2) (el : y.f3.length = x.f3.length) (en : x.f3.length ≤ 2513169434843) (ek : ∀ i : Nat, i < x.f3.length → Rel (x.f3.getD i z24) (y.f3.getD i z30)) : Rel x y
theorem of_spec (x : S24) (hx : GE x) : ∃ y, Rel x y ∧ Says (fun k => furrowlaw5_Of.f k x.f0 x.f1 x.f2 x.f3) (y.f0, y.f1, y.f2, y.f3) := by
  induction hx with
  | mk x h1 h2 h3 h4 h5 ih =>
    have hn : x.f3.length ≤ 2513169434843 := by omega
    have loop : ∀ (n : Nat) (acc : List S30), acc.length + n = x.f3.length → (∀ j, j < acc.length → Rel (x.f3.getD j z24) (acc.getD j z30)) → ∃ l : List S30, l.length = x.f3.length ∧ (∀ j, j < x.f3.length → Rel (x.f3.getD j z24) (l.getD j z30)) ∧ Says (fun k => furrowlaw5_Of.l0 k (acc.length : Int) x.f0 x.f1 x.f2 x.f3 x.f0 x.f1 x.f2 acc) (x.f0, x.f1, x.f2, l) := by
      intro n
      induction n with
      | zero => intro acc ha hr; exact ⟨acc, ha, fun j hj => hr j (by omega), .step (fun k => furrowlaw5_Of.l0.eq_2 ..) (.neg (by omega) .now)⟩
      | succ n ihn =>
        intro acc ha hr
        obtain ⟨y, hy, sy⟩ := ih (x.f3.getD acc.length z24) (getD_mem (by omega))
        obtain ⟨l, hl, hj, sl⟩ := ihn (acc ++ [y]) (by simp; omega) (fun j hj => by
          by_cases z : j < acc.length
          · rw [getD_old z]; exact hr j z
          · obtain rfl : j = acc.length := by simp at hj; omega
            rw [getD_new]; exact hy)
        refine ⟨l, hl, hj, .step (fun k => furrowlaw5_Of.l0.eq_2 ..) (.pos (by omega) (.pos (by omega) (.bind sy (.pos (by omega) ?_))))⟩
        rw [wnext (n := x.f3.length) (by omega) (by omega)]
        rw [show (acc ++ [y]).length = acc.length + 1 by simp] at sl
        cases y; exact sl
    obtain ⟨l, hl, hj, sl⟩ := loop x.f3.length [] (by simp) (fun j hj => by simp at hj)
    exact ⟨⟨x.f0, x.f1, x.f2, l⟩, .mk _ _ rfl rfl rfl hl hn hj, .step (fun k => furrowlaw5_Of.f.eq_2 ..) sl⟩
inductive FewT : S24 → Prop
  | mk (x : S24) (h : x.f2.size ≤ 40) (hk : ∀ i : Nat, i < x.f3.length → FewT (x.f3.getD i z24)) : FewT x
theorem budget_spec (x : S24) (hx : GE x) : ∀ a b : Int, ∃ v : Int, Says (fun k => furrowlaw5_budget.f k x.f0 x.f1 x.f2 x.f3 a b) v ∧ (0 < v → FewT x) := by
  induction hx with
  | mk x h1 h2 h3 h4 h5 ih =>
    have hn : x.f3.length ≤ 2513169434843 := by omega
    intro a b
    have loop : ∀ (n i : Nat) (t : Int), i + n = x.f3.length → (∀ j, j < i → FewT (x.f3.getD j z24)) → ∃ v : Int, Says (fun k => furrowlaw5_budget.l0 k a t (i : Int) x.f0 x.f1 x.f2 x.f3) v ∧ (0 < v → ∀ j, j < x.f3.length → FewT (x.f3.getD j z24)) := by
      intro n
      induction n with
      | zero => intro i t hi hr; exact ⟨t, .step (fun k => furrowlaw5_budget.l0.eq_2 ..) (.neg (by omega) .now), fun _ j hj => hr j (by omega)⟩
      | succ n ihn =>
        intro i t hi hr
        by_cases ht : t > 0
        · obtain ⟨v, hv, hf⟩ := ih (x.f3.getD i z24) (getD_mem (by omega)) (wrap64 (a - 1)) t
          by_cases hp : 0 < v
          · obtain ⟨u, hu, hg⟩ := ihn (i + 1) v (by omega) (fun j hj => by
              by_cases z : j < i
              · exact hr j z
              · obtain rfl : j = i := by omega
                exact hf hp)
            refine ⟨u, .step (fun k => furrowlaw5_budget.l0.eq_2 ..) (.pos (by omega) (.pos ht (.pos (by omega) (.bind hv ?_)))), hg⟩
            rw [wnext (n := x.f3.length) (by omega) (by omega)]; exact hu
          · refine ⟨v, .step (fun k => furrowlaw5_budget.l0.eq_2 ..) (.pos (by omega) (.pos ht (.pos (by omega) (.bind hv ?_)))), fun h => absurd h hp⟩
            rw [wnext (n := x.f3.length) (by omega) (by omega)]
            refine .step (fun k => furrowlaw5_budget.l0.eq_2 ..) ?_
            by_cases z : ((i + 1 : Nat) : Int) < (x.f3.length : Int)
            · exact .pos z (.neg hp .now)
            · exact .neg z .now
        · exact ⟨t, .step (fun k => furrowlaw5_budget.l0.eq_2 ..) (.pos (by omega) (.neg ht .now)), fun h => absurd h ht⟩
    have j0 : ∀ c : Bool, (c = false → x.f2.size ≤ 40) → ∃ v : Int, Says (fun k => furrowlaw5_budget.j0 k a b c x.f0 x.f1 x.f2 x.f3) v ∧ (0 < v → FewT x) := by
      intro c hc
      cases c with
      | true => exact ⟨0, .step (fun k => furrowlaw5_budget.j0.eq_2 ..) (.pos rfl .now), fun h => by omega⟩
      | false =>
        obtain ⟨v, hv, hf⟩ := loop x.f3.length 0 (wrap64 (b - 1)) (by omega) (fun j hj => by omega)
        exact ⟨v, .step (fun k => furrowlaw5_budget.j0.eq_2 ..) (.neg (by simp) hv), fun h => .mk x (hc rfl) (hf h)⟩
    by_cases c1 : b ≤ 0
    · obtain ⟨v, hv, hf⟩ := j0 true (fun h => by cases h)
      exact ⟨v, .step (fun k => furrowlaw5_budget.f.eq_2 ..) (.pos c1 hv), hf⟩
    by_cases c2 : a ≤ 0
    · obtain ⟨v, hv, hf⟩ := j0 true (fun h => by cases h)
      exact ⟨v, .step (fun k => furrowlaw5_budget.f.eq_2 ..) (.neg c1 (.pos c2 hv)), hf⟩
    by_cases c3 : (x.f3.length : Int) > 8
    · obtain ⟨v, hv, hf⟩ := j0 true (fun h => by cases h)
      exact ⟨v, .step (fun k => furrowlaw5_budget.f.eq_2 ..) (.neg c1 (.neg c2 (.pos c3 hv))), hf⟩
    · obtain ⟨v, hv, hf⟩ := j0 (decide ((x.f2.size : Int) > 40)) (fun h => by have := of_decide_eq_false h; omega)
      exact ⟨v, .step (fun k => furrowlaw5_budget.f.eq_2 ..) (.neg c1 (.neg c2 (.neg c3 hv))), hf⟩
theorem few_spec (x : S24) (hx : GE x) : ∃ b : Bool, Says (fun k => furrowlaw5_Few.f k x.f0 x.f1 x.f2 x.f3) b ∧ (b = true → FewT x) := by
  obtain ⟨v, hv, hf⟩ := budget_spec x hx 60 300
  exact ⟨decide (v > 0), .eq (fun k => furrowlaw5_Few.f.eq_1 ..) (.bind hv .now), fun h => hf (of_decide_eq_true h)⟩
inductive R1 : S30 → Prop
  | mk (y : S30) (h : (y.f0 = 1 ∧ y.f3.length = 0) ∨ (y.f0 = 2 ∧ y.f3.length = 0) ∨ (y.f0 = 3 ∧ y.f3.length ≤ 4) ∨ (y.f0 = 4 ∧ y.f3.length = 1) ∨ ((y.f0 = 5 ∨ y.f0 = 6 ∨ y.f0 = 7 ∨ y.f0 = 8) ∧ y.f3.length = 2)) (hk : ∀ i : Nat, i < y.f3.length → R1 (y.f3.getD i z30)) : R1 y
theorem right_spec {x : S24} {y : S30} (hr : Rel x y) : FewT x → ∃ b : Bool, Says (fun k => furrowlaw5_Right.f k y.f0 y.f1 y.f2 y.f3) b ∧ (b = true → R1 y) := by
  induction hr with
  | mk x y e0 e1 e2 el en ek ih =>
    intro hf
    obtain ⟨_, hs, hk⟩ := hf
    have loop : ∀ (n i : Nat), i + n = y.f3.length → (∀ j, j < i → R1 (y.f3.getD j z30)) → ∃ b : Bool, Says (fun k => furrowlaw5_Right.l0 k (y.f3.length : Int) (i : Int) y.f0 y.f1 y.f2 y.f3) b ∧ (b = true → ∀ j, j < y.f3.length → R1 (y.f3.getD j z30)) := by
      intro n
      induction n with
      | zero => intro i hi hr; exact ⟨true, .step (fun k => furrowlaw5_Right.l0.eq_2 ..) (.neg (by omega) .now), fun _ j hj => hr j (by omega)⟩
      | succ n ihn =>
        intro i hi hr
        obtain ⟨b, hb, hp⟩ := ih i (by omega) (hk i (by omega))
        cases b with
        | false => exact ⟨false, .step (fun k => furrowlaw5_Right.l0.eq_2 ..) (.pos (by omega) (.pos (by omega) (.pos (by omega) (.bind hb (.neg (by simp) .now))))), fun h => by cases h⟩
        | true =>
          obtain ⟨u, hu, hg⟩ := ihn (i + 1) (by omega) (fun j hj => by
            by_cases z : j < i
            · exact hr j z
            · obtain rfl : j = i := by omega
              exact hp rfl)
          refine ⟨u, .step (fun k => furrowlaw5_Right.l0.eq_2 ..) (.pos (by omega) (.pos (by omega) (.pos (by omega) (.bind hb (.pos rfl ?_))))), hg⟩
          rw [wnext (n := y.f3.length) (by omega) (by omega)]; exact hu
    have j1 : ∀ c : Bool, ∃ b : Bool, Says (fun k => furrowlaw5_Right.j1 k (y.f3.length : Int) c y.f0 y.f1 y.f2 y.f3) b ∧ (b = true → ∀ j, j < y.f3.length → R1 (y.f3.getD j z30)) := by
      intro c
      cases c with
      | true => exact ⟨false, .step (fun k => furrowlaw5_Right.j1.eq_2 ..) (.pos rfl .now), fun h => by cases h⟩
      | false =>
        obtain ⟨b, hb, hp⟩ := loop y.f3.length 0 (by omega) (fun j hj => by omega)
        exact ⟨b, .step (fun k => furrowlaw5_Right.j1.eq_2 ..) (.neg (by simp) hb), hp⟩
    have j0 : ∀ n : Int, ∃ b : Bool, Says (fun k => furrowlaw5_Right.j0 k n y.f0 y.f1 y.f2 y.f3) b ∧ (b = true → (y.f3.length : Int) = n ∧ n ≠ 0 ∧ ∀ j, j < y.f3.length → R1 (y.f3.getD j z30)) := by
      intro n
      have bad : ∀ m : Int, Says (fun k => furrowlaw5_Right.j1 k m true y.f0 y.f1 y.f2 y.f3) false := fun m => .step (fun k => furrowlaw5_Right.j1.eq_2 ..) (.pos rfl .now)
      by_cases c1 : n = 0
      · exact ⟨false, .step (fun k => furrowlaw5_Right.j0.eq_2 ..) (.pos c1 (bad _)), fun h => by cases h⟩
      by_cases c2 : (y.f3.length : Int) = n
      · subst c2
        by_cases c3 : y.f1 = 0
        · by_cases c4 : y.f0 = 3
          · obtain ⟨b, hb, hp⟩ := j1 false
            exact ⟨b, .step (fun k => furrowlaw5_Right.j0.eq_2 ..) (.neg c1 (.pos rfl (.pos c3 (.pos c4 hb)))), fun h => ⟨rfl, c1, hp h⟩⟩
          · obtain ⟨b, hb, hp⟩ := j1 (y.f2.toList != ([] : List UInt8))
            exact ⟨b, .step (fun k => furrowlaw5_Right.j0.eq_2 ..) (.neg c1 (.pos rfl (.pos c3 (.neg c4 hb)))), fun h => ⟨rfl, c1, hp h⟩⟩
        · exact ⟨false, .step (fun k => furrowlaw5_Right.j0.eq_2 ..) (.neg c1 (.pos rfl (.neg c3 (bad _)))), fun h => by cases h⟩
      · exact ⟨false, .step (fun k => furrowlaw5_Right.j0.eq_2 ..) (.neg c1 (.neg c2 (bad _))), fun h => by cases h⟩
    have kids0 : y.f3.length = 0 → ∀ i, i < y.f3.length → R1 (y.f3.getD i z30) := fun h i hi => by omega
    have name := isname_tot y.f2 (by rw [e2]; exact hs)
    by_cases k1 : y.f0 = 1
    · by_cases c : y.f2.toList = ([] : List UInt8)
      · refine ⟨((y.f3.length : Int) == 0), .step (fun k => furrowlaw5_Right.f.eq_2 ..) (.pos k1 (.pos c .now)), fun h => ?_⟩
        have h : (y.f3.length : Int) = 0 := by simpa using h
        exact .mk y (.inl ⟨k1, by omega⟩) (kids0 (by omega))
      · exact ⟨false, .step (fun k => furrowlaw5_Right.f.eq_2 ..) (.pos k1 (.neg c .now)), fun h => by cases h⟩
    by_cases k2 : y.f0 = 2
    · by_cases c : y.f1 = 0
      · by_cases d : (y.f3.length : Int) = 0
        · obtain ⟨b, hb⟩ := name
          exact ⟨b, .step (fun k => furrowlaw5_Right.f.eq_2 ..) (.neg k1 (.pos k2 (.pos c (.pos d (.bind hb .now))))), fun _ => .mk y (.inr (.inl ⟨k2, by omega⟩)) (kids0 (by omega))⟩
        · exact ⟨false, .step (fun k => furrowlaw5_Right.f.eq_2 ..) (.neg k1 (.pos k2 (.pos c (.neg d .now)))), fun h => by cases h⟩
      · exact ⟨false, .step (fun k => furrowlaw5_Right.f.eq_2 ..) (.neg k1 (.pos k2 (.neg c .now))), fun h => by cases h⟩
    by_cases k3 : y.f0 = 3
    · by_cases c : y.f1 = 0
      · obtain ⟨b, hb⟩ := name
        cases b with
        | false => exact ⟨false, .step (fun k => furrowlaw5_Right.f.eq_2 ..) (.neg k1 (.neg k2 (.pos k3 (.pos c (.bind hb (.neg (by simp) .now)))))), fun h => by cases h⟩
        | true =>
          by_cases d : (y.f3.length : Int) < 1
          · exact ⟨false, .step (fun k => furrowlaw5_Right.f.eq_2 ..) (.neg k1 (.neg k2 (.pos k3 (.pos c (.bind hb (.pos rfl (.pos d .now))))))), fun h => by cases h⟩
          by_cases e : (y.f3.length : Int) > 4
          · exact ⟨false, .step (fun k => furrowlaw5_Right.f.eq_2 ..) (.neg k1 (.neg k2 (.pos k3 (.pos c (.bind hb (.pos rfl (.neg d (.pos e .now)))))))), fun h => by cases h⟩
          obtain ⟨b, hb', hp⟩ := j0 (y.f3.length : Int)
          exact ⟨b, .step (fun k => furrowlaw5_Right.f.eq_2 ..) (.neg k1 (.neg k2 (.pos k3 (.pos c (.bind hb (.pos rfl (.neg d (.neg e hb')))))))), fun h => .mk y (.inr (.inr (.inl ⟨k3, by omega⟩))) (hp h).2.2⟩
      · exact ⟨false, .step (fun k => furrowlaw5_Right.f.eq_2 ..) (.neg k1 (.neg k2 (.pos k3 (.neg c .now)))), fun h => by cases h⟩
    by_cases k4 : y.f0 = 4
    · obtain ⟨b, hb, hp⟩ := j0 1
      exact ⟨b, .step (fun k => furrowlaw5_Right.f.eq_2 ..) (.neg k1 (.neg k2 (.neg k3 (.pos k4 hb)))), fun h => .mk y (.inr (.inr (.inr (.inl ⟨k4, by have := (hp h).1; omega⟩)))) (hp h).2.2⟩
    have two : ∀ h2 : (y.f0 = 5 ∨ y.f0 = 6 ∨ y.f0 = 7 ∨ y.f0 = 8), ∀ b : Bool, (b = true → (y.f3.length : Int) = 2 ∧ (2 : Int) ≠ 0 ∧ ∀ j, j < y.f3.length → R1 (y.f3.getD j z30)) → b = true → R1 y := fun h2 b hp h => .mk y (.inr (.inr (.inr (.inr ⟨h2, by have := (hp h).1; omega⟩)))) (hp h).2.2
    by_cases k5 : y.f0 = 5
    · obtain ⟨b, hb, hp⟩ := j0 2
      exact ⟨b, .step (fun k => furrowlaw5_Right.f.eq_2 ..) (.neg k1 (.neg k2 (.neg k3 (.neg k4 (.pos k5 hb))))), two (by omega) b hp⟩
    by_cases k6 : y.f0 = 6
    · obtain ⟨b, hb, hp⟩ := j0 2
      exact ⟨b, .step (fun k => furrowlaw5_Right.f.eq_2 ..) (.neg k1 (.neg k2 (.neg k3 (.neg k4 (.neg k5 (.pos k6 hb)))))), two (by omega) b hp⟩
    by_cases k7 : y.f0 = 7
    · obtain ⟨b, hb, hp⟩ := j0 2
      exact ⟨b, .step (fun k => furrowlaw5_Right.f.eq_2 ..) (.neg k1 (.neg k2 (.neg k3 (.neg k4 (.neg k5 (.neg k6 (.pos k7 hb))))))), two (by omega) b hp⟩
    by_cases k8 : y.f0 = 8
    · obtain ⟨b, hb, hp⟩ := j0 2
      exact ⟨b, .step (fun k => furrowlaw5_Right.f.eq_2 ..) (.neg k1 (.neg k2 (.neg k3 (.neg k4 (.neg k5 (.neg k6 (.neg k7 (.pos k8 hb)))))))), two (by omega) b hp⟩
    obtain ⟨b, hb, hp⟩ := j0 0
    exact ⟨b, .step (fun k => furrowlaw5_Right.f.eq_2 ..) (.neg k1 (.neg k2 (.neg k3 (.neg k4 (.neg k5 (.neg k6 (.neg k7 (.neg k8 hb)))))))), fun h => absurd rfl (hp h).2.1⟩

end Go.Proofs.YtnkckdbjeemjeaaGreatDoor.Pure
