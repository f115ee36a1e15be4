/- furrow: the words of a short text are always told; no conditions. -/
import Derived.Test.YtmhkijidnpihmaaDoorXx8
import Derived.Test.YtmhkijidnpihmaaDoorXx9
import Derived.Laws.Bits64
namespace Go.Proofs.YtmhkijidnpihmaaDoor.Pure
open Go.RowKit Go.Proofs.YtmhkijidnpihmaaDoor.X Go.Proofs.YtmhkijidnpihmaaDoor.Flt Go.Proofs.YtmhkijidnpihmaaDoor.H Go.Proofs.YtmhkijidnpihmaaDoorW.PrintWords Go.Proofs.YtmhkijidnpihmaaDoorW.PrintLast Go.Proofs.YtmhkijidnpihmaaDoorW.PrintMore
set_option linter.unusedVariables false
set_option linter.unusedSimpArgs false
/-! what is answered from some fuel on -/
theorem w64 {a : Int} (h : -9223372036854775808 ≤ a ∧ a ≤ 9223372036854775807) : wrap64 a = a := by unfold wrap64; omega
theorem wnext {i n : Nat} (h : i < n) (hn : n ≤ 4611686018427387904) : wrap64 ((i : Int) + 1) = ((i + 1 : Nat) : Int) := by rw [w64 (by omega)]; omega
def Says {α : Type} (f : Nat → Option α) (v : α) : Prop := ∃ K, ∀ k, K ≤ k → f k = some v
section
variable {α β : Type} {f g : Nat → Option α} {v : α} {c : Prop} [Decidable c]
theorem Says.bind {h : Nat → α → Option β} {r : β} (hf : Says f v) (hg : Says (fun k => h k v) r) : Says (fun k => (f k).bind (h k)) r := by
  obtain ⟨K, hK⟩ := hf; obtain ⟨L, hL⟩ := hg
  exact ⟨max K L, fun k hk => by show (f k).bind (h k) = _; rw [hK k (by omega)]; exact hL k (by omega)⟩
theorem Says.step (h : ∀ k, f (k + 1) = g k) (hg : Says g v) : Says f v := by
  obtain ⟨K, hK⟩ := hg
  exact ⟨K + 1, fun k hk => by obtain ⟨k, rfl⟩ : ∃ m, k = m + 1 := ⟨k - 1, by omega⟩; rw [h]; exact hK k (by omega)⟩
theorem Says.eq (h : ∀ k, f k = g k) (hg : Says g v) : Says f v := by
  obtain ⟨K, hK⟩ := hg
  exact ⟨K, fun k hk => (h k).trans (hK k hk)⟩
theorem Says.now : Says (fun _ => some v) v := ⟨0, fun _ _ => rfl⟩
theorem Says.pos (hc : c) (h : Says f v) : Says (fun k => if c then f k else g k) v := by
  obtain ⟨K, hK⟩ := h
  exact ⟨K, fun k hk => by show (if c then f k else g k) = _; rw [if_pos hc]; exact hK k hk⟩
theorem Says.neg (hc : ¬c) (h : Says g v) : Says (fun k => if c then f k else g k) v := by
  obtain ⟨K, hK⟩ := h
  exact ⟨K, fun k hk => by show (if c then f k else g k) = _; rw [if_neg hc]; exact hK k hk⟩
theorem Says.one {u : α} (h : Says f v) (h' : Says f u) : v = u := by
  obtain ⟨K, hK⟩ := h; obtain ⟨L, hL⟩ := h'
  have a := hK (max K L) (by omega); rw [hL (max K L) (by omega)] at a
  exact (Option.some.inj a).symm
theorem Says.more (h : ∀ k, LeO (f k) (f (k + 1))) {K : Nat} (hK : f K = some v) : Says f v := by
  refine ⟨K, fun k hk => ?_⟩
  obtain ⟨j, rfl⟩ : ∃ j, k = K + j := ⟨k - K, by omega⟩
  clear hk
  induction j with
  | zero => exact hK
  | succ j ih => exact h _ _ ih
def Tot (f : Nat → Option α) : Prop := ∃ v, Says f v
theorem Tot.step (h : ∀ k, f (k + 1) = g k) (hg : Tot g) : Tot f := hg.elim fun v hv => ⟨v, hv.step h⟩
theorem Tot.eq (h : ∀ k, f k = g k) (hg : Tot g) : Tot f := hg.elim fun v hv => ⟨v, hv.eq h⟩
theorem Tot.bind {h : Nat → α → Option β} (hf : Tot f) (hg : ∀ v, Says f v → Tot (fun k => h k v)) : Tot (fun k => (f k).bind (h k)) := by
  obtain ⟨v, hv⟩ := hf; obtain ⟨r, hr⟩ := hg v hv
  exact ⟨r, hv.bind hr⟩
theorem Tot.now (v : α) : Tot (fun _ => some v) := ⟨v, .now⟩
theorem Tot.pos (hc : c) (h : Tot f) : Tot (fun k => if c then f k else g k) := h.elim fun v hv => ⟨v, hv.pos hc⟩
theorem Tot.neg (hc : ¬c) (h : Tot g) : Tot (fun k => if c then f k else g k) := h.elim fun v hv => ⟨v, hv.neg hc⟩
theorem Tot.ite (hf : c → Tot f) (hg : ¬c → Tot g) : Tot (fun k => if c then f k else g k) := by
  by_cases h : c
  · exact .pos h (hf h)
  · exact .neg h (hg h)
end
/-! the words of a text of at most 40 bytes -/
theorem letter_tot (a : Int) : ∃ b, furrowref4_letter.f a = some b := by unfold furrowref4_letter.f; split <;> exact ⟨_, rfl⟩
theorem digit_tot (a : Int) : ∃ b, furrowref4_digit.f a = some b := by unfold furrowref4_digit.f; split <;> exact ⟨_, rfl⟩
theorem behind_tot (a : Int) : ∃ b, furrowref4_behind.f a = some b := by
  unfold furrowref4_behind.f
  obtain ⟨b, h⟩ := letter_tot a; obtain ⟨d, hd⟩ := digit_tot a
  rw [h, hd]
  cases b <;> cases d <;> exact ⟨_, rfl⟩
theorem behind_letter {a : Int} (h : furrowref4_letter.f a = some true) : furrowref4_behind.f a = some true := by unfold furrowref4_behind.f; rw [h]; rfl
theorem iskey_tot (s : ByteArray) (l : List ByteArray) (hl : l.length ≤ 8) : ∀ (n i : Nat), i + n = l.length → Tot (fun k => furrowref4_IsKey.l0 k s l (i : Int))
  | 0, i, h => .step (fun k => furrowref4_IsKey.l0.eq_2 ..) (.neg (by omega) (.now _))
  | n + 1, i, h => .step (fun k => furrowref4_IsKey.l0.eq_2 ..) (.pos (by omega) (.pos (by omega) (.ite (fun _ => .now _) fun _ => by
      rw [wnext (n := 8) (by omega) (by omega)]; exact iskey_tot s l hl n (i + 1) (by omega))))
theorem number_tot (s : ByteArray) (hs : s.size ≤ 40) : ∀ (n i : Nat) (a : Int), i + n = s.size → Tot (fun k => furrowref4_number.l0 k s a (i : Int))
  | 0, i, a, h => .step (fun k => furrowref4_number.l0.eq_2 ..) (.neg (by omega) (.now _))
  | n + 1, i, a, h => .step (fun k => furrowref4_number.l0.eq_2 ..) (.pos (by omega) (.pos (by omega) (.ite (fun _ => .now _) fun _ => by
      rw [wnext (n := 40) (by omega) (by omega)]; exact number_tot s hs n (i + 1) _ (by omega))))
theorem sign_tot (s : ByteArray) (hs : s.size ≤ 40) (i : Nat) (hi : i < s.size) : ∃ t : Int, Says (fun k => furrowref4_sign.f k s (i : Int)) t ∧ (t = 0 ∨ t = 1 ∨ (t = 2 ∧ i + 2 ≤ s.size)) := by
  have j1 : ∀ (b : Bool) (x : Int) (d : Bool), (b = true → i + 2 ≤ s.size) → ∃ t : Int, Says (fun k => furrowref4_sign.j1 k b x d) t ∧ (t = 0 ∨ t = 1 ∨ (t = 2 ∧ i + 2 ≤ s.size)) := by
    intro b x d hb
    suffices h : ∃ t : Int, (∀ k, furrowref4_sign.j1 (k + 1) b x d = some t) ∧ (t = 0 ∨ t = 1 ∨ (t = 2 ∧ i + 2 ≤ s.size)) by
      obtain ⟨t, h1, h2⟩ := h
      exact ⟨t, .step (g := fun _ => some t) h1 .now, h2⟩
    simp only [furrowref4_sign.j1]
    cases b with
    | true =>
      have hb := hb rfl
      repeat' split
      all_goals first | exact ⟨2, fun _ => rfl, by omega⟩ | exact ⟨1, fun _ => rfl, by omega⟩ | exact ⟨0, fun _ => rfl, by omega⟩
    | false =>
      repeat' split
      all_goals first | exact ⟨1, fun _ => rfl, by omega⟩ | exact ⟨0, fun _ => rfl, by omega⟩ | contradiction
  have j0 : ∀ b : Bool, (b = true → i + 2 ≤ s.size) → ∃ t : Int, Says (fun k => furrowref4_sign.j0 k s (i : Int) b) t ∧ (t = 0 ∨ t = 1 ∨ (t = 2 ∧ i + 2 ≤ s.size)) := by
    intro b hb
    have q : ∀ d : Bool, ∃ t : Int, Says (fun k => furrowref4_sign.j1 k b (bt s i) d) t ∧ (t = 0 ∨ t = 1 ∨ (t = 2 ∧ i + 2 ≤ s.size)) := fun d => j1 b _ d hb
    suffices h : ∃ d, ∀ k, furrowref4_sign.j0 (k + 1) s (i : Int) b = furrowref4_sign.j1 k b (bt s i) d by
      obtain ⟨d, hd⟩ := h
      obtain ⟨t, h1, h2⟩ := q d
      exact ⟨t, .step hd h1, h2⟩
    simp only [furrowref4_sign.j0]
    simp only [show ((0 : Int) ≤ i) = True from eq_true (by omega), show ((i : Int) < s.size) = True from eq_true (by omega), if_true]
    repeat' split
    all_goals exact ⟨_, fun _ => rfl⟩
  unfold furrowref4_sign.f
  rw [wnext hi (by omega)]
  by_cases h : ((i + 1 : Nat) : Int) < s.size
  · obtain ⟨t, h1, h2⟩ := j0 ((bt s ((i + 1 : Nat) : Int)) == 61) (fun _ => by omega)
    exact ⟨t, .pos h (.pos (by omega) h1), h2⟩
  · obtain ⟨t, h1, h2⟩ := j0 false (fun h => by cases h)
    exact ⟨t, .neg h h1, h2⟩
theorem toks_tot (s : ByteArray) (hs : s.size ≤ 40) : ∀ (n i : Nat) (acc : List S91), i + n = s.size → acc.length ≤ i → Tot (fun k => furrowref4_Toks.l0 k s acc (i : Int)) := by
  intro n
  induction n using Nat.strongRecOn with
  | _ n ih =>
  intro i acc hi ha
  have go : ∀ (j : Nat) (acc' : List S91), i < j → j ≤ s.size → acc'.length ≤ j → Tot (fun k => furrowref4_Toks.l0 k s acc' (j : Int)) := fun j acc' h1 h2 h3 => ih (s.size - j) (by omega) j acc' (by omega) h3
  have j3 : ∀ j : Nat, i < j → j ≤ s.size → Tot (fun k => furrowref4_Toks.j3 k s acc (j : Int) (i : Int)) := fun j h1 h2 =>
    .step (fun k => furrowref4_Toks.j3.eq_2 ..) (.pos (by omega) (.pos (by omega) (.pos (by omega) (.bind (.eq (fun k => furrowref4_IsKey.f.eq_1 ..) (iskey_tot _ _ (by decide) 8 0 (by decide))) fun b _ =>
      .ite (fun _ => .ite (fun _ => .eq (fun k => by rw [furrowref4_At.f]; rfl) (.now _)) fun _ => .pos (by omega) (go j _ h1 h2 (by simp; omega)))
        fun _ => .ite (fun _ => .eq (fun k => by rw [furrowref4_At.f]; rfl) (.now _)) fun _ => .pos (by omega) (go j _ h1 h2 (by simp; omega))))))
  have j5 : ∀ j : Nat, i < j → j ≤ s.size → Tot (fun k => furrowref4_Toks.j5 k s acc (j : Int) (i : Int)) := fun j h1 h2 =>
    .step (fun k => furrowref4_Toks.j5.eq_2 ..) (.pos (by omega) (.pos (by omega) (.pos (by omega) (.bind (.eq (fun k => furrowref4_number.f.eq_1 ..) (number_tot _ (by rw [ByteArray.size_extract]; omega) _ 0 _ (Nat.zero_add _))) fun b _ =>
      .ite (fun _ => .ite (fun h => .pos (by omega) (by
        obtain ⟨c, hc⟩ := letter_tot (bt s (j : Int))
        rw [hc]
        exact .ite (fun _ => .eq (fun k => by rw [furrowref4_At.f]; rfl) (.now _)) fun _ => .pos (by omega) (go j _ h1 h2 (by simp; omega))))
        fun _ => .pos (by omega) (go j _ h1 h2 (by simp; omega)))
        fun _ => .eq (fun k => by rw [furrowref4_At.f]; rfl) (.now _)))))
  have l1 : ∀ (m j : Nat), j + m = s.size → i < j → Tot (fun k => furrowref4_Toks.l1 k s acc (j : Int) (i : Int)) := by
    intro m
    induction m with
    | zero => intro j h1 h2; exact .step (fun k => furrowref4_Toks.l1.eq_2 ..) (.neg (by omega) (j3 j h2 (by omega)))
    | succ m ihm =>
      intro j h1 h2
      refine .step (fun k => furrowref4_Toks.l1.eq_2 ..) (.pos (by omega) (.pos (by omega) ?_))
      obtain ⟨c, hc⟩ := behind_tot (bt s (j : Int))
      rw [hc, wnext (n := 40) (by omega) (by omega)]
      exact .ite (fun _ => ihm (j + 1) (by omega) (by omega)) fun _ => j3 j h2 (by omega)
  have l2 : ∀ (m j : Nat), j + m = s.size → i < j → Tot (fun k => furrowref4_Toks.l2 k s acc (j : Int) (i : Int)) := by
    intro m
    induction m with
    | zero => intro j h1 h2; exact .step (fun k => furrowref4_Toks.l2.eq_2 ..) (.neg (by omega) (j5 j h2 (by omega)))
    | succ m ihm =>
      intro j h1 h2
      refine .step (fun k => furrowref4_Toks.l2.eq_2 ..) (.pos (by omega) (.pos (by omega) ?_))
      obtain ⟨c, hc⟩ := digit_tot (bt s (j : Int))
      rw [hc, wnext (n := 40) (by omega) (by omega)]
      exact .ite (fun _ => ihm (j + 1) (by omega) (by omega)) fun _ => j5 j h2 (by omega)
  refine .step (fun k => furrowref4_Toks.l0.eq_2 ..) (.ite (fun hlt => .pos (by omega) ?_) fun _ => .now _)
  have q : ∀ b : Bool, Tot (fun k => furrowref4_Toks.j1 k s acc (i : Int) (i : Int) b) := by
    intro b
    refine .step (fun k => furrowref4_Toks.j1.eq_2 ..) (.ite (fun _ => ?_) fun _ => .pos (by omega) (.pos (by omega) ?_))
    · rw [wnext (n := 40) (by omega) (by omega)]; exact go (i + 1) acc (by omega) (by omega) (by omega)
    obtain ⟨c, hc⟩ := letter_tot (bt s (i : Int))
    rw [hc]
    refine .ite (fun hcc => ?_) fun _ => ?_
    · refine .step (fun k => furrowref4_Toks.l1.eq_2 ..) (.pos (by omega) (.pos (by omega) ?_))
      rw [behind_letter (by rw [hc, hcc]), wnext (n := 40) (by omega) (by omega)]
      exact l1 (s.size - (i + 1)) (i + 1) (by omega) (by omega)
    obtain ⟨d, hd⟩ := digit_tot (bt s (i : Int))
    rw [hd]
    refine .ite (fun hdd => ?_) fun _ => ?_
    · refine .step (fun k => furrowref4_Toks.l2.eq_2 ..) (.pos (by omega) (.pos (by omega) ?_))
      rw [hd, wnext (n := 40) (by omega) (by omega)]
      exact .pos hdd (l2 (s.size - (i + 1)) (i + 1) (by omega) (by omega))
    obtain ⟨t, ht, ho⟩ := sign_tot s hs i (by omega)
    refine .bind ⟨t, ht⟩ fun t' ht' => ?_
    obtain rfl := ht.one ht'
    refine .ite (fun _ => .eq (fun k => by rw [furrowref4_At.f]; rfl) (.now _)) fun hne => ?_
    obtain ⟨u, hu, hu1, hu2⟩ : ∃ u : Nat, wrap64 ((i : Int) + t) = (u : Int) ∧ i < u ∧ u ≤ s.size := by
      rcases ho with h | h | ⟨h, h'⟩
      · exact absurd h hne
      · exact ⟨i + 1, by rw [h]; exact wnext (n := 40) (by omega) (by omega), by omega, by omega⟩
      · exact ⟨i + 2, by rw [h, w64 (by omega)]; omega, by omega, by omega⟩
    rw [hu]
    exact .pos (by omega) (.pos (by omega) (.pos (by omega) (.pos (by omega) (go u _ hu1 hu2 (by simp; omega)))))
  exact .ite (fun _ => q _) fun _ => q _
theorem isname_tot (s : ByteArray) (hs : s.size ≤ 40) : Tot (fun k => furrowref4_IsName.f k s) := by
  refine .eq (fun k => furrowref4_IsName.f.eq_1 ..) (.bind (.eq (fun k => furrowref4_Toks.f.eq_1 ..) (toks_tot s hs s.size 0 [] (by omega) (by simp))) fun r _ => ?_)
  exact .ite (fun _ => .ite (fun _ => .pos (by omega) (.ite (fun _ => .now _) fun _ => .now _)) fun _ => .now _) fun _ => .now _

end Go.Proofs.YtmhkijidnpihmaaDoor.Pure
