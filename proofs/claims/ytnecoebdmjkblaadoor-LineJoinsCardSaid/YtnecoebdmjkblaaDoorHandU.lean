/- line.Split: strings.SplitAfterSeq's closure and the range over it, walked; no conditions. -/
import Derived.RangeFuncNested
import Derived.RangeFuncBound
import Derived.RangeFuncCalls
import Derived.RangeFuncLeaves
import Derived.Shelf.Abstract
import Derived.Shelf.RegionOpen
import Derived.WalkKit
import Derived.OwnWalkIn
import Derived.TacticsInMore
import Derived.LoopNIn
import Derived.LoopIn
import Derived.Maps.AppendAt
import Derived.Test.YtnecoebdmjkblaaDoorShelf
import Derived.Test.YtnecoebdmjkblaaDoorHandK
namespace Go.Proofs.YtnecoebdmjkblaaDoor.H
open Go.Proofs.YtnecoebdmjkblaaDoor.Flt Go.RowKit Go.Shelf Go.Proofs.YtnecoebdmjkblaaDoorW.PrintWords
attribute [local go_sem] Oper.semAt_some
set_option linter.unusedVariables false
set_option linter.unusedSimpArgs false
/-- What strings.SplitAfterSeq hands over at "\n": up to each end, and what is left. -/
def pieces : List UInt8 → List (List UInt8)
  | [] => [[]]
  | c :: r => if c = 10 then [10] :: pieces r else match pieces r with
    | [] => [[c]]
    | p :: ps => (c :: p) :: ps
theorem pieces_ne (l : List UInt8) : pieces l ≠ [] := by
  cases l with
  | nil => simp [pieces]
  | cons c r => unfold pieces; split; · simp
                split <;> simp
theorem pieces_len (l : List UInt8) : (pieces l).length ≤ l.length + 1 := by
  induction l with
  | nil => simp [pieces]
  | cons c r ih =>
    unfold pieces
    split
    · simp; omega
    · split
      · simp
      · rename_i h; rw [h] at ih; simp at ih ⊢; omega
theorem pieces_flat (l : List UInt8) : (pieces l).flatten = l := by
  induction l with
  | nil => simp [pieces]
  | cons c r ih =>
    unfold pieces
    split
    · rename_i h; subst h; simp [ih]
    · split
      · rename_i h; exact absurd h (pieces_ne r)
      · rename_i h; rw [h] at ih; simp at ih ⊢; exact ih
theorem index_none {l : List UInt8} (h : Lib.indexByte l 10 < 0) : pieces l = [l] := by
  induction l with
  | nil => rfl
  | cons c r ih =>
    unfold Lib.indexByte at h
    by_cases hc : c = 10
    · subst hc; simp at h
    · have hb : (c == 10) = false := by simpa using hc
      rw [hb] at h
      simp only [Bool.false_eq_true, if_false] at h
      have hr : Lib.indexByte r 10 < 0 := by
        split at h
        · rename_i h1; have := eq_of_beq h1; omega
        · omega
      unfold pieces
      rw [if_neg hc, ih hr]
theorem index_some {l : List UInt8} {i : Nat} (h : Lib.indexByte l 10 = (i : Int)) : i < l.length ∧ pieces l = l.take (i + 1) :: pieces (l.drop (i + 1)) := by
  induction l generalizing i with
  | nil => simp [Lib.indexByte] at h
  | cons c r ih =>
    unfold Lib.indexByte at h
    by_cases hc : c = 10
    · subst hc
      simp at h
      obtain rfl : i = 0 := by omega
      simp [pieces]
    · have hb : (c == 10) = false := by simpa using hc
      rw [hb] at h
      simp only [Bool.false_eq_true, if_false] at h
      split at h
      · omega
      · obtain ⟨j, rfl⟩ : ∃ j, i = j + 1 := ⟨i - 1, by have := Lib.indexByte_ge r 10; rename_i h1; simp at h1; omega⟩
        obtain ⟨h1, h2⟩ := ih (i := j) (by omega)
        refine ⟨by simp; omega, ?_⟩
        conv => lhs; unfold pieces
        rw [if_neg hc, h2]
        simp
/-- ..of a text. -/
def cuts (s : ByteArray) : List ByteArray := (pieces s.data.toList).map fun p => ⟨p.toArray⟩
theorem extract_take (r : ByteArray) (n : Nat) : r.extract 0 n = ⟨(r.data.toList.take n).toArray⟩ := by
  apply ByteArray.ext; apply Array.ext'; simp [ByteArray.data_extract]
theorem extract_drop (r : ByteArray) (n m : Nat) (hm : m = r.size) : r.extract n m = ⟨(r.data.toList.drop n).toArray⟩ := by
  subst hm
  have hz : r.size = r.data.toList.length := (data_length r).symm
  rw [hz]
  apply ByteArray.ext; apply Array.ext'; simp [ByteArray.data_extract]
  exact List.take_of_length_le (by rw [List.length_drop, data_length]; omega)
theorem cuts_none {r : ByteArray} (h : Lib.indexByte r.data.toList 10 < 0) : cuts r = [r] := by unfold cuts; rw [index_none h]; simp
theorem cuts_some {r : ByteArray} {i : Nat} (h : Lib.indexByte r.data.toList 10 = (i : Int)) : i < r.size ∧ cuts r = r.extract 0 (i + 1) :: cuts (r.extract (i + 1) r.size) := by
  obtain ⟨h1, h2⟩ := index_some h
  rw [data_length] at h1
  refine ⟨h1, ?_⟩
  unfold cuts
  rw [h2, extract_take, extract_drop _ _ _ rfl]
  simp
theorem box_in (n : Nat) (w : World) (s p : ByteArray) (m : Int) : CallsIn Fence.wide n Tryd.prog 34 #[.string s, .string p, .int .i64 m] w fun e w' => e = .returned (.func (.func 49) #[] #[.pointer (some ⟨w.heap.size + 1, 0, none⟩), .pointer (some ⟨w.heap.size, 0, none⟩), .pointer (some ⟨w.heap.size + 2, 0, none⟩)]) ∧
    w' = ((w.alloc (.cells #[.string s] 9)).alloc (.cells #[.string p] 9)).alloc (.cells #[.int .i64 m] 3) := by
  refine callsIn_of_wp Tryd.func34 rfl trivial ?_ rfl
  simp only [Tryd.ntmps34, List.size_toArray, List.length_cons, List.length_nil, Nat.reduceAdd, Nat.reduceSub, Array.replicate_succ, Array.replicate_zero, List.push_toArray, List.append_toArray, List.nil_append, List.cons_append]
  gi_wp2
  go_ret
  refine ⟨?_, rfl⟩
  simp
theorem seq_in (n : Nat) (w : World) (s p : ByteArray) : CallsIn Fence.wide n Tryd.prog 22 #[.string s, .string p] w fun e w' => e = .returned (.func (.func 49) #[] #[.pointer (some ⟨w.heap.size + 1, 0, none⟩), .pointer (some ⟨w.heap.size, 0, none⟩), .pointer (some ⟨w.heap.size + 2, 0, none⟩)]) ∧
    w' = ((w.alloc (.cells #[.string s] 9)).alloc (.cells #[.string p] 9)).alloc (.cells #[.int .i64 p.size] 3) := by
  refine callsIn_of_wp Tryd.func22 rfl trivial ?_ rfl
  simp only [Tryd.ntmps22, List.size_toArray, List.length_cons, List.length_nil, Nat.reduceAdd, Nat.reduceSub, Array.replicate_succ, Array.replicate_zero, List.push_toArray, List.append_toArray, List.nil_append, List.cons_append]
  gi_wp2
  refine ⟨trivial, (fun h => by cases h), ?_⟩
  refine (box_in _ _ _ _ _).mono ?_
  rintro e w' ⟨rfl, rfl⟩
  gi_wp2
  go_ret
  exact ⟨rfl, rfl⟩
def left (sb : Nat) (W : World) : Nat := match W.cell? ⟨sb, 0, none⟩ with | some (.string b) => b.size | _ => 0
theorem left_eq {sb : Nat} {W : World} {r : ByteArray} (h : Boxed W sb 9 (.string r)) : left sb W = r.size := by unfold left; rw [h.cell]
set_option maxRecDepth 100000 in
set_option maxHeartbeats 2000000 in
theorem iter_in (n : Nat) (hn : 1 ≤ n) (l sb eb vb : Nat) (hse : sb ≠ eb) (hsv : sb ≠ vb) (s : ByteArray) (hsz : s.size ≤ 65536) (J Jx : List ByteArray → World → Prop)
    (hJs : ∀ pre W v, J pre W → J pre (W.setCell ⟨sb, 0, none⟩ v))
    (hY : ∀ pre x W, J pre W → (pre ++ [x]) <+: cuts s → YieldAt Fence.wide (n - 1) Tryd.prog l #[.string x] W fun e W' =>
      (e = .returned (.bool true) ∧ J (pre ++ [x]) W' ∧ ∀ b, b = sb ∨ b = eb ∨ b = vb → W'.heap[b]? = W.heap[b]?) ∨ (e = .returned (.bool false) ∧ Jx (pre ++ [x]) W'))
    (W : World) (hs : Boxed W sb 9 (.string s)) (he : Boxed W eb 9 (.string ⟨#[10]⟩)) (hv : Boxed W vb 3 (.int .i64 1)) (h0 : J [] W) :
    CallsIn Fence.wide n Tryd.prog 49 #[.func (.yield l) #[] #[], .pointer (some ⟨eb, 0, none⟩), .pointer (some ⟨sb, 0, none⟩), .pointer (some ⟨vb, 0, none⟩)] W fun e W' => (∃ v, e = .returned v) ∧
      (J (cuts s) W' ∨ ∃ pre, pre <+: cuts s ∧ Jx pre W') := by
  refine callsIn_of_wp Tryd.func49 rfl trivial ?_ rfl
  simp only [Tryd.ntmps49, List.size_toArray, List.length_cons, List.length_nil, Nat.reduceAdd, Nat.reduceSub, Array.replicate_succ, Array.replicate_zero, List.push_toArray, List.append_toArray, List.nil_append, List.cons_append]
  have hec := he.cell
  have hsc := hs.cell
  have hvc := hv.cell
  gi_wp2
  gi_loopw [] (fun wr => ∃ (pre : List ByteArray) (r : ByteArray), Boxed wr sb 9 (.string r) ∧ Boxed wr eb 9 (.string ⟨#[10]⟩) ∧ Boxed wr vb 3 (.int .i64 1) ∧ cuts s = pre ++ cuts r ∧ r.size ≤ 65536 ∧ J pre wr)
    (fun wr => left sb wr)
  case atStart => exact ⟨[], s, hs, he, hv, rfl, hsz, h0⟩
  case round =>
    obtain ⟨pre, r, hs1, he1, hv1, hcut, hsz1, hJ⟩ := hrel
    have hec1 := he1.cell
    have hsc1 := hs1.cell
    have hvc1 := hv1.cell
    obtain ⟨ix, hix⟩ : ∃ ix : Int, Lib.indexByte r.data.toList 10 = ix := ⟨_, rfl⟩
    have hcall := Tryd.strings_Index_one r 10 wr
    rw [hix] at hcall
    by_cases hneg : ix < 0
    · have hd : decide (ix < 0) = true := decide_eq_true hneg
      have hc0 : cuts r = [r] := cuts_none (by rw [hix]; exact hneg)
      obtain ⟨fn, tmps, assign, body, hy, hR⟩ := hY pre r wr hJ (by rw [hcut, hc0]; exact List.prefix_rfl)
      gi_wp2
      refine ⟨trivial, ?_⟩
      refine (callsIn_wide.2 hcall).mono ?_
      rintro e w' ⟨rfl, rfl⟩
      gi_wp2
      refine hR.mono ?_
      rintro e W3 (⟨rfl, hJ3, _⟩ | ⟨rfl, hJx3⟩)
      · gi_wp2
        go_end0
        exact ⟨⟨_, rfl⟩, .inl (by rw [hcut, hc0]; exact hJ3)⟩
      · gi_wp2
        go_end0
        exact ⟨⟨_, rfl⟩, .inr ⟨pre ++ [r], by rw [hcut, hc0]; exact List.prefix_rfl, hJx3⟩⟩
    · obtain ⟨i, rfl⟩ : ∃ i : Nat, ix = (i : Int) := ⟨ix.toNat, by omega⟩
      have hd : decide ((i : Int) < 0) = false := decide_eq_false hneg
      obtain ⟨hil, hc1⟩ := cuts_some hix
      have hw1 : wrap64 ((i : Int) + 1) = ((i + 1 : Nat) : Int) := by unfold wrap64; omega
      obtain ⟨fn, tmps, assign, body, hy, hR⟩ := hY pre (r.extract 0 (i + 1)) wr hJ (by rw [hcut, hc1]; exact ⟨cuts (r.extract (i + 1) r.size), by simp⟩)
      gi_wp2
      refine ⟨trivial, ?_⟩
      refine (callsIn_wide.2 hcall).mono ?_
      rintro e w' ⟨rfl, rfl⟩
      gi_wp2
      refine hR.mono ?_
      have hez : (r.extract (i + 1) r.size).size = r.size - (i + 1) := by rw [ByteArray.size_extract]; omega
      rintro e W3 (⟨rfl, hJ3, hsame⟩ | ⟨rfl, hJx3⟩)
      · have hs3 : Boxed W3 sb 9 (.string r) := (hsame sb (.inl rfl)).trans hs1
        have he3 : Boxed W3 eb 9 (.string ⟨#[10]⟩) := (hsame eb (.inr (.inl rfl))).trans he1
        have hv3 : Boxed W3 vb 3 (.int .i64 1) := (hsame vb (.inr (.inr rfl))).trans hv1
        have hsc3 := hs3.cell
        have hec3 := he3.cell
        have hsf3 := hs3.frozen
        gi_wp2
        go_roundw
        case rel => exact ⟨pre ++ [r.extract 0 (i + 1)], r.extract (i + 1) r.size, hs3.set _, he3.other (Ne.symm hse) _, hv3.other (Ne.symm hsv) _, by rw [hcut, hc1]; simp, by omega, hJs _ _ _ hJ3⟩
        case measure => rw [left_eq (hs3.set _), left_eq hs1]; omega
      · gi_wp2
        refine bodyPost_ret (results_none rfl _ _ _) rfl ?_
        exact ⟨⟨_, rfl⟩, .inr ⟨pre ++ [r.extract 0 (i + 1)], by rw [hcut, hc1]; exact ⟨cuts (r.extract (i + 1) r.size), by simp⟩, hJx3⟩⟩
/-- How a round's body may be left: what is no cells lies as it lay, the iterator's three boxes too. -/
def bodyEnd (sb eb vb : Nat) (I : List ByteArray → World → Prop) (Ix : Code → List ByteArray → World → Prop) (xs : List ByteArray) (W : World) : Exit → Act → World → Prop
  | .normal, _, W' => KeepsOthers W W' ∧ (∀ b, b = sb ∨ b = eb ∨ b = vb → W'.heap[b]? = W.heap[b]?) ∧ I xs W'
  | .ret, _, W' => KeepsOthers W W' ∧ Ix .ret xs W'
  | .exit id, _, W' => KeepsOthers W W' ∧ Ix (.exit id) xs W'
  | _, _, _ => False
set_option maxHeartbeats 2000000 in
theorem range_cuts {g : Operand} {ps : Array Tmp} {assign body : Code} {Q : Exit → Act → World → Prop} {a : Act} {w : World} {n : Nat} (hn : 2 ≤ n)
    {sb eb vb : Nat} (hse : sb ≠ eb) (hsv : sb ≠ vb) {s : ByteArray} (hsz : s.size ≤ 65536) (hs : Boxed w sb 9 (.string s)) (he : Boxed w eb 9 (.string ⟨#[10]⟩)) (hv : Boxed w vb 3 (.int .i64 1))
    (hg : a.eval g = .func (.func 49) #[] #[.pointer (some ⟨eb, 0, none⟩), .pointer (some ⟨sb, 0, none⟩), .pointer (some ⟨vb, 0, none⟩)]) (hps : ps.size = 1)
    (I : List ByteArray → World → Prop) (Ix : Code → List ByteArray → World → Prop)
    (hIs : ∀ pre W v, I pre W → I pre (W.setCell ⟨sb, 0, none⟩ v))
    (hIp : ∀ pre W l o o', I pre W → w.heap.size ≤ l → W.heap[l]? = some o → o.isCells = false → I pre (W.putObj l o'))
    (hXp : ∀ c pre W l o o', Ix c pre W → w.heap.size ≤ l → W.heap[l]? = some o → o.isCells = false → Ix c pre (W.putObj l o'))
    (hIa : ∀ pre W o, I pre W → I pre (W.alloc o)) (h0 : I [] w) (a₁ : ByteArray → Act)
    (hassign : ∀ (l : Nat) (x : ByteArray) (W : World) (K : Act → World → Prop), K (a₁ x) W →
      assign.wpIn (Fence.wide.inRound l) (n - 1 - 1) Tryd.prog (Exit.then K (fun _ _ _ => False)) { tmps := (ps.zip #[Value.string x]).foldl (fun t (p, v) => t.setIfInBounds p v) a.tmps, defers := [] } W)
    (hbody : ∀ (l : Nat) (pre : List ByteArray) (x : ByteArray) (W : World), I pre W → (pre ++ [x]) <+: cuts s → body.wpIn (Fence.wide.inRound l) (n - 1 - 1) Tryd.prog (bodyEnd sb eb vb I Ix (pre ++ [x]) W) (a₁ x) W)
    (hdone : ∀ (W : World), I (cuts s) W → W.heap[w.heap.size]? = some (.deferred (some [])) → Q .normal { a with defers := { target := .collected w.heap.size, args := #[] } :: a.defers } W)
    (hstop : ∀ (c : Code) (pre : List ByteArray) (W : World), pre <+: cuts s → Ix c pre W → W.heap[w.heap.size]? = some (.deferred (some [])) → c.wpIn Fence.wide n Tryd.prog Q { a with defers := { target := .collected w.heap.size, args := #[] } :: a.defers } W) :
    (Code.rangeFunc g ps assign body).wpIn Fence.wide n Tryd.prog Q a w := by
  refine wpIn_rangeFunc fun fn hfn => ?_
  let rec_ : LoopState → Option Code → Loop := fun st pe => { state := st, pending := pe, fn := fn, tmps := a.tmps, params := ps, assign := assign, body := body, defers := w.heap.size }
  have hW1 : (Instr.enterLoop fn a.tmps ps assign body Fence.wide.round).run Tryd.prog w = .ok (w.heap.size + 1, [{ target := .collected w.heap.size, args := #[] }]) ((w.alloc (.deferred (some []))).alloc (.loop (rec_ .ready none))) := run_enterLoop_outer _ _ _ _ _
  have hL1 : ((w.alloc (.deferred (some []))).alloc (.loop (rec_ .ready none))).heap[w.heap.size + 1]? = some (.loop (rec_ .ready none)) := by
    have := World.alloc_heap_new (w.alloc (.deferred (some []))) (.loop (rec_ .ready none)); rwa [World.size_alloc] at this
  have hD1 : ((w.alloc (.deferred (some []))).alloc (.loop (rec_ .ready none))).heap[w.heap.size]? = some (.deferred (some [])) :=
    (Below.heap_alloc _ _ _ (by simp)).trans (World.alloc_heap_new w _)
  have hB1 : ∀ b t v, Boxed w b t v → Boxed ((w.alloc (.deferred (some []))).alloc (.loop (rec_ .ready none))) b t v := fun b t v h => (h.alloc _).alloc _
  have hI1 : I [] ((w.alloc (.deferred (some []))).alloc (.loop (rec_ .ready none))) := hIa _ _ _ (hIa _ _ _ h0)
  obtain ⟨W1, e1⟩ : ∃ W1, (w.alloc (.deferred (some []))).alloc (.loop (rec_ .ready none)) = W1 := ⟨_, rfl⟩
  rw [e1] at hW1 hL1 hD1 hB1 hI1
  have eg : ∀ args W, (callFunc 49 args).run Tryd.prog W = .ok (.enter 49 args) W := enters_of Tryd.func49 (by kernel_rfl) rfl
  refine ⟨w.heap.size + 1, _, W1, { target := .fn (.func 49) #[.pointer (some ⟨eb, 0, none⟩), .pointer (some ⟨sb, 0, none⟩), .pointer (some ⟨vb, 0, none⟩)], args := #[.func (.yield (w.heap.size + 1)) #[] #[]] }, W1, 49, #[.func (.yield (w.heap.size + 1)) #[] #[], .pointer (some ⟨eb, 0, none⟩), .pointer (some ⟨sb, 0, none⟩), .pointer (some ⟨vb, 0, none⟩)], W1, hW1, ?_, fun _ _ => trivial, ?_, fun _ => by omega, ?_⟩
  · simp only [resolve, hg]
    simp [go_sem]
  · simp [invoke, go_sem, eg]
  · have hy : ∀ (W : World) (st : LoopState) (pe : Option Code), W.heap[w.heap.size + 1]? = some (.loop (rec_ st pe)) → w.heap.size + 1 < W.heap.size := fun W st pe h => (Array.getElem?_eq_some_iff.1 h).1
    refine (iter_in (n - 1) (by omega) (w.heap.size + 1) sb eb vb hse hsv s hsz
      (fun pre W => I pre W ∧ W.heap[w.heap.size + 1]? = some (.loop (rec_ .ready none)) ∧ W.heap[w.heap.size]? = some (.deferred (some [])))
      (fun pre W => ∃ c, Ix c pre W ∧ W.heap[w.heap.size + 1]? = some (.loop (rec_ .done (some c))) ∧ W.heap[w.heap.size]? = some (.deferred (some [])))
      (fun pre W v ⟨h1, h2, h3⟩ => ⟨hIs pre W v h1, (KeepsOthers.setCell W _ v).same _ _ h2 rfl, (KeepsOthers.setCell W _ v).same _ _ h3 rfl⟩)
      ?round W1 (hB1 _ _ _ hs) (hB1 _ _ _ he) (hB1 _ _ _ hv) ⟨hI1, hL1, hD1⟩).mono ?after
    case round =>
      rintro pre x W ⟨hi, hl, hk⟩ hpre
      have hlt := hy W _ _ hl
      have hne1 : ∀ b t v, Boxed w b t v → b ≠ w.heap.size + 1 := fun b t v h => by have := h.lt; omega
      refine ⟨fn, _, assign, body, run_yield (P := Tryd.prog) (args := #[Value.string x]) hl (by rw [hps]; rfl), roundIn_of_wpIn trivial (hassign _ x W _ ⟨_, run_beginRound hl rfl, ?_⟩)⟩
      have hl2 : (W.putObj (w.heap.size + 1) (.loop (rec_ .busy none))).heap[w.heap.size + 1]? = some (.loop (rec_ .busy none)) := World.putObj_heap_same hlt
      have hk2 : (W.putObj (w.heap.size + 1) (.loop (rec_ .busy none))).heap[w.heap.size]? = some (.deferred (some [])) := (World.putObj_heap_other (by omega)).trans hk
      refine wpIn_mono (hbody _ pre x _ (hIp pre W _ _ _ hi (by omega) hl rfl) hpre) ?_
      have fin : ∀ (jump : Option Code) (W3 : World), KeepsOthers (W.putObj (w.heap.size + 1) (.loop (rec_ .busy none))) W3 →
          (Instr.endRound (w.heap.size + 1) jump).run Tryd.prog W3 = .ok (.bool jump.isNone) (W3.putObj (w.heap.size + 1) (.loop (rec_ (if jump.isNone then .ready else .done) jump))) ∧
          W3.heap[w.heap.size + 1]? = some (.loop (rec_ .busy none)) ∧
          (W3.putObj (w.heap.size + 1) (.loop (rec_ (if jump.isNone then .ready else .done) jump))).heap[w.heap.size + 1]? = some (.loop (rec_ (if jump.isNone then .ready else .done) jump)) ∧
          (W3.putObj (w.heap.size + 1) (.loop (rec_ (if jump.isNone then .ready else .done) jump))).heap[w.heap.size]? = some (.deferred (some [])) := fun jump W3 hk3 => by
        have hl3 := hk3.same _ _ hl2 rfl
        exact ⟨run_endRound (P := Tryd.prog) jump hl3, hl3, World.putObj_heap_same (hy W3 _ _ hl3), (World.putObj_heap_other (by omega)).trans (hk3.same _ _ hk2 rfl)⟩
      rintro e a3 W3 hp
      cases e with
      | normal =>
        obtain ⟨hk3, hb3, hi3⟩ := hp
        obtain ⟨hr, hl3, hl4, hk4⟩ := fin none W3 hk3
        refine ⟨_, _, hr, .inl ⟨rfl, ⟨hIp _ _ _ _ _ hi3 (by omega) hl3 rfl, hl4, hk4⟩, fun b hb => ?_⟩⟩
        have hbn : b ≠ w.heap.size + 1 := by
          rcases hb with rfl | rfl | rfl
          · exact hne1 _ _ _ hs
          · exact hne1 _ _ _ he
          · exact hne1 _ _ _ hv
        rw [World.putObj_heap_other hbn, hb3 b hb, World.putObj_heap_other hbn]
      | ret =>
        obtain ⟨hk3, hi3⟩ := hp
        obtain ⟨hr, hl3, hl4, hk4⟩ := fin (some .ret) W3 hk3
        exact ⟨_, _, hr, .inr ⟨rfl, .ret, hXp _ _ _ _ _ _ hi3 (by omega) hl3 rfl, hl4, hk4⟩⟩
      | exit id =>
        obtain ⟨hk3, hi3⟩ := hp
        obtain ⟨hr, hl3, hl4, hk4⟩ := fin (some (.exit id)) W3 hk3
        exact ⟨_, _, hr, .inr ⟨rfl, .exit id, hXp _ _ _ _ _ _ hi3 (by omega) hl3 rfl, hl4, hk4⟩⟩
      | goto t => exact hp.elim
      | panic ch => exact hp.elim
      | outgrown => exact hp.elim
    case after =>
      rintro e W2 ⟨⟨v, rfl⟩, (⟨hi, hl, hk⟩ | ⟨pre, hpre, c, hi, hl, hk⟩)⟩
      · exact ⟨none, _, run_endLoop (P := Tryd.prog) hl (by simp [rec_]), hdone _ (hIp _ _ _ _ _ hi (by omega) hl rfl) ((World.putObj_heap_other (by omega)).trans hk)⟩
      · exact ⟨some c, _, run_endLoop (P := Tryd.prog) hl (by simp [rec_]), hstop c pre _ hpre (hXp _ _ _ _ _ _ hi (by omega) hl rfl) ((World.putObj_heap_other (by omega)).trans hk)⟩
theorem run_loadVar_27 (w : World) (a : Addr) (v : Value) (hc : w.cell? a = some v) : (loadVar 27 a).run Tryd.prog w = .ok v w := by
  have hu := Tryd.underlying27
  simp [loadVar, hu, hc, go_sem]
theorem run_loadVar_err (w : World) (a : Addr) (v : Value) (hc : w.cell? a = some v) : (loadVar 29 a).run Tryd.prog w = .ok v w := by
  have hu := Tryd.underlying29
  simp [loadVar, hu, hc, go_sem]
theorem results_two {tmps : Array Value} {w : World} {p q : Addr} {u v : Value} (h2 : tmps.getD 2 undef = .pointer (some p)) (h3 : tmps.getD 3 undef = .pointer (some q)) (hu : w.cell? p = some u) (hv : w.cell? q = some v) :
    (results Tryd.f13 tmps).run Tryd.prog w = .ok (.tuple #[u, v]) w := by
  have r : Tryd.f13.results = #[.cell 2 27, .cell 3 29] := rfl
  have hp2 : tmps[2]?.getD undef = .pointer (some p) := by simpa using h2
  have hp3 : tmps[3]?.getD undef = .pointer (some q) := by simpa using h3
  simp [results, r, hp2, hp3, asAddr, Sem.run_bind, run_loadVar_27 w p u hu, run_loadVar_err w q v hv, Result.andThen]
theorem info9 : (Tryd.prog.info? 9).map (fun i => (i.zero, i.size, i.bytes)) = some (some (.string ⟨#[]⟩), 1, 16) := by kernel_rfl
/-- The lines, one by one. -/
def fold (out : List ByteArray) : List ByteArray → Option (List ByteArray × List Flt)
  | [] => some (out, [])
  | p :: ps => if p.size = 0 then some (out, []) else match line_check.f (p.size + 2) (bytesOf p) with
    | none => none
    | some (some c) => some ([], [⟨⟨#[108, 105, 110, 101]⟩, out.length, some c⟩])
    | some none => fold (out ++ [p]) ps
def line_Split.f (a0 : ByteArray) : Option (List ByteArray × List Flt) := if 65536 < a0.size then some ([], [⟨⟨#[116, 101, 120, 116]⟩, 0, some 4⟩]) else fold [] (cuts a0)
theorem errR_at {W : World} {g S : Nat} {x : Flt} (h : W.heap[g]? = some (.cells #[.string x.part, .int .i64 x.place, errn x.no] 52 (0, 0))) (hS : S ≤ g) : Kd.R fltK 52 W S (fun _ => True) (.slice (some ⟨g, 0, none⟩) 1 1) [x] := by
  refine ⟨fun k hk => trivial, fltC x, ⟨rfl, .inr ⟨g, 1, #[.string x.part, .int .i64 x.place, errn x.no], rfl, hS, by simpa using h, Nat.le_refl _, by unfold maxLen; omega, rfl, rfl⟩⟩, ?_⟩
  refine ⟨rfl, fun j p hj => ?_⟩
  cases j with
  | zero =>
    have : x = p := by simpa using hj
    subst this; rfl
  | succ j => simp at hj
/-- Between two rounds. -/
def SpI (w : World) (xs : List ByteArray) (r1 : List ByteArray) (r2 : List Flt) (pre : List ByteArray) (W : World) : Prop :=
  (∃ rest, xs = pre ++ rest ∧ fold pre rest = some (r1, r2)) ∧ Boxed W w.heap.size 27 (.slice none 0 0) ∧ Boxed W (w.heap.size + 1) 29 .nilIface ∧
    (∃ v, Boxed W (w.heap.size + 1 + 1) 27 v ∧ W.ownsRow (w.heap.size + 6) 9 1 v pre.length (pre.map Value.string)) ∧ Below w.heap.size w W ∧ w.heap.size + 6 ≤ W.heap.size
/-- Where a round has left. -/
def SpX (w : World) (r1 : List ByteArray) (r2 : List Flt) (c : Code) (pre : List ByteArray) (W : World) : Prop :=
  (c = .exit 0 ∧ r2 = [] ∧ Boxed W w.heap.size 27 (.slice none 0 0) ∧ Boxed W (w.heap.size + 1) 29 .nilIface ∧ (∃ v, Boxed W (w.heap.size + 1 + 1) 27 v ∧ W.ownsRow (w.heap.size + 6) 9 1 v r1.length (r1.map Value.string)) ∧ Below w.heap.size w W ∧ w.heap.size + 6 ≤ W.heap.size) ∨
  (c = .ret ∧ r1 = [] ∧ ∃ g x, r2 = [x] ∧ Boxed W w.heap.size 27 (.slice none 0 0) ∧ Boxed W (w.heap.size + 1) 29 (.iface 49 (.pointer (some ⟨g, 0, none⟩))) ∧ W.heap[g]? = some (.cells #[.string x.part, .int .i64 x.place, errn x.no] 52 (0, 0)) ∧ w.heap.size ≤ g ∧ Below w.heap.size w W)
theorem below_put {n₀ : Nat} {w W : World} (h : Below n₀ w W) {l : Nat} {o : Obj} (o' : Obj) (hl : n₀ ≤ l) : Below n₀ w (W.putObj l o') :=
  h.trans ⟨rfl, rfl, rfl, by rw [World.putObj_size]; exact Nat.le_refl _, fun i hi => World.putObj_heap_other (by omega)⟩
theorem boxed_put {W : World} {B t : Nat} {v : Value} (h : Boxed W B t v) {l : Nat} {o : Obj} (o' : Obj) (hl : W.heap[l]? = some o) (ho : o.isCells = false) : Boxed (W.putObj l o') B t v := by
  have hne : B ≠ l := fun e => by subst e; rw [show W.heap[B]? = _ from h] at hl; cases hl; cases ho
  exact (World.putObj_heap_other hne).trans h
theorem owns_apart {W : World} {base e size k : Nat} {v : Value} {xs : List Value} (h : W.ownsRow base e size v k xs) {b : Nat} (hb : b < base) : v.ownBlock ≠ some b := by
  rcases h.2 with ⟨rfl, _⟩ | ⟨g, cap, cur, rfl, hg, _⟩
  · simp [Value.ownBlock]
  · simp [Value.ownBlock]; omega
theorem owns_slice {W : World} {base e size k : Nat} {v : Value} {xs : List Value} (h : W.ownsRow base e size v k xs) : ∃ A c, v = .slice A k c := by
  rcases h.2 with ⟨rfl, h0⟩ | ⟨g, cap, cur, rfl, _⟩
  · exact ⟨none, 0, by rw [h0]⟩
  · exact ⟨_, _, rfl⟩
/-- What lies in the row lies there behind stores into the two boxes and the turn of the deferred calls' block. -/
theorem owns_end {W : World} {S k : Nat} {v : Value} {xs : List Value} (h : W.ownsRow (S + 6) 9 1 v k xs) {b c : Nat} (hb : b < S + 6) (hc : c < S + 6) (u u' : Value) : ((W.setCell ⟨b, 0, none⟩ u).setCell ⟨c, 0, none⟩ u').ownsRow (S + 6) 9 1 v k xs :=
  (h.kept (grownBy_setCell' W b u) (.inr (fun e => owns_apart h hb e))).kept (grownBy_setCell' _ c u') (.inr (fun e => owns_apart h hc e))
/-- An append onto the row in the box at S + 2, and the store back. -/
theorem app_end {w W1 w1 : World} {S k m : Nat} {v v' : Value} {xs ys : List Value} {tmp : Obj} (hS : S = w.heap.size) (hv : Boxed W1 (S + 1 + 1) 27 v) (hrow : W1.ownsRow (S + 6) 9 1 v k xs) (hz : S + 6 ≤ W1.heap.size)
    (hown' : w1.ownsRow (S + 6) 9 1 v' m ys) (hgrow : (W1.alloc tmp).grownBy w1 v.ownBlock) (hb : Below S w W1) :
    Boxed w1 (S + 1 + 1) 27 v ∧ KeepsOthers W1 (w1.setCell ⟨S + 1 + 1, 0, none⟩ v') ∧ (w1.setCell ⟨S + 1 + 1, 0, none⟩ v').ownsRow (S + 6) 9 1 v' m ys ∧ Boxed (w1.setCell ⟨S + 1 + 1, 0, none⟩ v') (S + 1 + 1) 27 v' ∧
      Below S w (w1.setCell ⟨S + 1 + 1, 0, none⟩ v') ∧ S + 6 ≤ (w1.setCell ⟨S + 1 + 1, 0, none⟩ v').heap.size ∧ ∀ b, b < S + 6 → b ≠ S + 1 + 1 → (w1.setCell ⟨S + 1 + 1, 0, none⟩ v').heap[b]? = W1.heap[b]? := by
  have hv1 : Boxed w1 (S + 1 + 1) 27 v := (hv.alloc tmp).kept hgrow (hv.not_row (by decide) hrow)
  have hs1 : W1.heap.size ≤ w1.heap.size := Nat.le_trans (by rw [World.size_alloc]; omega) hgrow.size
  refine ⟨hv1, ?_, hown'.kept (grownBy_setCell' w1 _ v') (.inr (hv1.not_row (by decide) hown').symm), hv1.set v', ?_, Nat.le_trans (Nat.le_trans hz hs1) (grownBy_setCell' w1 (S + 1 + 1) v').size, ?_⟩
  · refine ((KeepsOthers.alloc W1 tmp).trans (KeepsOthers.of_grownBy hgrow fun j o ej hj => ?_)).trans (KeepsOthers.setCell _ _ _)
    rcases (hrow.alloc tmp).2 with ⟨rfl, _⟩ | ⟨g, cap, cur, rfl, _, hgb, _⟩
    · simp [Value.ownBlock] at ej
    · obtain rfl : g = j := by simpa [Value.ownBlock] using ej
      rw [hgb] at hj; cases hj; rfl
  · refine ((hb.alloc (by omega) tmp).grown hgrow (by rw [World.size_alloc]; omega) fun j ej => ?_).setCell (p := ⟨S + 1 + 1, 0, none⟩) (by simp; omega) v'
    rcases hrow.2 with ⟨rfl, _⟩ | ⟨g, cap, cur, rfl, hb', _, _⟩
    · simp [Value.ownBlock] at ej
    · obtain rfl : g = j := by simpa [Value.ownBlock] using ej
      omega
  · intro b hb6 hne
    have h1 := Below.heap_setCell w1 ⟨S + 1 + 1, 0, none⟩ v' b hne
    have h2 := hgrow.block b (by rw [World.size_alloc]; omega) (fun e => owns_apart hrow hb6 e.symm)
    exact h1.trans (h2.trans (Below.heap_alloc _ _ _ (by omega)))
/-- A round's end by a return: the result's boxes are set, the Fault is laid. -/
theorem ret_end {w W W1 : World} {pre : List ByteArray} {x : Flt} (h2 : Boxed W1 w.heap.size 27 (.slice none 0 0)) (h3 : Boxed W1 (w.heap.size + 1) 29 .nilIface) (hb : Below w.heap.size w W1) (hK : KeepsOthers W W1) :
    KeepsOthers W (((W1.setCell ⟨w.heap.size, 0, none⟩ (.slice none 0 0)).setCell ⟨w.heap.size + 1, 0, none⟩ (.iface 49 (.pointer (some ⟨W1.heap.size, 0, none⟩)))).alloc (.cells #[.string x.part, .int .i64 x.place, errn x.no] 52)) ∧
    SpX w [] [x] .ret pre (((W1.setCell ⟨w.heap.size, 0, none⟩ (.slice none 0 0)).setCell ⟨w.heap.size + 1, 0, none⟩ (.iface 49 (.pointer (some ⟨W1.heap.size, 0, none⟩)))).alloc (.cells #[.string x.part, .int .i64 x.place, errn x.no] 52)) := by
  have hz : ((W1.setCell ⟨w.heap.size, 0, none⟩ (.slice none 0 0)).setCell ⟨w.heap.size + 1, 0, none⟩ (.iface 49 (.pointer (some ⟨W1.heap.size, 0, none⟩)))).heap.size = W1.heap.size := by simp
  refine ⟨((hK.trans (KeepsOthers.setCell _ _ _)).trans (KeepsOthers.setCell _ _ _)).trans (KeepsOthers.alloc _ _), .inr ⟨rfl, rfl, W1.heap.size, x, rfl, ((h2.set _).other (by omega) _).alloc _, ((h3.other (by omega) _).set _).alloc _, ?_, hb.size, ?_⟩⟩
  · have := World.alloc_heap_new ((W1.setCell ⟨w.heap.size, 0, none⟩ (.slice none 0 0)).setCell ⟨w.heap.size + 1, 0, none⟩ (.iface 49 (.pointer (some ⟨W1.heap.size, 0, none⟩)))) (.cells #[.string x.part, .int .i64 x.place, errn x.no] 52)
    rwa [hz] at this
  · exact ((hb.setCell (p := ⟨w.heap.size, 0, none⟩) (Nat.le_refl _) _).setCell (p := ⟨w.heap.size + 1, 0, none⟩) (by simp) _).alloc (by rw [hz]; exact hb.size) _
theorem ret_drew {w W X : World} {pre r1 : List ByteArray} {r2 : List Flt} (h : KeepsOthers W X ∧ SpX w r1 r2 .ret pre X) : KeepsOthers W X.drew ∧ SpX w r1 r2 .ret pre X.drew := by
  refine ⟨h.1.trans (KeepsOthers.drew _), ?_⟩
  rcases h.2 with ⟨hc, _⟩ | ⟨hc, hr, g, x, hx, h2, h3, h4, hg, hb⟩
  · cases hc
  · exact .inr ⟨hc, hr, g, x, hx, h2, h3, h4, hg, hb.drew⟩
theorem SpI.set {w : World} {xs r1 : List ByteArray} {r2 : List Flt} {pre : List ByteArray} {W : World} (v : Value) (h : SpI w xs r1 r2 pre W) : SpI w xs r1 r2 pre (W.setCell ⟨w.heap.size + 3, 0, none⟩ v) := by
  obtain ⟨hf, h2, h3, ⟨u, h4, h5⟩, hb, hz⟩ := h
  have hg := grownBy_setCell' W (w.heap.size + 3) v
  exact ⟨hf, h2.other (by omega) v, h3.other (by omega) v, ⟨u, h4.other (by omega) v, h5.kept hg (.inr (fun e => owns_apart h5 (b := w.heap.size + 3) (by omega) e))⟩, hb.setCell (p := ⟨w.heap.size + 3, 0, none⟩) (by simp) v, Nat.le_trans hz hg.size⟩
theorem SpI.put {w : World} {xs r1 : List ByteArray} {r2 : List Flt} {pre : List ByteArray} {W : World} {l : Nat} {o : Obj} (o' : Obj) (h : SpI w xs r1 r2 pre W) (hl0 : w.heap.size ≤ l) (hl : W.heap[l]? = some o) (ho : o.isCells = false) : SpI w xs r1 r2 pre (W.putObj l o') := by
  obtain ⟨hf, h2, h3, ⟨u, h4, h5⟩, hb, hz⟩ := h
  exact ⟨hf, boxed_put h2 o' hl ho, boxed_put h3 o' hl ho, ⟨u, boxed_put h4 o' hl ho, ownsRow_putObj h5 o' hl ho⟩, below_put (o := o) hb o' hl0, by rw [World.putObj_size]; exact hz⟩
theorem SpI.alloc {w : World} {xs r1 : List ByteArray} {r2 : List Flt} {pre : List ByteArray} {W : World} (o : Obj) (h : SpI w xs r1 r2 pre W) : SpI w xs r1 r2 pre (W.alloc o) := by
  obtain ⟨hf, h2, h3, ⟨u, h4, h5⟩, hb, hz⟩ := h
  exact ⟨hf, h2.alloc o, h3.alloc o, ⟨u, h4.alloc o, h5.alloc o⟩, hb.alloc (by omega) o, by rw [World.size_alloc]; omega⟩
theorem SpX.put {w : World} {r1 : List ByteArray} {r2 : List Flt} {c : Code} {pre : List ByteArray} {W : World} {l : Nat} {o : Obj} (o' : Obj) (h : SpX w r1 r2 c pre W) (hl0 : w.heap.size ≤ l) (hl : W.heap[l]? = some o) (ho : o.isCells = false) : SpX w r1 r2 c pre (W.putObj l o') := by
  rcases h with ⟨hc, hr, h2, h3, ⟨u, h4, h5⟩, hb, hz⟩ | ⟨hc, hr, g, x, hx, h2, h3, h4, hg, hb⟩
  · exact .inl ⟨hc, hr, boxed_put h2 o' hl ho, boxed_put h3 o' hl ho, ⟨u, boxed_put h4 o' hl ho, ownsRow_putObj h5 o' hl ho⟩, below_put (o := o) hb o' hl0, by rw [World.putObj_size]; exact hz⟩
  · refine .inr ⟨hc, hr, g, x, hx, boxed_put h2 o' hl ho, boxed_put h3 o' hl ho, ?_, hg, below_put (o := o) hb o' hl0⟩
    have hne : g ≠ l := fun e => by subst e; rw [h4] at hl; cases hl; cases ho
    exact (World.putObj_heap_other hne).trans h4
set_option maxRecDepth 100000 in
set_option maxHeartbeats 4000000 in
theorem line_Split.calls (a0 : ByteArray) (r1 : List ByteArray) (r2 : List Flt) (w : World) (h : line_Split.f a0 = some (r1, r2)) :
    Calls Tryd.prog 13 #[.string a0] w fun e w' => ∃ v0_ v1_ : Value, e = .returned (.tuple #[v0_, errV v1_]) ∧ Kd.R Kd.string 9 w' w.heap.size (fun _ => True) v0_ r1 ∧ Kd.R fltK 52 w' w.heap.size (fun _ => True) v1_ r2 ∧ Below w.heap.size w w' := by
  refine (callsIn_wide (n := 4)).1 ?_
  refine callsIn_of_wp_marks Tryd.func13 rfl trivial ?_ rfl
  simp only [Tryd.ntmps13, List.size_toArray, List.length_cons, List.length_nil, Nat.reduceAdd, Nat.reduceSub, Array.replicate_succ, Array.replicate_zero, List.push_toArray, List.append_toArray, List.nil_append, List.cons_append]
  unfold line_Split.f at h
  by_cases hbig : 65536 < a0.size
  · rw [if_pos hbig] at h
    obtain ⟨rfl, rfl⟩ := Prod.mk.inj (Option.some.inj h)
    have hd1 : decide (65536 < a0.size) = true := decide_eq_true hbig
    have hd2 : decide ((65536 : Int) < (a0.size : Int)) = true := decide_eq_true (by omega)
    gi_wp2
    obtain ⟨w2, e2⟩ : ∃ w2, (w.alloc (.cells #[.slice none 0 0] 27)).alloc (.cells #[.iface 49 (.pointer (some ⟨w.heap.size + 1 + 1, 0, none⟩))] 29) = w2 := ⟨_, rfl⟩
    rw [e2]
    have hz : w2.heap.size = w.heap.size + 1 + 1 := by rw [← e2, World.size_alloc, World.size_alloc]
    have b2 : Boxed w2 w.heap.size 27 (.slice none 0 0) := by rw [← e2]; exact (Boxed.new w 27 _).alloc _
    have b3 : Boxed w2 (w.heap.size + 1) 29 (.iface 49 (.pointer (some ⟨w.heap.size + 1 + 1, 0, none⟩))) := by rw [← e2]; have := Boxed.new (w.alloc (.cells #[.slice none 0 0] 27)) 29 (.iface 49 (.pointer (some ⟨w.heap.size + 1 + 1, 0, none⟩))); rw [World.size_alloc] at this; exact this
    have hb2 : Below w.heap.size w w2 := by rw [← e2]; exact ((Below.refl w.heap.size w).alloc (Nat.le_refl _) _).alloc (by rw [World.size_alloc]; omega) _
    have hR := errR_new w2 (⟨⟨#[116, 101, 120, 116]⟩, 0, some 4⟩ : Flt) (fun _ => True)
    rw [hz] at hR
    exact ⟨.tuple #[_, _], results_two rfl rfl (b2.alloc _).cell (b3.alloc _).cell, ⟨.slice none 0 0, .slice (some ⟨w.heap.size + 1 + 1, 0, none⟩) 1 1, rfl, Kd.R_nil _ _ _ _ _, Kd.R_lower hR (by omega), hb2.alloc (by omega) _⟩⟩
  · rw [if_neg hbig] at h
    have hd1 : decide (65536 < a0.size) = false := decide_eq_false hbig
    have hd2 : decide ((65536 : Int) < (a0.size : Int)) = false := decide_eq_false (by omega)
    gi_wp2
    refine ⟨trivial, ?_⟩
    refine (seq_in _ _ _ _).mono ?_
    rintro e w' ⟨rfl, rfl⟩
    obtain ⟨W2, e2⟩ : ∃ W2, (((w.alloc (.cells #[.slice none 0 0] 27)).alloc (.cells #[.nilIface] 29)).alloc (.cells #[.slice none 0 0] 27)) = W2 := ⟨_, rfl⟩
    rw [e2]
    have hz2 : W2.heap.size = w.heap.size + 3 := by rw [← e2, World.size_alloc, World.size_alloc, World.size_alloc]
    have b2 : Boxed W2 w.heap.size 27 (.slice none 0 0) := by rw [← e2]; exact ((Boxed.new w 27 _).alloc _).alloc _
    have b3 : Boxed W2 (w.heap.size + 1) 29 .nilIface := by rw [← e2]; have := Boxed.new (w.alloc (.cells #[.slice none 0 0] 27)) 29 .nilIface; rw [World.size_alloc] at this; exact this.alloc _
    have b4 : Boxed W2 (w.heap.size + 2) 27 (.slice none 0 0) := by rw [← e2]; have := Boxed.new ((w.alloc (.cells #[.slice none 0 0] 27)).alloc (.cells #[.nilIface] 29)) 27 (.slice none 0 0); rw [World.size_alloc, World.size_alloc] at this; exact this
    have hb2 : Below w.heap.size w W2 := by rw [← e2]; exact (((Below.refl w.heap.size w).alloc (Nat.le_refl _) _).alloc (by rw [World.size_alloc]; omega) _).alloc (by rw [World.size_alloc, World.size_alloc]; omega) _
    clear e2
    obtain ⟨W3, e3⟩ : ∃ W3, ((W2.alloc (.cells #[.string a0] 9)).alloc (.cells #[.string ⟨#[10]⟩] 9)).alloc (.cells #[.int .i64 (ByteArray.size ⟨#[10]⟩)] 3) = W3 := ⟨_, rfl⟩
    rw [e3]
    have hz3 : W3.heap.size = w.heap.size + 6 := by rw [← e3, World.size_alloc, World.size_alloc, World.size_alloc, hz2]
    have c2 : Boxed W3 w.heap.size 27 (.slice none 0 0) := by rw [← e3]; exact ((b2.alloc _).alloc _).alloc _
    have c3 : Boxed W3 (w.heap.size + 1) 29 .nilIface := by rw [← e3]; exact ((b3.alloc _).alloc _).alloc _
    have c4 : Boxed W3 (w.heap.size + 2) 27 (.slice none 0 0) := by rw [← e3]; exact ((b4.alloc _).alloc _).alloc _
    have cs : Boxed W3 (w.heap.size + 3) 9 (.string a0) := by rw [← e3, ← hz2]; exact ((Boxed.new W2 9 _).alloc _).alloc _
    have ce : Boxed W3 (w.heap.size + 4) 9 (.string ⟨#[10]⟩) := by rw [← e3]; have := Boxed.new (W2.alloc (.cells #[.string a0] 9)) 9 (.string ⟨#[10]⟩); rw [World.size_alloc, hz2] at this; exact this.alloc _
    have cv : Boxed W3 (w.heap.size + 5) 3 (.int .i64 1) := by rw [← e3]; have := Boxed.new ((W2.alloc (.cells #[.string a0] 9)).alloc (.cells #[.string ⟨#[10]⟩] 9)) 3 (.int .i64 1); rw [World.size_alloc, World.size_alloc, hz2] at this; exact this
    have hb3 : Below w.heap.size w W3 := by rw [← e3]; exact ((hb2.alloc (by omega) _).alloc (by rw [World.size_alloc]; omega) _).alloc (by rw [World.size_alloc, World.size_alloc]; omega) _
    clear e3 b2 b3 b4 hb2
    rw [hz2]
    gi_wp2
    refine range_cuts (by omega) (sb := w.heap.size + 3) (eb := w.heap.size + 3 + 1) (vb := w.heap.size + 3 + 2) (by omega) (by omega) (s := a0) (by omega) cs ce cv rfl rfl (SpI w (cuts a0) r1 r2) (SpX w r1 r2)
      (fun _ _ v h => h.set v) (fun _ _ _ _ o' h hl0 hl ho => h.put o' (by omega) hl ho) (fun _ _ _ _ _ o' h hl0 hl ho => h.put o' (by omega) hl ho) (fun _ _ o h => h.alloc o)
      ⟨⟨cuts a0, rfl, h⟩, c2, c3, ⟨_, c4, World.ownsRow_nil _ _ _ _⟩, hb3, by omega⟩
      (fun x => { tmps := #[.string a0, undef, .pointer (some ⟨w.heap.size, 0, none⟩), .pointer (some ⟨w.heap.size + 1, 0, none⟩), .pointer (some ⟨w.heap.size + 1 + 1, 0, none⟩), .string x, undef, .string a0, .int .i64 a0.size, .bool false, undef, undef, undef, undef, .string a0, .func (.func 49) #[] #[.pointer (some ⟨w.heap.size + 3 + 1, 0, none⟩), .pointer (some ⟨w.heap.size + 3, 0, none⟩), .pointer (some ⟨w.heap.size + 3 + 2, 0, none⟩)], .string x, undef, undef, undef, undef, undef, undef, undef, undef, undef, undef, undef, undef, undef, undef, undef, undef, undef], defers := [] }) ?assign ?body ?done ?stop
    case assign =>
      intro l x W K hK
      gi_wp2
      exact hK
    case body =>
      rintro l pre x W ⟨⟨rest, hcut, hf⟩, h2, h3, ⟨v, h4, h5⟩, hb, hz⟩ hpre
      obtain ⟨rest', rfl⟩ : ∃ rest', rest = x :: rest' := by
        obtain ⟨t, ht⟩ := hpre
        rw [hcut, List.append_assoc] at ht
        exact ⟨t, by simpa using (List.append_cancel_left ht).symm⟩
      simp only [fold] at hf
      have hlen : pre.length + 1 ≤ 65537 := by
        have h1 := pieces_len a0.data.toList
        have h2 : (cuts a0).length = (pieces a0.data.toList).length := by unfold cuts; simp
        rw [data_length] at h1
        have h3 : (pre ++ x :: rest').length ≤ 65537 := by rw [← hcut, h2]; omega
        simp at h3; omega
      have HCUT := Aside0.mk hcut
      clear hcut hpre
      have hc4 := h4.cell
      obtain ⟨A, c, rfl⟩ := owns_slice h5
      by_cases hx : x.size = 0
      · rw [if_pos hx] at hf
        obtain ⟨rfl, rfl⟩ := Prod.mk.inj (Option.some.inj hf)
        have hE : x.toList.isEmpty = true := by rw [ByteArray.toList_eq, List.isEmpty_iff]; exact List.eq_nil_of_length_eq_zero (by rw [data_length]; exact hx)
        gi_wp2
        exact ⟨KeepsOthers.refl _, .inl ⟨rfl, rfl, h2, h3, ⟨_, h4, h5⟩, hb, hz⟩⟩
      · rw [if_neg hx] at hf
        have hE : x.toList.isEmpty = false := by
          rw [ByteArray.toList_eq]
          cases hl : x.data.toList with
          | nil => exact absurd (by rw [← data_length, hl]; rfl) hx
          | cons _ _ => rfl
        have hsx : x.size ≤ 9223372036854775807 := by
          have h1 : x ∈ cuts a0 := by rw [HCUT.out]; simp
          unfold cuts at h1
          obtain ⟨p, hp, rfl⟩ := List.mem_map.1 h1
          have h2 : p.length ≤ a0.data.toList.length := by
            have := List.sublist_flatten_of_mem hp
            rw [pieces_flat] at this
            exact this.length_le
          rw [data_length] at h2
          show p.toArray.size ≤ _
          simp; omega
        cases hchk : line_check.f (x.size + 2) (bytesOf x) with
        | none => rw [hchk] at hf; cases hf
        | some r =>
          rw [hchk] at hf
          gi_wp2
          refine ⟨trivial, ?_⟩
          refine (CallsIn.inRound l (callsIn_wide.2 (line_check.calls (x.size + 2) x r W hsx hchk))).mono ?_
          rintro e W1 ⟨he, hbk⟩
          have k2 : Boxed W1 w.heap.size 27 (.slice none 0 0) := (hbk.block _ h2.lt).trans h2
          have k3 : Boxed W1 (w.heap.size + 1) 29 .nilIface := (hbk.block _ h3.lt).trans h3
          have k4 : Boxed W1 (w.heap.size + 1 + 1) 27 (.slice A pre.length c) := (hbk.block _ h4.lt).trans h4
          have kb : Below w.heap.size w W1 := hb.trans (hbk.mono hb.size)
          have kc2 := k2.cell
          have kf2 := k2.frozen
          have kc3 := k3.cell
          have kf3 := k3.frozen
          have kc4 := k4.cell
          have kf4 := k4.frozen
          cases r with
          | some c' =>
            obtain rfl : e = .returned (.iface 50 (.int .i64 c')) := he
            obtain ⟨rfl, rfl⟩ := Prod.mk.inj (Option.some.inj hf)
            have hmx : Tryd.prog.follows .mixedOrders = true := by kernel_rfl
            have hl2 := k2.lt
            have hl3 := k3.lt
            have ka2 : ∀ o, (W1.drew.alloc o).cell? ⟨w.heap.size, 0, none⟩ = some (.slice none 0 0) := fun o => (Boxed.alloc (show Boxed W1.drew w.heap.size 27 (.slice none 0 0) from k2) o).cell
            have kb2 : ∀ o, (W1.drew.alloc o).frozen? ⟨w.heap.size, 0, none⟩ = false := fun o => (Boxed.alloc (show Boxed W1.drew w.heap.size 27 (.slice none 0 0) from k2) o).frozen
            have ka3 : ∀ o, (W1.drew.alloc o).cell? ⟨w.heap.size + 1, 0, none⟩ = some .nilIface := fun o => (Boxed.alloc (show Boxed W1.drew (w.heap.size + 1) 29 .nilIface from k3) o).cell
            have kb3 : ∀ o, (W1.drew.alloc o).frozen? ⟨w.heap.size + 1, 0, none⟩ = false := fun o => (Boxed.alloc (show Boxed W1.drew (w.heap.size + 1) 29 .nilIface from k3) o).frozen
            have kd2 : ∀ o, (W1.alloc o).cell? ⟨w.heap.size, 0, none⟩ = some (.slice none 0 0) := fun o => (k2.alloc o).cell
            have ke2 : ∀ o, (W1.alloc o).frozen? ⟨w.heap.size, 0, none⟩ = false := fun o => (k2.alloc o).frozen
            have kd3 : ∀ o, (W1.alloc o).cell? ⟨w.heap.size + 1, 0, none⟩ = some .nilIface := fun o => (k3.alloc o).cell
            have ke3 : ∀ o, (W1.alloc o).frozen? ⟨w.heap.size + 1, 0, none⟩ = false := fun o => (k3.alloc o).frozen
            gi_wp2
            gi_region_with_o (fail)
            all_goals gi_wp2
            all_goals (try go_bits)
            have hKW : KeepsOthers W W1 := ⟨hbk.size, fun k o hk ho => (hbk.block k (Array.getElem?_eq_some_iff.1 hk).1).trans hk⟩
            have hend := ret_end (pre := pre ++ [x]) (x := ⟨⟨#[108, 105, 110, 101]⟩, pre.length, some c'⟩) k2 k3 kb hKW
            all_goals (first | exact ret_end (pre := pre ++ [x]) (x := ⟨⟨#[108, 105, 110, 101]⟩, pre.length, some c'⟩) k2 k3 kb ⟨hbk.size, fun k o hk ho => (hbk.block k (Array.getElem?_eq_some_iff.1 hk).1).trans hk⟩ | exact ret_drew (ret_end (pre := pre ++ [x]) (x := ⟨⟨#[108, 105, 110, 101]⟩, pre.length, some c'⟩) k2 k3 kb ⟨hbk.size, fun k o hk ho => (hbk.block k (Array.getElem?_eq_some_iff.1 hk).1).trans hk⟩) | exact ret_drew (ret_drew (ret_end (pre := pre ++ [x]) (x := ⟨⟨#[108, 105, 110, 101]⟩, pre.length, some c'⟩) k2 k3 kb ⟨hbk.size, fun k o hk ho => (hbk.block k (Array.getElem?_eq_some_iff.1 hk).1).trans hk⟩)))
          | none =>
            obtain rfl : e = .returned .nilIface := he
            have hf' : fold (pre ++ [x]) rest' = some (r1, r2) := hf
            have hrow : W1.ownsRow (w.heap.size + 6) 9 1 (.slice A pre.length c) pre.length (pre.map Value.string) := Kd.own_of_R (h1 := fun _ => rfl) (Kd.R_below (Kd.R_of_own (enc := Value.string) (h1 := fun _ => rfl) (ok := fun _ => True) h5 (fun _ _ => trivial)) hbk)
            have hz1 : w.heap.size + 6 ≤ W1.heap.size := Nat.le_trans hz hbk.size
            obtain ⟨i0, hi, hz0, hzz1, hz2⟩ := info_parts info9
            clear hf h5
            gi_wp2_with (gi_at_builtin; refine wpListIn_append_own _ rfl _ _ 27 rfl (w.heap.size + 6) 9 i0 (.string ⟨#[]⟩) 1 16 Tryd.underlying27 hi hz0 hzz1 hz2 rfl (by decide) _ _ _ rfl (hrow.alloc _) ⟨W1.heap.size, 0, none⟩ 1 1 [.string x] rfl rfl (cell_one_new _ _ _) (by simp [Value.oneCell']) (by unfold maxLen; omega) (by omega) (by simp; omega) ?_; intro v' w1 hown' hgrow _; obtain ⟨g', cap', rfl⟩ := ownsRow_succ hown'; obtain ⟨hv1, hk2, hr2, hb4, hbB, hz6, hsame⟩ := app_end (w := w) rfl k4 hrow hz1 hown' hgrow kb; have hc1 := hv1.cell; have hf1 := hv1.frozen)
            have hKW : KeepsOthers W W1 := ⟨hbk.size, fun k o hk ho => (hbk.block k (Array.getElem?_eq_some_iff.1 hk).1).trans hk⟩
            refine ⟨hKW.trans hk2, fun b hb' => ?_, ⟨⟨rest', by rw [HCUT.out]; simp, hf'⟩, (hsame _ (by omega) (by omega)).trans k2, (hsame _ (by omega) (by omega)).trans k3, ⟨_, hb4, ?_⟩, hbB, hz6⟩⟩
            · have hb6 : b < w.heap.size + 6 ∧ b ≠ w.heap.size + 1 + 1 := by omega
              exact (hsame b hb6.1 hb6.2).trans (hbk.block b (by omega))
            · simpa using hr2
    case done =>
      rintro W ⟨⟨rest, hcut, hf⟩, h2, h3, ⟨v, h4, h5⟩, hb, hz⟩ hK
      obtain rfl : rest = [] := by simpa using hcut
      clear hcut
      simp only [fold, Option.some.injEq, Prod.mk.injEq] at hf
      obtain ⟨rfl, rfl⟩ := hf
      have hc2 := h2.cell
      have hf2 := h2.frozen
      have hc3 := h3.cell
      have hf3 := h3.frozen
      have hc4 := h4.cell
      obtain ⟨A, c, rfl⟩ := owns_slice h5
      gi_wp2
      have hKO : KeepsOthers W ((W.setCell ⟨w.heap.size, 0, none⟩ (.slice A ((cuts a0).length) c)).setCell ⟨w.heap.size + 1, 0, none⟩ .nilIface) := (KeepsOthers.setCell _ _ _).trans (KeepsOthers.setCell _ _ _)
      have hK' := hKO.same _ _ hK rfl
      have e2 : Boxed ((W.setCell ⟨w.heap.size, 0, none⟩ (.slice A ((cuts a0).length) c)).setCell ⟨w.heap.size + 1, 0, none⟩ .nilIface) w.heap.size 27 (.slice A ((cuts a0).length) c) := (h2.set _).other (by omega) _
      have e3 : Boxed ((W.setCell ⟨w.heap.size, 0, none⟩ (.slice A ((cuts a0).length) c)).setCell ⟨w.heap.size + 1, 0, none⟩ .nilIface) (w.heap.size + 1) 29 .nilIface := (h3.other (by omega) _).set _
      have e5 := owns_end h5 (b := w.heap.size) (c := w.heap.size + 1) (by omega) (by omega) (.slice A ((cuts a0).length) c) .nilIface
      have hB := (hb.setCell (p := ⟨w.heap.size, 0, none⟩) (Nat.le_refl _) (.slice A ((cuts a0).length) c)).setCell (p := ⟨w.heap.size + 1, 0, none⟩) (by simp) .nilIface
      refine ⟨by simp, .inl ⟨_, _, rfl, run_takeDeferred hK', ?_⟩⟩
      exact ⟨.tuple #[_, _], results_two rfl rfl (boxed_put e2 _ hK' rfl).cell (boxed_put e3 _ hK' rfl).cell, ⟨.slice A ((cuts a0).length) c, .slice none 0 0, rfl, Kd.R_lower (Kd.R_of_own (enc := Value.string) (ownsRow_putObj e5 _ hK' rfl) (fun _ _ => trivial)) (by omega), Kd.R_nil _ _ _ _ _, below_put (o := .deferred (some [])) hB _ (by omega)⟩⟩
    case stop =>
      rintro c0 pre W hpre (⟨rfl, rfl, h2, h3, ⟨v, h4, h5⟩, hb, hz⟩ | ⟨rfl, rfl, g, x, rfl, h2, h3, h4, hg, hb⟩) hK
      · have hc2 := h2.cell
        have hf2 := h2.frozen
        have hc3 := h3.cell
        have hf3 := h3.frozen
        have hc4 := h4.cell
        obtain ⟨A, c, rfl⟩ := owns_slice h5
        gi_wp2
        have hKO : KeepsOthers W ((W.setCell ⟨w.heap.size, 0, none⟩ (.slice A r1.length c)).setCell ⟨w.heap.size + 1, 0, none⟩ .nilIface) := (KeepsOthers.setCell _ _ _).trans (KeepsOthers.setCell _ _ _)
        have hK' := hKO.same _ _ hK rfl
        have e2 : Boxed ((W.setCell ⟨w.heap.size, 0, none⟩ (.slice A r1.length c)).setCell ⟨w.heap.size + 1, 0, none⟩ .nilIface) w.heap.size 27 (.slice A r1.length c) := (h2.set _).other (by omega) _
        have e3 : Boxed ((W.setCell ⟨w.heap.size, 0, none⟩ (.slice A r1.length c)).setCell ⟨w.heap.size + 1, 0, none⟩ .nilIface) (w.heap.size + 1) 29 .nilIface := (h3.other (by omega) _).set _
        have e5 := owns_end h5 (b := w.heap.size) (c := w.heap.size + 1) (by omega) (by omega) (.slice A r1.length c) .nilIface
        have hB := (hb.setCell (p := ⟨w.heap.size, 0, none⟩) (Nat.le_refl _) (.slice A r1.length c)).setCell (p := ⟨w.heap.size + 1, 0, none⟩) (by simp) .nilIface
        refine ⟨by simp, .inl ⟨_, _, rfl, run_takeDeferred hK', ?_⟩⟩
        exact ⟨.tuple #[_, _], results_two rfl rfl (boxed_put e2 _ hK' rfl).cell (boxed_put e3 _ hK' rfl).cell, ⟨.slice A r1.length c, .slice none 0 0, rfl, Kd.R_lower (Kd.R_of_own (enc := Value.string) (ownsRow_putObj e5 _ hK' rfl) (fun _ _ => trivial)) (by omega), Kd.R_nil _ _ _ _ _, below_put (o := .deferred (some [])) hB _ (by omega)⟩⟩
      · gi_wp2
        refine ⟨by simp, .inl ⟨_, _, rfl, run_takeDeferred hK, ?_⟩⟩
        have hne : g ≠ W3.heap.size := fun e => by subst e; rw [h4] at hK; cases hK
        exact ⟨.tuple #[_, _], results_two rfl rfl (boxed_put h2 _ hK rfl).cell (boxed_put h3 _ hK rfl).cell, ⟨.slice none 0 0, .slice (some ⟨g, 0, none⟩) 1 1, rfl, Kd.R_nil _ _ _ _ _, errR_at ((World.putObj_heap_other hne).trans h4) hg, below_put (o := .deferred (some [])) hb _ (by omega)⟩⟩
end Go.Proofs.YtnecoebdmjkblaaDoor.H
