/- Ghost operations on values alone: each comes to what the model's operation comes to. -/
import Derived.Test.YtaoanbebgeeicaaGreatDoorG1
namespace Go.Proofs.YtaoanbebgeeicaaGreatDoor.G
open Go Go.RowKit
set_option linter.unusedVariables false
set_option linter.unusedSimpArgs false

/-- A computation that reads and writes nothing and comes to a value. -/
def Pur (P : Program) (r : Rho) (s : Sem Value) (v : AV) : Prop := ∃ v', RV r v v' ∧ ∀ w, s.run P w = .ok v' w

theorem bytes_toList {s : List Nat} : (bytesOf s).toList = s.map UInt8.ofNat := by rw [ByteArray.toList_eq]; simp [bytesOf]
theorem bytes_size {s : List Nat} : (bytesOf s).size = s.length := by simp [bytesOf, ByteArray.size]
theorem u8_inj {x y : Nat} (hx : x < 256) (hy : y < 256) (h : UInt8.ofNat x = UInt8.ofNat y) : x = y := by
  have := congrArg UInt8.toNat h
  simp at this; omega
def eqNs : List Nat → List Nat → Bool
  | [], [] => true
  | x :: xs, y :: ys => if Nat.beq x y then eqNs xs ys else false
  | _, _ => false
def ltNs : List Nat → List Nat → Bool
  | _, [] => false
  | [], _ :: _ => true
  | x :: xs, y :: ys => if Nat.blt x y then true else if Nat.beq x y then ltNs xs ys else false
theorem eqNs_ok : ∀ (s t : List Nat), (∀ x ∈ s, x < 256) → (∀ x ∈ t, x < 256) → ((s.map UInt8.ofNat) == (t.map UInt8.ofNat)) = eqNs s t
  | [], [], _, _ => rfl
  | [], _ :: _, _, _ => rfl
  | _ :: _, [], _, _ => rfl
  | x :: xs, y :: ys, h, k => by
    have ih := eqNs_ok xs ys (fun z hz => h z (by simp [hz])) (fun z hz => k z (by simp [hz]))
    simp only [List.map_cons, eqNs]
    by_cases e : x = y
    · subst e; simp only [Nat.beq_refl, if_true]; rw [← ih]; simp
    · have hne : UInt8.ofNat x ≠ UInt8.ofNat y := fun he => e (u8_inj (h x (by simp)) (k y (by simp)) he)
      have : Nat.beq x y = false := Bool.eq_false_iff.mpr fun hb => e (Nat.eq_of_beq_eq_true hb)
      rw [this]; simp [hne]
theorem ltNs_ok : ∀ (s t : List Nat), (∀ x ∈ s, x < 256) → (∀ x ∈ t, x < 256) → Op.bytesLess (s.map UInt8.ofNat) (t.map UInt8.ofNat) = ltNs s t
  | [], [], _, _ => rfl
  | [], _ :: _, _, _ => rfl
  | _ :: _, [], _, _ => rfl
  | x :: xs, y :: ys, h, k => by
    have ih := ltNs_ok xs ys (fun z hz => h z (by simp [hz])) (fun z hz => k z (by simp [hz]))
    have hx := h x (by simp)
    have hy := k y (by simp)
    simp only [List.map_cons, ltNs, Op.bytesLess, ih]
    have hl : decide (UInt8.ofNat x < UInt8.ofNat y) = Nat.blt x y := by
      rw [Bool.eq_iff_iff, decide_eq_true_iff, UInt8.lt_iff_toNat_lt, UInt8.toNat_ofNat', UInt8.toNat_ofNat', Nat.mod_eq_of_lt (show x < 2 ^ 8 by omega), Nat.mod_eq_of_lt (show y < 2 ^ 8 by omega)]
      exact ⟨fun h => Nat.ble_eq_true_of_le h, fun h => Nat.le_of_ble_eq_true h⟩
    rw [hl]
    cases hb : Nat.blt x y with
    | true => simp
    | false =>
      by_cases e : x = y
      · subst e; simp
      · have hne : UInt8.ofNat x ≠ UInt8.ofNat y := fun he => e (u8_inj hx hy he)
        have : Nat.beq x y = false := Bool.eq_false_iff.mpr fun hb => e (Nat.eq_of_beq_eq_true hb)
        rw [this]; simp [hne]

/-- Round a kind's range, quickly where it is within. -/
def IntKind.top : IntKind → Nat
  | .i8 => 127 | .i16 => 32767 | .i32 => 2147483647 | .i64 => 9223372036854775807 | .u8 => 255 | .u16 => 65535 | .u32 => 4294967295 | .u64 => 18446744073709551615
def fwrap (k : IntKind) (n : Int) : Int :=
  match n with
  | .ofNat m => if Nat.ble m (IntKind.top k) then .ofNat m else k.wrap (.ofNat m)
  | .negSucc m => if k.signed && Nat.ble m (IntKind.top k) then .negSucc m else k.wrap (.negSucc m)
theorem fwrap_ok (k : IntKind) (n : Int) : fwrap k n = k.wrap n := by
  cases n with
  | ofNat m =>
    simp only [fwrap]
    split
    · rename_i h
      have h := Nat.le_of_ble_eq_true h
      cases k <;> simp [IntKind.top] at h <;> simp [IntKind.wrap, IntKind.signed, IntKind.bits] <;> omega
    · rfl
  | negSucc m =>
    simp only [fwrap]
    split
    · rename_i h
      simp only [Bool.and_eq_true] at h
      have h2 := Nat.le_of_ble_eq_true h.2
      rw [Int.negSucc_eq]
      generalize hm : (m : Int) = z
      cases k <;> simp only [IntKind.top, IntKind.signed, Bool.false_eq_true, false_and, and_false] at h h2 <;> simp only [IntKind.wrap, IntKind.signed, IntKind.bits, Bool.true_and, decide_eq_true_eq, Nat.reduceSub, Int.reducePow] <;> split <;> rename_i hd <;> first | omega | (have hd' := of_decide_eq_false (Bool.eq_false_iff.mpr hd); omega)
    · rfl

def intBin (op : BinOp) (k : IntKind) (a b : Int) : Option AV :=
  match op with
  | .add => some (.int k (fwrap k (a + b)))
  | .sub => some (.int k (fwrap k (a - b)))
  | .mul => some (.int k (fwrap k (a * b)))
  | .quo => if b = 0 then none else some (.int k (fwrap k (a.tdiv b)))
  | .rem => if b = 0 then none else some (.int k (a.tmod b))
  | .and => some (.int k (k.wrap ((BitVec.ofInt k.bits a &&& BitVec.ofInt k.bits b).toNat)))
  | .or => some (.int k (k.wrap ((BitVec.ofInt k.bits a ||| BitVec.ofInt k.bits b).toNat)))
  | .xor => some (.int k (k.wrap ((BitVec.ofInt k.bits a ^^^ BitVec.ofInt k.bits b).toNat)))
  | .andNot => some (.int k (k.wrap ((BitVec.ofInt k.bits a &&& ~~~ BitVec.ofInt k.bits b).toNat)))
  | .eql => some (.bool (decide (a = b)))
  | .neq => some (.bool (!decide (a = b)))
  | .lss => some (.bool (decide (a < b)))
  | .leq => some (.bool (decide (a ≤ b)))
  | .gtr => some (.bool (decide (b < a)))
  | .geq => some (.bool (decide (b ≤ a)))
  | _ => none
theorem intBin_ok {P : Program} {r : Rho} {op : BinOp} {t : TypeId} {k : IntKind} {a b : Int} {v : AV} (x y : Operand) (h : intBin op k a b = some v) :
    Pur P r (do eqGuard op t x y (.int k a) (.int k b); binOp op t (.int k a) (.int k b)) v := by
  cases op <;> simp only [intBin, Option.some.injEq, reduceCtorEq] at h <;> first
    | (subst h; refine ⟨_, rfl, fun w => ?_⟩; simp [binOp, Op.intArith, Op.intBits, Op.intCmp, fwrap_ok, eqGuard]; done)
    | (split at h
       · cases h
       · cases h; rename_i hb; refine ⟨_, rfl, fun w => ?_⟩; simp [binOp, Op.intDiv, hb, fwrap_ok, eqGuard]; done)
    | (subst h; refine ⟨_, rfl, fun w => ?_⟩; simp [binOp, Op.intCmp, eqGuard]; try (rw [Bool.eq_iff_iff]; simp); try rfl; done)

def shiftBin (op : BinOp) (k : IntKind) (a b : Int) : Option AV :=
  if b < 0 then none else match op with
  | .shl => some (.int k (fwrap k (a * 2 ^ (min b.toNat k.bits))))
  | .shr => some (.int k (a.fdiv (2 ^ (min b.toNat k.bits))))
  | _ => none
theorem shiftBin_ok {P : Program} {r : Rho} {op : BinOp} {t : TypeId} {k k' : IntKind} {a b : Int} {v : AV} (x y : Operand) (h : shiftBin op k a b = some v) :
    Pur P r (do eqGuard op t x y (.int k a) (.int k' b); binOp op t (.int k a) (.int k' b)) v := by
  unfold shiftBin at h
  split at h
  · cases h
  · rename_i hb
    cases op <;> simp only [Option.some.injEq, reduceCtorEq] at h <;> subst h <;> refine ⟨_, rfl, fun w => ?_⟩ <;> simp [binOp, Op.shift, hb, fwrap_ok, eqGuard]

def strBin (op : BinOp) (a b : List Nat) : Option AV :=
  match op with
  | .add => if Nat.ble (a.length + b.length) 1000000000 then some (.str (a ++ b)) else none
  | .eql => some (.bool (eqNs a b))
  | .neq => some (.bool (!eqNs a b))
  | .lss => some (.bool (ltNs a b))
  | .leq => some (.bool (ltNs a b || eqNs a b))
  | .gtr => some (.bool (!(ltNs a b || eqNs a b)))
  | .geq => some (.bool (!ltNs a b))
  | _ => none
theorem bytes_append {a b : List Nat} : bytesOf a ++ bytesOf b = bytesOf (a ++ b) := by
  apply ByteArray.ext; simp [bytesOf]
theorem strBin_ok {P : Program} {r : Rho} {op : BinOp} {t : TypeId} {a b : List Nat} {v : AV} (x y : Operand) (h : strBin op a b = some v) (ha : ∀ z ∈ a, z < 256) (hb : ∀ z ∈ b, z < 256) :
    Pur P r (do eqGuard op t x y (.string (bytesOf a)) (.string (bytesOf b)); binOp op t (.string (bytesOf a)) (.string (bytesOf b))) v := by
  have he : ((bytesOf a).toList == (bytesOf b).toList) = eqNs a b := by rw [bytes_toList, bytes_toList]; exact eqNs_ok a b ha hb
  have hl : Op.bytesLess (bytesOf a).toList (bytesOf b).toList = ltNs a b := by rw [bytes_toList, bytes_toList]; exact ltNs_ok a b ha hb
  cases op <;> simp only [strBin, Option.some.injEq, reduceCtorEq] at h
  case add =>
    split at h
    · rename_i hs
      cases h
      have hs := Nat.le_of_ble_eq_true hs
      refine ⟨_, ⟨rfl, fun z hz => ?_⟩, fun w => ?_⟩
      · rcases List.mem_append.mp hz with hz | hz
        · exact ha z hz
        · exact hb z hz
      · have hfit : ¬ (((bytesOf a).size + (bytesOf b).size : Nat) : Int) > IntKind.i64.max := by
          rw [bytes_size, bytes_size]; have : IntKind.i64.max = 9223372036854775807 := rfl
          omega
        simp only [eqGuard_add, binOp, Op.stringOp, bytes_append]
        rw [if_neg hfit]; rfl
    · cases h
  all_goals (subst h; refine ⟨_, rfl, fun w => ?_⟩; simp only [binOp, Op.stringOp, he, hl]; cases x <;> cases y <;> rfl)

/-- nil against a value of an interface; two values of interfaces over whole numbers. -/
def isConst : Operand → Bool
  | .const _ => true
  | _ => false
def isAggB (P : Program) (t : TypeId) : Bool :=
  match P.underlying t with
  | some (.struct _) | some (.array _ _) => true
  | _ => false
theorem run_isAgg {P : Program} {t : TypeId} {d : TypeDesc} (h : P.underlying t = some d) (w : World) : (isAgg t).run P w = .ok (isAggB P t) w := by
  simp only [isAgg, Sem.run_bind, run_underlying h, Result.andThen_ok, isAggB, h]
  cases d <;> rfl
theorem info_of_under {P : Program} {t : TypeId} {d : TypeDesc} (h : P.underlying t = some d) : ∃ i, P.info? t = some i := by
  unfold Program.underlying at h
  cases hi : P.info? t with
  | none => rw [hi] at h; cases h
  | some i => exact ⟨i, rfl⟩
theorem run_sizeOf {P : Program} {t : TypeId} {i : TypeInfo} (h : P.info? t = some i) (w : World) : (sizeOf t).run P w = .ok i.size w := by
  simp [sizeOf, typeInfo, h]
def partAV (P : Program) (t : TypeId) (cs : List AV) (off : Nat) : Option AV :=
  match P.underlying t, P.info? t with
  | some _, some i => if isAggB P t then some (.agg ((cs.drop off).take i.size)) else cs[off]?
  | _, _ => none
theorem partAV_ok {P : Program} {r : Rho} {t : TypeId} {cs : List AV} {cs' : Array Value} {off : Nat} {v : AV} (h : partAV P t cs off = some v) (hc : RVs r cs cs'.toList) : Pur P r (part t cs' off) v := by
  unfold partAV at h
  split at h
  · rename_i d i hd hi
    cases hb : isAggB P t with
    | true =>
      rw [hb] at h; simp only [if_true, Option.some.injEq] at h; subst h
      refine ⟨.agg (cs'.extract off (off + i.size)), ⟨_, rfl, ?_⟩, fun w => ?_⟩
      · rw [Array.toList_extract, List.extract_eq_take_drop, Nat.add_sub_cancel_left]; exact (hc.drop off).take _
      · simp [part, run_isAgg hd, hb, run_sizeOf hi]
    | false =>
      rw [hb] at h; simp only [Bool.false_eq_true, if_false] at h
      obtain ⟨v', hv, hr⟩ := hc.get h
      refine ⟨v', hr, fun w => ?_⟩
      have : cs'[off]? = some v' := by rw [← Array.getElem?_toList]; exact hv
      simp [part, run_isAgg hd, hb, this]
  · cases h

def eqFs (P : Program) (eq : TypeId → AV → AV → Option Bool) (xs ys : List AV) : List Field → Option Bool
  | [] => some true
  | f :: fs => if f.name ≠ "_" then
      match partAV P f.type xs f.offset, partAV P f.type ys f.offset with
      | some a, some b => (match eq f.type a b with | some true => eqFs P eq xs ys fs | some false => some false | none => none)
      | _, _ => none
    else eqFs P eq xs ys fs
def eqAV (P : Program) : Nat → TypeId → AV → AV → Option Bool
  | 0, _, _, _ => none
  | d + 1, t, x, y =>
    match P.underlying t with
    | some .bool => (match x, y with | .bool a, .bool b => some (a == b) | _, _ => none)
    | some (.int _) => (match x, y with | .int k a, .int k' b => if k = k' then some (decide (a = b)) else none | _, _ => none)
    | some .string => (match x, y with | .str a, .str b => some (eqNs a b) | _, _ => none)
    | some (.pointer _) => (match x, y with | .nilPtr, .nilPtr => some true | .nilPtr, .ptr _ _ => some false | .ptr _ _, .nilPtr => some false | _, _ => none)
    | some (.slice _) => (match x, y with | .nilSlice, .nilSlice => some true | .nilSlice, .slice _ _ _ _ _ => some false | .slice _ _ _ _ _, .nilSlice => some false | _, _ => none)
    | some (.func _ _ _) => (match x, y with | .nilFunc, .nilFunc => some true | .nilFunc, .func _ _ _ => some false | .func _ _ _, .nilFunc => some false | _, _ => none)
    | some (.interface _) => (match x, y with
      | .nilIface, .nilIface => some true | .nilIface, .iface _ _ => some false | .iface _ _, .nilIface => some false
      | .iface tx vx, .iface ty vy => if tx ≠ ty then some false else (match P.info? tx with | some i => if i.comparable then eqAV P d tx vx vy else none | none => none)
      | _, _ => none)
    | some (.struct fs) => (match x, y with | .agg xs, .agg ys => if P.stoodInHeld t then none else eqFs P (eqAV P d) xs ys fs.toList | _, _ => none)
    | _ => none
theorem eqFs_ok {P : Program} {r : Rho} {eq : TypeId → AV → AV → Option Bool} {D : Nat} (ih : ∀ t x y b x' y', eq t x y = some b → RV r x x' → RV r y y' → ∀ w, (Op.equalIn D t x' y').run P w = .ok b w)
    {xs ys : List AV} {xs' ys' : Array Value} (hx : RVs r xs xs'.toList) (hy : RVs r ys ys'.toList) : ∀ (fs : List Field) (b : Bool), eqFs P eq xs ys fs = some b → ∀ w, (Op.eqFields D xs' ys' fs).run P w = .ok b w
  | [], b, h, w => by simp only [eqFs, Option.some.injEq] at h; subst h; rfl
  | f :: fs, b, h, w => by
    simp only [eqFs] at h
    simp only [Op.eqFields]
    split at h
    · rename_i hn
      rw [if_pos hn]
      split at h
      · rename_i a c ha hc
        obtain ⟨a', ra, ea⟩ := partAV_ok ha hx
        obtain ⟨c', rc, ec⟩ := partAV_ok hc hy
        simp only [Sem.run_bind, ea, ec, Result.andThen_ok]
        split at h
        · rename_i he; rw [ih _ _ _ _ _ _ he ra rc]; simp only [Result.andThen_ok, Bool.not_true, Bool.false_eq_true, if_false]; exact eqFs_ok ih hx hy fs b h w
        · rename_i he; rw [ih _ _ _ _ _ _ he ra rc]; cases h; rfl
        · cases h
      · cases h
    · rename_i hn
      rw [if_neg hn]; exact eqFs_ok ih hx hy fs b h w
theorem eqAV_ok {P : Program} {r : Rho} : ∀ (d D : Nat), d ≤ D → ∀ t x y b x' y', eqAV P d t x y = some b → RV r x x' → RV r y y' → ∀ w, (Op.equalIn D t x' y').run P w = .ok b w
  | 0, D, _, t, x, y, b, x', y', h, _, _, _ => by simp [eqAV] at h
  | d + 1, 0, hD, _, _, _, _, _, _, _, _, _, _ => by omega
  | d + 1, D + 1, hD, t, x, y, b, x', y', h, hx, hy, w => by
    simp only [eqAV] at h
    split at h
    · rename_i hu
      split at h
      · cases h; simp only [RV] at hx hy; subst hx; subst hy; simp [Op.equalIn, run_underlying hu]
      · cases h
    · rename_i k hu
      split at h
      · split at h
        · rename_i hk; cases h; simp only [RV] at hx hy; subst hx; subst hy; subst hk; simp [Op.equalIn, run_underlying hu]; rfl
        · cases h
      · cases h
    · rename_i hu
      split at h
      · rename_i s1 s2
        cases h; simp only [RV] at hx hy; obtain ⟨rfl, h1⟩ := hx; obtain ⟨rfl, h2⟩ := hy
        rw [run_equalIn_string (h := hu), bytes_toList, bytes_toList, eqNs_ok _ _ h1 h2]
      · cases h
    · rename_i e hu
      split at h <;> (try cases h) <;> simp only [RV] at hx hy
      · subst hx; subst hy; simp [Op.equalIn, run_underlying hu]
      · obtain ⟨_, _, rfl⟩ := hy; subst hx; simp [Op.equalIn, run_underlying hu]
      · obtain ⟨_, _, rfl⟩ := hx; subst hy; simp [Op.equalIn, run_underlying hu]
    · rename_i e hu
      split at h <;> (try cases h) <;> simp only [RV] at hx hy
      · subst hx; subst hy; simp [Op.equalIn, run_underlying hu]
      · obtain ⟨_, _, _, rfl, _⟩ := hy; subst hx; simp [Op.equalIn, run_underlying hu]
      · obtain ⟨_, _, _, rfl, _⟩ := hx; subst hy; simp [Op.equalIn, run_underlying hu]
    · rename_i hu
      split at h <;> (try cases h) <;> simp only [RV] at hx hy
      · subst hx; subst hy; simp [Op.equalIn, run_underlying hu]
      · obtain ⟨_, _, rfl, _⟩ := hy; subst hx; simp [Op.equalIn, run_underlying hu]
      · obtain ⟨_, _, rfl, _⟩ := hx; subst hy; simp [Op.equalIn, run_underlying hu]
    · rename_i ms hu
      split at h
      · cases h; simp only [RV] at hx hy; subst hx; subst hy; simp [Op.equalIn, run_underlying hu]
      · cases h; simp only [RV] at hx hy; obtain ⟨_, rfl, _⟩ := hy; subst hx; simp [Op.equalIn, run_underlying hu]
      · cases h; simp only [RV] at hx hy; obtain ⟨_, rfl, _⟩ := hx; subst hy; simp [Op.equalIn, run_underlying hu]
      · rename_i tx vx ty vy
        simp only [RV] at hx hy; obtain ⟨x1, rfl, hx⟩ := hx; obtain ⟨y1, rfl, hy⟩ := hy
        split at h
        · rename_i hne; cases h; simp [Op.equalIn, run_underlying hu, hne]
        · rename_i hne
          split at h
          · rename_i i hi
            split at h
            · rename_i hc
              have he : tx = ty := Classical.not_not.mp hne
              have := eqAV_ok d D (by omega) tx vx vy b x1 y1 h hx hy w
              subst he
              simp [Op.equalIn, run_underlying hu, typeInfo, hi, hc, this]
            · cases h
          · cases h
      · cases h
    · rename_i fs hu
      split at h
      · split at h
        · cases h
        · rename_i hp
          simp only [RV] at hx hy; obtain ⟨x1, rfl, hx⟩ := hx; obtain ⟨y1, rfl, hy⟩ := hy
          have hf : P.fieldsOf t = fs := by simp [Program.fieldsOf, hu]
          rw [run_equalIn_struct w D t x1 y1 (by rw [hf]; exact hu) (by simpa using hp), hf]
          exact eqFs_ok (fun t x y b x' y' e1 e2 e3 w => eqAV_ok d D (by omega) t x y b x' y' e1 e2 e3 w) hx hy _ _ h w
      · cases h
    · cases h

def guardAV (P : Program) (t : TypeId) (x y : Operand) : AV → AV → Bool
  | .nilIface, .nilIface => isConst x || isConst y
  | .agg _, .agg _ => !P.eqGuardType P.depth t
  | _, _ => true
theorem guardAV_ok {P : Program} {r : Rho} {op : BinOp} {t : TypeId} {x y : Operand} {a b : AV} {a' b' : Value} (h : guardAV P t x y a b = true) (ha : RV r a a') (hb : RV r b b') (w : World) : (eqGuard op t x y a' b').run P w = .ok () w := by
  cases a <;> simp only [RV] at ha
  case nilIface =>
    subst ha
    cases b <;> simp only [RV] at hb
    case nilIface =>
      subst hb
      simp only [guardAV, Bool.or_eq_true] at h
      cases x <;> cases y <;> simp [isConst] at h <;> cases op <;> rfl
    all_goals first
      | (obtain ⟨_, _, rfl⟩ := hb; cases op <;> rfl)
      | (obtain ⟨_, _, _, rfl, _⟩ := hb; cases op <;> rfl)
      | (obtain ⟨_, _, rfl, _⟩ := hb; cases op <;> rfl)
      | (obtain ⟨_, rfl, _⟩ := hb; cases op <;> rfl)
      | (obtain ⟨rfl, _⟩ := hb; cases op <;> rfl)
      | (subst hb; cases op <;> rfl)
  case agg l =>
    obtain ⟨l', rfl, _⟩ := ha
    cases b <;> simp only [RV] at hb
    case agg m =>
      obtain ⟨m', rfl, _⟩ := hb
      simp only [guardAV, Bool.not_eq_true'] at h
      exact run_eqGuard_agg w op t x y l' m' h
    all_goals first
      | (obtain ⟨_, _, rfl⟩ := hb; cases op <;> rfl)
      | (obtain ⟨_, _, _, rfl, _⟩ := hb; cases op <;> rfl)
      | (obtain ⟨_, _, rfl, _⟩ := hb; cases op <;> rfl)
      | (obtain ⟨_, rfl, _⟩ := hb; cases op <;> rfl)
      | (obtain ⟨rfl, _⟩ := hb; cases op <;> rfl)
      | (subst hb; cases op <;> rfl)
  all_goals first
    | (obtain ⟨_, _, rfl⟩ := ha; cases op <;> rfl)
    | (obtain ⟨_, _, _, rfl, _⟩ := ha; cases op <;> rfl)
    | (obtain ⟨_, _, rfl, _⟩ := ha; cases op <;> rfl)
    | (obtain ⟨_, rfl, _⟩ := ha; cases op <;> rfl)
    | (obtain ⟨rfl, _⟩ := ha; cases op <;> rfl)
    | (subst ha; cases op <;> rfl)

def kindN : IntKind → Nat
  | .i8 => 0 | .i16 => 1 | .i32 => 2 | .i64 => 3 | .u8 => 4 | .u16 => 5 | .u32 => 6 | .u64 => 7
theorem kindN_inj {k k' : IntKind} (h : Nat.beq (kindN k) (kindN k') = true) : k = k' := by cases k <;> cases k' <;> first | rfl | cases h
/-- Any operator. -/
def binAV (P : Program) (op : BinOp) (t : TypeId) (x y : Operand) (a b : AV) : Option AV :=
  match a, b with
  | .int k m, .int k' n => (match op with
    | .shl | .shr => shiftBin op k m n
    | _ => if k = k' then intBin op k m n else none)
  | .str s, .str u => strBin op s u
  | .sy k z m c, .int k' n => if Nat.beq (kindN k) (kindN k') then (match op, n with | .rem, .ofNat n => if Nat.beq n m then some (.int k c) else none | _, _ => none) else none
  | .sy _ _ _ _, _ => none
  | _, .sy _ _ _ _ => none
  | a, b => if guardAV P t x y a b then (match op with
    | .eql => (match eqAV P 12 t a b with | some c => some (.bool c) | none => none)
    | .neq => (match eqAV P 12 t a b with | some c => some (.bool (!c)) | none => none)
    | _ => none) else none
theorem binOp_else {t : TypeId} {a' b' : Value} (hi : ∀ k m k' n, ¬ (a' = .int k m ∧ b' = .int k' n)) (hs : ∀ m n, ¬ (a' = .string m ∧ b' = .string n)) (hf : ∀ k m k' n, ¬ (a' = .float k m ∧ b' = .float k' n))
    (hc : ∀ k m n k' m' n', ¬ (a' = .complex k m n ∧ b' = .complex k' m' n')) :
    binOp .eql t a' b' = (do pure (.bool (← Op.equal t a' b'))) ∧ binOp .neq t a' b' = (do pure (.bool (!(← Op.equal t a' b')))) := by
  cases a' <;> cases b' <;> first
    | exact ⟨rfl, rfl⟩
    | exact absurd ⟨rfl, rfl⟩ (hi _ _ _ _)
    | exact absurd ⟨rfl, rfl⟩ (hs _ _)
    | exact absurd ⟨rfl, rfl⟩ (hf _ _ _ _)
    | exact absurd ⟨rfl, rfl⟩ (hc _ _ _ _ _ _)
theorem RV.noFloat {r : Rho} {a : AV} {v : Value} (h : RV r a v) : (∀ k n, v ≠ .float k n) ∧ (∀ k m n, v ≠ .complex k m n) ∧ (∀ k n, v = .int k n → a = .int k n ∨ ∃ m c, a = .sy k n m c) ∧ (∀ s, v = .string s → ∃ u, a = .str u) := by
  refine ⟨fun k n e => ?_, fun k m n e => ?_, fun k n e => ?_, fun s e => ?_⟩ <;> subst e <;> cases a <;> simp only [RV] at h <;> first
    | (cases h; exact .inl rfl)
    | (obtain ⟨h, _⟩ := h; cases h; exact .inr ⟨_, _, rfl⟩)
    | exact ⟨_, rfl⟩
    | (cases h; done)
    | (obtain ⟨_, _, h⟩ := h; cases h; done)
    | (obtain ⟨_, _, _, h, _⟩ := h; cases h; done)
    | (obtain ⟨_, _, h, _⟩ := h; cases h; done)
    | (obtain ⟨_, h, _⟩ := h; cases h; done)
    | (obtain ⟨h, _⟩ := h; cases h; done)
theorem binAV_ok {P : Program} {r : Rho} {op : BinOp} {t : TypeId} {x y : Operand} {a b v : AV} {a' b' : Value} (h : binAV P op t x y a b = some v) (ha : RV r a a') (hb : RV r b b') :
    Pur P r (do eqGuard op t x y a' b'; binOp op t a' b') v := by
  unfold binAV at h
  split at h
  · rename_i k m k' n
    simp only [RV] at ha hb; subst ha; subst hb
    split at h
    · exact shiftBin_ok x y h
    · exact shiftBin_ok x y h
    · split at h
      · rename_i hk; subst hk; exact intBin_ok x y h
      · cases h
  · simp only [RV] at ha hb; obtain ⟨rfl, ha⟩ := ha; obtain ⟨rfl, hb⟩ := hb
    exact strBin_ok x y h ha hb
  · rename_i k z m c k' n
    simp only [RV] at ha hb; subst hb; obtain ⟨rfl, h1, h2, h3, h4⟩ := ha
    split at h
    · rename_i hk
      have := kindN_inj hk; subst this
      split at h
      · rename_i n
        split at h
        · rename_i hn; cases h
          have := Nat.eq_of_beq_eq_true hn; subst this
          refine ⟨_, rfl, fun w => ?_⟩
          have h0 : ¬ (Int.ofNat n = 0) := by simp; omega
          rw [← h4]; simp [eqGuard_rem, binOp, Op.intDiv]; intro h; omega
        · cases h
      · cases h
    · cases h
  · cases h
  · cases h
  · rename_i hs1 hs2 hni hns hs0
    split at h
    · rename_i hg
      have hgd := fun w => guardAV_ok (op := op) hg ha hb w
      have fa := ha.noFloat
      have fb := hb.noFloat
      have he := binOp_else (t := t) (a' := a') (b' := b')
        (fun k m k' n ⟨e1, e2⟩ => by
          rcases fa.2.2.1 k m e1 with ha1 | ⟨x, y, ha1⟩
          · rcases fb.2.2.1 k' n e2 with hb1 | ⟨x, y, hb1⟩
            · exact hni k m k' n ha1 hb1
            · exact hs2 _ _ _ _ hb1
          · exact hs1 _ _ _ _ ha1)
        (fun m n ⟨e1, e2⟩ => by obtain ⟨u1, h1⟩ := fa.2.2.2 m e1; obtain ⟨u2, h2⟩ := fb.2.2.2 n e2; exact hns u1 u2 h1 h2)
        (fun k m k' n ⟨e1, e2⟩ => fa.1 k m e1) (fun k m n k' m' n' ⟨e1, e2⟩ => fa.2.1 k m n e1)
      split at h
      · split at h
        · rename_i c hc
          cases h
          refine ⟨_, rfl, fun w => ?_⟩
          have := eqAV_ok 12 10000 (by omega) _ _ _ _ _ _ hc ha hb w
          simp [hgd, he.1, Op.equal, Op.maxDepth, this]
        · cases h
      · split at h
        · rename_i c hc
          cases h
          refine ⟨_, rfl, fun w => ?_⟩
          have := eqAV_ok 12 10000 (by omega) _ _ _ _ _ _ hc ha hb w
          simp [hgd, he.2, Op.equal, Op.maxDepth, this]
        · cases h
      · cases h
    · cases h

def unAV (op : UnOp) (a : AV) : Option AV :=
  match op, a with
  | .not, .bool b => some (.bool (!b))
  | .neg, .int k n => some (.int k (fwrap k (0 - n)))
  | _, _ => none
theorem unAV_ok {P : Program} {r : Rho} {op : UnOp} {a v : AV} {a' : Value} (h : unAV op a = some v) (ha : RV r a a') : Pur P r (Op.unary op a') v := by
  unfold unAV at h
  split at h
  · cases h; simp only [RV] at ha; subst ha; exact ⟨_, rfl, fun w => rfl⟩
  · cases h; simp only [RV] at ha; subst ha; exact ⟨_, rfl, fun w => by simp [Op.unary, Op.intArith, fwrap_ok]⟩
  · cases h

def convAV (P : Program) (src dst : TypeId) (a : AV) : Option AV :=
  match P.underlying src, P.underlying dst, a with
  | some _, some (.int k), .int _ n => some (.int k (fwrap k n))
  | some .string, some .string, .str s => some (.str s)
  | some _, some (.int .i64), .sy _ z m c => some (.sy .i64 z m c)
  | _, _, _ => none
theorem convAV_ok {P : Program} {r : Rho} {src dst : TypeId} {a v : AV} {a' : Value} (h : convAV P src dst a = some v) (ha : RV r a a') : Pur P r (convert src dst a') v := by
  unfold convAV at h
  split at h
  · rename_i hs hd; cases h; simp only [RV] at ha; subst ha; exact ⟨_, rfl, fun w => by simp [convert, run_underlying hs, run_underlying hd, Conv.intToInt, fwrap_ok]⟩
  · rename_i hs hd; cases h; have h0 := ha; simp only [RV] at ha; obtain ⟨rfl, _⟩ := ha; exact ⟨_, h0, fun w => by simp [convert, run_underlying hs, run_underlying hd]⟩
  · rename_i hs hd; cases h; simp only [RV] at ha; obtain ⟨rfl, h1, h2, h3⟩ := ha
    refine ⟨_, ⟨rfl, h1, h2, h3⟩, fun w => ?_⟩
    have hw : ∀ z : Int, -128 ≤ z → z ≤ 255 → IntKind.i64.wrap z = z := fun z a b => by simp only [IntKind.wrap, IntKind.bits, IntKind.signed, Bool.true_and, Nat.reduceSub, Int.reducePow]; split <;> rename_i hd <;> first | omega | (have := of_decide_eq_true hd; omega) | (have := of_decide_eq_false (Bool.eq_false_iff.mpr hd); omega)
    simp [convert, run_underlying hs, run_underlying hd, Conv.intToInt, hw _ h1 h2]
  · cases h

def extractAV (a : AV) (i : Nat) : Option AV := match a with | .tup l => l[i]? | _ => none
theorem extractAV_ok {P : Program} {r : Rho} {a v : AV} {i : Nat} {a' : Value} (h : extractAV a i = some v) (ha : RV r a a') : Pur P r (Instr.extract a' i) v := by
  unfold extractAV at h
  split at h
  · simp only [RV] at ha; obtain ⟨l', rfl, hl⟩ := ha
    obtain ⟨v', hv, hr⟩ := hl.get h
    rw [Array.getElem?_toList] at hv
    exact ⟨v', hr, fun w => by simp [Instr.extract, hv]⟩
  · cases h

def fieldsB (P : Program) (t : TypeId) (i : Nat) : Option Field := match P.underlying t with | some (.struct fs) => fs[i]? | _ => none
def fieldAddrAV (P : Program) (s : TypeId) (a : AV) (i : Nat) : Option AV :=
  match fieldsB P s i, a with
  | some f, .ptr n o => (match P.info? f.type with | some j => if j.size = 0 then none else some (.ptr n (o + f.offset)) | none => none)
  | _, _ => none
theorem addr_add (b d n : Nat) : (⟨b, d, none⟩ : Addr).add n = ⟨b, d + n, none⟩ := Addr.add_lit b d n
theorem fieldAddrAV_ok {P : Program} {r : Rho} {s : TypeId} {a v : AV} {i : Nat} {a' : Value} (h : fieldAddrAV P s a i = some v) (ha : RV r a a') : Pur P r (Instr.fieldAt s a' i) v := by
  unfold fieldAddrAV at h
  split at h
  · rename_i f n o hf
    unfold fieldsB at hf
    split at hf
    · rename_i fs hu
      simp only [RV] at ha; obtain ⟨p, hp, rfl⟩ := ha
      split at h
      · rename_i j hj
        split at h
        · cases h
        · rename_i h0; cases h
          refine ⟨.pointer (some ⟨p.b, p.d + o + f.offset, none⟩), ⟨p, hp, by rw [Nat.add_assoc]⟩, fun w => ?_⟩
          simp [Instr.fieldAt, run_underlying hu, hf, Instr.sureAddr, fieldPlace, run_sizeOf hj, h0, addr_add]
      · cases h
    · cases hf
  · cases h
def fieldAV (P : Program) (s : TypeId) (a : AV) (i : Nat) : Option AV :=
  match fieldsB P s i, a with
  | some f, .agg l => partAV P f.type l f.offset
  | _, _ => none
theorem fieldAV_ok {P : Program} {r : Rho} {s : TypeId} {a v : AV} {i : Nat} {a' : Value} (h : fieldAV P s a i = some v) (ha : RV r a a') : Pur P r (Instr.field s a' i) v := by
  unfold fieldAV at h
  split at h
  · rename_i f l hf
    unfold fieldsB at hf
    split at hf
    · rename_i fs hu
      simp only [RV] at ha; obtain ⟨l', rfl, hl⟩ := ha
      obtain ⟨v', hr, he⟩ := partAV_ok h hl
      exact ⟨v', hr, fun w => by simp [Instr.field, run_underlying hu, hf, asAgg, he]⟩
    · cases hf
  · cases h
def elemB (P : Program) (t : TypeId) : Option TypeId := match P.underlying t with | some (.slice e) => some e | _ => none
theorem elemB_ok {P : Program} {t e : TypeId} (h : elemB P t = some e) : P.underlying t = some (.slice e) := by
  unfold elemB at h; split at h
  · cases h; assumption
  · cases h
def natOf : Int → Option Nat
  | .ofNat n => some n
  | .negSucc _ => none
theorem natOf_ok {i : Int} {n : Nat} (h : natOf i = some n) : i = (n : Int) := by cases i <;> simp [natOf] at h; subst h; rfl
def indexAddrAV (P : Program) (t : TypeId) (a i : AV) : Option AV :=
  match elemB P t, a, i with
  | some e, .slice n o len _ _, .int _ z => (match natOf z, P.info? e with | some j, some inf => if Nat.blt j len then some (.ptr n (o + j * inf.size)) else none | _, _ => none)
  | _, _, _ => none
theorem indexAddrAV_ok {P : Program} {r : Rho} {t : TypeId} {a i v : AV} {a' i' : Value} (h : indexAddrAV P t a i = some v) (ha : RV r a a') (hi : RV r i i') : Pur P r (Instr.indexAt t a' i') v := by
  unfold indexAddrAV at h
  split at h
  · rename_i e n o len ex cap k z he
    have hu := elemB_ok he
    simp only [RV] at ha hi; subst hi; obtain ⟨p, c, hp, rfl, hlen, hcap⟩ := ha
    split at h
    · rename_i j inf hj hinf
      split at h
      · rename_i hlt
        cases h
        have hlt : j < len := Nat.le_of_ble_eq_true hlt
        have := natOf_ok hj; subst this
        refine ⟨.pointer (some ⟨p.b, p.d + o + j * inf.size, none⟩), ⟨p, hp, by rw [Nat.add_assoc]⟩, fun w => ?_⟩
        simp [Instr.indexAt, asIntOf, run_underlying hu, hlt, run_sizeOf hinf, addr_add]
      · cases h
    · cases h
  · cases h
theorem data_at (s : ByteArray) (i : Nat) (h : i < s.size) : s.data.toList[i]? = some s[i] := by
  rw [Array.getElem?_toList]; exact Array.getElem?_eq_getElem h
def indexAV (P : Program) (t : TypeId) (a i : AV) : Option AV :=
  match P.underlying t, a, i with
  | some .string, .str s, .int _ z => (match natOf z with | some j => (match s[j]? with | some b => some (.int .u8 b) | none => none) | none => none)
  | _, _, _ => none
theorem indexAV_ok {P : Program} {r : Rho} {t : TypeId} {a i v : AV} {a' i' : Value} (h : indexAV P t a i = some v) (ha : RV r a a') (hi : RV r i i') : Pur P r (Instr.index t a' i') v := by
  unfold indexAV at h
  split at h
  · rename_i s k z hu
    simp only [RV] at ha hi; subst hi; obtain ⟨rfl, hs⟩ := ha
    split at h
    · rename_i j hj
      split at h
      · rename_i b hb
        cases h
        have := natOf_ok hj; subst this
        refine ⟨_, rfl, fun w => ?_⟩
        have hg : (bytesOf s)[j]? = some (UInt8.ofNat b) := by
          have h1 : (s.map UInt8.ofNat)[j]? = some (UInt8.ofNat b) := by rw [List.getElem?_map, hb]; rfl
          have h2 : j < (bytesOf s).size := by rw [bytes_size]; exact (List.getElem?_eq_some_iff.mp hb).1
          rw [ByteArray.getElem?_lt' _ _ h2, ← data_at _ _ h2]; exact h1
        have hlt := hs b (List.mem_of_getElem? hb)
        simp [Instr.index, asIntOf, run_underlying hu, hg, Nat.mod_eq_of_lt hlt]
      · cases h
    · cases h
  · cases h
end Go.Proofs.YtaoanbebgeeicaaGreatDoor.G
