/- Sx: types as a table, the symbolic heap, what it stands for, and the operations that change nothing. -/
import Derived.Test.YtlecpjgbmeejdaaDoorSxA
namespace Go.Sx

/-- A type's zero value, cell by cell. -/
inductive ZL where
  | nil
  | cons (v : Value) (r : ZL)
  | rep (es n : Nat) (z : ZL) (r : ZL)

def ofConst : Value → AV
  | .int k n => .int k n
  | .bool b => .bool b
  | .pointer none => .nilp
  | .slice none 0 0 => .nils
  | .string s => .str (Yard.cstr (Yard.litL s))
  | _ => .any

def zAV : ZL → List AV
  | .nil => []
  | .cons v r => ofConst v :: zAV r
  | .rep es n z r => .arr es n (fun _ => zAV z) :: zAV r
def zVal : ZL → List Value
  | .nil => []
  | .cons v r => v :: zVal r
  | .rep _ n z r => (List.replicate n (zVal z)).flatten ++ zVal r
def zok : ZL → Bool
  | .nil => true
  | .cons v r => (ofConst v).one && zok r
  | .rep es _ z r => zok z && (Nat.beq (zVal z).length es && zok r)

theorem cstr_data (s : ByteArray) : Yard.cstr (Yard.litL s) = s.data.toList.map fun c => (c.toNat : Int) := by
  rw [Yard.cstr, Yard.litL, List.map_map]; rfl
theorem octets_data (s : ByteArray) : Octets (s.data.toList.map fun c => (c.toNat : Int)) := by
  intro x hx
  obtain ⟨c, _, rfl⟩ := List.mem_map.1 hx
  have := c.toNat_lt
  omega

theorem bytesOf_data (s : ByteArray) : bytesOf (s.data.toList.map fun c => (c.toNat : Int)) = s := by
  unfold bytesOf
  have : (List.map (fun x : Int => x.toNat.toUInt8) (List.map (fun c : UInt8 => (c.toNat : Int)) s.data.toList)) = s.data.toList := by
    rw [List.map_map]
    conv => rhs; rw [← List.map_id s.data.toList]
    refine List.map_congr_left fun c _ => ?_
    simp
  rw [this]

/-- Where a call began: the world; what was read alone; the items that are pinned to their blocks. -/
structure Base extends World where
  R : Nat → Option Obj
  pins : Nat → Option (Option Nat)
  nst : Nat
  ids0 : Nat → Option Nat

variable {W W' : Base} {D D' : Nat → Prop} {R R' : Nat → Option Obj} {ids ids' : Nat → Option Nat}

theorem ofConst_ok (v : Value) : V R ids (ofConst v) v := by
  unfold ofConst
  split <;> first
    | exact .int _ _
    | exact .bool _
    | exact .nilp
    | exact .nils
    | exact .any _
    | skip
  rename_i s
  rw [cstr_data]
  conv => rhs; rw [← bytesOf_data s]
  exact .str _ (octets_data s)

theorem flatten_rep (n es : Nat) (l : List Value) (h : l.length = es) : ((List.replicate n l).flatten).length = es * n := by
  induction n with
  | zero => simp
  | succ n ih => rw [List.replicate_succ, List.flatten_cons, List.length_append, ih, h, Nat.mul_succ]; omega

theorem flatten_rep_get (n es : Nat) (l : List Value) (h : l.length = es) : ∀ i, i < n → (((List.replicate n l).flatten).drop (i * es)).take es = l := by
  induction n with
  | zero => intro i hi; omega
  | succ n ih =>
    intro i hi
    rw [List.replicate_succ, List.flatten_cons]
    cases i with
    | zero => rw [Nat.zero_mul, List.drop_zero, List.take_append_of_le_length (by omega), List.take_of_length_le (by omega)]
    | succ i =>
      rw [Nat.add_mul, Nat.one_mul, List.drop_append, List.drop_of_length_le (by omega), List.nil_append, h, Nat.add_sub_cancel]
      exact ih i (by omega)

theorem zAV_ok : ∀ (z : ZL) {ids : Nat → Option Nat}, zok z = true → Vs R ids (zAV z) (zVal z)
  | .nil, _, _ => .nil
  | .cons v r, _, h => by
    simp only [zok, Bool.and_eq_true] at h
    exact .one _ _ _ _ h.1 (ofConst_ok v) (zAV_ok r h.2)
  | .rep es n z r, _, h => by
    simp only [zok, Bool.and_eq_true] at h
    have hl := Nat.eq_of_beq_eq_true h.2.1
    exact .arr es n _ (fun _ => zVal z) _ _ _ (flatten_rep n es _ hl) (flatten_rep_get n es _ hl) (fun _ _ => zAV_ok z h.1) (zAV_ok r h.2.2)

/-- What the evaluator asks of a type. Fields: offset and type. -/
inductive TK where
  | int (k : IntKind) | bool | str
  | ptr (e : TypeId)
  | slice (e : TypeId)
  | struct (fs : List (Nat × TypeId))
  | array (n : Nat) (e : TypeId)
  | other

structure TI where
  kind : TK
  size : Nat
  bytes : Nat
  zero : ZL

def TK.desc (P : Program) (t : TypeId) : TK → Prop
  | .int k => P.underlying t = some (.int k)
  | .bool => P.underlying t = some .bool
  | .str => P.underlying t = some .string
  | .ptr e => P.underlying t = some (.pointer e)
  | .slice e => P.underlying t = some (.slice e)
  | .struct fs => (match P.underlying t with
      | some (.struct fa) => some (fa.toList.map fun f => (f.offset, f.type))
      | _ => none) = some fs
  | .array n e => P.underlying t = some (.array n e)
  | .other => True

structure TIok (P : Program) (t : TypeId) (ti : TI) : Prop where
  kind : ti.kind.desc P t
  info : (P.info? t).map (fun i => (i.size, i.bytes, i.zero.map fun z => z.cells.toList)) = some (ti.size, ti.bytes, some (zVal ti.zero))
  zok : zok ti.zero = true ∧ (zVal ti.zero).length = ti.size

def lk {α : Type} : List (Nat × α) → Nat → Option α
  | [], _ => none
  | (k, a) :: r, n => match Nat.beq k n with
    | true => some a
    | false => lk r n

theorem lk_mem {α : Type} : ∀ {l : List (Nat × α)} {n : Nat} {a : α}, lk l n = some a → (n, a) ∈ l
  | [], _, _, h => by cases h
  | (k, b) :: r, n, a, h => by
    simp only [lk] at h
    split at h
    · rename_i hk
      cases h
      rw [Nat.eq_of_beq_eq_true hk]
      exact List.mem_cons_self
    · exact List.mem_cons_of_mem _ (lk_mem h)

abbrev TB := List (Nat × TI)
/-- The library's table for trailing noughts. -/
def tabList : List Nat := [0, 1, 56, 2, 57, 49, 28, 3, 61, 58, 42, 50, 38, 29, 17, 4, 62, 47, 59, 36, 45, 43, 51, 22, 53, 39, 33, 30, 24, 18, 12, 5, 63, 55, 48, 27, 60, 41, 37, 16, 46, 35, 44, 21, 52, 32, 23, 11, 54, 26, 40, 15, 34, 20, 31, 10, 25, 14, 19, 9, 13, 8, 7, 6]
def tabCells : List Value := tabList.map fun n : Nat => .int .u8 (n : Int)
def hasTab (P : Program) : Bool := match P.globals[0]? with
  | some g => g.name == "math/bits.deBruijn64tab"
  | none => false
def TBok0 (P : Program) (tb : TB) : Prop := ∀ x ∈ tb, TIok P x.1 x.2
/-- A table that begins with the same row twice says that the program has the library's table. -/
def tabB (tb : TB) : Bool := match tb with
  | a :: b :: _ => Nat.beq a.1 b.1
  | _ => false
/-- What the table of types says is so. -/
def TBok (P : Program) (tb : TB) : Prop := TBok0 P tb ∧ (tabB tb = true → hasTab P = true)
theorem TBok.get {P : Program} {tb : TB} (h : TBok P tb) {t : Nat} {ti : TI} (hl : lk tb t = some ti) : TIok P t ti := h.1 _ (lk_mem hl)

/-- An object of which only its own words are told. -/
structure Ob where
  tag : List (List Int)
  holds : Nat → (Nat → Prop) → World → Prop
  here : ∀ b S w w', (∀ x, S x → w'.heap[x]? = w.heap[x]?) → holds b S w → holds b S w'

/-- 'view': elements that may be read alone. -/
inductive Item where
  | cells (T : TypeId) (l : List AV)
  | row (T : TypeId) (es cap n : Nat) (f : Nat → List AV)
  | view (es n : Nat) (f : Nat → List AV)
  | obj (A : Ob)
  | gone
  | junk
  | fence

abbrev AH := List Item
abbrev Fr := List AV

def Sat (R : Nat → Option Obj) (ids : Nat → Option Nat) (S : Nat → Prop) (w : World) (p : Nat) : Item → Prop
  | .cells T l => ∃ b cs, ids p = some b ∧ S b ∧ w.heap[b]? = some (.cells cs T (0, 0)) ∧ Vs R ids l cs.toList
  | .row T es cap n f => (ids p = none ∧ n = 0 ∧ cap = 0) ∨
      ∃ b cur, ids p = some b ∧ S b ∧ w.heap[b]? = some (.cells cur T (0, 0)) ∧ n ≤ cap ∧ cap ≤ maxLen ∧ cur.size = cap * es ∧ Vs R ids [.arr es n f] (cur.toList.take (es * n))
  | .view es n f => ∃ b cur T fr, ids p = some b ∧ S b ∧ w.heap[b]? = some (.cells cur T fr) ∧ es * n ≤ cur.size ∧ Vs R ids [.arr es n f] (cur.toList.take (es * n))
  | .obj A => ∃ b, ids p = some b ∧ S b ∧ A.holds b S w
  | .gone => True
  | .junk => True
  | .fence => True

/-- The world w of a call that began in W, and may write the blocks D of W. R: what nobody writes. own: whose block it is. -/
structure Rep (W : Base) (D : Nat → Prop) (R : Nat → Option Obj) (ids : Nat → Option Nat) (own : Nat → Option Nat) (H : AH) (w : World) : Prop where
  os : w.os = W.os
  tape : w.tape = W.tape
  output : w.output = W.output
  size : W.heap.size ≤ w.heap.size
  owns : ∀ b p, own b = some p → b < w.heap.size ∧ p < H.length ∧ R b = none ∧ (D b ∨ W.heap.size ≤ b)
  keep : ∀ b, b < W.heap.size → ¬ D b → w.heap[b]? = W.heap[b]?
  ro : ∀ b o, R b = some o → w.heap[b]? = some o
  items : ∀ p it, H[p]? = some it → Sat R ids (fun b => own b = some p) w p it
  blind : ∀ p, H.length ≤ p → ids p = none
  low : ∀ b o, W.R b = some o → R b = some o
  high : ∀ b o, R b = some o → W.R b = some o
  pins : ∀ p o, W.pins p = some o → ids p = o ∧ H[p]? = some .gone
  stay : H[W.nst]? = some .fence → ∀ q, q < W.nst → ids q = W.ids0 q

def ev (F : Fr) : Operand → AV
  | .tmp t => F.getD t .any
  | .const v => ofConst v
  | .func f => .fn f
  | _ => .any

theorem Ts.get {F : Fr} {vs : List Value} (h : Ts R ids F vs) (t : Nat) (u : Value) : V R ids (F.getD t .any) (vs.getD t u) := by
  match h, t with
  | .nil, _ => simp; exact .any _
  | .cons a v as vs h1 h2, 0 => simpa using h1
  | .cons a v as vs h1 h2, t + 1 => simpa using h2.get t u

theorem Ts.length {F : Fr} {vs : List Value} (h : Ts R ids F vs) : F.length = vs.length := by
  match h with
  | .nil => rfl
  | .cons a v as vs h1 h2 => simp [h2.length]

theorem Ts.set {F : Fr} {vs : List Value} (h : Ts R ids F vs) (t : Nat) {a : AV} {v : Value} (hv : V R ids a v) : Ts R ids (F.set t a) (vs.set t v) := by
  match h, t with
  | .nil, _ => exact .nil
  | .cons a' v' as vs h1 h2, 0 => exact .cons _ _ _ _ hv h2
  | .cons a' v' as vs h1 h2, t + 1 => exact .cons _ _ _ _ h1 (h2.set t hv)

theorem ev_ok {F : Fr} {a : Act} (h : Ts R ids F a.tmps.toList) (x : Operand) : V R ids (ev F x) (a.eval x) := by
  cases x with
  | tmp t =>
    have := h.get t undef
    simpa [ev, Act.eval] using this
  | const v => exact ofConst_ok v
  | global g => exact .any _
  | func f => exact .fn f

/-- A branch on a symbolic bool; on a literal it goes away by itself. -/
def BC (b : Bool) (t e : Prop) : Prop := match b with
  | true => t
  | false => e
theorem BC.intro {b : Bool} {t e : Prop} (h1 : b = true → t) (h2 : b = false → e) : BC b t e := by cases b <;> simp_all [BC]

def I64 (x : Int) : Prop := -9223372036854775808 ≤ x ∧ x ≤ 9223372036854775807
theorem wrap_I64 {x : Int} (h : I64 x) : IntKind.i64.wrap x = x := by
  rw [IntKind.wrap_i64]; unfold I64 at h; omega

def kb : IntKind → IntKind → Bool
  | .i8, .i8 | .i16, .i16 | .i32, .i32 | .i64, .i64 | .u8, .u8 | .u16, .u16 | .u32, .u32 | .u64, .u64 => true
  | _, _ => false
theorem kb_eq {k j : IntKind} (h : kb k j = true) : k = j := by cases k <;> cases j <;> simp_all [kb]

/-- A number of a kind: of int it is asked that nothing wraps. -/
def aNum (k : IntKind) (x : Int) (K : AV → Prop) : Prop := match k with
  | .i64 => I64 x ∧ K (.int .i64 x)
  | k => ∀ n, n = k.wrap x → K (.int k n)

theorem aNum_ok {k : IntKind} {x : Int} {K : AV → Prop} (h : aNum k x K) : ∃ av, V R ids av (.int k (k.wrap x)) ∧ K av := by
  unfold aNum at h
  split at h
  · exact ⟨_, by rw [wrap_I64 h.1]; exact .int _ _, h.2⟩
  · exact ⟨_, .int _ _, h _ rfl⟩

def aInt (op : BinOp) (k : IntKind) (x y : Int) (K : AV → Prop) : Prop := match op with
  | .add => aNum k (x + y) K
  | .sub => aNum k (x - y) K
  | .mul => aNum k (x * y) K
  | .quo => y ≠ 0 ∧ aNum k (x.tdiv y) K
  | .rem => y ≠ 0 ∧ ∀ n, n = x.tmod y → K (.int k n)
  | .and | .or | .xor | .andNot => ∀ n, n = bits op k x y → K (.int k n)
  | .eql => K (.bool (decide (x = y)))
  | .neq => K (.bool (!decide (x = y)))
  | .lss => K (.bool (decide (x < y)))
  | .leq => K (.bool (decide (x ≤ y)))
  | .gtr => K (.bool (decide (y < x)))
  | .geq => K (.bool (decide (y ≤ x)))
  | _ => False

def pow2 (n : Nat) : Int := 2 ^ n
def aShift (op : BinOp) (k : IntKind) (x y : Int) (K : AV → Prop) : Prop := match op with
  | .shl => 0 ≤ y ∧ ∀ n, n = k.wrap (x * 2 ^ (min y.toNat k.bits)) → K (.int k n)
  | .shr => 0 ≤ y ∧ ∀ n, n = x.fdiv (2 ^ (min y.toNat k.bits)) → K (.int k n)
  | _ => False

def aStr (op : BinOp) (l m : List Int) (K : AV → Prop) : Prop := match op with
  | .add => l.length + m.length ≤ 9223372036854775807 ∧ K (.str (l ++ m))
  | .eql => K (.bool (decide (l = m)))
  | .neq => K (.bool (!decide (l = m)))
  | _ => False

/-- Does a type take only the operands' own kinds of '=='? -/
def isScalarK : TK → Bool
  | .int _ | .bool | .str => true
  | _ => false

def aBin (tb : TB) (op : BinOp) (t : TypeId) (a b : AV) (K : AV → Prop) : Prop := match op, a, b with
  | .shl, .int k x, .int _ y => aShift .shl k x y K
  | .shr, .int k x, .int _ y => aShift .shr k x y K
  | op, .int k x, .int k' y => match kb k k' with
    | true => aInt op k x y K
    | false => False
  | op, .str l, .str m => aStr op l m K
  | .eql, .bool x, .bool y => match lk tb t with
    | some ⟨.bool, _, _, _⟩ => K (.bool (x == y))
    | _ => False
  | .neq, .bool x, .bool y => match lk tb t with
    | some ⟨.bool, _, _, _⟩ => K (.bool (!(x == y)))
    | _ => False
  | .eql, .ptr .., .nilp | .eql, .rp .., .nilp => match lk tb t with
    | some ⟨.ptr _, _, _, _⟩ => K (.bool false)
    | _ => False
  | .eql, .nilp, .nilp => match lk tb t with
    | some ⟨.ptr _, _, _, _⟩ => K (.bool true)
    | _ => False
  | .neq, .ptr .., .nilp | .neq, .rp .., .nilp => match lk tb t with
    | some ⟨.ptr _, _, _, _⟩ => K (.bool true)
    | _ => False
  | .neq, .nilp, .nilp => match lk tb t with
    | some ⟨.ptr _, _, _, _⟩ => K (.bool false)
    | _ => False
  | .eql, .sl _ _ _ _ _ _ cap, .nils => match lk tb t with
    | some ⟨.slice _, _, _, _⟩ => ∀ b, (cap ≠ 0 → b = false) → K (.bool b)
    | _ => False
  | .eql, .ro _ n _, .nils => match lk tb t with
    | some ⟨.slice _, _, _, _⟩ => ∀ b, (n ≠ 0 → b = false) → K (.bool b)
    | _ => False
  | .eql, .nils, .nils => match lk tb t with
    | some ⟨.slice _, _, _, _⟩ => K (.bool true)
    | _ => False
  | _, _, _ => False

section
variable {P : Program} {tb : TB} {K : AV → Prop} {w : World}

theorem int_beq (x y : Int) : (x == y) = decide (x = y) := by by_cases h : x = y <;> simp [h]

theorem aInt_ok {op : BinOp} {k : IntKind} {x y : Int} (hop : op ≠ .shl ∧ op ≠ .shr) (t : TypeId) (h : aInt op k x y K) :
    ∃ av v, (∀ w, (binOp op t (.int k x) (.int k y)).run P w = .ok v w) ∧ V R ids av v ∧ K av := by
  cases op <;> simp only [aInt] at h <;> try (first | exact h.elim | exact absurd rfl hop.1 | exact absurd rfl hop.2)
  case add => obtain ⟨av, h1, h2⟩ := aNum_ok (R := R) (ids := ids) h; exact ⟨av, _, fun w => by simp [binOp, Op.intArith], h1, h2⟩
  case sub => obtain ⟨av, h1, h2⟩ := aNum_ok (R := R) (ids := ids) h; exact ⟨av, _, fun w => by simp [binOp, Op.intArith], h1, h2⟩
  case mul => obtain ⟨av, h1, h2⟩ := aNum_ok (R := R) (ids := ids) h; exact ⟨av, _, fun w => by simp [binOp, Op.intArith], h1, h2⟩
  case quo => obtain ⟨av, h1, h2⟩ := aNum_ok (R := R) (ids := ids) h.2; exact ⟨av, _, fun w => by simp [binOp, Op.intDiv, h.1], h1, h2⟩
  case rem => exact ⟨_, _, fun w => by simp [binOp, Op.intDiv, h.1], .int _ _, h.2 _ rfl⟩
  case and => exact ⟨_, _, fun w => by simp [binOp, Op.intBits, bits], .int _ _, h _ rfl⟩
  case or => exact ⟨_, _, fun w => by simp [binOp, Op.intBits, bits], .int _ _, h _ rfl⟩
  case xor => exact ⟨_, _, fun w => by simp [binOp, Op.intBits, bits], .int _ _, h _ rfl⟩
  case andNot => exact ⟨_, _, fun w => by simp [binOp, Op.intBits, bits], .int _ _, h _ rfl⟩
  case eql => exact ⟨.bool (x == y), .bool (x == y), fun w => by simp [binOp, Op.intCmp], .bool _, by rw [int_beq]; exact h⟩
  case neq => exact ⟨.bool (x != y), .bool (x != y), fun w => by simp [binOp, Op.intCmp], .bool _, by rw [bne, int_beq]; exact h⟩
  case lss => exact ⟨_, _, fun w => by simp [binOp, Op.intCmp], .bool _, h⟩
  case leq => exact ⟨_, _, fun w => by simp [binOp, Op.intCmp], .bool _, h⟩
  case gtr => exact ⟨_, _, fun w => by simp [binOp, Op.intCmp], .bool _, h⟩
  case geq => exact ⟨_, _, fun w => by simp [binOp, Op.intCmp], .bool _, h⟩

theorem bytesOf_toList (l : List Int) : (bytesOf l).toList = l.map fun x => x.toNat.toUInt8 := by
  unfold bytesOf; simp [ByteArray.toList_eq]

theorem bytesOf_inj {l m : List Int} (hl : Octets l) (hm : Octets m) (h : (bytesOf l).toList = (bytesOf m).toList) : l = m := by
  rw [bytesOf_toList, bytesOf_toList] at h
  induction l generalizing m with
  | nil => cases m with
    | nil => rfl
    | cons y m => simp at h
  | cons x l ih => cases m with
    | nil => simp at h
    | cons y m =>
      simp only [List.map_cons, List.cons.injEq] at h
      have hx := hl x List.mem_cons_self
      have hy := hm y List.mem_cons_self
      have h1 : x = y := by
        have := congrArg UInt8.toNat h.1
        simp at this
        omega
      rw [h1, ih (fun z hz => hl z (List.mem_cons_of_mem _ hz)) (fun z hz => hm z (List.mem_cons_of_mem _ hz)) h.2]

theorem size_bytesOf (l : List Int) : (bytesOf l).size = l.length := by simp [bytesOf, ByteArray.size]
theorem bytesOf_append (l m : List Int) : bytesOf (l ++ m) = bytesOf l ++ bytesOf m := by
  apply ByteArray.ext
  simp [bytesOf]

theorem aStr_ok {op : BinOp} {l m : List Int} (hl : Octets l) (hm : Octets m) (t : TypeId) (h : aStr op l m K) :
    ∃ av v, (∀ w, (binOp op t (.string (bytesOf l)) (.string (bytesOf m))).run P w = .ok v w) ∧ V R ids av v ∧ K av := by
  have heq : ((bytesOf l).toList == (bytesOf m).toList) = decide (l = m) := by
    by_cases e : l = m
    · subst e; simp
    · simp only [e, decide_false]
      rw [beq_eq_false_iff_ne]
      exact fun h => e (bytesOf_inj hl hm h)
  cases op <;> simp only [aStr] at h <;> try exact h.elim
  case add =>
    refine ⟨_, .string (bytesOf l ++ bytesOf m), ?_, ?_, h.2⟩
    · have : ¬ (((bytesOf l).size + (bytesOf m).size : Nat) : Int) > IntKind.i64.max := by
        rw [size_bytesOf, size_bytesOf]; simp [IntKind.max, IntKind.signed, IntKind.bits]; omega
      intro w; simp only [binOp, Op.stringOp, this, if_false, Sem.run_pure]
    · rw [← bytesOf_append]
      refine .str _ fun x hx => ?_
      rcases List.mem_append.1 hx with h | h
      · exact hl x h
      · exact hm x h
  case eql => exact ⟨_, _, fun w => by simp only [binOp, Op.stringOp, heq, Sem.run_pure], .bool _, h⟩
  case neq => exact ⟨_, _, fun w => by simp only [binOp, Op.stringOp, heq, Sem.run_pure], .bool _, h⟩

theorem V.int_inv {k : IntKind} {n : Int} {v : Value} (h : V R ids (.int k n) v) : v = .int k n := by cases h; rfl
theorem V.bool_inv {b : Bool} {v : Value} (h : V R ids (.bool b) v) : v = .bool b := by cases h; rfl
theorem V.str_inv {l : List Int} {v : Value} (h : V R ids (.str l) v) : Octets l ∧ v = .string (bytesOf l) := by cases h; exact ⟨by assumption, rfl⟩
theorem V.nilp_inv {v : Value} (h : V R ids .nilp v) : v = .pointer none := by cases h; rfl
theorem V.nils_inv {v : Value} (h : V R ids .nils v) : v = .slice none 0 0 := by cases h; rfl
theorem V.ptr_some {p off : Nat} {path : List (Nat × Nat × Nat)} {v : Value} (h : V R ids (.ptr p path off) v) : ∃ b, ids p = some b ∧ v = .pointer (some ⟨b, poff path + off, none⟩) := by
  cases h; exact ⟨_, by assumption, rfl⟩
theorem V.rp_some {segs : List AV} {off : Nat} {v : Value} (h : V R ids (.rp segs off) v) : ∃ a, v = .pointer (some a) := by cases h; exact ⟨_, rfl⟩

theorem run_equalIn_nil {e : TypeId} {t : TypeId} (d : Nat) (a : Option Addr) (ht : P.underlying t = some (.pointer e)) :
    (Op.equalIn (d + 1) t (.pointer a) (.pointer none)).run P w = .ok a.isNone w := by
  cases a <;> simp [Op.equalIn, run_underlying ht]

theorem run_equalIn_bool {t : TypeId} (d : Nat) (x y : Bool) (ht : P.underlying t = some .bool) :
    (Op.equalIn (d + 1) t (.bool x) (.bool y)).run P w = .ok (x == y) w := by
  simp [Op.equalIn, run_underlying ht]

theorem run_eq_nil {e : TypeId} {t : TypeId} (a : Option Addr) (ht : P.underlying t = some (.pointer e)) :
    (∀ w, (binOp .eql t (.pointer a) (.pointer none)).run P w = .ok (.bool a.isNone) w) ∧ (∀ w, (binOp .neq t (.pointer a) (.pointer none)).run P w = .ok (.bool (!a.isNone)) w) := by
  have h := fun w => run_equalIn_nil (P := P) (w := w) 9999 a ht
  constructor <;> intro w <;> simp only [binOp, Op.equal, Op.maxDepth, Sem.run_bind, h, Result.andThen_ok, Sem.run_pure]

theorem run_eq_bool {t : TypeId} (x y : Bool) (ht : P.underlying t = some .bool) :
    (∀ w, (binOp .eql t (.bool x) (.bool y)).run P w = .ok (.bool (x == y)) w) ∧ (∀ w, (binOp .neq t (.bool x) (.bool y)).run P w = .ok (.bool (!(x == y))) w) := by
  have h := fun w => run_equalIn_bool (P := P) (w := w) 9999 x y ht
  constructor <;> intro w <;> simp only [binOp, Op.equal, Op.maxDepth, Sem.run_bind, h, Result.andThen_ok, Sem.run_pure]

theorem run_eq_nils {t e : TypeId} (a : Option Addr) (n c : Nat) (h : P.underlying t = some (.slice e)) (w : World) : (binOp .eql t (.slice a n c) (.slice none 0 0)).run P w = .ok (.bool a.isNone) w := by
  have k : ∀ d, (Op.equalIn (d + 1) t (.slice a n c) (.slice none 0 0)).run P w = .ok a.isNone w := fun d => by
    cases a <;> simp [Op.equalIn, run_underlying h]
  have k := k 9999
  simp only [binOp, Op.equal, Op.maxDepth, Sem.run_bind, k, Result.andThen_ok, Sem.run_pure]

theorem aBin_ok (ht : TBok P tb) {op : BinOp} {t : TypeId} {a b : AV} {va vb : Value} (ha : V R ids a va) (hb : V R ids b vb) (h : aBin tb op t a b K) :
    ∃ av v, (∀ w, (binOp op t va vb).run P w = .ok v w) ∧ V R ids av v ∧ K av := by
  unfold aBin at h
  split at h
  · obtain rfl := ha.int_inv; obtain rfl := hb.int_inv
    exact ⟨_, _, fun w => by simp [binOp, Op.shift, Int.not_lt.2 h.1], .int _ _, h.2 _ rfl⟩
  · obtain rfl := ha.int_inv; obtain rfl := hb.int_inv
    exact ⟨_, _, fun w => by simp [binOp, Op.shift, Int.not_lt.2 h.1], .int _ _, h.2 _ rfl⟩
  · rename_i op k x k' y h1 h2
    obtain rfl := ha.int_inv; obtain rfl := hb.int_inv
    split at h
    · rename_i hk
      obtain rfl := kb_eq hk
      exact aInt_ok ⟨h1, h2⟩ t h
    · exact h.elim
  · obtain ⟨hl, rfl⟩ := ha.str_inv; obtain ⟨hm, rfl⟩ := hb.str_inv
    exact aStr_ok hl hm t h
  · obtain rfl := ha.bool_inv; obtain rfl := hb.bool_inv
    split at h
    · rename_i hl; exact ⟨_, _, (run_eq_bool _ _ (ht.get hl).kind).1, .bool _, h⟩
    · exact h.elim
  · obtain rfl := ha.bool_inv; obtain rfl := hb.bool_inv
    split at h
    · rename_i hl; exact ⟨_, _, (run_eq_bool _ _ (ht.get hl).kind).2, .bool _, h⟩
    · exact h.elim
  · obtain ⟨_, _, rfl⟩ := ha.ptr_some; obtain rfl := hb.nilp_inv
    split at h
    · rename_i hl; exact ⟨_, _, (run_eq_nil _ (ht.get hl).kind).1, .bool _, h⟩
    · exact h.elim
  · obtain ⟨_, rfl⟩ := ha.rp_some; obtain rfl := hb.nilp_inv
    split at h
    · rename_i hl; exact ⟨_, _, (run_eq_nil _ (ht.get hl).kind).1, .bool _, h⟩
    · exact h.elim
  · obtain rfl := ha.nilp_inv; obtain rfl := hb.nilp_inv
    split at h
    · rename_i hl; exact ⟨_, _, (run_eq_nil _ (ht.get hl).kind).1, .bool _, h⟩
    · exact h.elim
  · obtain ⟨_, _, rfl⟩ := ha.ptr_some; obtain rfl := hb.nilp_inv
    split at h
    · rename_i hl; exact ⟨_, _, (run_eq_nil _ (ht.get hl).kind).2, .bool _, h⟩
    · exact h.elim
  · obtain ⟨_, rfl⟩ := ha.rp_some; obtain rfl := hb.nilp_inv
    split at h
    · rename_i hl; exact ⟨_, _, (run_eq_nil _ (ht.get hl).kind).2, .bool _, h⟩
    · exact h.elim
  · obtain rfl := ha.nilp_inv; obtain rfl := hb.nilp_inv
    split at h
    · rename_i hl; exact ⟨_, _, (run_eq_nil _ (ht.get hl).kind).2, .bool _, h⟩
    · exact h.elim
  · obtain rfl := hb.nils_inv
    split at h
    · rename_i hl
      cases ha with
      | sl p path off es lo n cap a h1 h2 h3 => exact ⟨.bool a.isNone, _, run_eq_nils _ _ _ (ht.get hl).kind, .bool _, h _ (fun hc => by obtain ⟨b, _, rfl⟩ := h1 hc; rfl)⟩
    · exact h.elim
  · obtain rfl := hb.nils_inv
    split at h
    · rename_i hl
      cases ha with
      | ro es n f b o cap cs => exact ⟨.bool false, _, run_eq_nils _ _ _ (ht.get hl).kind, .bool _, h _ (fun _ => rfl)⟩
      | ro0 es f a cap => exact ⟨.bool a.isNone, _, run_eq_nils _ _ _ (ht.get hl).kind, .bool _, h _ (fun hc => absurd rfl hc)⟩
    · exact h.elim
  · obtain rfl := ha.nils_inv
    obtain rfl := hb.nils_inv
    split at h
    · rename_i hl; exact ⟨.bool true, _, run_eq_nils none 0 0 (ht.get hl).kind, .bool _, h⟩
    · exact h.elim
  · exact h.elim
end

end Go.Sx
