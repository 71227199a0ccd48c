import Derived.Test.YtceockijgbkneaaDoorPress

namespace Yard
open Go Go.Sx Go.Proofs
set_option linter.unusedVariables false
set_option linter.unusedSimpArgs false
set_option maxRecDepth 4000

structure StoreT where
  ws : List Nat
  a : AllocT
def StoreW (s : StoreT) : Prop := DevW s.ws ∧ AllocW s.a
abbrev storeI (d a : Nat) : Sx.Item := .cells 105 [.ptr d [] 0, .ptr a [] 0]
abbrev storeFam (s : StoreT) : AH := [storeI 1 2, devI s.ws, allocI s.a]
def storeTau (args : List AV) (H : AH) : List Nat := match args with
  | .ptr p _ _ :: _ => match H[p]? with
    | some (.cells _ (.ptr d _ _ :: .ptr a _ _ :: _)) => [p, d, a]
    | _ => [p]
  | _ => []
theorem storePl (s : StoreT) : plH (storeFam s) := ⟨⟨rfl, rfl, trivial⟩, trivial, trivial, trivial⟩
theorem takeS_W {x : AllocT} (h : AllocW x) (r : Int) : AllocW (takeS x r) := by
  unfold takeS
  split
  · exact h
  · exact ⟨h.1, h.2.1, h.2.2.1, h.2.2.2.1, h.2.2.2.2.1, add1_lt h.2.2.2.2.2⟩
theorem giveS_W {x : AllocT} (h : AllocW x) (a : Int) : AllocW (giveS x a) := ⟨h.1, h.2.1, h.2.2.1, h.2.2.2.1, h.2.2.2.2.1, drop1_lt h.2.2.2.2.2⟩
theorem writeL_W {ws : List Nat} (h : DevW ws) (a : Int) {b : List Nat} (hb : Oct b) : DevW (writeL ws a b) := by
  unfold writeL
  split
  · exact putW_W h (wordsN_u64 hb.1)
  · exact h
theorem takeAt_I64 {x : AllocT} (h : AllocW x) (r : Int) : I64 (takeAt x r) := by
  unfold takeAt
  split
  · exact ⟨by omega, by omega⟩
  · exact gapN_I64 ⟨h.1, held_lt h⟩ 0

def storeGetC : Ctr where
  X := StoreT × Int
  Y := Nat
  conv := true
  tau := storeTau
  pre := fun x => StoreW x.1 ∧ I64 x.2
  args := fun x => [.ptr 0 [] 0, i64 x.2]
  heap := fun x => storeFam x.1
  Q := fun x cap => (lineL x.1.ws x.2).length ≤ cap
  res := fun x cap => .tup [.sl 4 [] 0 1 0 (lineL x.1.ws x.2).length cap, i64 (lineErr x.1.ws x.2)]
  its := fun x _ => storeFam x.1
  new := fun x cap => [rowN 5 .u8 cap (lineL x.1.ws x.2)]
theorem storeGetC_ok : CtrOk storeGetC :=
  ⟨fun _ _ _ _ => (rfl : 3 = 3), fun _ _ _ _ => ⟨rfl, rfl⟩, fun x _ _ _ _ => ⟨⟨storePl _, ⟨⟨fun _ _ => ⟨rfl, trivial⟩, trivial⟩, trivial⟩⟩, rfl, rfl, trivial⟩⟩
def tupSl4 (av : AV) : Option Ren := match av with
  | .tup (.sl q _ _ _ _ _ _ :: _) => some [some 0, some 1, some 2, some 3, some q]
  | _ => some [some 0, some 1, some 2, some 3, none]

theorem storeGetV : (∀ (x : StoreT × Int), StoreW x.1 ∧ I64 x.2 → Exx (List Nat × Int) fun x_1 => (((true = true ∧ NilNil ∧ (0 : Nat) = 0) ∧ Tr 1 (x.2 = x_1.2)
 ∧ True) ∧ true = true ∧ devB x.1.ws = devB x_1.1 ∧ True) ∧ (DevW x_1.1 ∧ I64 x_1.2) ∧ ∀ (y : Nat), (lineL x_1.1 x_1.2).length ≤ y → Exx Nat fun y_1 => ((((true
 = true ∧ NilNil ∧ (0 : Nat) = 0 ∧ (1 : Nat) = 1 ∧ (0 : Nat) = 0 ∧ (lineL x_1.1 x_1.2).length = (lineL x.1.ws x.2).length ∧ y = y_1) ∧ Tr 1 (lineErr x_1.1 x_1.2
 = lineErr x.1.ws x.2) ∧ True) ∧ True) ∧ ((105 : TypeId) = 105 ∧ (true = true ∧ NilNil ∧ (0 : Nat) = 0) ∧ (true = true ∧ NilNil ∧ (0 : Nat) = 0) ∧ True) ∧ devB
 x_1.1 = devB x.1.ws ∧ allocB x.1.a = allocB x.1.a ∧ true = true ∧ ((5 : TypeId) = 5 ∧ (1 : Nat) = 1 ∧ y = y_1 ∧ (lineL x.1.ws x.2).length ≤ (lineL x_1.1
 x_1.2).length ∧ ∀ (i : Nat), i < (lineL x.1.ws x.2).length → [AV.int .u8 (↑((lineL x_1.1 x_1.2).getD i 0) : Int)] = [AV.int .u8 (↑((lineL x.1.ws x.2).getD i 0)
 : Int)]) ∧ True) ∧ (lineL x.1.ws x.2).length ≤ y_1) = (fnVCo tb [(75, specOf pressReadC)] Tryd.f66 storeGetC (fun _ => {}) (fun _ av _ => tupSl4 av) (fun _ =>
 []) (fun _ _ _ _ => [])) := by kernel_rfl

theorem storeGet_ok : SpecOk Tryd.prog 66 (specOf storeGetC) := by
  refine specOko mixed tb_ok (SPok.cons pressRead_ok SPok.nil) Tryd.func66 (by decide) storeGetC_ok (an := (fun _ => {})) (σ := (fun _ av _ => tupSl4 av)) (op := (fun _ => [])) (cl := (fun _ _ _ _ => [])) ?_
  rw [← storeGetV]
  simp (maxSteps := 10000000) only [and_false, false_and, false_or, or_false, bOf_true, bOf_false, true_bOf, false_bOf, Exx, int_ite, merge_o, Tr_eq, true_and, and_true, exists_const, forall_const, implies_true, forall_eq, exists_eq, exists_eq', exists_eq_left, exists_eq_left', exists_eq_right, Prod.exists, Prod.forall, and_assoc, exists_and_left, BC_iff, Bool.not_eq_true', Bool.not_eq_false', decide_eq_true_eq, decide_eq_false_iff_not, I64, nat_cast_inj, Int.toNat_natCast, nats_iff, nats_iff', ints_iff, ints_iff', natss_iff, natss_iff', nilnil, litL_eq, str_inj, str_append, str_length, str_getD, str_take, lit1_iff, one_iff, two_iff, one_get, Nat.zero_add, Nat.sub_zero, Nat.reduceMul, Nat.reduceDiv, Nat.reduceAdd, Int.reduceToNat, Nat.not_lt_zero, if_false, if_true, Nat.le_refl, List.length_singleton, List.length_cons, List.length_nil, Bool.false_eq_true, not_true_eq_false, false_implies, not_false_eq_true, Prod.mk.injEq, devB_inj, allocB_inj]
  exact fun s a ⟨h, h1, h2⟩ => ⟨h.1, h1, h2, fun y hy => hy⟩

def storeSetC (Y : Type) (pre : StoreT × Y → Prop) (args : StoreT × Y → List AV) (g : StoreT × Y → StoreT) (res : StoreT × Y → AV) : Ctr where
  X := StoreT × Y
  Y := Unit
  conv := true
  tau := storeTau
  pre := fun x => StoreW x.1 ∧ pre x
  args := fun x => .ptr 0 [] 0 :: args x
  heap := fun x => storeFam x.1
  Q := fun _ _ => True
  res := fun x _ => res x
  its := fun x _ => storeFam (g x)
  new := fun _ _ => []
theorem storeSetC_ok {Y : Type} {pre : StoreT × Y → Prop} {args : StoreT × Y → List AV} {g : StoreT × Y → StoreT} {res : StoreT × Y → AV} (h : ∀ x, plV 2 (res x)) : CtrOk (storeSetC Y pre args g res) :=
  ⟨fun _ _ _ _ => (rfl : 3 = 3), fun _ _ _ _ => ⟨rfl, rfl⟩, fun x _ _ _ _ => ⟨⟨storePl _, trivial⟩, h x⟩⟩

structure Wr where
  s : StoreT
  at_ : Int
  e : Int
def writtenR (s : StoreT) (a : Int) (b : List Nat) : Wr := { s := { s with ws := writeL s.ws a b }, at_ := if writeErr s.ws a b = 0 then a else 0, e := writeErr s.ws a b }
def makeR (s : StoreT) (b : List Nat) : Wr :=
  if b.length = 64 then if takeErr s.a s.a.r = 0 then writtenR { s with a := takeS s.a s.a.r } (takeAt s.a s.a.r) b else { s := { s with a := takeS s.a s.a.r }, at_ := 0, e := takeErr s.a s.a.r }
  else { s := s, at_ := 0, e := 2 }
def ownB (x : AllocT) (a : Int) : Bool := hasN (x.n, x.w) a && !hasN (x.n, x.m) a
def turnR (s : StoreT) (a : Int) (b : List Nat) : Wr :=
  if b.length = 64 ∧ hasN (s.a.n, s.a.w) a = true then
    if ownB s.a a = true then writtenR s a b
    else if (makeR s b).e = 0 then { s := { (makeR s b).s with a := giveS (makeR s b).s.a a }, at_ := (makeR s b).at_, e := giveErr (makeR s b).s.a a }
    else { s := (makeR s b).s, at_ := 0, e := (makeR s b).e }
  else { s := s, at_ := 0, e := 2 }
theorem writtenR_W {s : StoreT} (h : StoreW s) (a : Int) {b : List Nat} (hb : Oct b) : StoreW (writtenR s a b).s := ⟨writeL_W h.1 a hb, h.2⟩
theorem makeR_W {s : StoreT} (h : StoreW s) {b : List Nat} (hb : Oct b) : StoreW (makeR s b).s := by
  have ht : StoreW { s with a := takeS s.a s.a.r } := ⟨h.1, takeS_W h.2 _⟩
  unfold makeR
  split
  · split
    · exact writtenR_W ht _ hb
    · exact ht
  · exact h
theorem turnR_W {s : StoreT} (h : StoreW s) (a : Int) {b : List Nat} (hb : Oct b) : StoreW (turnR s a b).s := by
  have hm := makeR_W h hb
  unfold turnR
  split
  · split
    · exact writtenR_W h _ hb
    · split
      · exact ⟨hm.1, giveS_W hm.2 _⟩
      · exact hm
  · exact h
def wrA (r : Wr) : AV := .tup [i64 r.at_, i64 r.e]
def writtenC : Ctr := storeSetC (Int × List Nat) (fun x => I64 x.2.1 ∧ Oct x.2.2) (fun x => [i64 x.2.1, octA x.2.2]) (fun x => (writtenR x.1 x.2.1 x.2.2).s) (fun x => wrA (writtenR x.1 x.2.1 x.2.2))

theorem writtenV : (∀ (x : StoreT × Int × List Nat), StoreW x.1 ∧ I64 x.2.1 ∧ Oct x.2.2 → Exx (List Nat × Int × List Nat) fun x_1 => (((true = true ∧ NilNil ∧
 (0 : Nat) = 0) ∧ Tr 1 (x.2.1 = x_1.2.1) ∧ (x.2.2.length = x_1.2.2.length ∧ ∀ (i : Nat), i < x_1.2.2.length → [AV.int .u8 (↑(x.2.2.getD i 0) : Int)] = [AV.int
 .u8 (↑(x_1.2.2.getD i 0) : Int)]) ∧ True) ∧ true = true ∧ devB x.1.ws = devB x_1.1 ∧ True) ∧ (DevW x_1.1 ∧ I64 x_1.2.1 ∧ Oct x_1.2.2) ∧ ∀ (y : Unit), True → BC
 (!decide (writeErr x_1.1 x_1.2.1 x_1.2.2 = (0 : Int))) (Exx Unit fun y => (((Tr 1 ((0 : Int) = (writtenR x.1 x.2.1 x.2.2).at_) ∧ Tr 1 (writeErr x_1.1 x_1.2.1
 x_1.2.2 = (writtenR x.1 x.2.1 x.2.2).e) ∧ True) ∧ True) ∧ ((105 : TypeId) = 105 ∧ (true = true ∧ NilNil ∧ (0 : Nat) = 0) ∧ (true = true ∧ NilNil ∧ (0 : Nat) =
 0) ∧ True) ∧ devB (writeL x_1.1 x_1.2.1 x_1.2.2) = devB (writtenR x.1 x.2.1 x.2.2).s.ws ∧ allocB x.1.a = allocB (writtenR x.1 x.2.1 x.2.2).s.a ∧ true = true ∧
 True) ∧ True) (Exx Unit fun y => (((Tr 1 (x.2.1 = (writtenR x.1 x.2.1 x.2.2).at_) ∧ Tr 1 ((0 : Int) = (writtenR x.1 x.2.1 x.2.2).e) ∧ True) ∧ True) ∧ ((105 :
 TypeId) = 105 ∧ (true = true ∧ NilNil ∧ (0 : Nat) = 0) ∧ (true = true ∧ NilNil ∧ (0 : Nat) = 0) ∧ True) ∧ devB (writeL x_1.1 x_1.2.1 x_1.2.2) = devB (writtenR
 x.1 x.2.1 x.2.2).s.ws ∧ allocB x.1.a = allocB (writtenR x.1 x.2.1 x.2.2).s.a ∧ true = true ∧ True) ∧ True)) = (fnVC tb [(82, specOf pressWriteC)] Tryd.f71 writtenC (fun _ => {}) (fun _ => none)) := by kernel_rfl 

theorem written_ok : SpecOk Tryd.prog 71 (specOf writtenC) := by
  refine specOk mixed tb_ok (SPok.cons pressWrite_ok SPok.nil) Tryd.func71 (by decide) (storeSetC_ok fun _ => ⟨rfl, rfl, trivial⟩) (an := (fun _ => {})) (σ := (fun _ => none)) ?_
  rw [← writtenV]
  simp (maxSteps := 10000000) only [and_false, false_and, false_or, or_false, bOf_true, bOf_false, true_bOf, false_bOf, Exx, int_ite, merge_o, Tr_eq, true_and, and_true, exists_const, forall_const, implies_true, forall_eq, exists_eq, exists_eq', exists_eq_left, exists_eq_left', exists_eq_right, Prod.exists, Prod.forall, and_assoc, exists_and_left, BC_iff, Bool.not_eq_true', Bool.not_eq_false', decide_eq_true_eq, decide_eq_false_iff_not, I64, nat_cast_inj, Int.toNat_natCast, nats_iff, nats_iff', ints_iff, ints_iff', natss_iff, natss_iff', nilnil, litL_eq, str_inj, str_append, str_length, str_getD, str_take, lit1_iff, one_iff, two_iff, one_get, Nat.zero_add, Nat.sub_zero, Nat.reduceMul, Nat.reduceDiv, Nat.reduceAdd, Int.reduceToNat, Nat.not_lt_zero, if_false, if_true, Nat.le_refl, List.length_singleton, List.length_cons, List.length_nil, Bool.false_eq_true, not_true_eq_false, false_implies, not_false_eq_true, Prod.mk.injEq, devB_inj, allocB_inj]
  rintro s a b ⟨h, h1, h2, hb⟩
  refine ⟨h.1, h1, h2, hb, fun hne => ⟨by rw [writtenR]; simp only; rw [if_neg hne], rfl, rfl, rfl⟩, fun hz => ⟨by rw [writtenR]; simp only; rw [if_pos hz], by rw [writtenR]; exact hz.symm, rfl, rfl⟩⟩

def storeMakeC : Ctr := storeSetC (List Nat) (fun x => Oct x.2) (fun x => [octA x.2]) (fun x => (makeR x.1 x.2).s) (fun x => wrA (makeR x.1 x.2))

theorem storeMakeV : (∀ (x : StoreT × List Nat), StoreW x.1 ∧ Oct x.2 → BC (!decide ((↑x.2.length : Int) = (64 : Int))) (Exx Unit fun y => (((Tr 1 ((0 : Int) =
 (makeR x.1 x.2).at_) ∧ Tr 1 ((2 : Int) = (makeR x.1 x.2).e) ∧ True) ∧ True) ∧ ((105 : TypeId) = 105 ∧ (true = true ∧ NilNil ∧ (0 : Nat) = 0) ∧ (true = true ∧
 NilNil ∧ (0 : Nat) = 0) ∧ True) ∧ devB x.1.ws = devB (makeR x.1 x.2).s.ws ∧ allocB x.1.a = allocB (makeR x.1 x.2).s.a ∧ true = true ∧ True) ∧ True) (Exx (AllocT
 × Unit) fun x_1 => (((true = true ∧ NilNil ∧ (0 : Nat) = 0) ∧ True) ∧ true = true ∧ allocB x.1.a = allocB x_1.1 ∧ True) ∧ (AllocW x_1.1 ∧ True) ∧ ∀ (y : Unit),
 True → BC (!decide (takeErr x_1.1 x_1.1.r = (0 : Int))) (Exx Unit fun y => (((Tr 1 ((0 : Int) = (makeR x.1 x.2).at_) ∧ Tr 1 (takeErr x_1.1 x_1.1.r = (makeR x.1
 x.2).e) ∧ True) ∧ True) ∧ ((105 : TypeId) = 105 ∧ (true = true ∧ NilNil ∧ (0 : Nat) = 0) ∧ (true = true ∧ NilNil ∧ (0 : Nat) = 0) ∧ True) ∧ devB x.1.ws = devB
 (makeR x.1 x.2).s.ws ∧ allocB (takeS x_1.1 x_1.1.r) = allocB (makeR x.1 x.2).s.a ∧ true = true ∧ True) ∧ True) (Exx (StoreT × Int × List Nat) fun x_2 => (((true
 = true ∧ NilNil ∧ (0 : Nat) = 0) ∧ Tr 1 (takeAt x_1.1 x_1.1.r = x_2.2.1) ∧ (x.2.length = x_2.2.2.length ∧ ∀ (i : Nat), i < x_2.2.2.length → [AV.int .u8
 (↑(x.2.getD i 0) : Int)] = [AV.int .u8 (↑(x_2.2.2.getD i 0) : Int)]) ∧ True) ∧ true = true ∧ ((105 : TypeId) = 105 ∧ (true = true ∧ NilNil ∧ (0 : Nat) = 0) ∧
 (true = true ∧ NilNil ∧ (0 : Nat) = 0) ∧ True) ∧ devB x.1.ws = devB x_2.1.ws ∧ allocB (takeS x_1.1 x_1.1.r) = allocB x_2.1.a ∧ True) ∧ (StoreW x_2.1 ∧ I64
 x_2.2.1 ∧ Oct x_2.2.2) ∧ ∀ (y : Unit), True → Exx Unit fun y => (((Tr 1 ((writtenR x_2.1 x_2.2.1 x_2.2.2).at_ = (makeR x.1 x.2).at_) ∧ Tr 1 ((writtenR x_2.1
 x_2.2.1 x_2.2.2).e = (makeR x.1 x.2).e) ∧ True) ∧ True) ∧ ((105 : TypeId) = 105 ∧ (true = true ∧ NilNil ∧ (0 : Nat) = 0) ∧ (true = true ∧ NilNil ∧ (0 : Nat) =
 0) ∧ True) ∧ devB (writtenR x_2.1 x_2.2.1 x_2.2.2).s.ws = devB (makeR x.1 x.2).s.ws ∧ allocB (writtenR x_2.1 x_2.2.1 x_2.2.2).s.a = allocB (makeR x.1 x.2).s.a ∧
 true = true ∧ True) ∧ True))) = (fnVC tb [(70, specOf allocTakeC), (71, specOf writtenC)] Tryd.f61 storeMakeC (fun _ => {}) (fun _ => none)) := by kernel_rfl 

theorem storeMake_ok : SpecOk Tryd.prog 61 (specOf storeMakeC) := by
  refine specOk mixed tb_ok (SPok.cons allocTake_ok (SPok.cons written_ok SPok.nil)) Tryd.func61 (by decide) (storeSetC_ok fun _ => ⟨rfl, rfl, trivial⟩) (an := (fun _ => {})) (σ := (fun _ => none)) ?_
  rw [← storeMakeV]
  simp (maxSteps := 10000000) only [and_false, false_and, false_or, or_false, bOf_true, bOf_false, true_bOf, false_bOf, Exx, int_ite, merge_o, Tr_eq, true_and, and_true, exists_const, forall_const, implies_true, forall_eq, exists_eq, exists_eq', exists_eq_left, exists_eq_left', exists_eq_right, Prod.exists, Prod.forall, and_assoc, exists_and_left, BC_iff, Bool.not_eq_true', Bool.not_eq_false', decide_eq_true_eq, decide_eq_false_iff_not, I64, nat_cast_inj, Int.toNat_natCast, nats_iff, nats_iff', ints_iff, ints_iff', natss_iff, natss_iff', nilnil, litL_eq, str_inj, str_append, str_length, str_getD, str_take, lit1_iff, one_iff, two_iff, one_get, Nat.zero_add, Nat.sub_zero, Nat.reduceMul, Nat.reduceDiv, Nat.reduceAdd, Int.reduceToNat, Nat.not_lt_zero, if_false, if_true, Nat.le_refl, List.length_singleton, List.length_cons, List.length_nil, Bool.false_eq_true, not_true_eq_false, false_implies, not_false_eq_true, Prod.mk.injEq, devB_inj, allocB_inj]
  rintro s b ⟨h, hb⟩
  refine ⟨fun hne => ?_, fun h64 => ⟨h.2, fun hne => ?_, fun hz => ⟨{ s with a := takeS s.a s.a.r }, rfl, rfl, ⟨h.1, takeS_W h.2 _⟩, (takeAt_I64 h.2 _).1, (takeAt_I64 h.2 _).2, hb, ?_⟩⟩⟩
  · rw [makeR, if_neg (fun k => hne (by rw [k]; rfl))]; exact ⟨rfl, rfl, rfl, rfl⟩
  · rw [makeR, if_pos (by omega), if_neg hne]; exact ⟨rfl, rfl, rfl, rfl⟩
  · rw [makeR, if_pos (by omega), if_pos hz]; exact ⟨rfl, rfl, rfl, rfl⟩

def storeTurnC : Ctr := storeSetC (Int × List Nat) (fun x => I64 x.2.1 ∧ Oct x.2.2) (fun x => [i64 x.2.1, octA x.2.2]) (fun x => (turnR x.1 x.2.1 x.2.2).s) (fun x => wrA (turnR x.1 x.2.1 x.2.2))

theorem storeTurnV : (∀ (x : StoreT × Int × List Nat), StoreW x.1 ∧ I64 x.2.1 ∧ Oct x.2.2 → BC (!decide ((↑x.2.2.length : Int) = (64 : Int))) (Exx Unit fun y =>
 (((Tr 1 ((0 : Int) = (turnR x.1 x.2.1 x.2.2).at_) ∧ Tr 1 ((2 : Int) = (turnR x.1 x.2.1 x.2.2).e) ∧ True) ∧ True) ∧ ((105 : TypeId) = 105 ∧ (true = true ∧ NilNil
 ∧ (0 : Nat) = 0) ∧ (true = true ∧ NilNil ∧ (0 : Nat) = 0) ∧ True) ∧ devB x.1.ws = devB (turnR x.1 x.2.1 x.2.2).s.ws ∧ allocB x.1.a = allocB (turnR x.1 x.2.1
 x.2.2).s.a ∧ true = true ∧ True) ∧ True) (Exx AllocT fun x_1 => (((true = true ∧ NilNil ∧ (0 : Nat) = 0) ∧ True) ∧ true = true ∧ allocB x.1.a = allocB x_1 ∧
 True) ∧ AllocW x_1 ∧ ∀ (y : Unit), True → Exx ((Nat × Nat) × Int) fun x_2 => (((true = true ∧ NilNil ∧ (0 : Nat) = 0) ∧ Tr 1 (x.2.1 = x_2.2) ∧ True) ∧ true =
 true ∧ setB (x_1.n, x_1.w) = setB x_2.1 ∧ True) ∧ (SetW x_2.1 ∧ I64 x_2.2) ∧ ∀ (y : Unit), True → BC (!hasN x_2.1 x_2.2) (Exx Unit fun y => (((Tr 1 ((0 : Int) =
 (turnR x.1 x.2.1 x.2.2).at_) ∧ Tr 1 ((2 : Int) = (turnR x.1 x.2.1 x.2.2).e) ∧ True) ∧ True) ∧ ((105 : TypeId) = 105 ∧ (true = true ∧ NilNil ∧ (0 : Nat) = 0) ∧
 (true = true ∧ NilNil ∧ (0 : Nat) = 0) ∧ True) ∧ devB x.1.ws = devB (turnR x.1 x.2.1 x.2.2).s.ws ∧ allocB x_1 = allocB (turnR x.1 x.2.1 x.2.2).s.a ∧ true = true
 ∧ True) ∧ True) (Exx (AllocT × Int) fun x_3 => (((true = true ∧ NilNil ∧ (0 : Nat) = 0) ∧ Tr 1 (x.2.1 = x_3.2) ∧ True) ∧ true = true ∧ allocB x_1 = allocB x_3.1
 ∧ True) ∧ (AllocW x_3.1 ∧ I64 x_3.2) ∧ ∀ (y : Unit), True → BC (hasN (x_3.1.n, x_3.1.w) x_3.2 && !hasN (x_3.1.n, x_3.1.m) x_3.2) (Exx (StoreT × Int × List Nat)
 fun x_4 => (((true = true ∧ NilNil ∧ (0 : Nat) = 0) ∧ Tr 1 (x.2.1 = x_4.2.1) ∧ (x.2.2.length = x_4.2.2.length ∧ ∀ (i : Nat), i < x_4.2.2.length → [AV.int .u8
 (↑(x.2.2.getD i 0) : Int)] = [AV.int .u8 (↑(x_4.2.2.getD i 0) : Int)]) ∧ True) ∧ true = true ∧ ((105 : TypeId) = 105 ∧ (true = true ∧ NilNil ∧ (0 : Nat) = 0) ∧
 (true = true ∧ NilNil ∧ (0 : Nat) = 0) ∧ True) ∧ devB x.1.ws = devB x_4.1.ws ∧ allocB x_3.1 = allocB x_4.1.a ∧ True) ∧ (StoreW x_4.1 ∧ I64 x_4.2.1 ∧ Oct
 x_4.2.2) ∧ ∀ (y : Unit), True → Exx Unit fun y => (((Tr 1 ((writtenR x_4.1 x_4.2.1 x_4.2.2).at_ = (turnR x.1 x.2.1 x.2.2).at_) ∧ Tr 1 ((writtenR x_4.1 x_4.2.1
 x_4.2.2).e = (turnR x.1 x.2.1 x.2.2).e) ∧ True) ∧ True) ∧ ((105 : TypeId) = 105 ∧ (true = true ∧ NilNil ∧ (0 : Nat) = 0) ∧ (true = true ∧ NilNil ∧ (0 : Nat) =
 0) ∧ True) ∧ devB (writtenR x_4.1 x_4.2.1 x_4.2.2).s.ws = devB (turnR x.1 x.2.1 x.2.2).s.ws ∧ allocB (writtenR x_4.1 x_4.2.1 x_4.2.2).s.a = allocB (turnR x.1
 x.2.1 x.2.2).s.a ∧ true = true ∧ True) ∧ True) (Exx (StoreT × List Nat) fun x_4 => (((true = true ∧ NilNil ∧ (0 : Nat) = 0) ∧ (x.2.2.length = x_4.2.length ∧ ∀
 (i : Nat), i < x_4.2.length → [AV.int .u8 (↑(x.2.2.getD i 0) : Int)] = [AV.int .u8 (↑(x_4.2.getD i 0) : Int)]) ∧ True) ∧ true = true ∧ ((105 : TypeId) = 105 ∧
 (true = true ∧ NilNil ∧ (0 : Nat) = 0) ∧ (true = true ∧ NilNil ∧ (0 : Nat) = 0) ∧ True) ∧ devB x.1.ws = devB x_4.1.ws ∧ allocB x_3.1 = allocB x_4.1.a ∧ True) ∧
 (StoreW x_4.1 ∧ Oct x_4.2) ∧ ∀ (y : Unit), True → BC (!decide ((makeR x_4.1 x_4.2).e = (0 : Int))) (Exx Unit fun y => (((Tr 1 ((0 : Int) = (turnR x.1 x.2.1
 x.2.2).at_) ∧ Tr 1 ((makeR x_4.1 x_4.2).e = (turnR x.1 x.2.1 x.2.2).e) ∧ True) ∧ True) ∧ ((105 : TypeId) = 105 ∧ (true = true ∧ NilNil ∧ (0 : Nat) = 0) ∧ (true
 = true ∧ NilNil ∧ (0 : Nat) = 0) ∧ True) ∧ devB (makeR x_4.1 x_4.2).s.ws = devB (turnR x.1 x.2.1 x.2.2).s.ws ∧ allocB (makeR x_4.1 x_4.2).s.a = allocB (turnR
 x.1 x.2.1 x.2.2).s.a ∧ true = true ∧ True) ∧ True) (Exx (AllocT × Int) fun x_5 => (((true = true ∧ NilNil ∧ (0 : Nat) = 0) ∧ Tr 1 (x.2.1 = x_5.2) ∧ True) ∧ true
 = true ∧ allocB (makeR x_4.1 x_4.2).s.a = allocB x_5.1 ∧ True) ∧ (AllocW x_5.1 ∧ I64 x_5.2) ∧ ∀ (y : Unit), True → Exx Unit fun y => (((Tr 1 ((makeR x_4.1
 x_4.2).at_ = (turnR x.1 x.2.1 x.2.2).at_) ∧ Tr 1 (giveErr x_5.1 x_5.2 = (turnR x.1 x.2.1 x.2.2).e) ∧ True) ∧ True) ∧ ((105 : TypeId) = 105 ∧ (true = true ∧
 NilNil ∧ (0 : Nat) = 0) ∧ (true = true ∧ NilNil ∧ (0 : Nat) = 0) ∧ True) ∧ devB (makeR x_4.1 x_4.2).s.ws = devB (turnR x.1 x.2.1 x.2.2).s.ws ∧ allocB (giveS
 x_5.1 x_5.2) = allocB (turnR x.1 x.2.1 x.2.2).s.a ∧ true = true ∧ True) ∧ True))))) = (fnVC tb [(41, specOf worksC), (61, specOf storeMakeC), (71, specOf writtenC), (72, specObj (specOf setHasC) (specOf setHasOC)), (73, specOf allocOwnC), (74, specOf allocGiveC)] Tryd.f62 storeTurnC (fun _ => {}) (fun _ => none)) := by kernel_rfl 

theorem storeTurn_ok : SpecOk Tryd.prog 62 (specOf storeTurnC) := by
  refine specOk mixed tb_ok (SPok.cons works_ok (SPok.cons storeMake_ok (SPok.cons written_ok (SPok.cons (specObj_ok setHas_ok setHasO_ok) (SPok.cons allocOwn_ok (SPok.cons allocGive_ok SPok.nil)))))) Tryd.func62 (by decide) (storeSetC_ok fun _ => ⟨rfl, rfl, trivial⟩) (an := (fun _ => {})) (σ := (fun _ => none)) ?_
  rw [← storeTurnV]
  simp (maxSteps := 10000000) only [and_false, false_and, false_or, or_false, bOf_true, bOf_false, true_bOf, false_bOf, Exx, int_ite, merge_o, Tr_eq, true_and, and_true, exists_const, forall_const, implies_true, forall_eq, exists_eq, exists_eq', exists_eq_left, exists_eq_left', exists_eq_right, Prod.exists, Prod.forall, and_assoc, exists_and_left, BC_iff, Bool.not_eq_true', Bool.not_eq_false', decide_eq_true_eq, decide_eq_false_iff_not, I64, nat_cast_inj, Int.toNat_natCast, nats_iff, nats_iff', ints_iff, ints_iff', natss_iff, natss_iff', nilnil, litL_eq, str_inj, str_append, str_length, str_getD, str_take, lit1_iff, one_iff, two_iff, one_get, Nat.zero_add, Nat.sub_zero, Nat.reduceMul, Nat.reduceDiv, Nat.reduceAdd, Int.reduceToNat, Nat.not_lt_zero, if_false, if_true, Nat.le_refl, List.length_singleton, List.length_cons, List.length_nil, Bool.false_eq_true, not_true_eq_false, false_implies, not_false_eq_true, Prod.mk.injEq, devB_inj, allocB_inj, setB_inj]
  rintro s a b ⟨h, h1, h2, hb⟩
  have hs : SetW (s.a.n, s.a.w) := ⟨h.2.1, h.2.2.2.2.2.2⟩
  refine ⟨fun hne => ?_, fun h64 => ⟨h.2, hs, h1, h2, fun hn => ?_, fun hy => ⟨h.2, h1, h2, fun ho => ⟨s, rfl, rfl, h, h1, h2, hb, ?_⟩, fun ho => ⟨s, rfl, rfl, h, hb, fun hne => ?_, fun hz => ⟨(makeR_W h hb).2, h1, h2, ?_⟩⟩⟩⟩⟩
  · rw [turnR, if_neg (fun k => hne (by rw [k.1]; rfl))]; exact ⟨rfl, rfl, rfl, rfl⟩
  · rw [turnR, if_neg (fun k => by rw [k.2] at hn; cases hn)]; exact ⟨rfl, rfl, rfl, rfl⟩
  · rw [turnR, if_pos ⟨by omega, hy⟩, if_pos (show ownB s.a a = true from ho)]; exact ⟨rfl, rfl, rfl, rfl⟩
  · rw [turnR, if_pos ⟨by omega, hy⟩, if_neg (fun k => by rw [ownB, ho] at k; cases k), if_neg hne]; exact ⟨rfl, rfl, rfl, rfl⟩
  · rw [turnR, if_pos ⟨by omega, hy⟩, if_neg (fun k => by rw [ownB, ho] at k; cases k), if_pos hz]; exact ⟨rfl, rfl, rfl, rfl⟩

def storeNewI : Ctr2 where
  X := StoreT
  conv := true
  tau := tau2
  pre := StoreW
  args := fun _ => [.ptr 0 [] 0, .ptr 1 [] 0]
  heap := fun s => [devI s.ws, allocI s.a]
  p := fun s => s.a.n ≤ linesN s.ws
  a := { Y := Unit, Q := fun _ _ => True, res := fun _ _ => .tup [.ptr 3 [] 0, i64 0], its := fun s _ => [devI s.ws, allocI s.a], new := fun _ _ => [storeI 0 1] }
  b := { Y := Unit, Q := fun _ _ => True, res := fun _ _ => .tup [.nilp, i64 2], its := fun s _ => [devI s.ws, allocI s.a], new := fun _ _ => [] }
def tupPtr2 (av : AV) : Option Ren := match av with
  | .tup (.ptr q _ _ :: _) => some [some 0, some 1, some 2, some q]
  | _ => none

theorem storeNewV : (∀ (x : StoreT), DevW x.ws ∧ AllocW x.a → Exx AllocT fun x_1 => (((true = true ∧ NilNil ∧ (0 : Nat) = 0) ∧ True) ∧ true = true ∧ allocB x.a
 = allocB x_1 ∧ True) ∧ AllocW x_1 ∧ ∀ (y : Unit), True → Exx ((Nat × Nat) × Unit) fun x_2 => (((true = true ∧ NilNil ∧ (0 : Nat) = 0) ∧ True) ∧ true = true ∧
 setB (x_1.n, x_1.w) = setB x_2.1 ∧ True) ∧ (SetW x_2.1 ∧ True) ∧ ∀ (y : Unit), True → Exx (List Nat × Unit) fun x_3 => (((true = true ∧ NilNil ∧ (0 : Nat) = 0)
 ∧ True) ∧ true = true ∧ devB x.ws = devB x_3.1 ∧ True) ∧ (DevW x_3.1 ∧ True) ∧ ∀ (y : Unit), True → BC (decide ((↑(x_3.1.length / 8) : Int) < (↑x_2.1.1 : Int)))
 ((x.a.n.le (linesN x.ws) ∧ Exx Unit fun y => (((False ∧ Tr 1 ((2 : Int) = 0) ∧ True) ∧ True) ∧ devB x_3.1 = devB x.ws ∧ allocB x_1 = allocB x.a ∧ true = true ∧
 False ∧ True) ∧ True) ∨ ¬storeNewI.p x ∧ Exx Unit fun y => ((Tr 1 (Tr 1 ((2 : Int) = 2) ∧ True) ∧ True) ∧ devB x_3.1 = devB x.ws ∧ allocB x_1 = allocB x.a ∧
 true = true ∧ True) ∧ True) ((x.a.n.le (linesN x.ws) ∧ Exx Unit fun y => ((((true = true ∧ NilNil ∧ (0 : Nat) = 0) ∧ Tr 1 ((0 : Int) = 0) ∧ True) ∧ True) ∧ devB
 x_3.1 = devB x.ws ∧ allocB x_1 = allocB x.a ∧ true = true ∧ ((105 : Nat) = (105 : TypeId) ∧ (true = true ∧ NilNil ∧ (0 : Nat) = 0) ∧ (true = true ∧ NilNil ∧ (0
 : Nat) = 0) ∧ True) ∧ True) ∧ True) ∨ ¬storeNewI.p x ∧ Exx Unit fun y => False ∧ True)) = (fnVC2 tb [(38, specOf setSizeC), (41, specOf worksC), (42, specObj (specOf devLinesC) (specOf devLinesOC))] Tryd.f25 storeNewI (fun _ => {}) (fun _ av _ => tupPtr2 av) (fun _ => []) (fun _ _ _ _ => []) (fun _ _ _ _ => [])) := by kernel_rfl 

theorem storeNew_ok : SpecOk Tryd.prog 25 (specIf storeNewI) := by
  refine specIfo mixed tb_ok (SPok.cons setSize_ok (SPok.cons works_ok (SPok.cons (specObj_ok devLines_ok devLinesO_ok) SPok.nil))) Tryd.func25 (by decide) ⟨fun _ _ _ _ => rfl, fun _ _ _ _ => ⟨rfl, rfl⟩, fun x _ _ _ _ => ⟨⟨⟨trivial, trivial, trivial⟩, ⟨⟨rfl, rfl, trivial⟩, trivial⟩⟩, rfl, rfl, trivial⟩⟩ ⟨fun _ _ _ _ => rfl, fun _ _ _ _ => ⟨rfl, rfl⟩, fun x _ _ _ _ => ⟨⟨⟨trivial, trivial, trivial⟩, trivial⟩, rfl, rfl, trivial⟩⟩ (an := (fun _ => {})) (σ := (fun _ av _ => tupPtr2 av)) (op := (fun _ => [])) (clA := (fun _ _ _ _ => [])) (clB := (fun _ _ _ _ => [])) ?_
  rw [← storeNewV]
  simp (maxSteps := 10000000) only [and_false, false_and, false_or, or_false, bOf_true, bOf_false, true_bOf, false_bOf, Exx, int_ite, merge_o, Tr_eq, true_and, and_true, exists_const, forall_const, implies_true, forall_eq, exists_eq, exists_eq', exists_eq_left, exists_eq_left', exists_eq_right, Prod.exists, Prod.forall, and_assoc, exists_and_left, BC_iff, Bool.not_eq_true', Bool.not_eq_false', decide_eq_true_eq, decide_eq_false_iff_not, I64, nat_cast_inj, Int.toNat_natCast, nats_iff, nats_iff', ints_iff, ints_iff', natss_iff, natss_iff', nilnil, litL_eq, str_inj, str_append, str_length, str_getD, str_take, lit1_iff, one_iff, two_iff, one_get, Nat.zero_add, Nat.sub_zero, Nat.reduceMul, Nat.reduceDiv, Nat.reduceAdd, Int.reduceToNat, Nat.not_lt_zero, if_false, if_true, Nat.le_refl, List.length_singleton, List.length_cons, List.length_nil, Bool.false_eq_true, not_true_eq_false, false_implies, not_false_eq_true, Prod.mk.injEq, devB_inj, allocB_inj, setB_inj]
  rintro s ⟨h1, h2⟩
  have e : linesN s.ws = s.ws.length / 8 := rfl
  refine ⟨h2, ⟨h2.1, h2.2.2.2.2.2⟩, h1, fun h k => ?_, fun h => ?_⟩
  · have k' : s.a.n ≤ linesN s.ws := k
    omega
  · show s.a.n ≤ linesN s.ws
    omega

def madeS (n : Nat) (r : Int) : StoreT := { ws := List.replicate (8 * n) 0, a := { n := n, r := r, c := addL n 0 [0, 1], e := 0, m := addL n 0 [0, 1], w := addL n 0 [0, 1] } }
def madeStoreC : Ctr where
  X := Nat × Int
  Y := Unit
  conv := true
  tau := fun _ _ => []
  pre := fun x => x.1 ≤ 3072 ∧ 0 ≤ x.2 ∧ I64 x.2
  args := fun x => [i64 (x.1 : Nat), i64 x.2]
  heap := fun _ => []
  Q := fun _ _ => True
  res := fun _ _ => .tup [.ptr 1 [] 0, .ptr 2 [] 0, .ptr 3 [] 0]
  its := fun _ _ => []
  new := fun x _ => [storeI 2 3, devI (madeS x.1 x.2).ws, allocI (madeS x.1 x.2).a]
theorem madeStoreC_ok : CtrOk madeStoreC :=
  ⟨fun _ _ _ _ => rfl, fun _ _ _ _ => ⟨rfl, rfl⟩, fun x _ _ _ _ => ⟨⟨trivial, ⟨⟨rfl, rfl, trivial⟩, trivial, trivial, trivial⟩⟩, rfl, rfl, rfl, trivial⟩⟩
def tupPtr3 (av : AV) : Option Ren := match av with
  | .tup (.ptr q _ _ :: .ptr r _ _ :: .ptr s _ _ :: _) => some [some 0, some q, some r, some s]
  | _ => none

theorem madeStoreV : (∀ (x : Nat × Int), x.1 ≤ 3072 ∧ (0 : Int) ≤ x.2 ∧ I64 x.2 → Exx Int fun x_1 => ((Tr 1 ((↑x.1 : Int) = x_1) ∧ True) ∧ true = true ∧ True) ∧
 (-9223372036854775808 ≤ x_1 ∧ x_1 ≤ (9223372036854775807 : Int)) ∧ ((0 : Int) ≤ x_1 ∧ x_1 ≤ (4096 : Int) → ∀ (y : Unit), True → Exx (Int × List Int) fun x_2 =>
 ((Tr 1 ((↑x.1 : Int) = x_2.1) ∧ ((0 : Nat) + (2 : Nat) ≤ (2 : Nat) ∧ 2 = x_2.2.length ∧ ∀ (i : Nat), i < x_2.2.length → [AV.int .i64 (if 0 + i = 1 * 1 / 1 then
 1 else if 0 + i = 0 * 1 / 1 then 0 else 0)] = [AV.int .i64 (x_2.2.getD i 0)]) ∧ True) ∧ true = true ∧ True) ∧ (I64 x_2.1 ∧ Ints x_2.2) ∧ ∀ (y : Unit), True →
 Exx (Int × List Int) fun x_3 => ((Tr 1 ((↑x.1 : Int) = x_3.1) ∧ (0 = x_3.2.length ∧ ∀ (i : Nat), i < x_3.2.length → [] = [AV.int .i64 (x_3.2.getD i 0)]) ∧ True)
 ∧ true = true ∧ True) ∧ (I64 x_3.1 ∧ Ints x_3.2) ∧ ∀ (y : Unit), True → Exx ((Nat × Nat) × (Nat × Nat) × Int) fun x_4 => (((true = true ∧ NilNil ∧ (0 : Nat) =
 0) ∧ (true = true ∧ NilNil ∧ (0 : Nat) = 0) ∧ Tr 1 (x.2 = x_4.2.2) ∧ True) ∧ true = true ∧ setB (clampN x_2.1, addL (clampN x_2.1) 0 x_2.2) = setB x_4.1 ∧ setB
 (clampN x_3.1, addL (clampN x_3.1) 0 x_3.2) = setB x_4.2.1 ∧ True) ∧ (SetW x_4.1 ∧ SetW x_4.2.1 ∧ I64 x_4.2.2) ∧ (x_4.1.1 = x_4.2.1.1 ∧ (0 : Int) ≤ x_4.2.2 → ∀
 (y : Unit), True → Exx StoreT fun x_5 => (((true = true ∧ NilNil ∧ (0 : Nat) = 0) ∧ (true = true ∧ NilNil ∧ (0 : Nat) = 0) ∧ True) ∧ true = true ∧ devB
 (List.replicate (8 * x_1.toNat) (0 : Nat)) = devB x_5.ws ∧ allocB (newAlloc x_4) = allocB x_5.a ∧ True) ∧ (DevW x_5.ws ∧ AllocW x_5.a) ∧ (x_5.a.n.le (linesN
 x_5.ws) → ∀ (y : Unit), True → Exx Unit fun y => ((((true = true ∧ NilNil ∧ (0 : Nat) = 0) ∧ (true = true ∧ NilNil ∧ (0 : Nat) = 0) ∧ (true = true ∧ NilNil ∧ (0
 : Nat) = 0) ∧ True) ∧ True) ∧ true = true ∧ ((105 : TypeId) = 105 ∧ (true = true ∧ NilNil ∧ (0 : Nat) = 0) ∧ (true = true ∧ NilNil ∧ (0 : Nat) = 0) ∧ True) ∧
 devB x_5.ws = devB (madeS x.1 x.2).ws ∧ allocB x_5.a = allocB (madeS x.1 x.2).a ∧ True) ∧ True) ∧ (¬storeNewI.p x_5 → ∀ (y : Unit), True → Exx Unit fun y =>
 (((False ∧ (false = true ∧ NilNil ∧ (0 : Nat) = 0) ∧ (false = true ∧ NilNil ∧ (0 : Nat) = 0) ∧ True) ∧ True) ∧ true = true ∧ False ∧ False ∧ setB x_4.1 = allocB
 (madeS x.1 x.2).a ∧ True) ∧ True)) ∧ (¬allocNewI.p x_4 → ∀ (y : Unit), True → Exx StoreT fun x_5 => (((False ∧ NilNil ∧ (0 : Nat) = 0) ∧ False ∧ True) ∧ false =
 true ∧ False ∧ False ∧ True) ∧ (DevW x_5.ws ∧ AllocW x_5.a) ∧ (x_5.a.n.le (linesN x_5.ws) → ∀ (y : Unit), True → Exx Unit fun y => ((((false = true ∧ NilNil ∧
 (0 : Nat) = 0) ∧ (false = true ∧ NilNil ∧ (0 : Nat) = 0) ∧ False ∧ True) ∧ True) ∧ true = true ∧ False ∧ False ∧ setB x_4.1 = allocB (madeS x.1 x.2).a ∧ True) ∧
 True) ∧ (¬storeNewI.p x_5 → ∀ (y : Unit), True → Exx Unit fun y => (((False ∧ (false = true ∧ NilNil ∧ (0 : Nat) = 0) ∧ False ∧ True) ∧ True) ∧ true = true ∧
 False ∧ False ∧ setB x_4.1 = allocB (madeS x.1 x.2).a ∧ True) ∧ True))) ∧ (¬devNewI.p x_1 → ∀ (y : Unit), True → Exx (Int × List Int) fun x_2 => ((Tr 1 ((↑x.1 :
 Int) = x_2.1) ∧ ((0 : Nat) + (2 : Nat) ≤ (2 : Nat) ∧ 2 = x_2.2.length ∧ ∀ (i : Nat), i < x_2.2.length → [AV.int .i64 (if 0 + i = 1 * 1 / 1 then 1 else if 0 + i
 = 0 * 1 / 1 then 0 else 0)] = [AV.int .i64 (x_2.2.getD i 0)]) ∧ True) ∧ true = true ∧ True) ∧ (I64 x_2.1 ∧ Ints x_2.2) ∧ ∀ (y : Unit), True → Exx (Int × List
 Int) fun x_3 => ((Tr 1 ((↑x.1 : Int) = x_3.1) ∧ (0 = x_3.2.length ∧ ∀ (i : Nat), i < x_3.2.length → [] = [AV.int .i64 (x_3.2.getD i 0)]) ∧ True) ∧ true = true ∧
 True) ∧ (I64 x_3.1 ∧ Ints x_3.2) ∧ ∀ (y : Unit), True → Exx ((Nat × Nat) × (Nat × Nat) × Int) fun x_4 => (((true = true ∧ NilNil ∧ (0 : Nat) = 0) ∧ (true = true
 ∧ NilNil ∧ (0 : Nat) = 0) ∧ Tr 1 (x.2 = x_4.2.2) ∧ True) ∧ true = true ∧ setB (clampN x_2.1, addL (clampN x_2.1) 0 x_2.2) = setB x_4.1 ∧ setB (clampN x_3.1,
 addL (clampN x_3.1) 0 x_3.2) = setB x_4.2.1 ∧ True) ∧ (SetW x_4.1 ∧ SetW x_4.2.1 ∧ I64 x_4.2.2) ∧ (x_4.1.1 = x_4.2.1.1 ∧ (0 : Int) ≤ x_4.2.2 → ∀ (y : Unit),
 True → Exx StoreT fun x_5 => ((False ∧ (False ∧ NilNil ∧ (0 : Nat) = 0) ∧ True) ∧ false = true ∧ False ∧ False ∧ True) ∧ (DevW x_5.ws ∧ AllocW x_5.a) ∧
 (x_5.a.n.le (linesN x_5.ws) → ∀ (y : Unit), True → Exx Unit fun y => ((((false = true ∧ NilNil ∧ (0 : Nat) = 0) ∧ False ∧ (false = true ∧ NilNil ∧ (0 : Nat) =
 0) ∧ True) ∧ True) ∧ true = true ∧ False ∧ setB x_4.1 = devB (madeS x.1 x.2).ws ∧ setB x_4.2.1 = allocB (madeS x.1 x.2).a ∧ True) ∧ True) ∧ (¬storeNewI.p x_5 →
 ∀ (y : Unit), True → Exx Unit fun y => (((False ∧ False ∧ (false = true ∧ NilNil ∧ (0 : Nat) = 0) ∧ True) ∧ True) ∧ true = true ∧ False ∧ setB x_4.1 = devB
 (madeS x.1 x.2).ws ∧ setB x_4.2.1 = allocB (madeS x.1 x.2).a ∧ True) ∧ True)) ∧ (¬allocNewI.p x_4 → ∀ (y : Unit), True → Exx StoreT fun x_5 => ((False ∧ False ∧
 True) ∧ false = true ∧ False ∧ False ∧ True) ∧ (DevW x_5.ws ∧ AllocW x_5.a) ∧ (x_5.a.n.le (linesN x_5.ws) → ∀ (y : Unit), True → Exx Unit fun y => ((((false =
 true ∧ NilNil ∧ (0 : Nat) = 0) ∧ False ∧ False ∧ True) ∧ True) ∧ true = true ∧ False ∧ setB x_4.1 = devB (madeS x.1 x.2).ws ∧ setB x_4.2.1 = allocB (madeS x.1
 x.2).a ∧ True) ∧ True) ∧ (¬storeNewI.p x_5 → ∀ (y : Unit), True → Exx Unit fun y => (((False ∧ False ∧ False ∧ True) ∧ True) ∧ true = true ∧ False ∧ setB x_4.1
 = devB (madeS x.1 x.2).ws ∧ setB x_4.2.1 = allocB (madeS x.1 x.2).a ∧ True) ∧ True)))) = (fnVCo tb [(22, specIf devNewI), (23, allocNewAllP), (24, specOf setOfC), (25, specIf storeNewI)] Tryd.f9 madeStoreC (fun _ => {}) (fun _ av _ => tupPtr3 av) (fun _ => []) (fun _ _ _ _ => [])) := by kernel_rfl 

theorem madeStore_ok : SpecOk Tryd.prog 9 (specOf madeStoreC) := by
  refine specOko mixed tb_ok (SPok.cons devNew_ok (SPok.cons allocNewAll_ok (SPok.cons setOf_ok (SPok.cons storeNew_ok SPok.nil)))) Tryd.func9 (by decide) madeStoreC_ok (an := (fun _ => {})) (σ := (fun _ av _ => tupPtr3 av)) (op := (fun _ => [])) (cl := (fun _ _ _ _ => [])) ?_
  rw [← madeStoreV]
  simp (maxSteps := 10000000) only [and_false, false_and, false_or, or_false, bOf_true, bOf_false, true_bOf, false_bOf, Exx, int_ite, merge_o, Tr_eq, true_and, and_true, exists_const, forall_const, implies_true, forall_eq, exists_eq, exists_eq', exists_eq_left, exists_eq_left', exists_eq_right, Prod.exists, Prod.forall, and_assoc, exists_and_left, BC_iff, Bool.not_eq_true', Bool.not_eq_false', decide_eq_true_eq, decide_eq_false_iff_not, I64, nat_cast_inj, Int.toNat_natCast, nats_iff, nats_iff', ints_iff, ints_iff', natss_iff, natss_iff', nilnil, litL_eq, str_inj, str_append, str_length, str_getD, str_take, lit1_iff, one_iff, two_iff, one_get, Nat.zero_add, Nat.sub_zero, Nat.reduceMul, Nat.reduceDiv, Nat.reduceAdd, Int.reduceToNat, Nat.not_lt_zero, if_false, if_true, Nat.le_refl, List.length_singleton, List.length_cons, List.length_nil, Bool.false_eq_true, not_true_eq_false, false_implies, not_false_eq_true, Prod.mk.injEq, devB_inj, allocB_inj, setB_inj]
  rintro n r ⟨hn, h0, h1, h2⟩
  have hcl : clampN (n : Int) = n := by unfold clampN; omega
  have hz : 0 < 2 ^ n := Nat.pos_of_ne_zero (by simp)
  rw [hcl]
  have hw : StoreW (madeS n r) := ⟨⟨by show (List.replicate (8 * n) 0).length ≤ _; rw [List.length_replicate]; omega, fun w hw => by have : w = 0 := (List.mem_replicate.1 hw).2; subst this; unfold U64; omega⟩, hn, ⟨h1, h2⟩, addL_lt hz, hz, addL_lt hz, addL_lt hz⟩
  have hl : (madeS n r).a.n ≤ linesN (madeS n r).ws := by
    show n ≤ (List.replicate (8 * n) 0).length / 8
    rw [List.length_replicate]; omega
  have hi2 : ∀ i, i < ([0, 1] : List Int).length → (if i = 1 then [AV.int IntKind.i64 1] else if i = 0 then [AV.int IntKind.i64 0] else [AV.int IntKind.i64 0]) = [AV.int IntKind.i64 (([0, 1] : List Int).getD i 0)] := fun i hi => by
    have hi : i < 2 := hi
    have : i = 0 ∨ i = 1 := by omega
    rcases this with rfl | rfl <;> rfl
  have hI : Ints [0, 1] := ⟨fun x hx => by
    simp at hx
    rcases hx with rfl | rfl <;> exact ⟨by omega, by omega⟩, by simp⟩
  exact ⟨by omega, by omega, fun _ => ⟨[0, 1], rfl, hi2, by omega, by omega, hI, [], rfl, fun i hi => by simp at hi, by omega, by omega, ⟨by simp, by simp⟩, ⟨hn, addL_lt hz⟩, ⟨hn, hz⟩, h1, h2, fun _ => ⟨madeS n r, rfl, rfl, hw.1, hw.2, fun _ => ⟨rfl, rfl⟩, fun h => h hl⟩, fun h => absurd (show allocNewI.p ((n, addL n 0 [0, 1]), (n, addL n 0 []), r) from ⟨rfl, h0⟩) h⟩, fun h => absurd (show devNewI.p (n : Int) from ⟨by omega, by omega⟩) h⟩

end Yard
