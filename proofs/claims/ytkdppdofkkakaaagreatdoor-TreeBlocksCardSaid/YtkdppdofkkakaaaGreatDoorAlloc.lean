import Derived.Test.YtkdppdofkkakaaaGreatDoorBits2

namespace Yard
open Go Go.Sx Go.Proofs
set_option linter.unusedVariables false
set_option linter.unusedSimpArgs false
set_option maxRecDepth 4000


theorem zuO {n m : Nat} {a : Int} {i : Nat} : (add1 n m a).testBit i = (m.testBit i || decide (i < n/\(i : Int) = a)) := by
 unfold add1 inB
 by_cases h : 0 <= a/\a < (n : Int)
 ·rw [if_pos (decide_eq_true h), Nat.testBit_or, Nat.testBit_two_pow]
  have : (a.toNat = i) ↔ (i < n/\(i : Int) = a) := by omega
  simp only [this]
 ·rw [if_neg (by rw [decide_eq_false h]; simp)]
  have : ¬ (i < n/\(i : Int) = a) := by omega
  simp [this]
theorem qb2 {n i : Nat} : ∀ {l : List Int} {m : Nat}, (addL n m l).testBit i = (m.testBit i || decide (i < n/\(i : Int) ∈ l))
 | [], m => by simp [addL]
 | a :: r, m => by
   have e : addL n m (a :: r) = addL n (add1 n m a) r := rfl
   rw [e, qb2 (l := r), zuO, Bool.or_assoc]
   congr 1
   rw [<- Bool.decide_or]
   apply decide_eq_decide.2
   rw [List.mem_cons]
   constructor
   ·rintro (⟨h1, h2⟩ | ⟨h1, h2⟩)
    ·exact ⟨h1, .inl h2⟩
    ·exact ⟨h1, .inr h2⟩
   ·rintro ⟨h1, h2 | h2⟩
    ·exact .inl ⟨h1, h2⟩
    ·exact .inr ⟨h1, h2⟩
theorem listN_mem {n m : Nat} {a : Int} : a ∈ zcH (n, m) ↔ 0 <= a/\a < (n : Int)/\m.testBit a.toNat = true := by
 rw [zcH, List.mem_map]
 constructor
 ·rintro ⟨i, hi, rfl⟩
  obtain ⟨h1, h2⟩ := zxK.1 hi
  exact ⟨by omega, by simp only at h1; omega, h2⟩
 ·rintro ⟨h1, h2, h3⟩
  exact ⟨a.toNat, zxK.2 ⟨by simp only; omega, h3⟩, by omega⟩

theorem zp8 {n m : Nat} {a : Int} {i : Nat} : (drop1 n m a).testBit i = (m.testBit i && !decide (i < n/\(i : Int) = a)) := by
 unfold drop1 inB
 by_cases h : 0 <= a/\a < (n : Int)
 ·rw [if_pos (decide_eq_true h), zkC]
  have : (a.toNat = i) ↔ (i < n/\(i : Int) = a) := by omega
  simp only [this]
 ·rw [if_neg (by rw [decide_eq_false h]; simp)]
  have : ¬ (i < n/\(i : Int) = a) := by omega
  simp [this]
theorem zrX {s : Nat × Nat} (h : SetW s) : Ints (zcH s) := by
 have h1 := h.1
 refine ⟨fun x hx => ?_, ?_⟩
 ·have := (listN_mem (n := s.1) (m := s.2)).1 hx
  unfold I64; omega
 ·have := zlV s.1 s.2
  rw [zcH, List.length_map]; omega
def zhC (s t : Nat × Nat) : Nat × Nat := (s.1, addL s.1 s.2 (zcH t))
def qa1 (g : Nat × Nat->Nat × Nat->Nat × Nat) : Ctr where
 X := (Nat × Nat) × (Nat × Nat)
 Y := Unit
 conv := true
 tau := tau2
 pre := fun x => SetW x.1/\SetW x.2
 args := fun _ => [.ptr 0 [] 0, .ptr 1 [] 0]
 heap := fun x => [setI x.1, setI x.2]
 Q := fun _ _ => True
 res := fun x _ => .ptr 3 [] 0
 its := fun x _ => [setI x.1, setI x.2]
 new := fun x _ => [setI (g x.1 x.2)]
theorem zyA (g : Nat × Nat->Nat × Nat->Nat × Nat) : CtrOk (qa1 g) :=
 ⟨fun _ _ _ _ => (rfl : 2 = 2), fun _ _ _ _ => ⟨rfl, rfl⟩, fun x _ _ _ _ => ⟨⟨⟨trivial, trivial, trivial⟩, ⟨trivial, trivial⟩⟩, rfl⟩⟩
def zvG (g : Nat × Nat->Nat × Nat->Nat × Nat) : Ctr where
 X := Nat × Nat
 Y := Unit
 conv := true
 tau := zfG
 pre := SetW
 args := fun _ => [.ptr 0 [] 0, .ptr 0 [] 0]
 heap := fun x => [setI x]
 Q := fun _ _ => True
 res := fun x _ => .ptr 2 [] 0
 its := fun x _ => [setI x]
 new := fun x _ => [setI (g x x)]
theorem zvF (g : Nat × Nat->Nat × Nat->Nat × Nat) : CtrOk (zvG g) :=
 ⟨fun _ _ _ _ => (rfl : 1 = 1), fun _ _ _ _ => ⟨rfl, rfl⟩, fun x _ _ _ _ => ⟨⟨⟨trivial, trivial⟩, ⟨trivial, trivial⟩⟩, rfl⟩⟩
def zkT : Ctr := qa1 zhC
def zhU : Ctr := zvG zhC
theorem qlA : (
 let q1 : Prop := true = true/\zaC/\(0 : Nat) = 0;
 let q2 : Prop := q1/\True; ∀ (x : (Nat × Nat) × Nat × Nat), SetW x.1/\SetW x.2->Exx (Nat × Nat) fun x_1 => (q2/\true = true/\setB x.1 = setB x_1/\True)/\SetW x_1/\∀ (y : Unit), True->Exx (Nat × Nat) fun x_2 => (q2/\true = true/\setB x.2 = setB x_2/\True)/\SetW x_2/\∀ (y : Nat), (zcH x_2).length <= y->Exx ((Nat × Nat) × List Int) fun x_3 => ((q1/\(0 + (zcH x_2).length <= (zcH x_2).length/\(zcH x_2).length = x_3.2.length/\∀ (i : Nat), i < x_3.2.length->[AV.int .i64 ((zcH x_2).getD (0 + i) 0)] = [AV.int .i64 (x_3.2.getD i 0)])/\True)/\true = true/\setB x_1 = setB x_3.1/\True)/\(SetW x_3.1/\Ints x_3.2)/\∀ (y : Unit), True->Exx Unit fun y => (q2/\setB x_1 = setB x.1/\setB x_2 = setB x.2/\true = true/\setB (x_3.1.1, addL x_3.1.1 x_3.1.2 x_3.2) = setB (zhC x.1 x.2)/\True)/\True) = (fnVC tb [(56, zcQ (zaA zjV) (zaA zg5)), (111, zaA zgD), (112, zaA zkU)] Tryz.f87 zkT (fun _ => { loose := [(2, [0, 1, 3])] }) (fun _ => none)) := by kernel_rfl

theorem zl9 : SpecOk Tryz.prog 87 (zaA zkT) := by
 refine zaK zaM zaL (SPok.cons (zbJ zhY zgE) (SPok.cons zoW (SPok.cons zrG SPok.nil))) Tryz.func87 (by decide) (zyA _) (Eq.mp qlA ?_)
 simp (maxSteps := 10000000) only [std, stdU, stdV, Exx, I64, Nat.reduceMul, Nat.reduceDiv, Nat.reduceAdd, Int.reduceToNat, zcZ, zcG, zaU]
 exact fun _ _ _ _ h => ⟨h.1, h.2, fun _ _ => ⟨h.1, zrX h.2, rfl⟩⟩

theorem qfX : (
 let q1 : Prop := true = true/\zaC/\(0 : Nat) = 0;
 let q2 : Prop := q1/\True; ∀ (x : Nat × Nat), SetW x->Exx (Nat × Nat) fun x_1 => (q2/\true = true/\setB x = setB x_1/\True)/\SetW x_1/\∀ (y : Unit), True->Exx (Nat × Nat) fun x_2 => (q2/\true = true/\setB x_1 = setB x_2/\True)/\SetW x_2/\∀ (y : Nat), (zcH x_2).length <= y->Exx ((Nat × Nat) × List Int) fun x_3 => ((q1/\(0 + (zcH x_2).length <= (zcH x_2).length/\(zcH x_2).length = x_3.2.length/\∀ (i : Nat), i < x_3.2.length->[AV.int .i64 ((zcH x_2).getD (0 + i) 0)] = [AV.int .i64 (x_3.2.getD i 0)])/\True)/\true = true/\setB x_1 = setB x_3.1/\True)/\(SetW x_3.1/\Ints x_3.2)/\∀ (y : Unit), True->Exx Unit fun y => (q2/\setB x_2 = setB x/\true = true/\setB (x_3.1.1, addL x_3.1.1 x_3.1.2 x_3.2) = setB (zhC x x)/\True)/\True) = (fnVC tb [(56, zcQ (zaA zjV) (zaA zg5)), (111, zaA zgD), (112, zaA zkU)] Tryz.f87 zhU (fun _ => { loose := [(2, [0, 2])] }) (fun _ => none)) := by kernel_rfl

theorem zjS : SpecOk Tryz.prog 87 (zaA zhU) := by
 refine zaK zaM zaL (SPok.cons (zbJ zhY zgE) (SPok.cons zoW (SPok.cons zrG SPok.nil))) Tryz.func87 (by decide) (zvF _) (Eq.mp qfX ?_)
 simp (maxSteps := 10000000) only [std, stdU, stdV, Exx, I64, Nat.reduceMul, Nat.reduceDiv, Nat.reduceAdd, Int.reduceToNat, zcZ, zcG, zaU]
 exact fun _ _ h => ⟨h, h, fun _ _ => ⟨h, zrX h, rfl⟩⟩


structure AllocT where
 n : Nat
 r : Int
 c : Nat
 e : Nat
 m : Nat
 w : Nat
def za7 (x : AllocT) : Prop := x.n <= 3072/\I64 x.r/\x.c < 2 ^ x.n/\x.e < 2 ^ x.n/\x.m < 2 ^ x.n/\x.w < 2 ^ x.n
abbrev zjF (x : AllocT) : AH := [.cells 140 [i64 x.r, .ptr 1 [] 0, .ptr 2 [] 0, .ptr 3 [] 0, .ptr 4 [] 0], setI (x.n, x.c), setI (x.n, x.e), setI (x.n, x.m), setI (x.n, x.w)]
abbrev za5 (x : AllocT) : Opn := { tag := [[(x.n : Int)], [x.r], [(x.c : Int)], [(x.e : Int)], [(x.m : Int)], [(x.w : Int)]], G := Unit, fam := fun _ => zjF x, pl := fun _ => ⟨⟨rfl, rfl, rfl, rfl, rfl, trivial⟩, trivial, trivial, trivial, trivial, trivial⟩, nf := fun _ => rfl, root := fun _ => rfl }
def zaB (x : AllocT) : Ob := (za5 x).ob
abbrev zd1 (x : AllocT) : Sx.Item := .obj (zaB x)
theorem zaJ {s t : AllocT} : (zaB s = zaB t) ↔ s = t := by
 constructor
 ·intro h
  have := congrArg Ob.tag h
  simp only [zaB, Opn.ob, List.cons.injEq, and_true] at this
  obtain ⟨h1, h2, h3, h4, h5, h6⟩ := this
  cases s; cases t
  simp only at *
  rw [Int.ofNat_inj.1 h1, h2, Int.ofNat_inj.1 h3, Int.ofNat_inj.1 h4, Int.ofNat_inj.1 h5, Int.ofNat_inj.1 h6]
 ·intro h; rw [h]
theorem zbX {s t : AllocT} : (zaB s = (za5 t).ob) ↔ s = t := zaJ
theorem zbK {s t : AllocT} : ((za5 s).ob = zaB t) ↔ s = t := zaJ

theorem addL_or {n a b : Nat} (h : b < 2 ^ n) : addL n a (zcH (n, b)) = a ||| b := by
 apply Nat.eq_of_testBit_eq
 intro i
 rw [qb2, Nat.testBit_or]
 congr 1
 by_cases hi : i < n
 ·rw [Bool.eq_iff_iff, decide_eq_true_eq, listN_mem, Int.toNat_natCast]
  exact ⟨fun h => h.2.2.2, fun h => ⟨hi, by omega, by omega, h⟩⟩
 ·rw [Nat.testBit_lt_two_pow (Nat.lt_of_lt_of_le h (Nat.pow_le_pow_right (by decide) (by omega)))]
  exact decide_eq_false fun k => hi k.1
theorem zhB {n a b : Nat} (h : b < 2 ^ n) : zhC (n, a) (n, b) = (n, a ||| b) := by rw [zhC, addL_or h]

def clIf (p : Nat) (H : AH) (l : List (Nat × List Nat × Opn)) : List (Nat × List Nat × Opn) := match H[p]? with
 | some (.obj _) => []
 | _ => l
def zeE : Ctr := zgD

theorem copiedV : (
 let q1 : Prop := true = true/\zaC/\(0 : Nat) = 0;
 let q2 : Prop := q1/\True; ∀ (x : Nat × Nat), SetW x->Exx (Nat × Nat) fun x_1 => ((q1/\q2)/\true = true/\setB x = setB x_1/\True)/\SetW x_1/\∀ (y : Unit), True->Exx Unit fun y => (q2/\setB x_1 = setB x/\true = true/\setB (zhC x_1 x_1) = setB x/\True)/\True) = (fnVC tb [(87, zvD (zaA zhU) (zaA zkT))] Tryz.f55 zeE (fun _ => {}) (fun _ => none)) := by kernel_rfl

theorem zdA : SpecOk Tryz.prog 55 (zaA zeE) := by
 refine zaK zaM zaL (SPok.cons (zoP zjS zl9) SPok.nil) Tryz.func55 (by decide) znB (Eq.mp copiedV ?_)
 simp (maxSteps := 10000000) only [std, stdU, stdV, Exx, I64, Nat.reduceMul, Nat.reduceDiv, Nat.reduceAdd, Int.reduceToNat, zaU]
 rintro n m h
 exact ⟨h, by rw [zhB h.2, Nat.or_self]⟩

theorem qiM {s : Nat × Nat} (h : s.1 <= 3072) : ∀ k a : Nat, -1 <= gapF s k a/\gapF s k a <= 3072
 | 0, _ => ⟨by simp [gapF], by simp [gapF]⟩
 | k + 1, a => by
   rw [gapF]
   have := qiM h k (a + 1)
   split
   ·split
    ·exact this
    ·omega
   ·omega
theorem zt9 {s : Nat × Nat} (h : SetW s) (a : Int) : I64 (gapN s a) := by
 have := qiM h.1 (s.1 + 1) a.toNat
 unfold gapN; exact ⟨by omega, by omega⟩
theorem or_lt2 {n a b : Nat} (ha : a < 2 ^ n) (hb : b < 2 ^ n) : a ||| b < 2 ^ n := Nat.or_lt_two_pow ha hb
def zbR (x : AllocT) : Nat := x.w ||| x.c ||| x.e ||| x.m
def zxV (Y : Type) (pre : AllocT × Y->Prop) (args : AllocT × Y->List AV) (res : AllocT × Y->AV) : Ctr where
 X := AllocT × Y
 Y := Unit
 conv := true
 tau := zfG
 pre := fun x => za7 x.1/\pre x
 args := fun x => .ptr 0 [] 0 :: args x
 heap := fun x => [zd1 x.1]
 Q := fun _ _ => True
 res := fun x _ => res x
 its := fun x _ => [zd1 x.1]
 new := fun _ _ => []
theorem zxU {Y : Type} {pre : AllocT × Y->Prop} {args : AllocT × Y->List AV} {res : AllocT × Y->AV} (h : ∀ x, plV 2 (res x)) : CtrOk (zxV Y pre args res) :=
 ⟨fun _ _ _ _ => rfl, fun _ _ _ _ => ⟨rfl, rfl⟩, fun x _ _ _ _ => ⟨⟨⟨trivial, trivial⟩, trivial⟩, h x⟩⟩
def ziM (Y : Type) (pre : AllocT × Y->Prop) (args : AllocT × Y->List AV) (g : AllocT × Y->AllocT) (res : AllocT × Y->AV) : Ctr where
 X := AllocT × Y
 Y := Unit
 conv := true
 tau := zfG
 pre := fun x => za7 x.1/\pre x
 args := fun x => .ptr 0 [] 0 :: args x
 heap := fun x => [zd1 x.1]
 Q := fun _ _ => True
 res := fun x _ => res x
 its := fun x _ => [zd1 (g x)]
 new := fun _ _ => []
theorem zfX {Y : Type} {pre : AllocT × Y->Prop} {args : AllocT × Y->List AV} {g : AllocT × Y->AllocT} {res : AllocT × Y->AV} (h : ∀ x, plV 2 (res x)) : CtrOk (ziM Y pre args g res) :=
 ⟨fun _ _ _ _ => (rfl : 1 = 1), fun _ _ _ _ => ⟨rfl, rfl⟩, fun x _ _ _ _ => ⟨⟨⟨trivial, trivial⟩, trivial⟩, h x⟩⟩
def zm3 (g : AllocT->Nat × Nat) : Ctr where
 X := AllocT
 Y := Unit
 conv := true
 tau := zfG
 pre := za7
 args := fun _ => [.ptr 0 [] 0]
 heap := fun x => [zd1 x]
 Q := fun _ _ => True
 res := fun _ _ => .ptr 2 [] 0
 its := fun x _ => [zd1 x]
 new := fun x _ => [setI (g x)]
theorem zlW (g : AllocT->Nat × Nat) : CtrOk (zm3 g) :=
 ⟨fun _ _ _ _ => (rfl : 1 = 1), fun _ _ _ _ => ⟨rfl, rfl⟩, fun x _ _ _ _ => ⟨⟨⟨trivial, trivial⟩, ⟨trivial, trivial⟩⟩, rfl⟩⟩
def qnU (av : AV) : Option Ren := match av with
 | .ptr q _ _ => some [some 0, some 1, some q]
 | _ => none
def qmS : Ctr := zm3 fun x => (x.n, zbR x)

theorem heldV : (
 let q1 : Prop := true = true/\zaC/\(0 : Nat) = 0;
 let q2 : Prop := q1/\True;
 let q3 : Int := (↑(Int.toNat 3 - 0) : Int);
 let q4 : Prop := q1/\q2;
 let q5 : Int := 0 + 1;
 let q6 : Int := q5 + 1; ∀ (x : AllocT), za7 x->zaB x = (za5 x).ob/\∀ (g : Unit), ((0 : Int) <= (3 : Int)/\(3 : Int) < (↑(4 : Nat) : Int))/\Exx (Nat × Nat) fun x_1 => (q2/\true = true/\setB (x.n, x.w) = setB x_1/\True)/\SetW x_1/\∀ (y : Unit), True->(0 : Int) <= (3 : Int)/\((0 : Nat) <= (3 : Int).toNat/\(3 : Int).toNat <= (4 : Nat))/\((0 : Int) <= (0 : Int)/\(0 : Int) < q3)/\Exx ((Nat × Nat) × Nat × Nat) fun x_2 => (q4/\true = true/\setB x_1 = setB x_2.1/\setB (x.n, x.c) = setB x_2.2/\True)/\(SetW x_2.1/\SetW x_2.2)/\∀ (y : Unit), True->I64 q5/\((0 : Int) <= q5/\q5 < q3)/\Exx ((Nat × Nat) × Nat × Nat) fun x_3 => (q4/\true = true/\setB (zhC x_2.1 x_2.2) = setB x_3.1/\setB (x.n, x.e) = setB x_3.2/\True)/\(SetW x_3.1/\SetW x_3.2)/\∀ (y : Unit), True->I64 q6/\((0 : Int) <= q6/\q6 < q3)/\Exx ((Nat × Nat) × Nat × Nat) fun x_4 => (q4/\true = true/\setB (zhC x_3.1 x_3.2) = setB x_4.1/\setB (x.n, x.m) = setB x_4.2/\True)/\(SetW x_4.1/\SetW x_4.2)/\∀ (y : Unit), True->I64 (q6 + 1)/\Exx Unit fun y => Exx Unit fun g => Tr 1 (((140 : TypeId) = 140/\Tr 1 (x.r = x.r)/\q1/\q1/\q4)/\setB x_2.2 = setB (x.n, x.c)/\setB x_3.2 = setB (x.n, x.e)/\setB x_4.2 = setB (x.n, x.m)/\setB x_1 = setB (x.n, x.w)/\True)/\(q2/\(za5 x).ob = zaB x/\true = true/\setB (zhC x_4.1 x_4.2) = setB (x.n, zbR x)/\True)/\True) = (zb4 tb [(55, zaA zeE), (87, zvD (zaA zhU) (zaA zkT))] Tryz.f137 qmS (fun x => { unroll := [(3, 4)] }) (fun _ av _ => qnU av) (fun x => [(0, za5 x)]) (fun x y av H => [(0, [2, 3, 4, 5], za5 x)])) := by kernel_rfl

theorem qiD : SpecOk Tryz.prog 137 (zaA qmS) := by
 refine za0 zaM zaL (SPok.cons zdA (SPok.cons (zoP zjS zl9) SPok.nil)) Tryz.func137 (by decide) (zlW _) (Eq.mp heldV ?_)
 simp (maxSteps := 10000000) only [std, stdU, stdV, Exx, I64, Nat.reduceMul, Nat.reduceDiv, Nat.reduceAdd, Int.reduceToNat, zaU, zbX, zbK, zaJ]
 rintro x ⟨h1, h2, h3, h4, h5, h6⟩
 have e1 : zhC (x.n, x.w) (x.n, x.c) = (x.n, x.w ||| x.c) := zhB h3
 have e2 : zhC (x.n, x.w ||| x.c) (x.n, x.e) = (x.n, x.w ||| x.c ||| x.e) := zhB h4
 have e3 : zhC (x.n, x.w ||| x.c ||| x.e) (x.n, x.m) = (x.n, zbR x) := zhB h5
 rw [e1, e2, e3]
 repeat refine And.intro (by first | omega | exact ⟨h1, h6⟩ | exact ⟨h1, h3⟩ | exact ⟨h1, h4⟩ | exact ⟨h1, h5⟩ | exact ⟨h1, or_lt2 h6 h3⟩ | exact ⟨h1, or_lt2 (or_lt2 h6 h3) h4⟩) ?_
 rfl

def zxQ (args : List AV) (H : AH) : List Nat := match args with
 | .ptr p _ _ :: _ => match H[p]? with
   | some (.cells _ (_ :: .ptr a _ _ :: .ptr b _ _ :: .ptr c _ _ :: .ptr d _ _ :: _)) => [p, a, b, c, d]
   | _ => [p]
 | _ => []
theorem qjT (x : AllocT) : plH (zjF x) := ⟨⟨rfl, rfl, rfl, rfl, rfl, trivial⟩, trivial, trivial, trivial, trivial, trivial⟩
def zwV : Ctr where
 X := AllocT
 Y := Unit
 conv := true
 tau := zxQ
 pre := za7
 args := fun _ => [.ptr 0 [] 0]
 heap := zjF
 Q := fun _ _ => True
 res := fun _ _ => .ptr 6 [] 0
 its := fun x _ => zjF x
 new := fun x _ => [setI (x.n, zbR x)]
theorem qiE : CtrOk zwV :=
 ⟨fun _ _ _ _ => (rfl : 5 = 5), fun _ _ _ _ => ⟨rfl, rfl⟩, fun x _ _ _ _ => ⟨⟨qjT x, ⟨trivial, trivial⟩⟩, rfl⟩⟩
def ptrRen5 (av : AV) : Option Ren := match av with
 | .ptr q _ _ => some [some 0, some 1, some 2, some 3, some 4, some 5, some q]
 | _ => none

theorem heldOV : (
 let q1 : Prop := true = true/\zaC/\(0 : Nat) = 0;
 let q2 : Prop := q1/\True;
 let q3 : Int := (↑(Int.toNat 3 - 0) : Int);
 let q4 : Prop := q1/\q2;
 let q5 : Int := 0 + 1;
 let q6 : Int := q5 + 1; ∀ (x : AllocT), za7 x->((0 : Int) <= (3 : Int)/\(3 : Int) < (↑(4 : Nat) : Int))/\Exx (Nat × Nat) fun x_1 => (q2/\true = true/\setB (x.n, x.w) = setB x_1/\True)/\SetW x_1/\∀ (y : Unit), True->(0 : Int) <= (3 : Int)/\((0 : Nat) <= (3 : Int).toNat/\(3 : Int).toNat <= (4 : Nat))/\((0 : Int) <= (0 : Int)/\(0 : Int) < q3)/\Exx ((Nat × Nat) × Nat × Nat) fun x_2 => (q4/\true = true/\setB x_1 = setB x_2.1/\setB (x.n, x.c) = setB x_2.2/\True)/\(SetW x_2.1/\SetW x_2.2)/\∀ (y : Unit), True->I64 q5/\((0 : Int) <= q5/\q5 < q3)/\Exx ((Nat × Nat) × Nat × Nat) fun x_3 => (q4/\true = true/\setB (zhC x_2.1 x_2.2) = setB x_3.1/\setB (x.n, x.e) = setB x_3.2/\True)/\(SetW x_3.1/\SetW x_3.2)/\∀ (y : Unit), True->I64 q6/\((0 : Int) <= q6/\q6 < q3)/\Exx ((Nat × Nat) × Nat × Nat) fun x_4 => (q4/\true = true/\setB (zhC x_3.1 x_3.2) = setB x_4.1/\setB (x.n, x.m) = setB x_4.2/\True)/\(SetW x_4.1/\SetW x_4.2)/\∀ (y : Unit), True->I64 (q6 + 1)/\Exx Unit fun y => (q2/\((140 : TypeId) = 140/\Tr 1 (x.r = x.r)/\q1/\q1/\q4)/\setB x_2.2 = setB (x.n, x.c)/\setB x_3.2 = setB (x.n, x.e)/\setB x_4.2 = setB (x.n, x.m)/\setB x_1 = setB (x.n, x.w)/\true = true/\setB (zhC x_4.1 x_4.2) = setB (x.n, zbR x)/\True)/\True) = (zb4 tb [(55, zaA zeE), (87, zvD (zaA zhU) (zaA zkT))] Tryz.f137 zwV (fun x => { unroll := [(3, 4)] }) (fun _ av _ => ptrRen5 av) (fun _ => []) (fun _ _ _ _ => [])) := by kernel_rfl

theorem qbL : SpecOk Tryz.prog 137 (zaA zwV) := by
 refine za0 zaM zaL (SPok.cons zdA (SPok.cons (zoP zjS zl9) SPok.nil)) Tryz.func137 (by decide) qiE (Eq.mp heldOV ?_)
 simp (maxSteps := 10000000) only [std, stdU, stdV, Exx, I64, Nat.reduceMul, Nat.reduceDiv, Nat.reduceAdd, Int.reduceToNat, zaU]
 rintro x ⟨h1, h2, h3, h4, h5, h6⟩
 have e1 : zhC (x.n, x.w) (x.n, x.c) = (x.n, x.w ||| x.c) := zhB h3
 have e2 : zhC (x.n, x.w ||| x.c) (x.n, x.e) = (x.n, x.w ||| x.c ||| x.e) := zhB h4
 have e3 : zhC (x.n, x.w ||| x.c ||| x.e) (x.n, x.m) = (x.n, zbR x) := zhB h5
 rw [e1, e2, e3]
 repeat refine And.intro (by first | omega | exact ⟨h1, h6⟩ | exact ⟨h1, h3⟩ | exact ⟨h1, h4⟩ | exact ⟨h1, h5⟩ | exact ⟨h1, or_lt2 h6 h3⟩ | exact ⟨h1, or_lt2 (or_lt2 h6 h3) h4⟩) ?_
 rfl

def zuW : Ctr := zm3 fun x => (x.n, x.w)

theorem worksV : (
 let q1 : Prop := true = true/\zaC/\(0 : Nat) = 0;
 let q2 : Prop := q1/\True; ∀ (x : AllocT), za7 x->zaB x = (za5 x).ob/\∀ (g : Unit), ((0 : Int) <= (3 : Int)/\(3 : Int) < (↑(4 : Nat) : Int))/\Exx (Nat × Nat) fun x_1 => (q2/\true = true/\setB (x.n, x.w) = setB x_1/\True)/\SetW x_1/\∀ (y : Unit), True->Exx Unit fun y => Exx Unit fun g => Tr 1 (((140 : TypeId) = 140/\Tr 1 (x.r = x.r)/\q1/\q1/\q1/\q2)/\setB (x.n, x.c) = setB (x.n, x.c)/\setB (x.n, x.e) = setB (x.n, x.e)/\setB (x.n, x.m) = setB (x.n, x.m)/\setB x_1 = setB (x.n, x.w)/\True)/\(q2/\(za5 x).ob = zaB x/\true = true/\setB x_1 = setB (x.n, x.w)/\True)/\True) = (zb4 tb [(55, zaA zeE)] Tryz.f42 zuW (fun _ => {}) (fun _ av _ => qnU av) (fun x => [(0, za5 x)]) (fun x y av H => [(0, [2, 3, 4, 5], za5 x)])) := by kernel_rfl

theorem zsO : SpecOk Tryz.prog 42 (zaA zuW) := by
 refine za0 zaM zaL (SPok.cons zdA SPok.nil) Tryz.func42 (by decide) (zlW _) (Eq.mp worksV ?_)
 simp (maxSteps := 10000000) only [std, stdU, stdV, Exx, I64, Nat.reduceMul, Nat.reduceDiv, Nat.reduceAdd, Int.reduceToNat, zaU, zbX, zbK, zaJ]
 exact fun x h => ⟨by omega, by omega, h.1, h.2.2.2.2.2⟩

theorem zzP {x : AllocT} (h : za7 x) : zbR x < 2 ^ x.n := by
 obtain ⟨_, _, h3, h4, h5, h6⟩ := h
 exact or_lt2 (or_lt2 (or_lt2 h6 h3) h4) h5
def freeN (x : AllocT) : Int := (x.n : Int) - ((bitsL x.n (zbR x)).length : Nat)
theorem qbP {x : AllocT} (h : za7 x) : 0 <= freeN x/\freeN x <= 3072 := by
 have := zlV x.n (zbR x)
 have := h.1
 unfold freeN; omega
def zd4 (x : AllocT) (r : Int) : Int := if freeN x <= r then 0 else gapN (x.n, zbR x) 0
def zcA (x : AllocT) (r : Int) : Int := if freeN x <= r then 10 else 0
def za1 (x : AllocT) (r : Int) : AllocT := if freeN x <= r then x else { x with w := add1 x.n x.w (gapN (x.n, zbR x) 0) }
def qfA : Ctr := ziM Int (fun x => I64 x.2) (fun x => [i64 x.2]) (fun x => za1 x.1 x.2) (fun x => .tup [i64 (zd4 x.1 x.2), i64 (zcA x.1 x.2)])

theorem takeRV : (
 let q1 : Prop := true = true/\zaC/\(0 : Nat) = 0;
 let q2 : Prop := q1/\True;
 let q3 : Nat := (TI.mk (TK.int IntKind.i64) 1 8 (ZL.cons (Value.int IntKind.i64 0) ZL.nil) false).size; ∀ (x : AllocT × Int), za7 x.1/\I64 x.2->Exx AllocT fun x_1 => (q2/\true = true/\zaB x.1 = zaB x_1/\True)/\za7 x_1/\∀ (y : Unit), True->Exx ((Nat × Nat) × Unit) fun x_2 => (q2/\true = true/\setB (x_1.n, zbR x_1) = setB x_2.1/\True)/\(SetW x_2.1/\True)/\∀ (y : Unit), True->Exx ((Nat × Nat) × Unit) fun x_3 =>
 let q4 : Int := (x_2.1.1 : Int) - (↑(bitsL x_3.1.1 x_3.1.2).length : Int); (q2/\true = true/\setB x_2.1 = setB x_3.1/\True)/\(SetW x_3.1/\True)/\∀ (y : Unit), True->I64 q4/\BC (decide (q4 <= x.2)) (Exx Unit fun y => (((Tr 1 ((0 : Int) = zd4 x.1 x.2)/\Tr 1 ((10 : Int) = zcA x.1 x.2)/\True)/\True)/\zaB x_1 = zaB (za1 x.1 x.2)/\true = true/\True)/\True) (Exx ((Nat × Nat) × Int) fun x_4 => ((q1/\Tr 1 ((0 : Int) = x_4.2)/\True)/\true = true/\setB x_3.1 = setB x_4.1/\True)/\(SetW x_4.1/\I64 x_4.2)/\∀ (y : Unit), True->Exx AllocT fun y => zaB x_1 = (za5 y).ob/\∀ (g : Unit), ((0 : Int) <= (3 : Int)/\(3 : Int) < (↑(4 : Nat) : Int))/\Exx ((Nat × Nat) × List Int) fun x_5 => ((q1/\((0 : Nat) + (1 : Nat) <= (1 : Nat)/\1 = x_5.2.length/\∀ (i : Nat),
 let q5 : Nat := 0 + i; i < x_5.2.length->[AV.int .i64 (if q5 = 0 * 1 / 1 then gapN x_4.1 x_4.2 else 0)] = [AV.int .i64 (x_5.2.getD i 0)])/\True)/\true = true/\setB (y.n, y.w) = setB x_5.1/\True)/\(SetW x_5.1/\Ints x_5.2)/\∀ (y_1 : Unit), True->Exx Unit fun y_2 => Exx Unit fun g => Tr 1 (((140 : TypeId) = 140/\Tr 1 (y.r = (za1 x.1 x.2).r)/\q1/\q1/\q1/\q2)/\setB (y.n, y.c) = setB ((za1 x.1 x.2).n, (za1 x.1 x.2).c)/\setB (y.n, y.e) = setB ((za1 x.1 x.2).n, (za1 x.1 x.2).e)/\setB (y.n, y.m) = setB ((za1 x.1 x.2).n, (za1 x.1 x.2).m)/\setB (x_5.1.1, addL x_5.1.1 x_5.1.2 x_5.2) = setB ((za1 x.1 x.2).n, (za1 x.1 x.2).w)/\True)/\(((Tr 1 (gapN x_4.1 x_4.2 = zd4 x.1 x.2)/\Tr 1 ((0 : Int) = zcA x.1 x.2)/\True)/\True)/\(za5 (za1 x.1 x.2)).ob = zaB (za1 x.1 x.2)/\true = true/\True)/\True)) = (zb4 tb [(44, zaA zhW), (54, zaA zfR), (56, zcQ (zaA zjV) (zaA zg5)), (137, zcQ (zaA qmS) (zaA zwV)), (138, zaA zs1)] Tryz.f117 qfA (fun x => { opensE := [(5, [{ p := 0, Y := AllocT, o := za5 }])] }) (fun _ _ _ => none) (fun _ => []) (fun x y av H => clIf 0 H [(0, [3, 4, 5, 6], za5 (za1 x.1 x.2))])) := by kernel_rfl

theorem qkY : SpecOk Tryz.prog 117 (zaA qfA) := by
 refine za0 zaM zaL (SPok.cons zjU (SPok.cons ze0 (SPok.cons (zbJ zhY zgE) (SPok.cons (zbJ qiD qbL) (SPok.cons zvH SPok.nil))))) Tryz.func117 (by decide) (zfX fun _ => ⟨rfl, rfl, trivial⟩) (Eq.mp takeRV ?_)
 simp (maxSteps := 10000000) only [std, stdU, stdV, Exx, I64, Nat.reduceMul, Nat.reduceDiv, Nat.reduceAdd, Int.reduceToNat, zaU, zbX, zbK, zaJ]
 rintro x r ⟨h, h1, h2⟩
 have hb := qbP h
 have hs : SetW (x.n, zbR x) := ⟨h.1, zzP h⟩
 have e : (x.n : Int) - ((bitsL x.n (zbR x)).length : Nat) = freeN x := rfl
 rw [e]
 refine ⟨h, hs, hs, by omega, by omega, fun hle => ⟨by rw [zd4, if_pos hle], by rw [zcA, if_pos hle], by rw [za1, if_pos hle]⟩, fun hgt => ?_⟩
 rw [za1, if_neg hgt, zd4, if_neg hgt, zcA, if_neg hgt]
 have hg := zt9 hs 0
 refine ⟨hs, by omega, by omega, by omega, by omega, x.n, x.w, [gapN (x.n, zbR x) 0], rfl, fun i hi => ?_, rfl, rfl, ⟨h.1, h.2.2.2.2.2⟩, ⟨fun y hy => ?_, by simp⟩, rfl, rfl, rfl, rfl, rfl, rfl, rfl, rfl, rfl, rfl, rfl⟩
 ·have : i = 0 := by simpa using hi
  subst this; rfl
 ·have : y = gapN (x.n, zbR x) 0 := by simpa using hy
  rw [this]; exact hg

def zsS : Ctr where
 X := AllocT × Int
 Y := Unit
 conv := true
 tau := zxQ
 pre := fun x => za7 x.1/\I64 x.2
 args := fun x => [.ptr 0 [] 0, i64 x.2]
 heap := fun x => zjF x.1
 Q := fun _ _ => True
 res := fun x _ => .tup [i64 (zd4 x.1 x.2), i64 (zcA x.1 x.2)]
 its := fun x _ => zjF (za1 x.1 x.2)
 new := fun x _ => []
theorem qfB : CtrOk zsS :=
 ⟨fun _ _ _ _ => (rfl : 5 = 5), fun _ _ _ _ => ⟨rfl, rfl⟩, fun x _ _ _ _ => ⟨⟨qjT _, trivial⟩, ⟨rfl, rfl, trivial⟩⟩⟩

theorem takeROV : (
 let q1 : Prop := true = true/\zaC/\(0 : Nat) = 0;
 let q2 : Prop := q1/\True;
 let q3 : Prop := (140 : TypeId) = 140;
 let q4 : Prop := q1/\q1/\q1/\q2;
 let q5 : Nat := (TI.mk (TK.int IntKind.i64) 1 8 (ZL.cons (Value.int IntKind.i64 0) ZL.nil) false).size; ∀ (x : AllocT × Int),
 let q6 : Ob := setB ((za1 x.1 x.2).n, (za1 x.1 x.2).c);
 let q7 : Ob := setB ((za1 x.1 x.2).n, (za1 x.1 x.2).e);
 let q8 : Ob := setB ((za1 x.1 x.2).n, (za1 x.1 x.2).m);
 let q9 : Ob := setB ((za1 x.1 x.2).n, (za1 x.1 x.2).w); za7 x.1/\I64 x.2->Exx AllocT fun x_1 => (q2/\true = true/\(q3/\Tr 1 (x.1.r = x_1.r)/\q4)/\setB (x.1.n, x.1.c) = setB (x_1.n, x_1.c)/\setB (x.1.n, x.1.e) = setB (x_1.n, x_1.e)/\setB (x.1.n, x.1.m) = setB (x_1.n, x_1.m)/\setB (x.1.n, x.1.w) = setB (x_1.n, x_1.w)/\True)/\za7 x_1/\∀ (y : Unit), True->Exx ((Nat × Nat) × Unit) fun x_2 => (q2/\true = true/\setB (x_1.n, zbR x_1) = setB x_2.1/\True)/\(SetW x_2.1/\True)/\∀ (y : Unit), True->Exx ((Nat × Nat) × Unit) fun x_3 =>
 let q10 : Int := (x_2.1.1 : Int) - (↑(bitsL x_3.1.1 x_3.1.2).length : Int); (q2/\true = true/\setB x_2.1 = setB x_3.1/\True)/\(SetW x_3.1/\True)/\∀ (y : Unit), True->I64 q10/\BC (decide (q10 <= x.2)) (Exx Unit fun y => (((Tr 1 ((0 : Int) = zd4 x.1 x.2)/\Tr 1 ((10 : Int) = zcA x.1 x.2)/\True)/\True)/\(q3/\Tr 1 (x_1.r = (za1 x.1 x.2).r)/\q4)/\setB (x_1.n, x_1.c) = q6/\setB (x_1.n, x_1.e) = q7/\setB (x_1.n, x_1.m) = q8/\setB (x_1.n, x_1.w) = q9/\true = true/\True)/\True) (Exx ((Nat × Nat) × Int) fun x_4 => ((q1/\Tr 1 ((0 : Int) = x_4.2)/\True)/\true = true/\setB x_3.1 = setB x_4.1/\True)/\(SetW x_4.1/\I64 x_4.2)/\∀ (y : Unit), True->((0 : Int) <= (3 : Int)/\(3 : Int) < (↑(4 : Nat) : Int))/\Exx ((Nat × Nat) × List Int) fun x_5 => ((q1/\((0 : Nat) + (1 : Nat) <= (1 : Nat)/\1 = x_5.2.length/\∀ (i : Nat),
 let q11 : Nat := 0 + i; i < x_5.2.length->[AV.int .i64 (if q11 = 0 * 1 / 1 then gapN x_4.1 x_4.2 else 0)] = [AV.int .i64 (x_5.2.getD i 0)])/\True)/\true = true/\setB (x_1.n, x_1.w) = setB x_5.1/\True)/\(SetW x_5.1/\Ints x_5.2)/\∀ (y : Unit), True->Exx Unit fun y => (((Tr 1 (gapN x_4.1 x_4.2 = zd4 x.1 x.2)/\Tr 1 ((0 : Int) = zcA x.1 x.2)/\True)/\True)/\(q3/\Tr 1 (x_1.r = (za1 x.1 x.2).r)/\q4)/\setB (x_1.n, x_1.c) = q6/\setB (x_1.n, x_1.e) = q7/\setB (x_1.n, x_1.m) = q8/\setB (x_5.1.1, addL x_5.1.1 x_5.1.2 x_5.2) = q9/\true = true/\True)/\True)) = (fnVC tb [(44, zaA zhW), (54, zaA zfR), (56, zcQ (zaA zjV) (zaA zg5)), (137, zcQ (zaA qmS) (zaA zwV)), (138, zaA zs1)] Tryz.f117 zsS (fun _ => {}) (fun _ => none)) := by kernel_rfl

theorem qe9 : SpecOk Tryz.prog 117 (zaA zsS) := by
 refine zaK zaM zaL (SPok.cons zjU (SPok.cons ze0 (SPok.cons (zbJ zhY zgE) (SPok.cons (zbJ qiD qbL) (SPok.cons zvH SPok.nil))))) Tryz.func117 (by decide) qfB (Eq.mp takeROV ?_)
 simp (maxSteps := 10000000) only [std, stdU, stdV, Exx, I64, Nat.reduceMul, Nat.reduceDiv, Nat.reduceAdd, Int.reduceToNat, zaU]
 rintro x r ⟨h, h1, h2⟩
 have hb := qbP h
 have hs : SetW (x.n, zbR x) := ⟨h.1, zzP h⟩
 have e : (x.n : Int) - ((bitsL x.n (zbR x)).length : Nat) = freeN x := rfl
 refine ⟨x, rfl, rfl, rfl, rfl, rfl, rfl, rfl, rfl, rfl, h, hs, hs, ?_⟩
 rw [e]
 refine ⟨by omega, by omega, fun hle => ?_, fun hgt => ?_⟩
 ·rw [zd4, if_pos hle, zcA, if_pos hle, za1, if_pos hle]
  exact ⟨rfl, rfl, rfl, rfl, rfl, rfl, rfl, rfl, rfl, rfl, rfl⟩
 rw [za1, if_neg hgt, zd4, if_neg hgt, zcA, if_neg hgt]
 have hg := zt9 hs 0
 refine ⟨hs, by omega, by omega, by omega, by omega, x.n, x.w, [gapN (x.n, zbR x) 0], rfl, fun i hi => ?_, rfl, rfl, ⟨h.1, h.2.2.2.2.2⟩, ⟨fun y hy => ?_, by simp⟩, rfl, rfl, rfl, rfl, rfl, rfl, rfl, rfl, rfl, rfl, rfl⟩
 ·have : i = 0 := by simpa using hi
  subst this; rfl
 ·have : y = gapN (x.n, zbR x) 0 := by simpa using hy
  rw [this]; exact hg

def zm1 : Ctr := ziM Unit (fun _ => True) (fun _ => []) (fun x => za1 x.1 x.1.r) (fun x => .tup [i64 (zd4 x.1 x.1.r), i64 (zcA x.1 x.1.r)])
theorem qeI : (
 let q1 : Prop := true = true/\zaC/\(0 : Nat) = 0;
 let q2 : Prop := (140 : TypeId) = 140;
 let q3 : Prop := q1/\q1/\q1/\q1/\True; ∀ (x : AllocT × Unit), za7 x.1/\True->zaB x.1 = (za5 x.1).ob/\∀ (g : Unit), Exx (AllocT × Int) fun x_1 => ((q1/\Tr 1 (x.1.r = x_1.2)/\True)/\true = true/\(q2/\Tr 1 (x.1.r = x_1.1.r)/\q3)/\setB (x.1.n, x.1.c) = setB (x_1.1.n, x_1.1.c)/\setB (x.1.n, x.1.e) = setB (x_1.1.n, x_1.1.e)/\setB (x.1.n, x.1.m) = setB (x_1.1.n, x_1.1.m)/\setB (x.1.n, x.1.w) = setB (x_1.1.n, x_1.1.w)/\True)/\(za7 x_1.1/\I64 x_1.2)/\∀ (y : Unit), True->Exx Unit fun y => Exx Unit fun g => Tr 1 ((q2/\Tr 1 ((za1 x_1.1 x_1.2).r = (za1 x.1 x.1.r).r)/\q3)/\setB ((za1 x_1.1 x_1.2).n, (za1 x_1.1 x_1.2).c) = setB ((za1 x.1 x.1.r).n, (za1 x.1 x.1.r).c)/\setB ((za1 x_1.1 x_1.2).n, (za1 x_1.1 x_1.2).e) = setB ((za1 x.1 x.1.r).n, (za1 x.1 x.1.r).e)/\setB ((za1 x_1.1 x_1.2).n, (za1 x_1.1 x_1.2).m) = setB ((za1 x.1 x.1.r).n, (za1 x.1 x.1.r).m)/\setB ((za1 x_1.1 x_1.2).n, (za1 x_1.1 x_1.2).w) = setB ((za1 x.1 x.1.r).n, (za1 x.1 x.1.r).w)/\True)/\(((Tr 1 (zd4 x_1.1 x_1.2 = zd4 x.1 x.1.r)/\Tr 1 (zcA x_1.1 x_1.2 = zcA x.1 x.1.r)/\True)/\True)/\(za5 (za1 x.1 x.1.r)).ob = zaB (za1 x.1 x.1.r)/\true = true/\True)/\True) = (zb4 tb [(117, zcQ (zaA qfA) (zaA zsS))] Tryz.f94 zm1 (fun _ => {}) (fun _ _ _ => none) (fun x => [(0, za5 x.1)]) (fun x y av H => [(0, [2, 3, 4, 5], za5 (za1 x.1 x.1.r))])) := by kernel_rfl

theorem zxR : SpecOk Tryz.prog 94 (zaA zm1) := by
 refine za0 zaM zaL (SPok.cons (zbJ qkY qe9) SPok.nil) Tryz.func94 (by decide) (zfX fun _ => ⟨rfl, rfl, trivial⟩) (Eq.mp qeI ?_)
 simp (maxSteps := 10000000) only [std, stdU, stdV, Exx, I64, Nat.reduceMul, Nat.reduceDiv, Nat.reduceAdd, Int.reduceToNat, zaU, zbX, zbK, zaJ]
 exact fun x h => ⟨x, rfl, rfl, rfl, rfl, rfl, rfl, rfl, rfl, rfl, h, h.2.1.1, h.2.1.2, rfl, rfl, rfl, rfl, rfl, rfl, rfl, rfl, rfl, rfl, rfl⟩

def zhD (x : AllocT) (a : Int) : AllocT := { x with w := drop1 x.n x.w a }
def zhE (x : AllocT) (a : Int) : Int := if hasN (x.n, x.w) a = true then 0 else 2
def zm4 : Ctr := ziM Int (fun x => I64 x.2) (fun x => [i64 x.2]) (fun x => zhD x.1 x.2) (fun x => i64 (zhE x.1 x.2))

theorem qeK : (
 let q1 : Prop := (0 : Int) <= (3 : Int)/\(3 : Int) < (↑(4 : Nat) : Int);
 let q2 : Prop := true = true/\zaC/\(0 : Nat) = 0;
 let q3 : Prop := (140 : TypeId) = 140;
 let q4 : Prop := q2/\q2/\q2/\q2/\True;
 let q5 : Nat := (TI.mk (TK.int IntKind.i64) 1 8 (ZL.cons (Value.int IntKind.i64 0) ZL.nil) false).size; ∀ (x : AllocT × Int),
 let q6 : Prop := q3/\Tr 1 (x.1.r = (zhD x.1 x.2).r)/\q4;
 let q7 : Prop := setB (x.1.n, x.1.c) = setB ((zhD x.1 x.2).n, (zhD x.1 x.2).c);
 let q8 : Prop := setB (x.1.n, x.1.e) = setB ((zhD x.1 x.2).n, (zhD x.1 x.2).e);
 let q9 : Prop := setB (x.1.n, x.1.m) = setB ((zhD x.1 x.2).n, (zhD x.1 x.2).m);
 let q10 : Ob := setB ((zhD x.1 x.2).n, (zhD x.1 x.2).w);
 let q11 : Prop := (za5 (zhD x.1 x.2)).ob = zaB (zhD x.1 x.2)/\true = true/\True; za7 x.1/\I64 x.2->zaB x.1 = (za5 x.1).ob/\∀ (g : Unit), q1/\Exx ((Nat × Nat) × Int) fun x_1 => ((q2/\Tr 1 (x.2 = x_1.2)/\True)/\true = true/\setB (x.1.n, x.1.w) = setB x_1.1/\True)/\(SetW x_1.1/\I64 x_1.2)/\∀ (y : Unit), True->BC (!hasN x_1.1 x_1.2) (Exx Unit fun y => Exx Unit fun g => Tr 1 (q6/\q7/\q8/\q9/\setB x_1.1 = q10/\True)/\((Tr 1 ((2 : Int) = zhE x.1 x.2)/\True)/\q11)/\True) (q1/\Exx ((Nat × Nat) × List Int) fun x_2 => ((q2/\((0 : Nat) + (1 : Nat) <= (1 : Nat)/\1 = x_2.2.length/\∀ (i : Nat),
 let q12 : Nat := 0 + i; i < x_2.2.length->[AV.int .i64 (if q12 = 0 * 1 / 1 then x.2 else 0)] = [AV.int .i64 (x_2.2.getD i 0)])/\True)/\true = true/\setB x_1.1 = setB x_2.1/\True)/\(SetW x_2.1/\Ints x_2.2)/\∀ (y : Unit), True->Exx Unit fun y => Exx Unit fun g => Tr 1 (q6/\q7/\q8/\q9/\setB (x_2.1.1, zhM x_2.1.1 x_2.1.2 x_2.2) = q10/\True)/\((Tr 1 ((0 : Int) = zhE x.1 x.2)/\True)/\q11)/\True)) = (zb4 tb [(43, zcQ (zaA zjT) (zaA zg4)), (121, zaA zs2)] Tryz.f102 zm4 (fun _ => {}) (fun _ _ _ => none) (fun x => [(0, za5 x.1)]) (fun x y av H => [(0, [2, 3, 4, 5], za5 (zhD x.1 x.2))])) := by kernel_rfl

theorem zxT : SpecOk Tryz.prog 102 (zaA zm4) := by
 refine za0 zaM zaL (SPok.cons (zbJ zhV zgC) (SPok.cons qcX SPok.nil)) Tryz.func102 (by decide) (zfX fun _ => rfl) (Eq.mp qeK ?_)
 simp (maxSteps := 10000000) only [std, stdU, stdV, Exx, I64, Nat.reduceMul, Nat.reduceDiv, Nat.reduceAdd, Int.reduceToNat, zaU, zbX, zbK, zaJ]
 rintro x a ⟨h, h1, h2⟩
 have hs : SetW (x.n, x.w) := ⟨h.1, h.2.2.2.2.2⟩
 refine ⟨by omega, by omega, hs, h1, h2, fun hn => ⟨rfl, rfl, rfl, rfl, rfl, rfl, rfl, rfl, ?_, by rw [zhE, hn]; rfl⟩, fun hy => ⟨by omega, by omega, x.n, x.w, [a], rfl, fun i hi => ?_, rfl, rfl, hs, ⟨fun y hy => ?_, by simp⟩, rfl, rfl, rfl, rfl, rfl, rfl, rfl, rfl, rfl, by rw [zhE, if_pos hy]⟩⟩
 ·apply Nat.eq_of_testBit_eq
  intro i
  show x.w.testBit i = (drop1 x.n x.w a).testBit i
  rw [zp8]
  by_cases e : i < x.n/\(i : Int) = a
  ·obtain ⟨e1, rfl⟩ := e
   have hin : inSet (x.n, x.w) (i : Int) := ⟨by omega, by simp only; omega⟩
   rw [hasN, decide_eq_true hin, Bool.true_and] at hn
   have hn' : x.w.testBit i = false := hn
   rw [hn']; rfl
  ·rw [decide_eq_false e]; simp
 ·have : i = 0 := by simpa using hi
  subst this; rfl
 ·have : y = a := by simpa using hy
  rw [this]; exact ⟨h1, h2⟩

def zqS : Ctr := zxV Int (fun x => I64 x.2) (fun x => [i64 x.2]) (fun x => .bool (hasN (x.1.n, x.1.w) x.2 && !hasN (x.1.n, x.1.m) x.2))

theorem qjU : (
 let q1 : Prop := true = true/\zaC/\(0 : Nat) = 0;
 let q2 : Prop := (140 : TypeId) = 140;
 let q3 : Prop := q1/\q1/\q1/\q1/\True; ∀ (x : AllocT × Int),
 let q4 : Prop := setB (x.1.n, x.1.c) = setB (x.1.n, x.1.c);
 let q5 : Prop := setB (x.1.n, x.1.e) = setB (x.1.n, x.1.e);
 let q6 : Bool := hasN (x.1.n, x.1.w) x.2 && !hasN (x.1.n, x.1.m) x.2;
 let q7 : Prop := (za5 x.1).ob = zaB x.1/\true = true/\True; za7 x.1/\I64 x.2->zaB x.1 = (za5 x.1).ob/\∀ (g : Unit), ((0 : Int) <= (3 : Int)/\(3 : Int) < (↑(4 : Nat) : Int))/\Exx ((Nat × Nat) × Int) fun x_1 =>
 let q8 : Prop := setB x_1.1 = setB (x.1.n, x.1.w)/\True; ((q1/\Tr 1 (x.2 = x_1.2)/\True)/\true = true/\setB (x.1.n, x.1.w) = setB x_1.1/\True)/\(SetW x_1.1/\I64 x_1.2)/\∀ (y : Unit), True->BC (hasN x_1.1 x_1.2) (((0 : Int) <= (2 : Int)/\(2 : Int) < (↑(4 : Nat) : Int))/\Exx ((Nat × Nat) × Int) fun x_2 => ((q1/\Tr 1 (x.2 = x_2.2)/\True)/\true = true/\setB (x.1.n, x.1.m) = setB x_2.1/\True)/\(SetW x_2.1/\I64 x_2.2)/\∀ (y : Unit), True->Exx Unit fun y => Exx Unit fun g => Tr 1 ((q2/\Tr 1 (x.1.r = x.1.r)/\q3)/\q4/\q5/\setB x_2.1 = setB (x.1.n, x.1.m)/\q8)/\(((!hasN x_2.1 x_2.2) = q6/\True)/\q7)/\True) (Exx Unit fun y => Exx Unit fun g => Tr 1 ((q2/\Tr 1 (x.1.r = x.1.r)/\q3)/\q4/\q5/\setB (x.1.n, x.1.m) = setB (x.1.n, x.1.m)/\q8)/\((false = q6/\True)/\q7)/\True)) = (zb4 tb [(43, zcQ (zaA zjT) (zaA zg4))] Tryz.f101 zqS (fun _ => {}) (fun _ _ _ => none) (fun x => [(0, za5 x.1)]) (fun x y av H => [(0, [2, 3, 4, 5], za5 x.1)])) := by kernel_rfl

theorem qaG : SpecOk Tryz.prog 101 (zaA zqS) := by
 refine za0 zaM zaL (SPok.cons (zbJ zhV zgC) SPok.nil) Tryz.func101 (by decide) (zxU fun _ => rfl) (Eq.mp qjU ?_)
 simp (maxSteps := 10000000) only [std, stdU, stdV, Exx, I64, Nat.reduceMul, Nat.reduceDiv, Nat.reduceAdd, Int.reduceToNat, zaU, zbX, zbK, zaJ]
 rintro x a ⟨h, h1, h2⟩
 have hs : SetW (x.n, x.w) := ⟨h.1, h.2.2.2.2.2⟩
 have hm : SetW (x.n, x.m) := ⟨h.1, h.2.2.2.2.1⟩
 exact ⟨by omega, by omega, hs, h1, h2, fun e => ⟨by omega, by omega, hm, h1, h2, by rw [e]; rfl⟩, fun e => by rw [e]; rfl⟩

def qhI (x : AllocT) : Nat->Nat
 | 0 => x.c
 | 1 => x.e
 | 2 => x.m
 | _ => x.w
def qhG (x : AllocT) (k v : Nat) : AllocT := match k with
 | 0 => { x with c := v }
 | 1 => { x with e := v }
 | 2 => { x with m := v }
 | _ => { x with w := v }
def zaO (x : AllocT) (k o : Nat) : AllocT := qhG x k (qhI x o)
def zm0 (k o : Nat) : Ctr where
 X := AllocT
 Y := Unit
 conv := true
 tau := zfG
 pre := za7
 args := fun _ => [.ptr 0 [] 0, i64 (k : Nat), i64 (o : Nat)]
 heap := fun x => [zd1 x]
 Q := fun _ _ => True
 res := fun _ _ => .tup []
 its := fun x _ => [zd1 (zaO x k o)]
 new := fun _ _ => []
theorem zgX (k o : Nat) : CtrOk (zm0 k o) :=
 ⟨fun _ _ _ _ => (rfl : 1 = 1), fun _ _ _ _ => ⟨rfl, rfl⟩, fun x _ _ _ _ => ⟨⟨⟨trivial, trivial⟩, trivial⟩, trivial⟩⟩
def zqN : Ctr := zm0 2 3

theorem qjP : (
 let q1 : Prop := true = true/\zaC/\(0 : Nat) = 0;
 let q2 : Prop := q1/\True; ∀ (x : AllocT), za7 x->zaB x = (za5 x).ob/\∀ (g : Unit), ((0 : Int) <= (↑(3 : Nat) : Int)/\(↑(3 : Nat) : Int) < (↑(4 : Nat) : Int))/\Exx (Nat × Nat) fun x_1 => (q2/\true = true/\setB (x.n, x.w) = setB x_1/\True)/\SetW x_1/\∀ (y : Unit), True->((0 : Int) <= (↑(2 : Nat) : Int)/\(↑(2 : Nat) : Int) < (↑(4 : Nat) : Int))/\Exx Unit fun y => Exx Unit fun g => Tr 1 (((140 : TypeId) = 140/\Tr 1 (x.r = (zaO x 2 3).r)/\q1/\q1/\q1/\q2)/\setB (x.n, x.c) = setB ((zaO x 2 3).n, (zaO x 2 3).c)/\setB (x.n, x.e) = setB ((zaO x 2 3).n, (zaO x 2 3).e)/\setB x_1 = setB ((zaO x 2 3).n, (zaO x 2 3).m)/\setB x_1 = setB ((zaO x 2 3).n, (zaO x 2 3).w)/\True)/\(Tr 1 True/\(za5 (zaO x 2 3)).ob = zaB (zaO x 2 3)/\true = true/\True)/\True) = (zb4 tb [(55, zaA zeE)] Tryz.f67 zqN (fun x => { loose := [(0, [0, 5])] }) (fun _ _ _ => none) (fun x => [(0, za5 x)]) (fun x y av H => [(0, [2, 3, 6, 5], za5 (zaO x 2 3))])) := by kernel_rfl

theorem qaA : SpecOk Tryz.prog 67 (zaA zqN) := by
 refine za0 zaM zaL (SPok.cons zdA SPok.nil) Tryz.func67 (by decide) (zgX _ _) (Eq.mp qjP ?_)
 simp (maxSteps := 10000000) only [std, stdU, stdV, Exx, I64, Nat.reduceMul, Nat.reduceDiv, Nat.reduceAdd, Int.reduceToNat, zaU, zbX, zbK, zaJ]
 exact fun x h => ⟨by omega, by omega, ⟨h.1, h.2.2.2.2.2⟩, by omega, by omega, rfl, rfl, rfl, rfl, rfl, rfl, rfl, rfl, rfl⟩

def zqL : Ctr := zm0 3 2

theorem qjN : (
 let q1 : Prop := true = true/\zaC/\(0 : Nat) = 0;
 let q2 : Prop := q1/\True; ∀ (x : AllocT), za7 x->zaB x = (za5 x).ob/\∀ (g : Unit), ((0 : Int) <= (↑(2 : Nat) : Int)/\(↑(2 : Nat) : Int) < (↑(4 : Nat) : Int))/\Exx (Nat × Nat) fun x_1 => (q2/\true = true/\setB (x.n, x.m) = setB x_1/\True)/\SetW x_1/\∀ (y : Unit), True->((0 : Int) <= (↑(3 : Nat) : Int)/\(↑(3 : Nat) : Int) < (↑(4 : Nat) : Int))/\Exx Unit fun y => Exx Unit fun g => Tr 1 (((140 : TypeId) = 140/\Tr 1 (x.r = (zaO x 3 2).r)/\q1/\q1/\q1/\q2)/\setB (x.n, x.c) = setB ((zaO x 3 2).n, (zaO x 3 2).c)/\setB (x.n, x.e) = setB ((zaO x 3 2).n, (zaO x 3 2).e)/\setB x_1 = setB ((zaO x 3 2).n, (zaO x 3 2).m)/\setB x_1 = setB ((zaO x 3 2).n, (zaO x 3 2).w)/\True)/\(Tr 1 True/\(za5 (zaO x 3 2)).ob = zaB (zaO x 3 2)/\true = true/\True)/\True) = (zb4 tb [(55, zaA zeE)] Tryz.f67 zqL (fun x => { loose := [(0, [0, 4])] }) (fun _ _ _ => none) (fun x => [(0, za5 x)]) (fun x y av H => [(0, [2, 3, 4, 6], za5 (zaO x 3 2))])) := by kernel_rfl

theorem zz8 : SpecOk Tryz.prog 67 (zaA zqL) := by
 refine za0 zaM zaL (SPok.cons zdA SPok.nil) Tryz.func67 (by decide) (zgX _ _) (Eq.mp qjN ?_)
 simp (maxSteps := 10000000) only [std, stdU, stdV, Exx, I64, Nat.reduceMul, Nat.reduceDiv, Nat.reduceAdd, Int.reduceToNat, zaU, zbX, zbK, zaJ]
 exact fun x h => ⟨by omega, by omega, ⟨h.1, h.2.2.2.2.1⟩, by omega, by omega, rfl, rfl, rfl, rfl, rfl, rfl, rfl, rfl, rfl⟩

def zqO : Ctr := zm0 1 0

theorem qjQ : (
 let q1 : Prop := true = true/\zaC/\(0 : Nat) = 0;
 let q2 : Prop := q1/\True; ∀ (x : AllocT), za7 x->zaB x = (za5 x).ob/\∀ (g : Unit), ((0 : Int) <= (↑(0 : Nat) : Int)/\(↑(0 : Nat) : Int) < (↑(4 : Nat) : Int))/\Exx (Nat × Nat) fun x_1 => (q2/\true = true/\setB (x.n, x.c) = setB x_1/\True)/\SetW x_1/\∀ (y : Unit), True->((0 : Int) <= (↑(1 : Nat) : Int)/\(↑(1 : Nat) : Int) < (↑(4 : Nat) : Int))/\Exx Unit fun y => Exx Unit fun g => Tr 1 (((140 : TypeId) = 140/\Tr 1 (x.r = (zaO x 1 0).r)/\q1/\q1/\q1/\q2)/\setB x_1 = setB ((zaO x 1 0).n, (zaO x 1 0).c)/\setB x_1 = setB ((zaO x 1 0).n, (zaO x 1 0).e)/\setB (x.n, x.m) = setB ((zaO x 1 0).n, (zaO x 1 0).m)/\setB (x.n, x.w) = setB ((zaO x 1 0).n, (zaO x 1 0).w)/\True)/\(Tr 1 True/\(za5 (zaO x 1 0)).ob = zaB (zaO x 1 0)/\true = true/\True)/\True) = (zb4 tb [(55, zaA zeE)] Tryz.f67 zqO (fun x => { loose := [(0, [0, 2])] }) (fun _ _ _ => none) (fun x => [(0, za5 x)]) (fun x y av H => [(0, [2, 6, 4, 5], za5 (zaO x 1 0))])) := by kernel_rfl

theorem qaB : SpecOk Tryz.prog 67 (zaA zqO) := by
 refine za0 zaM zaL (SPok.cons zdA SPok.nil) Tryz.func67 (by decide) (zgX _ _) (Eq.mp qjQ ?_)
 simp (maxSteps := 10000000) only [std, stdU, stdV, Exx, I64, Nat.reduceMul, Nat.reduceDiv, Nat.reduceAdd, Int.reduceToNat, zaU, zbX, zbK, zaJ]
 exact fun x h => ⟨by omega, by omega, ⟨h.1, h.2.2.1⟩, by omega, by omega, rfl, rfl, rfl, rfl, rfl, rfl, rfl, rfl, rfl⟩

def zqP : Ctr := zm0 0 3

theorem qjR : (
 let q1 : Prop := true = true/\zaC/\(0 : Nat) = 0;
 let q2 : Prop := q1/\True; ∀ (x : AllocT), za7 x->zaB x = (za5 x).ob/\∀ (g : Unit), ((0 : Int) <= (↑(3 : Nat) : Int)/\(↑(3 : Nat) : Int) < (↑(4 : Nat) : Int))/\Exx (Nat × Nat) fun x_1 => (q2/\true = true/\setB (x.n, x.w) = setB x_1/\True)/\SetW x_1/\∀ (y : Unit), True->((0 : Int) <= (↑(0 : Nat) : Int)/\(↑(0 : Nat) : Int) < (↑(4 : Nat) : Int))/\Exx Unit fun y => Exx Unit fun g => Tr 1 (((140 : TypeId) = 140/\Tr 1 (x.r = (zaO x 0 3).r)/\q1/\q1/\q1/\q2)/\setB x_1 = setB ((zaO x 0 3).n, (zaO x 0 3).c)/\setB (x.n, x.e) = setB ((zaO x 0 3).n, (zaO x 0 3).e)/\setB (x.n, x.m) = setB ((zaO x 0 3).n, (zaO x 0 3).m)/\setB x_1 = setB ((zaO x 0 3).n, (zaO x 0 3).w)/\True)/\(Tr 1 True/\(za5 (zaO x 0 3)).ob = zaB (zaO x 0 3)/\true = true/\True)/\True) = (zb4 tb [(55, zaA zeE)] Tryz.f67 zqP (fun x => { loose := [(0, [0, 5])] }) (fun _ _ _ => none) (fun x => [(0, za5 x)]) (fun x y av H => [(0, [6, 3, 4, 5], za5 (zaO x 0 3))])) := by kernel_rfl

theorem qaC : SpecOk Tryz.prog 67 (zaA zqP) := by
 refine za0 zaM zaL (SPok.cons zdA SPok.nil) Tryz.func67 (by decide) (zgX _ _) (Eq.mp qjR ?_)
 simp (maxSteps := 10000000) only [std, stdU, stdV, Exx, I64, Nat.reduceMul, Nat.reduceDiv, Nat.reduceAdd, Int.reduceToNat, zaU, zbX, zbK, zaJ]
 exact fun x h => ⟨by omega, by omega, ⟨h.1, h.2.2.2.2.2⟩, by omega, by omega, rfl, rfl, rfl, rfl, rfl, rfl, rfl, rfl, rfl⟩

def zqM : Ctr := zm0 3 0

theorem qjO : (
 let q1 : Prop := true = true/\zaC/\(0 : Nat) = 0;
 let q2 : Prop := q1/\True; ∀ (x : AllocT), za7 x->zaB x = (za5 x).ob/\∀ (g : Unit), ((0 : Int) <= (↑(0 : Nat) : Int)/\(↑(0 : Nat) : Int) < (↑(4 : Nat) : Int))/\Exx (Nat × Nat) fun x_1 => (q2/\true = true/\setB (x.n, x.c) = setB x_1/\True)/\SetW x_1/\∀ (y : Unit), True->((0 : Int) <= (↑(3 : Nat) : Int)/\(↑(3 : Nat) : Int) < (↑(4 : Nat) : Int))/\Exx Unit fun y => Exx Unit fun g => Tr 1 (((140 : TypeId) = 140/\Tr 1 (x.r = (zaO x 3 0).r)/\q1/\q1/\q1/\q2)/\setB x_1 = setB ((zaO x 3 0).n, (zaO x 3 0).c)/\setB (x.n, x.e) = setB ((zaO x 3 0).n, (zaO x 3 0).e)/\setB (x.n, x.m) = setB ((zaO x 3 0).n, (zaO x 3 0).m)/\setB x_1 = setB ((zaO x 3 0).n, (zaO x 3 0).w)/\True)/\(Tr 1 True/\(za5 (zaO x 3 0)).ob = zaB (zaO x 3 0)/\true = true/\True)/\True) = (zb4 tb [(55, zaA zeE)] Tryz.f67 zqM (fun x => { loose := [(0, [0, 2])] }) (fun _ _ _ => none) (fun x => [(0, za5 x)]) (fun x y av H => [(0, [2, 3, 4, 6], za5 (zaO x 3 0))])) := by kernel_rfl

theorem zz9 : SpecOk Tryz.prog 67 (zaA zqM) := by
 refine za0 zaM zaL (SPok.cons zdA SPok.nil) Tryz.func67 (by decide) (zgX _ _) (Eq.mp qjO ?_)
 simp (maxSteps := 10000000) only [std, stdU, stdV, Exx, I64, Nat.reduceMul, Nat.reduceDiv, Nat.reduceAdd, Int.reduceToNat, zaU, zbX, zbK, zaJ]
 exact fun x h => ⟨by omega, by omega, ⟨h.1, h.2.2.1⟩, by omega, by omega, rfl, rfl, rfl, rfl, rfl, rfl, rfl, rfl, rfl⟩

def qnC (k o : Nat) (args : List AV) : Bool := qn7 1 (k : Int) args && qn7 2 (o : Int) args
def qjM : Sx.Spec := zfQ (qnC 2 3) (zaA zqN) (zfQ (qnC 3 2) (zaA zqL) (zfQ (qnC 1 0) (zaA zqO) (zfQ (qnC 0 3) (zaA zqP) (zaA zqM))))
theorem qjK : SpecOk Tryz.prog 67 qjM := zeA qaA (zeA zz8 (zeA qaB (zeA qaC (zz9))))

theorem qjL {x : AllocT} (h : za7 x) (k o : Nat) : za7 (zaO x k o) := by
 obtain ⟨h1, h2, h3, h4, h5, h6⟩ := h
 have hm : qhI x o < 2 ^ x.n := by unfold qhI; split <;> assumption
 unfold zaO qhG
 split <;> exact ⟨by assumption, by assumption, by assumption, by assumption, by assumption, by assumption⟩
def qhL (x : AllocT) : AllocT := zaO x 2 3
def qjW (g : AllocT->AllocT) : Ctr := ziM Unit (fun _ => True) (fun _ => []) (fun x => g x.1) (fun _ => .tup [])
def zm2 : Ctr := qjW qhL
theorem qeJ : (∀ (x : AllocT × Unit), za7 x.1/\True->Exx AllocT fun x_1 => (((true = true/\zaC/\(0 : Nat) = 0)/\Tr 1 ((2 : Int) = (↑(2 : Nat)
 : Int))/\Tr 1 ((3 : Int) = (↑(3 : Nat) : Int))/\True)/\true = true/\zaB x.1 = zaB x_1/\True)/\za7 x_1/\∀ (y : Unit), True->Exx Unit fun y =>
 (Tr 1 True/\zaB (zaO x_1 2 3) = zaB (qhL x.1)/\true = true/\True)/\True) = (fnVC tb [(67, qjM)] Tryz.f27 zm2 (fun _ => {}) (fun _ =>
 none)) := by kernel_rfl

theorem zxS : SpecOk Tryz.prog 27 (zaA zm2) := by
 refine zaK zaM zaL (SPok.cons qjK SPok.nil) Tryz.func27 (by decide) (zfX fun _ => trivial) (Eq.mp qeJ ?_)
 simp (maxSteps := 10000000) only [std, stdU, stdV, Exx, I64, Nat.reduceMul, Nat.reduceDiv, Nat.reduceAdd, Int.reduceToNat, zaJ]
 exact fun x h => ⟨rfl, rfl, h, rfl⟩

abbrev NewX : Type := (Nat × Nat) × (Nat × Nat) × Int
def zcL (x : NewX) : AllocT := { n := x.1.1, r := x.2.2, c := x.1.2, e := x.2.1.2, m := x.1.2, w := x.1.2 }
def allocNewI : Ctr2 where
 X := NewX
 conv := true
 tau := tau2
 pre := fun x => SetW x.1/\SetW x.2.1/\I64 x.2.2
 args := fun x => [.ptr 0 [] 0, .ptr 1 [] 0, i64 x.2.2]
 heap := fun x => [setI x.1, setI x.2.1]
 p := fun x => x.1.1 = x.2.1.1/\0 <= x.2.2
 a := { Y := Unit, Q := fun _ _ => True, res := fun _ _ => .tup [.ptr 3 [] 0, i64 0], its := fun x _ => [setI x.1, setI x.2.1], new := fun x _ => [zd1 (zcL x)] }
 b := { Y := Unit, Q := fun _ _ => True, res := fun _ _ => .tup [.nilp, i64 2], its := fun x _ => [setI x.1, setI x.2.1], new := fun _ _ => [] }

theorem qjV : (
 let q1 : Prop := true = true/\zaC/\(0 : Nat) = 0;
 let q2 : Prop := q1/\True;
 let q3 : Prop := (0 : Int) < (↑(3 : Nat) : Int);
 let q4 : Nat := 2 * 1 / 1;
 let q5 : Nat := (TI.mk (TK.int IntKind.i64) 1 8 (ZL.cons (Value.int IntKind.i64 0) ZL.nil) false).size;
 let q6 : Nat := (2, Operand.const (Value.int IntKind.i64 3)).1 * q5 / 1;
 let q7 : Nat := 1 * 1 / 1;
 let q8 : Nat := (1, Operand.const (Value.int IntKind.i64 2)).1 * q5 / 1;
 let q9 : Nat := 0 * 1 / 1;
 let q10 : Nat := (0, Operand.const (Value.int IntKind.i64 0)).1 * q5 / 1;
 let q11 : Int := if Int.toNat 0 = q4 then 3 else if Int.toNat 0 = q7 then 2 else if Int.toNat 0 = q9 then 0 else 0;
 let q12 : Int := 0 + 1;
 let q13 : Prop := q12 < (↑(3 : Nat) : Int);
 let q14 : Nat := q12.toNat;
 let q15 : Int := if q14 = q4 then 3 else if q14 = q7 then 2 else if q14 = q9 then 0 else 0;
 let q16 : Int := q12 + 1;
 let q17 : Prop := q16 < (↑(3 : Nat) : Int);
 let q18 : Nat := q16.toNat;
 let q19 : Int := if q18 = q4 then 3 else if q18 = q7 then 2 else if q18 = q9 then 0 else 0; ∀ (x : (Nat × Nat) × (Nat × Nat) × Int),
 let q20 : Prop := x.1.1 = x.2.1.1/\(0 : Int) <= x.2.2; SetW x.1/\SetW x.2.1/\I64 x.2.2->Exx ((Nat × Nat) × Unit) fun x_1 => (q2/\true = true/\setB x.1 = setB x_1.1/\True)/\(SetW x_1.1/\True)/\∀ (y : Unit), True->Exx ((Nat × Nat) × Unit) fun x_2 =>
 let q21 : Prop := (q20/\Exx Unit fun y => False)\/¬allocNewI.p x/\Exx Unit fun y => ((Tr 1 (Tr 1 ((2 : Int) = 2)/\True)/\True)/\setB x_1.1 = setB x.1/\setB x_2.1 = setB x.2.1/\true = true/\True)/\True; (q2/\true = true/\setB x.2.1 = setB x_2.1/\True)/\(SetW x_2.1/\True)/\∀ (y : Unit), True->BC (!decide ((x_1.1.1 : Int) = (x_2.1.1 : Int))) q21 (BC (decide (x.2.2 < (0 : Int))) q21 (Exx (Nat × Nat) fun x_3 =>
 let q22 : Prop := setB x_3 = setB x.2.1; (q2/\true = true/\setB x_2.1 = setB x_3/\True)/\SetW x_3/\∀ (y : Unit), True->((0 : Int) <= (1 : Int)/\(1 : Int) < (↑(4 : Nat) : Int))/\((0 : Int) <= (0 : Int)/\q3/\q3)/\Exx (Nat × Nat) fun x_4 => (q2/\true = true/\setB x_1.1 = setB x_4/\True)/\SetW x_4/\∀ (y : Unit), True->((0 : Int) <= q11/\q11 < (↑(4 : Nat) : Int))/\I64 q12/\((0 : Int) <= q12/\q13/\q13)/\Exx (Nat × Nat) fun x_5 => (q2/\true = true/\setB x_4 = setB x_5/\True)/\SetW x_5/\∀ (y : Unit), True->((0 : Int) <= q15/\q15 < (↑(4 : Nat) : Int))/\I64 q16/\((0 : Int) <= q16/\q17/\q17)/\Exx (Nat × Nat) fun x_6 => (q2/\true = true/\setB x_5 = setB x_6/\True)/\SetW x_6/\∀ (y : Unit), True->((0 : Int) <= q19/\q19 < (↑(4 : Nat) : Int))/\I64 (q16 + 1)/\((q20/\Exx Unit fun y => Exx Unit fun g => Tr 1 (((140 : Nat) = (140 : TypeId)/\Tr 1 (x.2.2 = (zcL x).r)/\q1/\q1/\q1/\q2)/\setB x_4 = setB ((zcL x).n, (zcL x).c)/\setB x_3 = setB ((zcL x).n, (zcL x).e)/\setB x_5 = setB ((zcL x).n, (zcL x).m)/\setB x_6 = setB ((zcL x).n, (zcL x).w)/\True)/\(((q1/\Tr 1 ((0 : Int) = 0)/\True)/\True)/\setB x_6 = setB x.1/\q22/\true = true/\(za5 (zcL x)).ob = zaB (zcL x)/\True)/\True)\/¬allocNewI.p x/\Exx Unit fun y => (((False/\Tr 1 ((0 : Int) = 2)/\True)/\True)/\setB x_6 = setB x.1/\q22/\true = true/\True)/\True)))) = (qd9 tb [(54, zaA zfR), (55, zaA zeE)] Tryz.f14 allocNewI (fun x => { loose := [(6, [1, 3]), (10, [0, 3])], unroll := [(8, 4)] }) (fun _ _ _ => none) (fun _ => []) (fun x y av H => [(3, [5, 4, 6, 7], za5 (zcL x))]) (fun _ _ _ _ => [])) := by kernel_rfl

theorem qaH : SpecOk Tryz.prog 14 (zhK allocNewI) := by
 refine zsW zaM zaL (SPok.cons ze0 (SPok.cons zdA SPok.nil)) Tryz.func14 (by decide) ⟨fun _ _ _ _ => (rfl : 2 = 2), fun _ _ _ _ => ⟨rfl, rfl⟩, fun x _ _ _ _ => ⟨⟨⟨trivial, trivial, trivial⟩, ⟨trivial, trivial⟩⟩, rfl, rfl, trivial⟩⟩ ⟨fun _ _ _ _ => (rfl : 2 = 2), fun _ _ _ _ => ⟨rfl, rfl⟩, fun x _ _ _ _ => ⟨⟨⟨trivial, trivial, trivial⟩, trivial⟩, rfl, rfl, trivial⟩⟩ (Eq.mp qjV ?_)
 simp (maxSteps := 10000000) only [std, stdU, stdV, Exx, I64, Nat.reduceMul, Nat.reduceDiv, Nat.reduceAdd, Int.reduceToNat, zaU, zbX, zbK, zaJ]
 rintro n a n' b r ⟨h1, h2, h3, h4⟩
 refine ⟨h1, h2, fun hne hp => hne hp.1, fun e => ⟨fun hr hp => by have := hp.2; simp only at this; omega, fun hr => ?_⟩⟩
 subst e
 simp only [if_pos, if_neg, Nat.reduceEqDiff, Nat.succ_ne_self, Nat.zero_add, Int.reduceToNat, Int.reduceAdd, if_true, if_false, zcL, and_true, true_and]
 repeat refine And.intro (by first | omega | exact h1 | exact h2) ?_
 omega

def tauArg2 (args : List AV) (H : AH) : List Nat := match args with
 | _ :: .ptr p _ _ :: _ => [p]
 | _ => []
def ziO (tau : List AV->AH->List Nat) (args : List AV) : Ctr where
 X := (Nat × Nat) × Int
 Y := Unit
 conv := true
 tau := tau
 pre := fun x => I64 x.2
 args := fun x => args ++ [i64 x.2]
 heap := fun x => [setI x.1]
 Q := fun _ _ => True
 res := fun x _ => .tup [.nilp, i64 1]
 its := fun x _ => [setI x.1]
 new := fun _ _ => []
theorem ziN (tau : List AV->AH->List Nat) (args : List AV) : CtrOk (ziO tau args) :=
 ⟨fun _ _ _ _ => rfl, fun _ _ _ _ => ⟨rfl, rfl⟩, fun x _ _ _ _ => ⟨⟨⟨trivial, trivial⟩, trivial⟩, ⟨rfl, rfl, trivial⟩⟩⟩
def zkE : Ctr := ziO tauArg2 [.nilp, .ptr 0 [] 0]
def zkD : Ctr := ziO zfG [.ptr 0 [] 0, .nilp]

theorem qaJ : (∀ (x : (Nat × Nat) × Int), -9223372036854775808 <= x.2/\x.2 <= (9223372036854775807 : Int)->Exx Unit fun y => ((Tr 1 (Tr 1 ((1 : Int) =
 1)/\True)/\True)/\setB x.1 = setB x.1/\true = true/\True)/\True) = (fnVC tb [(54, zaA zfR), (55, zaA zeE)] Tryz.f14 zkE (fun _ =>
 {}) (fun _ => none)) := by kernel_rfl

theorem zuM : SpecOk Tryz.prog 14 (zaA zkE) := by
 refine zaK zaM zaL (SPok.cons ze0 (SPok.cons zdA SPok.nil)) Tryz.func14 (by decide) (ziN _ _) (Eq.mp qaJ ?_)
 simp (maxSteps := 10000000) only [std, stdU, stdV, Exx, I64, Nat.reduceMul, Nat.reduceDiv, Nat.reduceAdd, Int.reduceToNat, zaU]

theorem qaI : (∀ (x : (Nat × Nat) × Int), -9223372036854775808 <= x.2/\x.2 <= (9223372036854775807 : Int)->Exx Unit fun y => ((Tr 1 (Tr 1 ((1 : Int) =
 1)/\True)/\True)/\setB x.1 = setB x.1/\true = true/\True)/\True) = (fnVC tb [(54, zaA zfR), (55, zaA zeE)] Tryz.f14 zkD (fun _ =>
 {}) (fun _ => none)) := by kernel_rfl

theorem zuL : SpecOk Tryz.prog 14 (zaA zkD) := by
 refine zaK zaM zaL (SPok.cons ze0 (SPok.cons zdA SPok.nil)) Tryz.func14 (by decide) (ziN _ _) (Eq.mp qaI ?_)
 simp (maxSteps := 10000000) only [std, stdU, stdV, Exx, I64, Nat.reduceMul, Nat.reduceDiv, Nat.reduceAdd, Int.reduceToNat, zaU]

def znK : Sx.Spec := zfQ (qn6 0) (zaA zkE) (zfQ (qn6 1) (zaA zkD) (zhK allocNewI))
theorem zq6 : SpecOk Tryz.prog 14 znK := zeA zuM (zeA zuL qaH)

end Yard
