import Derived.Test.YtkdppdofkkakaaaGreatDoorBits2

namespace Yard
open Go Go.Sx Go.Proofs
set_option linter.unusedVariables false
set_option linter.unusedSimpArgs false
set_option maxRecDepth 4000


theorem zvM {n m : Nat} {a : Int} {i : Nat} : (add1 n m a).testBit i = (m.testBit i || decide (i < n/\(i : Int) = a)) := by
 unfold add1 inB
 by_cases h : 0 <= a/\a < (n : Int)
 ·rw [if_pos (decide_eq_true h), Nat.testBit_or, Nat.testBit_two_pow]
  have : (a.toNat = i) ↔ (i < n/\(i : Int) = a) := by omega
  simp only [this]
 ·rw [if_neg (by rw [decide_eq_false h]; simp)]
  have : ¬ (i < n/\(i : Int) = a) := by omega
  simp [this]
theorem zvL {n i : Nat} : ∀ {l : List Int} {m : Nat}, (addL n m l).testBit i = (m.testBit i || decide (i < n/\(i : Int) ∈ l))
 | [], m => by simp [addL]
 | a :: r, m => by
   have e : addL n m (a :: r) = addL n (add1 n m a) r := rfl
   rw [e, zvL (l := r), zvM, Bool.or_assoc]
   congr 1
   rw [<- Bool.decide_or]
   apply decide_eq_decide.2
   rw [List.mem_cons]
   constructor
   ·rintro (⟨h1, h2⟩ | ⟨h1, h2⟩)
    ·exact ⟨h1, .inl h2⟩
    ·exact ⟨h1, .inr h2⟩
   ·rintro ⟨h1, h2 | h2⟩
    ·exact .inl ⟨h1, h2⟩
    ·exact .inr ⟨h1, h2⟩
theorem listN_mem {n m : Nat} {a : Int} : a ∈ zc4 (n, m) ↔ 0 <= a/\a < (n : Int)/\m.testBit a.toNat = true := by
 rw [zc4, List.mem_map]
 constructor
 ·rintro ⟨i, hi, rfl⟩
  obtain ⟨h1, h2⟩ := zr3.1 hi
  exact ⟨by omega, by simp only at h1; omega, h2⟩
 ·rintro ⟨h1, h2, h3⟩
  exact ⟨a.toNat, zr3.2 ⟨by simp only; omega, h3⟩, by omega⟩

theorem qaY {n m : Nat} {a : Int} {i : Nat} : (zkA n m a).testBit i = (m.testBit i && !decide (i < n/\(i : Int) = a)) := by
 unfold zkA inB
 by_cases h : 0 <= a/\a < (n : Int)
 ·rw [if_pos (decide_eq_true h), zhT]
  have : (a.toNat = i) ↔ (i < n/\(i : Int) = a) := by omega
  simp only [this]
 ·rw [if_neg (by rw [decide_eq_false h]; simp)]
  have : ¬ (i < n/\(i : Int) = a) := by omega
  simp [this]
theorem znT {s : Nat × Nat} (h : SetW s) : Ints (zc4 s) := by
 have h1 := h.1
 refine ⟨fun x hx => ?_, ?_⟩
 ·have := (listN_mem (n := s.1) (m := s.2)).1 hx
  unfold I64; omega
 ·have := ziP s.1 s.2
  rw [zc4, List.length_map]; omega
def zfD (s t : Nat × Nat) : Nat × Nat := (s.1, addL s.1 s.2 (zc4 t))
def zuM (g : Nat × Nat->Nat × Nat->Nat × Nat) : Ctr where
 X := (Nat × Nat) × (Nat × Nat)
 Y := Unit
 conv := true
 tau := tau2
 pre := fun x => SetW x.1/\SetW x.2
 args := fun _ => [.ptr 0 [] 0, .ptr 1 [] 0]
 heap := fun x => [setI x.1, setI x.2]
 Q := fun _ _ => True
 res := fun x _ => .ptr 3 [] 0
 its := fun x _ => [setI x.1, setI x.2]
 new := fun x _ => [setI (g x.1 x.2)]
theorem zsK (g : Nat × Nat->Nat × Nat->Nat × Nat) : CtrOk (zuM g) :=
 ⟨fun _ _ _ _ => (rfl : 2 = 2), fun _ _ _ _ => ⟨rfl, rfl⟩, fun x _ _ _ _ => ⟨⟨⟨trivial, trivial, trivial⟩, ⟨trivial, trivial⟩⟩, rfl⟩⟩
def zqI (g : Nat × Nat->Nat × Nat->Nat × Nat) : Ctr where
 X := Nat × Nat
 Y := Unit
 conv := true
 tau := zd9
 pre := SetW
 args := fun _ => [.ptr 0 [] 0, .ptr 0 [] 0]
 heap := fun x => [setI x]
 Q := fun _ _ => True
 res := fun x _ => .ptr 2 [] 0
 its := fun x _ => [setI x]
 new := fun x _ => [setI (g x x)]
theorem zqH (g : Nat × Nat->Nat × Nat->Nat × Nat) : CtrOk (zqI g) :=
 ⟨fun _ _ _ _ => (rfl : 1 = 1), fun _ _ _ _ => ⟨rfl, rfl⟩, fun x _ _ _ _ => ⟨⟨⟨trivial, trivial⟩, ⟨trivial, trivial⟩⟩, rfl⟩⟩
def zh0 : Ctr := zuM zfD
def zfS : Ctr := zqI zfD
theorem qcT : (
 let q1 : Prop := true = true/\zaB/\(0 : Nat) = 0;
 let q2 : Prop := q1/\True; ∀ (x : (Nat × Nat) × Nat × Nat), SetW x.1/\SetW x.2->Exx (Nat × Nat) fun x_1 => (q2/\true = true/\setB x.1 = setB x_1/\True)/\SetW x_1/\∀ (y : Unit), True->Exx (Nat × Nat) fun x_2 => (q2/\true = true/\setB x.2 = setB x_2/\True)/\SetW x_2/\∀ (y : Nat), (zc4 x_2).length <= y->Exx ((Nat × Nat) × List Int) fun x_3 => ((q1/\(0 + (zc4 x_2).length <= (zc4 x_2).length/\(zc4 x_2).length = x_3.2.length/\∀ (i : Nat), i < x_3.2.length->[AV.int .i64 ((zc4 x_2).getD (0 + i) 0)] = [AV.int .i64 (x_3.2.getD i 0)])/\True)/\true = true/\setB x_1 = setB x_3.1/\True)/\(SetW x_3.1/\Ints x_3.2)/\∀ (y : Unit), True->Exx Unit fun y => (q2/\setB x_1 = setB x.1/\setB x_2 = setB x.2/\true = true/\setB (x_3.1.1, addL x_3.1.1 x_3.1.2 x_3.2) = setB (zfD x.1 x.2)/\True)/\True) = (fnVC tb [(56, zcA (zaA zhE) (zaA ze5)), (111, zaA zeN), (112, zaA zh1)] Tryz.f87 zh0 (fun _ => { loose := [(2, [0, 1, 3])] }) (fun _ => none)) := by kernel_rfl

theorem ziZ : SpecOk Tryz.prog 87 (zaA zh0) := by
 refine zaF zaH zaG (SPok.cons (za6 zfV zeO) (SPok.cons zlF (SPok.cons znC SPok.nil))) Tryz.func87 (by decide) (zsK _) (Eq.mp qcT ?_)
 simp (maxSteps := 10000000) only [std, stdU, stdV, Exx, I64, Nat.reduceMul, Nat.reduceDiv, Nat.reduceAdd, Int.reduceToNat, zcC, zbX, zaR]
 exact fun _ _ _ _ h => ⟨h.1, h.2, fun _ _ => ⟨h.1, znT h.2, rfl⟩⟩

theorem zx9 : (
 let q1 : Prop := true = true/\zaB/\(0 : Nat) = 0;
 let q2 : Prop := q1/\True; ∀ (x : Nat × Nat), SetW x->Exx (Nat × Nat) fun x_1 => (q2/\true = true/\setB x = setB x_1/\True)/\SetW x_1/\∀ (y : Unit), True->Exx (Nat × Nat) fun x_2 => (q2/\true = true/\setB x_1 = setB x_2/\True)/\SetW x_2/\∀ (y : Nat), (zc4 x_2).length <= y->Exx ((Nat × Nat) × List Int) fun x_3 => ((q1/\(0 + (zc4 x_2).length <= (zc4 x_2).length/\(zc4 x_2).length = x_3.2.length/\∀ (i : Nat), i < x_3.2.length->[AV.int .i64 ((zc4 x_2).getD (0 + i) 0)] = [AV.int .i64 (x_3.2.getD i 0)])/\True)/\true = true/\setB x_1 = setB x_3.1/\True)/\(SetW x_3.1/\Ints x_3.2)/\∀ (y : Unit), True->Exx Unit fun y => (q2/\setB x_2 = setB x/\true = true/\setB (x_3.1.1, addL x_3.1.1 x_3.1.2 x_3.2) = setB (zfD x x)/\True)/\True) = (fnVC tb [(56, zcA (zaA zhE) (zaA ze5)), (111, zaA zeN), (112, zaA zh1)] Tryz.f87 zfS (fun _ => { loose := [(2, [0, 2])] }) (fun _ => none)) := by kernel_rfl

theorem zhC : SpecOk Tryz.prog 87 (zaA zfS) := by
 refine zaF zaH zaG (SPok.cons (za6 zfV zeO) (SPok.cons zlF (SPok.cons znC SPok.nil))) Tryz.func87 (by decide) (zqH _) (Eq.mp zx9 ?_)
 simp (maxSteps := 10000000) only [std, stdU, stdV, Exx, I64, Nat.reduceMul, Nat.reduceDiv, Nat.reduceAdd, Int.reduceToNat, zcC, zbX, zaR]
 exact fun _ _ h => ⟨h, h, fun _ _ => ⟨h, znT h, rfl⟩⟩


structure AllocT where
 n : Nat
 r : Int
 c : Nat
 e : Nat
 m : Nat
 w : Nat
def za2 (x : AllocT) : Prop := x.n <= 3072/\I64 x.r/\x.c < 2 ^ x.n/\x.e < 2 ^ x.n/\x.m < 2 ^ x.n/\x.w < 2 ^ x.n
abbrev zg1 (x : AllocT) : AH := [.cells 140 [i64 x.r, .ptr 1 [] 0, .ptr 2 [] 0, .ptr 3 [] 0, .ptr 4 [] 0], setI (x.n, x.c), setI (x.n, x.e), setI (x.n, x.m), setI (x.n, x.w)]
abbrev zbP (x : AllocT) : Opn := { tag := [[(x.n : Int)], [x.r], [(x.c : Int)], [(x.e : Int)], [(x.m : Int)], [(x.w : Int)]], G := Unit, fam := fun _ => zg1 x, pl := fun _ => ⟨⟨rfl, rfl, rfl, rfl, rfl, trivial⟩, trivial, trivial, trivial, trivial, trivial⟩, nf := fun _ => rfl, root := fun _ => rfl }
def zaC (x : AllocT) : Ob := (zbP x).ob
abbrev zdK (x : AllocT) : Sx.Item := .obj (zaC x)
theorem zaO {s t : AllocT} : (zaC s = zaC t) ↔ s = t := by
 constructor
 ·intro h
  have := congrArg Ob.tag h
  simp only [zaC, Opn.ob, List.cons.injEq, and_true] at this
  obtain ⟨h1, h2, h3, h4, h5, h6⟩ := this
  cases s; cases t
  simp only at *
  rw [Int.ofNat_inj.1 h1, h2, Int.ofNat_inj.1 h3, Int.ofNat_inj.1 h4, Int.ofNat_inj.1 h5, Int.ofNat_inj.1 h6]
 ·intro h; rw [h]
theorem zcX {s t : AllocT} : (zaC s = (zbP t).ob) ↔ s = t := zaO
theorem zcI {s t : AllocT} : ((zbP s).ob = zaC t) ↔ s = t := zaO

theorem addL_or {n a b : Nat} (h : b < 2 ^ n) : addL n a (zc4 (n, b)) = a ||| b := by
 apply Nat.eq_of_testBit_eq
 intro i
 rw [zvL, Nat.testBit_or]
 congr 1
 by_cases hi : i < n
 ·rw [Bool.eq_iff_iff, decide_eq_true_eq, listN_mem, Int.toNat_natCast]
  exact ⟨fun h => h.2.2.2, fun h => ⟨hi, by omega, by omega, h⟩⟩
 ·rw [Nat.testBit_lt_two_pow (Nat.lt_of_lt_of_le h (Nat.pow_le_pow_right (by decide) (by omega)))]
  exact decide_eq_false fun k => hi k.1
theorem zfC {n a b : Nat} (h : b < 2 ^ n) : zfD (n, a) (n, b) = (n, a ||| b) := by rw [zfD, addL_or h]

def clIf (p : Nat) (H : AH) (l : List (Nat × List Nat × Opn)) : List (Nat × List Nat × Opn) := match H[p]? with
 | some (.obj _) => []
 | _ => l
def zgD : Ctr := zeN

theorem copiedV : (
 let q1 : Prop := true = true/\zaB/\(0 : Nat) = 0;
 let q2 : Prop := q1/\True; ∀ (x : Nat × Nat), SetW x->Exx (Nat × Nat) fun x_1 => ((q1/\q2)/\true = true/\setB x = setB x_1/\True)/\SetW x_1/\∀ (y : Unit), True->Exx Unit fun y => (q2/\setB x_1 = setB x/\true = true/\setB (zfD x_1 x_1) = setB x/\True)/\True) = (fnVC tb [(87, zqD (zaA zfS) (zaA zh0))] Tryz.f55 zgD (fun _ => {}) (fun _ => none)) := by kernel_rfl

theorem zeZ : SpecOk Tryz.prog 55 (zaA zgD) := by
 refine zaF zaH zaG (SPok.cons (zk7 zhC ziZ) SPok.nil) Tryz.func55 (by decide) zjX (Eq.mp copiedV ?_)
 simp (maxSteps := 10000000) only [std, stdU, stdV, Exx, I64, Nat.reduceMul, Nat.reduceDiv, Nat.reduceAdd, Int.reduceToNat, zaR]
 rintro n m h
 exact ⟨h, by rw [zfC h.2, Nat.or_self]⟩

theorem qaK {s : Nat × Nat} (h : s.1 <= 3072) : ∀ k a : Nat, -1 <= gapF s k a/\gapF s k a <= 3072
 | 0, _ => ⟨by simp [gapF], by simp [gapF]⟩
 | k + 1, a => by
   rw [gapF]
   have := qaK h k (a + 1)
   split
   ·split
    ·exact this
    ·omega
   ·omega
theorem zpL {s : Nat × Nat} (h : SetW s) (a : Int) : I64 (gapN s a) := by
 have := qaK h.1 (s.1 + 1) a.toNat
 unfold gapN; exact ⟨by omega, by omega⟩
theorem or_lt2 {n a b : Nat} (ha : a < 2 ^ n) (hb : b < 2 ^ n) : a ||| b < 2 ^ n := Nat.or_lt_two_pow ha hb
def zdJ (x : AllocT) : Nat := x.w ||| x.c ||| x.e ||| x.m
def zr9 (Y : Type) (pre : AllocT × Y->Prop) (args : AllocT × Y->List AV) (res : AllocT × Y->AV) : Ctr where
 X := AllocT × Y
 Y := Unit
 conv := true
 tau := zd9
 pre := fun x => za2 x.1/\pre x
 args := fun x => .ptr 0 [] 0 :: args x
 heap := fun x => [zdK x.1]
 Q := fun _ _ => True
 res := fun x _ => res x
 its := fun x _ => [zdK x.1]
 new := fun _ _ => []
theorem zr8 {Y : Type} {pre : AllocT × Y->Prop} {args : AllocT × Y->List AV} {res : AllocT × Y->AV} (h : ∀ x, plV 2 (res x)) : CtrOk (zr9 Y pre args res) :=
 ⟨fun _ _ _ _ => rfl, fun _ _ _ _ => ⟨rfl, rfl⟩, fun x _ _ _ _ => ⟨⟨⟨trivial, trivial⟩, trivial⟩, h x⟩⟩
def ziQ (Y : Type) (pre : AllocT × Y->Prop) (args : AllocT × Y->List AV) (g : AllocT × Y->AllocT) (res : AllocT × Y->AV) : Ctr where
 X := AllocT × Y
 Y := Unit
 conv := true
 tau := zd9
 pre := fun x => za2 x.1/\pre x
 args := fun x => .ptr 0 [] 0 :: args x
 heap := fun x => [zdK x.1]
 Q := fun _ _ => True
 res := fun x _ => res x
 its := fun x _ => [zdK (g x)]
 new := fun _ _ => []
theorem zgF {Y : Type} {pre : AllocT × Y->Prop} {args : AllocT × Y->List AV} {g : AllocT × Y->AllocT} {res : AllocT × Y->AV} (h : ∀ x, plV 2 (res x)) : CtrOk (ziQ Y pre args g res) :=
 ⟨fun _ _ _ _ => (rfl : 1 = 1), fun _ _ _ _ => ⟨rfl, rfl⟩, fun x _ _ _ _ => ⟨⟨⟨trivial, trivial⟩, trivial⟩, h x⟩⟩
def zjP (g : AllocT->Nat × Nat) : Ctr where
 X := AllocT
 Y := Unit
 conv := true
 tau := zd9
 pre := za2
 args := fun _ => [.ptr 0 [] 0]
 heap := fun x => [zdK x]
 Q := fun _ _ => True
 res := fun _ _ => .ptr 2 [] 0
 its := fun x _ => [zdK x]
 new := fun x _ => [setI (g x)]
theorem ziR (g : AllocT->Nat × Nat) : CtrOk (zjP g) :=
 ⟨fun _ _ _ _ => (rfl : 1 = 1), fun _ _ _ _ => ⟨rfl, rfl⟩, fun x _ _ _ _ => ⟨⟨⟨trivial, trivial⟩, ⟨trivial, trivial⟩⟩, rfl⟩⟩
def qe1 (av : AV) : Option Ren := match av with
 | .ptr q _ _ => some [some 0, some 1, some q]
 | _ => none
def qd4 : Ctr := zjP fun x => (x.n, zdJ x)

theorem heldV : (
 let q1 : Prop := true = true/\zaB/\(0 : Nat) = 0;
 let q2 : Prop := q1/\True;
 let q3 : Int := (↑(Int.toNat 3 - 0) : Int);
 let q4 : Prop := q1/\q2;
 let q5 : Int := 0 + 1;
 let q6 : Int := q5 + 1; ∀ (x : AllocT), za2 x->zaC x = (zbP x).ob/\∀ (g : Unit), ((0 : Int) <= (3 : Int)/\(3 : Int) < (↑(4 : Nat) : Int))/\Exx (Nat × Nat) fun x_1 => (q2/\true = true/\setB (x.n, x.w) = setB x_1/\True)/\SetW x_1/\∀ (y : Unit), True->(0 : Int) <= (3 : Int)/\((0 : Nat) <= (3 : Int).toNat/\(3 : Int).toNat <= (4 : Nat))/\((0 : Int) <= (0 : Int)/\(0 : Int) < q3)/\Exx ((Nat × Nat) × Nat × Nat) fun x_2 => (q4/\true = true/\setB x_1 = setB x_2.1/\setB (x.n, x.c) = setB x_2.2/\True)/\(SetW x_2.1/\SetW x_2.2)/\∀ (y : Unit), True->I64 q5/\((0 : Int) <= q5/\q5 < q3)/\Exx ((Nat × Nat) × Nat × Nat) fun x_3 => (q4/\true = true/\setB (zfD x_2.1 x_2.2) = setB x_3.1/\setB (x.n, x.e) = setB x_3.2/\True)/\(SetW x_3.1/\SetW x_3.2)/\∀ (y : Unit), True->I64 q6/\((0 : Int) <= q6/\q6 < q3)/\Exx ((Nat × Nat) × Nat × Nat) fun x_4 => (q4/\true = true/\setB (zfD x_3.1 x_3.2) = setB x_4.1/\setB (x.n, x.m) = setB x_4.2/\True)/\(SetW x_4.1/\SetW x_4.2)/\∀ (y : Unit), True->I64 (q6 + 1)/\Exx Unit fun y => Exx Unit fun g => Tr 1 (((140 : TypeId) = 140/\Tr 1 (x.r = x.r)/\q1/\q1/\q4)/\setB x_2.2 = setB (x.n, x.c)/\setB x_3.2 = setB (x.n, x.e)/\setB x_4.2 = setB (x.n, x.m)/\setB x_1 = setB (x.n, x.w)/\True)/\(q2/\(zbP x).ob = zaC x/\true = true/\setB (zfD x_4.1 x_4.2) = setB (x.n, zdJ x)/\True)/\True) = (zcP tb [(55, zaA zgD), (87, zqD (zaA zfS) (zaA zh0))] Tryz.f137 qd4 (fun x => { unroll := [(3, 4)] }) (fun _ av _ => qe1 av) (fun x => [(0, zbP x)]) (fun x y av H => [(0, [2, 3, 4, 5], zbP x)])) := by kernel_rfl

theorem qaG : SpecOk Tryz.prog 137 (zaA qd4) := by
 refine za1 zaH zaG (SPok.cons zeZ (SPok.cons (zk7 zhC ziZ) SPok.nil)) Tryz.func137 (by decide) (ziR _) (Eq.mp heldV ?_)
 simp (maxSteps := 10000000) only [std, stdU, stdV, Exx, I64, Nat.reduceMul, Nat.reduceDiv, Nat.reduceAdd, Int.reduceToNat, zaR, zcX, zcI, zaO]
 rintro x ⟨h1, h2, h3, h4, h5, h6⟩
 have e1 : zfD (x.n, x.w) (x.n, x.c) = (x.n, x.w ||| x.c) := zfC h3
 have e2 : zfD (x.n, x.w ||| x.c) (x.n, x.e) = (x.n, x.w ||| x.c ||| x.e) := zfC h4
 have e3 : zfD (x.n, x.w ||| x.c ||| x.e) (x.n, x.m) = (x.n, zdJ x) := zfC h5
 rw [e1, e2, e3]
 repeat refine And.intro (by first | omega | exact ⟨h1, h6⟩ | exact ⟨h1, h3⟩ | exact ⟨h1, h4⟩ | exact ⟨h1, h5⟩ | exact ⟨h1, or_lt2 h6 h3⟩ | exact ⟨h1, or_lt2 (or_lt2 h6 h3) h4⟩) ?_
 rfl

def zr5 (args : List AV) (H : AH) : List Nat := match args with
 | .ptr p _ _ :: _ => match H[p]? with
   | some (.cells _ (_ :: .ptr a _ _ :: .ptr b _ _ :: .ptr c _ _ :: .ptr d _ _ :: _)) => [p, a, b, c, d]
   | _ => [p]
 | _ => []
theorem qbE (x : AllocT) : plH (zg1 x) := ⟨⟨rfl, rfl, rfl, rfl, rfl, trivial⟩, trivial, trivial, trivial, trivial, trivial⟩
def zrL : Ctr where
 X := AllocT
 Y := Unit
 conv := true
 tau := zr5
 pre := za2
 args := fun _ => [.ptr 0 [] 0]
 heap := zg1
 Q := fun _ _ => True
 res := fun _ _ => .ptr 6 [] 0
 its := fun x _ => zg1 x
 new := fun x _ => [setI (x.n, zdJ x)]
theorem qaH : CtrOk zrL :=
 ⟨fun _ _ _ _ => (rfl : 5 = 5), fun _ _ _ _ => ⟨rfl, rfl⟩, fun x _ _ _ _ => ⟨⟨qbE x, ⟨trivial, trivial⟩⟩, rfl⟩⟩
def ptrRen5 (av : AV) : Option Ren := match av with
 | .ptr q _ _ => some [some 0, some 1, some 2, some 3, some 4, some 5, some q]
 | _ => none

theorem heldOV : (
 let q1 : Prop := true = true/\zaB/\(0 : Nat) = 0;
 let q2 : Prop := q1/\True;
 let q3 : Int := (↑(Int.toNat 3 - 0) : Int);
 let q4 : Prop := q1/\q2;
 let q5 : Int := 0 + 1;
 let q6 : Int := q5 + 1; ∀ (x : AllocT), za2 x->((0 : Int) <= (3 : Int)/\(3 : Int) < (↑(4 : Nat) : Int))/\Exx (Nat × Nat) fun x_1 => (q2/\true = true/\setB (x.n, x.w) = setB x_1/\True)/\SetW x_1/\∀ (y : Unit), True->(0 : Int) <= (3 : Int)/\((0 : Nat) <= (3 : Int).toNat/\(3 : Int).toNat <= (4 : Nat))/\((0 : Int) <= (0 : Int)/\(0 : Int) < q3)/\Exx ((Nat × Nat) × Nat × Nat) fun x_2 => (q4/\true = true/\setB x_1 = setB x_2.1/\setB (x.n, x.c) = setB x_2.2/\True)/\(SetW x_2.1/\SetW x_2.2)/\∀ (y : Unit), True->I64 q5/\((0 : Int) <= q5/\q5 < q3)/\Exx ((Nat × Nat) × Nat × Nat) fun x_3 => (q4/\true = true/\setB (zfD x_2.1 x_2.2) = setB x_3.1/\setB (x.n, x.e) = setB x_3.2/\True)/\(SetW x_3.1/\SetW x_3.2)/\∀ (y : Unit), True->I64 q6/\((0 : Int) <= q6/\q6 < q3)/\Exx ((Nat × Nat) × Nat × Nat) fun x_4 => (q4/\true = true/\setB (zfD x_3.1 x_3.2) = setB x_4.1/\setB (x.n, x.m) = setB x_4.2/\True)/\(SetW x_4.1/\SetW x_4.2)/\∀ (y : Unit), True->I64 (q6 + 1)/\Exx Unit fun y => (q2/\((140 : TypeId) = 140/\Tr 1 (x.r = x.r)/\q1/\q1/\q4)/\setB x_2.2 = setB (x.n, x.c)/\setB x_3.2 = setB (x.n, x.e)/\setB x_4.2 = setB (x.n, x.m)/\setB x_1 = setB (x.n, x.w)/\true = true/\setB (zfD x_4.1 x_4.2) = setB (x.n, zdJ x)/\True)/\True) = (zcP tb [(55, zaA zgD), (87, zqD (zaA zfS) (zaA zh0))] Tryz.f137 zrL (fun x => { unroll := [(3, 4)] }) (fun _ av _ => ptrRen5 av) (fun _ => []) (fun _ _ _ _ => [])) := by kernel_rfl

theorem zu9 : SpecOk Tryz.prog 137 (zaA zrL) := by
 refine za1 zaH zaG (SPok.cons zeZ (SPok.cons (zk7 zhC ziZ) SPok.nil)) Tryz.func137 (by decide) qaH (Eq.mp heldOV ?_)
 simp (maxSteps := 10000000) only [std, stdU, stdV, Exx, I64, Nat.reduceMul, Nat.reduceDiv, Nat.reduceAdd, Int.reduceToNat, zaR]
 rintro x ⟨h1, h2, h3, h4, h5, h6⟩
 have e1 : zfD (x.n, x.w) (x.n, x.c) = (x.n, x.w ||| x.c) := zfC h3
 have e2 : zfD (x.n, x.w ||| x.c) (x.n, x.e) = (x.n, x.w ||| x.c ||| x.e) := zfC h4
 have e3 : zfD (x.n, x.w ||| x.c ||| x.e) (x.n, x.m) = (x.n, zdJ x) := zfC h5
 rw [e1, e2, e3]
 repeat refine And.intro (by first | omega | exact ⟨h1, h6⟩ | exact ⟨h1, h3⟩ | exact ⟨h1, h4⟩ | exact ⟨h1, h5⟩ | exact ⟨h1, or_lt2 h6 h3⟩ | exact ⟨h1, or_lt2 (or_lt2 h6 h3) h4⟩) ?_
 rfl

def zp7 : Ctr := zjP fun x => (x.n, x.w)

theorem worksV : (
 let q1 : Prop := true = true/\zaB/\(0 : Nat) = 0;
 let q2 : Prop := q1/\True; ∀ (x : AllocT), za2 x->zaC x = (zbP x).ob/\∀ (g : Unit), ((0 : Int) <= (3 : Int)/\(3 : Int) < (↑(4 : Nat) : Int))/\Exx (Nat × Nat) fun x_1 => (q2/\true = true/\setB (x.n, x.w) = setB x_1/\True)/\SetW x_1/\∀ (y : Unit), True->Exx Unit fun y => Exx Unit fun g => Tr 1 (((140 : TypeId) = 140/\Tr 1 (x.r = x.r)/\q1/\q1/\q1/\q2)/\setB (x.n, x.c) = setB (x.n, x.c)/\setB (x.n, x.e) = setB (x.n, x.e)/\setB (x.n, x.m) = setB (x.n, x.m)/\setB x_1 = setB (x.n, x.w)/\True)/\(q2/\(zbP x).ob = zaC x/\true = true/\setB x_1 = setB (x.n, x.w)/\True)/\True) = (zcP tb [(55, zaA zgD)] Tryz.f42 zp7 (fun _ => {}) (fun _ av _ => qe1 av) (fun x => [(0, zbP x)]) (fun x y av H => [(0, [2, 3, 4, 5], zbP x)])) := by kernel_rfl

theorem zoD : SpecOk Tryz.prog 42 (zaA zp7) := by
 refine za1 zaH zaG (SPok.cons zeZ SPok.nil) Tryz.func42 (by decide) (ziR _) (Eq.mp worksV ?_)
 simp (maxSteps := 10000000) only [std, stdU, stdV, Exx, I64, Nat.reduceMul, Nat.reduceDiv, Nat.reduceAdd, Int.reduceToNat, zaR, zcX, zcI, zaO]
 exact fun x h => ⟨by omega, by omega, h.1, h.2.2.2.2.2⟩

theorem ztL {x : AllocT} (h : za2 x) : zdJ x < 2 ^ x.n := by
 obtain ⟨_, _, h3, h4, h5, h6⟩ := h
 exact or_lt2 (or_lt2 (or_lt2 h6 h3) h4) h5
def zfL (x : AllocT) : Int := (x.n : Int) - ((za8 x.n (zdJ x)).length : Nat)
theorem zvC {x : AllocT} (h : za2 x) : 0 <= zfL x/\zfL x <= 3072 := by
 have := ziP x.n (zdJ x)
 have := h.1
 unfold zfL; omega
def zdG (x : AllocT) (r : Int) : Int := if zfL x <= r then 0 else gapN (x.n, zdJ x) 0
def zb9 (x : AllocT) (r : Int) : Int := if zfL x <= r then 10 else 0
def zaQ (x : AllocT) (r : Int) : AllocT := if zfL x <= r then x else { x with w := add1 x.n x.w (gapN (x.n, zdJ x) 0) }
def zxQ : Ctr := ziQ Int (fun x => I64 x.2) (fun x => [i64 x.2]) (fun x => zaQ x.1 x.2) (fun x => .tup [i64 (zdG x.1 x.2), i64 (zb9 x.1 x.2)])

theorem takeRV : (
 let q1 : Prop := true = true/\zaB/\(0 : Nat) = 0;
 let q2 : Prop := q1/\True;
 let q3 : Nat := (TI.mk (TK.int IntKind.i64) 1 8 (ZL.cons (Value.int IntKind.i64 0) ZL.nil) false).size; ∀ (x : AllocT × Int), za2 x.1/\I64 x.2->Exx AllocT fun x_1 => (q2/\true = true/\zaC x.1 = zaC x_1/\True)/\za2 x_1/\∀ (y : Unit), True->Exx ((Nat × Nat) × Unit) fun x_2 => (q2/\true = true/\setB (x_1.n, zdJ x_1) = setB x_2.1/\True)/\(SetW x_2.1/\True)/\∀ (y : Unit), True->Exx ((Nat × Nat) × Unit) fun x_3 =>
 let q4 : Int := (x_2.1.1 : Int) - (↑(za8 x_3.1.1 x_3.1.2).length : Int); (q2/\true = true/\setB x_2.1 = setB x_3.1/\True)/\(SetW x_3.1/\True)/\∀ (y : Unit), True->I64 q4/\BC (decide (q4 <= x.2)) (Exx Unit fun y => (((Tr 1 ((0 : Int) = zdG x.1 x.2)/\Tr 1 ((10 : Int) = zb9 x.1 x.2)/\True)/\True)/\zaC x_1 = zaC (zaQ x.1 x.2)/\true = true/\True)/\True) (Exx ((Nat × Nat) × Int) fun x_4 => ((q1/\Tr 1 ((0 : Int) = x_4.2)/\True)/\true = true/\setB x_3.1 = setB x_4.1/\True)/\(SetW x_4.1/\I64 x_4.2)/\∀ (y : Unit), True->Exx AllocT fun y => zaC x_1 = (zbP y).ob/\∀ (g : Unit), ((0 : Int) <= (3 : Int)/\(3 : Int) < (↑(4 : Nat) : Int))/\Exx ((Nat × Nat) × List Int) fun x_5 => ((q1/\((0 : Nat) + (1 : Nat) <= (1 : Nat)/\1 = x_5.2.length/\∀ (i : Nat),
 let q5 : Nat := 0 + i; i < x_5.2.length->[AV.int .i64 (if q5 = 0 * 1 / 1 then gapN x_4.1 x_4.2 else 0)] = [AV.int .i64 (x_5.2.getD i 0)])/\True)/\true = true/\setB (y.n, y.w) = setB x_5.1/\True)/\(SetW x_5.1/\Ints x_5.2)/\∀ (y_1 : Unit), True->Exx Unit fun y_2 => Exx Unit fun g => Tr 1 (((140 : TypeId) = 140/\Tr 1 (y.r = (zaQ x.1 x.2).r)/\q1/\q1/\q1/\q2)/\setB (y.n, y.c) = setB ((zaQ x.1 x.2).n, (zaQ x.1 x.2).c)/\setB (y.n, y.e) = setB ((zaQ x.1 x.2).n, (zaQ x.1 x.2).e)/\setB (y.n, y.m) = setB ((zaQ x.1 x.2).n, (zaQ x.1 x.2).m)/\setB (x_5.1.1, addL x_5.1.1 x_5.1.2 x_5.2) = setB ((zaQ x.1 x.2).n, (zaQ x.1 x.2).w)/\True)/\(((Tr 1 (gapN x_4.1 x_4.2 = zdG x.1 x.2)/\Tr 1 ((0 : Int) = zb9 x.1 x.2)/\True)/\True)/\(zbP (zaQ x.1 x.2)).ob = zaC (zaQ x.1 x.2)/\true = true/\True)/\True)) = (zcP tb [(44, zaA zfT), (54, zaA zd7), (56, zcA (zaA zhE) (zaA ze5)), (137, zcA (zaA qd4) (zaA zrL)), (138, zaA zoN)] Tryz.f117 zxQ (fun x => { opensE := [(5, [{ p := 0, Y := AllocT, o := zbP }])] }) (fun _ _ _ => none) (fun _ => []) (fun x y av H => clIf 0 H [(0, [3, 4, 5, 6], zbP (zaQ x.1 x.2))])) := by kernel_rfl

theorem qcI : SpecOk Tryz.prog 117 (zaA zxQ) := by
 refine za1 zaH zaG (SPok.cons zhD (SPok.cons zdQ (SPok.cons (za6 zfV zeO) (SPok.cons (za6 qaG zu9) (SPok.cons zqJ SPok.nil))))) Tryz.func117 (by decide) (zgF fun _ => ⟨rfl, rfl, trivial⟩) (Eq.mp takeRV ?_)
 simp (maxSteps := 10000000) only [std, stdU, stdV, Exx, I64, Nat.reduceMul, Nat.reduceDiv, Nat.reduceAdd, Int.reduceToNat, zaR, zcX, zcI, zaO]
 rintro x r ⟨h, h1, h2⟩
 have hb := zvC h
 have hs : SetW (x.n, zdJ x) := ⟨h.1, ztL h⟩
 have e : (x.n : Int) - ((za8 x.n (zdJ x)).length : Nat) = zfL x := rfl
 rw [e]
 refine ⟨h, hs, hs, by omega, by omega, fun hle => ⟨by rw [zdG, if_pos hle], by rw [zb9, if_pos hle], by rw [zaQ, if_pos hle]⟩, fun hgt => ?_⟩
 rw [zaQ, if_neg hgt, zdG, if_neg hgt, zb9, if_neg hgt]
 have hg := zpL hs 0
 refine ⟨hs, by omega, by omega, by omega, by omega, x.n, x.w, [gapN (x.n, zdJ x) 0], rfl, fun i hi => ?_, rfl, rfl, ⟨h.1, h.2.2.2.2.2⟩, ⟨fun y hy => ?_, by simp⟩, rfl, rfl, rfl, rfl, rfl, rfl, rfl, rfl, rfl, rfl, rfl⟩
 ·have : i = 0 := by simpa using hi
  subst this; rfl
 ·have : y = gapN (x.n, zdJ x) 0 := by simpa using hy
  rw [this]; exact hg

def zoG : Ctr where
 X := AllocT × Int
 Y := Unit
 conv := true
 tau := zr5
 pre := fun x => za2 x.1/\I64 x.2
 args := fun x => [.ptr 0 [] 0, i64 x.2]
 heap := fun x => zg1 x.1
 Q := fun _ _ => True
 res := fun x _ => .tup [i64 (zdG x.1 x.2), i64 (zb9 x.1 x.2)]
 its := fun x _ => zg1 (zaQ x.1 x.2)
 new := fun x _ => []
theorem zxR : CtrOk zoG :=
 ⟨fun _ _ _ _ => (rfl : 5 = 5), fun _ _ _ _ => ⟨rfl, rfl⟩, fun x _ _ _ _ => ⟨⟨qbE _, trivial⟩, ⟨rfl, rfl, trivial⟩⟩⟩

theorem takeROV : (
 let q1 : Prop := true = true/\zaB/\(0 : Nat) = 0;
 let q2 : Prop := q1/\True;
 let q3 : Prop := (140 : TypeId) = 140;
 let q4 : Prop := q1/\q1/\q1/\q2;
 let q5 : Nat := (TI.mk (TK.int IntKind.i64) 1 8 (ZL.cons (Value.int IntKind.i64 0) ZL.nil) false).size; ∀ (x : AllocT × Int),
 let q6 : Ob := setB ((zaQ x.1 x.2).n, (zaQ x.1 x.2).c);
 let q7 : Ob := setB ((zaQ x.1 x.2).n, (zaQ x.1 x.2).e);
 let q8 : Ob := setB ((zaQ x.1 x.2).n, (zaQ x.1 x.2).m);
 let q9 : Ob := setB ((zaQ x.1 x.2).n, (zaQ x.1 x.2).w); za2 x.1/\I64 x.2->Exx AllocT fun x_1 => (q2/\true = true/\(q3/\Tr 1 (x.1.r = x_1.r)/\q4)/\setB (x.1.n, x.1.c) = setB (x_1.n, x_1.c)/\setB (x.1.n, x.1.e) = setB (x_1.n, x_1.e)/\setB (x.1.n, x.1.m) = setB (x_1.n, x_1.m)/\setB (x.1.n, x.1.w) = setB (x_1.n, x_1.w)/\True)/\za2 x_1/\∀ (y : Unit), True->Exx ((Nat × Nat) × Unit) fun x_2 => (q2/\true = true/\setB (x_1.n, zdJ x_1) = setB x_2.1/\True)/\(SetW x_2.1/\True)/\∀ (y : Unit), True->Exx ((Nat × Nat) × Unit) fun x_3 =>
 let q10 : Int := (x_2.1.1 : Int) - (↑(za8 x_3.1.1 x_3.1.2).length : Int); (q2/\true = true/\setB x_2.1 = setB x_3.1/\True)/\(SetW x_3.1/\True)/\∀ (y : Unit), True->I64 q10/\BC (decide (q10 <= x.2)) (Exx Unit fun y => (((Tr 1 ((0 : Int) = zdG x.1 x.2)/\Tr 1 ((10 : Int) = zb9 x.1 x.2)/\True)/\True)/\(q3/\Tr 1 (x_1.r = (zaQ x.1 x.2).r)/\q4)/\setB (x_1.n, x_1.c) = q6/\setB (x_1.n, x_1.e) = q7/\setB (x_1.n, x_1.m) = q8/\setB (x_1.n, x_1.w) = q9/\true = true/\True)/\True) (Exx ((Nat × Nat) × Int) fun x_4 => ((q1/\Tr 1 ((0 : Int) = x_4.2)/\True)/\true = true/\setB x_3.1 = setB x_4.1/\True)/\(SetW x_4.1/\I64 x_4.2)/\∀ (y : Unit), True->((0 : Int) <= (3 : Int)/\(3 : Int) < (↑(4 : Nat) : Int))/\Exx ((Nat × Nat) × List Int) fun x_5 => ((q1/\((0 : Nat) + (1 : Nat) <= (1 : Nat)/\1 = x_5.2.length/\∀ (i : Nat),
 let q11 : Nat := 0 + i; i < x_5.2.length->[AV.int .i64 (if q11 = 0 * 1 / 1 then gapN x_4.1 x_4.2 else 0)] = [AV.int .i64 (x_5.2.getD i 0)])/\True)/\true = true/\setB (x_1.n, x_1.w) = setB x_5.1/\True)/\(SetW x_5.1/\Ints x_5.2)/\∀ (y : Unit), True->Exx Unit fun y => (((Tr 1 (gapN x_4.1 x_4.2 = zdG x.1 x.2)/\Tr 1 ((0 : Int) = zb9 x.1 x.2)/\True)/\True)/\(q3/\Tr 1 (x_1.r = (zaQ x.1 x.2).r)/\q4)/\setB (x_1.n, x_1.c) = q6/\setB (x_1.n, x_1.e) = q7/\setB (x_1.n, x_1.m) = q8/\setB (x_5.1.1, addL x_5.1.1 x_5.1.2 x_5.2) = q9/\true = true/\True)/\True)) = (fnVC tb [(44, zaA zfT), (54, zaA zd7), (56, zcA (zaA zhE) (zaA ze5)), (137, zcA (zaA qd4) (zaA zrL)), (138, zaA zoN)] Tryz.f117 zoG (fun _ => {}) (fun _ => none)) := by kernel_rfl

theorem zxP : SpecOk Tryz.prog 117 (zaA zoG) := by
 refine zaF zaH zaG (SPok.cons zhD (SPok.cons zdQ (SPok.cons (za6 zfV zeO) (SPok.cons (za6 qaG zu9) (SPok.cons zqJ SPok.nil))))) Tryz.func117 (by decide) zxR (Eq.mp takeROV ?_)
 simp (maxSteps := 10000000) only [std, stdU, stdV, Exx, I64, Nat.reduceMul, Nat.reduceDiv, Nat.reduceAdd, Int.reduceToNat, zaR]
 rintro x r ⟨h, h1, h2⟩
 have hb := zvC h
 have hs : SetW (x.n, zdJ x) := ⟨h.1, ztL h⟩
 have e : (x.n : Int) - ((za8 x.n (zdJ x)).length : Nat) = zfL x := rfl
 refine ⟨x, rfl, rfl, rfl, rfl, rfl, rfl, rfl, rfl, rfl, h, hs, hs, ?_⟩
 rw [e]
 refine ⟨by omega, by omega, fun hle => ?_, fun hgt => ?_⟩
 ·rw [zdG, if_pos hle, zb9, if_pos hle, zaQ, if_pos hle]
  exact ⟨rfl, rfl, rfl, rfl, rfl, rfl, rfl, rfl, rfl, rfl, rfl⟩
 rw [zaQ, if_neg hgt, zdG, if_neg hgt, zb9, if_neg hgt]
 have hg := zpL hs 0
 refine ⟨hs, by omega, by omega, by omega, by omega, x.n, x.w, [gapN (x.n, zdJ x) 0], rfl, fun i hi => ?_, rfl, rfl, ⟨h.1, h.2.2.2.2.2⟩, ⟨fun y hy => ?_, by simp⟩, rfl, rfl, rfl, rfl, rfl, rfl, rfl, rfl, rfl, rfl, rfl⟩
 ·have : i = 0 := by simpa using hi
  subst this; rfl
 ·have : y = gapN (x.n, zdJ x) 0 := by simpa using hy
  rw [this]; exact hg

def zjO : Ctr := ziQ Unit (fun _ => True) (fun _ => []) (fun x => zaQ x.1 x.1.r) (fun x => .tup [i64 (zdG x.1 x.1.r), i64 (zb9 x.1 x.1.r)])
theorem zw9 : (
 let q1 : Prop := true = true/\zaB/\(0 : Nat) = 0;
 let q2 : Prop := (140 : TypeId) = 140;
 let q3 : Prop := q1/\q1/\q1/\q1/\True; ∀ (x : AllocT × Unit), za2 x.1/\True->zaC x.1 = (zbP x.1).ob/\∀ (g : Unit), Exx (AllocT × Int) fun x_1 => ((q1/\Tr 1 (x.1.r = x_1.2)/\True)/\true = true/\(q2/\Tr 1 (x.1.r = x_1.1.r)/\q3)/\setB (x.1.n, x.1.c) = setB (x_1.1.n, x_1.1.c)/\setB (x.1.n, x.1.e) = setB (x_1.1.n, x_1.1.e)/\setB (x.1.n, x.1.m) = setB (x_1.1.n, x_1.1.m)/\setB (x.1.n, x.1.w) = setB (x_1.1.n, x_1.1.w)/\True)/\(za2 x_1.1/\I64 x_1.2)/\∀ (y : Unit), True->Exx Unit fun y => Exx Unit fun g => Tr 1 ((q2/\Tr 1 ((zaQ x_1.1 x_1.2).r = (zaQ x.1 x.1.r).r)/\q3)/\setB ((zaQ x_1.1 x_1.2).n, (zaQ x_1.1 x_1.2).c) = setB ((zaQ x.1 x.1.r).n, (zaQ x.1 x.1.r).c)/\setB ((zaQ x_1.1 x_1.2).n, (zaQ x_1.1 x_1.2).e) = setB ((zaQ x.1 x.1.r).n, (zaQ x.1 x.1.r).e)/\setB ((zaQ x_1.1 x_1.2).n, (zaQ x_1.1 x_1.2).m) = setB ((zaQ x.1 x.1.r).n, (zaQ x.1 x.1.r).m)/\setB ((zaQ x_1.1 x_1.2).n, (zaQ x_1.1 x_1.2).w) = setB ((zaQ x.1 x.1.r).n, (zaQ x.1 x.1.r).w)/\True)/\(((Tr 1 (zdG x_1.1 x_1.2 = zdG x.1 x.1.r)/\Tr 1 (zb9 x_1.1 x_1.2 = zb9 x.1 x.1.r)/\True)/\True)/\(zbP (zaQ x.1 x.1.r)).ob = zaC (zaQ x.1 x.1.r)/\true = true/\True)/\True) = (zcP tb [(117, zcA (zaA zxQ) (zaA zoG))] Tryz.f94 zjO (fun _ => {}) (fun _ _ _ => none) (fun x => [(0, zbP x.1)]) (fun x y av H => [(0, [2, 3, 4, 5], zbP (zaQ x.1 x.1.r))])) := by kernel_rfl

theorem zr6 : SpecOk Tryz.prog 94 (zaA zjO) := by
 refine za1 zaH zaG (SPok.cons (za6 qcI zxP) SPok.nil) Tryz.func94 (by decide) (zgF fun _ => ⟨rfl, rfl, trivial⟩) (Eq.mp zw9 ?_)
 simp (maxSteps := 10000000) only [std, stdU, stdV, Exx, I64, Nat.reduceMul, Nat.reduceDiv, Nat.reduceAdd, Int.reduceToNat, zaR, zcX, zcI, zaO]
 exact fun x h => ⟨x, rfl, rfl, rfl, rfl, rfl, rfl, rfl, rfl, rfl, h, h.2.1.1, h.2.1.2, rfl, rfl, rfl, rfl, rfl, rfl, rfl, rfl, rfl, rfl, rfl⟩

def zg4 (x : AllocT) (a : Int) : AllocT := { x with w := zkA x.n x.w a }
def zhP (x : AllocT) (a : Int) : Int := if hasN (x.n, x.w) a = true then 0 else 2
def zjQ : Ctr := ziQ Int (fun x => I64 x.2) (fun x => [i64 x.2]) (fun x => zg4 x.1 x.2) (fun x => i64 (zhP x.1 x.2))

theorem zxA : (
 let q1 : Prop := (0 : Int) <= (3 : Int)/\(3 : Int) < (↑(4 : Nat) : Int);
 let q2 : Prop := true = true/\zaB/\(0 : Nat) = 0;
 let q3 : Prop := (140 : TypeId) = 140;
 let q4 : Prop := q2/\q2/\q2/\q2/\True;
 let q5 : Nat := (TI.mk (TK.int IntKind.i64) 1 8 (ZL.cons (Value.int IntKind.i64 0) ZL.nil) false).size; ∀ (x : AllocT × Int),
 let q6 : Prop := q3/\Tr 1 (x.1.r = (zg4 x.1 x.2).r)/\q4;
 let q7 : Prop := setB (x.1.n, x.1.c) = setB ((zg4 x.1 x.2).n, (zg4 x.1 x.2).c);
 let q8 : Prop := setB (x.1.n, x.1.e) = setB ((zg4 x.1 x.2).n, (zg4 x.1 x.2).e);
 let q9 : Prop := setB (x.1.n, x.1.m) = setB ((zg4 x.1 x.2).n, (zg4 x.1 x.2).m);
 let q10 : Ob := setB ((zg4 x.1 x.2).n, (zg4 x.1 x.2).w);
 let q11 : Prop := (zbP (zg4 x.1 x.2)).ob = zaC (zg4 x.1 x.2)/\true = true/\True; za2 x.1/\I64 x.2->zaC x.1 = (zbP x.1).ob/\∀ (g : Unit), q1/\Exx ((Nat × Nat) × Int) fun x_1 => ((q2/\Tr 1 (x.2 = x_1.2)/\True)/\true = true/\setB (x.1.n, x.1.w) = setB x_1.1/\True)/\(SetW x_1.1/\I64 x_1.2)/\∀ (y : Unit), True->BC (!hasN x_1.1 x_1.2) (Exx Unit fun y => Exx Unit fun g => Tr 1 (q6/\q7/\q8/\q9/\setB x_1.1 = q10/\True)/\((Tr 1 ((2 : Int) = zhP x.1 x.2)/\True)/\q11)/\True) (q1/\Exx ((Nat × Nat) × List Int) fun x_2 => ((q2/\((0 : Nat) + (1 : Nat) <= (1 : Nat)/\1 = x_2.2.length/\∀ (i : Nat),
 let q12 : Nat := 0 + i; i < x_2.2.length->[AV.int .i64 (if q12 = 0 * 1 / 1 then x.2 else 0)] = [AV.int .i64 (x_2.2.getD i 0)])/\True)/\true = true/\setB x_1.1 = setB x_2.1/\True)/\(SetW x_2.1/\Ints x_2.2)/\∀ (y : Unit), True->Exx Unit fun y => Exx Unit fun g => Tr 1 (q6/\q7/\q8/\q9/\setB (x_2.1.1, zfN x_2.1.1 x_2.1.2 x_2.2) = q10/\True)/\((Tr 1 ((0 : Int) = zhP x.1 x.2)/\True)/\q11)/\True)) = (zcP tb [(43, zcA (zaA zi0) (zaA zgN)), (121, zaA zoO)] Tryz.f102 zjQ (fun _ => {}) (fun _ _ _ => none) (fun x => [(0, zbP x.1)]) (fun x y av H => [(0, [2, 3, 4, 5], zbP (zg4 x.1 x.2))])) := by kernel_rfl

theorem zr7 : SpecOk Tryz.prog 102 (zaA zjQ) := by
 refine za1 zaH zaG (SPok.cons (za6 zh2 zgM) (SPok.cons zv0 SPok.nil)) Tryz.func102 (by decide) (zgF fun _ => rfl) (Eq.mp zxA ?_)
 simp (maxSteps := 10000000) only [std, stdU, stdV, Exx, I64, Nat.reduceMul, Nat.reduceDiv, Nat.reduceAdd, Int.reduceToNat, zaR, zcX, zcI, zaO]
 rintro x a ⟨h, h1, h2⟩
 have hs : SetW (x.n, x.w) := ⟨h.1, h.2.2.2.2.2⟩
 refine ⟨by omega, by omega, hs, h1, h2, fun hn => ⟨rfl, rfl, rfl, rfl, rfl, rfl, rfl, rfl, ?_, by rw [zhP, hn]; rfl⟩, fun hy => ⟨by omega, by omega, x.n, x.w, [a], rfl, fun i hi => ?_, rfl, rfl, hs, ⟨fun y hy => ?_, by simp⟩, rfl, rfl, rfl, rfl, rfl, rfl, rfl, rfl, rfl, by rw [zhP, if_pos hy]⟩⟩
 ·apply Nat.eq_of_testBit_eq
  intro i
  show x.w.testBit i = (zkA x.n x.w a).testBit i
  rw [qaY]
  by_cases e : i < x.n/\(i : Int) = a
  ·obtain ⟨e1, rfl⟩ := e
   have hin : inSet (x.n, x.w) (i : Int) := ⟨by omega, by simp only; omega⟩
   rw [hasN, decide_eq_true hin, Bool.true_and] at hn
   have hn' : x.w.testBit i = false := hn
   rw [hn']; rfl
  ·rw [decide_eq_false e]; simp
 ·have : i = 0 := by simpa using hi
  subst this; rfl
 ·have : y = a := by simpa using hy
  rw [this]; exact ⟨h1, h2⟩

def zmS : Ctr := zr9 Int (fun x => I64 x.2) (fun x => [i64 x.2]) (fun x => .bool (hasN (x.1.n, x.1.w) x.2 && !hasN (x.1.n, x.1.m) x.2))

theorem qbF : (
 let q1 : Prop := true = true/\zaB/\(0 : Nat) = 0;
 let q2 : Prop := (140 : TypeId) = 140;
 let q3 : Prop := q1/\q1/\q1/\q1/\True; ∀ (x : AllocT × Int),
 let q4 : Prop := setB (x.1.n, x.1.c) = setB (x.1.n, x.1.c);
 let q5 : Prop := setB (x.1.n, x.1.e) = setB (x.1.n, x.1.e);
 let q6 : Bool := hasN (x.1.n, x.1.w) x.2 && !hasN (x.1.n, x.1.m) x.2;
 let q7 : Prop := (zbP x.1).ob = zaC x.1/\true = true/\True; za2 x.1/\I64 x.2->zaC x.1 = (zbP x.1).ob/\∀ (g : Unit), ((0 : Int) <= (3 : Int)/\(3 : Int) < (↑(4 : Nat) : Int))/\Exx ((Nat × Nat) × Int) fun x_1 =>
 let q8 : Prop := setB x_1.1 = setB (x.1.n, x.1.w)/\True; ((q1/\Tr 1 (x.2 = x_1.2)/\True)/\true = true/\setB (x.1.n, x.1.w) = setB x_1.1/\True)/\(SetW x_1.1/\I64 x_1.2)/\∀ (y : Unit), True->BC (hasN x_1.1 x_1.2) (((0 : Int) <= (2 : Int)/\(2 : Int) < (↑(4 : Nat) : Int))/\Exx ((Nat × Nat) × Int) fun x_2 => ((q1/\Tr 1 (x.2 = x_2.2)/\True)/\true = true/\setB (x.1.n, x.1.m) = setB x_2.1/\True)/\(SetW x_2.1/\I64 x_2.2)/\∀ (y : Unit), True->Exx Unit fun y => Exx Unit fun g => Tr 1 ((q2/\Tr 1 (x.1.r = x.1.r)/\q3)/\q4/\q5/\setB x_2.1 = setB (x.1.n, x.1.m)/\q8)/\(((!hasN x_2.1 x_2.2) = q6/\True)/\q7)/\True) (Exx Unit fun y => Exx Unit fun g => Tr 1 ((q2/\Tr 1 (x.1.r = x.1.r)/\q3)/\q4/\q5/\setB (x.1.n, x.1.m) = setB (x.1.n, x.1.m)/\q8)/\((false = q6/\True)/\q7)/\True)) = (zcP tb [(43, zcA (zaA zi0) (zaA zgN))] Tryz.f101 zmS (fun _ => {}) (fun _ _ _ => none) (fun x => [(0, zbP x.1)]) (fun x y av H => [(0, [2, 3, 4, 5], zbP x.1)])) := by kernel_rfl

theorem zt4 : SpecOk Tryz.prog 101 (zaA zmS) := by
 refine za1 zaH zaG (SPok.cons (za6 zh2 zgM) SPok.nil) Tryz.func101 (by decide) (zr8 fun _ => rfl) (Eq.mp qbF ?_)
 simp (maxSteps := 10000000) only [std, stdU, stdV, Exx, I64, Nat.reduceMul, Nat.reduceDiv, Nat.reduceAdd, Int.reduceToNat, zaR, zcX, zcI, zaO]
 rintro x a ⟨h, h1, h2⟩
 have hs : SetW (x.n, x.w) := ⟨h.1, h.2.2.2.2.2⟩
 have hm : SetW (x.n, x.m) := ⟨h.1, h.2.2.2.2.1⟩
 exact ⟨by omega, by omega, hs, h1, h2, fun e => ⟨by omega, by omega, hm, h1, h2, by rw [e]; rfl⟩, fun e => by rw [e]; rfl⟩

def zzP (x : AllocT) : Nat->Nat
 | 0 => x.c
 | 1 => x.e
 | 2 => x.m
 | _ => x.w
def zzN (x : AllocT) (k v : Nat) : AllocT := match k with
 | 0 => { x with c := v }
 | 1 => { x with e := v }
 | 2 => { x with m := v }
 | _ => { x with w := v }
def zt0 (x : AllocT) (k o : Nat) : AllocT := zzN x k (zzP x o)
theorem qbC {x : AllocT} (h : za2 x) (k o : Nat) : za2 (zt0 x k o) := by
 obtain ⟨h1, h2, h3, h4, h5, h6⟩ := h
 have hm : zzP x o < 2 ^ x.n := by unfold zzP; split <;> assumption
 unfold zt0 zzN
 split <;> exact ⟨by assumption, by assumption, by assumption, by assumption, by assumption, by assumption⟩
def markS (x : AllocT) : AllocT := zt0 x 2 3
abbrev NewX : Type := (Nat × Nat) × (Nat × Nat) × Int
def zbE (x : NewX) : AllocT := { n := x.1.1, r := x.2.2, c := x.1.2, e := x.2.1.2, m := x.1.2, w := x.1.2 }
def allocNewI : Ctr2 where
 X := NewX
 conv := true
 tau := tau2
 pre := fun x => SetW x.1/\SetW x.2.1/\I64 x.2.2
 args := fun x => [.ptr 0 [] 0, .ptr 1 [] 0, i64 x.2.2]
 heap := fun x => [setI x.1, setI x.2.1]
 p := fun x => x.1.1 = x.2.1.1/\0 <= x.2.2
 a := { Y := Unit, Q := fun _ _ => True, res := fun _ _ => .tup [.ptr 3 [] 0, i64 0], its := fun x _ => [setI x.1, setI x.2.1], new := fun x _ => [zdK (zbE x)] }
 b := { Y := Unit, Q := fun _ _ => True, res := fun _ _ => .tup [.nilp, i64 2], its := fun x _ => [setI x.1, setI x.2.1], new := fun _ _ => [] }

theorem qbG : (
 let q1 : Prop := true = true/\zaB/\(0 : Nat) = 0;
 let q2 : Prop := q1/\True;
 let q3 : Prop := (0 : Int) < (↑(3 : Nat) : Int);
 let q4 : Nat := 2 * 1 / 1;
 let q5 : Nat := (TI.mk (TK.int IntKind.i64) 1 8 (ZL.cons (Value.int IntKind.i64 0) ZL.nil) false).size;
 let q6 : Nat := (2, Operand.const (Value.int IntKind.i64 3)).1 * q5 / 1;
 let q7 : Nat := 1 * 1 / 1;
 let q8 : Nat := (1, Operand.const (Value.int IntKind.i64 2)).1 * q5 / 1;
 let q9 : Nat := 0 * 1 / 1;
 let q10 : Nat := (0, Operand.const (Value.int IntKind.i64 0)).1 * q5 / 1;
 let q11 : Int := if Int.toNat 0 = q4 then 3 else if Int.toNat 0 = q7 then 2 else if Int.toNat 0 = q9 then 0 else 0;
 let q12 : Int := 0 + 1;
 let q13 : Prop := q12 < (↑(3 : Nat) : Int);
 let q14 : Nat := q12.toNat;
 let q15 : Int := if q14 = q4 then 3 else if q14 = q7 then 2 else if q14 = q9 then 0 else 0;
 let q16 : Int := q12 + 1;
 let q17 : Prop := q16 < (↑(3 : Nat) : Int);
 let q18 : Nat := q16.toNat;
 let q19 : Int := if q18 = q4 then 3 else if q18 = q7 then 2 else if q18 = q9 then 0 else 0; ∀ (x : (Nat × Nat) × (Nat × Nat) × Int),
 let q20 : Prop := x.1.1 = x.2.1.1/\(0 : Int) <= x.2.2; SetW x.1/\SetW x.2.1/\I64 x.2.2->Exx ((Nat × Nat) × Unit) fun x_1 => (q2/\true = true/\setB x.1 = setB x_1.1/\True)/\(SetW x_1.1/\True)/\∀ (y : Unit), True->Exx ((Nat × Nat) × Unit) fun x_2 =>
 let q21 : Prop := (q20/\Exx Unit fun y => False)\/¬allocNewI.p x/\Exx Unit fun y => ((Tr 1 (Tr 1 ((2 : Int) = 2)/\True)/\True)/\setB x_1.1 = setB x.1/\setB x_2.1 = setB x.2.1/\true = true/\True)/\True; (q2/\true = true/\setB x.2.1 = setB x_2.1/\True)/\(SetW x_2.1/\True)/\∀ (y : Unit), True->BC (!decide ((x_1.1.1 : Int) = (x_2.1.1 : Int))) q21 (BC (decide (x.2.2 < (0 : Int))) q21 (Exx (Nat × Nat) fun x_3 =>
 let q22 : Prop := setB x_3 = setB x.2.1; (q2/\true = true/\setB x_2.1 = setB x_3/\True)/\SetW x_3/\∀ (y : Unit), True->((0 : Int) <= (1 : Int)/\(1 : Int) < (↑(4 : Nat) : Int))/\((0 : Int) <= (0 : Int)/\q3/\q3)/\Exx (Nat × Nat) fun x_4 => (q2/\true = true/\setB x_1.1 = setB x_4/\True)/\SetW x_4/\∀ (y : Unit), True->((0 : Int) <= q11/\q11 < (↑(4 : Nat) : Int))/\I64 q12/\((0 : Int) <= q12/\q13/\q13)/\Exx (Nat × Nat) fun x_5 => (q2/\true = true/\setB x_4 = setB x_5/\True)/\SetW x_5/\∀ (y : Unit), True->((0 : Int) <= q15/\q15 < (↑(4 : Nat) : Int))/\I64 q16/\((0 : Int) <= q16/\q17/\q17)/\Exx (Nat × Nat) fun x_6 => (q2/\true = true/\setB x_5 = setB x_6/\True)/\SetW x_6/\∀ (y : Unit), True->((0 : Int) <= q19/\q19 < (↑(4 : Nat) : Int))/\I64 (q16 + 1)/\((q20/\Exx Unit fun y => Exx Unit fun g => Tr 1 (((140 : Nat) = (140 : TypeId)/\Tr 1 (x.2.2 = (zbE x).r)/\q1/\q1/\q1/\q2)/\setB x_4 = setB ((zbE x).n, (zbE x).c)/\setB x_3 = setB ((zbE x).n, (zbE x).e)/\setB x_5 = setB ((zbE x).n, (zbE x).m)/\setB x_6 = setB ((zbE x).n, (zbE x).w)/\True)/\(((q1/\Tr 1 ((0 : Int) = 0)/\True)/\True)/\setB x_6 = setB x.1/\q22/\true = true/\(zbP (zbE x)).ob = zaC (zbE x)/\True)/\True)\/¬allocNewI.p x/\Exx Unit fun y => (((False/\Tr 1 ((0 : Int) = 2)/\True)/\True)/\setB x_6 = setB x.1/\q22/\true = true/\True)/\True)))) = (zwZ tb [(54, zaA zd7), (55, zaA zgD)] Tryz.f14 allocNewI (fun x => { loose := [(6, [1, 3]), (10, [0, 3])], unroll := [(8, 4)] }) (fun _ _ _ => none) (fun _ => []) (fun x y av H => [(3, [5, 4, 6, 7], zbP (zbE x))]) (fun _ _ _ _ => [])) := by kernel_rfl

theorem zt5 : SpecOk Tryz.prog 14 (zfI allocNewI) := by
 refine zoK zaH zaG (SPok.cons zdQ (SPok.cons zeZ SPok.nil)) Tryz.func14 (by decide) ⟨fun _ _ _ _ => (rfl : 2 = 2), fun _ _ _ _ => ⟨rfl, rfl⟩, fun x _ _ _ _ => ⟨⟨⟨trivial, trivial, trivial⟩, ⟨trivial, trivial⟩⟩, rfl, rfl, trivial⟩⟩ ⟨fun _ _ _ _ => (rfl : 2 = 2), fun _ _ _ _ => ⟨rfl, rfl⟩, fun x _ _ _ _ => ⟨⟨⟨trivial, trivial, trivial⟩, trivial⟩, rfl, rfl, trivial⟩⟩ (Eq.mp qbG ?_)
 simp (maxSteps := 10000000) only [std, stdU, stdV, Exx, I64, Nat.reduceMul, Nat.reduceDiv, Nat.reduceAdd, Int.reduceToNat, zaR, zcX, zcI, zaO]
 rintro n a n' b r ⟨h1, h2, h3, h4⟩
 refine ⟨h1, h2, fun hne hp => hne hp.1, fun e => ⟨fun hr hp => by have := hp.2; simp only at this; omega, fun hr => ?_⟩⟩
 subst e
 simp only [if_pos, if_neg, Nat.reduceEqDiff, Nat.succ_ne_self, Nat.zero_add, Int.reduceToNat, Int.reduceAdd, if_true, if_false, zbE, and_true, true_and]
 repeat refine And.intro (by first | omega | exact h1 | exact h2) ?_
 omega

def tauArg2 (args : List AV) (H : AH) : List Nat := match args with
 | _ :: .ptr p _ _ :: _ => [p]
 | _ => []
def zgH (tau : List AV->AH->List Nat) (args : List AV) : Ctr where
 X := (Nat × Nat) × Int
 Y := Unit
 conv := true
 tau := tau
 pre := fun x => I64 x.2
 args := fun x => args ++ [i64 x.2]
 heap := fun x => [setI x.1]
 Q := fun _ _ => True
 res := fun x _ => .tup [.nilp, i64 1]
 its := fun x _ => [setI x.1]
 new := fun _ _ => []
theorem zgG (tau : List AV->AH->List Nat) (args : List AV) : CtrOk (zgH tau args) :=
 ⟨fun _ _ _ _ => rfl, fun _ _ _ _ => ⟨rfl, rfl⟩, fun x _ _ _ _ => ⟨⟨⟨trivial, trivial⟩, trivial⟩, ⟨rfl, rfl, trivial⟩⟩⟩
def zhV : Ctr := zgH tauArg2 [.nilp, .ptr 0 [] 0]
def zhU : Ctr := zgH zd9 [.ptr 0 [] 0, .nilp]

theorem zt7 : (∀ (x : (Nat × Nat) × Int), -9223372036854775808 <= x.2/\x.2 <= (9223372036854775807 : Int)->Exx Unit fun y => ((Tr 1 (Tr 1 ((1 : Int) =
 1)/\True)/\True)/\setB x.1 = setB x.1/\true = true/\True)/\True) = (fnVC tb [(54, zaA zd7), (55, zaA zgD)] Tryz.f14 zhV (fun _ =>
 {}) (fun _ => none)) := by kernel_rfl

theorem zpZ : SpecOk Tryz.prog 14 (zaA zhV) := by
 refine zaF zaH zaG (SPok.cons zdQ (SPok.cons zeZ SPok.nil)) Tryz.func14 (by decide) (zgG _ _) (Eq.mp zt7 ?_)
 simp (maxSteps := 10000000) only [std, stdU, stdV, Exx, I64, Nat.reduceMul, Nat.reduceDiv, Nat.reduceAdd, Int.reduceToNat, zaR]

theorem zt6 : (∀ (x : (Nat × Nat) × Int), -9223372036854775808 <= x.2/\x.2 <= (9223372036854775807 : Int)->Exx Unit fun y => ((Tr 1 (Tr 1 ((1 : Int) =
 1)/\True)/\True)/\setB x.1 = setB x.1/\true = true/\True)/\True) = (fnVC tb [(54, zaA zd7), (55, zaA zgD)] Tryz.f14 zhU (fun _ =>
 {}) (fun _ => none)) := by kernel_rfl

theorem zpY : SpecOk Tryz.prog 14 (zaA zhU) := by
 refine zaF zaH zaG (SPok.cons zdQ (SPok.cons zeZ SPok.nil)) Tryz.func14 (by decide) (zgG _ _) (Eq.mp zt6 ?_)
 simp (maxSteps := 10000000) only [std, stdU, stdV, Exx, I64, Nat.reduceMul, Nat.reduceDiv, Nat.reduceAdd, Int.reduceToNat, zaR]

def zgI : Sx.Spec := zkC (qfA 0) (zaA zhV) (zkC (qfA 1) (zaA zhU) (zfI allocNewI))
theorem zhA : SpecOk Tryz.prog 14 zgI := zk8 zpZ (zk8 zpY zt5)

end Yard
