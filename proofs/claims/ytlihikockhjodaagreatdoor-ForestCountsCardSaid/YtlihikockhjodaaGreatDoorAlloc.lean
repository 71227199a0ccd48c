import Derived.Test.YtlihikockhjodaaGreatDoorBits2

namespace Yard
open Go Go.Sx Go.Proofs
set_option linter.unusedVariables false
set_option linter.unusedSimpArgs false
set_option maxRecDepth 4000


theorem ztC {n m : Nat} {a : Int} {i : Nat} : (add1 n m a).testBit i = (m.testBit i || decide (i < n/\(i : Int) = a)) := by
 unfold add1 inB
 by_cases h : 0 <= a/\a < (n : Int)
 ·rw [if_pos (decide_eq_true h), Nat.testBit_or, Nat.testBit_two_pow]
  have : (a.toNat = i) ↔ (i < n/\(i : Int) = a) := by omega
  simp only [this]
 ·rw [if_neg (by rw [decide_eq_false h]; simp)]
  have : ¬ (i < n/\(i : Int) = a) := by omega
  simp [this]
theorem qaB {n i : Nat} : ∀ {l : List Int} {m : Nat}, (addL n m l).testBit i = (m.testBit i || decide (i < n/\(i : Int) ∈ l))
 | [], m => by simp [addL]
 | a :: r, m => by
   have e : addL n m (a :: r) = addL n (add1 n m a) r := rfl
   rw [e, qaB (l := r), ztC, Bool.or_assoc]
   congr 1
   rw [<- Bool.decide_or]
   apply decide_eq_decide.2
   rw [List.mem_cons]
   constructor
   ·rintro (⟨h1, h2⟩ | ⟨h1, h2⟩)
    ·exact ⟨h1, .inl h2⟩
    ·exact ⟨h1, .inr h2⟩
   ·rintro ⟨h1, h2 | h2⟩
    ·exact .inl ⟨h1, h2⟩
    ·exact .inr ⟨h1, h2⟩
theorem listN_mem {n m : Nat} {a : Int} : a ∈ zcJ (n, m) ↔ 0 <= a/\a < (n : Int)/\m.testBit a.toNat = true := by
 rw [zcJ, List.mem_map]
 constructor
 ·rintro ⟨i, hi, rfl⟩
  obtain ⟨h1, h2⟩ := zvW.1 hi
  exact ⟨by omega, by simp only at h1; omega, h2⟩
 ·rintro ⟨h1, h2, h3⟩
  exact ⟨a.toNat, zvW.2 ⟨by simp only; omega, h3⟩, by omega⟩

theorem zo7 {n m : Nat} {a : Int} {i : Nat} : (drop1 n m a).testBit i = (m.testBit i && !decide (i < n/\(i : Int) = a)) := by
 unfold drop1 inB
 by_cases h : 0 <= a/\a < (n : Int)
 ·rw [if_pos (decide_eq_true h), zj5]
  have : (a.toNat = i) ↔ (i < n/\(i : Int) = a) := by omega
  simp only [this]
 ·rw [if_neg (by rw [decide_eq_false h]; simp)]
  have : ¬ (i < n/\(i : Int) = a) := by omega
  simp [this]
theorem zqS {s : Nat × Nat} (h : SetW s) : Ints (zcJ s) := by
 have h1 := h.1
 refine ⟨fun x hx => ?_, ?_⟩
 ·have := (listN_mem (n := s.1) (m := s.2)).1 hx
  unfold I64; omega
 ·have := zk6 s.1 s.2
  rw [zcJ, List.length_map]; omega
def zgQ (s t : Nat × Nat) : Nat × Nat := (s.1, addL s.1 s.2 (zcJ t))
def zy4 (g : Nat × Nat->Nat × Nat->Nat × Nat) : Ctr where
 X := (Nat × Nat) × (Nat × Nat)
 Y := Unit
 conv := true
 tau := tau2
 pre := fun x => SetW x.1/\SetW x.2
 args := fun _ => [.ptr 0 [] 0, .ptr 1 [] 0]
 heap := fun x => [setI x.1, setI x.2]
 Q := fun _ _ => True
 res := fun x _ => .ptr 3 [] 0
 its := fun x _ => [setI x.1, setI x.2]
 new := fun x _ => [setI (g x.1 x.2)]
theorem zwN (g : Nat × Nat->Nat × Nat->Nat × Nat) : CtrOk (zy4 g) :=
 ⟨fun _ _ _ _ => (rfl : 2 = 2), fun _ _ _ _ => ⟨rfl, rfl⟩, fun x _ _ _ _ => ⟨⟨⟨trivial, trivial, trivial⟩, ⟨trivial, trivial⟩⟩, rfl⟩⟩
def zt6 (g : Nat × Nat->Nat × Nat->Nat × Nat) : Ctr where
 X := Nat × Nat
 Y := Unit
 conv := true
 tau := zg2
 pre := SetW
 args := fun _ => [.ptr 0 [] 0, .ptr 0 [] 0]
 heap := fun x => [setI x]
 Q := fun _ _ => True
 res := fun x _ => .ptr 2 [] 0
 its := fun x _ => [setI x]
 new := fun x _ => [setI (g x x)]
theorem zt5 (g : Nat × Nat->Nat × Nat->Nat × Nat) : CtrOk (zt6 g) :=
 ⟨fun _ _ _ _ => (rfl : 1 = 1), fun _ _ _ _ => ⟨rfl, rfl⟩, fun x _ _ _ _ => ⟨⟨⟨trivial, trivial⟩, ⟨trivial, trivial⟩⟩, rfl⟩⟩
def zkE : Ctr := zy4 zgQ
def zhD : Ctr := zt6 zgQ
theorem qi4 : (
 let q1 : Prop := true = true/\zaC/\(0 : Nat) = 0;
 let q2 : Prop := q1/\True; ∀ (x : (Nat × Nat) × Nat × Nat), SetW x.1/\SetW x.2->Exx (Nat × Nat) fun x_1 => (q2/\true = true/\setB x.1 = setB x_1/\True)/\SetW x_1/\∀ (y : Unit), True->Exx (Nat × Nat) fun x_2 => (q2/\true = true/\setB x.2 = setB x_2/\True)/\SetW x_2/\∀ (y : Nat), (zcJ x_2).length <= y->Exx ((Nat × Nat) × List Int) fun x_3 => ((q1/\(0 + (zcJ x_2).length <= (zcJ x_2).length/\(zcJ x_2).length = x_3.2.length/\∀ (i : Nat), i < x_3.2.length->[AV.int .i64 ((zcJ x_2).getD (0 + i) 0)] = [AV.int .i64 (x_3.2.getD i 0)])/\True)/\true = true/\setB x_1 = setB x_3.1/\True)/\(SetW x_3.1/\Ints x_3.2)/\∀ (y : Unit), True->Exx Unit fun y => (q2/\setB x_1 = setB x.1/\setB x_2 = setB x.2/\true = true/\setB (x_3.1.1, addL x_3.1.1 x_3.1.2 x_3.2) = setB (zgQ x.1 x.2)/\True)/\True) = (fnVC tb [(112, zcQ (zaA zjP) (zaA zgM)), (178, zaA zf3), (179, zaA zkF)] Tryz.f140 zkE (fun _ => { loose := [(2, [0, 1, 3])] }) (fun _ => none)) := by kernel_rfl

theorem zlM : SpecOk Tryz.prog 140 (zaA zkE) := by
 refine zaJ mixed zaL (SPok.cons (zbA zhF zf4) (SPok.cons zn3 (SPok.cons zqA SPok.nil))) Tryz.func140 (by decide) (zwN _) (Eq.mp qi4 ?_)
 simp (maxSteps := 10000000) only [std, stdU, stdV, Exx, I64, Nat.reduceMul, Nat.reduceDiv, Nat.reduceAdd, Int.reduceToNat, zcS, zb3, zaX]
 exact fun _ _ _ _ h => ⟨h.1, h.2, fun _ _ => ⟨h.1, zqS h.2, rfl⟩⟩

theorem qdU : (
 let q1 : Prop := true = true/\zaC/\(0 : Nat) = 0;
 let q2 : Prop := q1/\True; ∀ (x : Nat × Nat), SetW x->Exx (Nat × Nat) fun x_1 => (q2/\true = true/\setB x = setB x_1/\True)/\SetW x_1/\∀ (y : Unit), True->Exx (Nat × Nat) fun x_2 => (q2/\true = true/\setB x_1 = setB x_2/\True)/\SetW x_2/\∀ (y : Nat), (zcJ x_2).length <= y->Exx ((Nat × Nat) × List Int) fun x_3 => ((q1/\(0 + (zcJ x_2).length <= (zcJ x_2).length/\(zcJ x_2).length = x_3.2.length/\∀ (i : Nat), i < x_3.2.length->[AV.int .i64 ((zcJ x_2).getD (0 + i) 0)] = [AV.int .i64 (x_3.2.getD i 0)])/\True)/\true = true/\setB x_1 = setB x_3.1/\True)/\(SetW x_3.1/\Ints x_3.2)/\∀ (y : Unit), True->Exx Unit fun y => (q2/\setB x_2 = setB x/\true = true/\setB (x_3.1.1, addL x_3.1.1 x_3.1.2 x_3.2) = setB (zgQ x x)/\True)/\True) = (fnVC tb [(112, zcQ (zaA zjP) (zaA zgM)), (178, zaA zf3), (179, zaA zkF)] Tryz.f140 zhD (fun _ => { loose := [(2, [0, 2])] }) (fun _ => none)) := by kernel_rfl

theorem zjO : SpecOk Tryz.prog 140 (zaA zhD) := by
 refine zaJ mixed zaL (SPok.cons (zbA zhF zf4) (SPok.cons zn3 (SPok.cons zqA SPok.nil))) Tryz.func140 (by decide) (zt5 _) (Eq.mp qdU ?_)
 simp (maxSteps := 10000000) only [std, stdU, stdV, Exx, I64, Nat.reduceMul, Nat.reduceDiv, Nat.reduceAdd, Int.reduceToNat, zcS, zb3, zaX]
 exact fun _ _ h => ⟨h, h, fun _ _ => ⟨h, zqS h, rfl⟩⟩


structure AllocT where
 n : Nat
 r : Int
 c : Nat
 e : Nat
 m : Nat
 w : Nat
def za9 (x : AllocT) : Prop := x.n <= 3072/\I64 x.r/\x.c < 2 ^ x.n/\x.e < 2 ^ x.n/\x.m < 2 ^ x.n/\x.w < 2 ^ x.n
abbrev zi7 (x : AllocT) : AH := [.cells 160 [i64 x.r, .ptr 1 [] 0, .ptr 2 [] 0, .ptr 3 [] 0, .ptr 4 [] 0], setI (x.n, x.c), setI (x.n, x.e), setI (x.n, x.m), setI (x.n, x.w)]
abbrev zbW (x : AllocT) : Opn := { tag := [[(x.n : Int)], [x.r], [(x.c : Int)], [(x.e : Int)], [(x.m : Int)], [(x.w : Int)]], G := Unit, fam := fun _ => zi7 x, pl := fun _ => ⟨⟨rfl, rfl, rfl, rfl, rfl, trivial⟩, trivial, trivial, trivial, trivial, trivial⟩, nf := fun _ => rfl, root := fun _ => rfl }
def zaB (x : AllocT) : Ob := (zbW x).ob
abbrev zfO (x : AllocT) : Sx.Item := .obj (zaB x)
theorem zaH {s t : AllocT} : (zaB s = zaB t) ↔ s = t := by
 constructor
 ·intro h
  have := congrArg Ob.tag h
  simp only [zaB, Opn.ob, List.cons.injEq, and_true] at this
  obtain ⟨h1, h2, h3, h4, h5, h6⟩ := this
  cases s; cases t
  simp only at *
  rw [Int.ofNat_inj.1 h1, h2, Int.ofNat_inj.1 h3, Int.ofNat_inj.1 h4, Int.ofNat_inj.1 h5, Int.ofNat_inj.1 h6]
 ·intro h; rw [h]
theorem zdG {s t : AllocT} : (zaB s = (zbW t).ob) ↔ s = t := zaH
theorem zc0 {s t : AllocT} : ((zbW s).ob = zaB t) ↔ s = t := zaH

theorem addL_or {n a b : Nat} (h : b < 2 ^ n) : addL n a (zcJ (n, b)) = a ||| b := by
 apply Nat.eq_of_testBit_eq
 intro i
 rw [qaB, Nat.testBit_or]
 congr 1
 by_cases hi : i < n
 ·rw [Bool.eq_iff_iff, decide_eq_true_eq, listN_mem, Int.toNat_natCast]
  exact ⟨fun h => h.2.2.2, fun h => ⟨hi, by omega, by omega, h⟩⟩
 ·rw [Nat.testBit_lt_two_pow (Nat.lt_of_lt_of_le h (Nat.pow_le_pow_right (by decide) (by omega)))]
  exact decide_eq_false fun k => hi k.1
theorem zgP {n a b : Nat} (h : b < 2 ^ n) : zgQ (n, a) (n, b) = (n, a ||| b) := by rw [zgQ, addL_or h]

def clIf (p : Nat) (H : AH) (l : List (Nat × List Nat × Opn)) : List (Nat × List Nat × Opn) := match H[p]? with
 | some (.obj _) => []
 | _ => l
def zh8 : Ctr := zf3

theorem copiedV : (
 let q1 : Prop := true = true/\zaC/\(0 : Nat) = 0;
 let q2 : Prop := q1/\True; ∀ (x : Nat × Nat), SetW x->Exx (Nat × Nat) fun x_1 => ((q1/\q2)/\true = true/\setB x = setB x_1/\True)/\SetW x_1/\∀ (y : Unit), True->Exx Unit fun y => (q2/\setB x_1 = setB x/\true = true/\setB (zgQ x_1 x_1) = setB x/\True)/\True) = (fnVC tb [(140, zt3 (zaA zhD) (zaA zkE))] Tryz.f98 zh8 (fun _ => {}) (fun _ => none)) := by kernel_rfl

theorem zgI : SpecOk Tryz.prog 98 (zaA zh8) := by
 refine zaJ mixed zaL (SPok.cons (znW zjO zlM) SPok.nil) Tryz.func98 (by decide) zmK (Eq.mp copiedV ?_)
 simp (maxSteps := 10000000) only [std, stdU, stdV, Exx, I64, Nat.reduceMul, Nat.reduceDiv, Nat.reduceAdd, Int.reduceToNat, zaX]
 rintro n m h
 exact ⟨h, by rw [zgP h.2, Nat.or_self]⟩

theorem qgG {s : Nat × Nat} (h : s.1 <= 3072) : ∀ k a : Nat, -1 <= gapF s k a/\gapF s k a <= 3072
 | 0, _ => ⟨by simp [gapF], by simp [gapF]⟩
 | k + 1, a => by
   rw [gapF]
   have := qgG h k (a + 1)
   split
   ·split
    ·exact this
    ·omega
   ·omega
theorem zsP {s : Nat × Nat} (h : SetW s) (a : Int) : I64 (gapN s a) := by
 have := qgG h.1 (s.1 + 1) a.toNat
 unfold gapN; exact ⟨by omega, by omega⟩
theorem or_lt2 {n a b : Nat} (ha : a < 2 ^ n) (hb : b < 2 ^ n) : a ||| b < 2 ^ n := Nat.or_lt_two_pow ha hb
def zbC (x : AllocT) : Nat := x.w ||| x.c ||| x.e ||| x.m
def zv3 (Y : Type) (pre : AllocT × Y->Prop) (args : AllocT × Y->List AV) (res : AllocT × Y->AV) : Ctr where
 X := AllocT × Y
 Y := Unit
 conv := true
 tau := zg2
 pre := fun x => za9 x.1/\pre x
 args := fun x => .ptr 0 [] 0 :: args x
 heap := fun x => [zfO x.1]
 Q := fun _ _ => True
 res := fun x _ => res x
 its := fun x _ => [zfO x.1]
 new := fun _ _ => []
theorem zv2 {Y : Type} {pre : AllocT × Y->Prop} {args : AllocT × Y->List AV} {res : AllocT × Y->AV} (h : ∀ x, plV 2 (res x)) : CtrOk (zv3 Y pre args res) :=
 ⟨fun _ _ _ _ => rfl, fun _ _ _ _ => ⟨rfl, rfl⟩, fun x _ _ _ _ => ⟨⟨⟨trivial, trivial⟩, trivial⟩, h x⟩⟩
def zk7 (Y : Type) (pre : AllocT × Y->Prop) (args : AllocT × Y->List AV) (g : AllocT × Y->AllocT) (res : AllocT × Y->AV) : Ctr where
 X := AllocT × Y
 Y := Unit
 conv := true
 tau := zg2
 pre := fun x => za9 x.1/\pre x
 args := fun x => .ptr 0 [] 0 :: args x
 heap := fun x => [zfO x.1]
 Q := fun _ _ => True
 res := fun x _ => res x
 its := fun x _ => [zfO (g x)]
 new := fun _ _ => []
theorem ziA {Y : Type} {pre : AllocT × Y->Prop} {args : AllocT × Y->List AV} {g : AllocT × Y->AllocT} {res : AllocT × Y->AV} (h : ∀ x, plV 2 (res x)) : CtrOk (zk7 Y pre args g res) :=
 ⟨fun _ _ _ _ => (rfl : 1 = 1), fun _ _ _ _ => ⟨rfl, rfl⟩, fun x _ _ _ _ => ⟨⟨⟨trivial, trivial⟩, trivial⟩, h x⟩⟩
def zmC (g : AllocT->Nat × Nat) : Ctr where
 X := AllocT
 Y := Unit
 conv := true
 tau := zg2
 pre := za9
 args := fun _ => [.ptr 0 [] 0]
 heap := fun x => [zfO x]
 Q := fun _ _ => True
 res := fun _ _ => .ptr 2 [] 0
 its := fun x _ => [zfO x]
 new := fun x _ => [setI (g x)]
theorem zk8 (g : AllocT->Nat × Nat) : CtrOk (zmC g) :=
 ⟨fun _ _ _ _ => (rfl : 1 = 1), fun _ _ _ _ => ⟨rfl, rfl⟩, fun x _ _ _ _ => ⟨⟨⟨trivial, trivial⟩, ⟨trivial, trivial⟩⟩, rfl⟩⟩
def qlJ (av : AV) : Option Ren := match av with
 | .ptr q _ _ => some [some 0, some 1, some q]
 | _ => none
def qkE : Ctr := zmC fun x => (x.n, zbC x)

theorem heldV : (
 let q1 : Prop := true = true/\zaC/\(0 : Nat) = 0;
 let q2 : Prop := q1/\True;
 let q3 : Int := (↑(Int.toNat 3 - 0) : Int);
 let q4 : Prop := q1/\q2;
 let q5 : Int := 0 + 1;
 let q6 : Int := q5 + 1; ∀ (x : AllocT), za9 x->zaB x = (zbW x).ob/\∀ (g : Unit), ((0 : Int) <= (3 : Int)/\(3 : Int) < (↑(4 : Nat) : Int))/\Exx (Nat × Nat) fun x_1 => (q2/\true = true/\setB (x.n, x.w) = setB x_1/\True)/\SetW x_1/\∀ (y : Unit), True->(0 : Int) <= (3 : Int)/\((0 : Nat) <= (3 : Int).toNat/\(3 : Int).toNat <= (4 : Nat))/\((0 : Int) <= (0 : Int)/\(0 : Int) < q3)/\Exx ((Nat × Nat) × Nat × Nat) fun x_2 => (q4/\true = true/\setB x_1 = setB x_2.1/\setB (x.n, x.c) = setB x_2.2/\True)/\(SetW x_2.1/\SetW x_2.2)/\∀ (y : Unit), True->I64 q5/\((0 : Int) <= q5/\q5 < q3)/\Exx ((Nat × Nat) × Nat × Nat) fun x_3 => (q4/\true = true/\setB (zgQ x_2.1 x_2.2) = setB x_3.1/\setB (x.n, x.e) = setB x_3.2/\True)/\(SetW x_3.1/\SetW x_3.2)/\∀ (y : Unit), True->I64 q6/\((0 : Int) <= q6/\q6 < q3)/\Exx ((Nat × Nat) × Nat × Nat) fun x_4 => (q4/\true = true/\setB (zgQ x_3.1 x_3.2) = setB x_4.1/\setB (x.n, x.m) = setB x_4.2/\True)/\(SetW x_4.1/\SetW x_4.2)/\∀ (y : Unit), True->I64 (q6 + 1)/\Exx Unit fun y => Exx Unit fun g => Tr 1 (((160 : TypeId) = 160/\Tr 1 (x.r = x.r)/\q1/\q1/\q4)/\setB x_2.2 = setB (x.n, x.c)/\setB x_3.2 = setB (x.n, x.e)/\setB x_4.2 = setB (x.n, x.m)/\setB x_1 = setB (x.n, x.w)/\True)/\(q2/\(zbW x).ob = zaB x/\true = true/\setB (zgQ x_4.1 x_4.2) = setB (x.n, zbC x)/\True)/\True) = (zcO tb [(98, zaA zh8), (140, zt3 (zaA zhD) (zaA zkE))] Tryz.f114 qkE (fun x => { unroll := [(3, 4)] }) (fun _ av _ => qlJ av) (fun x => [(0, zbW x)]) (fun x y av H => [(0, [2, 3, 4, 5], zbW x)])) := by kernel_rfl

theorem qgA : SpecOk Tryz.prog 114 (zaA qkE) := by
 refine za0 mixed zaL (SPok.cons zgI (SPok.cons (znW zjO zlM) SPok.nil)) Tryz.func114 (by decide) (zk8 _) (Eq.mp heldV ?_)
 simp (maxSteps := 10000000) only [std, stdU, stdV, Exx, I64, Nat.reduceMul, Nat.reduceDiv, Nat.reduceAdd, Int.reduceToNat, zaX, zdG, zc0, zaH]
 rintro x ⟨h1, h2, h3, h4, h5, h6⟩
 have e1 : zgQ (x.n, x.w) (x.n, x.c) = (x.n, x.w ||| x.c) := zgP h3
 have e2 : zgQ (x.n, x.w ||| x.c) (x.n, x.e) = (x.n, x.w ||| x.c ||| x.e) := zgP h4
 have e3 : zgQ (x.n, x.w ||| x.c ||| x.e) (x.n, x.m) = (x.n, zbC x) := zgP h5
 rw [e1, e2, e3]
 repeat refine And.intro (by first | omega | exact ⟨h1, h6⟩ | exact ⟨h1, h3⟩ | exact ⟨h1, h4⟩ | exact ⟨h1, h5⟩ | exact ⟨h1, or_lt2 h6 h3⟩ | exact ⟨h1, or_lt2 (or_lt2 h6 h3) h4⟩) ?_
 rfl

def zv0 (args : List AV) (H : AH) : List Nat := match args with
 | .ptr p _ _ :: _ => match H[p]? with
   | some (.cells _ (_ :: .ptr a _ _ :: .ptr b _ _ :: .ptr c _ _ :: .ptr d _ _ :: _)) => [p, a, b, c, d]
   | _ => [p]
 | _ => []
theorem qhO (x : AllocT) : plH (zi7 x) := ⟨⟨rfl, rfl, rfl, rfl, rfl, trivial⟩, trivial, trivial, trivial, trivial, trivial⟩
def zu7 : Ctr where
 X := AllocT
 Y := Unit
 conv := true
 tau := zv0
 pre := za9
 args := fun _ => [.ptr 0 [] 0]
 heap := zi7
 Q := fun _ _ => True
 res := fun _ _ => .ptr 6 [] 0
 its := fun x _ => zi7 x
 new := fun x _ => [setI (x.n, zbC x)]
theorem qgB : CtrOk zu7 :=
 ⟨fun _ _ _ _ => (rfl : 5 = 5), fun _ _ _ _ => ⟨rfl, rfl⟩, fun x _ _ _ _ => ⟨⟨qhO x, ⟨trivial, trivial⟩⟩, rfl⟩⟩
def ptrRen5 (av : AV) : Option Ren := match av with
 | .ptr q _ _ => some [some 0, some 1, some 2, some 3, some 4, some 5, some q]
 | _ => none

theorem heldOV : (
 let q1 : Prop := true = true/\zaC/\(0 : Nat) = 0;
 let q2 : Prop := q1/\True;
 let q3 : Int := (↑(Int.toNat 3 - 0) : Int);
 let q4 : Prop := q1/\q2;
 let q5 : Int := 0 + 1;
 let q6 : Int := q5 + 1; ∀ (x : AllocT), za9 x->((0 : Int) <= (3 : Int)/\(3 : Int) < (↑(4 : Nat) : Int))/\Exx (Nat × Nat) fun x_1 => (q2/\true = true/\setB (x.n, x.w) = setB x_1/\True)/\SetW x_1/\∀ (y : Unit), True->(0 : Int) <= (3 : Int)/\((0 : Nat) <= (3 : Int).toNat/\(3 : Int).toNat <= (4 : Nat))/\((0 : Int) <= (0 : Int)/\(0 : Int) < q3)/\Exx ((Nat × Nat) × Nat × Nat) fun x_2 => (q4/\true = true/\setB x_1 = setB x_2.1/\setB (x.n, x.c) = setB x_2.2/\True)/\(SetW x_2.1/\SetW x_2.2)/\∀ (y : Unit), True->I64 q5/\((0 : Int) <= q5/\q5 < q3)/\Exx ((Nat × Nat) × Nat × Nat) fun x_3 => (q4/\true = true/\setB (zgQ x_2.1 x_2.2) = setB x_3.1/\setB (x.n, x.e) = setB x_3.2/\True)/\(SetW x_3.1/\SetW x_3.2)/\∀ (y : Unit), True->I64 q6/\((0 : Int) <= q6/\q6 < q3)/\Exx ((Nat × Nat) × Nat × Nat) fun x_4 => (q4/\true = true/\setB (zgQ x_3.1 x_3.2) = setB x_4.1/\setB (x.n, x.m) = setB x_4.2/\True)/\(SetW x_4.1/\SetW x_4.2)/\∀ (y : Unit), True->I64 (q6 + 1)/\Exx Unit fun y => (q2/\((160 : TypeId) = 160/\Tr 1 (x.r = x.r)/\q1/\q1/\q4)/\setB x_2.2 = setB (x.n, x.c)/\setB x_3.2 = setB (x.n, x.e)/\setB x_4.2 = setB (x.n, x.m)/\setB x_1 = setB (x.n, x.w)/\true = true/\setB (zgQ x_4.1 x_4.2) = setB (x.n, zbC x)/\True)/\True) = (zcO tb [(98, zaA zh8), (140, zt3 (zaA zhD) (zaA zkE))] Tryz.f114 zu7 (fun x => { unroll := [(3, 4)] }) (fun _ av _ => ptrRen5 av) (fun _ => []) (fun _ _ _ _ => [])) := by kernel_rfl

theorem zzR : SpecOk Tryz.prog 114 (zaA zu7) := by
 refine za0 mixed zaL (SPok.cons zgI (SPok.cons (znW zjO zlM) SPok.nil)) Tryz.func114 (by decide) qgB (Eq.mp heldOV ?_)
 simp (maxSteps := 10000000) only [std, stdU, stdV, Exx, I64, Nat.reduceMul, Nat.reduceDiv, Nat.reduceAdd, Int.reduceToNat, zaX]
 rintro x ⟨h1, h2, h3, h4, h5, h6⟩
 have e1 : zgQ (x.n, x.w) (x.n, x.c) = (x.n, x.w ||| x.c) := zgP h3
 have e2 : zgQ (x.n, x.w ||| x.c) (x.n, x.e) = (x.n, x.w ||| x.c ||| x.e) := zgP h4
 have e3 : zgQ (x.n, x.w ||| x.c ||| x.e) (x.n, x.m) = (x.n, zbC x) := zgP h5
 rw [e1, e2, e3]
 repeat refine And.intro (by first | omega | exact ⟨h1, h6⟩ | exact ⟨h1, h3⟩ | exact ⟨h1, h4⟩ | exact ⟨h1, h5⟩ | exact ⟨h1, or_lt2 h6 h3⟩ | exact ⟨h1, or_lt2 (or_lt2 h6 h3) h4⟩) ?_
 rfl

def zyV : Ctr := zmC fun x => (x.n, x.w)

theorem worksV : (
 let q1 : Prop := true = true/\zaC/\(0 : Nat) = 0;
 let q2 : Prop := q1/\True; ∀ (x : AllocT), za9 x->zaB x = (zbW x).ob/\∀ (g : Unit), ((0 : Int) <= (3 : Int)/\(3 : Int) < (↑(4 : Nat) : Int))/\Exx (Nat × Nat) fun x_1 => (q2/\true = true/\setB (x.n, x.w) = setB x_1/\True)/\SetW x_1/\∀ (y : Unit), True->Exx Unit fun y => Exx Unit fun g => Tr 1 (((160 : TypeId) = 160/\Tr 1 (x.r = x.r)/\q1/\q1/\q1/\q2)/\setB (x.n, x.c) = setB (x.n, x.c)/\setB (x.n, x.e) = setB (x.n, x.e)/\setB (x.n, x.m) = setB (x.n, x.m)/\setB x_1 = setB (x.n, x.w)/\True)/\(q2/\(zbW x).ob = zaB x/\true = true/\setB x_1 = setB (x.n, x.w)/\True)/\True) = (zcO tb [(98, zaA zh8)] Tryz.f60 zyV (fun _ => {}) (fun _ av _ => qlJ av) (fun x => [(0, zbW x)]) (fun x y av H => [(0, [2, 3, 4, 5], zbW x)])) := by kernel_rfl

theorem zyU : SpecOk Tryz.prog 60 (zaA zyV) := by
 refine za0 mixed zaL (SPok.cons zgI SPok.nil) Tryz.func60 (by decide) (zk8 _) (Eq.mp worksV ?_)
 simp (maxSteps := 10000000) only [std, stdU, stdV, Exx, I64, Nat.reduceMul, Nat.reduceDiv, Nat.reduceAdd, Int.reduceToNat, zaX, zdG, zc0, zaH]
 exact fun x h => ⟨by omega, by omega, h.1, h.2.2.2.2.2⟩

theorem zxT {x : AllocT} (h : za9 x) : zbC x < 2 ^ x.n := by
 obtain ⟨_, _, h3, h4, h5, h6⟩ := h
 exact or_lt2 (or_lt2 (or_lt2 h6 h3) h4) h5
def freeN (x : AllocT) : Int := (x.n : Int) - ((za4 x.n (zbC x)).length : Nat)
theorem zzW {x : AllocT} (h : za9 x) : 0 <= freeN x/\freeN x <= 3072 := by
 have := zk6 x.n (zbC x)
 have := h.1
 unfold freeN; omega
def zdQ (x : AllocT) (r : Int) : Int := if freeN x <= r then 0 else gapN (x.n, zbC x) 0
def zbX (x : AllocT) (r : Int) : Int := if freeN x <= r then 10 else 0
def zaV (x : AllocT) (r : Int) : AllocT := if freeN x <= r then x else { x with w := add1 x.n x.w (gapN (x.n, zbC x) 0) }
def qdE : Ctr := zk7 Int (fun x => I64 x.2) (fun x => [i64 x.2]) (fun x => zaV x.1 x.2) (fun x => .tup [i64 (zdQ x.1 x.2), i64 (zbX x.1 x.2)])

theorem takeRV : (
 let q1 : Prop := true = true/\zaC/\(0 : Nat) = 0;
 let q2 : Prop := q1/\True;
 let q3 : Nat := (TI.mk (TK.int IntKind.i64) 1 8 (ZL.cons (Value.int IntKind.i64 0) ZL.nil) false).size; ∀ (x : AllocT × Int), za9 x.1/\I64 x.2->Exx AllocT fun x_1 => (q2/\true = true/\zaB x.1 = zaB x_1/\True)/\za9 x_1/\∀ (y : Unit), True->Exx ((Nat × Nat) × Unit) fun x_2 => (q2/\true = true/\setB (x_1.n, zbC x_1) = setB x_2.1/\True)/\(SetW x_2.1/\True)/\∀ (y : Unit), True->Exx ((Nat × Nat) × Unit) fun x_3 =>
 let q4 : Int := (x_2.1.1 : Int) - (↑(za4 x_3.1.1 x_3.1.2).length : Int); (q2/\true = true/\setB x_2.1 = setB x_3.1/\True)/\(SetW x_3.1/\True)/\∀ (y : Unit), True->I64 q4/\BC (decide (q4 <= x.2)) (Exx Unit fun y => (((Tr 1 ((0 : Int) = zdQ x.1 x.2)/\Tr 1 ((10 : Int) = zbX x.1 x.2)/\True)/\True)/\zaB x_1 = zaB (zaV x.1 x.2)/\true = true/\True)/\True) (Exx ((Nat × Nat) × Int) fun x_4 => ((q1/\Tr 1 ((0 : Int) = x_4.2)/\True)/\true = true/\setB x_3.1 = setB x_4.1/\True)/\(SetW x_4.1/\I64 x_4.2)/\∀ (y : Unit), True->Exx AllocT fun y => zaB x_1 = (zbW y).ob/\∀ (g : Unit), ((0 : Int) <= (3 : Int)/\(3 : Int) < (↑(4 : Nat) : Int))/\Exx ((Nat × Nat) × List Int) fun x_5 => ((q1/\((0 : Nat) + (1 : Nat) <= (1 : Nat)/\1 = x_5.2.length/\∀ (i : Nat),
 let q5 : Nat := 0 + i; i < x_5.2.length->[AV.int .i64 (if q5 = 0 * 1 / 1 then gapN x_4.1 x_4.2 else 0)] = [AV.int .i64 (x_5.2.getD i 0)])/\True)/\true = true/\setB (y.n, y.w) = setB x_5.1/\True)/\(SetW x_5.1/\Ints x_5.2)/\∀ (y_1 : Unit), True->Exx Unit fun y_2 => Exx Unit fun g => Tr 1 (((160 : TypeId) = 160/\Tr 1 (y.r = (zaV x.1 x.2).r)/\q1/\q1/\q1/\q2)/\setB (y.n, y.c) = setB ((zaV x.1 x.2).n, (zaV x.1 x.2).c)/\setB (y.n, y.e) = setB ((zaV x.1 x.2).n, (zaV x.1 x.2).e)/\setB (y.n, y.m) = setB ((zaV x.1 x.2).n, (zaV x.1 x.2).m)/\setB (x_5.1.1, addL x_5.1.1 x_5.1.2 x_5.2) = setB ((zaV x.1 x.2).n, (zaV x.1 x.2).w)/\True)/\(((Tr 1 (gapN x_4.1 x_4.2 = zdQ x.1 x.2)/\Tr 1 ((0 : Int) = zbX x.1 x.2)/\True)/\True)/\(zbW (zaV x.1 x.2)).ob = zaB (zaV x.1 x.2)/\true = true/\True)/\True)) = (zcO tb [(61, zaA zkH), (111, zaA zfK), (112, zcQ (zaA zjP) (zaA zgM)), (114, zcQ (zaA qkE) (zaA zu7)), (115, zaA zrO)] Tryz.f80 qdE (fun x => { opensE := [(5, [{ p := 0, Y := AllocT, o := zbW }])] }) (fun _ _ _ => none) (fun _ => []) (fun x y av H => clIf 0 H [(0, [3, 4, 5, 6], zbW (zaV x.1 x.2))])) := by kernel_rfl

theorem qiV : SpecOk Tryz.prog 80 (zaA qdE) := by
 refine za0 mixed zaL (SPok.cons zn2 (SPok.cons zeV (SPok.cons (zbA zhF zf4) (SPok.cons (zbA qgA zzR) (SPok.cons zt7 SPok.nil))))) Tryz.func80 (by decide) (ziA fun _ => ⟨rfl, rfl, trivial⟩) (Eq.mp takeRV ?_)
 simp (maxSteps := 10000000) only [std, stdU, stdV, Exx, I64, Nat.reduceMul, Nat.reduceDiv, Nat.reduceAdd, Int.reduceToNat, zaX, zdG, zc0, zaH]
 rintro x r ⟨h, h1, h2⟩
 have hb := zzW h
 have hs : SetW (x.n, zbC x) := ⟨h.1, zxT h⟩
 have e : (x.n : Int) - ((za4 x.n (zbC x)).length : Nat) = freeN x := rfl
 rw [e]
 refine ⟨h, hs, hs, by omega, by omega, fun hle => ⟨by rw [zdQ, if_pos hle], by rw [zbX, if_pos hle], by rw [zaV, if_pos hle]⟩, fun hgt => ?_⟩
 rw [zaV, if_neg hgt, zdQ, if_neg hgt, zbX, if_neg hgt]
 have hg := zsP hs 0
 refine ⟨hs, by omega, by omega, by omega, by omega, x.n, x.w, [gapN (x.n, zbC x) 0], rfl, fun i hi => ?_, rfl, rfl, ⟨h.1, h.2.2.2.2.2⟩, ⟨fun y hy => ?_, by simp⟩, rfl, rfl, rfl, rfl, rfl, rfl, rfl, rfl, rfl, rfl, rfl⟩
 ·have : i = 0 := by simpa using hi
  subst this; rfl
 ·have : y = gapN (x.n, zbC x) 0 := by simpa using hy
  rw [this]; exact hg

def zrI : Ctr where
 X := AllocT × Int
 Y := Unit
 conv := true
 tau := zv0
 pre := fun x => za9 x.1/\I64 x.2
 args := fun x => [.ptr 0 [] 0, i64 x.2]
 heap := fun x => zi7 x.1
 Q := fun _ _ => True
 res := fun x _ => .tup [i64 (zdQ x.1 x.2), i64 (zbX x.1 x.2)]
 its := fun x _ => zi7 (zaV x.1 x.2)
 new := fun x _ => []
theorem qdF : CtrOk zrI :=
 ⟨fun _ _ _ _ => (rfl : 5 = 5), fun _ _ _ _ => ⟨rfl, rfl⟩, fun x _ _ _ _ => ⟨⟨qhO _, trivial⟩, ⟨rfl, rfl, trivial⟩⟩⟩

theorem takeROV : (
 let q1 : Prop := true = true/\zaC/\(0 : Nat) = 0;
 let q2 : Prop := q1/\True;
 let q3 : Prop := (160 : TypeId) = 160;
 let q4 : Prop := q1/\q1/\q1/\q2;
 let q5 : Nat := (TI.mk (TK.int IntKind.i64) 1 8 (ZL.cons (Value.int IntKind.i64 0) ZL.nil) false).size; ∀ (x : AllocT × Int),
 let q6 : Ob := setB ((zaV x.1 x.2).n, (zaV x.1 x.2).c);
 let q7 : Ob := setB ((zaV x.1 x.2).n, (zaV x.1 x.2).e);
 let q8 : Ob := setB ((zaV x.1 x.2).n, (zaV x.1 x.2).m);
 let q9 : Ob := setB ((zaV x.1 x.2).n, (zaV x.1 x.2).w); za9 x.1/\I64 x.2->Exx AllocT fun x_1 => (q2/\true = true/\(q3/\Tr 1 (x.1.r = x_1.r)/\q4)/\setB (x.1.n, x.1.c) = setB (x_1.n, x_1.c)/\setB (x.1.n, x.1.e) = setB (x_1.n, x_1.e)/\setB (x.1.n, x.1.m) = setB (x_1.n, x_1.m)/\setB (x.1.n, x.1.w) = setB (x_1.n, x_1.w)/\True)/\za9 x_1/\∀ (y : Unit), True->Exx ((Nat × Nat) × Unit) fun x_2 => (q2/\true = true/\setB (x_1.n, zbC x_1) = setB x_2.1/\True)/\(SetW x_2.1/\True)/\∀ (y : Unit), True->Exx ((Nat × Nat) × Unit) fun x_3 =>
 let q10 : Int := (x_2.1.1 : Int) - (↑(za4 x_3.1.1 x_3.1.2).length : Int); (q2/\true = true/\setB x_2.1 = setB x_3.1/\True)/\(SetW x_3.1/\True)/\∀ (y : Unit), True->I64 q10/\BC (decide (q10 <= x.2)) (Exx Unit fun y => (((Tr 1 ((0 : Int) = zdQ x.1 x.2)/\Tr 1 ((10 : Int) = zbX x.1 x.2)/\True)/\True)/\(q3/\Tr 1 (x_1.r = (zaV x.1 x.2).r)/\q4)/\setB (x_1.n, x_1.c) = q6/\setB (x_1.n, x_1.e) = q7/\setB (x_1.n, x_1.m) = q8/\setB (x_1.n, x_1.w) = q9/\true = true/\True)/\True) (Exx ((Nat × Nat) × Int) fun x_4 => ((q1/\Tr 1 ((0 : Int) = x_4.2)/\True)/\true = true/\setB x_3.1 = setB x_4.1/\True)/\(SetW x_4.1/\I64 x_4.2)/\∀ (y : Unit), True->((0 : Int) <= (3 : Int)/\(3 : Int) < (↑(4 : Nat) : Int))/\Exx ((Nat × Nat) × List Int) fun x_5 => ((q1/\((0 : Nat) + (1 : Nat) <= (1 : Nat)/\1 = x_5.2.length/\∀ (i : Nat),
 let q11 : Nat := 0 + i; i < x_5.2.length->[AV.int .i64 (if q11 = 0 * 1 / 1 then gapN x_4.1 x_4.2 else 0)] = [AV.int .i64 (x_5.2.getD i 0)])/\True)/\true = true/\setB (x_1.n, x_1.w) = setB x_5.1/\True)/\(SetW x_5.1/\Ints x_5.2)/\∀ (y : Unit), True->Exx Unit fun y => (((Tr 1 (gapN x_4.1 x_4.2 = zdQ x.1 x.2)/\Tr 1 ((0 : Int) = zbX x.1 x.2)/\True)/\True)/\(q3/\Tr 1 (x_1.r = (zaV x.1 x.2).r)/\q4)/\setB (x_1.n, x_1.c) = q6/\setB (x_1.n, x_1.e) = q7/\setB (x_1.n, x_1.m) = q8/\setB (x_5.1.1, addL x_5.1.1 x_5.1.2 x_5.2) = q9/\true = true/\True)/\True)) = (fnVC tb [(61, zaA zkH), (111, zaA zfK), (112, zcQ (zaA zjP) (zaA zgM)), (114, zcQ (zaA qkE) (zaA zu7)), (115, zaA zrO)] Tryz.f80 zrI (fun _ => {}) (fun _ => none)) := by kernel_rfl

theorem qdD : SpecOk Tryz.prog 80 (zaA zrI) := by
 refine zaJ mixed zaL (SPok.cons zn2 (SPok.cons zeV (SPok.cons (zbA zhF zf4) (SPok.cons (zbA qgA zzR) (SPok.cons zt7 SPok.nil))))) Tryz.func80 (by decide) qdF (Eq.mp takeROV ?_)
 simp (maxSteps := 10000000) only [std, stdU, stdV, Exx, I64, Nat.reduceMul, Nat.reduceDiv, Nat.reduceAdd, Int.reduceToNat, zaX]
 rintro x r ⟨h, h1, h2⟩
 have hb := zzW h
 have hs : SetW (x.n, zbC x) := ⟨h.1, zxT h⟩
 have e : (x.n : Int) - ((za4 x.n (zbC x)).length : Nat) = freeN x := rfl
 refine ⟨x, rfl, rfl, rfl, rfl, rfl, rfl, rfl, rfl, rfl, h, hs, hs, ?_⟩
 rw [e]
 refine ⟨by omega, by omega, fun hle => ?_, fun hgt => ?_⟩
 ·rw [zdQ, if_pos hle, zbX, if_pos hle, zaV, if_pos hle]
  exact ⟨rfl, rfl, rfl, rfl, rfl, rfl, rfl, rfl, rfl, rfl, rfl⟩
 rw [zaV, if_neg hgt, zdQ, if_neg hgt, zbX, if_neg hgt]
 have hg := zsP hs 0
 refine ⟨hs, by omega, by omega, by omega, by omega, x.n, x.w, [gapN (x.n, zbC x) 0], rfl, fun i hi => ?_, rfl, rfl, ⟨h.1, h.2.2.2.2.2⟩, ⟨fun y hy => ?_, by simp⟩, rfl, rfl, rfl, rfl, rfl, rfl, rfl, rfl, rfl, rfl, rfl⟩
 ·have : i = 0 := by simpa using hi
  subst this; rfl
 ·have : y = gapN (x.n, zbC x) 0 := by simpa using hy
  rw [this]; exact hg

def zmB : Ctr := zk7 Unit (fun _ => True) (fun _ => []) (fun x => zaV x.1 x.1.r) (fun x => .tup [i64 (zdQ x.1 x.1.r), i64 (zbX x.1 x.1.r)])
theorem qcC : (
 let q1 : Prop := true = true/\zaC/\(0 : Nat) = 0;
 let q2 : Prop := (160 : TypeId) = 160;
 let q3 : Prop := q1/\q1/\q1/\q1/\True; ∀ (x : AllocT × Unit), za9 x.1/\True->zaB x.1 = (zbW x.1).ob/\∀ (g : Unit), Exx (AllocT × Int) fun x_1 => ((q1/\Tr 1 (x.1.r = x_1.2)/\True)/\true = true/\(q2/\Tr 1 (x.1.r = x_1.1.r)/\q3)/\setB (x.1.n, x.1.c) = setB (x_1.1.n, x_1.1.c)/\setB (x.1.n, x.1.e) = setB (x_1.1.n, x_1.1.e)/\setB (x.1.n, x.1.m) = setB (x_1.1.n, x_1.1.m)/\setB (x.1.n, x.1.w) = setB (x_1.1.n, x_1.1.w)/\True)/\(za9 x_1.1/\I64 x_1.2)/\∀ (y : Unit), True->Exx Unit fun y => Exx Unit fun g => Tr 1 ((q2/\Tr 1 ((zaV x_1.1 x_1.2).r = (zaV x.1 x.1.r).r)/\q3)/\setB ((zaV x_1.1 x_1.2).n, (zaV x_1.1 x_1.2).c) = setB ((zaV x.1 x.1.r).n, (zaV x.1 x.1.r).c)/\setB ((zaV x_1.1 x_1.2).n, (zaV x_1.1 x_1.2).e) = setB ((zaV x.1 x.1.r).n, (zaV x.1 x.1.r).e)/\setB ((zaV x_1.1 x_1.2).n, (zaV x_1.1 x_1.2).m) = setB ((zaV x.1 x.1.r).n, (zaV x.1 x.1.r).m)/\setB ((zaV x_1.1 x_1.2).n, (zaV x_1.1 x_1.2).w) = setB ((zaV x.1 x.1.r).n, (zaV x.1 x.1.r).w)/\True)/\(((Tr 1 (zdQ x_1.1 x_1.2 = zdQ x.1 x.1.r)/\Tr 1 (zbX x_1.1 x_1.2 = zbX x.1 x.1.r)/\True)/\True)/\(zbW (zaV x.1 x.1.r)).ob = zaB (zaV x.1 x.1.r)/\true = true/\True)/\True) = (zcO tb [(80, zcQ (zaA qdE) (zaA zrI))] Tryz.f46 zmB (fun _ => {}) (fun _ _ _ => none) (fun x => [(0, zbW x.1)]) (fun x y av H => [(0, [2, 3, 4, 5], zbW (zaV x.1 x.1.r))])) := by kernel_rfl

theorem zv1 : SpecOk Tryz.prog 46 (zaA zmB) := by
 refine za0 mixed zaL (SPok.cons (zbA qiV qdD) SPok.nil) Tryz.func46 (by decide) (ziA fun _ => ⟨rfl, rfl, trivial⟩) (Eq.mp qcC ?_)
 simp (maxSteps := 10000000) only [std, stdU, stdV, Exx, I64, Nat.reduceMul, Nat.reduceDiv, Nat.reduceAdd, Int.reduceToNat, zaX, zdG, zc0, zaH]
 exact fun x h => ⟨x, rfl, rfl, rfl, rfl, rfl, rfl, rfl, rfl, rfl, h, h.2.1.1, h.2.1.2, rfl, rfl, rfl, rfl, rfl, rfl, rfl, rfl, rfl, rfl, rfl⟩

def zfW (x : AllocT) (a : Int) : AllocT := { x with w := drop1 x.n x.w a }
def zcC (x : AllocT) (a : Int) : Int := if hasN (x.n, x.w) a = true then 0 else 2
def zi6 : Ctr := zk7 Int (fun x => I64 x.2) (fun x => [i64 x.2]) (fun x => zfW x.1 x.2) (fun x => i64 (zcC x.1 x.2))

theorem qcD : (
 let q1 : Prop := (0 : Int) <= (3 : Int)/\(3 : Int) < (↑(4 : Nat) : Int);
 let q2 : Prop := true = true/\zaC/\(0 : Nat) = 0;
 let q3 : Prop := (160 : TypeId) = 160;
 let q4 : Prop := q2/\q2/\q2/\q2/\True;
 let q5 : Nat := (TI.mk (TK.int IntKind.i64) 1 8 (ZL.cons (Value.int IntKind.i64 0) ZL.nil) false).size; ∀ (x : AllocT × Int),
 let q6 : Prop := q3/\Tr 1 (x.1.r = (zfW x.1 x.2).r)/\q4;
 let q7 : Prop := setB (x.1.n, x.1.c) = setB ((zfW x.1 x.2).n, (zfW x.1 x.2).c);
 let q8 : Prop := setB (x.1.n, x.1.e) = setB ((zfW x.1 x.2).n, (zfW x.1 x.2).e);
 let q9 : Prop := setB (x.1.n, x.1.m) = setB ((zfW x.1 x.2).n, (zfW x.1 x.2).m);
 let q10 : Ob := setB ((zfW x.1 x.2).n, (zfW x.1 x.2).w);
 let q11 : Prop := (zbW (zfW x.1 x.2)).ob = zaB (zfW x.1 x.2)/\true = true/\True; za9 x.1/\I64 x.2->zaB x.1 = (zbW x.1).ob/\∀ (g : Unit), q1/\Exx ((Nat × Nat) × Int) fun x_1 => ((q2/\Tr 1 (x.2 = x_1.2)/\True)/\true = true/\setB (x.1.n, x.1.w) = setB x_1.1/\True)/\(SetW x_1.1/\I64 x_1.2)/\∀ (y : Unit), True->BC (!hasN x_1.1 x_1.2) (Exx Unit fun y => Exx Unit fun g => Tr 1 (q6/\q7/\q8/\q9/\setB x_1.1 = q10/\True)/\((Tr 1 ((2 : Int) = zcC x.1 x.2)/\True)/\q11)/\True) (q1/\Exx ((Nat × Nat) × List Int) fun x_2 => ((q2/\((0 : Nat) + (1 : Nat) <= (1 : Nat)/\1 = x_2.2.length/\∀ (i : Nat),
 let q12 : Nat := 0 + i; i < x_2.2.length->[AV.int .i64 (if q12 = 0 * 1 / 1 then x.2 else 0)] = [AV.int .i64 (x_2.2.getD i 0)])/\True)/\true = true/\setB x_1.1 = setB x_2.1/\True)/\(SetW x_2.1/\Ints x_2.2)/\∀ (y : Unit), True->Exx Unit fun y => Exx Unit fun g => Tr 1 (q6/\q7/\q8/\q9/\setB (x_2.1.1, zg3 x_2.1.1 x_2.1.2 x_2.2) = q10/\True)/\((Tr 1 ((0 : Int) = zcC x.1 x.2)/\True)/\q11)/\True)) = (zcO tb [(135, zcQ (zaA zlN) (zaA ziI)), (136, zaA zrP)] Tryz.f93 zi6 (fun _ => {}) (fun _ _ _ => none) (fun x => [(0, zbW x.1)]) (fun x y av H => [(0, [2, 3, 4, 5], zbW (zfW x.1 x.2))])) := by kernel_rfl

theorem zmW : SpecOk Tryz.prog 93 (zaA zi6) := by
 refine za0 mixed zaL (SPok.cons (zbA zkG ziH) (SPok.cons qaZ SPok.nil)) Tryz.func93 (by decide) (ziA fun _ => rfl) (Eq.mp qcD ?_)
 simp (maxSteps := 10000000) only [std, stdU, stdV, Exx, I64, Nat.reduceMul, Nat.reduceDiv, Nat.reduceAdd, Int.reduceToNat, zaX, zdG, zc0, zaH]
 rintro x a ⟨h, h1, h2⟩
 have hs : SetW (x.n, x.w) := ⟨h.1, h.2.2.2.2.2⟩
 refine ⟨by omega, by omega, hs, h1, h2, fun hn => ⟨rfl, rfl, rfl, rfl, rfl, rfl, rfl, rfl, ?_, by rw [zcC, hn]; rfl⟩, fun hy => ⟨by omega, by omega, x.n, x.w, [a], rfl, fun i hi => ?_, rfl, rfl, hs, ⟨fun y hy => ?_, by simp⟩, rfl, rfl, rfl, rfl, rfl, rfl, rfl, rfl, rfl, by rw [zcC, if_pos hy]⟩⟩
 ·apply Nat.eq_of_testBit_eq
  intro i
  show x.w.testBit i = (drop1 x.n x.w a).testBit i
  rw [zo7]
  by_cases e : i < x.n/\(i : Int) = a
  ·obtain ⟨e1, rfl⟩ := e
   have hin : inSet (x.n, x.w) (i : Int) := ⟨by omega, by simp only; omega⟩
   rw [hasN, decide_eq_true hin, Bool.true_and] at hn
   have hn' : x.w.testBit i = false := hn
   rw [hn']; rfl
  ·rw [decide_eq_false e]; simp
 ·have : i = 0 := by simpa using hi
  subst this; rfl
 ·have : y = a := by simpa using hy
  rw [this]; exact ⟨h1, h2⟩

def zpL : Ctr := zv3 Int (fun x => I64 x.2) (fun x => [i64 x.2]) (fun x => .bool (hasN (x.1.n, x.1.w) x.2 && !hasN (x.1.n, x.1.m) x.2))

theorem qhP : (
 let q1 : Prop := true = true/\zaC/\(0 : Nat) = 0;
 let q2 : Prop := (160 : TypeId) = 160;
 let q3 : Prop := q1/\q1/\q1/\q1/\True; ∀ (x : AllocT × Int),
 let q4 : Prop := setB (x.1.n, x.1.c) = setB (x.1.n, x.1.c);
 let q5 : Prop := setB (x.1.n, x.1.e) = setB (x.1.n, x.1.e);
 let q6 : Bool := hasN (x.1.n, x.1.w) x.2 && !hasN (x.1.n, x.1.m) x.2;
 let q7 : Prop := (zbW x.1).ob = zaB x.1/\true = true/\True; za9 x.1/\I64 x.2->zaB x.1 = (zbW x.1).ob/\∀ (g : Unit), ((0 : Int) <= (3 : Int)/\(3 : Int) < (↑(4 : Nat) : Int))/\Exx ((Nat × Nat) × Int) fun x_1 =>
 let q8 : Prop := setB x_1.1 = setB (x.1.n, x.1.w)/\True; ((q1/\Tr 1 (x.2 = x_1.2)/\True)/\true = true/\setB (x.1.n, x.1.w) = setB x_1.1/\True)/\(SetW x_1.1/\I64 x_1.2)/\∀ (y : Unit), True->BC (hasN x_1.1 x_1.2) (((0 : Int) <= (2 : Int)/\(2 : Int) < (↑(4 : Nat) : Int))/\Exx ((Nat × Nat) × Int) fun x_2 => ((q1/\Tr 1 (x.2 = x_2.2)/\True)/\true = true/\setB (x.1.n, x.1.m) = setB x_2.1/\True)/\(SetW x_2.1/\I64 x_2.2)/\∀ (y : Unit), True->Exx Unit fun y => Exx Unit fun g => Tr 1 ((q2/\Tr 1 (x.1.r = x.1.r)/\q3)/\q4/\q5/\setB x_2.1 = setB (x.1.n, x.1.m)/\q8)/\(((!hasN x_2.1 x_2.2) = q6/\True)/\q7)/\True) (Exx Unit fun y => Exx Unit fun g => Tr 1 ((q2/\Tr 1 (x.1.r = x.1.r)/\q3)/\q4/\q5/\setB (x.1.n, x.1.m) = setB (x.1.n, x.1.m)/\q8)/\((false = q6/\True)/\q7)/\True)) = (zcO tb [(135, zcQ (zaA zlN) (zaA ziI))] Tryz.f166 zpL (fun _ => {}) (fun _ _ _ => none) (fun x => [(0, zbW x.1)]) (fun x y av H => [(0, [2, 3, 4, 5], zbW x.1)])) := by kernel_rfl

theorem zyK : SpecOk Tryz.prog 166 (zaA zpL) := by
 refine za0 mixed zaL (SPok.cons (zbA zkG ziH) SPok.nil) Tryz.func166 (by decide) (zv2 fun _ => rfl) (Eq.mp qhP ?_)
 simp (maxSteps := 10000000) only [std, stdU, stdV, Exx, I64, Nat.reduceMul, Nat.reduceDiv, Nat.reduceAdd, Int.reduceToNat, zaX, zdG, zc0, zaH]
 rintro x a ⟨h, h1, h2⟩
 have hs : SetW (x.n, x.w) := ⟨h.1, h.2.2.2.2.2⟩
 have hm : SetW (x.n, x.m) := ⟨h.1, h.2.2.2.2.1⟩
 exact ⟨by omega, by omega, hs, h1, h2, fun e => ⟨by omega, by omega, hm, h1, h2, by rw [e]; rfl⟩, fun e => by rw [e]; rfl⟩

def qfF (x : AllocT) : Nat->Nat
 | 0 => x.c
 | 1 => x.e
 | 2 => x.m
 | _ => x.w
def qfD (x : AllocT) (k v : Nat) : AllocT := match k with
 | 0 => { x with c := v }
 | 1 => { x with e := v }
 | 2 => { x with m := v }
 | _ => { x with w := v }
def zyG (x : AllocT) (k o : Nat) : AllocT := qfD x k (qfF x o)
theorem qhM {x : AllocT} (h : za9 x) (k o : Nat) : za9 (zyG x k o) := by
 obtain ⟨h1, h2, h3, h4, h5, h6⟩ := h
 have hm : qfF x o < 2 ^ x.n := by unfold qfF; split <;> assumption
 unfold zyG qfD
 split <;> exact ⟨by assumption, by assumption, by assumption, by assumption, by assumption, by assumption⟩
def markS (x : AllocT) : AllocT := zyG x 2 3
abbrev NewX : Type := (Nat × Nat) × (Nat × Nat) × Int
def zcB (x : NewX) : AllocT := { n := x.1.1, r := x.2.2, c := x.1.2, e := x.2.1.2, m := x.1.2, w := x.1.2 }
def allocNewI : Ctr2 where
 X := NewX
 conv := true
 tau := tau2
 pre := fun x => SetW x.1/\SetW x.2.1/\I64 x.2.2
 args := fun x => [.ptr 0 [] 0, .ptr 1 [] 0, i64 x.2.2]
 heap := fun x => [setI x.1, setI x.2.1]
 p := fun x => x.1.1 = x.2.1.1/\0 <= x.2.2
 a := { Y := Unit, Q := fun _ _ => True, res := fun _ _ => .tup [.ptr 3 [] 0, i64 0], its := fun x _ => [setI x.1, setI x.2.1], new := fun x _ => [zfO (zcB x)] }
 b := { Y := Unit, Q := fun _ _ => True, res := fun _ _ => .tup [.nilp, i64 2], its := fun x _ => [setI x.1, setI x.2.1], new := fun _ _ => [] }

theorem qhQ : (
 let q1 : Prop := true = true/\zaC/\(0 : Nat) = 0;
 let q2 : Prop := q1/\True;
 let q3 : Prop := (0 : Int) < (↑(3 : Nat) : Int);
 let q4 : Nat := 2 * 1 / 1;
 let q5 : Nat := (TI.mk (TK.int IntKind.i64) 1 8 (ZL.cons (Value.int IntKind.i64 0) ZL.nil) false).size;
 let q6 : Nat := (2, Operand.const (Value.int IntKind.i64 3)).1 * q5 / 1;
 let q7 : Nat := 1 * 1 / 1;
 let q8 : Nat := (1, Operand.const (Value.int IntKind.i64 2)).1 * q5 / 1;
 let q9 : Nat := 0 * 1 / 1;
 let q10 : Nat := (0, Operand.const (Value.int IntKind.i64 0)).1 * q5 / 1;
 let q11 : Int := if Int.toNat 0 = q4 then 3 else if Int.toNat 0 = q7 then 2 else if Int.toNat 0 = q9 then 0 else 0;
 let q12 : Int := 0 + 1;
 let q13 : Prop := q12 < (↑(3 : Nat) : Int);
 let q14 : Nat := q12.toNat;
 let q15 : Int := if q14 = q4 then 3 else if q14 = q7 then 2 else if q14 = q9 then 0 else 0;
 let q16 : Int := q12 + 1;
 let q17 : Prop := q16 < (↑(3 : Nat) : Int);
 let q18 : Nat := q16.toNat;
 let q19 : Int := if q18 = q4 then 3 else if q18 = q7 then 2 else if q18 = q9 then 0 else 0; ∀ (x : (Nat × Nat) × (Nat × Nat) × Int),
 let q20 : Prop := x.1.1 = x.2.1.1/\(0 : Int) <= x.2.2; SetW x.1/\SetW x.2.1/\I64 x.2.2->Exx ((Nat × Nat) × Unit) fun x_1 => (q2/\true = true/\setB x.1 = setB x_1.1/\True)/\(SetW x_1.1/\True)/\∀ (y : Unit), True->Exx ((Nat × Nat) × Unit) fun x_2 =>
 let q21 : Prop := (q20/\Exx Unit fun y => False)\/¬allocNewI.p x/\Exx Unit fun y => ((Tr 1 (Tr 1 ((2 : Int) = 2)/\True)/\True)/\setB x_1.1 = setB x.1/\setB x_2.1 = setB x.2.1/\true = true/\True)/\True; (q2/\true = true/\setB x.2.1 = setB x_2.1/\True)/\(SetW x_2.1/\True)/\∀ (y : Unit), True->BC (!decide ((x_1.1.1 : Int) = (x_2.1.1 : Int))) q21 (BC (decide (x.2.2 < (0 : Int))) q21 (Exx (Nat × Nat) fun x_3 =>
 let q22 : Prop := setB x_3 = setB x.2.1; (q2/\true = true/\setB x_2.1 = setB x_3/\True)/\SetW x_3/\∀ (y : Unit), True->((0 : Int) <= (1 : Int)/\(1 : Int) < (↑(4 : Nat) : Int))/\((0 : Int) <= (0 : Int)/\q3/\q3)/\Exx (Nat × Nat) fun x_4 => (q2/\true = true/\setB x_1.1 = setB x_4/\True)/\SetW x_4/\∀ (y : Unit), True->((0 : Int) <= q11/\q11 < (↑(4 : Nat) : Int))/\I64 q12/\((0 : Int) <= q12/\q13/\q13)/\Exx (Nat × Nat) fun x_5 => (q2/\true = true/\setB x_4 = setB x_5/\True)/\SetW x_5/\∀ (y : Unit), True->((0 : Int) <= q15/\q15 < (↑(4 : Nat) : Int))/\I64 q16/\((0 : Int) <= q16/\q17/\q17)/\Exx (Nat × Nat) fun x_6 => (q2/\true = true/\setB x_5 = setB x_6/\True)/\SetW x_6/\∀ (y : Unit), True->((0 : Int) <= q19/\q19 < (↑(4 : Nat) : Int))/\I64 (q16 + 1)/\((q20/\Exx Unit fun y => Exx Unit fun g => Tr 1 (((160 : Nat) = (160 : TypeId)/\Tr 1 (x.2.2 = (zcB x).r)/\q1/\q1/\q1/\q2)/\setB x_4 = setB ((zcB x).n, (zcB x).c)/\setB x_3 = setB ((zcB x).n, (zcB x).e)/\setB x_5 = setB ((zcB x).n, (zcB x).m)/\setB x_6 = setB ((zcB x).n, (zcB x).w)/\True)/\(((q1/\Tr 1 ((0 : Int) = 0)/\True)/\True)/\setB x_6 = setB x.1/\q22/\true = true/\(zbW (zcB x)).ob = zaB (zcB x)/\True)/\True)\/¬allocNewI.p x/\Exx Unit fun y => (((False/\Tr 1 ((0 : Int) = 2)/\True)/\True)/\setB x_6 = setB x.1/\q22/\true = true/\True)/\True)))) = (qgO tb [(98, zaA zh8), (111, zaA zfK)] Tryz.f77 allocNewI (fun x => { loose := [(6, [1, 3]), (10, [0, 3])], unroll := [(8, 4)] }) (fun _ _ _ => none) (fun _ => []) (fun x y av H => [(3, [5, 4, 6, 7], zbW (zcB x))]) (fun _ _ _ _ => [])) := by kernel_rfl

theorem zyL : SpecOk Tryz.prog 77 (zmJ allocNewI) := by
 refine zwK mixed zaL (SPok.cons zgI (SPok.cons zeV SPok.nil)) Tryz.func77 (by decide) ⟨fun _ _ _ _ => (rfl : 2 = 2), fun _ _ _ _ => ⟨rfl, rfl⟩, fun x _ _ _ _ => ⟨⟨⟨trivial, trivial, trivial⟩, ⟨trivial, trivial⟩⟩, rfl, rfl, trivial⟩⟩ ⟨fun _ _ _ _ => (rfl : 2 = 2), fun _ _ _ _ => ⟨rfl, rfl⟩, fun x _ _ _ _ => ⟨⟨⟨trivial, trivial, trivial⟩, trivial⟩, rfl, rfl, trivial⟩⟩ (Eq.mp qhQ ?_)
 simp (maxSteps := 10000000) only [std, stdU, stdV, Exx, I64, Nat.reduceMul, Nat.reduceDiv, Nat.reduceAdd, Int.reduceToNat, zaX, zdG, zc0, zaH]
 rintro n a n' b r ⟨h1, h2, h3, h4⟩
 refine ⟨h1, h2, fun hne hp => hne hp.1, fun e => ⟨fun hr hp => by have := hp.2; simp only at this; omega, fun hr => ?_⟩⟩
 subst e
 simp only [if_pos, if_neg, Nat.reduceEqDiff, Nat.succ_ne_self, Nat.zero_add, Int.reduceToNat, Int.reduceAdd, if_true, if_false, zcB, and_true, true_and]
 repeat refine And.intro (by first | omega | exact h1 | exact h2) ?_
 omega

def tauArg2 (args : List AV) (H : AH) : List Nat := match args with
 | _ :: .ptr p _ _ :: _ => [p]
 | _ => []
def ziC (tau : List AV->AH->List Nat) (args : List AV) : Ctr where
 X := (Nat × Nat) × Int
 Y := Unit
 conv := true
 tau := tau
 pre := fun x => I64 x.2
 args := fun x => args ++ [i64 x.2]
 heap := fun x => [setI x.1]
 Q := fun _ _ => True
 res := fun x _ => .tup [.nilp, i64 1]
 its := fun x _ => [setI x.1]
 new := fun _ _ => []
theorem ziB (tau : List AV->AH->List Nat) (args : List AV) : CtrOk (ziC tau args) :=
 ⟨fun _ _ _ _ => rfl, fun _ _ _ _ => ⟨rfl, rfl⟩, fun x _ _ _ _ => ⟨⟨⟨trivial, trivial⟩, trivial⟩, ⟨rfl, rfl, trivial⟩⟩⟩
def zj7 : Ctr := ziC tauArg2 [.nilp, .ptr 0 [] 0]
def zj6 : Ctr := ziC zg2 [.ptr 0 [] 0, .nilp]

theorem zyN : (∀ (x : (Nat × Nat) × Int), -9223372036854775808 <= x.2/\x.2 <= (9223372036854775807 : Int)->Exx Unit fun y => ((Tr 1 (Tr 1 ((1 : Int) =
 1)/\True)/\True)/\setB x.1 = setB x.1/\true = true/\True)/\True) = (fnVC tb [(98, zaA zh8), (111, zaA zfK)] Tryz.f77 zj7 (fun _ =>
 {}) (fun _ => none)) := by kernel_rfl

theorem ztA : SpecOk Tryz.prog 77 (zaA zj7) := by
 refine zaJ mixed zaL (SPok.cons zgI (SPok.cons zeV SPok.nil)) Tryz.func77 (by decide) (ziB _ _) (Eq.mp zyN ?_)
 simp (maxSteps := 10000000) only [std, stdU, stdV, Exx, I64, Nat.reduceMul, Nat.reduceDiv, Nat.reduceAdd, Int.reduceToNat, zaX]

theorem zyM : (∀ (x : (Nat × Nat) × Int), -9223372036854775808 <= x.2/\x.2 <= (9223372036854775807 : Int)->Exx Unit fun y => ((Tr 1 (Tr 1 ((1 : Int) =
 1)/\True)/\True)/\setB x.1 = setB x.1/\true = true/\True)/\True) = (fnVC tb [(98, zaA zh8), (111, zaA zfK)] Tryz.f77 zj6 (fun _ =>
 {}) (fun _ => none)) := by kernel_rfl

theorem zs9 : SpecOk Tryz.prog 77 (zaA zj6) := by
 refine zaJ mixed zaL (SPok.cons zgI (SPok.cons zeV SPok.nil)) Tryz.func77 (by decide) (ziB _ _) (Eq.mp zyM ?_)
 simp (maxSteps := 10000000) only [std, stdU, stdV, Exx, I64, Nat.reduceMul, Nat.reduceDiv, Nat.reduceAdd, Int.reduceToNat, zaX]

def zmV : Sx.Spec := zgK (zvY 0) (zaA zj7) (zgK (zvY 1) (zaA zj6) (zmJ allocNewI))
theorem zp2 : SpecOk Tryz.prog 77 zmV := ze3 ztA (ze3 zs9 zyL)

end Yard
