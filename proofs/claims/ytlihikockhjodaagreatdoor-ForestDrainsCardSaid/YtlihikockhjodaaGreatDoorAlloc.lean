import Derived.Test.YtlihikockhjodaaGreatDoorBits2

namespace Yard
open Go Go.Sx Go.Proofs
set_option linter.unusedVariables false
set_option linter.unusedSimpArgs false
set_option maxRecDepth 4000


theorem zv1 {n m:Nat} {a:Int} {i:Nat}:(add1 n m a).testBit i=(m.testBit i || decide (i<n/\(i:Int)=a)):=by
 unfold add1 inB
 by_cases h:0 <= a/\a<(n:Int)
 ·rw [if_pos (decide_eq_true h),Nat.testBit_or,Nat.testBit_two_pow]
  have:(a.toNat=i) ↔ (i<n/\(i:Int)=a):=by omega
  simp only [this]
 ·rw [if_neg (by rw [decide_eq_false h]; simp)]
  have:¬(i<n/\(i:Int)=a):=by omega
  simp [this]
theorem qd0 {n i:Nat}:∀{l:List Int} {m:Nat},(addL n m l).testBit i=(m.testBit i || decide (i<n/\(i:Int)∈l))
 | [],m=>by simp [addL]
 | a :: r,m=>by
   have e:addL n m (a :: r)=addL n (add1 n m a) r:=rfl
   rw [e,qd0 (l:=r),zv1,Bool.or_assoc]
   congr 1
   rw [<- Bool.decide_or]
   apply decide_eq_decide.2
   rw [List.mem_cons]
   constructor
   ·rintro (⟨h1,h2⟩ | ⟨h1,h2⟩)
    ·exact ⟨h1,.inl h2⟩
    ·exact ⟨h1,.inr h2⟩
   ·rintro ⟨h1,h2 | h2⟩
    ·exact .inl ⟨h1,h2⟩
    ·exact .inr ⟨h1,h2⟩
theorem listN_mem {n m:Nat} {a:Int}:a∈zcP (n,m) ↔ 0 <= a/\a<(n:Int)/\m.testBit a.toNat=true:=by
 rw [zcP,List.mem_map]
 constructor
 ·rintro ⟨i,hi,rfl⟩
  obtain ⟨h1,h2⟩:=zy0.1 hi
  exact ⟨by omega,by simp only at h1; omega,h2⟩
 ·rintro ⟨h1,h2,h3⟩
  exact ⟨a.toNat,zy0.2 ⟨by simp only; omega,h3⟩,by omega⟩

theorem zrI {n m:Nat} {a:Int} {i:Nat}:(drop1 n m a).testBit i=(m.testBit i && !decide (i<n/\(i:Int)=a)):=by
 unfold drop1 inB
 by_cases h:0 <= a/\a<(n:Int)
 ·rw [if_pos (decide_eq_true h),zk7]
  have:(a.toNat=i) ↔ (i<n/\(i:Int)=a):=by omega
  simp only [this]
 ·rw [if_neg (by rw [decide_eq_false h]; simp)]
  have:¬(i<n/\(i:Int)=a):=by omega
  simp [this]
theorem zs4 {s:Nat×Nat} (h:SetW s):Ints (zcP s):=by
 have h1:=h.1
 refine ⟨fun x hx=>?_,?_⟩
 ·have:=(listN_mem (n:=s.1) (m:=s.2)).1 hx
  unfold I64; omega
 ·have:=zmP s.1 s.2
  rw [zcP,List.length_map]; omega
def zhX (s t:Nat×Nat):Nat×Nat:=(s.1,addL s.1 s.2 (zcP t))
def qcQ (g:Nat×Nat->Nat×Nat->Nat×Nat):Ctr where
 X:=(Nat×Nat)×(Nat×Nat)
 Y:=Unit
 conv:=true
 tau:=tau2
 pre:=fun x=>SetW x.1/\SetW x.2
 args:=fun _=>[.ptr 0 [] 0,.ptr 1 [] 0]
 heap:=fun x=>[setI x.1,setI x.2]
 Q:=fun _ _=>True
 res:=fun x _ => .ptr 3 [] 0
 its:=fun x _=>[setI x.1,setI x.2]
 new:=fun x _=>[setI (g x.1 x.2)]
theorem zzQ (g:Nat×Nat->Nat×Nat->Nat×Nat):CtrOk (qcQ g) :=
 ⟨fun _ _ _ _=>(rfl:2=2),fun _ _ _ _=>⟨rfl,rfl⟩,fun x _ _ _ _=>⟨⟨⟨trivial,trivial,trivial⟩,⟨trivial,trivial⟩⟩,rfl⟩⟩
def zwW (g:Nat×Nat->Nat×Nat->Nat×Nat):Ctr where
 X:=Nat×Nat
 Y:=Unit
 conv:=true
 tau:=zgI
 pre:=SetW
 args:=fun _=>[.ptr 0 [] 0,.ptr 0 [] 0]
 heap:=fun x=>[setI x]
 Q:=fun _ _=>True
 res:=fun x _ => .ptr 2 [] 0
 its:=fun x _=>[setI x]
 new:=fun x _=>[setI (g x x)]
theorem zwV (g:Nat×Nat->Nat×Nat->Nat×Nat):CtrOk (zwW g) :=
 ⟨fun _ _ _ _=>(rfl:1=1),fun _ _ _ _=>⟨rfl,rfl⟩,fun x _ _ _ _=>⟨⟨⟨trivial,trivial⟩,⟨trivial,trivial⟩⟩,rfl⟩⟩
def zlI:Ctr:=qcQ zhX
def ziG:Ctr:=zwW zhX
theorem qnD:(
 let q1:Prop:=true=true/\zaC/\(0:Nat)=0;
 let q2:Prop:=q1/\True; ∀(x:(Nat×Nat)×Nat×Nat),SetW x.1/\SetW x.2->Exx (Nat×Nat) fun x_1=>(q2/\true=true/\setB x.1=setB x_1/\True)/\SetW x_1/\∀(y:Unit),True->Exx (Nat×Nat) fun x_2=>(q2/\true=true/\setB x.2=setB x_2/\True)/\SetW x_2/\∀(y:Nat),(zcP x_2).length <= y->Exx ((Nat×Nat)×List Int) fun x_3=>((q1/\(0+(zcP x_2).length <= (zcP x_2).length/\(zcP x_2).length=x_3.2.length/\∀(i:Nat),i<x_3.2.length->[AV.int .i64 ((zcP x_2).getD (0+i) 0)]=[AV.int .i64 (x_3.2.getD i 0)])/\True)/\true=true/\setB x_1=setB x_3.1/\True)/\(SetW x_3.1/\Ints x_3.2)/\∀(y:Unit),True->Exx Unit fun y=>(q2/\setB x_1=setB x.1/\setB x_2=setB x.2/\true=true/\setB (x_3.1.1,addL x_3.1.1 x_3.1.2 x_3.2)=setB (zhX x.1 x.2)/\True)/\True)=(fnVC tb [(112,zdC (zaA zkQ) (zaA zhQ)),(178,zaA zg1),(179,zaA zlJ)] Tryz.f140 zlI (fun _=>{ loose:=[(2,[0,1,3])] }) (fun _=>none)):=by kernel_rfl

theorem zm4:SpecOk Tryz.prog 140 (zaA zlI):=by
 refine zaJ zaM zaL (SPok.cons (zbM ziJ zg2) (SPok.cons zp1 (SPok.cons zsL SPok.nil))) Tryz.func140 (by decide) (zzQ _) (Eq.mp qnD ?_)
 simp (maxSteps:=10000000) only [std,stdU,stdV,Exx,I64,Nat.reduceMul,Nat.reduceDiv,Nat.reduceAdd,Int.reduceToNat,zdE,zcO,za6]
 exact fun _ _ _ _ h=>⟨h.1,h.2,fun _ _=>⟨h.1,zs4 h.2,rfl⟩⟩

theorem qhZ:(
 let q1:Prop:=true=true/\zaC/\(0:Nat)=0;
 let q2:Prop:=q1/\True; ∀(x:Nat×Nat),SetW x->Exx (Nat×Nat) fun x_1=>(q2/\true=true/\setB x=setB x_1/\True)/\SetW x_1/\∀(y:Unit),True->Exx (Nat×Nat) fun x_2=>(q2/\true=true/\setB x_1=setB x_2/\True)/\SetW x_2/\∀(y:Nat),(zcP x_2).length <= y->Exx ((Nat×Nat)×List Int) fun x_3=>((q1/\(0+(zcP x_2).length <= (zcP x_2).length/\(zcP x_2).length=x_3.2.length/\∀(i:Nat),i<x_3.2.length->[AV.int .i64 ((zcP x_2).getD (0+i) 0)]=[AV.int .i64 (x_3.2.getD i 0)])/\True)/\true=true/\setB x_1=setB x_3.1/\True)/\(SetW x_3.1/\Ints x_3.2)/\∀(y:Unit),True->Exx Unit fun y=>(q2/\setB x_2=setB x/\true=true/\setB (x_3.1.1,addL x_3.1.1 x_3.1.2 x_3.2)=setB (zhX x x)/\True)/\True)=(fnVC tb [(112,zdC (zaA zkQ) (zaA zhQ)),(178,zaA zg1),(179,zaA zlJ)] Tryz.f140 ziG (fun _=>{ loose:=[(2,[0,2])] }) (fun _=>none)):=by kernel_rfl

theorem zkO:SpecOk Tryz.prog 140 (zaA ziG):=by
 refine zaJ zaM zaL (SPok.cons (zbM ziJ zg2) (SPok.cons zp1 (SPok.cons zsL SPok.nil))) Tryz.func140 (by decide) (zwV _) (Eq.mp qhZ ?_)
 simp (maxSteps:=10000000) only [std,stdU,stdV,Exx,I64,Nat.reduceMul,Nat.reduceDiv,Nat.reduceAdd,Int.reduceToNat,zdE,zcO,za6]
 exact fun _ _ h=>⟨h,h,fun _ _=>⟨h,zs4 h,rfl⟩⟩


structure AllocT where
 n:Nat
 r:Int
 c:Nat
 e:Nat
 m:Nat
 w:Nat
def zbJ (x:AllocT):Prop:=x.n <= 3072/\I64 x.r/\x.c<2 ^ x.n/\x.e<2 ^ x.n/\x.m<2 ^ x.n/\x.w<2 ^ x.n
abbrev zj9 (x:AllocT):AH:=[.cells 160 [i64 x.r,.ptr 1 [] 0,.ptr 2 [] 0,.ptr 3 [] 0,.ptr 4 [] 0],setI (x.n,x.c),setI (x.n,x.e),setI (x.n,x.m),setI (x.n,x.w)]
abbrev zcD (x:AllocT):Opn:={ tag:=[[(x.n:Int)],[x.r],[(x.c:Int)],[(x.e:Int)],[(x.m:Int)],[(x.w:Int)]],G:=Unit,fam:=fun _=>zj9 x,pl:=fun _=>⟨⟨rfl,rfl,rfl,rfl,rfl,trivial⟩,trivial,trivial,trivial,trivial,trivial⟩,nf:=fun _=>rfl,root:=fun _=>rfl }
def zaB (x:AllocT):Ob:=(zcD x).ob
abbrev zgC (x:AllocT):Sx.Item := .obj (zaB x)
theorem zaK {s t:AllocT}:(zaB s=zaB t) ↔ s=t:=by
 constructor
 ·intro h
  have:=congrArg Ob.tag h
  simp only [zaB,Opn.ob,List.cons.injEq,and_true] at this
  obtain ⟨h1,h2,h3,h4,h5,h6⟩:=this
  cases s; cases t
  simp only at *
  rw [Int.ofNat_inj.1 h1,h2,Int.ofNat_inj.1 h3,Int.ofNat_inj.1 h4,Int.ofNat_inj.1 h5,Int.ofNat_inj.1 h6]
 ·intro h; rw [h]
theorem zd7 {s t:AllocT}:(zaB s=(zcD t).ob) ↔ s=t:=zaK
theorem zdN {s t:AllocT}:((zcD s).ob=zaB t) ↔ s=t:=zaK

theorem addL_or {n a b:Nat} (h:b<2 ^ n):addL n a (zcP (n,b))=a ||| b:=by
 apply Nat.eq_of_testBit_eq
 intro i
 rw [qd0,Nat.testBit_or]
 congr 1
 by_cases hi:i<n
 ·rw [Bool.eq_iff_iff,decide_eq_true_eq,listN_mem,Int.toNat_natCast]
  exact ⟨fun h=>h.2.2.2,fun h=>⟨hi,by omega,by omega,h⟩⟩
 ·rw [Nat.testBit_lt_two_pow (Nat.lt_of_lt_of_le h (Nat.pow_le_pow_right (by decide) (by omega)))]
  exact decide_eq_false fun k=>hi k.1
theorem zhW {n a b:Nat} (h:b<2 ^ n):zhX (n,a) (n,b)=(n,a ||| b):=by rw [zhX,addL_or h]

def clIf (p:Nat) (H:AH) (l:List (Nat×List Nat×Opn)):List (Nat×List Nat×Opn):=match H[p]? with
 | some (.obj _)=>[]
 | _=>l
def zjA:Ctr:=zg1

theorem copiedV:(
 let q1:Prop:=true=true/\zaC/\(0:Nat)=0;
 let q2:Prop:=q1/\True; ∀(x:Nat×Nat),SetW x->Exx (Nat×Nat) fun x_1=>((q1/\q2)/\true=true/\setB x=setB x_1/\True)/\SetW x_1/\∀(y:Unit),True->Exx Unit fun y=>(q2/\setB x_1=setB x/\true=true/\setB (zhX x_1 x_1)=setB x/\True)/\True)=(fnVC tb [(140,zwR (zaA ziG) (zaA zlI))] Tryz.f98 zjA (fun _=>{}) (fun _=>none)):=by kernel_rfl

theorem zhH:SpecOk Tryz.prog 98 (zaA zjA):=by
 refine zaJ zaM zaL (SPok.cons (zpV zkO zm4) SPok.nil) Tryz.func98 (by decide) zoB (Eq.mp copiedV ?_)
 simp (maxSteps:=10000000) only [std,stdU,stdV,Exx,I64,Nat.reduceMul,Nat.reduceDiv,Nat.reduceAdd,Int.reduceToNat,za6]
 rintro n m h
 exact ⟨h,by rw [zhW h.2,Nat.or_self]⟩

theorem qkP {s:Nat×Nat} (h:s.1 <= 3072):∀k a:Nat,-1 <= gapF s k a/\gapF s k a <= 3072
 | 0,_=>⟨by simp [gapF],by simp [gapF]⟩
 | k+1,a=>by
   rw [gapF]
   have:=qkP h k (a+1)
   split
   ·split
    ·exact this
    ·omega
   ·omega
theorem zvF {s:Nat×Nat} (h:SetW s) (a:Int):I64 (gapN s a):=by
 have:=qkP h.1 (s.1+1) a.toNat
 unfold gapN; exact ⟨by omega,by omega⟩
theorem or_lt2 {n a b:Nat} (ha:a<2 ^ n) (hb:b<2 ^ n):a ||| b<2 ^ n:=Nat.or_lt_two_pow ha hb
def zbT (x:AllocT):Nat:=x.w ||| x.c ||| x.e ||| x.m
def zy6 (Y:Type) (pre:AllocT×Y->Prop) (args:AllocT×Y->List AV) (res:AllocT×Y->AV):Ctr where
 X:=AllocT×Y
 Y:=Unit
 conv:=true
 tau:=zgI
 pre:=fun x=>zbJ x.1/\pre x
 args:=fun x => .ptr 0 [] 0 :: args x
 heap:=fun x=>[zgC x.1]
 Q:=fun _ _=>True
 res:=fun x _=>res x
 its:=fun x _=>[zgC x.1]
 new:=fun _ _=>[]
theorem zy5 {Y:Type} {pre:AllocT×Y->Prop} {args:AllocT×Y->List AV} {res:AllocT×Y->AV} (h:∀x,plV 2 (res x)):CtrOk (zy6 Y pre args res) :=
 ⟨fun _ _ _ _=>rfl,fun _ _ _ _=>⟨rfl,rfl⟩,fun x _ _ _ _=>⟨⟨⟨trivial,trivial⟩,trivial⟩,h x⟩⟩
def zmQ (Y:Type) (pre:AllocT×Y->Prop) (args:AllocT×Y->List AV) (g:AllocT×Y->AllocT) (res:AllocT×Y->AV):Ctr where
 X:=AllocT×Y
 Y:=Unit
 conv:=true
 tau:=zgI
 pre:=fun x=>zbJ x.1/\pre x
 args:=fun x => .ptr 0 [] 0 :: args x
 heap:=fun x=>[zgC x.1]
 Q:=fun _ _=>True
 res:=fun x _=>res x
 its:=fun x _=>[zgC (g x)]
 new:=fun _ _=>[]
theorem zjC {Y:Type} {pre:AllocT×Y->Prop} {args:AllocT×Y->List AV} {g:AllocT×Y->AllocT} {res:AllocT×Y->AV} (h:∀x,plV 2 (res x)):CtrOk (zmQ Y pre args g res) :=
 ⟨fun _ _ _ _=>(rfl:1=1),fun _ _ _ _=>⟨rfl,rfl⟩,fun x _ _ _ _=>⟨⟨⟨trivial,trivial⟩,trivial⟩,h x⟩⟩
def zn4 (g:AllocT->Nat×Nat):Ctr where
 X:=AllocT
 Y:=Unit
 conv:=true
 tau:=zgI
 pre:=zbJ
 args:=fun _=>[.ptr 0 [] 0]
 heap:=fun x=>[zgC x]
 Q:=fun _ _=>True
 res:=fun _ _ => .ptr 2 [] 0
 its:=fun x _=>[zgC x]
 new:=fun x _=>[setI (g x)]
theorem zmR (g:AllocT->Nat×Nat):CtrOk (zn4 g) :=
 ⟨fun _ _ _ _=>(rfl:1=1),fun _ _ _ _=>⟨rfl,rfl⟩,fun x _ _ _ _=>⟨⟨⟨trivial,trivial⟩,⟨trivial,trivial⟩⟩,rfl⟩⟩
def qpY (av:AV):Option Ren:=match av with
 | .ptr q _ _=>some [some 0,some 1,some q]
 | _=>none
def qoW:Ctr:=zn4 fun x=>(x.n,zbT x)

theorem heldV:(
 let q1:Prop:=true=true/\zaC/\(0:Nat)=0;
 let q2:Prop:=q1/\True;
 let q3:Int:=(↑(Int.toNat 3-0):Int);
 let q4:Prop:=q1/\q2;
 let q5:Int:=0+1;
 let q6:Int:=q5+1; ∀(x:AllocT),zbJ x->zaB x=(zcD x).ob/\∀(g:Unit),((0:Int) <= (3:Int)/\(3:Int)<(↑(4:Nat):Int))/\Exx (Nat×Nat) fun x_1=>(q2/\true=true/\setB (x.n,x.w)=setB x_1/\True)/\SetW x_1/\∀(y:Unit),True->(0:Int) <= (3:Int)/\((0:Nat) <= (3:Int).toNat/\(3:Int).toNat <= (4:Nat))/\((0:Int) <= (0:Int)/\(0:Int)<q3)/\Exx ((Nat×Nat)×Nat×Nat) fun x_2=>(q4/\true=true/\setB x_1=setB x_2.1/\setB (x.n,x.c)=setB x_2.2/\True)/\(SetW x_2.1/\SetW x_2.2)/\∀(y:Unit),True->I64 q5/\((0:Int) <= q5/\q5<q3)/\Exx ((Nat×Nat)×Nat×Nat) fun x_3=>(q4/\true=true/\setB (zhX x_2.1 x_2.2)=setB x_3.1/\setB (x.n,x.e)=setB x_3.2/\True)/\(SetW x_3.1/\SetW x_3.2)/\∀(y:Unit),True->I64 q6/\((0:Int) <= q6/\q6<q3)/\Exx ((Nat×Nat)×Nat×Nat) fun x_4=>(q4/\true=true/\setB (zhX x_3.1 x_3.2)=setB x_4.1/\setB (x.n,x.m)=setB x_4.2/\True)/\(SetW x_4.1/\SetW x_4.2)/\∀(y:Unit),True->I64 (q6+1)/\Exx Unit fun y=>Exx Unit fun g=>Tr 1 (((160:TypeId)=160/\Tr 1 (x.r=x.r)/\q1/\q1/\q4)/\setB x_2.2=setB (x.n,x.c)/\setB x_3.2=setB (x.n,x.e)/\setB x_4.2=setB (x.n,x.m)/\setB x_1=setB (x.n,x.w)/\True)/\(q2/\(zcD x).ob=zaB x/\true=true/\setB (zhX x_4.1 x_4.2)=setB (x.n,zbT x)/\True)/\True)=(zcQ tb [(98,zaA zjA),(140,zwR (zaA ziG) (zaA zlI))] Tryz.f114 qoW (fun x=>{ unroll:=[(3,4)] }) (fun _ av _=>qpY av) (fun x=>[(0,zcD x)]) (fun x y av H=>[(0,[2,3,4,5],zcD x)])):=by kernel_rfl

theorem qkK:SpecOk Tryz.prog 114 (zaA qoW):=by
 refine za5 zaM zaL (SPok.cons zhH (SPok.cons (zpV zkO zm4) SPok.nil)) Tryz.func114 (by decide) (zmR _) (Eq.mp heldV ?_)
 simp (maxSteps:=10000000) only [std,stdU,stdV,Exx,I64,Nat.reduceMul,Nat.reduceDiv,Nat.reduceAdd,Int.reduceToNat,za6,zd7,zdN,zaK]
 rintro x ⟨h1,h2,h3,h4,h5,h6⟩
 have e1:zhX (x.n,x.w) (x.n,x.c)=(x.n,x.w ||| x.c):=zhW h3
 have e2:zhX (x.n,x.w ||| x.c) (x.n,x.e)=(x.n,x.w ||| x.c ||| x.e):=zhW h4
 have e3:zhX (x.n,x.w ||| x.c ||| x.e) (x.n,x.m)=(x.n,zbT x):=zhW h5
 rw [e1,e2,e3]
 repeat refine And.intro (by first | omega | exact ⟨h1,h6⟩ | exact ⟨h1,h3⟩ | exact ⟨h1,h4⟩ | exact ⟨h1,h5⟩ | exact ⟨h1,or_lt2 h6 h3⟩ | exact ⟨h1,or_lt2 (or_lt2 h6 h3) h4⟩) ?_
 rfl

def zy3 (args:List AV) (H:AH):List Nat:=match args with
 | .ptr p _ _ :: _=>match H[p]? with
   | some (.cells _ (_ :: .ptr a _ _ :: .ptr b _ _ :: .ptr c _ _ :: .ptr d _ _ :: _))=>[p,a,b,c,d]
   | _=>[p]
 | _=>[]
theorem qlS (x:AllocT):plH (zj9 x):=⟨⟨rfl,rfl,rfl,rfl,rfl,trivial⟩,trivial,trivial,trivial,trivial,trivial⟩
def zyD:Ctr where
 X:=AllocT
 Y:=Unit
 conv:=true
 tau:=zy3
 pre:=zbJ
 args:=fun _=>[.ptr 0 [] 0]
 heap:=zj9
 Q:=fun _ _=>True
 res:=fun _ _ => .ptr 6 [] 0
 its:=fun x _=>zj9 x
 new:=fun x _=>[setI (x.n,zbT x)]
theorem qkL:CtrOk zyD :=
 ⟨fun _ _ _ _=>(rfl:5=5),fun _ _ _ _=>⟨rfl,rfl⟩,fun x _ _ _ _=>⟨⟨qlS x,⟨trivial,trivial⟩⟩,rfl⟩⟩
def ptrRen5 (av:AV):Option Ren:=match av with
 | .ptr q _ _=>some [some 0,some 1,some 2,some 3,some 4,some 5,some q]
 | _=>none

theorem heldOV:(
 let q1:Prop:=true=true/\zaC/\(0:Nat)=0;
 let q2:Prop:=q1/\True;
 let q3:Int:=(↑(Int.toNat 3-0):Int);
 let q4:Prop:=q1/\q2;
 let q5:Int:=0+1;
 let q6:Int:=q5+1; ∀(x:AllocT),zbJ x->((0:Int) <= (3:Int)/\(3:Int)<(↑(4:Nat):Int))/\Exx (Nat×Nat) fun x_1=>(q2/\true=true/\setB (x.n,x.w)=setB x_1/\True)/\SetW x_1/\∀(y:Unit),True->(0:Int) <= (3:Int)/\((0:Nat) <= (3:Int).toNat/\(3:Int).toNat <= (4:Nat))/\((0:Int) <= (0:Int)/\(0:Int)<q3)/\Exx ((Nat×Nat)×Nat×Nat) fun x_2=>(q4/\true=true/\setB x_1=setB x_2.1/\setB (x.n,x.c)=setB x_2.2/\True)/\(SetW x_2.1/\SetW x_2.2)/\∀(y:Unit),True->I64 q5/\((0:Int) <= q5/\q5<q3)/\Exx ((Nat×Nat)×Nat×Nat) fun x_3=>(q4/\true=true/\setB (zhX x_2.1 x_2.2)=setB x_3.1/\setB (x.n,x.e)=setB x_3.2/\True)/\(SetW x_3.1/\SetW x_3.2)/\∀(y:Unit),True->I64 q6/\((0:Int) <= q6/\q6<q3)/\Exx ((Nat×Nat)×Nat×Nat) fun x_4=>(q4/\true=true/\setB (zhX x_3.1 x_3.2)=setB x_4.1/\setB (x.n,x.m)=setB x_4.2/\True)/\(SetW x_4.1/\SetW x_4.2)/\∀(y:Unit),True->I64 (q6+1)/\Exx Unit fun y=>(q2/\((160:TypeId)=160/\Tr 1 (x.r=x.r)/\q1/\q1/\q4)/\setB x_2.2=setB (x.n,x.c)/\setB x_3.2=setB (x.n,x.e)/\setB x_4.2=setB (x.n,x.m)/\setB x_1=setB (x.n,x.w)/\true=true/\setB (zhX x_4.1 x_4.2)=setB (x.n,zbT x)/\True)/\True)=(zcQ tb [(98,zaA zjA),(140,zwR (zaA ziG) (zaA zlI))] Tryz.f114 zyD (fun x=>{ unroll:=[(3,4)] }) (fun _ av _=>ptrRen5 av) (fun _=>[]) (fun _ _ _ _=>[])):=by kernel_rfl

theorem qdH:SpecOk Tryz.prog 114 (zaA zyD):=by
 refine za5 zaM zaL (SPok.cons zhH (SPok.cons (zpV zkO zm4) SPok.nil)) Tryz.func114 (by decide) qkL (Eq.mp heldOV ?_)
 simp (maxSteps:=10000000) only [std,stdU,stdV,Exx,I64,Nat.reduceMul,Nat.reduceDiv,Nat.reduceAdd,Int.reduceToNat,za6]
 rintro x ⟨h1,h2,h3,h4,h5,h6⟩
 have e1:zhX (x.n,x.w) (x.n,x.c)=(x.n,x.w ||| x.c):=zhW h3
 have e2:zhX (x.n,x.w ||| x.c) (x.n,x.e)=(x.n,x.w ||| x.c ||| x.e):=zhW h4
 have e3:zhX (x.n,x.w ||| x.c ||| x.e) (x.n,x.m)=(x.n,zbT x):=zhW h5
 rw [e1,e2,e3]
 repeat refine And.intro (by first | omega | exact ⟨h1,h6⟩ | exact ⟨h1,h3⟩ | exact ⟨h1,h4⟩ | exact ⟨h1,h5⟩ | exact ⟨h1,or_lt2 h6 h3⟩ | exact ⟨h1,or_lt2 (or_lt2 h6 h3) h4⟩) ?_
 rfl

def zwA:Ctr:=zn4 fun x=>(x.n,x.w)

theorem worksV:(
 let q1:Prop:=true=true/\zaC/\(0:Nat)=0;
 let q2:Prop:=q1/\True; ∀(x:AllocT),zbJ x->zaB x=(zcD x).ob/\∀(g:Unit),((0:Int) <= (3:Int)/\(3:Int)<(↑(4:Nat):Int))/\Exx (Nat×Nat) fun x_1=>(q2/\true=true/\setB (x.n,x.w)=setB x_1/\True)/\SetW x_1/\∀(y:Unit),True->Exx Unit fun y=>Exx Unit fun g=>Tr 1 (((160:TypeId)=160/\Tr 1 (x.r=x.r)/\q1/\q1/\q1/\q2)/\setB (x.n,x.c)=setB (x.n,x.c)/\setB (x.n,x.e)=setB (x.n,x.e)/\setB (x.n,x.m)=setB (x.n,x.m)/\setB x_1=setB (x.n,x.w)/\True)/\(q2/\(zcD x).ob=zaB x/\true=true/\setB x_1=setB (x.n,x.w)/\True)/\True)=(zcQ tb [(98,zaA zjA)] Tryz.f60 zwA (fun _=>{}) (fun _ av _=>qpY av) (fun x=>[(0,zcD x)]) (fun x y av H=>[(0,[2,3,4,5],zcD x)])):=by kernel_rfl

theorem ztV:SpecOk Tryz.prog 60 (zaA zwA):=by
 refine za5 zaM zaL (SPok.cons zhH SPok.nil) Tryz.func60 (by decide) (zmR _) (Eq.mp worksV ?_)
 simp (maxSteps:=10000000) only [std,stdU,stdV,Exx,I64,Nat.reduceMul,Nat.reduceDiv,Nat.reduceAdd,Int.reduceToNat,za6,zd7,zdN,zaK]
 exact fun x h=>⟨by omega,by omega,h.1,h.2.2.2.2.2⟩

theorem qbB {x:AllocT} (h:zbJ x):zbT x<2 ^ x.n:=by
 obtain ⟨_,_,h3,h4,h5,h6⟩:=h
 exact or_lt2 (or_lt2 (or_lt2 h6 h3) h4) h5
def freeN (x:AllocT):Int:=(x.n:Int)-((bitsL x.n (zbT x)).length:Nat)
theorem qdL {x:AllocT} (h:zbJ x):0 <= freeN x/\freeN x <= 3072:=by
 have:=zmP x.n (zbT x)
 have:=h.1
 unfold freeN; omega
def zeM (x:AllocT) (r:Int):Int:=if freeN x <= r then 0 else gapN (x.n,zbT x) 0
def zcE (x:AllocT) (r:Int):Int:=if freeN x <= r then 10 else 0
def za4 (x:AllocT) (r:Int):AllocT:=if freeN x <= r then x else { x with w:=add1 x.n x.w (gapN (x.n,zbT x) 0) }
def qhB:Ctr:=zmQ Int (fun x=>I64 x.2) (fun x=>[i64 x.2]) (fun x=>za4 x.1 x.2) (fun x => .tup [i64 (zeM x.1 x.2),i64 (zcE x.1 x.2)])

theorem takeRV:(
 let q1:Prop:=true=true/\zaC/\(0:Nat)=0;
 let q2:Prop:=q1/\True;
 let q3:Nat:=(TI.mk (TK.int IntKind.i64) 1 8 (ZL.cons (Value.int IntKind.i64 0) ZL.nil) false).size; ∀(x:AllocT×Int),zbJ x.1/\I64 x.2->Exx AllocT fun x_1=>(q2/\true=true/\zaB x.1=zaB x_1/\True)/\zbJ x_1/\∀(y:Unit),True->Exx ((Nat×Nat)×Unit) fun x_2=>(q2/\true=true/\setB (x_1.n,zbT x_1)=setB x_2.1/\True)/\(SetW x_2.1/\True)/\∀(y:Unit),True->Exx ((Nat×Nat)×Unit) fun x_3 =>
 let q4:Int:=(x_2.1.1:Int)-(↑(bitsL x_3.1.1 x_3.1.2).length:Int); (q2/\true=true/\setB x_2.1=setB x_3.1/\True)/\(SetW x_3.1/\True)/\∀(y:Unit),True->I64 q4/\BC (decide (q4 <= x.2)) (Exx Unit fun y=>(((Tr 1 ((0:Int)=zeM x.1 x.2)/\Tr 1 ((10:Int)=zcE x.1 x.2)/\True)/\True)/\zaB x_1=zaB (za4 x.1 x.2)/\true=true/\True)/\True) (Exx ((Nat×Nat)×Int) fun x_4=>((q1/\Tr 1 ((0:Int)=x_4.2)/\True)/\true=true/\setB x_3.1=setB x_4.1/\True)/\(SetW x_4.1/\I64 x_4.2)/\∀(y:Unit),True->Exx AllocT fun y=>zaB x_1=(zcD y).ob/\∀(g:Unit),((0:Int) <= (3:Int)/\(3:Int)<(↑(4:Nat):Int))/\Exx ((Nat×Nat)×List Int) fun x_5=>((q1/\((0:Nat)+(1:Nat) <= (1:Nat)/\1=x_5.2.length/\∀(i:Nat),
 let q5:Nat:=0+i; i<x_5.2.length->[AV.int .i64 (if q5=0*1 / 1 then gapN x_4.1 x_4.2 else 0)]=[AV.int .i64 (x_5.2.getD i 0)])/\True)/\true=true/\setB (y.n,y.w)=setB x_5.1/\True)/\(SetW x_5.1/\Ints x_5.2)/\∀(y_1:Unit),True->Exx Unit fun y_2=>Exx Unit fun g=>Tr 1 (((160:TypeId)=160/\Tr 1 (y.r=(za4 x.1 x.2).r)/\q1/\q1/\q1/\q2)/\setB (y.n,y.c)=setB ((za4 x.1 x.2).n,(za4 x.1 x.2).c)/\setB (y.n,y.e)=setB ((za4 x.1 x.2).n,(za4 x.1 x.2).e)/\setB (y.n,y.m)=setB ((za4 x.1 x.2).n,(za4 x.1 x.2).m)/\setB (x_5.1.1,addL x_5.1.1 x_5.1.2 x_5.2)=setB ((za4 x.1 x.2).n,(za4 x.1 x.2).w)/\True)/\(((Tr 1 (gapN x_4.1 x_4.2=zeM x.1 x.2)/\Tr 1 ((0:Int)=zcE x.1 x.2)/\True)/\True)/\(zcD (za4 x.1 x.2)).ob=zaB (za4 x.1 x.2)/\true=true/\True)/\True))=(zcQ tb [(61,zaA ziH),(111,zaA zgF),(112,zdC (zaA zkQ) (zaA zhQ)),(114,zdC (zaA qoW) (zaA zyD)),(115,zaA zt8)] Tryz.f80 qhB (fun x=>{ opensE:=[(5,[{ p:=0,Y:=AllocT,o:=zcD }])] }) (fun _ _ _=>none) (fun _=>[]) (fun x y av H=>clIf 0 H [(0,[3,4,5,6],zcD (za4 x.1 x.2))])):=by kernel_rfl

theorem qmY:SpecOk Tryz.prog 80 (zaA qhB):=by
 refine za5 zaM zaL (SPok.cons zkP (SPok.cons zfK (SPok.cons (zbM ziJ zg2) (SPok.cons (zbM qkK qdH) (SPok.cons zwX SPok.nil))))) Tryz.func80 (by decide) (zjC fun _=>⟨rfl,rfl,trivial⟩) (Eq.mp takeRV ?_)
 simp (maxSteps:=10000000) only [std,stdU,stdV,Exx,I64,Nat.reduceMul,Nat.reduceDiv,Nat.reduceAdd,Int.reduceToNat,za6,zd7,zdN,zaK]
 rintro x r ⟨h,h1,h2⟩
 have hb:=qdL h
 have hs:SetW (x.n,zbT x):=⟨h.1,qbB h⟩
 have e:(x.n:Int)-((bitsL x.n (zbT x)).length:Nat)=freeN x:=rfl
 rw [e]
 refine ⟨h,hs,hs,by omega,by omega,fun hle=>⟨by rw [zeM,if_pos hle],by rw [zcE,if_pos hle],by rw [za4,if_pos hle]⟩,fun hgt=>?_⟩
 rw [za4,if_neg hgt,zeM,if_neg hgt,zcE,if_neg hgt]
 have hg:=zvF hs 0
 refine ⟨hs,by omega,by omega,by omega,by omega,x.n,x.w,[gapN (x.n,zbT x) 0],rfl,fun i hi=>?_,rfl,rfl,⟨h.1,h.2.2.2.2.2⟩,⟨fun y hy=>?_,by simp⟩,rfl,rfl,rfl,rfl,rfl,rfl,rfl,rfl,rfl,rfl,rfl⟩
 ·have:i=0:=by simpa using hi
  subst this; rfl
 ·have:y=gapN (x.n,zbT x) 0:=by simpa using hy
  rw [this]; exact hg

def zt0:Ctr where
 X:=AllocT×Int
 Y:=Unit
 conv:=true
 tau:=zy3
 pre:=fun x=>zbJ x.1/\I64 x.2
 args:=fun x=>[.ptr 0 [] 0,i64 x.2]
 heap:=fun x=>zj9 x.1
 Q:=fun _ _=>True
 res:=fun x _ => .tup [i64 (zeM x.1 x.2),i64 (zcE x.1 x.2)]
 its:=fun x _=>zj9 (za4 x.1 x.2)
 new:=fun x _=>[]
theorem qhC:CtrOk zt0 :=
 ⟨fun _ _ _ _=>(rfl:5=5),fun _ _ _ _=>⟨rfl,rfl⟩,fun x _ _ _ _=>⟨⟨qlS _,trivial⟩,⟨rfl,rfl,trivial⟩⟩⟩

theorem takeROV:(
 let q1:Prop:=true=true/\zaC/\(0:Nat)=0;
 let q2:Prop:=q1/\True;
 let q3:Prop:=(160:TypeId)=160;
 let q4:Prop:=q1/\q1/\q1/\q2;
 let q5:Nat:=(TI.mk (TK.int IntKind.i64) 1 8 (ZL.cons (Value.int IntKind.i64 0) ZL.nil) false).size; ∀(x:AllocT×Int),
 let q6:Ob:=setB ((za4 x.1 x.2).n,(za4 x.1 x.2).c);
 let q7:Ob:=setB ((za4 x.1 x.2).n,(za4 x.1 x.2).e);
 let q8:Ob:=setB ((za4 x.1 x.2).n,(za4 x.1 x.2).m);
 let q9:Ob:=setB ((za4 x.1 x.2).n,(za4 x.1 x.2).w); zbJ x.1/\I64 x.2->Exx AllocT fun x_1=>(q2/\true=true/\(q3/\Tr 1 (x.1.r=x_1.r)/\q4)/\setB (x.1.n,x.1.c)=setB (x_1.n,x_1.c)/\setB (x.1.n,x.1.e)=setB (x_1.n,x_1.e)/\setB (x.1.n,x.1.m)=setB (x_1.n,x_1.m)/\setB (x.1.n,x.1.w)=setB (x_1.n,x_1.w)/\True)/\zbJ x_1/\∀(y:Unit),True->Exx ((Nat×Nat)×Unit) fun x_2=>(q2/\true=true/\setB (x_1.n,zbT x_1)=setB x_2.1/\True)/\(SetW x_2.1/\True)/\∀(y:Unit),True->Exx ((Nat×Nat)×Unit) fun x_3 =>
 let q10:Int:=(x_2.1.1:Int)-(↑(bitsL x_3.1.1 x_3.1.2).length:Int); (q2/\true=true/\setB x_2.1=setB x_3.1/\True)/\(SetW x_3.1/\True)/\∀(y:Unit),True->I64 q10/\BC (decide (q10 <= x.2)) (Exx Unit fun y=>(((Tr 1 ((0:Int)=zeM x.1 x.2)/\Tr 1 ((10:Int)=zcE x.1 x.2)/\True)/\True)/\(q3/\Tr 1 (x_1.r=(za4 x.1 x.2).r)/\q4)/\setB (x_1.n,x_1.c)=q6/\setB (x_1.n,x_1.e)=q7/\setB (x_1.n,x_1.m)=q8/\setB (x_1.n,x_1.w)=q9/\true=true/\True)/\True) (Exx ((Nat×Nat)×Int) fun x_4=>((q1/\Tr 1 ((0:Int)=x_4.2)/\True)/\true=true/\setB x_3.1=setB x_4.1/\True)/\(SetW x_4.1/\I64 x_4.2)/\∀(y:Unit),True->((0:Int) <= (3:Int)/\(3:Int)<(↑(4:Nat):Int))/\Exx ((Nat×Nat)×List Int) fun x_5=>((q1/\((0:Nat)+(1:Nat) <= (1:Nat)/\1=x_5.2.length/\∀(i:Nat),
 let q11:Nat:=0+i; i<x_5.2.length->[AV.int .i64 (if q11=0*1 / 1 then gapN x_4.1 x_4.2 else 0)]=[AV.int .i64 (x_5.2.getD i 0)])/\True)/\true=true/\setB (x_1.n,x_1.w)=setB x_5.1/\True)/\(SetW x_5.1/\Ints x_5.2)/\∀(y:Unit),True->Exx Unit fun y=>(((Tr 1 (gapN x_4.1 x_4.2=zeM x.1 x.2)/\Tr 1 ((0:Int)=zcE x.1 x.2)/\True)/\True)/\(q3/\Tr 1 (x_1.r=(za4 x.1 x.2).r)/\q4)/\setB (x_1.n,x_1.c)=q6/\setB (x_1.n,x_1.e)=q7/\setB (x_1.n,x_1.m)=q8/\setB (x_5.1.1,addL x_5.1.1 x_5.1.2 x_5.2)=q9/\true=true/\True)/\True))=(fnVC tb [(61,zaA ziH),(111,zaA zgF),(112,zdC (zaA zkQ) (zaA zhQ)),(114,zdC (zaA qoW) (zaA zyD)),(115,zaA zt8)] Tryz.f80 zt0 (fun _=>{}) (fun _=>none)):=by kernel_rfl

theorem qhA:SpecOk Tryz.prog 80 (zaA zt0):=by
 refine zaJ zaM zaL (SPok.cons zkP (SPok.cons zfK (SPok.cons (zbM ziJ zg2) (SPok.cons (zbM qkK qdH) (SPok.cons zwX SPok.nil))))) Tryz.func80 (by decide) qhC (Eq.mp takeROV ?_)
 simp (maxSteps:=10000000) only [std,stdU,stdV,Exx,I64,Nat.reduceMul,Nat.reduceDiv,Nat.reduceAdd,Int.reduceToNat,za6]
 rintro x r ⟨h,h1,h2⟩
 have hb:=qdL h
 have hs:SetW (x.n,zbT x):=⟨h.1,qbB h⟩
 have e:(x.n:Int)-((bitsL x.n (zbT x)).length:Nat)=freeN x:=rfl
 refine ⟨x,rfl,rfl,rfl,rfl,rfl,rfl,rfl,rfl,rfl,h,hs,hs,?_⟩
 rw [e]
 refine ⟨by omega,by omega,fun hle=>?_,fun hgt=>?_⟩
 ·rw [zeM,if_pos hle,zcE,if_pos hle,za4,if_pos hle]
  exact ⟨rfl,rfl,rfl,rfl,rfl,rfl,rfl,rfl,rfl,rfl,rfl⟩
 rw [za4,if_neg hgt,zeM,if_neg hgt,zcE,if_neg hgt]
 have hg:=zvF hs 0
 refine ⟨hs,by omega,by omega,by omega,by omega,x.n,x.w,[gapN (x.n,zbT x) 0],rfl,fun i hi=>?_,rfl,rfl,⟨h.1,h.2.2.2.2.2⟩,⟨fun y hy=>?_,by simp⟩,rfl,rfl,rfl,rfl,rfl,rfl,rfl,rfl,rfl,rfl,rfl⟩
 ·have:i=0:=by simpa using hi
  subst this; rfl
 ·have:y=gapN (x.n,zbT x) 0:=by simpa using hy
  rw [this]; exact hg

def zn3:Ctr:=zmQ Unit (fun _=>True) (fun _=>[]) (fun x=>za4 x.1 x.1.r) (fun x => .tup [i64 (zeM x.1 x.1.r),i64 (zcE x.1 x.1.r)])
theorem qgI:(
 let q1:Prop:=true=true/\zaC/\(0:Nat)=0;
 let q2:Prop:=(160:TypeId)=160;
 let q3:Prop:=q1/\q1/\q1/\q1/\True; ∀(x:AllocT×Unit),zbJ x.1/\True->zaB x.1=(zcD x.1).ob/\∀(g:Unit),Exx (AllocT×Int) fun x_1=>((q1/\Tr 1 (x.1.r=x_1.2)/\True)/\true=true/\(q2/\Tr 1 (x.1.r=x_1.1.r)/\q3)/\setB (x.1.n,x.1.c)=setB (x_1.1.n,x_1.1.c)/\setB (x.1.n,x.1.e)=setB (x_1.1.n,x_1.1.e)/\setB (x.1.n,x.1.m)=setB (x_1.1.n,x_1.1.m)/\setB (x.1.n,x.1.w)=setB (x_1.1.n,x_1.1.w)/\True)/\(zbJ x_1.1/\I64 x_1.2)/\∀(y:Unit),True->Exx Unit fun y=>Exx Unit fun g=>Tr 1 ((q2/\Tr 1 ((za4 x_1.1 x_1.2).r=(za4 x.1 x.1.r).r)/\q3)/\setB ((za4 x_1.1 x_1.2).n,(za4 x_1.1 x_1.2).c)=setB ((za4 x.1 x.1.r).n,(za4 x.1 x.1.r).c)/\setB ((za4 x_1.1 x_1.2).n,(za4 x_1.1 x_1.2).e)=setB ((za4 x.1 x.1.r).n,(za4 x.1 x.1.r).e)/\setB ((za4 x_1.1 x_1.2).n,(za4 x_1.1 x_1.2).m)=setB ((za4 x.1 x.1.r).n,(za4 x.1 x.1.r).m)/\setB ((za4 x_1.1 x_1.2).n,(za4 x_1.1 x_1.2).w)=setB ((za4 x.1 x.1.r).n,(za4 x.1 x.1.r).w)/\True)/\(((Tr 1 (zeM x_1.1 x_1.2=zeM x.1 x.1.r)/\Tr 1 (zcE x_1.1 x_1.2=zcE x.1 x.1.r)/\True)/\True)/\(zcD (za4 x.1 x.1.r)).ob=zaB (za4 x.1 x.1.r)/\true=true/\True)/\True)=(zcQ tb [(80,zdC (zaA qhB) (zaA zt0))] Tryz.f46 zn3 (fun _=>{}) (fun _ _ _=>none) (fun x=>[(0,zcD x.1)]) (fun x y av H=>[(0,[2,3,4,5],zcD (za4 x.1 x.1.r))])):=by kernel_rfl

theorem zy4:SpecOk Tryz.prog 46 (zaA zn3):=by
 refine za5 zaM zaL (SPok.cons (zbM qmY qhA) SPok.nil) Tryz.func46 (by decide) (zjC fun _=>⟨rfl,rfl,trivial⟩) (Eq.mp qgI ?_)
 simp (maxSteps:=10000000) only [std,stdU,stdV,Exx,I64,Nat.reduceMul,Nat.reduceDiv,Nat.reduceAdd,Int.reduceToNat,za6,zd7,zdN,zaK]
 exact fun x h=>⟨x,rfl,rfl,rfl,rfl,rfl,rfl,rfl,rfl,rfl,h,h.2.1.1,h.2.1.2,rfl,rfl,rfl,rfl,rfl,rfl,rfl,rfl,rfl,rfl,rfl⟩

def zgT (x:AllocT) (a:Int):AllocT:={ x with w:=drop1 x.n x.w a }
def zcY (x:AllocT) (a:Int):Int:=if hasN (x.n,x.w) a=true then 0 else 2
def zj8:Ctr:=zmQ Int (fun x=>I64 x.2) (fun x=>[i64 x.2]) (fun x=>zgT x.1 x.2) (fun x=>i64 (zcY x.1 x.2))

theorem qgJ:(
 let q1:Prop:=(0:Int) <= (3:Int)/\(3:Int)<(↑(4:Nat):Int);
 let q2:Prop:=true=true/\zaC/\(0:Nat)=0;
 let q3:Prop:=(160:TypeId)=160;
 let q4:Prop:=q2/\q2/\q2/\q2/\True;
 let q5:Nat:=(TI.mk (TK.int IntKind.i64) 1 8 (ZL.cons (Value.int IntKind.i64 0) ZL.nil) false).size; ∀(x:AllocT×Int),
 let q6:Prop:=q3/\Tr 1 (x.1.r=(zgT x.1 x.2).r)/\q4;
 let q7:Prop:=setB (x.1.n,x.1.c)=setB ((zgT x.1 x.2).n,(zgT x.1 x.2).c);
 let q8:Prop:=setB (x.1.n,x.1.e)=setB ((zgT x.1 x.2).n,(zgT x.1 x.2).e);
 let q9:Prop:=setB (x.1.n,x.1.m)=setB ((zgT x.1 x.2).n,(zgT x.1 x.2).m);
 let q10:Ob:=setB ((zgT x.1 x.2).n,(zgT x.1 x.2).w);
 let q11:Prop:=(zcD (zgT x.1 x.2)).ob=zaB (zgT x.1 x.2)/\true=true/\True; zbJ x.1/\I64 x.2->zaB x.1=(zcD x.1).ob/\∀(g:Unit),q1/\Exx ((Nat×Nat)×Int) fun x_1=>((q2/\Tr 1 (x.2=x_1.2)/\True)/\true=true/\setB (x.1.n,x.1.w)=setB x_1.1/\True)/\(SetW x_1.1/\I64 x_1.2)/\∀(y:Unit),True->BC (!hasN x_1.1 x_1.2) (Exx Unit fun y=>Exx Unit fun g=>Tr 1 (q6/\q7/\q8/\q9/\setB x_1.1=q10/\True)/\((Tr 1 ((2:Int)=zcY x.1 x.2)/\True)/\q11)/\True) (q1/\Exx ((Nat×Nat)×List Int) fun x_2=>((q2/\((0:Nat)+(1:Nat) <= (1:Nat)/\1=x_2.2.length/\∀(i:Nat),
 let q12:Nat:=0+i; i<x_2.2.length->[AV.int .i64 (if q12=0*1 / 1 then x.2 else 0)]=[AV.int .i64 (x_2.2.getD i 0)])/\True)/\true=true/\setB x_1.1=setB x_2.1/\True)/\(SetW x_2.1/\Ints x_2.2)/\∀(y:Unit),True->Exx Unit fun y=>Exx Unit fun g=>Tr 1 (q6/\q7/\q8/\q9/\setB (x_2.1.1,zh6 x_2.1.1 x_2.1.2 x_2.2)=q10/\True)/\((Tr 1 ((0:Int)=zcY x.1 x.2)/\True)/\q11)/\True))=(zcQ tb [(135,zdC (zaA zm5) (zaA zjL)),(136,zaA zt9)] Tryz.f93 zj8 (fun _=>{}) (fun _ _ _=>none) (fun x=>[(0,zcD x.1)]) (fun x y av H=>[(0,[2,3,4,5],zcD (zgT x.1 x.2))])):=by kernel_rfl

theorem zoP:SpecOk Tryz.prog 93 (zaA zj8):=by
 refine za5 zaM zaL (SPok.cons (zbM zlK zjK) (SPok.cons qeR SPok.nil)) Tryz.func93 (by decide) (zjC fun _=>rfl) (Eq.mp qgJ ?_)
 simp (maxSteps:=10000000) only [std,stdU,stdV,Exx,I64,Nat.reduceMul,Nat.reduceDiv,Nat.reduceAdd,Int.reduceToNat,za6,zd7,zdN,zaK]
 rintro x a ⟨h,h1,h2⟩
 have hs:SetW (x.n,x.w):=⟨h.1,h.2.2.2.2.2⟩
 refine ⟨by omega,by omega,hs,h1,h2,fun hn=>⟨rfl,rfl,rfl,rfl,rfl,rfl,rfl,rfl,?_,by rw [zcY,hn]; rfl⟩,fun hy=>⟨by omega,by omega,x.n,x.w,[a],rfl,fun i hi=>?_,rfl,rfl,hs,⟨fun y hy=>?_,by simp⟩,rfl,rfl,rfl,rfl,rfl,rfl,rfl,rfl,rfl,by rw [zcY,if_pos hy]⟩⟩
 ·apply Nat.eq_of_testBit_eq
  intro i
  show x.w.testBit i=(drop1 x.n x.w a).testBit i
  rw [zrI]
  by_cases e:i<x.n/\(i:Int)=a
  ·obtain ⟨e1,rfl⟩:=e
   have hin:inSet (x.n,x.w) (i:Int):=⟨by omega,by simp only; omega⟩
   rw [hasN,decide_eq_true hin,Bool.true_and] at hn
   have hn':x.w.testBit i=false:=hn
   rw [hn']; rfl
  ·rw [decide_eq_false e]; simp
 ·have:i=0:=by simpa using hi
  subst this; rfl
 ·have:y=a:=by simpa using hy
  rw [this]; exact ⟨h1,h2⟩

def zrX:Ctr:=zy6 Int (fun x=>I64 x.2) (fun x=>[i64 x.2]) (fun x => .bool (hasN (x.1.n,x.1.w) x.2 && !hasN (x.1.n,x.1.m) x.2))

theorem qlT:(
 let q1:Prop:=true=true/\zaC/\(0:Nat)=0;
 let q2:Prop:=(160:TypeId)=160;
 let q3:Prop:=q1/\q1/\q1/\q1/\True; ∀(x:AllocT×Int),
 let q4:Prop:=setB (x.1.n,x.1.c)=setB (x.1.n,x.1.c);
 let q5:Prop:=setB (x.1.n,x.1.e)=setB (x.1.n,x.1.e);
 let q6:Bool:=hasN (x.1.n,x.1.w) x.2 && !hasN (x.1.n,x.1.m) x.2;
 let q7:Prop:=(zcD x.1).ob=zaB x.1/\true=true/\True; zbJ x.1/\I64 x.2->zaB x.1=(zcD x.1).ob/\∀(g:Unit),((0:Int) <= (3:Int)/\(3:Int)<(↑(4:Nat):Int))/\Exx ((Nat×Nat)×Int) fun x_1 =>
 let q8:Prop:=setB x_1.1=setB (x.1.n,x.1.w)/\True; ((q1/\Tr 1 (x.2=x_1.2)/\True)/\true=true/\setB (x.1.n,x.1.w)=setB x_1.1/\True)/\(SetW x_1.1/\I64 x_1.2)/\∀(y:Unit),True->BC (hasN x_1.1 x_1.2) (((0:Int) <= (2:Int)/\(2:Int)<(↑(4:Nat):Int))/\Exx ((Nat×Nat)×Int) fun x_2=>((q1/\Tr 1 (x.2=x_2.2)/\True)/\true=true/\setB (x.1.n,x.1.m)=setB x_2.1/\True)/\(SetW x_2.1/\I64 x_2.2)/\∀(y:Unit),True->Exx Unit fun y=>Exx Unit fun g=>Tr 1 ((q2/\Tr 1 (x.1.r=x.1.r)/\q3)/\q4/\q5/\setB x_2.1=setB (x.1.n,x.1.m)/\q8)/\(((!hasN x_2.1 x_2.2)=q6/\True)/\q7)/\True) (Exx Unit fun y=>Exx Unit fun g=>Tr 1 ((q2/\Tr 1 (x.1.r=x.1.r)/\q3)/\q4/\q5/\setB (x.1.n,x.1.m)=setB (x.1.n,x.1.m)/\q8)/\((false=q6/\True)/\q7)/\True))=(zcQ tb [(135,zdC (zaA zm5) (zaA zjL))] Tryz.f166 zrX (fun _=>{}) (fun _ _ _=>none) (fun x=>[(0,zcD x.1)]) (fun x y av H=>[(0,[2,3,4,5],zcD x.1)])):=by kernel_rfl

theorem qb1:SpecOk Tryz.prog 166 (zaA zrX):=by
 refine za5 zaM zaL (SPok.cons (zbM zlK zjK) SPok.nil) Tryz.func166 (by decide) (zy5 fun _=>rfl) (Eq.mp qlT ?_)
 simp (maxSteps:=10000000) only [std,stdU,stdV,Exx,I64,Nat.reduceMul,Nat.reduceDiv,Nat.reduceAdd,Int.reduceToNat,za6,zd7,zdN,zaK]
 rintro x a ⟨h,h1,h2⟩
 have hs:SetW (x.n,x.w):=⟨h.1,h.2.2.2.2.2⟩
 have hm:SetW (x.n,x.m):=⟨h.1,h.2.2.2.2.1⟩
 exact ⟨by omega,by omega,hs,h1,h2,fun e=>⟨by omega,by omega,hm,h1,h2,by rw [e]; rfl⟩,fun e=>by rw [e]; rfl⟩

def qjP (x:AllocT):Nat->Nat
 | 0=>x.c
 | 1=>x.e
 | 2=>x.m
 | _=>x.w
def qjN (x:AllocT) (k v:Nat):AllocT:=match k with
 | 0=>{ x with c:=v }
 | 1=>{ x with e:=v }
 | 2=>{ x with m:=v }
 | _=>{ x with w:=v }
def qbX (x:AllocT) (k o:Nat):AllocT:=qjN x k (qjP x o)
theorem qlQ {x:AllocT} (h:zbJ x) (k o:Nat):zbJ (qbX x k o):=by
 obtain ⟨h1,h2,h3,h4,h5,h6⟩:=h
 have hm:qjP x o<2 ^ x.n:=by unfold qjP; split <;> assumption
 unfold qbX qjN
 split <;> exact ⟨by assumption,by assumption,by assumption,by assumption,by assumption,by assumption⟩
def markS (x:AllocT):AllocT:=qbX x 2 3
abbrev NewX:Type:=(Nat×Nat)×(Nat×Nat)×Int
def zcW (x:NewX):AllocT:={ n:=x.1.1,r:=x.2.2,c:=x.1.2,e:=x.2.1.2,m:=x.1.2,w:=x.1.2 }
def allocNewI:Ctr2 where
 X:=NewX
 conv:=true
 tau:=tau2
 pre:=fun x=>SetW x.1/\SetW x.2.1/\I64 x.2.2
 args:=fun x=>[.ptr 0 [] 0,.ptr 1 [] 0,i64 x.2.2]
 heap:=fun x=>[setI x.1,setI x.2.1]
 p:=fun x=>x.1.1=x.2.1.1/\0 <= x.2.2
 a:={ Y:=Unit,Q:=fun _ _=>True,res:=fun _ _ => .tup [.ptr 3 [] 0,i64 0],its:=fun x _=>[setI x.1,setI x.2.1],new:=fun x _=>[zgC (zcW x)] }
 b:={ Y:=Unit,Q:=fun _ _=>True,res:=fun _ _ => .tup [.nilp,i64 2],its:=fun x _=>[setI x.1,setI x.2.1],new:=fun _ _=>[] }

theorem qlU:(
 let q1:Prop:=true=true/\zaC/\(0:Nat)=0;
 let q2:Prop:=q1/\True;
 let q3:Prop:=(0:Int)<(↑(3:Nat):Int);
 let q4:Nat:=2*1 / 1;
 let q5:Nat:=(TI.mk (TK.int IntKind.i64) 1 8 (ZL.cons (Value.int IntKind.i64 0) ZL.nil) false).size;
 let q6:Nat:=(2,Operand.const (Value.int IntKind.i64 3)).1*q5 / 1;
 let q7:Nat:=1*1 / 1;
 let q8:Nat:=(1,Operand.const (Value.int IntKind.i64 2)).1*q5 / 1;
 let q9:Nat:=0*1 / 1;
 let q10:Nat:=(0,Operand.const (Value.int IntKind.i64 0)).1*q5 / 1;
 let q11:Int:=if Int.toNat 0=q4 then 3 else if Int.toNat 0=q7 then 2 else if Int.toNat 0=q9 then 0 else 0;
 let q12:Int:=0+1;
 let q13:Prop:=q12<(↑(3:Nat):Int);
 let q14:Nat:=q12.toNat;
 let q15:Int:=if q14=q4 then 3 else if q14=q7 then 2 else if q14=q9 then 0 else 0;
 let q16:Int:=q12+1;
 let q17:Prop:=q16<(↑(3:Nat):Int);
 let q18:Nat:=q16.toNat;
 let q19:Int:=if q18=q4 then 3 else if q18=q7 then 2 else if q18=q9 then 0 else 0; ∀(x:(Nat×Nat)×(Nat×Nat)×Int),
 let q20:Prop:=x.1.1=x.2.1.1/\(0:Int) <= x.2.2; SetW x.1/\SetW x.2.1/\I64 x.2.2->Exx ((Nat×Nat)×Unit) fun x_1=>(q2/\true=true/\setB x.1=setB x_1.1/\True)/\(SetW x_1.1/\True)/\∀(y:Unit),True->Exx ((Nat×Nat)×Unit) fun x_2 =>
 let q21:Prop:=(q20/\Exx Unit fun y=>False)\/¬allocNewI.p x/\Exx Unit fun y=>((Tr 1 (Tr 1 ((2:Int)=2)/\True)/\True)/\setB x_1.1=setB x.1/\setB x_2.1=setB x.2.1/\true=true/\True)/\True; (q2/\true=true/\setB x.2.1=setB x_2.1/\True)/\(SetW x_2.1/\True)/\∀(y:Unit),True->BC (!decide ((x_1.1.1:Int)=(x_2.1.1:Int))) q21 (BC (decide (x.2.2<(0:Int))) q21 (Exx (Nat×Nat) fun x_3 =>
 let q22:Prop:=setB x_3=setB x.2.1; (q2/\true=true/\setB x_2.1=setB x_3/\True)/\SetW x_3/\∀(y:Unit),True->((0:Int) <= (1:Int)/\(1:Int)<(↑(4:Nat):Int))/\((0:Int) <= (0:Int)/\q3/\q3)/\Exx (Nat×Nat) fun x_4=>(q2/\true=true/\setB x_1.1=setB x_4/\True)/\SetW x_4/\∀(y:Unit),True->((0:Int) <= q11/\q11<(↑(4:Nat):Int))/\I64 q12/\((0:Int) <= q12/\q13/\q13)/\Exx (Nat×Nat) fun x_5=>(q2/\true=true/\setB x_4=setB x_5/\True)/\SetW x_5/\∀(y:Unit),True->((0:Int) <= q15/\q15<(↑(4:Nat):Int))/\I64 q16/\((0:Int) <= q16/\q17/\q17)/\Exx (Nat×Nat) fun x_6=>(q2/\true=true/\setB x_5=setB x_6/\True)/\SetW x_6/\∀(y:Unit),True->((0:Int) <= q19/\q19<(↑(4:Nat):Int))/\I64 (q16+1)/\((q20/\Exx Unit fun y=>Exx Unit fun g=>Tr 1 (((160:Nat)=(160:TypeId)/\Tr 1 (x.2.2=(zcW x).r)/\q1/\q1/\q1/\q2)/\setB x_4=setB ((zcW x).n,(zcW x).c)/\setB x_3=setB ((zcW x).n,(zcW x).e)/\setB x_5=setB ((zcW x).n,(zcW x).m)/\setB x_6=setB ((zcW x).n,(zcW x).w)/\True)/\(((q1/\Tr 1 ((0:Int)=0)/\True)/\True)/\setB x_6=setB x.1/\q22/\true=true/\(zcD (zcW x)).ob=zaB (zcW x)/\True)/\True)\/¬allocNewI.p x/\Exx Unit fun y=>(((False/\Tr 1 ((0:Int)=2)/\True)/\True)/\setB x_6=setB x.1/\q22/\true=true/\True)/\True))))=(qf4 tb [(98,zaA zjA),(111,zaA zgF)] Tryz.f77 allocNewI (fun x=>{ loose:=[(6,[1,3]),(10,[0,3])],unroll:=[(8,4)] }) (fun _ _ _=>none) (fun _=>[]) (fun x y av H=>[(3,[5,4,6,7],zcD (zcW x))]) (fun _ _ _ _=>[])):=by kernel_rfl

theorem qb2:SpecOk Tryz.prog 77 (zh4 allocNewI):=by
 refine zt3 zaM zaL (SPok.cons zhH (SPok.cons zfK SPok.nil)) Tryz.func77 (by decide) ⟨fun _ _ _ _=>(rfl:2=2),fun _ _ _ _=>⟨rfl,rfl⟩,fun x _ _ _ _=>⟨⟨⟨trivial,trivial,trivial⟩,⟨trivial,trivial⟩⟩,rfl,rfl,trivial⟩⟩ ⟨fun _ _ _ _=>(rfl:2=2),fun _ _ _ _=>⟨rfl,rfl⟩,fun x _ _ _ _=>⟨⟨⟨trivial,trivial,trivial⟩,trivial⟩,rfl,rfl,trivial⟩⟩ (Eq.mp qlU ?_)
 simp (maxSteps:=10000000) only [std,stdU,stdV,Exx,I64,Nat.reduceMul,Nat.reduceDiv,Nat.reduceAdd,Int.reduceToNat,za6,zd7,zdN,zaK]
 rintro n a n' b r ⟨h1,h2,h3,h4⟩
 refine ⟨h1,h2,fun hne hp=>hne hp.1,fun e=>⟨fun hr hp=>by have:=hp.2; simp only at this; omega,fun hr=>?_⟩⟩
 subst e
 simp only [if_pos,if_neg,Nat.reduceEqDiff,Nat.succ_ne_self,Nat.zero_add,Int.reduceToNat,Int.reduceAdd,if_true,if_false,zcW,and_true,true_and]
 repeat refine And.intro (by first | omega | exact h1 | exact h2) ?_
 omega

def tauArg2 (args:List AV) (H:AH):List Nat:=match args with
 | _ :: .ptr p _ _ :: _=>[p]
 | _=>[]
def zjE (tau:List AV->AH->List Nat) (args:List AV):Ctr where
 X:=(Nat×Nat)×Int
 Y:=Unit
 conv:=true
 tau:=tau
 pre:=fun x=>I64 x.2
 args:=fun x=>args++[i64 x.2]
 heap:=fun x=>[setI x.1]
 Q:=fun _ _=>True
 res:=fun x _ => .tup [.nilp,i64 1]
 its:=fun x _=>[setI x.1]
 new:=fun _ _=>[]
theorem zjD (tau:List AV->AH->List Nat) (args:List AV):CtrOk (zjE tau args) :=
 ⟨fun _ _ _ _=>rfl,fun _ _ _ _=>⟨rfl,rfl⟩,fun x _ _ _ _=>⟨⟨⟨trivial,trivial⟩,trivial⟩,⟨rfl,rfl,trivial⟩⟩⟩
def zk9:Ctr:=zjE tauArg2 [.nilp,.ptr 0 [] 0]
def zk8:Ctr:=zjE zgI [.ptr 0 [] 0,.nilp]

theorem qb4:(∀(x:(Nat×Nat)×Int),-9223372036854775808 <= x.2/\x.2 <= (9223372036854775807:Int)->Exx Unit fun y=>((Tr 1 (Tr 1 ((1:Int) =
 1)/\True)/\True)/\setB x.1=setB x.1/\true=true/\True)/\True)=(fnVC tb [(98,zaA zjA),(111,zaA zgF)] Tryz.f77 zk9 (fun _ =>
 {}) (fun _=>none)):=by kernel_rfl

theorem zvZ:SpecOk Tryz.prog 77 (zaA zk9):=by
 refine zaJ zaM zaL (SPok.cons zhH (SPok.cons zfK SPok.nil)) Tryz.func77 (by decide) (zjD _ _) (Eq.mp qb4 ?_)
 simp (maxSteps:=10000000) only [std,stdU,stdV,Exx,I64,Nat.reduceMul,Nat.reduceDiv,Nat.reduceAdd,Int.reduceToNat,za6]

theorem qb3:(∀(x:(Nat×Nat)×Int),-9223372036854775808 <= x.2/\x.2 <= (9223372036854775807:Int)->Exx Unit fun y=>((Tr 1 (Tr 1 ((1:Int) =
 1)/\True)/\True)/\setB x.1=setB x.1/\true=true/\True)/\True)=(fnVC tb [(98,zaA zjA),(111,zaA zgF)] Tryz.f77 zk8 (fun _ =>
 {}) (fun _=>none)):=by kernel_rfl

theorem zvY:SpecOk Tryz.prog 77 (zaA zk8):=by
 refine zaJ zaM zaL (SPok.cons zhH (SPok.cons zfK SPok.nil)) Tryz.func77 (by decide) (zjD _ _) (Eq.mp qb3 ?_)
 simp (maxSteps:=10000000) only [std,stdU,stdV,Exx,I64,Nat.reduceMul,Nat.reduceDiv,Nat.reduceAdd,Int.reduceToNat,za6]

def zoO:Sx.Spec:=zjI (qdW 0) (zaA zk9) (zjI (qdW 1) (zaA zk8) (zh4 allocNewI))
theorem zr9:SpecOk Tryz.prog 77 zoO:=zhO zvZ (zhO zvY qb2)

end Yard
