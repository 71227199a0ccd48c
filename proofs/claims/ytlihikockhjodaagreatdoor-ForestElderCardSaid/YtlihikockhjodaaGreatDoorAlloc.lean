import Derived.Test.YtlihikockhjodaaGreatDoorBits2

namespace Yard
open Go Go.Sx Go.Proofs
set_option linter.unusedVariables false
set_option linter.unusedSimpArgs false
set_option maxRecDepth 4000


theorem ztL {n m:Nat} {a:Int} {i:Nat}:(add1 n m a).testBit i=(m.testBit i || decide (i<n/\(i:Int)=a)):=by
 unfold add1 inB
 by_cases h:0 <= a/\a<(n:Int)
 ·rw [if_pos (decide_eq_true h),Nat.testBit_or,Nat.testBit_two_pow]
  have:(a.toNat=i) ↔ (i<n/\(i:Int)=a):=by omega
  simp only [this]
 ·rw [if_neg (by rw [decide_eq_false h]; simp)]
  have:¬(i<n/\(i:Int)=a):=by omega
  simp [this]
theorem qaM {n i:Nat}:∀{l:List Int} {m:Nat},(addL n m l).testBit i=(m.testBit i || decide (i<n/\(i:Int)∈l))
 | [],m=>by simp [addL]
 | a :: r,m=>by
   have e:addL n m (a :: r)=addL n (add1 n m a) r:=rfl
   rw [e,qaM (l:=r),ztL,Bool.or_assoc]
   congr 1
   rw [<- Bool.decide_or]
   apply decide_eq_decide.2
   rw [List.mem_cons]
   constructor
   ·rintro (⟨h1,h2⟩ | ⟨h1,h2⟩)
    ·exact ⟨h1,.inl h2⟩
    ·exact ⟨h1,.inr h2⟩
   ·rintro ⟨h1,h2 | h2⟩
    ·exact .inl ⟨h1,h2⟩
    ·exact .inr ⟨h1,h2⟩
theorem listN_mem {n m:Nat} {a:Int}:a∈zcS (n,m) ↔ 0 <= a/\a<(n:Int)/\m.testBit a.toNat=true:=by
 rw [zcS,List.mem_map]
 constructor
 ·rintro ⟨i,hi,rfl⟩
  obtain ⟨h1,h2⟩:=zv5.1 hi
  exact ⟨by omega,by simp only at h1; omega,h2⟩
 ·rintro ⟨h1,h2,h3⟩
  exact ⟨a.toNat,zv5.2 ⟨by simp only; omega,h3⟩,by omega⟩

theorem zpF {n m:Nat} {a:Int} {i:Nat}:(drop1 n m a).testBit i=(m.testBit i && !decide (i<n/\(i:Int)=a)):=by
 unfold drop1 inB
 by_cases h:0 <= a/\a<(n:Int)
 ·rw [if_pos (decide_eq_true h),zkG]
  have:(a.toNat=i) ↔ (i<n/\(i:Int)=a):=by omega
  simp only [this]
 ·rw [if_neg (by rw [decide_eq_false h]; simp)]
  have:¬(i<n/\(i:Int)=a):=by omega
  simp [this]
theorem zq1 {s:Nat×Nat} (h:SetW s):Ints (zcS s):=by
 have h1:=h.1
 refine ⟨fun x hx=>?_,?_⟩
 ·have:=(listN_mem (n:=s.1) (m:=s.2)).1 hx
  unfold I64; omega
 ·have:=zlJ s.1 s.2
  rw [zcS,List.length_map]; omega
def zg5 (s t:Nat×Nat):Nat×Nat:=(s.1,addL s.1 s.2 (zcS t))
def zzG (g:Nat×Nat->Nat×Nat->Nat×Nat):Ctr where
 X:=(Nat×Nat)×(Nat×Nat)
 Y:=Unit
 conv:=true
 tau:=tau2
 pre:=fun x=>SetW x.1/\SetW x.2
 args:=fun _=>[.ptr 0 [] 0,.ptr 1 [] 0]
 heap:=fun x=>[setI x.1,setI x.2]
 Q:=fun _ _=>True
 res:=fun x _ => .ptr 3 [] 0
 its:=fun x _=>[setI x.1,setI x.2]
 new:=fun x _=>[setI (g x.1 x.2)]
theorem zwW (g:Nat×Nat->Nat×Nat->Nat×Nat):CtrOk (zzG g) :=
 ⟨fun _ _ _ _=>(rfl:2=2),fun _ _ _ _=>⟨rfl,rfl⟩,fun x _ _ _ _=>⟨⟨⟨trivial,trivial,trivial⟩,⟨trivial,trivial⟩⟩,rfl⟩⟩
def zuF (g:Nat×Nat->Nat×Nat->Nat×Nat):Ctr where
 X:=Nat×Nat
 Y:=Unit
 conv:=true
 tau:=zgN
 pre:=SetW
 args:=fun _=>[.ptr 0 [] 0,.ptr 0 [] 0]
 heap:=fun x=>[setI x]
 Q:=fun _ _=>True
 res:=fun x _ => .ptr 2 [] 0
 its:=fun x _=>[setI x]
 new:=fun x _=>[setI (g x x)]
theorem zuE (g:Nat×Nat->Nat×Nat->Nat×Nat):CtrOk (zuF g) :=
 ⟨fun _ _ _ _=>(rfl:1=1),fun _ _ _ _=>⟨rfl,rfl⟩,fun x _ _ _ _=>⟨⟨⟨trivial,trivial⟩,⟨trivial,trivial⟩⟩,rfl⟩⟩
def zkQ:Ctr:=zzG zg5
def zhQ:Ctr:=zuF zg5
theorem qjQ:(
 let q1:Prop:=true=true/\zaC/\(0:Nat)=0;
 let q2:Prop:=q1/\True; ∀(x:(Nat×Nat)×Nat×Nat),SetW x.1/\SetW x.2->Exx (Nat×Nat) fun x_1=>(q2/\true=true/\setB x.1=setB x_1/\True)/\SetW x_1/\∀(y:Unit),True->Exx (Nat×Nat) fun x_2=>(q2/\true=true/\setB x.2=setB x_2/\True)/\SetW x_2/\∀(y:Nat),(zcS x_2).length <= y->Exx ((Nat×Nat)×List Int) fun x_3=>((q1/\(0+(zcS x_2).length <= (zcS x_2).length/\(zcS x_2).length=x_3.2.length/\∀(i:Nat),i<x_3.2.length->[AV.int .i64 ((zcS x_2).getD (0+i) 0)]=[AV.int .i64 (x_3.2.getD i 0)])/\True)/\true=true/\setB x_1=setB x_3.1/\True)/\(SetW x_3.1/\Ints x_3.2)/\∀(y:Unit),True->Exx Unit fun y=>(q2/\setB x_1=setB x.1/\setB x_2=setB x.2/\true=true/\setB (x_3.1.1,addL x_3.1.1 x_3.1.2 x_3.2)=setB (zg5 x.1 x.2)/\True)/\True)=(fnVC tb [(112,zc0 (zaB zjZ) (zaB zg1)),(178,zaB zgI),(179,zaB zkR)] Tryz.f140 zkQ (fun _=>{ loose:=[(2,[0,1,3])] }) (fun _=>none)):=by kernel_rfl

theorem zlY:SpecOk Tryz.prog 140 (zaB zkQ):=by
 refine zaK zaL zaN (SPok.cons (zbH zhS zgJ) (SPok.cons zoG (SPok.cons zqJ SPok.nil))) Tryz.func140 (by decide) (zwW _) (Eq.mp qjQ ?_)
 simp (maxSteps:=10000000) only [std,stdU,stdV,Exx,I64,Nat.reduceMul,Nat.reduceDiv,Nat.reduceAdd,Int.reduceToNat,zc2,zcD,zaV]
 exact fun _ _ _ _ h=>⟨h.1,h.2,fun _ _=>⟨h.1,zq1 h.2,rfl⟩⟩

theorem qd6:(
 let q1:Prop:=true=true/\zaC/\(0:Nat)=0;
 let q2:Prop:=q1/\True; ∀(x:Nat×Nat),SetW x->Exx (Nat×Nat) fun x_1=>(q2/\true=true/\setB x=setB x_1/\True)/\SetW x_1/\∀(y:Unit),True->Exx (Nat×Nat) fun x_2=>(q2/\true=true/\setB x_1=setB x_2/\True)/\SetW x_2/\∀(y:Nat),(zcS x_2).length <= y->Exx ((Nat×Nat)×List Int) fun x_3=>((q1/\(0+(zcS x_2).length <= (zcS x_2).length/\(zcS x_2).length=x_3.2.length/\∀(i:Nat),i<x_3.2.length->[AV.int .i64 ((zcS x_2).getD (0+i) 0)]=[AV.int .i64 (x_3.2.getD i 0)])/\True)/\true=true/\setB x_1=setB x_3.1/\True)/\(SetW x_3.1/\Ints x_3.2)/\∀(y:Unit),True->Exx Unit fun y=>(q2/\setB x_2=setB x/\true=true/\setB (x_3.1.1,addL x_3.1.1 x_3.1.2 x_3.2)=setB (zg5 x x)/\True)/\True)=(fnVC tb [(112,zc0 (zaB zjZ) (zaB zg1)),(178,zaB zgI),(179,zaB zkR)] Tryz.f140 zhQ (fun _=>{ loose:=[(2,[0,2])] }) (fun _=>none)):=by kernel_rfl

theorem zjY:SpecOk Tryz.prog 140 (zaB zhQ):=by
 refine zaK zaL zaN (SPok.cons (zbH zhS zgJ) (SPok.cons zoG (SPok.cons zqJ SPok.nil))) Tryz.func140 (by decide) (zuE _) (Eq.mp qd6 ?_)
 simp (maxSteps:=10000000) only [std,stdU,stdV,Exx,I64,Nat.reduceMul,Nat.reduceDiv,Nat.reduceAdd,Int.reduceToNat,zc2,zcD,zaV]
 exact fun _ _ h=>⟨h,h,fun _ _=>⟨h,zq1 h,rfl⟩⟩


structure AllocT where
 n:Nat
 r:Int
 c:Nat
 e:Nat
 m:Nat
 w:Nat
def za7 (x:AllocT):Prop:=x.n <= 3072/\I64 x.r/\x.c<2 ^ x.n/\x.e<2 ^ x.n/\x.m<2 ^ x.n/\x.w<2 ^ x.n
abbrev zjK (x:AllocT):AH:=[.cells 160 [i64 x.r,.ptr 1 [] 0,.ptr 2 [] 0,.ptr 3 [] 0,.ptr 4 [] 0],setI (x.n,x.c),setI (x.n,x.e),setI (x.n,x.m),setI (x.n,x.w)]
abbrev za5 (x:AllocT):Opn:={ tag:=[[(x.n:Int)],[x.r],[(x.c:Int)],[(x.e:Int)],[(x.m:Int)],[(x.w:Int)]],G:=Unit,fam:=fun _=>zjK x,pl:=fun _=>⟨⟨rfl,rfl,rfl,rfl,rfl,trivial⟩,trivial,trivial,trivial,trivial,trivial⟩,nf:=fun _=>rfl,root:=fun _=>rfl }
def zaA (x:AllocT):Ob:=(za5 x).ob
abbrev zeX (x:AllocT):Sx.Item := .obj (zaA x)
theorem zaH {s t:AllocT}:(zaA s=zaA t) ↔ s=t:=by
 constructor
 ·intro h
  have:=congrArg Ob.tag h
  simp only [zaA,Opn.ob,List.cons.injEq,and_true] at this
  obtain ⟨h1,h2,h3,h4,h5,h6⟩:=this
  cases s; cases t
  simp only at *
  rw [Int.ofNat_inj.1 h1,h2,Int.ofNat_inj.1 h3,Int.ofNat_inj.1 h4,Int.ofNat_inj.1 h5,Int.ofNat_inj.1 h6]
 ·intro h; rw [h]
theorem zbO {s t:AllocT}:(zaA s=(za5 t).ob) ↔ s=t:=zaH
theorem zbG {s t:AllocT}:((za5 s).ob=zaA t) ↔ s=t:=zaH

theorem addL_or {n a b:Nat} (h:b<2 ^ n):addL n a (zcS (n,b))=a ||| b:=by
 apply Nat.eq_of_testBit_eq
 intro i
 rw [qaM,Nat.testBit_or]
 congr 1
 by_cases hi:i<n
 ·rw [Bool.eq_iff_iff,decide_eq_true_eq,listN_mem,Int.toNat_natCast]
  exact ⟨fun h=>h.2.2.2,fun h=>⟨hi,by omega,by omega,h⟩⟩
 ·rw [Nat.testBit_lt_two_pow (Nat.lt_of_lt_of_le h (Nat.pow_le_pow_right (by decide) (by omega)))]
  exact decide_eq_false fun k=>hi k.1
theorem zg4 {n a b:Nat} (h:b<2 ^ n):zg5 (n,a) (n,b)=(n,a ||| b):=by rw [zg5,addL_or h]

def clIf (p:Nat) (H:AH) (l:List (Nat×List Nat×Opn)):List (Nat×List Nat×Opn):=match H[p]? with
 | some (.obj _)=>[]
 | _=>l
def zeD:Ctr:=zgI

theorem copiedV:(
 let q1:Prop:=true=true/\zaC/\(0:Nat)=0;
 let q2:Prop:=q1/\True; ∀(x:Nat×Nat),SetW x->Exx (Nat×Nat) fun x_1=>((q1/\q2)/\true=true/\setB x=setB x_1/\True)/\SetW x_1/\∀(y:Unit),True->Exx Unit fun y=>(q2/\setB x_1=setB x/\true=true/\setB (zg5 x_1 x_1)=setB x/\True)/\True)=(fnVC tb [(140,zuC (zaB zhQ) (zaB zkQ))] Tryz.f98 zeD (fun _=>{}) (fun _=>none)):=by kernel_rfl

theorem zc9:SpecOk Tryz.prog 98 (zaB zeD):=by
 refine zaK zaL zaN (SPok.cons (zn9 zjY zlY) SPok.nil) Tryz.func98 (by decide) zmY (Eq.mp copiedV ?_)
 simp (maxSteps:=10000000) only [std,stdU,stdV,Exx,I64,Nat.reduceMul,Nat.reduceDiv,Nat.reduceAdd,Int.reduceToNat,zaV]
 rintro n m h
 exact ⟨h,by rw [zg4 h.2,Nat.or_self]⟩

theorem qgR {s:Nat×Nat} (h:s.1 <= 3072):∀k a:Nat,-1 <= gapF s k a/\gapF s k a <= 3072
 | 0,_=>⟨by simp [gapF],by simp [gapF]⟩
 | k+1,a=>by
   rw [gapF]
   have:=qgR h k (a+1)
   split
   ·split
    ·exact this
    ·omega
   ·omega
theorem zs2 {s:Nat×Nat} (h:SetW s) (a:Int):I64 (gapN s a):=by
 have:=qgR h.1 (s.1+1) a.toNat
 unfold gapN; exact ⟨by omega,by omega⟩
theorem or_lt2 {n a b:Nat} (ha:a<2 ^ n) (hb:b<2 ^ n):a ||| b<2 ^ n:=Nat.or_lt_two_pow ha hb
def zbK (x:AllocT):Nat:=x.w ||| x.c ||| x.e ||| x.m
def zwC (Y:Type) (pre:AllocT×Y->Prop) (args:AllocT×Y->List AV) (res:AllocT×Y->AV):Ctr where
 X:=AllocT×Y
 Y:=Unit
 conv:=true
 tau:=zgN
 pre:=fun x=>za7 x.1/\pre x
 args:=fun x => .ptr 0 [] 0 :: args x
 heap:=fun x=>[zeX x.1]
 Q:=fun _ _=>True
 res:=fun x _=>res x
 its:=fun x _=>[zeX x.1]
 new:=fun _ _=>[]
theorem zwB {Y:Type} {pre:AllocT×Y->Prop} {args:AllocT×Y->List AV} {res:AllocT×Y->AV} (h:∀x,plV 2 (res x)):CtrOk (zwC Y pre args res) :=
 ⟨fun _ _ _ _=>rfl,fun _ _ _ _=>⟨rfl,rfl⟩,fun x _ _ _ _=>⟨⟨⟨trivial,trivial⟩,trivial⟩,h x⟩⟩
def ziN (Y:Type) (pre:AllocT×Y->Prop) (args:AllocT×Y->List AV) (g:AllocT×Y->AllocT) (res:AllocT×Y->AV):Ctr where
 X:=AllocT×Y
 Y:=Unit
 conv:=true
 tau:=zgN
 pre:=fun x=>za7 x.1/\pre x
 args:=fun x => .ptr 0 [] 0 :: args x
 heap:=fun x=>[zeX x.1]
 Q:=fun _ _=>True
 res:=fun x _=>res x
 its:=fun x _=>[zeX (g x)]
 new:=fun _ _=>[]
theorem zf4 {Y:Type} {pre:AllocT×Y->Prop} {args:AllocT×Y->List AV} {g:AllocT×Y->AllocT} {res:AllocT×Y->AV} (h:∀x,plV 2 (res x)):CtrOk (ziN Y pre args g res) :=
 ⟨fun _ _ _ _=>(rfl:1=1),fun _ _ _ _=>⟨rfl,rfl⟩,fun x _ _ _ _=>⟨⟨⟨trivial,trivial⟩,trivial⟩,h x⟩⟩
def zmQ (g:AllocT->Nat×Nat):Ctr where
 X:=AllocT
 Y:=Unit
 conv:=true
 tau:=zgN
 pre:=za7
 args:=fun _=>[.ptr 0 [] 0]
 heap:=fun x=>[zeX x]
 Q:=fun _ _=>True
 res:=fun _ _ => .ptr 2 [] 0
 its:=fun x _=>[zeX x]
 new:=fun x _=>[setI (g x)]
theorem zlK (g:AllocT->Nat×Nat):CtrOk (zmQ g) :=
 ⟨fun _ _ _ _=>(rfl:1=1),fun _ _ _ _=>⟨rfl,rfl⟩,fun x _ _ _ _=>⟨⟨⟨trivial,trivial⟩,⟨trivial,trivial⟩⟩,rfl⟩⟩
def ql9 (av:AV):Option Ren:=match av with
 | .ptr q _ _=>some [some 0,some 1,some q]
 | _=>none
def qk2:Ctr:=zmQ fun x=>(x.n,zbK x)

theorem heldV:(
 let q1:Prop:=true=true/\zaC/\(0:Nat)=0;
 let q2:Prop:=q1/\True;
 let q3:Int:=(↑(Int.toNat 3-0):Int);
 let q4:Prop:=q1/\q2;
 let q5:Int:=0+1;
 let q6:Int:=q5+1; ∀(x:AllocT),za7 x->zaA x=(za5 x).ob/\∀(g:Unit),((0:Int) <= (3:Int)/\(3:Int)<(↑(4:Nat):Int))/\Exx (Nat×Nat) fun x_1=>(q2/\true=true/\setB (x.n,x.w)=setB x_1/\True)/\SetW x_1/\∀(y:Unit),True->(0:Int) <= (3:Int)/\((0:Nat) <= (3:Int).toNat/\(3:Int).toNat <= (4:Nat))/\((0:Int) <= (0:Int)/\(0:Int)<q3)/\Exx ((Nat×Nat)×Nat×Nat) fun x_2=>(q4/\true=true/\setB x_1=setB x_2.1/\setB (x.n,x.c)=setB x_2.2/\True)/\(SetW x_2.1/\SetW x_2.2)/\∀(y:Unit),True->I64 q5/\((0:Int) <= q5/\q5<q3)/\Exx ((Nat×Nat)×Nat×Nat) fun x_3=>(q4/\true=true/\setB (zg5 x_2.1 x_2.2)=setB x_3.1/\setB (x.n,x.e)=setB x_3.2/\True)/\(SetW x_3.1/\SetW x_3.2)/\∀(y:Unit),True->I64 q6/\((0:Int) <= q6/\q6<q3)/\Exx ((Nat×Nat)×Nat×Nat) fun x_4=>(q4/\true=true/\setB (zg5 x_3.1 x_3.2)=setB x_4.1/\setB (x.n,x.m)=setB x_4.2/\True)/\(SetW x_4.1/\SetW x_4.2)/\∀(y:Unit),True->I64 (q6+1)/\Exx Unit fun y=>Exx Unit fun g=>Tr 1 (((160:TypeId)=160/\Tr 1 (x.r=x.r)/\q1/\q1/\q4)/\setB x_2.2=setB (x.n,x.c)/\setB x_3.2=setB (x.n,x.e)/\setB x_4.2=setB (x.n,x.m)/\setB x_1=setB (x.n,x.w)/\True)/\(q2/\(za5 x).ob=zaA x/\true=true/\setB (zg5 x_4.1 x_4.2)=setB (x.n,zbK x)/\True)/\True)=(zcE tb [(98,zaB zeD),(140,zuC (zaB zhQ) (zaB zkQ))] Tryz.f114 qk2 (fun x=>{ unroll:=[(3,4)] }) (fun _ av _=>ql9 av) (fun x=>[(0,za5 x)]) (fun x y av H=>[(0,[2,3,4,5],za5 x)])):=by kernel_rfl

theorem qgL:SpecOk Tryz.prog 114 (zaB qk2):=by
 refine za2 zaL zaN (SPok.cons zc9 (SPok.cons (zn9 zjY zlY) SPok.nil)) Tryz.func114 (by decide) (zlK _) (Eq.mp heldV ?_)
 simp (maxSteps:=10000000) only [std,stdU,stdV,Exx,I64,Nat.reduceMul,Nat.reduceDiv,Nat.reduceAdd,Int.reduceToNat,zaV,zbO,zbG,zaH]
 rintro x ⟨h1,h2,h3,h4,h5,h6⟩
 have e1:zg5 (x.n,x.w) (x.n,x.c)=(x.n,x.w ||| x.c):=zg4 h3
 have e2:zg5 (x.n,x.w ||| x.c) (x.n,x.e)=(x.n,x.w ||| x.c ||| x.e):=zg4 h4
 have e3:zg5 (x.n,x.w ||| x.c ||| x.e) (x.n,x.m)=(x.n,zbK x):=zg4 h5
 rw [e1,e2,e3]
 repeat refine And.intro (by first | omega | exact ⟨h1,h6⟩ | exact ⟨h1,h3⟩ | exact ⟨h1,h4⟩ | exact ⟨h1,h5⟩ | exact ⟨h1,or_lt2 h6 h3⟩ | exact ⟨h1,or_lt2 (or_lt2 h6 h3) h4⟩) ?_
 rfl

def zv8 (args:List AV) (H:AH):List Nat:=match args with
 | .ptr p _ _ :: _=>match H[p]? with
   | some (.cells _ (_ :: .ptr a _ _ :: .ptr b _ _ :: .ptr c _ _ :: .ptr d _ _ :: _))=>[p,a,b,c,d]
   | _=>[p]
 | _=>[]
theorem qh7 (x:AllocT):plH (zjK x):=⟨⟨rfl,rfl,rfl,rfl,rfl,trivial⟩,trivial,trivial,trivial,trivial,trivial⟩
def zvH:Ctr where
 X:=AllocT
 Y:=Unit
 conv:=true
 tau:=zv8
 pre:=za7
 args:=fun _=>[.ptr 0 [] 0]
 heap:=zjK
 Q:=fun _ _=>True
 res:=fun _ _ => .ptr 6 [] 0
 its:=fun x _=>zjK x
 new:=fun x _=>[setI (x.n,zbK x)]
theorem qgM:CtrOk zvH :=
 ⟨fun _ _ _ _=>(rfl:5=5),fun _ _ _ _=>⟨rfl,rfl⟩,fun x _ _ _ _=>⟨⟨qh7 x,⟨trivial,trivial⟩⟩,rfl⟩⟩
def ptrRen5 (av:AV):Option Ren:=match av with
 | .ptr q _ _=>some [some 0,some 1,some 2,some 3,some 4,some 5,some q]
 | _=>none

theorem heldOV:(
 let q1:Prop:=true=true/\zaC/\(0:Nat)=0;
 let q2:Prop:=q1/\True;
 let q3:Int:=(↑(Int.toNat 3-0):Int);
 let q4:Prop:=q1/\q2;
 let q5:Int:=0+1;
 let q6:Int:=q5+1; ∀(x:AllocT),za7 x->((0:Int) <= (3:Int)/\(3:Int)<(↑(4:Nat):Int))/\Exx (Nat×Nat) fun x_1=>(q2/\true=true/\setB (x.n,x.w)=setB x_1/\True)/\SetW x_1/\∀(y:Unit),True->(0:Int) <= (3:Int)/\((0:Nat) <= (3:Int).toNat/\(3:Int).toNat <= (4:Nat))/\((0:Int) <= (0:Int)/\(0:Int)<q3)/\Exx ((Nat×Nat)×Nat×Nat) fun x_2=>(q4/\true=true/\setB x_1=setB x_2.1/\setB (x.n,x.c)=setB x_2.2/\True)/\(SetW x_2.1/\SetW x_2.2)/\∀(y:Unit),True->I64 q5/\((0:Int) <= q5/\q5<q3)/\Exx ((Nat×Nat)×Nat×Nat) fun x_3=>(q4/\true=true/\setB (zg5 x_2.1 x_2.2)=setB x_3.1/\setB (x.n,x.e)=setB x_3.2/\True)/\(SetW x_3.1/\SetW x_3.2)/\∀(y:Unit),True->I64 q6/\((0:Int) <= q6/\q6<q3)/\Exx ((Nat×Nat)×Nat×Nat) fun x_4=>(q4/\true=true/\setB (zg5 x_3.1 x_3.2)=setB x_4.1/\setB (x.n,x.m)=setB x_4.2/\True)/\(SetW x_4.1/\SetW x_4.2)/\∀(y:Unit),True->I64 (q6+1)/\Exx Unit fun y=>(q2/\((160:TypeId)=160/\Tr 1 (x.r=x.r)/\q1/\q1/\q4)/\setB x_2.2=setB (x.n,x.c)/\setB x_3.2=setB (x.n,x.e)/\setB x_4.2=setB (x.n,x.m)/\setB x_1=setB (x.n,x.w)/\true=true/\setB (zg5 x_4.1 x_4.2)=setB (x.n,zbK x)/\True)/\True)=(zcE tb [(98,zaB zeD),(140,zuC (zaB zhQ) (zaB zkQ))] Tryz.f114 zvH (fun x=>{ unroll:=[(3,4)] }) (fun _ av _=>ptrRen5 av) (fun _=>[]) (fun _ _ _ _=>[])):=by kernel_rfl

theorem zz3:SpecOk Tryz.prog 114 (zaB zvH):=by
 refine za2 zaL zaN (SPok.cons zc9 (SPok.cons (zn9 zjY zlY) SPok.nil)) Tryz.func114 (by decide) qgM (Eq.mp heldOV ?_)
 simp (maxSteps:=10000000) only [std,stdU,stdV,Exx,I64,Nat.reduceMul,Nat.reduceDiv,Nat.reduceAdd,Int.reduceToNat,zaV]
 rintro x ⟨h1,h2,h3,h4,h5,h6⟩
 have e1:zg5 (x.n,x.w) (x.n,x.c)=(x.n,x.w ||| x.c):=zg4 h3
 have e2:zg5 (x.n,x.w ||| x.c) (x.n,x.e)=(x.n,x.w ||| x.c ||| x.e):=zg4 h4
 have e3:zg5 (x.n,x.w ||| x.c ||| x.e) (x.n,x.m)=(x.n,zbK x):=zg4 h5
 rw [e1,e2,e3]
 repeat refine And.intro (by first | omega | exact ⟨h1,h6⟩ | exact ⟨h1,h3⟩ | exact ⟨h1,h4⟩ | exact ⟨h1,h5⟩ | exact ⟨h1,or_lt2 h6 h3⟩ | exact ⟨h1,or_lt2 (or_lt2 h6 h3) h4⟩) ?_
 rfl

def zy6:Ctr:=zmQ fun x=>(x.n,x.w)

theorem worksV:(
 let q1:Prop:=true=true/\zaC/\(0:Nat)=0;
 let q2:Prop:=q1/\True; ∀(x:AllocT),za7 x->zaA x=(za5 x).ob/\∀(g:Unit),((0:Int) <= (3:Int)/\(3:Int)<(↑(4:Nat):Int))/\Exx (Nat×Nat) fun x_1=>(q2/\true=true/\setB (x.n,x.w)=setB x_1/\True)/\SetW x_1/\∀(y:Unit),True->Exx Unit fun y=>Exx Unit fun g=>Tr 1 (((160:TypeId)=160/\Tr 1 (x.r=x.r)/\q1/\q1/\q1/\q2)/\setB (x.n,x.c)=setB (x.n,x.c)/\setB (x.n,x.e)=setB (x.n,x.e)/\setB (x.n,x.m)=setB (x.n,x.m)/\setB x_1=setB (x.n,x.w)/\True)/\(q2/\(za5 x).ob=zaA x/\true=true/\setB x_1=setB (x.n,x.w)/\True)/\True)=(zcE tb [(98,zaB zeD)] Tryz.f60 zy6 (fun _=>{}) (fun _ av _=>ql9 av) (fun x=>[(0,za5 x)]) (fun x y av H=>[(0,[2,3,4,5],za5 x)])):=by kernel_rfl

theorem zy5:SpecOk Tryz.prog 60 (zaB zy6):=by
 refine za2 zaL zaN (SPok.cons zc9 SPok.nil) Tryz.func60 (by decide) (zlK _) (Eq.mp worksV ?_)
 simp (maxSteps:=10000000) only [std,stdU,stdV,Exx,I64,Nat.reduceMul,Nat.reduceDiv,Nat.reduceAdd,Int.reduceToNat,zaV,zbO,zbG,zaH]
 exact fun x h=>⟨by omega,by omega,h.1,h.2.2.2.2.2⟩

theorem zx0 {x:AllocT} (h:za7 x):zbK x<2 ^ x.n:=by
 obtain ⟨_,_,h3,h4,h5,h6⟩:=h
 exact or_lt2 (or_lt2 (or_lt2 h6 h3) h4) h5
def freeN (x:AllocT):Int:=(x.n:Int)-((zbB x.n (zbK x)).length:Nat)
theorem zz7 {x:AllocT} (h:za7 x):0 <= freeN x/\freeN x <= 3072:=by
 have:=zlJ x.n (zbK x)
 have:=h.1
 unfold freeN; omega
def zd2 (x:AllocT) (r:Int):Int:=if freeN x <= r then 0 else gapN (x.n,zbK x) 0
def zb7 (x:AllocT) (r:Int):Int:=if freeN x <= r then 10 else 0
def za1 (x:AllocT) (r:Int):AllocT:=if freeN x <= r then x else { x with w:=add1 x.n x.w (gapN (x.n,zbK x) 0) }
def qdQ:Ctr:=ziN Int (fun x=>I64 x.2) (fun x=>[i64 x.2]) (fun x=>za1 x.1 x.2) (fun x => .tup [i64 (zd2 x.1 x.2),i64 (zb7 x.1 x.2)])

theorem takeRV:(
 let q1:Prop:=true=true/\zaC/\(0:Nat)=0;
 let q2:Prop:=q1/\True;
 let q3:Nat:=(TI.mk (TK.int IntKind.i64) 1 8 (ZL.cons (Value.int IntKind.i64 0) ZL.nil) false).size; ∀(x:AllocT×Int),za7 x.1/\I64 x.2->Exx AllocT fun x_1=>(q2/\true=true/\zaA x.1=zaA x_1/\True)/\za7 x_1/\∀(y:Unit),True->Exx ((Nat×Nat)×Unit) fun x_2=>(q2/\true=true/\setB (x_1.n,zbK x_1)=setB x_2.1/\True)/\(SetW x_2.1/\True)/\∀(y:Unit),True->Exx ((Nat×Nat)×Unit) fun x_3 =>
 let q4:Int:=(x_2.1.1:Int)-(↑(zbB x_3.1.1 x_3.1.2).length:Int); (q2/\true=true/\setB x_2.1=setB x_3.1/\True)/\(SetW x_3.1/\True)/\∀(y:Unit),True->I64 q4/\BC (decide (q4 <= x.2)) (Exx Unit fun y=>(((Tr 1 ((0:Int)=zd2 x.1 x.2)/\Tr 1 ((10:Int)=zb7 x.1 x.2)/\True)/\True)/\zaA x_1=zaA (za1 x.1 x.2)/\true=true/\True)/\True) (Exx ((Nat×Nat)×Int) fun x_4=>((q1/\Tr 1 ((0:Int)=x_4.2)/\True)/\true=true/\setB x_3.1=setB x_4.1/\True)/\(SetW x_4.1/\I64 x_4.2)/\∀(y:Unit),True->Exx AllocT fun y=>zaA x_1=(za5 y).ob/\∀(g:Unit),((0:Int) <= (3:Int)/\(3:Int)<(↑(4:Nat):Int))/\Exx ((Nat×Nat)×List Int) fun x_5=>((q1/\((0:Nat)+(1:Nat) <= (1:Nat)/\1=x_5.2.length/\∀(i:Nat),
 let q5:Nat:=0+i; i<x_5.2.length->[AV.int .i64 (if q5=0*1 / 1 then gapN x_4.1 x_4.2 else 0)]=[AV.int .i64 (x_5.2.getD i 0)])/\True)/\true=true/\setB (y.n,y.w)=setB x_5.1/\True)/\(SetW x_5.1/\Ints x_5.2)/\∀(y_1:Unit),True->Exx Unit fun y_2=>Exx Unit fun g=>Tr 1 (((160:TypeId)=160/\Tr 1 (y.r=(za1 x.1 x.2).r)/\q1/\q1/\q1/\q2)/\setB (y.n,y.c)=setB ((za1 x.1 x.2).n,(za1 x.1 x.2).c)/\setB (y.n,y.e)=setB ((za1 x.1 x.2).n,(za1 x.1 x.2).e)/\setB (y.n,y.m)=setB ((za1 x.1 x.2).n,(za1 x.1 x.2).m)/\setB (x_5.1.1,addL x_5.1.1 x_5.1.2 x_5.2)=setB ((za1 x.1 x.2).n,(za1 x.1 x.2).w)/\True)/\(((Tr 1 (gapN x_4.1 x_4.2=zd2 x.1 x.2)/\Tr 1 ((0:Int)=zb7 x.1 x.2)/\True)/\True)/\(za5 (za1 x.1 x.2)).ob=zaA (za1 x.1 x.2)/\true=true/\True)/\True))=(zcE tb [(61,zaB zkT),(111,zaB zf0),(112,zc0 (zaB zjZ) (zaB zg1)),(114,zc0 (zaB qk2) (zaB zvH)),(115,zaB zrX)] Tryz.f80 qdQ (fun x=>{ opensE:=[(5,[{ p:=0,Y:=AllocT,o:=za5 }])] }) (fun _ _ _=>none) (fun _=>[]) (fun x y av H=>clIf 0 H [(0,[3,4,5,6],za5 (za1 x.1 x.2))])):=by kernel_rfl

theorem qjH:SpecOk Tryz.prog 80 (zaB qdQ):=by
 refine za2 zaL zaN (SPok.cons zoF (SPok.cons ze9 (SPok.cons (zbH zhS zgJ) (SPok.cons (zbH qgL zz3) (SPok.cons zuG SPok.nil))))) Tryz.func80 (by decide) (zf4 fun _=>⟨rfl,rfl,trivial⟩) (Eq.mp takeRV ?_)
 simp (maxSteps:=10000000) only [std,stdU,stdV,Exx,I64,Nat.reduceMul,Nat.reduceDiv,Nat.reduceAdd,Int.reduceToNat,zaV,zbO,zbG,zaH]
 rintro x r ⟨h,h1,h2⟩
 have hb:=zz7 h
 have hs:SetW (x.n,zbK x):=⟨h.1,zx0 h⟩
 have e:(x.n:Int)-((zbB x.n (zbK x)).length:Nat)=freeN x:=rfl
 rw [e]
 refine ⟨h,hs,hs,by omega,by omega,fun hle=>⟨by rw [zd2,if_pos hle],by rw [zb7,if_pos hle],by rw [za1,if_pos hle]⟩,fun hgt=>?_⟩
 rw [za1,if_neg hgt,zd2,if_neg hgt,zb7,if_neg hgt]
 have hg:=zs2 hs 0
 refine ⟨hs,by omega,by omega,by omega,by omega,x.n,x.w,[gapN (x.n,zbK x) 0],rfl,fun i hi=>?_,rfl,rfl,⟨h.1,h.2.2.2.2.2⟩,⟨fun y hy=>?_,by simp⟩,rfl,rfl,rfl,rfl,rfl,rfl,rfl,rfl,rfl,rfl,rfl⟩
 ·have:i=0:=by simpa using hi
  subst this; rfl
 ·have:y=gapN (x.n,zbK x) 0:=by simpa using hy
  rw [this]; exact hg

def zrR:Ctr where
 X:=AllocT×Int
 Y:=Unit
 conv:=true
 tau:=zv8
 pre:=fun x=>za7 x.1/\I64 x.2
 args:=fun x=>[.ptr 0 [] 0,i64 x.2]
 heap:=fun x=>zjK x.1
 Q:=fun _ _=>True
 res:=fun x _ => .tup [i64 (zd2 x.1 x.2),i64 (zb7 x.1 x.2)]
 its:=fun x _=>zjK (za1 x.1 x.2)
 new:=fun x _=>[]
theorem qdR:CtrOk zrR :=
 ⟨fun _ _ _ _=>(rfl:5=5),fun _ _ _ _=>⟨rfl,rfl⟩,fun x _ _ _ _=>⟨⟨qh7 _,trivial⟩,⟨rfl,rfl,trivial⟩⟩⟩

theorem takeROV:(
 let q1:Prop:=true=true/\zaC/\(0:Nat)=0;
 let q2:Prop:=q1/\True;
 let q3:Prop:=(160:TypeId)=160;
 let q4:Prop:=q1/\q1/\q1/\q2;
 let q5:Nat:=(TI.mk (TK.int IntKind.i64) 1 8 (ZL.cons (Value.int IntKind.i64 0) ZL.nil) false).size; ∀(x:AllocT×Int),
 let q6:Ob:=setB ((za1 x.1 x.2).n,(za1 x.1 x.2).c);
 let q7:Ob:=setB ((za1 x.1 x.2).n,(za1 x.1 x.2).e);
 let q8:Ob:=setB ((za1 x.1 x.2).n,(za1 x.1 x.2).m);
 let q9:Ob:=setB ((za1 x.1 x.2).n,(za1 x.1 x.2).w); za7 x.1/\I64 x.2->Exx AllocT fun x_1=>(q2/\true=true/\(q3/\Tr 1 (x.1.r=x_1.r)/\q4)/\setB (x.1.n,x.1.c)=setB (x_1.n,x_1.c)/\setB (x.1.n,x.1.e)=setB (x_1.n,x_1.e)/\setB (x.1.n,x.1.m)=setB (x_1.n,x_1.m)/\setB (x.1.n,x.1.w)=setB (x_1.n,x_1.w)/\True)/\za7 x_1/\∀(y:Unit),True->Exx ((Nat×Nat)×Unit) fun x_2=>(q2/\true=true/\setB (x_1.n,zbK x_1)=setB x_2.1/\True)/\(SetW x_2.1/\True)/\∀(y:Unit),True->Exx ((Nat×Nat)×Unit) fun x_3 =>
 let q10:Int:=(x_2.1.1:Int)-(↑(zbB x_3.1.1 x_3.1.2).length:Int); (q2/\true=true/\setB x_2.1=setB x_3.1/\True)/\(SetW x_3.1/\True)/\∀(y:Unit),True->I64 q10/\BC (decide (q10 <= x.2)) (Exx Unit fun y=>(((Tr 1 ((0:Int)=zd2 x.1 x.2)/\Tr 1 ((10:Int)=zb7 x.1 x.2)/\True)/\True)/\(q3/\Tr 1 (x_1.r=(za1 x.1 x.2).r)/\q4)/\setB (x_1.n,x_1.c)=q6/\setB (x_1.n,x_1.e)=q7/\setB (x_1.n,x_1.m)=q8/\setB (x_1.n,x_1.w)=q9/\true=true/\True)/\True) (Exx ((Nat×Nat)×Int) fun x_4=>((q1/\Tr 1 ((0:Int)=x_4.2)/\True)/\true=true/\setB x_3.1=setB x_4.1/\True)/\(SetW x_4.1/\I64 x_4.2)/\∀(y:Unit),True->((0:Int) <= (3:Int)/\(3:Int)<(↑(4:Nat):Int))/\Exx ((Nat×Nat)×List Int) fun x_5=>((q1/\((0:Nat)+(1:Nat) <= (1:Nat)/\1=x_5.2.length/\∀(i:Nat),
 let q11:Nat:=0+i; i<x_5.2.length->[AV.int .i64 (if q11=0*1 / 1 then gapN x_4.1 x_4.2 else 0)]=[AV.int .i64 (x_5.2.getD i 0)])/\True)/\true=true/\setB (x_1.n,x_1.w)=setB x_5.1/\True)/\(SetW x_5.1/\Ints x_5.2)/\∀(y:Unit),True->Exx Unit fun y=>(((Tr 1 (gapN x_4.1 x_4.2=zd2 x.1 x.2)/\Tr 1 ((0:Int)=zb7 x.1 x.2)/\True)/\True)/\(q3/\Tr 1 (x_1.r=(za1 x.1 x.2).r)/\q4)/\setB (x_1.n,x_1.c)=q6/\setB (x_1.n,x_1.e)=q7/\setB (x_1.n,x_1.m)=q8/\setB (x_5.1.1,addL x_5.1.1 x_5.1.2 x_5.2)=q9/\true=true/\True)/\True))=(fnVC tb [(61,zaB zkT),(111,zaB zf0),(112,zc0 (zaB zjZ) (zaB zg1)),(114,zc0 (zaB qk2) (zaB zvH)),(115,zaB zrX)] Tryz.f80 zrR (fun _=>{}) (fun _=>none)):=by kernel_rfl

theorem qdP:SpecOk Tryz.prog 80 (zaB zrR):=by
 refine zaK zaL zaN (SPok.cons zoF (SPok.cons ze9 (SPok.cons (zbH zhS zgJ) (SPok.cons (zbH qgL zz3) (SPok.cons zuG SPok.nil))))) Tryz.func80 (by decide) qdR (Eq.mp takeROV ?_)
 simp (maxSteps:=10000000) only [std,stdU,stdV,Exx,I64,Nat.reduceMul,Nat.reduceDiv,Nat.reduceAdd,Int.reduceToNat,zaV]
 rintro x r ⟨h,h1,h2⟩
 have hb:=zz7 h
 have hs:SetW (x.n,zbK x):=⟨h.1,zx0 h⟩
 have e:(x.n:Int)-((zbB x.n (zbK x)).length:Nat)=freeN x:=rfl
 refine ⟨x,rfl,rfl,rfl,rfl,rfl,rfl,rfl,rfl,rfl,h,hs,hs,?_⟩
 rw [e]
 refine ⟨by omega,by omega,fun hle=>?_,fun hgt=>?_⟩
 ·rw [zd2,if_pos hle,zb7,if_pos hle,za1,if_pos hle]
  exact ⟨rfl,rfl,rfl,rfl,rfl,rfl,rfl,rfl,rfl,rfl,rfl⟩
 rw [za1,if_neg hgt,zd2,if_neg hgt,zb7,if_neg hgt]
 have hg:=zs2 hs 0
 refine ⟨hs,by omega,by omega,by omega,by omega,x.n,x.w,[gapN (x.n,zbK x) 0],rfl,fun i hi=>?_,rfl,rfl,⟨h.1,h.2.2.2.2.2⟩,⟨fun y hy=>?_,by simp⟩,rfl,rfl,rfl,rfl,rfl,rfl,rfl,rfl,rfl,rfl,rfl⟩
 ·have:i=0:=by simpa using hi
  subst this; rfl
 ·have:y=gapN (x.n,zbK x) 0:=by simpa using hy
  rw [this]; exact hg

def zmO:Ctr:=ziN Unit (fun _=>True) (fun _=>[]) (fun x=>za1 x.1 x.1.r) (fun x => .tup [i64 (zd2 x.1 x.1.r),i64 (zb7 x.1 x.1.r)])
theorem qcO:(
 let q1:Prop:=true=true/\zaC/\(0:Nat)=0;
 let q2:Prop:=(160:TypeId)=160;
 let q3:Prop:=q1/\q1/\q1/\q1/\True; ∀(x:AllocT×Unit),za7 x.1/\True->zaA x.1=(za5 x.1).ob/\∀(g:Unit),Exx (AllocT×Int) fun x_1=>((q1/\Tr 1 (x.1.r=x_1.2)/\True)/\true=true/\(q2/\Tr 1 (x.1.r=x_1.1.r)/\q3)/\setB (x.1.n,x.1.c)=setB (x_1.1.n,x_1.1.c)/\setB (x.1.n,x.1.e)=setB (x_1.1.n,x_1.1.e)/\setB (x.1.n,x.1.m)=setB (x_1.1.n,x_1.1.m)/\setB (x.1.n,x.1.w)=setB (x_1.1.n,x_1.1.w)/\True)/\(za7 x_1.1/\I64 x_1.2)/\∀(y:Unit),True->Exx Unit fun y=>Exx Unit fun g=>Tr 1 ((q2/\Tr 1 ((za1 x_1.1 x_1.2).r=(za1 x.1 x.1.r).r)/\q3)/\setB ((za1 x_1.1 x_1.2).n,(za1 x_1.1 x_1.2).c)=setB ((za1 x.1 x.1.r).n,(za1 x.1 x.1.r).c)/\setB ((za1 x_1.1 x_1.2).n,(za1 x_1.1 x_1.2).e)=setB ((za1 x.1 x.1.r).n,(za1 x.1 x.1.r).e)/\setB ((za1 x_1.1 x_1.2).n,(za1 x_1.1 x_1.2).m)=setB ((za1 x.1 x.1.r).n,(za1 x.1 x.1.r).m)/\setB ((za1 x_1.1 x_1.2).n,(za1 x_1.1 x_1.2).w)=setB ((za1 x.1 x.1.r).n,(za1 x.1 x.1.r).w)/\True)/\(((Tr 1 (zd2 x_1.1 x_1.2=zd2 x.1 x.1.r)/\Tr 1 (zb7 x_1.1 x_1.2=zb7 x.1 x.1.r)/\True)/\True)/\(za5 (za1 x.1 x.1.r)).ob=zaA (za1 x.1 x.1.r)/\true=true/\True)/\True)=(zcE tb [(80,zc0 (zaB qdQ) (zaB zrR))] Tryz.f46 zmO (fun _=>{}) (fun _ _ _=>none) (fun x=>[(0,za5 x.1)]) (fun x y av H=>[(0,[2,3,4,5],za5 (za1 x.1 x.1.r))])):=by kernel_rfl

theorem zv9:SpecOk Tryz.prog 46 (zaB zmO):=by
 refine za2 zaL zaN (SPok.cons (zbH qjH qdP) SPok.nil) Tryz.func46 (by decide) (zf4 fun _=>⟨rfl,rfl,trivial⟩) (Eq.mp qcO ?_)
 simp (maxSteps:=10000000) only [std,stdU,stdV,Exx,I64,Nat.reduceMul,Nat.reduceDiv,Nat.reduceAdd,Int.reduceToNat,zaV,zbO,zbG,zaH]
 exact fun x h=>⟨x,rfl,rfl,rfl,rfl,rfl,rfl,rfl,rfl,rfl,h,h.2.1.1,h.2.1.2,rfl,rfl,rfl,rfl,rfl,rfl,rfl,rfl,rfl,rfl,rfl⟩

def zgB (x:AllocT) (a:Int):AllocT:={ x with w:=drop1 x.n x.w a }
def zcM (x:AllocT) (a:Int):Int:=if hasN (x.n,x.w) a=true then 0 else 2
def zjJ:Ctr:=ziN Int (fun x=>I64 x.2) (fun x=>[i64 x.2]) (fun x=>zgB x.1 x.2) (fun x=>i64 (zcM x.1 x.2))

theorem qcQ:(
 let q1:Prop:=(0:Int) <= (3:Int)/\(3:Int)<(↑(4:Nat):Int);
 let q2:Prop:=true=true/\zaC/\(0:Nat)=0;
 let q3:Prop:=(160:TypeId)=160;
 let q4:Prop:=q2/\q2/\q2/\q2/\True;
 let q5:Nat:=(TI.mk (TK.int IntKind.i64) 1 8 (ZL.cons (Value.int IntKind.i64 0) ZL.nil) false).size; ∀(x:AllocT×Int),
 let q6:Prop:=q3/\Tr 1 (x.1.r=(zgB x.1 x.2).r)/\q4;
 let q7:Prop:=setB (x.1.n,x.1.c)=setB ((zgB x.1 x.2).n,(zgB x.1 x.2).c);
 let q8:Prop:=setB (x.1.n,x.1.e)=setB ((zgB x.1 x.2).n,(zgB x.1 x.2).e);
 let q9:Prop:=setB (x.1.n,x.1.m)=setB ((zgB x.1 x.2).n,(zgB x.1 x.2).m);
 let q10:Ob:=setB ((zgB x.1 x.2).n,(zgB x.1 x.2).w);
 let q11:Prop:=(za5 (zgB x.1 x.2)).ob=zaA (zgB x.1 x.2)/\true=true/\True; za7 x.1/\I64 x.2->zaA x.1=(za5 x.1).ob/\∀(g:Unit),q1/\Exx ((Nat×Nat)×Int) fun x_1=>((q2/\Tr 1 (x.2=x_1.2)/\True)/\true=true/\setB (x.1.n,x.1.w)=setB x_1.1/\True)/\(SetW x_1.1/\I64 x_1.2)/\∀(y:Unit),True->BC (!hasN x_1.1 x_1.2) (Exx Unit fun y=>Exx Unit fun g=>Tr 1 (q6/\q7/\q8/\q9/\setB x_1.1=q10/\True)/\((Tr 1 ((2:Int)=zcM x.1 x.2)/\True)/\q11)/\True) (q1/\Exx ((Nat×Nat)×List Int) fun x_2=>((q2/\((0:Nat)+(1:Nat) <= (1:Nat)/\1=x_2.2.length/\∀(i:Nat),
 let q12:Nat:=0+i; i<x_2.2.length->[AV.int .i64 (if q12=0*1 / 1 then x.2 else 0)]=[AV.int .i64 (x_2.2.getD i 0)])/\True)/\true=true/\setB x_1.1=setB x_2.1/\True)/\(SetW x_2.1/\Ints x_2.2)/\∀(y:Unit),True->Exx Unit fun y=>Exx Unit fun g=>Tr 1 (q6/\q7/\q8/\q9/\setB (x_2.1.1,zhH x_2.1.1 x_2.1.2 x_2.2)=q10/\True)/\((Tr 1 ((0:Int)=zcM x.1 x.2)/\True)/\q11)/\True))=(zcE tb [(135,zc0 (zaB zlZ) (zaB ziW)),(136,zaB zrY)] Tryz.f93 zjJ (fun _=>{}) (fun _ _ _=>none) (fun x=>[(0,za5 x.1)]) (fun x y av H=>[(0,[2,3,4,5],za5 (zgB x.1 x.2))])):=by kernel_rfl

theorem zm9:SpecOk Tryz.prog 93 (zaB zjJ):=by
 refine za2 zaL zaN (SPok.cons (zbH zkS ziV) (SPok.cons qbA SPok.nil)) Tryz.func93 (by decide) (zf4 fun _=>rfl) (Eq.mp qcQ ?_)
 simp (maxSteps:=10000000) only [std,stdU,stdV,Exx,I64,Nat.reduceMul,Nat.reduceDiv,Nat.reduceAdd,Int.reduceToNat,zaV,zbO,zbG,zaH]
 rintro x a ⟨h,h1,h2⟩
 have hs:SetW (x.n,x.w):=⟨h.1,h.2.2.2.2.2⟩
 refine ⟨by omega,by omega,hs,h1,h2,fun hn=>⟨rfl,rfl,rfl,rfl,rfl,rfl,rfl,rfl,?_,by rw [zcM,hn]; rfl⟩,fun hy=>⟨by omega,by omega,x.n,x.w,[a],rfl,fun i hi=>?_,rfl,rfl,hs,⟨fun y hy=>?_,by simp⟩,rfl,rfl,rfl,rfl,rfl,rfl,rfl,rfl,rfl,by rw [zcM,if_pos hy]⟩⟩
 ·apply Nat.eq_of_testBit_eq
  intro i
  show x.w.testBit i=(drop1 x.n x.w a).testBit i
  rw [zpF]
  by_cases e:i<x.n/\(i:Int)=a
  ·obtain ⟨e1,rfl⟩:=e
   have hin:inSet (x.n,x.w) (i:Int):=⟨by omega,by simp only; omega⟩
   rw [hasN,decide_eq_true hin,Bool.true_and] at hn
   have hn':x.w.testBit i=false:=hn
   rw [hn']; rfl
  ·rw [decide_eq_false e]; simp
 ·have:i=0:=by simpa using hi
  subst this; rfl
 ·have:y=a:=by simpa using hy
  rw [this]; exact ⟨h1,h2⟩

def zpY:Ctr:=zwC Int (fun x=>I64 x.2) (fun x=>[i64 x.2]) (fun x => .bool (hasN (x.1.n,x.1.w) x.2 && !hasN (x.1.n,x.1.m) x.2))

theorem qh8:(
 let q1:Prop:=true=true/\zaC/\(0:Nat)=0;
 let q2:Prop:=(160:TypeId)=160;
 let q3:Prop:=q1/\q1/\q1/\q1/\True; ∀(x:AllocT×Int),
 let q4:Prop:=setB (x.1.n,x.1.c)=setB (x.1.n,x.1.c);
 let q5:Prop:=setB (x.1.n,x.1.e)=setB (x.1.n,x.1.e);
 let q6:Bool:=hasN (x.1.n,x.1.w) x.2 && !hasN (x.1.n,x.1.m) x.2;
 let q7:Prop:=(za5 x.1).ob=zaA x.1/\true=true/\True; za7 x.1/\I64 x.2->zaA x.1=(za5 x.1).ob/\∀(g:Unit),((0:Int) <= (3:Int)/\(3:Int)<(↑(4:Nat):Int))/\Exx ((Nat×Nat)×Int) fun x_1 =>
 let q8:Prop:=setB x_1.1=setB (x.1.n,x.1.w)/\True; ((q1/\Tr 1 (x.2=x_1.2)/\True)/\true=true/\setB (x.1.n,x.1.w)=setB x_1.1/\True)/\(SetW x_1.1/\I64 x_1.2)/\∀(y:Unit),True->BC (hasN x_1.1 x_1.2) (((0:Int) <= (2:Int)/\(2:Int)<(↑(4:Nat):Int))/\Exx ((Nat×Nat)×Int) fun x_2=>((q1/\Tr 1 (x.2=x_2.2)/\True)/\true=true/\setB (x.1.n,x.1.m)=setB x_2.1/\True)/\(SetW x_2.1/\I64 x_2.2)/\∀(y:Unit),True->Exx Unit fun y=>Exx Unit fun g=>Tr 1 ((q2/\Tr 1 (x.1.r=x.1.r)/\q3)/\q4/\q5/\setB x_2.1=setB (x.1.n,x.1.m)/\q8)/\(((!hasN x_2.1 x_2.2)=q6/\True)/\q7)/\True) (Exx Unit fun y=>Exx Unit fun g=>Tr 1 ((q2/\Tr 1 (x.1.r=x.1.r)/\q3)/\q4/\q5/\setB (x.1.n,x.1.m)=setB (x.1.n,x.1.m)/\q8)/\((false=q6/\True)/\q7)/\True))=(zcE tb [(135,zc0 (zaB zlZ) (zaB ziW))] Tryz.f166 zpY (fun _=>{}) (fun _ _ _=>none) (fun x=>[(0,za5 x.1)]) (fun x y av H=>[(0,[2,3,4,5],za5 x.1)])):=by kernel_rfl

theorem zyT:SpecOk Tryz.prog 166 (zaB zpY):=by
 refine za2 zaL zaN (SPok.cons (zbH zkS ziV) SPok.nil) Tryz.func166 (by decide) (zwB fun _=>rfl) (Eq.mp qh8 ?_)
 simp (maxSteps:=10000000) only [std,stdU,stdV,Exx,I64,Nat.reduceMul,Nat.reduceDiv,Nat.reduceAdd,Int.reduceToNat,zaV,zbO,zbG,zaH]
 rintro x a ⟨h,h1,h2⟩
 have hs:SetW (x.n,x.w):=⟨h.1,h.2.2.2.2.2⟩
 have hm:SetW (x.n,x.m):=⟨h.1,h.2.2.2.2.1⟩
 exact ⟨by omega,by omega,hs,h1,h2,fun e=>⟨by omega,by omega,hm,h1,h2,by rw [e]; rfl⟩,fun e=>by rw [e]; rfl⟩

def qfR (x:AllocT):Nat->Nat
 | 0=>x.c
 | 1=>x.e
 | 2=>x.m
 | _=>x.w
def qfP (x:AllocT) (k v:Nat):AllocT:=match k with
 | 0=>{ x with c:=v }
 | 1=>{ x with e:=v }
 | 2=>{ x with m:=v }
 | _=>{ x with w:=v }
def zaM (x:AllocT) (k o:Nat):AllocT:=qfP x k (qfR x o)
def zmN (k o:Nat):Ctr where
 X:=AllocT
 Y:=Unit
 conv:=true
 tau:=zgN
 pre:=za7
 args:=fun _=>[.ptr 0 [] 0,i64 (k:Nat),i64 (o:Nat)]
 heap:=fun x=>[zeX x]
 Q:=fun _ _=>True
 res:=fun _ _ => .tup []
 its:=fun x _=>[zeX (zaM x k o)]
 new:=fun _ _=>[]
theorem zgX (k o:Nat):CtrOk (zmN k o) :=
 ⟨fun _ _ _ _=>(rfl:1=1),fun _ _ _ _=>⟨rfl,rfl⟩,fun x _ _ _ _=>⟨⟨⟨trivial,trivial⟩,trivial⟩,trivial⟩⟩
def zpT:Ctr:=zmN 2 3

theorem qh2:(
 let q1:Prop:=true=true/\zaC/\(0:Nat)=0;
 let q2:Prop:=q1/\True; ∀(x:AllocT),za7 x->zaA x=(za5 x).ob/\∀(g:Unit),((0:Int) <= (↑(3:Nat):Int)/\(↑(3:Nat):Int)<(↑(4:Nat):Int))/\Exx (Nat×Nat) fun x_1=>(q2/\true=true/\setB (x.n,x.w)=setB x_1/\True)/\SetW x_1/\∀(y:Unit),True->((0:Int) <= (↑(2:Nat):Int)/\(↑(2:Nat):Int)<(↑(4:Nat):Int))/\Exx Unit fun y=>Exx Unit fun g=>Tr 1 (((160:TypeId)=160/\Tr 1 (x.r=(zaM x 2 3).r)/\q1/\q1/\q1/\q2)/\setB (x.n,x.c)=setB ((zaM x 2 3).n,(zaM x 2 3).c)/\setB (x.n,x.e)=setB ((zaM x 2 3).n,(zaM x 2 3).e)/\setB x_1=setB ((zaM x 2 3).n,(zaM x 2 3).m)/\setB x_1=setB ((zaM x 2 3).n,(zaM x 2 3).w)/\True)/\(Tr 1 True/\(za5 (zaM x 2 3)).ob=zaA (zaM x 2 3)/\true=true/\True)/\True)=(zcE tb [(98,zaB zeD)] Tryz.f62 zpT (fun x=>{ loose:=[(0,[0,5])] }) (fun _ _ _=>none) (fun x=>[(0,za5 x)]) (fun x y av H=>[(0,[2,3,6,5],za5 (zaM x 2 3))])):=by kernel_rfl

theorem zyN:SpecOk Tryz.prog 62 (zaB zpT):=by
 refine za2 zaL zaN (SPok.cons zc9 SPok.nil) Tryz.func62 (by decide) (zgX _ _) (Eq.mp qh2 ?_)
 simp (maxSteps:=10000000) only [std,stdU,stdV,Exx,I64,Nat.reduceMul,Nat.reduceDiv,Nat.reduceAdd,Int.reduceToNat,zaV,zbO,zbG,zaH]
 exact fun x h=>⟨by omega,by omega,⟨h.1,h.2.2.2.2.2⟩,by omega,by omega,rfl,rfl,rfl,rfl,rfl,rfl,rfl,rfl,rfl⟩

def zpR:Ctr:=zmN 3 2

theorem qh0:(
 let q1:Prop:=true=true/\zaC/\(0:Nat)=0;
 let q2:Prop:=q1/\True; ∀(x:AllocT),za7 x->zaA x=(za5 x).ob/\∀(g:Unit),((0:Int) <= (↑(2:Nat):Int)/\(↑(2:Nat):Int)<(↑(4:Nat):Int))/\Exx (Nat×Nat) fun x_1=>(q2/\true=true/\setB (x.n,x.m)=setB x_1/\True)/\SetW x_1/\∀(y:Unit),True->((0:Int) <= (↑(3:Nat):Int)/\(↑(3:Nat):Int)<(↑(4:Nat):Int))/\Exx Unit fun y=>Exx Unit fun g=>Tr 1 (((160:TypeId)=160/\Tr 1 (x.r=(zaM x 3 2).r)/\q1/\q1/\q1/\q2)/\setB (x.n,x.c)=setB ((zaM x 3 2).n,(zaM x 3 2).c)/\setB (x.n,x.e)=setB ((zaM x 3 2).n,(zaM x 3 2).e)/\setB x_1=setB ((zaM x 3 2).n,(zaM x 3 2).m)/\setB x_1=setB ((zaM x 3 2).n,(zaM x 3 2).w)/\True)/\(Tr 1 True/\(za5 (zaM x 3 2)).ob=zaA (zaM x 3 2)/\true=true/\True)/\True)=(zcE tb [(98,zaB zeD)] Tryz.f62 zpR (fun x=>{ loose:=[(0,[0,4])] }) (fun _ _ _=>none) (fun x=>[(0,za5 x)]) (fun x y av H=>[(0,[2,3,4,6],za5 (zaM x 3 2))])):=by kernel_rfl

theorem zyL:SpecOk Tryz.prog 62 (zaB zpR):=by
 refine za2 zaL zaN (SPok.cons zc9 SPok.nil) Tryz.func62 (by decide) (zgX _ _) (Eq.mp qh0 ?_)
 simp (maxSteps:=10000000) only [std,stdU,stdV,Exx,I64,Nat.reduceMul,Nat.reduceDiv,Nat.reduceAdd,Int.reduceToNat,zaV,zbO,zbG,zaH]
 exact fun x h=>⟨by omega,by omega,⟨h.1,h.2.2.2.2.1⟩,by omega,by omega,rfl,rfl,rfl,rfl,rfl,rfl,rfl,rfl,rfl⟩

def zpU:Ctr:=zmN 1 0

theorem qh3:(
 let q1:Prop:=true=true/\zaC/\(0:Nat)=0;
 let q2:Prop:=q1/\True; ∀(x:AllocT),za7 x->zaA x=(za5 x).ob/\∀(g:Unit),((0:Int) <= (↑(0:Nat):Int)/\(↑(0:Nat):Int)<(↑(4:Nat):Int))/\Exx (Nat×Nat) fun x_1=>(q2/\true=true/\setB (x.n,x.c)=setB x_1/\True)/\SetW x_1/\∀(y:Unit),True->((0:Int) <= (↑(1:Nat):Int)/\(↑(1:Nat):Int)<(↑(4:Nat):Int))/\Exx Unit fun y=>Exx Unit fun g=>Tr 1 (((160:TypeId)=160/\Tr 1 (x.r=(zaM x 1 0).r)/\q1/\q1/\q1/\q2)/\setB x_1=setB ((zaM x 1 0).n,(zaM x 1 0).c)/\setB x_1=setB ((zaM x 1 0).n,(zaM x 1 0).e)/\setB (x.n,x.m)=setB ((zaM x 1 0).n,(zaM x 1 0).m)/\setB (x.n,x.w)=setB ((zaM x 1 0).n,(zaM x 1 0).w)/\True)/\(Tr 1 True/\(za5 (zaM x 1 0)).ob=zaA (zaM x 1 0)/\true=true/\True)/\True)=(zcE tb [(98,zaB zeD)] Tryz.f62 zpU (fun x=>{ loose:=[(0,[0,2])] }) (fun _ _ _=>none) (fun x=>[(0,za5 x)]) (fun x y av H=>[(0,[2,6,4,5],za5 (zaM x 1 0))])):=by kernel_rfl

theorem zyO:SpecOk Tryz.prog 62 (zaB zpU):=by
 refine za2 zaL zaN (SPok.cons zc9 SPok.nil) Tryz.func62 (by decide) (zgX _ _) (Eq.mp qh3 ?_)
 simp (maxSteps:=10000000) only [std,stdU,stdV,Exx,I64,Nat.reduceMul,Nat.reduceDiv,Nat.reduceAdd,Int.reduceToNat,zaV,zbO,zbG,zaH]
 exact fun x h=>⟨by omega,by omega,⟨h.1,h.2.2.1⟩,by omega,by omega,rfl,rfl,rfl,rfl,rfl,rfl,rfl,rfl,rfl⟩

def zpV:Ctr:=zmN 0 3

theorem qh4:(
 let q1:Prop:=true=true/\zaC/\(0:Nat)=0;
 let q2:Prop:=q1/\True; ∀(x:AllocT),za7 x->zaA x=(za5 x).ob/\∀(g:Unit),((0:Int) <= (↑(3:Nat):Int)/\(↑(3:Nat):Int)<(↑(4:Nat):Int))/\Exx (Nat×Nat) fun x_1=>(q2/\true=true/\setB (x.n,x.w)=setB x_1/\True)/\SetW x_1/\∀(y:Unit),True->((0:Int) <= (↑(0:Nat):Int)/\(↑(0:Nat):Int)<(↑(4:Nat):Int))/\Exx Unit fun y=>Exx Unit fun g=>Tr 1 (((160:TypeId)=160/\Tr 1 (x.r=(zaM x 0 3).r)/\q1/\q1/\q1/\q2)/\setB x_1=setB ((zaM x 0 3).n,(zaM x 0 3).c)/\setB (x.n,x.e)=setB ((zaM x 0 3).n,(zaM x 0 3).e)/\setB (x.n,x.m)=setB ((zaM x 0 3).n,(zaM x 0 3).m)/\setB x_1=setB ((zaM x 0 3).n,(zaM x 0 3).w)/\True)/\(Tr 1 True/\(za5 (zaM x 0 3)).ob=zaA (zaM x 0 3)/\true=true/\True)/\True)=(zcE tb [(98,zaB zeD)] Tryz.f62 zpV (fun x=>{ loose:=[(0,[0,5])] }) (fun _ _ _=>none) (fun x=>[(0,za5 x)]) (fun x y av H=>[(0,[6,3,4,5],za5 (zaM x 0 3))])):=by kernel_rfl

theorem zyP:SpecOk Tryz.prog 62 (zaB zpV):=by
 refine za2 zaL zaN (SPok.cons zc9 SPok.nil) Tryz.func62 (by decide) (zgX _ _) (Eq.mp qh4 ?_)
 simp (maxSteps:=10000000) only [std,stdU,stdV,Exx,I64,Nat.reduceMul,Nat.reduceDiv,Nat.reduceAdd,Int.reduceToNat,zaV,zbO,zbG,zaH]
 exact fun x h=>⟨by omega,by omega,⟨h.1,h.2.2.2.2.2⟩,by omega,by omega,rfl,rfl,rfl,rfl,rfl,rfl,rfl,rfl,rfl⟩

def zpS:Ctr:=zmN 3 0

theorem qh1:(
 let q1:Prop:=true=true/\zaC/\(0:Nat)=0;
 let q2:Prop:=q1/\True; ∀(x:AllocT),za7 x->zaA x=(za5 x).ob/\∀(g:Unit),((0:Int) <= (↑(0:Nat):Int)/\(↑(0:Nat):Int)<(↑(4:Nat):Int))/\Exx (Nat×Nat) fun x_1=>(q2/\true=true/\setB (x.n,x.c)=setB x_1/\True)/\SetW x_1/\∀(y:Unit),True->((0:Int) <= (↑(3:Nat):Int)/\(↑(3:Nat):Int)<(↑(4:Nat):Int))/\Exx Unit fun y=>Exx Unit fun g=>Tr 1 (((160:TypeId)=160/\Tr 1 (x.r=(zaM x 3 0).r)/\q1/\q1/\q1/\q2)/\setB x_1=setB ((zaM x 3 0).n,(zaM x 3 0).c)/\setB (x.n,x.e)=setB ((zaM x 3 0).n,(zaM x 3 0).e)/\setB (x.n,x.m)=setB ((zaM x 3 0).n,(zaM x 3 0).m)/\setB x_1=setB ((zaM x 3 0).n,(zaM x 3 0).w)/\True)/\(Tr 1 True/\(za5 (zaM x 3 0)).ob=zaA (zaM x 3 0)/\true=true/\True)/\True)=(zcE tb [(98,zaB zeD)] Tryz.f62 zpS (fun x=>{ loose:=[(0,[0,2])] }) (fun _ _ _=>none) (fun x=>[(0,za5 x)]) (fun x y av H=>[(0,[2,3,4,6],za5 (zaM x 3 0))])):=by kernel_rfl

theorem zyM:SpecOk Tryz.prog 62 (zaB zpS):=by
 refine za2 zaL zaN (SPok.cons zc9 SPok.nil) Tryz.func62 (by decide) (zgX _ _) (Eq.mp qh1 ?_)
 simp (maxSteps:=10000000) only [std,stdU,stdV,Exx,I64,Nat.reduceMul,Nat.reduceDiv,Nat.reduceAdd,Int.reduceToNat,zaV,zbO,zbG,zaH]
 exact fun x h=>⟨by omega,by omega,⟨h.1,h.2.2.1⟩,by omega,by omega,rfl,rfl,rfl,rfl,rfl,rfl,rfl,rfl,rfl⟩

def qlO (k o:Nat) (args:List AV):Bool:=qmM 1 (k:Int) args&&qmM 2 (o:Int) args
def qhZ:Sx.Spec:=ze1 (qlO 2 3) (zaB zpT) (ze1 (qlO 3 2) (zaB zpR) (ze1 (qlO 1 0) (zaB zpU) (ze1 (qlO 0 3) (zaB zpV) (zaB zpS))))
theorem qhX:SpecOk Tryz.prog 62 qhZ:=zdL zyN (zdL zyL (zdL zyO (zdL zyP (zyM))))

theorem qhY {x:AllocT} (h:za7 x) (k o:Nat):za7 (zaM x k o):=by
 obtain ⟨h1,h2,h3,h4,h5,h6⟩:=h
 have hm:qfR x o<2 ^ x.n:=by unfold qfR; split <;> assumption
 unfold zaM qfP
 split <;> exact ⟨by assumption,by assumption,by assumption,by assumption,by assumption,by assumption⟩
def qkO (x:AllocT):AllocT:=zaM x 2 3
def qiA (g:AllocT->AllocT):Ctr:=ziN Unit (fun _=>True) (fun _=>[]) (fun x=>g x.1) (fun _ => .tup [])
def zmP:Ctr:=qiA qkO
theorem qcP:(∀(x:AllocT×Unit),za7 x.1/\True->Exx AllocT fun x_1=>(((true=true/\zaC/\(0:Nat)=0)/\Tr 1 ((2:Int)=(↑(2:Nat)
 : Int))/\Tr 1 ((3:Int)=(↑(3:Nat):Int))/\True)/\true=true/\zaA x.1=zaA x_1/\True)/\za7 x_1/\∀(y:Unit),True->Exx Unit fun y =>
 (Tr 1 True/\zaA (zaM x_1 2 3)=zaA (qkO x.1)/\true=true/\True)/\True)=(fnVC tb [(62,qhZ)] Tryz.f23 zmP (fun _=>{}) (fun _ =>
 none)):=by kernel_rfl

theorem zwA:SpecOk Tryz.prog 23 (zaB zmP):=by
 refine zaK zaL zaN (SPok.cons qhX SPok.nil) Tryz.func23 (by decide) (zf4 fun _=>trivial) (Eq.mp qcP ?_)
 simp (maxSteps:=10000000) only [std,stdU,stdV,Exx,I64,Nat.reduceMul,Nat.reduceDiv,Nat.reduceAdd,Int.reduceToNat,zaH]
 exact fun x h=>⟨rfl,rfl,h,rfl⟩

abbrev NewX:Type:=(Nat×Nat)×(Nat×Nat)×Int
def zcL (x:NewX):AllocT:={ n:=x.1.1,r:=x.2.2,c:=x.1.2,e:=x.2.1.2,m:=x.1.2,w:=x.1.2 }
def allocNewI:Ctr2 where
 X:=NewX
 conv:=true
 tau:=tau2
 pre:=fun x=>SetW x.1/\SetW x.2.1/\I64 x.2.2
 args:=fun x=>[.ptr 0 [] 0,.ptr 1 [] 0,i64 x.2.2]
 heap:=fun x=>[setI x.1,setI x.2.1]
 p:=fun x=>x.1.1=x.2.1.1/\0 <= x.2.2
 a:={ Y:=Unit,Q:=fun _ _=>True,res:=fun _ _ => .tup [.ptr 3 [] 0,i64 0],its:=fun x _=>[setI x.1,setI x.2.1],new:=fun x _=>[zeX (zcL x)] }
 b:={ Y:=Unit,Q:=fun _ _=>True,res:=fun _ _ => .tup [.nilp,i64 2],its:=fun x _=>[setI x.1,setI x.2.1],new:=fun _ _=>[] }

theorem qh9:(
 let q1:Prop:=true=true/\zaC/\(0:Nat)=0;
 let q2:Prop:=q1/\True;
 let q3:Prop:=(0:Int)<(↑(3:Nat):Int);
 let q4:Nat:=2*1 / 1;
 let q5:Nat:=(TI.mk (TK.int IntKind.i64) 1 8 (ZL.cons (Value.int IntKind.i64 0) ZL.nil) false).size;
 let q6:Nat:=(2,Operand.const (Value.int IntKind.i64 3)).1*q5 / 1;
 let q7:Nat:=1*1 / 1;
 let q8:Nat:=(1,Operand.const (Value.int IntKind.i64 2)).1*q5 / 1;
 let q9:Nat:=0*1 / 1;
 let q10:Nat:=(0,Operand.const (Value.int IntKind.i64 0)).1*q5 / 1;
 let q11:Int:=if Int.toNat 0=q4 then 3 else if Int.toNat 0=q7 then 2 else if Int.toNat 0=q9 then 0 else 0;
 let q12:Int:=0+1;
 let q13:Prop:=q12<(↑(3:Nat):Int);
 let q14:Nat:=q12.toNat;
 let q15:Int:=if q14=q4 then 3 else if q14=q7 then 2 else if q14=q9 then 0 else 0;
 let q16:Int:=q12+1;
 let q17:Prop:=q16<(↑(3:Nat):Int);
 let q18:Nat:=q16.toNat;
 let q19:Int:=if q18=q4 then 3 else if q18=q7 then 2 else if q18=q9 then 0 else 0; ∀(x:(Nat×Nat)×(Nat×Nat)×Int),
 let q20:Prop:=x.1.1=x.2.1.1/\(0:Int) <= x.2.2; SetW x.1/\SetW x.2.1/\I64 x.2.2->Exx ((Nat×Nat)×Unit) fun x_1=>(q2/\true=true/\setB x.1=setB x_1.1/\True)/\(SetW x_1.1/\True)/\∀(y:Unit),True->Exx ((Nat×Nat)×Unit) fun x_2 =>
 let q21:Prop:=(q20/\Exx Unit fun y=>False)\/¬allocNewI.p x/\Exx Unit fun y=>((Tr 1 (Tr 1 ((2:Int)=2)/\True)/\True)/\setB x_1.1=setB x.1/\setB x_2.1=setB x.2.1/\true=true/\True)/\True; (q2/\true=true/\setB x.2.1=setB x_2.1/\True)/\(SetW x_2.1/\True)/\∀(y:Unit),True->BC (!decide ((x_1.1.1:Int)=(x_2.1.1:Int))) q21 (BC (decide (x.2.2<(0:Int))) q21 (Exx (Nat×Nat) fun x_3 =>
 let q22:Prop:=setB x_3=setB x.2.1; (q2/\true=true/\setB x_2.1=setB x_3/\True)/\SetW x_3/\∀(y:Unit),True->((0:Int) <= (1:Int)/\(1:Int)<(↑(4:Nat):Int))/\((0:Int) <= (0:Int)/\q3/\q3)/\Exx (Nat×Nat) fun x_4=>(q2/\true=true/\setB x_1.1=setB x_4/\True)/\SetW x_4/\∀(y:Unit),True->((0:Int) <= q11/\q11<(↑(4:Nat):Int))/\I64 q12/\((0:Int) <= q12/\q13/\q13)/\Exx (Nat×Nat) fun x_5=>(q2/\true=true/\setB x_4=setB x_5/\True)/\SetW x_5/\∀(y:Unit),True->((0:Int) <= q15/\q15<(↑(4:Nat):Int))/\I64 q16/\((0:Int) <= q16/\q17/\q17)/\Exx (Nat×Nat) fun x_6=>(q2/\true=true/\setB x_5=setB x_6/\True)/\SetW x_6/\∀(y:Unit),True->((0:Int) <= q19/\q19<(↑(4:Nat):Int))/\I64 (q16+1)/\((q20/\Exx Unit fun y=>Exx Unit fun g=>Tr 1 (((160:Nat)=(160:TypeId)/\Tr 1 (x.2.2=(zcL x).r)/\q1/\q1/\q1/\q2)/\setB x_4=setB ((zcL x).n,(zcL x).c)/\setB x_3=setB ((zcL x).n,(zcL x).e)/\setB x_5=setB ((zcL x).n,(zcL x).m)/\setB x_6=setB ((zcL x).n,(zcL x).w)/\True)/\(((q1/\Tr 1 ((0:Int)=0)/\True)/\True)/\setB x_6=setB x.1/\q22/\true=true/\(za5 (zcL x)).ob=zaA (zcL x)/\True)/\True)\/¬allocNewI.p x/\Exx Unit fun y=>(((False/\Tr 1 ((0:Int)=2)/\True)/\True)/\setB x_6=setB x.1/\q22/\true=true/\True)/\True))))=(qgX tb [(98,zaB zeD),(111,zaB zf0)] Tryz.f77 allocNewI (fun x=>{ loose:=[(6,[1,3]),(10,[0,3])],unroll:=[(8,4)] }) (fun _ _ _=>none) (fun _=>[]) (fun x y av H=>[(3,[5,4,6,7],za5 (zcL x))]) (fun _ _ _ _=>[])):=by kernel_rfl

theorem zyU:SpecOk Tryz.prog 77 (zmX allocNewI):=by
 refine zwT zaL zaN (SPok.cons zc9 (SPok.cons ze9 SPok.nil)) Tryz.func77 (by decide) ⟨fun _ _ _ _=>(rfl:2=2),fun _ _ _ _=>⟨rfl,rfl⟩,fun x _ _ _ _=>⟨⟨⟨trivial,trivial,trivial⟩,⟨trivial,trivial⟩⟩,rfl,rfl,trivial⟩⟩ ⟨fun _ _ _ _=>(rfl:2=2),fun _ _ _ _=>⟨rfl,rfl⟩,fun x _ _ _ _=>⟨⟨⟨trivial,trivial,trivial⟩,trivial⟩,rfl,rfl,trivial⟩⟩ (Eq.mp qh9 ?_)
 simp (maxSteps:=10000000) only [std,stdU,stdV,Exx,I64,Nat.reduceMul,Nat.reduceDiv,Nat.reduceAdd,Int.reduceToNat,zaV,zbO,zbG,zaH]
 rintro n a n' b r ⟨h1,h2,h3,h4⟩
 refine ⟨h1,h2,fun hne hp=>hne hp.1,fun e=>⟨fun hr hp=>by have:=hp.2; simp only at this; omega,fun hr=>?_⟩⟩
 subst e
 simp only [if_pos,if_neg,Nat.reduceEqDiff,Nat.succ_ne_self,Nat.zero_add,Int.reduceToNat,Int.reduceAdd,if_true,if_false,zcL,and_true,true_and]
 repeat refine And.intro (by first | omega | exact h1 | exact h2) ?_
 omega

def tauArg2 (args:List AV) (H:AH):List Nat:=match args with
 | _ :: .ptr p _ _ :: _=>[p]
 | _=>[]
def ziP (tau:List AV->AH->List Nat) (args:List AV):Ctr where
 X:=(Nat×Nat)×Int
 Y:=Unit
 conv:=true
 tau:=tau
 pre:=fun x=>I64 x.2
 args:=fun x=>args++[i64 x.2]
 heap:=fun x=>[setI x.1]
 Q:=fun _ _=>True
 res:=fun x _ => .tup [.nilp,i64 1]
 its:=fun x _=>[setI x.1]
 new:=fun _ _=>[]
theorem ziO (tau:List AV->AH->List Nat) (args:List AV):CtrOk (ziP tau args) :=
 ⟨fun _ _ _ _=>rfl,fun _ _ _ _=>⟨rfl,rfl⟩,fun x _ _ _ _=>⟨⟨⟨trivial,trivial⟩,trivial⟩,⟨rfl,rfl,trivial⟩⟩⟩
def zkI:Ctr:=ziP tauArg2 [.nilp,.ptr 0 [] 0]
def zkH:Ctr:=ziP zgN [.ptr 0 [] 0,.nilp]

theorem zyW:(∀(x:(Nat×Nat)×Int),-9223372036854775808 <= x.2/\x.2 <= (9223372036854775807:Int)->Exx Unit fun y=>((Tr 1 (Tr 1 ((1:Int) =
 1)/\True)/\True)/\setB x.1=setB x.1/\true=true/\True)/\True)=(fnVC tb [(98,zaB zeD),(111,zaB zf0)] Tryz.f77 zkI (fun _ =>
 {}) (fun _=>none)):=by kernel_rfl

theorem ztJ:SpecOk Tryz.prog 77 (zaB zkI):=by
 refine zaK zaL zaN (SPok.cons zc9 (SPok.cons ze9 SPok.nil)) Tryz.func77 (by decide) (ziO _ _) (Eq.mp zyW ?_)
 simp (maxSteps:=10000000) only [std,stdU,stdV,Exx,I64,Nat.reduceMul,Nat.reduceDiv,Nat.reduceAdd,Int.reduceToNat,zaV]

theorem zyV:(∀(x:(Nat×Nat)×Int),-9223372036854775808 <= x.2/\x.2 <= (9223372036854775807:Int)->Exx Unit fun y=>((Tr 1 (Tr 1 ((1:Int) =
 1)/\True)/\True)/\setB x.1=setB x.1/\true=true/\True)/\True)=(fnVC tb [(98,zaB zeD),(111,zaB zf0)] Tryz.f77 zkH (fun _ =>
 {}) (fun _=>none)):=by kernel_rfl

theorem ztI:SpecOk Tryz.prog 77 (zaB zkH):=by
 refine zaK zaL zaN (SPok.cons zc9 (SPok.cons ze9 SPok.nil)) Tryz.func77 (by decide) (ziO _ _) (Eq.mp zyV ?_)
 simp (maxSteps:=10000000) only [std,stdU,stdV,Exx,I64,Nat.reduceMul,Nat.reduceDiv,Nat.reduceAdd,Int.reduceToNat,zaV]

def zm8:Sx.Spec:=ze1 (qh6 0) (zaB zkI) (ze1 (qh6 1) (zaB zkH) (zmX allocNewI))
theorem zqC:SpecOk Tryz.prog 77 zm8:=zdL ztJ (zdL ztI zyU)

end Yard
