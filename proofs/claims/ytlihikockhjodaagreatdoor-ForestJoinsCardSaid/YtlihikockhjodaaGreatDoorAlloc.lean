import Derived.Test.YtlihikockhjodaaGreatDoorBits2

namespace Yard
open Go Go.Sx Go.Proofs
set_option linter.unusedVariables false
set_option linter.unusedSimpArgs false
set_option maxRecDepth 4000


theorem zwN {n m:Nat} {a:Int} {i:Nat}:(add1 n m a).testBit i=(m.testBit i || decide (i<n/\(i:Int)=a)):=by
 unfold add1 inB
 by_cases h:0 <= a/\a<(n:Int)
 ·rw [if_pos (decide_eq_true h),Nat.testBit_or,Nat.testBit_two_pow]
  have:(a.toNat=i) ↔ (i<n/\(i:Int)=a):=by omega
  simp only [this]
 ·rw [if_neg (by rw [decide_eq_false h]; simp)]
  have:¬(i<n/\(i:Int)=a):=by omega
  simp [this]
theorem qeY {n i:Nat}:∀{l:List Int} {m:Nat},(addL n m l).testBit i=(m.testBit i || decide (i<n/\(i:Int)∈l))
 | [],m=>by simp [addL]
 | a :: r,m=>by
   have e:addL n m (a :: r)=addL n (add1 n m a) r:=rfl
   rw [e,qeY (l:=r),zwN,Bool.or_assoc]
   congr 1
   rw [<- Bool.decide_or]
   apply decide_eq_decide.2
   rw [List.mem_cons]
   constructor
   ·rintro (⟨h1,h2⟩ | ⟨h1,h2⟩)
    ·exact ⟨h1,.inl h2⟩
    ·exact ⟨h1,.inr h2⟩
   ·rintro ⟨h1,h2 | h2⟩
    ·exact .inl ⟨h1,h2⟩
    ·exact .inr ⟨h1,h2⟩
theorem listN_mem {n m:Nat} {a:Int}:a∈zcU (n,m) ↔ 0 <= a/\a<(n:Int)/\m.testBit a.toNat=true:=by
 rw [zcU,List.mem_map]
 constructor
 ·rintro ⟨i,hi,rfl⟩
  obtain ⟨h1,h2⟩:=zzQ.1 hi
  exact ⟨by omega,by simp only at h1; omega,h2⟩
 ·rintro ⟨h1,h2,h3⟩
  exact ⟨a.toNat,zzQ.2 ⟨by simp only; omega,h3⟩,by omega⟩

theorem zrT {n m:Nat} {a:Int} {i:Nat}:(drop1 n m a).testBit i=(m.testBit i && !decide (i<n/\(i:Int)=a)):=by
 unfold drop1 inB
 by_cases h:0 <= a/\a<(n:Int)
 ·rw [if_pos (decide_eq_true h),zlD]
  have:(a.toNat=i) ↔ (i<n/\(i:Int)=a):=by omega
  simp only [this]
 ·rw [if_neg (by rw [decide_eq_false h]; simp)]
  have:¬(i<n/\(i:Int)=a):=by omega
  simp [this]
theorem ztP {s:Nat×Nat} (h:SetW s):Ints (zcU s):=by
 have h1:=h.1
 refine ⟨fun x hx=>?_,?_⟩
 ·have:=(listN_mem (n:=s.1) (m:=s.2)).1 hx
  unfold I64; omega
 ·have:=zmV s.1 s.2
  rw [zcU,List.length_map]; omega
def zh5 (s t:Nat×Nat):Nat×Nat:=(s.1,addL s.1 s.2 (zcU t))
def qdN (g:Nat×Nat->Nat×Nat->Nat×Nat):Ctr where
 X:=(Nat×Nat)×(Nat×Nat)
 Y:=Unit
 conv:=true
 tau:=tau2
 pre:=fun x=>SetW x.1/\SetW x.2
 args:=fun _=>[.ptr 0 [] 0,.ptr 1 [] 0]
 heap:=fun x=>[setI x.1,setI x.2]
 Q:=fun _ _=>True
 res:=fun x _ => .ptr 3 [] 0
 its:=fun x _=>[setI x.1,setI x.2]
 new:=fun x _=>[setI (g x.1 x.2)]
theorem qaH (g:Nat×Nat->Nat×Nat->Nat×Nat):CtrOk (qdN g) :=
 ⟨fun _ _ _ _=>(rfl:2=2),fun _ _ _ _=>⟨rfl,rfl⟩,fun x _ _ _ _=>⟨⟨⟨trivial,trivial,trivial⟩,⟨trivial,trivial⟩⟩,rfl⟩⟩
def zxI (g:Nat×Nat->Nat×Nat->Nat×Nat):Ctr where
 X:=Nat×Nat
 Y:=Unit
 conv:=true
 tau:=zgC
 pre:=SetW
 args:=fun _=>[.ptr 0 [] 0,.ptr 0 [] 0]
 heap:=fun x=>[setI x]
 Q:=fun _ _=>True
 res:=fun x _ => .ptr 2 [] 0
 its:=fun x _=>[setI x]
 new:=fun x _=>[setI (g x x)]
theorem zxH (g:Nat×Nat->Nat×Nat->Nat×Nat):CtrOk (zxI g) :=
 ⟨fun _ _ _ _=>(rfl:1=1),fun _ _ _ _=>⟨rfl,rfl⟩,fun x _ _ _ _=>⟨⟨⟨trivial,trivial⟩,⟨trivial,trivial⟩⟩,rfl⟩⟩
def zlO:Ctr:=qdN zh5
def ziO:Ctr:=zxI zh5
theorem qoQ:(
 let q1:Prop:=true=true/\zaC/\0=0;
 let q2:Prop:=q1/\True; ∀(x:(Nat×Nat)×Nat×Nat),SetW x.1/\SetW x.2->Exx (Nat×Nat) fun x_1=>(q2/\true=true/\setB x.1=setB x_1/\True)/\SetW x_1/\∀(y:Unit),True->Exx (Nat×Nat) fun x_2=>(q2/\true=true/\setB x.2=setB x_2/\True)/\SetW x_2/\∀(y:Nat),(zcU x_2).length <= y->Exx ((Nat×Nat)×List Int) fun x_3=>((q1/\(0+(zcU x_2).length <= (zcU x_2).length/\(zcU x_2).length=x_3.2.length/\∀(i:Nat),i<x_3.2.length->[AV.int .i64 ((zcU x_2).getD (0+i) 0)]=[AV.int .i64 (x_3.2.getD i 0)])/\True)/\true=true/\setB x_1=setB x_3.1/\True)/\(SetW x_3.1/\Ints x_3.2)/\∀(y:Unit),True->Exx Unit fun y=>(q2/\setB x_1=setB x.1/\setB x_2=setB x.2/\true=true/\setB (x_3.1.1,addL x_3.1.1 x_3.1.2 x_3.2)=setB (zh5 x.1 x.2)/\True)/\True)=(fnVC tb [(112,zdF (zaA zkW) (zaA zhY)),(178,zaA zhA),(179,zaA zlP)] Tryz.f140 zlO (fun _=>{ loose:=[(2,[0,1,3])] }) (fun _=>none)):=by kernel_rfl

theorem zm9:SpecOk Tryz.prog 140 (zaA zlO):=by
 refine zaK zaM zaL (SPok.cons (zbR ziR zhB) (SPok.cons zqC (SPok.cons zs6 SPok.nil))) Tryz.func140 (by decide) (qaH _) (Eq.mp qoQ ?_)
 simp (maxSteps:=10000000) only [std,stdU,stdV,Exx,I64,Nat.reduceMul,Nat.reduceDiv,Nat.reduceAdd,Int.reduceToNat,zdI,zcT,zaZ]
 exact fun _ _ _ _ h=>⟨h.1,h.2,fun _ _=>⟨h.1,ztP h.2,rfl⟩⟩

theorem qi1:(
 let q1:Prop:=true=true/\zaC/\0=0;
 let q2:Prop:=q1/\True; ∀(x:Nat×Nat),SetW x->Exx (Nat×Nat) fun x_1=>(q2/\true=true/\setB x=setB x_1/\True)/\SetW x_1/\∀(y:Unit),True->Exx (Nat×Nat) fun x_2=>(q2/\true=true/\setB x_1=setB x_2/\True)/\SetW x_2/\∀(y:Nat),(zcU x_2).length <= y->Exx ((Nat×Nat)×List Int) fun x_3=>((q1/\(0+(zcU x_2).length <= (zcU x_2).length/\(zcU x_2).length=x_3.2.length/\∀(i:Nat),i<x_3.2.length->[AV.int .i64 ((zcU x_2).getD (0+i) 0)]=[AV.int .i64 (x_3.2.getD i 0)])/\True)/\true=true/\setB x_1=setB x_3.1/\True)/\(SetW x_3.1/\Ints x_3.2)/\∀(y:Unit),True->Exx Unit fun y=>(q2/\setB x_2=setB x/\true=true/\setB (x_3.1.1,addL x_3.1.1 x_3.1.2 x_3.2)=setB (zh5 x x)/\True)/\True)=(fnVC tb [(112,zdF (zaA zkW) (zaA zhY)),(178,zaA zhA),(179,zaA zlP)] Tryz.f140 ziO (fun _=>{ loose:=[(2,[0,2])] }) (fun _=>none)):=by kernel_rfl

theorem zkU:SpecOk Tryz.prog 140 (zaA ziO):=by
 refine zaK zaM zaL (SPok.cons (zbR ziR zhB) (SPok.cons zqC (SPok.cons zs6 SPok.nil))) Tryz.func140 (by decide) (zxH _) (Eq.mp qi1 ?_)
 simp (maxSteps:=10000000) only [std,stdU,stdV,Exx,I64,Nat.reduceMul,Nat.reduceDiv,Nat.reduceAdd,Int.reduceToNat,zdI,zcT,zaZ]
 exact fun _ _ h=>⟨h,h,fun _ _=>⟨h,ztP h,rfl⟩⟩


structure AllocT where
 n:Nat
 r:Int
 c:Nat
 e:Nat
 m:Nat
 w:Nat
def zbD (x:AllocT):Prop:=x.n <= 3072/\I64 x.r/\x.c<2 ^ x.n/\x.e<2 ^ x.n/\x.m<2 ^ x.n/\x.w<2 ^ x.n
abbrev zkF (x:AllocT):AH:=[.cells 160 [i64 x.r,.ptr 1 [] 0,.ptr 2 [] 0,.ptr 3 [] 0,.ptr 4 [] 0],setI (x.n,x.c),setI (x.n,x.e),setI (x.n,x.m),setI (x.n,x.w)]
abbrev zbB (x:AllocT):Opn:={ tag:=[[(x.n:Int)],[x.r],[(x.c:Int)],[(x.e:Int)],[(x.m:Int)],[(x.w:Int)]],G:=Unit,fam:=fun _=>zkF x,pl:=fun _=>⟨⟨rfl,rfl,rfl,rfl,rfl,trivial⟩,trivial,trivial,trivial,trivial,trivial⟩,nf:=fun _=>rfl,root:=fun _=>rfl }
def zaB (x:AllocT):Ob:=(zbB x).ob
abbrev zfG (x:AllocT):Sx.Item := .obj (zaB x)
theorem zaI {s t:AllocT}:(zaB s=zaB t) ↔ s=t:=by
 constructor
 ·intro h
  have:=congrArg Ob.tag h
  simp only [zaB,Opn.ob,List.cons.injEq,and_true] at this
  obtain ⟨h1,h2,h3,h4,h5,h6⟩:=this
  cases s; cases t
  simp only at *
  rw [Int.ofNat_inj.1 h1,h2,Int.ofNat_inj.1 h3,Int.ofNat_inj.1 h4,Int.ofNat_inj.1 h5,Int.ofNat_inj.1 h6]
 ·intro h; rw [h]
theorem zb4 {s t:AllocT}:(zaB s=(zbB t).ob) ↔ s=t:=zaI
theorem zbM {s t:AllocT}:((zbB s).ob=zaB t) ↔ s=t:=zaI

theorem addL_or {n a b:Nat} (h:b<2 ^ n):addL n a (zcU (n,b))=a ||| b:=by
 apply Nat.eq_of_testBit_eq
 intro i
 rw [qeY,Nat.testBit_or]
 congr 1
 by_cases hi:i<n
 ·rw [Bool.eq_iff_iff,decide_eq_true_eq,listN_mem,Int.toNat_natCast]
  exact ⟨fun h=>h.2.2.2,fun h=>⟨hi,by omega,by omega,h⟩⟩
 ·rw [Nat.testBit_lt_two_pow (Nat.lt_of_lt_of_le h (Nat.pow_le_pow_right (by decide) (by omega)))]
  exact decide_eq_false fun k=>hi k.1
theorem zh4 {n a b:Nat} (h:b<2 ^ n):zh5 (n,a) (n,b)=(n,a ||| b):=by rw [zh5,addL_or h]

def clIf (p:Nat) (H:AH) (l:List (Nat×List Nat×Opn)):List (Nat×List Nat×Opn):=match H[p]? with
 | some (.obj _)=>[]
 | _=>l
def ze2:Ctr:=zhA

theorem copiedV:(
 let q1:Prop:=true=true/\zaC/\0=0;
 let q2:Prop:=q1/\True; ∀(x:Nat×Nat),SetW x->Exx (Nat×Nat) fun x_1=>((q1/\q2)/\true=true/\setB x=setB x_1/\True)/\SetW x_1/\∀(y:Unit),True->Exx Unit fun y=>(q2/\setB x_1=setB x/\true=true/\setB (zh5 x_1 x_1)=setB x/\True)/\True)=(fnVC tb [(140,zxD (zaA ziO) (zaA zlO))] Tryz.f98 ze2 (fun _=>{}) (fun _=>none)):=by kernel_rfl

theorem zdT:SpecOk Tryz.prog 98 (zaA ze2):=by
 refine zaK zaM zaL (SPok.cons (zp6 zkU zm9) SPok.nil) Tryz.func98 (by decide) zoK (Eq.mp copiedV ?_)
 simp (maxSteps:=10000000) only [std,stdU,stdV,Exx,I64,Nat.reduceMul,Nat.reduceDiv,Nat.reduceAdd,Int.reduceToNat,zaZ]
 rintro n m h
 exact ⟨h,by rw [zh4 h.2,Nat.or_self]⟩

theorem qlS {s:Nat×Nat} (h:s.1 <= 3072):∀k a:Nat,-1 <= gapF s k a/\gapF s k a <= 3072
 | 0,_=>⟨by simp [gapF],by simp [gapF]⟩
 | k+1,a=>by
   rw [gapF]
   have:=qlS h k (a+1)
   split
   ·split
    ·exact this
    ·omega
   ·omega
theorem zv3 {s:Nat×Nat} (h:SetW s) (a:Int):I64 (gapN s a):=by
 have:=qlS h.1 (s.1+1) a.toNat
 unfold gapN; exact ⟨by omega,by omega⟩
theorem or_lt2 {n a b:Nat} (ha:a<2 ^ n) (hb:b<2 ^ n):a ||| b<2 ^ n:=Nat.or_lt_two_pow ha hb
def zbY (x:AllocT):Nat:=x.w ||| x.c ||| x.e ||| x.m
def zzX (Y:Type) (pre:AllocT×Y->Prop) (args:AllocT×Y->List AV) (res:AllocT×Y->AV):Ctr where
 X:=AllocT×Y
 Y:=Unit
 conv:=true
 tau:=zgC
 pre:=fun x=>zbD x.1/\pre x
 args:=fun x => .ptr 0 [] 0 :: args x
 heap:=fun x=>[zfG x.1]
 Q:=fun _ _=>True
 res:=fun x _=>res x
 its:=fun x _=>[zfG x.1]
 new:=fun _ _=>[]
theorem zzW {Y:Type} {pre:AllocT×Y->Prop} {args:AllocT×Y->List AV} {res:AllocT×Y->AV} (h:∀x,plV 2 (res x)):CtrOk (zzX Y pre args res) :=
 ⟨fun _ _ _ _=>rfl,fun _ _ _ _=>⟨rfl,rfl⟩,fun x _ _ _ _=>⟨⟨⟨trivial,trivial⟩,trivial⟩,h x⟩⟩
def zjJ (Y:Type) (pre:AllocT×Y->Prop) (args:AllocT×Y->List AV) (g:AllocT×Y->AllocT) (res:AllocT×Y->AV):Ctr where
 X:=AllocT×Y
 Y:=Unit
 conv:=true
 tau:=zgC
 pre:=fun x=>zbD x.1/\pre x
 args:=fun x => .ptr 0 [] 0 :: args x
 heap:=fun x=>[zfG x.1]
 Q:=fun _ _=>True
 res:=fun x _=>res x
 its:=fun x _=>[zfG (g x)]
 new:=fun _ _=>[]
theorem zgU {Y:Type} {pre:AllocT×Y->Prop} {args:AllocT×Y->List AV} {g:AllocT×Y->AllocT} {res:AllocT×Y->AV} (h:∀x,plV 2 (res x)):CtrOk (zjJ Y pre args g res) :=
 ⟨fun _ _ _ _=>(rfl:1=1),fun _ _ _ _=>⟨rfl,rfl⟩,fun x _ _ _ _=>⟨⟨⟨trivial,trivial⟩,trivial⟩,h x⟩⟩
def zoD (g:AllocT->Nat×Nat):Ctr where
 X:=AllocT
 Y:=Unit
 conv:=true
 tau:=zgC
 pre:=zbD
 args:=fun _=>[.ptr 0 [] 0]
 heap:=fun x=>[zfG x]
 Q:=fun _ _=>True
 res:=fun _ _ => .ptr 2 [] 0
 its:=fun x _=>[zfG x]
 new:=fun x _=>[setI (g x)]
theorem zmW (g:AllocT->Nat×Nat):CtrOk (zoD g) :=
 ⟨fun _ _ _ _=>(rfl:1=1),fun _ _ _ _=>⟨rfl,rfl⟩,fun x _ _ _ _=>⟨⟨⟨trivial,trivial⟩,⟨trivial,trivial⟩⟩,rfl⟩⟩
def qrD (av:AV):Option Ren:=match av with
 | .ptr q _ _=>some [some 0,some 1,some q]
 | _=>none
def qqA:Ctr:=zoD fun x=>(x.n,zbY x)

theorem heldV:(
 let q1:Prop:=true=true/\zaC/\0=0;
 let q2:Prop:=q1/\True;
 let q3:Int:=(↑(Int.toNat 3-0):Int);
 let q4:Prop:=q1/\q2;
 let q5:Int:=0+1;
 let q6:Int:=q5+1; ∀(x:AllocT),zbD x->zaB x=(zbB x).ob/\∀(g:Unit),((0:Int) <= (3:Int)/\3<(↑(4:Nat):Int))/\Exx (Nat×Nat) fun x_1=>(q2/\true=true/\setB (x.n,x.w)=setB x_1/\True)/\SetW x_1/\∀(y:Unit),True->(0:Int) <= (3:Int)/\(0 <= (3:Int).toNat/\(3:Int).toNat <= 4)/\((0:Int) <= (0:Int)/\(0:Int)<q3)/\Exx ((Nat×Nat)×Nat×Nat) fun x_2=>(q4/\true=true/\setB x_1=setB x_2.1/\setB (x.n,x.c)=setB x_2.2/\True)/\(SetW x_2.1/\SetW x_2.2)/\∀(y:Unit),True->I64 q5/\((0:Int) <= q5/\q5<q3)/\Exx ((Nat×Nat)×Nat×Nat) fun x_3=>(q4/\true=true/\setB (zh5 x_2.1 x_2.2)=setB x_3.1/\setB (x.n,x.e)=setB x_3.2/\True)/\(SetW x_3.1/\SetW x_3.2)/\∀(y:Unit),True->I64 q6/\((0:Int) <= q6/\q6<q3)/\Exx ((Nat×Nat)×Nat×Nat) fun x_4=>(q4/\true=true/\setB (zh5 x_3.1 x_3.2)=setB x_4.1/\setB (x.n,x.m)=setB x_4.2/\True)/\(SetW x_4.1/\SetW x_4.2)/\∀(y:Unit),True->I64 (q6+1)/\Exx Unit fun y=>Exx Unit fun g=>Tr 1 (((160:TypeId)=160/\Tr 1 (x.r=x.r)/\q1/\q1/\q4)/\setB x_2.2=setB (x.n,x.c)/\setB x_3.2=setB (x.n,x.e)/\setB x_4.2=setB (x.n,x.m)/\setB x_1=setB (x.n,x.w)/\True)/\(q2/\(zbB x).ob=zaB x/\true=true/\setB (zh5 x_4.1 x_4.2)=setB (x.n,zbY x)/\True)/\True)=(zcA tb [(98,zaA ze2),(140,zxD (zaA ziO) (zaA zlO))] Tryz.f114 qqA (fun x=>{ unroll:=[(3,4)] }) (fun _ av _=>qrD av) (fun x=>[(0,zbB x)]) (fun x y av H=>[(0,[2,3,4,5],zbB x)])):=by kernel_rfl

theorem qlN:SpecOk Tryz.prog 114 (zaA qqA):=by
 refine za0 zaM zaL (SPok.cons zdT (SPok.cons (zp6 zkU zm9) SPok.nil)) Tryz.func114 (by decide) (zmW _) (Eq.mp heldV ?_)
 simp (maxSteps:=10000000) only [std,stdU,stdV,Exx,I64,Nat.reduceMul,Nat.reduceDiv,Nat.reduceAdd,Int.reduceToNat,zaZ,zb4,zbM,zaI]
 rintro x ⟨h1,h2,h3,h4,h5,h6⟩
 have e1:zh5 (x.n,x.w) (x.n,x.c)=(x.n,x.w ||| x.c):=zh4 h3
 have e2:zh5 (x.n,x.w ||| x.c) (x.n,x.e)=(x.n,x.w ||| x.c ||| x.e):=zh4 h4
 have e3:zh5 (x.n,x.w ||| x.c ||| x.e) (x.n,x.m)=(x.n,zbY x):=zh4 h5
 rw [e1,e2,e3]
 repeat refine And.intro (by first | omega | exact ⟨h1,h6⟩ | exact ⟨h1,h3⟩ | exact ⟨h1,h4⟩ | exact ⟨h1,h5⟩ | exact ⟨h1,or_lt2 h6 h3⟩ | exact ⟨h1,or_lt2 (or_lt2 h6 h3) h4⟩) ?_
 rfl

def zzT (args:List AV) (H:AH):List Nat:=match args with
 | .ptr p _ _ :: _=>match H[p]? with
   | some (.cells _ (_ :: .ptr a _ _ :: .ptr b _ _ :: .ptr c _ _ :: .ptr d _ _ :: _))=>[p,a,b,c,d]
   | _=>[p]
 | _=>[]
theorem qm5 (x:AllocT):plH (zkF x):=⟨⟨rfl,rfl,rfl,rfl,rfl,trivial⟩,trivial,trivial,trivial,trivial,trivial⟩
def zy0:Ctr where
 X:=AllocT
 Y:=Unit
 conv:=true
 tau:=zzT
 pre:=zbD
 args:=fun _=>[.ptr 0 [] 0]
 heap:=zkF
 Q:=fun _ _=>True
 res:=fun _ _ => .ptr 6 [] 0
 its:=fun x _=>zkF x
 new:=fun x _=>[setI (x.n,zbY x)]
theorem qlO:CtrOk zy0 :=
 ⟨fun _ _ _ _=>(rfl:5=5),fun _ _ _ _=>⟨rfl,rfl⟩,fun x _ _ _ _=>⟨⟨qm5 x,⟨trivial,trivial⟩⟩,rfl⟩⟩
def ptrRen5 (av:AV):Option Ren:=match av with
 | .ptr q _ _=>some [some 0,some 1,some 2,some 3,some 4,some 5,some q]
 | _=>none

theorem heldOV:(
 let q1:Prop:=true=true/\zaC/\0=0;
 let q2:Prop:=q1/\True;
 let q3:Int:=(↑(Int.toNat 3-0):Int);
 let q4:Prop:=q1/\q2;
 let q5:Int:=0+1;
 let q6:Int:=q5+1; ∀(x:AllocT),zbD x->((0:Int) <= (3:Int)/\3<(↑(4:Nat):Int))/\Exx (Nat×Nat) fun x_1=>(q2/\true=true/\setB (x.n,x.w)=setB x_1/\True)/\SetW x_1/\∀(y:Unit),True->(0:Int) <= (3:Int)/\(0 <= (3:Int).toNat/\(3:Int).toNat <= 4)/\((0:Int) <= (0:Int)/\(0:Int)<q3)/\Exx ((Nat×Nat)×Nat×Nat) fun x_2=>(q4/\true=true/\setB x_1=setB x_2.1/\setB (x.n,x.c)=setB x_2.2/\True)/\(SetW x_2.1/\SetW x_2.2)/\∀(y:Unit),True->I64 q5/\((0:Int) <= q5/\q5<q3)/\Exx ((Nat×Nat)×Nat×Nat) fun x_3=>(q4/\true=true/\setB (zh5 x_2.1 x_2.2)=setB x_3.1/\setB (x.n,x.e)=setB x_3.2/\True)/\(SetW x_3.1/\SetW x_3.2)/\∀(y:Unit),True->I64 q6/\((0:Int) <= q6/\q6<q3)/\Exx ((Nat×Nat)×Nat×Nat) fun x_4=>(q4/\true=true/\setB (zh5 x_3.1 x_3.2)=setB x_4.1/\setB (x.n,x.m)=setB x_4.2/\True)/\(SetW x_4.1/\SetW x_4.2)/\∀(y:Unit),True->I64 (q6+1)/\Exx Unit fun y=>(q2/\((160:TypeId)=160/\Tr 1 (x.r=x.r)/\q1/\q1/\q4)/\setB x_2.2=setB (x.n,x.c)/\setB x_3.2=setB (x.n,x.e)/\setB x_4.2=setB (x.n,x.m)/\setB x_1=setB (x.n,x.w)/\true=true/\setB (zh5 x_4.1 x_4.2)=setB (x.n,zbY x)/\True)/\True)=(zcA tb [(98,zaA ze2),(140,zxD (zaA ziO) (zaA zlO))] Tryz.f114 zy0 (fun x=>{ unroll:=[(3,4)] }) (fun _ av _=>ptrRen5 av) (fun _=>[]) (fun _ _ _ _=>[])):=by kernel_rfl

theorem qeF:SpecOk Tryz.prog 114 (zaA zy0):=by
 refine za0 zaM zaL (SPok.cons zdT (SPok.cons (zp6 zkU zm9) SPok.nil)) Tryz.func114 (by decide) qlO (Eq.mp heldOV ?_)
 simp (maxSteps:=10000000) only [std,stdU,stdV,Exx,I64,Nat.reduceMul,Nat.reduceDiv,Nat.reduceAdd,Int.reduceToNat,zaZ]
 rintro x ⟨h1,h2,h3,h4,h5,h6⟩
 have e1:zh5 (x.n,x.w) (x.n,x.c)=(x.n,x.w ||| x.c):=zh4 h3
 have e2:zh5 (x.n,x.w ||| x.c) (x.n,x.e)=(x.n,x.w ||| x.c ||| x.e):=zh4 h4
 have e3:zh5 (x.n,x.w ||| x.c ||| x.e) (x.n,x.m)=(x.n,zbY x):=zh4 h5
 rw [e1,e2,e3]
 repeat refine And.intro (by first | omega | exact ⟨h1,h6⟩ | exact ⟨h1,h3⟩ | exact ⟨h1,h4⟩ | exact ⟨h1,h5⟩ | exact ⟨h1,or_lt2 h6 h3⟩ | exact ⟨h1,or_lt2 (or_lt2 h6 h3) h4⟩) ?_
 rfl

def zwV:Ctr:=zoD fun x=>(x.n,x.w)

theorem worksV:(
 let q1:Prop:=true=true/\zaC/\0=0;
 let q2:Prop:=q1/\True; ∀(x:AllocT),zbD x->zaB x=(zbB x).ob/\∀(g:Unit),((0:Int) <= (3:Int)/\3<(↑(4:Nat):Int))/\Exx (Nat×Nat) fun x_1=>(q2/\true=true/\setB (x.n,x.w)=setB x_1/\True)/\SetW x_1/\∀(y:Unit),True->Exx Unit fun y=>Exx Unit fun g=>Tr 1 (((160:TypeId)=160/\Tr 1 (x.r=x.r)/\q1/\q1/\q1/\q2)/\setB (x.n,x.c)=setB (x.n,x.c)/\setB (x.n,x.e)=setB (x.n,x.e)/\setB (x.n,x.m)=setB (x.n,x.m)/\setB x_1=setB (x.n,x.w)/\True)/\(q2/\(zbB x).ob=zaB x/\true=true/\setB x_1=setB (x.n,x.w)/\True)/\True)=(zcA tb [(98,zaA ze2)] Tryz.f60 zwV (fun _=>{}) (fun _ av _=>qrD av) (fun x=>[(0,zbB x)]) (fun x y av H=>[(0,[2,3,4,5],zbB x)])):=by kernel_rfl

theorem zuG:SpecOk Tryz.prog 60 (zaA zwV):=by
 refine za0 zaM zaL (SPok.cons zdT SPok.nil) Tryz.func60 (by decide) (zmW _) (Eq.mp worksV ?_)
 simp (maxSteps:=10000000) only [std,stdU,stdV,Exx,I64,Nat.reduceMul,Nat.reduceDiv,Nat.reduceAdd,Int.reduceToNat,zaZ,zb4,zbM,zaI]
 exact fun x h=>⟨by omega,by omega,h.1,h.2.2.2.2.2⟩

theorem qb3 {x:AllocT} (h:zbD x):zbY x<2 ^ x.n:=by
 obtain ⟨_,_,h3,h4,h5,h6⟩:=h
 exact or_lt2 (or_lt2 (or_lt2 h6 h3) h4) h5
def freeN (x:AllocT):Int:=(x.n:Int)-((bitsL x.n (zbY x)).length:Nat)
theorem qeJ {x:AllocT} (h:zbD x):0 <= freeN x/\freeN x <= 3072:=by
 have:=zmV x.n (zbY x)
 have:=h.1
 unfold freeN; omega
def zeR (x:AllocT) (r:Int):Int:=if freeN x <= r then 0 else gapN (x.n,zbY x) 0
def zcJ (x:AllocT) (r:Int):Int:=if freeN x <= r then 10 else 0
def za7 (x:AllocT) (r:Int):AllocT:=if freeN x <= r then x else { x with w:=add1 x.n x.w (gapN (x.n,zbY x) 0) }
def qiD:Ctr:=zjJ Int (fun x=>I64 x.2) (fun x=>[i64 x.2]) (fun x=>za7 x.1 x.2) (fun x => .tup [i64 (zeR x.1 x.2),i64 (zcJ x.1 x.2)])

theorem takeRV:(
 let q1:Prop:=true=true/\zaC/\0=0;
 let q2:Prop:=q1/\True;
 let q3:Nat:=(TI.mk (TK.int IntKind.i64) 1 8 (ZL.cons (Value.int IntKind.i64 0) ZL.nil) false).size; ∀(x:AllocT×Int),zbD x.1/\I64 x.2->Exx AllocT fun x_1=>(q2/\true=true/\zaB x.1=zaB x_1/\True)/\zbD x_1/\∀(y:Unit),True->Exx ((Nat×Nat)×Unit) fun x_2=>(q2/\true=true/\setB (x_1.n,zbY x_1)=setB x_2.1/\True)/\(SetW x_2.1/\True)/\∀(y:Unit),True->Exx ((Nat×Nat)×Unit) fun x_3 =>
 let q4:Int:=(x_2.1.1:Int)-(↑(bitsL x_3.1.1 x_3.1.2).length:Int); (q2/\true=true/\setB x_2.1=setB x_3.1/\True)/\(SetW x_3.1/\True)/\∀(y:Unit),True->I64 q4/\BC (decide (q4 <= x.2)) (Exx Unit fun y=>(((Tr 1 ((0:Int)=zeR x.1 x.2)/\Tr 1 ((10:Int)=zcJ x.1 x.2)/\True)/\True)/\zaB x_1=zaB (za7 x.1 x.2)/\true=true/\True)/\True) (Exx ((Nat×Nat)×Int) fun x_4=>((q1/\Tr 1 ((0:Int)=x_4.2)/\True)/\true=true/\setB x_3.1=setB x_4.1/\True)/\(SetW x_4.1/\I64 x_4.2)/\∀(y:Unit),True->Exx AllocT fun y=>zaB x_1=(zbB y).ob/\∀(g:Unit),((0:Int) <= (3:Int)/\3<(↑(4:Nat):Int))/\Exx ((Nat×Nat)×List Int) fun x_5=>((q1/\(0+1 <= 1/\1=x_5.2.length/\∀(i:Nat),
 let q5:Nat:=0+i; i<x_5.2.length->[AV.int .i64 (if q5=0*1 / 1 then gapN x_4.1 x_4.2 else 0)]=[AV.int .i64 (x_5.2.getD i 0)])/\True)/\true=true/\setB (y.n,y.w)=setB x_5.1/\True)/\(SetW x_5.1/\Ints x_5.2)/\∀(y_1:Unit),True->Exx Unit fun y_2=>Exx Unit fun g=>Tr 1 (((160:TypeId)=160/\Tr 1 (y.r=(za7 x.1 x.2).r)/\q1/\q1/\q1/\q2)/\setB (y.n,y.c)=setB ((za7 x.1 x.2).n,(za7 x.1 x.2).c)/\setB (y.n,y.e)=setB ((za7 x.1 x.2).n,(za7 x.1 x.2).e)/\setB (y.n,y.m)=setB ((za7 x.1 x.2).n,(za7 x.1 x.2).m)/\setB (x_5.1.1,addL x_5.1.1 x_5.1.2 x_5.2)=setB ((za7 x.1 x.2).n,(za7 x.1 x.2).w)/\True)/\(((Tr 1 (gapN x_4.1 x_4.2=zeR x.1 x.2)/\Tr 1 ((0:Int)=zcJ x.1 x.2)/\True)/\True)/\(zbB (za7 x.1 x.2)).ob=zaB (za7 x.1 x.2)/\true=true/\True)/\True))=(zcA tb [(61,zaA ziP),(111,zaA zgN),(112,zdF (zaA zkW) (zaA zhY)),(114,zdF (zaA qqA) (zaA zy0)),(115,zaA zuT)] Tryz.f80 qiD (fun x=>{ opensE:=[(5,[{ p:=0,Y:=AllocT,o:=zbB }])] }) (fun _ _ _=>none) (fun _=>[]) (fun x y av H=>clIf 0 H [(0,[3,4,5,6],zbB (za7 x.1 x.2))])):=by kernel_rfl

theorem qoB:SpecOk Tryz.prog 80 (zaA qiD):=by
 refine za0 zaM zaL (SPok.cons zkV (SPok.cons zfT (SPok.cons (zbR ziR zhB) (SPok.cons (zbR qlN qeF) (SPok.cons zxJ SPok.nil))))) Tryz.func80 (by decide) (zgU fun _=>⟨rfl,rfl,trivial⟩) (Eq.mp takeRV ?_)
 simp (maxSteps:=10000000) only [std,stdU,stdV,Exx,I64,Nat.reduceMul,Nat.reduceDiv,Nat.reduceAdd,Int.reduceToNat,zaZ,zb4,zbM,zaI]
 rintro x r ⟨h,h1,h2⟩
 have hb:=qeJ h
 have hs:SetW (x.n,zbY x):=⟨h.1,qb3 h⟩
 have e:(x.n:Int)-((bitsL x.n (zbY x)).length:Nat)=freeN x:=rfl
 rw [e]
 refine ⟨h,hs,hs,by omega,by omega,fun hle=>⟨by rw [zeR,if_pos hle],by rw [zcJ,if_pos hle],by rw [za7,if_pos hle]⟩,fun hgt=>?_⟩
 rw [za7,if_neg hgt,zeR,if_neg hgt,zcJ,if_neg hgt]
 have hg:=zv3 hs 0
 refine ⟨hs,by omega,by omega,by omega,by omega,x.n,x.w,[gapN (x.n,zbY x) 0],rfl,fun i hi=>?_,rfl,rfl,⟨h.1,h.2.2.2.2.2⟩,⟨fun y hy=>?_,by simp⟩,rfl,rfl,rfl,rfl,rfl,rfl,rfl,rfl,rfl,rfl,rfl⟩
 ·have:i=0:=by simpa using hi
  subst this; rfl
 ·have:y=gapN (x.n,zbY x) 0:=by simpa using hy
  rw [this]; exact hg

def zuL:Ctr where
 X:=AllocT×Int
 Y:=Unit
 conv:=true
 tau:=zzT
 pre:=fun x=>zbD x.1/\I64 x.2
 args:=fun x=>[.ptr 0 [] 0,i64 x.2]
 heap:=fun x=>zkF x.1
 Q:=fun _ _=>True
 res:=fun x _ => .tup [i64 (zeR x.1 x.2),i64 (zcJ x.1 x.2)]
 its:=fun x _=>zkF (za7 x.1 x.2)
 new:=fun x _=>[]
theorem qiE:CtrOk zuL :=
 ⟨fun _ _ _ _=>(rfl:5=5),fun _ _ _ _=>⟨rfl,rfl⟩,fun x _ _ _ _=>⟨⟨qm5 _,trivial⟩,⟨rfl,rfl,trivial⟩⟩⟩

theorem takeROV:(
 let q1:Prop:=true=true/\zaC/\0=0;
 let q2:Prop:=q1/\True;
 let q3:Prop:=(160:TypeId)=160;
 let q4:Prop:=q1/\q1/\q1/\q2;
 let q5:Nat:=(TI.mk (TK.int IntKind.i64) 1 8 (ZL.cons (Value.int IntKind.i64 0) ZL.nil) false).size; ∀(x:AllocT×Int),
 let q6:Ob:=setB ((za7 x.1 x.2).n,(za7 x.1 x.2).c);
 let q7:Ob:=setB ((za7 x.1 x.2).n,(za7 x.1 x.2).e);
 let q8:Ob:=setB ((za7 x.1 x.2).n,(za7 x.1 x.2).m);
 let q9:Ob:=setB ((za7 x.1 x.2).n,(za7 x.1 x.2).w); zbD x.1/\I64 x.2->Exx AllocT fun x_1=>(q2/\true=true/\(q3/\Tr 1 (x.1.r=x_1.r)/\q4)/\setB (x.1.n,x.1.c)=setB (x_1.n,x_1.c)/\setB (x.1.n,x.1.e)=setB (x_1.n,x_1.e)/\setB (x.1.n,x.1.m)=setB (x_1.n,x_1.m)/\setB (x.1.n,x.1.w)=setB (x_1.n,x_1.w)/\True)/\zbD x_1/\∀(y:Unit),True->Exx ((Nat×Nat)×Unit) fun x_2=>(q2/\true=true/\setB (x_1.n,zbY x_1)=setB x_2.1/\True)/\(SetW x_2.1/\True)/\∀(y:Unit),True->Exx ((Nat×Nat)×Unit) fun x_3 =>
 let q10:Int:=(x_2.1.1:Int)-(↑(bitsL x_3.1.1 x_3.1.2).length:Int); (q2/\true=true/\setB x_2.1=setB x_3.1/\True)/\(SetW x_3.1/\True)/\∀(y:Unit),True->I64 q10/\BC (decide (q10 <= x.2)) (Exx Unit fun y=>(((Tr 1 ((0:Int)=zeR x.1 x.2)/\Tr 1 ((10:Int)=zcJ x.1 x.2)/\True)/\True)/\(q3/\Tr 1 (x_1.r=(za7 x.1 x.2).r)/\q4)/\setB (x_1.n,x_1.c)=q6/\setB (x_1.n,x_1.e)=q7/\setB (x_1.n,x_1.m)=q8/\setB (x_1.n,x_1.w)=q9/\true=true/\True)/\True) (Exx ((Nat×Nat)×Int) fun x_4=>((q1/\Tr 1 ((0:Int)=x_4.2)/\True)/\true=true/\setB x_3.1=setB x_4.1/\True)/\(SetW x_4.1/\I64 x_4.2)/\∀(y:Unit),True->((0:Int) <= (3:Int)/\3<(↑(4:Nat):Int))/\Exx ((Nat×Nat)×List Int) fun x_5=>((q1/\(0+1 <= 1/\1=x_5.2.length/\∀(i:Nat),
 let q11:Nat:=0+i; i<x_5.2.length->[AV.int .i64 (if q11=0*1 / 1 then gapN x_4.1 x_4.2 else 0)]=[AV.int .i64 (x_5.2.getD i 0)])/\True)/\true=true/\setB (x_1.n,x_1.w)=setB x_5.1/\True)/\(SetW x_5.1/\Ints x_5.2)/\∀(y:Unit),True->Exx Unit fun y=>(((Tr 1 (gapN x_4.1 x_4.2=zeR x.1 x.2)/\Tr 1 ((0:Int)=zcJ x.1 x.2)/\True)/\True)/\(q3/\Tr 1 (x_1.r=(za7 x.1 x.2).r)/\q4)/\setB (x_1.n,x_1.c)=q6/\setB (x_1.n,x_1.e)=q7/\setB (x_1.n,x_1.m)=q8/\setB (x_5.1.1,addL x_5.1.1 x_5.1.2 x_5.2)=q9/\true=true/\True)/\True))=(fnVC tb [(61,zaA ziP),(111,zaA zgN),(112,zdF (zaA zkW) (zaA zhY)),(114,zdF (zaA qqA) (zaA zy0)),(115,zaA zuT)] Tryz.f80 zuL (fun _=>{}) (fun _=>none)):=by kernel_rfl

theorem qiC:SpecOk Tryz.prog 80 (zaA zuL):=by
 refine zaK zaM zaL (SPok.cons zkV (SPok.cons zfT (SPok.cons (zbR ziR zhB) (SPok.cons (zbR qlN qeF) (SPok.cons zxJ SPok.nil))))) Tryz.func80 (by decide) qiE (Eq.mp takeROV ?_)
 simp (maxSteps:=10000000) only [std,stdU,stdV,Exx,I64,Nat.reduceMul,Nat.reduceDiv,Nat.reduceAdd,Int.reduceToNat,zaZ]
 rintro x r ⟨h,h1,h2⟩
 have hb:=qeJ h
 have hs:SetW (x.n,zbY x):=⟨h.1,qb3 h⟩
 have e:(x.n:Int)-((bitsL x.n (zbY x)).length:Nat)=freeN x:=rfl
 refine ⟨x,rfl,rfl,rfl,rfl,rfl,rfl,rfl,rfl,rfl,h,hs,hs,?_⟩
 rw [e]
 refine ⟨by omega,by omega,fun hle=>?_,fun hgt=>?_⟩
 ·rw [zeR,if_pos hle,zcJ,if_pos hle,za7,if_pos hle]
  exact ⟨rfl,rfl,rfl,rfl,rfl,rfl,rfl,rfl,rfl,rfl,rfl⟩
 rw [za7,if_neg hgt,zeR,if_neg hgt,zcJ,if_neg hgt]
 have hg:=zv3 hs 0
 refine ⟨hs,by omega,by omega,by omega,by omega,x.n,x.w,[gapN (x.n,zbY x) 0],rfl,fun i hi=>?_,rfl,rfl,⟨h.1,h.2.2.2.2.2⟩,⟨fun y hy=>?_,by simp⟩,rfl,rfl,rfl,rfl,rfl,rfl,rfl,rfl,rfl,rfl,rfl⟩
 ·have:i=0:=by simpa using hi
  subst this; rfl
 ·have:y=gapN (x.n,zbY x) 0:=by simpa using hy
  rw [this]; exact hg

def zoB:Ctr:=zjJ Unit (fun _=>True) (fun _=>[]) (fun x=>za7 x.1 x.1.r) (fun x => .tup [i64 (zeR x.1 x.1.r),i64 (zcJ x.1 x.1.r)])
theorem qhH:(
 let q1:Prop:=true=true/\zaC/\0=0;
 let q2:Prop:=(160:TypeId)=160;
 let q3:Prop:=q1/\q1/\q1/\q1/\True; ∀(x:AllocT×Unit),zbD x.1/\True->zaB x.1=(zbB x.1).ob/\∀(g:Unit),Exx (AllocT×Int) fun x_1=>((q1/\Tr 1 (x.1.r=x_1.2)/\True)/\true=true/\(q2/\Tr 1 (x.1.r=x_1.1.r)/\q3)/\setB (x.1.n,x.1.c)=setB (x_1.1.n,x_1.1.c)/\setB (x.1.n,x.1.e)=setB (x_1.1.n,x_1.1.e)/\setB (x.1.n,x.1.m)=setB (x_1.1.n,x_1.1.m)/\setB (x.1.n,x.1.w)=setB (x_1.1.n,x_1.1.w)/\True)/\(zbD x_1.1/\I64 x_1.2)/\∀(y:Unit),True->Exx Unit fun y=>Exx Unit fun g=>Tr 1 ((q2/\Tr 1 ((za7 x_1.1 x_1.2).r=(za7 x.1 x.1.r).r)/\q3)/\setB ((za7 x_1.1 x_1.2).n,(za7 x_1.1 x_1.2).c)=setB ((za7 x.1 x.1.r).n,(za7 x.1 x.1.r).c)/\setB ((za7 x_1.1 x_1.2).n,(za7 x_1.1 x_1.2).e)=setB ((za7 x.1 x.1.r).n,(za7 x.1 x.1.r).e)/\setB ((za7 x_1.1 x_1.2).n,(za7 x_1.1 x_1.2).m)=setB ((za7 x.1 x.1.r).n,(za7 x.1 x.1.r).m)/\setB ((za7 x_1.1 x_1.2).n,(za7 x_1.1 x_1.2).w)=setB ((za7 x.1 x.1.r).n,(za7 x.1 x.1.r).w)/\True)/\(((Tr 1 (zeR x_1.1 x_1.2=zeR x.1 x.1.r)/\Tr 1 (zcJ x_1.1 x_1.2=zcJ x.1 x.1.r)/\True)/\True)/\(zbB (za7 x.1 x.1.r)).ob=zaB (za7 x.1 x.1.r)/\true=true/\True)/\True)=(zcA tb [(80,zdF (zaA qiD) (zaA zuL))] Tryz.f46 zoB (fun _=>{}) (fun _ _ _=>none) (fun x=>[(0,zbB x.1)]) (fun x y av H=>[(0,[2,3,4,5],zbB (za7 x.1 x.1.r))])):=by kernel_rfl

theorem zzU:SpecOk Tryz.prog 46 (zaA zoB):=by
 refine za0 zaM zaL (SPok.cons (zbR qoB qiC) SPok.nil) Tryz.func46 (by decide) (zgU fun _=>⟨rfl,rfl,trivial⟩) (Eq.mp qhH ?_)
 simp (maxSteps:=10000000) only [std,stdU,stdV,Exx,I64,Nat.reduceMul,Nat.reduceDiv,Nat.reduceAdd,Int.reduceToNat,zaZ,zb4,zbM,zaI]
 exact fun x h=>⟨x,rfl,rfl,rfl,rfl,rfl,rfl,rfl,rfl,rfl,h,h.2.1.1,h.2.1.2,rfl,rfl,rfl,rfl,rfl,rfl,rfl,rfl,rfl,rfl,rfl⟩

def zg1 (x:AllocT) (a:Int):AllocT:={ x with w:=drop1 x.n x.w a }
def zc2 (x:AllocT) (a:Int):Int:=if hasN (x.n,x.w) a=true then 0 else 2
def zkE:Ctr:=zjJ Int (fun x=>I64 x.2) (fun x=>[i64 x.2]) (fun x=>zg1 x.1 x.2) (fun x=>i64 (zc2 x.1 x.2))

theorem qhJ:(
 let q1:Prop:=(0:Int) <= (3:Int)/\(3:Int)<(↑(4:Nat):Int);
 let q2:Prop:=true=true/\zaC/\0=0;
 let q3:Prop:=(160:TypeId)=160;
 let q4:Prop:=q2/\q2/\q2/\q2/\True;
 let q5:Nat:=(TI.mk (TK.int IntKind.i64) 1 8 (ZL.cons (Value.int IntKind.i64 0) ZL.nil) false).size; ∀(x:AllocT×Int),
 let q6:Prop:=q3/\Tr 1 (x.1.r=(zg1 x.1 x.2).r)/\q4;
 let q7:Prop:=setB (x.1.n,x.1.c)=setB ((zg1 x.1 x.2).n,(zg1 x.1 x.2).c);
 let q8:Prop:=setB (x.1.n,x.1.e)=setB ((zg1 x.1 x.2).n,(zg1 x.1 x.2).e);
 let q9:Prop:=setB (x.1.n,x.1.m)=setB ((zg1 x.1 x.2).n,(zg1 x.1 x.2).m);
 let q10:Ob:=setB ((zg1 x.1 x.2).n,(zg1 x.1 x.2).w);
 let q11:Prop:=(zbB (zg1 x.1 x.2)).ob=zaB (zg1 x.1 x.2)/\true=true/\True; zbD x.1/\I64 x.2->zaB x.1=(zbB x.1).ob/\∀(g:Unit),q1/\Exx ((Nat×Nat)×Int) fun x_1=>((q2/\Tr 1 (x.2=x_1.2)/\True)/\true=true/\setB (x.1.n,x.1.w)=setB x_1.1/\True)/\(SetW x_1.1/\I64 x_1.2)/\∀(y:Unit),True->BC (!hasN x_1.1 x_1.2) (Exx Unit fun y=>Exx Unit fun g=>Tr 1 (q6/\q7/\q8/\q9/\setB x_1.1=q10/\True)/\((Tr 1 ((2:Int)=zc2 x.1 x.2)/\True)/\q11)/\True) (q1/\Exx ((Nat×Nat)×List Int) fun x_2=>((q2/\(0+1 <= 1/\1=x_2.2.length/\∀(i:Nat),
 let q12:Nat:=0+i; i<x_2.2.length->[AV.int .i64 (if q12=0*1 / 1 then x.2 else 0)]=[AV.int .i64 (x_2.2.getD i 0)])/\True)/\true=true/\setB x_1.1=setB x_2.1/\True)/\(SetW x_2.1/\Ints x_2.2)/\∀(y:Unit),True->Exx Unit fun y=>Exx Unit fun g=>Tr 1 (q6/\q7/\q8/\q9/\setB (x_2.1.1,ziE x_2.1.1 x_2.1.2 x_2.2)=q10/\True)/\((Tr 1 ((0:Int)=zc2 x.1 x.2)/\True)/\q11)/\True))=(zcA tb [(135,zdF (zaA znA) (zaA zjR)),(136,zaA zuU)] Tryz.f93 zkE (fun _=>{}) (fun _ _ _=>none) (fun x=>[(0,zbB x.1)]) (fun x y av H=>[(0,[2,3,4,5],zbB (zg1 x.1 x.2))])):=by kernel_rfl

theorem zoY:SpecOk Tryz.prog 93 (zaA zkE):=by
 refine za0 zaM zaL (SPok.cons (zbR zlQ zjQ) (SPok.cons qfP SPok.nil)) Tryz.func93 (by decide) (zgU fun _=>rfl) (Eq.mp qhJ ?_)
 simp (maxSteps:=10000000) only [std,stdU,stdV,Exx,I64,Nat.reduceMul,Nat.reduceDiv,Nat.reduceAdd,Int.reduceToNat,zaZ,zb4,zbM,zaI]
 rintro x a ⟨h,h1,h2⟩
 have hs:SetW (x.n,x.w):=⟨h.1,h.2.2.2.2.2⟩
 refine ⟨by omega,by omega,hs,h1,h2,fun hn=>⟨rfl,rfl,rfl,rfl,rfl,rfl,rfl,rfl,?_,by rw [zc2,hn]; rfl⟩,fun hy=>⟨by omega,by omega,x.n,x.w,[a],rfl,fun i hi=>?_,rfl,rfl,hs,⟨fun y hy=>?_,by simp⟩,rfl,rfl,rfl,rfl,rfl,rfl,rfl,rfl,rfl,by rw [zc2,if_pos hy]⟩⟩
 ·apply Nat.eq_of_testBit_eq
  intro i
  show x.w.testBit i=(drop1 x.n x.w a).testBit i
  rw [zrT]
  by_cases e:i<x.n/\(i:Int)=a
  ·obtain ⟨e1,rfl⟩:=e
   have hin:inSet (x.n,x.w) (i:Int):=⟨by omega,by simp only; omega⟩
   rw [hasN,decide_eq_true hin,Bool.true_and] at hn
   have hn':x.w.testBit i=false:=hn
   rw [hn']; rfl
  ·rw [decide_eq_false e]; simp
 ·have:i=0:=by simpa using hi
  subst this; rfl
 ·have:y=a:=by simpa using hy
  rw [this]; exact ⟨h1,h2⟩

def zsD:Ctr:=zzX Int (fun x=>I64 x.2) (fun x=>[i64 x.2]) (fun x => .bool (hasN (x.1.n,x.1.w) x.2 && !hasN (x.1.n,x.1.m) x.2))

theorem qm6:(
 let q1:Prop:=true=true/\zaC/\0=0;
 let q2:Prop:=(160:TypeId)=160;
 let q3:Prop:=q1/\q1/\q1/\q1/\True; ∀(x:AllocT×Int),
 let q4:Prop:=setB (x.1.n,x.1.c)=setB (x.1.n,x.1.c);
 let q5:Prop:=setB (x.1.n,x.1.e)=setB (x.1.n,x.1.e);
 let q6:Bool:=hasN (x.1.n,x.1.w) x.2 && !hasN (x.1.n,x.1.m) x.2;
 let q7:Prop:=(zbB x.1).ob=zaB x.1/\true=true/\True; zbD x.1/\I64 x.2->zaB x.1=(zbB x.1).ob/\∀(g:Unit),((0:Int) <= (3:Int)/\3<(↑(4:Nat):Int))/\Exx ((Nat×Nat)×Int) fun x_1 =>
 let q8:Prop:=setB x_1.1=setB (x.1.n,x.1.w)/\True; ((q1/\Tr 1 (x.2=x_1.2)/\True)/\true=true/\setB (x.1.n,x.1.w)=setB x_1.1/\True)/\(SetW x_1.1/\I64 x_1.2)/\∀(y:Unit),True->BC (hasN x_1.1 x_1.2) (((0:Int) <= (2:Int)/\2<(↑(4:Nat):Int))/\Exx ((Nat×Nat)×Int) fun x_2=>((q1/\Tr 1 (x.2=x_2.2)/\True)/\true=true/\setB (x.1.n,x.1.m)=setB x_2.1/\True)/\(SetW x_2.1/\I64 x_2.2)/\∀(y:Unit),True->Exx Unit fun y=>Exx Unit fun g=>Tr 1 ((q2/\Tr 1 (x.1.r=x.1.r)/\q3)/\q4/\q5/\setB x_2.1=setB (x.1.n,x.1.m)/\q8)/\(((!hasN x_2.1 x_2.2)=q6/\True)/\q7)/\True) (Exx Unit fun y=>Exx Unit fun g=>Tr 1 ((q2/\Tr 1 (x.1.r=x.1.r)/\q3)/\q4/\q5/\setB (x.1.n,x.1.m)=setB (x.1.n,x.1.m)/\q8)/\((false=q6/\True)/\q7)/\True))=(zcA tb [(135,zdF (zaA znA) (zaA zjR))] Tryz.f166 zsD (fun _=>{}) (fun _ _ _=>none) (fun x=>[(0,zbB x.1)]) (fun x y av H=>[(0,[2,3,4,5],zbB x.1)])):=by kernel_rfl

theorem qcY:SpecOk Tryz.prog 166 (zaA zsD):=by
 refine za0 zaM zaL (SPok.cons (zbR zlQ zjQ) SPok.nil) Tryz.func166 (by decide) (zzW fun _=>rfl) (Eq.mp qm6 ?_)
 simp (maxSteps:=10000000) only [std,stdU,stdV,Exx,I64,Nat.reduceMul,Nat.reduceDiv,Nat.reduceAdd,Int.reduceToNat,zaZ,zb4,zbM,zaI]
 rintro x a ⟨h,h1,h2⟩
 have hs:SetW (x.n,x.w):=⟨h.1,h.2.2.2.2.2⟩
 have hm:SetW (x.n,x.m):=⟨h.1,h.2.2.2.2.1⟩
 exact ⟨by omega,by omega,hs,h1,h2,fun e=>⟨by omega,by omega,hm,h1,h2,by rw [e]; rfl⟩,fun e=>by rw [e]; rfl⟩

def qkT (x:AllocT):Nat->Nat
 | 0=>x.c
 | 1=>x.e
 | 2=>x.m
 | _=>x.w
def qkR (x:AllocT) (k v:Nat):AllocT:=match k with
 | 0=>{ x with c:=v }
 | 1=>{ x with e:=v }
 | 2=>{ x with m:=v }
 | _=>{ x with w:=v }
def zaP (x:AllocT) (k o:Nat):AllocT:=qkR x k (qkT x o)
def zoA (k o:Nat):Ctr where
 X:=AllocT
 Y:=Unit
 conv:=true
 tau:=zgC
 pre:=zbD
 args:=fun _=>[.ptr 0 [] 0,i64 (k:Nat),i64 (o:Nat)]
 heap:=fun x=>[zfG x]
 Q:=fun _ _=>True
 res:=fun _ _ => .tup []
 its:=fun x _=>[zfG (zaP x k o)]
 new:=fun _ _=>[]
theorem zhS (k o:Nat):CtrOk (zoA k o) :=
 ⟨fun _ _ _ _=>(rfl:1=1),fun _ _ _ _=>⟨rfl,rfl⟩,fun x _ _ _ _=>⟨⟨⟨trivial,trivial⟩,trivial⟩,trivial⟩⟩
def zr8:Ctr:=zoA 2 3

theorem qm1:(
 let q1:Prop:=true=true/\zaC/\0=0;
 let q2:Prop:=q1/\True; ∀(x:AllocT),zbD x->zaB x=(zbB x).ob/\∀(g:Unit),((0:Int) <= (↑(3:Nat):Int)/\(↑(3:Nat):Int)<(↑(4:Nat):Int))/\Exx (Nat×Nat) fun x_1=>(q2/\true=true/\setB (x.n,x.w)=setB x_1/\True)/\SetW x_1/\∀(y:Unit),True->((0:Int) <= (↑(2:Nat):Int)/\(↑(2:Nat):Int)<(↑(4:Nat):Int))/\Exx Unit fun y=>Exx Unit fun g=>Tr 1 (((160:TypeId)=160/\Tr 1 (x.r=(zaP x 2 3).r)/\q1/\q1/\q1/\q2)/\setB (x.n,x.c)=setB ((zaP x 2 3).n,(zaP x 2 3).c)/\setB (x.n,x.e)=setB ((zaP x 2 3).n,(zaP x 2 3).e)/\setB x_1=setB ((zaP x 2 3).n,(zaP x 2 3).m)/\setB x_1=setB ((zaP x 2 3).n,(zaP x 2 3).w)/\True)/\(Tr 1 True/\(zbB (zaP x 2 3)).ob=zaB (zaP x 2 3)/\true=true/\True)/\True)=(zcA tb [(98,zaA ze2)] Tryz.f62 zr8 (fun x=>{ loose:=[(0,[0,5])] }) (fun _ _ _=>none) (fun x=>[(0,zbB x)]) (fun x y av H=>[(0,[2,3,6,5],zbB (zaP x 2 3))])):=by kernel_rfl

theorem qcS:SpecOk Tryz.prog 62 (zaA zr8):=by
 refine za0 zaM zaL (SPok.cons zdT SPok.nil) Tryz.func62 (by decide) (zhS _ _) (Eq.mp qm1 ?_)
 simp (maxSteps:=10000000) only [std,stdU,stdV,Exx,I64,Nat.reduceMul,Nat.reduceDiv,Nat.reduceAdd,Int.reduceToNat,zaZ,zb4,zbM,zaI]
 exact fun x h=>⟨by omega,by omega,⟨h.1,h.2.2.2.2.2⟩,by omega,by omega,rfl,rfl,rfl,rfl,rfl,rfl,rfl,rfl,rfl⟩

def zr6:Ctr:=zoA 3 2

theorem qmZ:(
 let q1:Prop:=true=true/\zaC/\0=0;
 let q2:Prop:=q1/\True; ∀(x:AllocT),zbD x->zaB x=(zbB x).ob/\∀(g:Unit),((0:Int) <= (↑(2:Nat):Int)/\(↑(2:Nat):Int)<(↑(4:Nat):Int))/\Exx (Nat×Nat) fun x_1=>(q2/\true=true/\setB (x.n,x.m)=setB x_1/\True)/\SetW x_1/\∀(y:Unit),True->((0:Int) <= (↑(3:Nat):Int)/\(↑(3:Nat):Int)<(↑(4:Nat):Int))/\Exx Unit fun y=>Exx Unit fun g=>Tr 1 (((160:TypeId)=160/\Tr 1 (x.r=(zaP x 3 2).r)/\q1/\q1/\q1/\q2)/\setB (x.n,x.c)=setB ((zaP x 3 2).n,(zaP x 3 2).c)/\setB (x.n,x.e)=setB ((zaP x 3 2).n,(zaP x 3 2).e)/\setB x_1=setB ((zaP x 3 2).n,(zaP x 3 2).m)/\setB x_1=setB ((zaP x 3 2).n,(zaP x 3 2).w)/\True)/\(Tr 1 True/\(zbB (zaP x 3 2)).ob=zaB (zaP x 3 2)/\true=true/\True)/\True)=(zcA tb [(98,zaA ze2)] Tryz.f62 zr6 (fun x=>{ loose:=[(0,[0,4])] }) (fun _ _ _=>none) (fun x=>[(0,zbB x)]) (fun x y av H=>[(0,[2,3,4,6],zbB (zaP x 3 2))])):=by kernel_rfl

theorem qcQ:SpecOk Tryz.prog 62 (zaA zr6):=by
 refine za0 zaM zaL (SPok.cons zdT SPok.nil) Tryz.func62 (by decide) (zhS _ _) (Eq.mp qmZ ?_)
 simp (maxSteps:=10000000) only [std,stdU,stdV,Exx,I64,Nat.reduceMul,Nat.reduceDiv,Nat.reduceAdd,Int.reduceToNat,zaZ,zb4,zbM,zaI]
 exact fun x h=>⟨by omega,by omega,⟨h.1,h.2.2.2.2.1⟩,by omega,by omega,rfl,rfl,rfl,rfl,rfl,rfl,rfl,rfl,rfl⟩

def zr9:Ctr:=zoA 1 0

theorem qm2:(
 let q1:Prop:=true=true/\zaC/\0=0;
 let q2:Prop:=q1/\True; ∀(x:AllocT),zbD x->zaB x=(zbB x).ob/\∀(g:Unit),((0:Int) <= (↑(0:Nat):Int)/\(↑(0:Nat):Int)<(↑(4:Nat):Int))/\Exx (Nat×Nat) fun x_1=>(q2/\true=true/\setB (x.n,x.c)=setB x_1/\True)/\SetW x_1/\∀(y:Unit),True->((0:Int) <= (↑(1:Nat):Int)/\(↑(1:Nat):Int)<(↑(4:Nat):Int))/\Exx Unit fun y=>Exx Unit fun g=>Tr 1 (((160:TypeId)=160/\Tr 1 (x.r=(zaP x 1 0).r)/\q1/\q1/\q1/\q2)/\setB x_1=setB ((zaP x 1 0).n,(zaP x 1 0).c)/\setB x_1=setB ((zaP x 1 0).n,(zaP x 1 0).e)/\setB (x.n,x.m)=setB ((zaP x 1 0).n,(zaP x 1 0).m)/\setB (x.n,x.w)=setB ((zaP x 1 0).n,(zaP x 1 0).w)/\True)/\(Tr 1 True/\(zbB (zaP x 1 0)).ob=zaB (zaP x 1 0)/\true=true/\True)/\True)=(zcA tb [(98,zaA ze2)] Tryz.f62 zr9 (fun x=>{ loose:=[(0,[0,2])] }) (fun _ _ _=>none) (fun x=>[(0,zbB x)]) (fun x y av H=>[(0,[2,6,4,5],zbB (zaP x 1 0))])):=by kernel_rfl

theorem qcT:SpecOk Tryz.prog 62 (zaA zr9):=by
 refine za0 zaM zaL (SPok.cons zdT SPok.nil) Tryz.func62 (by decide) (zhS _ _) (Eq.mp qm2 ?_)
 simp (maxSteps:=10000000) only [std,stdU,stdV,Exx,I64,Nat.reduceMul,Nat.reduceDiv,Nat.reduceAdd,Int.reduceToNat,zaZ,zb4,zbM,zaI]
 exact fun x h=>⟨by omega,by omega,⟨h.1,h.2.2.1⟩,by omega,by omega,rfl,rfl,rfl,rfl,rfl,rfl,rfl,rfl,rfl⟩

def zsA:Ctr:=zoA 0 3

theorem qm3:(
 let q1:Prop:=true=true/\zaC/\0=0;
 let q2:Prop:=q1/\True; ∀(x:AllocT),zbD x->zaB x=(zbB x).ob/\∀(g:Unit),((0:Int) <= (↑(3:Nat):Int)/\(↑(3:Nat):Int)<(↑(4:Nat):Int))/\Exx (Nat×Nat) fun x_1=>(q2/\true=true/\setB (x.n,x.w)=setB x_1/\True)/\SetW x_1/\∀(y:Unit),True->((0:Int) <= (↑(0:Nat):Int)/\(↑(0:Nat):Int)<(↑(4:Nat):Int))/\Exx Unit fun y=>Exx Unit fun g=>Tr 1 (((160:TypeId)=160/\Tr 1 (x.r=(zaP x 0 3).r)/\q1/\q1/\q1/\q2)/\setB x_1=setB ((zaP x 0 3).n,(zaP x 0 3).c)/\setB (x.n,x.e)=setB ((zaP x 0 3).n,(zaP x 0 3).e)/\setB (x.n,x.m)=setB ((zaP x 0 3).n,(zaP x 0 3).m)/\setB x_1=setB ((zaP x 0 3).n,(zaP x 0 3).w)/\True)/\(Tr 1 True/\(zbB (zaP x 0 3)).ob=zaB (zaP x 0 3)/\true=true/\True)/\True)=(zcA tb [(98,zaA ze2)] Tryz.f62 zsA (fun x=>{ loose:=[(0,[0,5])] }) (fun _ _ _=>none) (fun x=>[(0,zbB x)]) (fun x y av H=>[(0,[6,3,4,5],zbB (zaP x 0 3))])):=by kernel_rfl

theorem qcU:SpecOk Tryz.prog 62 (zaA zsA):=by
 refine za0 zaM zaL (SPok.cons zdT SPok.nil) Tryz.func62 (by decide) (zhS _ _) (Eq.mp qm3 ?_)
 simp (maxSteps:=10000000) only [std,stdU,stdV,Exx,I64,Nat.reduceMul,Nat.reduceDiv,Nat.reduceAdd,Int.reduceToNat,zaZ,zb4,zbM,zaI]
 exact fun x h=>⟨by omega,by omega,⟨h.1,h.2.2.2.2.2⟩,by omega,by omega,rfl,rfl,rfl,rfl,rfl,rfl,rfl,rfl,rfl⟩

def zr7:Ctr:=zoA 3 0

theorem qm0:(
 let q1:Prop:=true=true/\zaC/\0=0;
 let q2:Prop:=q1/\True; ∀(x:AllocT),zbD x->zaB x=(zbB x).ob/\∀(g:Unit),((0:Int) <= (↑(0:Nat):Int)/\(↑(0:Nat):Int)<(↑(4:Nat):Int))/\Exx (Nat×Nat) fun x_1=>(q2/\true=true/\setB (x.n,x.c)=setB x_1/\True)/\SetW x_1/\∀(y:Unit),True->((0:Int) <= (↑(3:Nat):Int)/\(↑(3:Nat):Int)<(↑(4:Nat):Int))/\Exx Unit fun y=>Exx Unit fun g=>Tr 1 (((160:TypeId)=160/\Tr 1 (x.r=(zaP x 3 0).r)/\q1/\q1/\q1/\q2)/\setB x_1=setB ((zaP x 3 0).n,(zaP x 3 0).c)/\setB (x.n,x.e)=setB ((zaP x 3 0).n,(zaP x 3 0).e)/\setB (x.n,x.m)=setB ((zaP x 3 0).n,(zaP x 3 0).m)/\setB x_1=setB ((zaP x 3 0).n,(zaP x 3 0).w)/\True)/\(Tr 1 True/\(zbB (zaP x 3 0)).ob=zaB (zaP x 3 0)/\true=true/\True)/\True)=(zcA tb [(98,zaA ze2)] Tryz.f62 zr7 (fun x=>{ loose:=[(0,[0,2])] }) (fun _ _ _=>none) (fun x=>[(0,zbB x)]) (fun x y av H=>[(0,[2,3,4,6],zbB (zaP x 3 0))])):=by kernel_rfl

theorem qcR:SpecOk Tryz.prog 62 (zaA zr7):=by
 refine za0 zaM zaL (SPok.cons zdT SPok.nil) Tryz.func62 (by decide) (zhS _ _) (Eq.mp qm0 ?_)
 simp (maxSteps:=10000000) only [std,stdU,stdV,Exx,I64,Nat.reduceMul,Nat.reduceDiv,Nat.reduceAdd,Int.reduceToNat,zaZ,zb4,zbM,zaI]
 exact fun x h=>⟨by omega,by omega,⟨h.1,h.2.2.1⟩,by omega,by omega,rfl,rfl,rfl,rfl,rfl,rfl,rfl,rfl,rfl⟩

def qqV (k o:Nat) (args:List AV):Bool:=qrQ 1 (k:Int) args&&qrQ 2 (o:Int) args
def qmY:Sx.Spec:=ze5 (qqV 2 3) (zaA zr8) (ze5 (qqV 3 2) (zaA zr6) (ze5 (qqV 1 0) (zaA zr9) (ze5 (qqV 0 3) (zaA zsA) (zaA zr7))))
theorem qmW:SpecOk Tryz.prog 62 qmY:=zdG qcS (zdG qcQ (zdG qcT (zdG qcU (qcR))))

theorem qmX {x:AllocT} (h:zbD x) (k o:Nat):zbD (zaP x k o):=by
 obtain ⟨h1,h2,h3,h4,h5,h6⟩:=h
 have hm:qkT x o<2 ^ x.n:=by unfold qkT; split <;> assumption
 unfold zaP qkR
 split <;> exact ⟨by assumption,by assumption,by assumption,by assumption,by assumption,by assumption⟩
def qpX (x:AllocT):AllocT:=zaP x 2 3
def qm8 (g:AllocT->AllocT):Ctr:=zjJ Unit (fun _=>True) (fun _=>[]) (fun x=>g x.1) (fun _ => .tup [])
def zoC:Ctr:=qm8 qpX
theorem qhI:(∀(x:AllocT×Unit),zbD x.1/\True->Exx AllocT fun x_1=>(((true=true/\zaC/\0=0)/\Tr 1 ((2:Int)=(↑(2:Nat)
 : Int))/\Tr 1 (3=(↑(3:Nat):Int))/\True)/\true=true/\zaB x.1=zaB x_1/\True)/\zbD x_1/\∀(y:Unit),True->Exx Unit fun y =>
 (Tr 1 True/\zaB (zaP x_1 2 3)=zaB (qpX x.1)/\true=true/\True)/\True)=(fnVC tb [(62,qmY)] Tryz.f23 zoC (fun _=>{}) (fun _ =>
 none)):=by kernel_rfl

theorem zzV:SpecOk Tryz.prog 23 (zaA zoC):=by
 refine zaK zaM zaL (SPok.cons qmW SPok.nil) Tryz.func23 (by decide) (zgU fun _=>trivial) (Eq.mp qhI ?_)
 simp (maxSteps:=10000000) only [std,stdU,stdV,Exx,I64,Nat.reduceMul,Nat.reduceDiv,Nat.reduceAdd,Int.reduceToNat,zaI]
 exact fun x h=>⟨rfl,rfl,h,rfl⟩

abbrev NewX:Type:=(Nat×Nat)×(Nat×Nat)×Int
def zc0 (x:NewX):AllocT:={ n:=x.1.1,r:=x.2.2,c:=x.1.2,e:=x.2.1.2,m:=x.1.2,w:=x.1.2 }
def allocNewI:Ctr2 where
 X:=NewX
 conv:=true
 tau:=tau2
 pre:=fun x=>SetW x.1/\SetW x.2.1/\I64 x.2.2
 args:=fun x=>[.ptr 0 [] 0,.ptr 1 [] 0,i64 x.2.2]
 heap:=fun x=>[setI x.1,setI x.2.1]
 p:=fun x=>x.1.1=x.2.1.1/\0 <= x.2.2
 a:={ Y:=Unit,Q:=fun _ _=>True,res:=fun _ _ => .tup [.ptr 3 [] 0,i64 0],its:=fun x _=>[setI x.1,setI x.2.1],new:=fun x _=>[zfG (zc0 x)] }
 b:={ Y:=Unit,Q:=fun _ _=>True,res:=fun _ _ => .tup [.nilp,i64 2],its:=fun x _=>[setI x.1,setI x.2.1],new:=fun _ _=>[] }

theorem qm7:(
 let q1:Prop:=true=true/\zaC/\0=0;
 let q2:Prop:=q1/\True;
 let q3:Prop:=(0:Int)<(↑(3:Nat):Int);
 let q4:Nat:=2*1 / 1;
 let q5:Nat:=(TI.mk (TK.int IntKind.i64) 1 8 (ZL.cons (Value.int IntKind.i64 0) ZL.nil) false).size;
 let q6:Nat:=(2,Operand.const (Value.int IntKind.i64 3)).1*q5 / 1;
 let q7:Nat:=1*1 / 1;
 let q8:Nat:=(1,Operand.const (Value.int IntKind.i64 2)).1*q5 / 1;
 let q9:Nat:=0*1 / 1;
 let q10:Nat:=(0,Operand.const (Value.int IntKind.i64 0)).1*q5 / 1;
 let q11:Int:=if Int.toNat 0=q4 then 3 else if Int.toNat 0=q7 then 2 else if Int.toNat 0=q9 then 0 else 0;
 let q12:Int:=0+1;
 let q13:Prop:=q12<(↑(3:Nat):Int);
 let q14:Nat:=q12.toNat;
 let q15:Int:=if q14=q4 then 3 else if q14=q7 then 2 else if q14=q9 then 0 else 0;
 let q16:Int:=q12+1;
 let q17:Prop:=q16<(↑(3:Nat):Int);
 let q18:Nat:=q16.toNat;
 let q19:Int:=if q18=q4 then 3 else if q18=q7 then 2 else if q18=q9 then 0 else 0; ∀(x:(Nat×Nat)×(Nat×Nat)×Int),
 let q20:Prop:=x.1.1=x.2.1.1/\(0:Int) <= x.2.2; SetW x.1/\SetW x.2.1/\I64 x.2.2->Exx ((Nat×Nat)×Unit) fun x_1=>(q2/\true=true/\setB x.1=setB x_1.1/\True)/\(SetW x_1.1/\True)/\∀(y:Unit),True->Exx ((Nat×Nat)×Unit) fun x_2 =>
 let q21:Prop:=(q20/\Exx Unit fun y=>False)\/¬allocNewI.p x/\Exx Unit fun y=>((Tr 1 (Tr 1 ((2:Int)=2)/\True)/\True)/\setB x_1.1=setB x.1/\setB x_2.1=setB x.2.1/\true=true/\True)/\True; (q2/\true=true/\setB x.2.1=setB x_2.1/\True)/\(SetW x_2.1/\True)/\∀(y:Unit),True->BC (!decide ((x_1.1.1:Int)=(x_2.1.1:Int))) q21 (BC (decide (x.2.2<(0:Int))) q21 (Exx (Nat×Nat) fun x_3 =>
 let q22:Prop:=setB x_3=setB x.2.1; (q2/\true=true/\setB x_2.1=setB x_3/\True)/\SetW x_3/\∀(y:Unit),True->((0:Int) <= (1:Int)/\1<(↑(4:Nat):Int))/\((0:Int) <= (0:Int)/\q3/\q3)/\Exx (Nat×Nat) fun x_4=>(q2/\true=true/\setB x_1.1=setB x_4/\True)/\SetW x_4/\∀(y:Unit),True->((0:Int) <= q11/\q11<(↑(4:Nat):Int))/\I64 q12/\((0:Int) <= q12/\q13/\q13)/\Exx (Nat×Nat) fun x_5=>(q2/\true=true/\setB x_4=setB x_5/\True)/\SetW x_5/\∀(y:Unit),True->((0:Int) <= q15/\q15<(↑(4:Nat):Int))/\I64 q16/\((0:Int) <= q16/\q17/\q17)/\Exx (Nat×Nat) fun x_6=>(q2/\true=true/\setB x_5=setB x_6/\True)/\SetW x_6/\∀(y:Unit),True->((0:Int) <= q19/\q19<(↑(4:Nat):Int))/\I64 (q16+1)/\((q20/\Exx Unit fun y=>Exx Unit fun g=>Tr 1 ((160=(160:TypeId)/\Tr 1 (x.2.2=(zc0 x).r)/\q1/\q1/\q1/\q2)/\setB x_4=setB ((zc0 x).n,(zc0 x).c)/\setB x_3=setB ((zc0 x).n,(zc0 x).e)/\setB x_5=setB ((zc0 x).n,(zc0 x).m)/\setB x_6=setB ((zc0 x).n,(zc0 x).w)/\True)/\(((q1/\Tr 1 ((0:Int)=0)/\True)/\True)/\setB x_6=setB x.1/\q22/\true=true/\(zbB (zc0 x)).ob=zaB (zc0 x)/\True)/\True)\/¬allocNewI.p x/\Exx Unit fun y=>(((False/\Tr 1 ((0:Int)=2)/\True)/\True)/\setB x_6=setB x.1/\q22/\true=true/\True)/\True))))=(qg3 tb [(98,zaA ze2),(111,zaA zgN)] Tryz.f77 allocNewI (fun x=>{ loose:=[(6,[1,3]),(10,[0,3])],unroll:=[(8,4)] }) (fun _ _ _=>none) (fun _=>[]) (fun x y av H=>[(3,[5,4,6,7],zbB (zc0 x))]) (fun _ _ _ _=>[])):=by kernel_rfl

theorem qcZ:SpecOk Tryz.prog 77 (ziC allocNewI):=by
 refine zuO zaM zaL (SPok.cons zdT (SPok.cons zfT SPok.nil)) Tryz.func77 (by decide) ⟨fun _ _ _ _=>(rfl:2=2),fun _ _ _ _=>⟨rfl,rfl⟩,fun x _ _ _ _=>⟨⟨⟨trivial,trivial,trivial⟩,⟨trivial,trivial⟩⟩,rfl,rfl,trivial⟩⟩ ⟨fun _ _ _ _=>(rfl:2=2),fun _ _ _ _=>⟨rfl,rfl⟩,fun x _ _ _ _=>⟨⟨⟨trivial,trivial,trivial⟩,trivial⟩,rfl,rfl,trivial⟩⟩ (Eq.mp qm7 ?_)
 simp (maxSteps:=10000000) only [std,stdU,stdV,Exx,I64,Nat.reduceMul,Nat.reduceDiv,Nat.reduceAdd,Int.reduceToNat,zaZ,zb4,zbM,zaI]
 rintro n a n' b r ⟨h1,h2,h3,h4⟩
 refine ⟨h1,h2,fun hne hp=>hne hp.1,fun e=>⟨fun hr hp=>by have:=hp.2; simp only at this; omega,fun hr=>?_⟩⟩
 subst e
 simp only [if_pos,if_neg,Nat.reduceEqDiff,Nat.succ_ne_self,Nat.zero_add,Int.reduceToNat,Int.reduceAdd,if_true,if_false,zc0,and_true,true_and]
 repeat refine And.intro (by first | omega | exact h1 | exact h2) ?_
 omega

def tauArg2 (args:List AV) (H:AH):List Nat:=match args with
 | _ :: .ptr p _ _ :: _=>[p]
 | _=>[]
def zjL (tau:List AV->AH->List Nat) (args:List AV):Ctr where
 X:=(Nat×Nat)×Int
 Y:=Unit
 conv:=true
 tau:=tau
 pre:=fun x=>I64 x.2
 args:=fun x=>args++[i64 x.2]
 heap:=fun x=>[setI x.1]
 Q:=fun _ _=>True
 res:=fun x _ => .tup [.nilp,i64 1]
 its:=fun x _=>[setI x.1]
 new:=fun _ _=>[]
theorem zjK (tau:List AV->AH->List Nat) (args:List AV):CtrOk (zjL tau args) :=
 ⟨fun _ _ _ _=>rfl,fun _ _ _ _=>⟨rfl,rfl⟩,fun x _ _ _ _=>⟨⟨⟨trivial,trivial⟩,trivial⟩,⟨rfl,rfl,trivial⟩⟩⟩
def zlF:Ctr:=zjL tauArg2 [.nilp,.ptr 0 [] 0]
def zlE:Ctr:=zjL zgC [.ptr 0 [] 0,.nilp]

theorem qc1:(∀(x:(Nat×Nat)×Int),-9223372036854775808 <= x.2/\x.2 <= (9223372036854775807:Int)->Exx Unit fun y=>((Tr 1 (Tr 1 ((1:Int) =
 1)/\True)/\True)/\setB x.1=setB x.1/\true=true/\True)/\True)=(fnVC tb [(98,zaA ze2),(111,zaA zgN)] Tryz.f77 zlF (fun _ =>
 {}) (fun _=>none)):=by kernel_rfl

theorem zwL:SpecOk Tryz.prog 77 (zaA zlF):=by
 refine zaK zaM zaL (SPok.cons zdT (SPok.cons zfT SPok.nil)) Tryz.func77 (by decide) (zjK _ _) (Eq.mp qc1 ?_)
 simp (maxSteps:=10000000) only [std,stdU,stdV,Exx,I64,Nat.reduceMul,Nat.reduceDiv,Nat.reduceAdd,Int.reduceToNat,zaZ]

theorem qc0:(∀(x:(Nat×Nat)×Int),-9223372036854775808 <= x.2/\x.2 <= (9223372036854775807:Int)->Exx Unit fun y=>((Tr 1 (Tr 1 ((1:Int) =
 1)/\True)/\True)/\setB x.1=setB x.1/\true=true/\True)/\True)=(fnVC tb [(98,zaA ze2),(111,zaA zgN)] Tryz.f77 zlE (fun _ =>
 {}) (fun _=>none)):=by kernel_rfl

theorem zwK:SpecOk Tryz.prog 77 (zaA zlE):=by
 refine zaK zaM zaL (SPok.cons zdT (SPok.cons zfT SPok.nil)) Tryz.func77 (by decide) (zjK _ _) (Eq.mp qc0 ?_)
 simp (maxSteps:=10000000) only [std,stdU,stdV,Exx,I64,Nat.reduceMul,Nat.reduceDiv,Nat.reduceAdd,Int.reduceToNat,zaZ]

def zoX:Sx.Spec:=ze5 (qeU 0) (zaA zlF) (ze5 (qeU 1) (zaA zlE) (ziC allocNewI))
theorem zsU:SpecOk Tryz.prog 77 zoX:=zdG zwL (zdG zwK qcZ)

end Yard
