import Derived.Test.YtlihikockhjodaaGreatDoorCrc
import Derived.Test.YtlihikockhjodaaGreatDoorAlloc

namespace Yard
open Go Go.Sx Go.Proofs
set_option linter.unusedVariables false
set_option linter.unusedSimpArgs false
set_option maxRecDepth 4000

structure DevG where
 la:Nat->Nat
 se:Nat->Nat
 fl:Nat->Bool
 cap:Nat
 left:Int
 steps:Int
abbrev zrZ (ws:List Nat) (g:DevG):AH:=[.cells 221 [.sl 1 [] 0 4 0 ws.length g.cap,.nils,i64 0,.bool false,.bool false,i64 g.left,i64 g.steps],.row 210 4 g.cap ws.length (fun j=>[u64 (g.la j),u64 (ws.getD j 0),u64 (g.se j),.bool (g.fl j)])]
theorem devPl (ws:List Nat) (g:DevG):plH (zrZ ws g):=⟨⟨rfl,rfl,rfl,rfl,rfl,rfl,rfl,trivial⟩,⟨fun _ _=>⟨rfl,rfl,rfl,rfl,trivial⟩,trivial⟩,trivial⟩
abbrev devO (ws:List Nat):Opn:={ tag:=[ws.map fun n:Nat=>(n:Int)],G:=DevG,fam:=zrZ ws,pl:=devPl ws,nf:=fun _=>rfl,root:=fun _=>rfl }
def devB (ws:List Nat):Ob:=(devO ws).ob
abbrev devI (ws:List Nat):Sx.Item := .obj (devB ws)
theorem zaQ {s t:List Nat}:(devB s=devB t) ↔ s=t:=by
 constructor
 ·intro h
  have:=congrArg Ob.tag h
  simp only [devB,Opn.ob,List.cons.injEq,and_true] at this
  have:=congrArg (List.map Int.toNat) this
  simpa [Function.comp_def] using this
 ·intro h; rw [h]
theorem zhQ {s t:List Nat}:(devB s=(devO t).ob) ↔ s=t:=zaQ
theorem zfY {s t:List Nat}:((devO s).ob=devB t) ↔ s=t:=zaQ

def DevW (ws:List Nat):Prop:=ws.length <= 32768/\∀w∈ws,U64 w
def qmG (args:List AV) (H:AH):List Nat:=match args with
 | .ptr p _ _ :: _=>match H[p]? with
   | some (.cells _ (.sl q _ _ _ _ _ _ :: _))=>[p,q]
   | _=>[p]
 | _=>[]

def zmR (Y:Type) (pre:List Nat×Y->Prop) (args:List Nat×Y->List AV) (res:List Nat×Y->AV):Ctr where
 X:=DevG×List Nat×Y
 Y:=DevG
 conv:=true
 tau:=qmG
 pre:=fun x=>DevW x.2.1/\pre x.2
 args:=fun x=>args x.2
 heap:=fun x=>zrZ x.2.1 x.1
 Q:=fun x g=>g.cap=x.1.cap
 res:=fun x _=>res x.2
 its:=fun x g=>zrZ x.2.1 g
 new:=fun _ _=>[]
theorem zh7 {Y:Type} {pre:List Nat×Y->Prop} {args:List Nat×Y->List AV} {res:List Nat×Y->AV} (h:∀x,plV 2 (res x)):CtrOk (zmR Y pre args res) :=
 ⟨fun _ _ _ _=>(rfl:2=2),fun _ _ _ _=>⟨rfl,rfl⟩,fun x _ _ _ _=>⟨⟨devPl _ _,trivial⟩,h x.2⟩⟩
def zrX (Y:Type) (pre:List Nat×Y->Prop) (args:List Nat×Y->List AV) (res:List Nat×Y->AV):Ctr where
 X:=List Nat×Y
 Y:=Unit
 conv:=true
 tau:=zgC
 pre:=fun x=>DevW x.1/\pre x
 args:=fun x => .ptr 0 [] 0 :: args x
 heap:=fun x=>[devI x.1]
 Q:=fun _ _=>True
 res:=fun x _=>res x
 its:=fun x _=>[devI x.1]
 new:=fun _ _=>[]
theorem zkD {Y:Type} {pre:List Nat×Y->Prop} {args:List Nat×Y->List AV} {res:List Nat×Y->AV} (h:∀x,plV 2 (res x)):CtrOk (zrX Y pre args res) :=
 ⟨fun _ _ _ _=>rfl,fun _ _ _ _=>⟨rfl,rfl⟩,fun x _ _ _ _=>⟨⟨⟨trivial,trivial⟩,trivial⟩,h x⟩⟩
def zwC (Y:Type) (pre:List Nat×Y->Prop) (args:List Nat×Y->List AV) (g:List Nat×Y->List Nat) (res:List Nat×Y->AV):Ctr where
 X:=List Nat×Y
 Y:=Unit
 conv:=true
 tau:=zgC
 pre:=fun x=>DevW x.1/\pre x
 args:=fun x => .ptr 0 [] 0 :: args x
 heap:=fun x=>[devI x.1]
 Q:=fun _ _=>True
 res:=fun x _=>res x
 its:=fun x _=>[devI (g x)]
 new:=fun _ _=>[]
theorem zn6 {Y:Type} {pre:List Nat×Y->Prop} {args:List Nat×Y->List AV} {g:List Nat×Y->List Nat} {res:List Nat×Y->AV} (h:∀x,plV 2 (res x)):CtrOk (zwC Y pre args g res) :=
 ⟨fun _ _ _ _=>(rfl:1=1),fun _ _ _ _=>⟨rfl,rfl⟩,fun x _ _ _ _=>⟨⟨⟨trivial,trivial⟩,trivial⟩,h x⟩⟩

def zjH:Ctr:=zrX Unit (fun _=>True) (fun _=>[]) (fun x=>i64 (x.1.length / 8:Nat))
def zhP:Ctr:=zmR Unit (fun _=>True) (fun _=>[.ptr 0 [] 0]) (fun x=>i64 (x.1.length / 8:Nat))

theorem qmJ:(∀(x:List Nat×Unit),
 let q1:Int:=(x.1.length:Int).tdiv 8; DevW x.1/\True->devB x.1=(devO x.1).ob/\∀(g:DevG),8≠(0:Int)/\I64 q1/\Exx Unit fun y=>Exx DevG fun g_1=>Tr 1 (((221:TypeId)=221/\(true=true/\zaC/\0=0/\4=4/\0=0/\x.1.length=x.1.length/\g.cap=g_1.cap)/\Tr 1 (Tr 1 ((0:Int)=0)/\false=false/\false=false/\Tr 1 (g.left=g_1.left)/\Tr 1 (g.steps=g_1.steps)/\True))/\((210:TypeId)=210/\4=4/\g.cap=g_1.cap/\x.1.length <= x.1.length/\∀(i:Nat),
 let q2:AV:=AV.int .u64 (↑(x.1.getD i 0):Int); i<x.1.length->[AV.int .u64 (↑(g.la i):Int),q2,AV.int .u64 (↑(g.se i):Int),AV.bool (g.fl i)]=[AV.int .u64 (↑(g_1.la i):Int),q2,AV.int .u64 (↑(g_1.se i):Int),AV.bool (g_1.fl i)])/\True)/\((Tr 1 (q1=(↑(x.1.length / 8):Int))/\True)/\(devO x.1).ob=devB x.1/\true=true/\True)/\True)=(zcA tb [] Tryz.f113 zjH (fun _=>{}) (fun _ _ _=>none) (fun x=>[(0,devO x.1)]) (fun x y av H=>[(0,[2],devO x.1)])):=by kernel_rfl

theorem zlC:SpecOk Tryz.prog 113 (zaA zjH):=by
 refine za0 zaM zaL SPok.nil Tryz.func113 (by decide) (zkD fun _=>rfl) (Eq.mp qmJ ?_)
 simp (maxSteps:=10000000) only [std,stdU,stdV,Exx,I64,Nat.reduceMul,Nat.reduceDiv,Nat.reduceAdd,Int.reduceToNat,zhQ,zfY,zaQ]
 intro ws h g
 have:=h.1
 have e:(ws.length:Int).tdiv 8=((ws.length / 8:Nat):Int):=rfl
 rw [e]
 exact ⟨by omega,by omega,by omega,g,rfl,rfl,rfl,rfl,fun _ _=>rfl,rfl⟩

theorem qhC:(∀(x:DevG×List Nat×Unit),
 let q1:Int:=(x.2.1.length:Int).tdiv 8; DevW x.2.1/\True->8≠(0:Int)/\I64 q1/\Exx DevG fun y=>((Tr 1 (q1=(↑(x.2.1.length / 8):Int))/\True)/\((221:TypeId)=221/\(true=true/\zaC/\0=0/\4=4/\0=0/\x.2.1.length=x.2.1.length/\x.1.cap=y.cap)/\Tr 1 (Tr 1 ((0:Int)=0)/\false=false/\false=false/\Tr 1 (x.1.left=y.left)/\Tr 1 (x.1.steps=y.steps)/\True))/\((210:TypeId)=210/\4=4/\x.1.cap=y.cap/\x.2.1.length <= x.2.1.length/\∀(i:Nat),
 let q2:AV:=AV.int .u64 (↑(x.2.1.getD i 0):Int); i<x.2.1.length->[AV.int .u64 (↑(x.1.la i):Int),q2,AV.int .u64 (↑(x.1.se i):Int),AV.bool (x.1.fl i)]=[AV.int .u64 (↑(y.la i):Int),q2,AV.int .u64 (↑(y.se i):Int),AV.bool (y.fl i)])/\true=true/\True)/\y.cap=x.1.cap)=(fnVC tb [] Tryz.f113 zhP (fun _=>{}) (fun _=>none)):=by kernel_rfl

theorem zjG:SpecOk Tryz.prog 113 (zaA zhP):=by
 refine zaK zaM zaL SPok.nil Tryz.func113 (by decide) (zh7 fun _=>rfl) (Eq.mp qhC ?_)
 simp (maxSteps:=10000000) only [std,stdU,stdV,Exx,I64,Nat.reduceMul,Nat.reduceDiv,Nat.reduceAdd,Int.reduceToNat]
 intro g ws h
 have:=h.1
 have e:(ws.length:Int).tdiv 8=((ws.length / 8:Nat):Int):=rfl
 rw [e]
 exact ⟨by omega,by omega,by omega,rfl,g,rfl,rfl,rfl,rfl,fun _ _=>rfl,rfl⟩

def mayErr (at_ n:Int):Int:=if 0 <= at_/\at_<n then 0 else 2
def zrW:Ctr:=zmR (Int×Int) (fun x=>I64 x.2.1/\I64 x.2.2) (fun x=>[.ptr 0 [] 0,i64 x.2.1,i64 x.2.2]) (fun x=>i64 (mayErr x.2.1 x.2.2))

theorem devMayV:(∀(x:DevG×List Nat×Int×Int),
 let q1:Int:=mayErr x.2.2.1 x.2.2.2;
 let q3:Prop:=Exx DevG fun y=>((Tr 1 ((2:Int)=q1)/\True)/\((221:TypeId)=221/\(true=true/\zaC/\0=0/\4=4/\0=0/\x.2.1.length=x.2.1.length/\x.1.cap=y.cap)/\Tr 1 (Tr 1 ((0:Int)=0)/\false=false/\false=false/\Tr 1 (x.1.left=y.left)/\Tr 1 (x.1.steps=y.steps)/\True))/\((210:TypeId)=210/\4=4/\x.1.cap=y.cap/\x.2.1.length <= x.2.1.length/\∀(i:Nat),
 let q2:AV:=AV.int .u64 (↑(x.2.1.getD i 0):Int); i<x.2.1.length->[AV.int .u64 (↑(x.1.la i):Int),q2,AV.int .u64 (↑(x.1.se i):Int),AV.bool (x.1.fl i)]=[AV.int .u64 (↑(y.la i):Int),q2,AV.int .u64 (↑(y.se i):Int),AV.bool (y.fl i)])/\true=true/\True)/\y.cap=x.1.cap; DevW x.2.1/\I64 x.2.2.1/\I64 x.2.2.2->BC (decide (x.2.2.1<(0:Int))) q3 (BC (decide (x.2.2.2 <= x.2.2.1)) q3 (Exx DevG fun y=>((Tr 1 ((0:Int)=q1)/\True)/\((221:TypeId)=221/\(true=true/\zaC/\0=0/\4=4/\0=0/\x.2.1.length=x.2.1.length/\x.1.cap=y.cap)/\Tr 1 (Tr 1 ((0:Int)=0)/\false=false/\false=false/\Tr 1 (x.1.left=y.left)/\Tr 1 (x.1.steps=y.steps)/\True))/\((210:TypeId)=210/\4=4/\x.1.cap=y.cap/\x.2.1.length <= x.2.1.length/\∀(i:Nat),
 let q4:AV:=AV.int .u64 (↑(x.2.1.getD i 0):Int); i<x.2.1.length->[AV.int .u64 (↑(x.1.la i):Int),q4,AV.int .u64 (↑(x.1.se i):Int),AV.bool (x.1.fl i)]=[AV.int .u64 (↑(y.la i):Int),q4,AV.int .u64 (↑(y.se i):Int),AV.bool (y.fl i)])/\true=true/\True)/\y.cap=x.1.cap)))=(fnVC tb [] Tryz.f186 zrW (fun _=>{}) (fun _=>none)):=by kernel_rfl

theorem zrV:SpecOk Tryz.prog 186 (zaA zrW):=by
 refine zaK zaM zaL SPok.nil Tryz.func186 (by decide) (zh7 fun _=>rfl) (Eq.mp devMayV ?_)
 simp (maxSteps:=10000000) only [std,stdU,stdV,Exx,I64,Nat.reduceMul,Nat.reduceDiv,Nat.reduceAdd,Int.reduceToNat]
 rintro g ws a n ⟨h,h1,h2,h3,h4⟩
 refine ⟨fun h5=>⟨by rw [mayErr,if_neg (by omega)],g,rfl,rfl,rfl,rfl,fun _ _=>rfl,rfl⟩,fun h5=>⟨fun h6=>⟨by rw [mayErr,if_neg (by omega)],g,rfl,rfl,rfl,rfl,fun _ _=>rfl,rfl⟩,fun h6=>⟨by rw [mayErr,if_pos (by omega)],g,rfl,rfl,rfl,rfl,fun _ _=>rfl,rfl⟩⟩⟩

def zqT:Ctr:=zmR Unit (fun _=>True) (fun _=>[.ptr 0 [] 1]) (fun _=>i64 (-1))

theorem qj8:(∀(x:DevG×List Nat×Unit),DevW x.2.1/\True->Exx DevG fun y=>((Tr 1 (-(1:Int) = -(1:Int))/\True)/\((221:TypeId)=221/\(true=true/\zaC/\0=0/\4=4/\0=0/\x.2.1.length=x.2.1.length/\x.1.cap=y.cap)/\Tr 1 (Tr 1 ((0:Int)=0)/\false=false/\false=false/\Tr 1 (x.1.left=y.left)/\Tr 1 (x.1.steps=y.steps)/\True))/\((210:TypeId)=210/\4=4/\x.1.cap=y.cap/\x.2.1.length <= x.2.1.length/\∀(i:Nat),
 let q1:AV:=AV.int .u64 (↑(x.2.1.getD i 0):Int); i<x.2.1.length->[AV.int .u64 (↑(x.1.la i):Int),q1,AV.int .u64 (↑(x.1.se i):Int),AV.bool (x.1.fl i)]=[AV.int .u64 (↑(y.la i):Int),q1,AV.int .u64 (↑(y.se i):Int),AV.bool (y.fl i)])/\true=true/\True)/\y.cap=x.1.cap)=(fnVC tb [] Tryz.f203 zqT (fun _=>{}) (fun _=>none)):=by kernel_rfl

theorem qbE:SpecOk Tryz.prog 203 (zaA zqT):=by
 refine zaK zaM zaL SPok.nil Tryz.func203 (by decide) (zh7 fun _=>rfl) (Eq.mp qj8 ?_)
 simp (maxSteps:=10000000) only [std,stdU,stdV,Exx,I64,Nat.reduceMul,Nat.reduceDiv,Nat.reduceAdd,Int.reduceToNat]
 exact fun g ws h=>⟨g,rfl,rfl,rfl,rfl,fun _ _=>rfl,rfl⟩

def zpK:Ctr:=zmR Unit (fun _=>True) (fun _=>[.ptr 0 [] 0]) (fun _ => .tup [])

theorem qqN:(
 let q1:Prop:=(221:TypeId)=221;
 let q2:Prop:=(210:TypeId)=210; ∀(x:DevG×List Nat×Unit),DevW x.2.1/\True->∀(n:Int),n=IntKind.i64.wrap (x.1.steps+1)->Exx (DevG×List Nat×Unit) fun x_1=>(((true=true/\zaC/\0+1=1)/\True)/\true=true/\(q1/\(true=true/\zaC/\0=0/\4=4/\0=0/\x.2.1.length=x_1.2.1.length/\x.1.cap=x_1.1.cap)/\Tr 1 (Tr 1 ((0:Int)=0)/\false=false/\false=false/\Tr 1 (x.1.left=x_1.1.left)/\Tr 1 (n=x_1.1.steps)/\True))/\(q2/\4=4/\x.1.cap=x_1.1.cap/\x_1.2.1.length <= x.2.1.length/\∀(i:Nat),i<x_1.2.1.length->[AV.int .u64 (↑(x.1.la i):Int),AV.int .u64 (↑(x.2.1.getD i 0):Int),AV.int .u64 (↑(x.1.se i):Int),AV.bool (x.1.fl i)]=[AV.int .u64 (↑(x_1.1.la i):Int),AV.int .u64 (↑(x_1.2.1.getD i 0):Int),AV.int .u64 (↑(x_1.1.se i):Int),AV.bool (x_1.1.fl i)])/\True)/\(DevW x_1.2.1/\True)/\∀(y:DevG),y.cap=x_1.1.cap->Exx DevG fun y_1=>(Tr 1 True/\(q1/\(true=true/\zaC/\0=0/\4=4/\0=0/\x_1.2.1.length=x.2.1.length/\y.cap=y_1.cap)/\Tr 1 (Tr 1 ((0:Int)=0)/\false=false/\false=false/\Tr 1 (y.left=y_1.left)/\Tr 1 (y.steps=y_1.steps)/\True))/\(q2/\4=4/\y.cap=y_1.cap/\x.2.1.length <= x_1.2.1.length/\∀(i:Nat),i<x.2.1.length->[AV.int .u64 (↑(y.la i):Int),AV.int .u64 (↑(x_1.2.1.getD i 0):Int),AV.int .u64 (↑(y.se i):Int),AV.bool (y.fl i)]=[AV.int .u64 (↑(y_1.la i):Int),AV.int .u64 (↑(x.2.1.getD i 0):Int),AV.int .u64 (↑(y_1.se i):Int),AV.bool (y_1.fl i)])/\true=true/\True)/\y_1.cap=x.1.cap)=(fnVC (wr tb) [(203,zaA zqT)] Tryz.f187 zpK (fun _=>{}) (fun _=>none)):=by kernel_rfl

theorem zuA:SpecOk Tryz.prog 187 (zaA zpK):=by
 refine zaK zaM (wr_ok zaL) (SPok.cons qbE SPok.nil) Tryz.func187 (by decide) (zh7 fun _=>trivial) (Eq.mp qqN ?_)
 simp (maxSteps:=10000000) only [std,stdU,stdV,Exx,I64,Nat.reduceMul,Nat.reduceDiv,Nat.reduceAdd,Int.reduceToNat]
 exact fun g ws h=>⟨{ g with steps:=IntKind.i64.wrap (g.steps+1) },ws,rfl,rfl,rfl,rfl,rfl,Nat.le_refl _,fun _ _=>rfl,h,fun y hy=>⟨rfl,y,rfl,rfl,rfl,rfl,Nat.le_refl _,fun _ _=>rfl,hy⟩⟩

def zc9 (ws:List Nat) (at_:Int):Int:=mayErr at_ (ws.length:Nat)
def zkK (ws:List Nat) (at_:Int) (w:Nat):List Nat:=if 0 <= at_ then ws.set at_.toNat w else ws
def zrU:Ctr:=zwC (Int×Nat) (fun x=>I64 x.2.1/\U64 x.2.2) (fun x=>[i64 x.2.1,u64 x.2.2]) (fun x=>zkK x.1 x.2.1 x.2.2) (fun x=>i64 (zc9 x.1 x.2.1))

theorem qmH:(
 let q1:Prop:=true=true/\zaC/\0=0;
 let q2:Prop:=(221:TypeId)=221;
 let q3:Prop:=(210:TypeId)=210; ∀(x:List Nat×Int×Nat),
 let q4:List Nat:=zkK x.1 x.2.1 x.2.2;
 let q5:Nat:=q4.length;
 let q6:Int:=zc9 x.1 x.2.1;
 let q7:Prop:=(devO q4).ob=devB q4/\true=true/\True;
 let q8:Nat:=0+x.2.1.toNat; DevW x.1/\I64 x.2.1/\U64 x.2.2->devB x.1=(devO x.1).ob/\∀(g:DevG),Exx (DevG×List Nat×Int×Int) fun x_1 =>
 let q9:Int:=mayErr x_1.2.2.1 x_1.2.2.2; ((q1/\Tr 1 (x.2.1=x_1.2.2.1)/\Tr 1 ((x.1.length:Int)=x_1.2.2.2)/\True)/\true=true/\(q2/\(true=true/\zaC/\0=0/\4=4/\0=0/\x.1.length=x_1.2.1.length/\g.cap=x_1.1.cap)/\Tr 1 (Tr 1 ((0:Int)=0)/\false=false/\false=false/\Tr 1 (g.left=x_1.1.left)/\Tr 1 (g.steps=x_1.1.steps)/\True))/\(q3/\4=4/\g.cap=x_1.1.cap/\x_1.2.1.length <= x.1.length/\∀(i:Nat),i<x_1.2.1.length->[AV.int .u64 (↑(g.la i):Int),AV.int .u64 (↑(x.1.getD i 0):Int),AV.int .u64 (↑(g.se i):Int),AV.bool (g.fl i)]=[AV.int .u64 (↑(x_1.1.la i):Int),AV.int .u64 (↑(x_1.2.1.getD i 0):Int),AV.int .u64 (↑(x_1.1.se i):Int),AV.bool (x_1.1.fl i)])/\True)/\(DevW x_1.2.1/\I64 x_1.2.2.1/\I64 x_1.2.2.2)/\∀(y:DevG),y.cap=x_1.1.cap->BC (!decide (q9=(0:Int))) (Exx Unit fun y_1=>Exx DevG fun g=>Tr 1 ((q2/\(true=true/\zaC/\0=0/\4=4/\0=0/\x_1.2.1.length=q5/\y.cap=g.cap)/\Tr 1 (Tr 1 ((0:Int)=0)/\false=false/\false=false/\Tr 1 (y.left=g.left)/\Tr 1 (y.steps=g.steps)/\True))/\(q3/\4=4/\y.cap=g.cap/\q5 <= x_1.2.1.length/\∀(i:Nat),i<q5->[AV.int .u64 (↑(y.la i):Int),AV.int .u64 (↑(x_1.2.1.getD i 0):Int),AV.int .u64 (↑(y.se i):Int),AV.bool (y.fl i)]=[AV.int .u64 (↑(g.la i):Int),AV.int .u64 (↑(q4.getD i 0):Int),AV.int .u64 (↑(g.se i):Int),AV.bool (g.fl i)])/\True)/\((Tr 1 (q9=q6)/\True)/\q7)/\True) (((0:Int) <= x.2.1/\x.2.1<(x_1.2.1.length:Int))/\q8<x_1.2.1.length/\x_1.2.1.length=x_1.2.1.length/\Exx (DevG×List Nat×Unit) fun x_2=>((q1/\True)/\true=true/\(q2/\(true=true/\zaC/\0=0/\4=4/\0=0/\x_1.2.1.length=x_2.2.1.length/\y.cap=x_2.1.cap)/\Tr 1 (Tr 1 ((0:Int)=0)/\false=false/\false=false/\Tr 1 (y.left=x_2.1.left)/\Tr 1 (y.steps=x_2.1.steps)/\True))/\(q3/\4=4/\y.cap=x_2.1.cap/\x_2.2.1.length <= x_1.2.1.length/\∀(i:Nat),i<x_2.2.1.length->[AV.int .u64 (if i=q8 then (↑(y.la q8):Int) else (↑(y.la i):Int)),AV.int .u64 (if i=q8 then (x.2.2:Int) else (↑(x_1.2.1.getD i 0):Int)),AV.int .u64 (if i=q8 then (↑(y.se q8):Int) else (↑(y.se i):Int)),AV.bool (if i=q8 then y.fl q8 else y.fl i)]=[AV.int .u64 (↑(x_2.1.la i):Int),AV.int .u64 (↑(x_2.2.1.getD i 0):Int),AV.int .u64 (↑(x_2.1.se i):Int),AV.bool (x_2.1.fl i)])/\True)/\(DevW x_2.2.1/\True)/\∀(y:DevG),y.cap=x_2.1.cap->Exx Unit fun y_1=>Exx DevG fun g=>Tr 1 ((q2/\(true=true/\zaC/\0=0/\4=4/\0=0/\x_2.2.1.length=q5/\y.cap=g.cap)/\Tr 1 (Tr 1 ((0:Int)=0)/\false=false/\false=false/\Tr 1 (y.left=g.left)/\Tr 1 (y.steps=g.steps)/\True))/\(q3/\4=4/\y.cap=g.cap/\q5 <= x_2.2.1.length/\∀(i:Nat),i<q5->[AV.int .u64 (↑(y.la i):Int),AV.int .u64 (↑(x_2.2.1.getD i 0):Int),AV.int .u64 (↑(y.se i):Int),AV.bool (y.fl i)]=[AV.int .u64 (↑(g.la i):Int),AV.int .u64 (↑(q4.getD i 0):Int),AV.int .u64 (↑(g.se i):Int),AV.bool (g.fl i)])/\True)/\((Tr 1 ((0:Int)=q6)/\True)/\q7)/\True))=(zcA tb [(186,zaA zrW),(187,zaA zpK)] Tryz.f155 zrU (fun _=>{}) (fun _ _ _=>none) (fun x=>[(0,devO x.1)]) (fun x y av H=>[(0,[2],devO (zkK x.1 x.2.1 x.2.2))])):=by kernel_rfl

theorem qcI:SpecOk Tryz.prog 155 (zaA zrU):=by
 refine za0 zaM zaL (SPok.cons zrV (SPok.cons zuA SPok.nil)) Tryz.func155 (by decide) (zn6 fun _=>rfl) (Eq.mp qmH ?_)
 simp (maxSteps:=10000000) only [std,stdU,stdV,Exx,I64,Nat.reduceMul,Nat.reduceDiv,Nat.reduceAdd,Int.reduceToNat,zhQ,zfY,zaQ]
 rintro ws a w ⟨h,h1,h2,hw⟩ g
 have hlen:=h.1
 refine ⟨g,ws,rfl,rfl,rfl,rfl,rfl,Nat.le_refl _,fun _ _=>rfl,h,h1,h2,by omega,by omega,fun y hy=>⟨fun hne=>?_,fun hz=>?_⟩⟩
 ·have e:zkK ws a w=ws:=by
   rw [zkK]; split
   ·rename_i h0
    refine List.set_eq_of_length_le ?_
    by_cases h3:a<(ws.length:Int)
    ·exact absurd (show mayErr a (ws.length:Int)=0 by rw [mayErr,if_pos ⟨h0,h3⟩]) hne
    ·omega
   ·rfl
  rw [e]
  exact ⟨rfl,y,rfl,rfl,rfl,rfl,Nat.le_refl _,fun _ _=>rfl,rfl⟩
 ·obtain ⟨h3,h4⟩:0 <= a/\a<(ws.length:Int):=by
   by_cases k:0 <= a/\a<(ws.length:Int)
   ·exact k
   ·rw [mayErr,if_neg k] at hz; cases hz
  have hk:a.toNat<ws.length:=by omega
  have e:zkK ws a w=ws.set a.toNat w:=by rw [zkK,if_pos h3]
  have hwl:DevW (ws.set a.toNat w):=⟨by rw [List.length_set]; exact hlen,fun x hx=>by
   rcases List.mem_or_eq_of_mem_set hx with k | k
   ·exact h.2 x k
   ·rw [k]; exact hw⟩
  refine ⟨h3,h4,hk,y,ws.set a.toNat w,by rw [List.length_set],rfl,rfl,rfl,rfl,by rw [List.length_set]; exact Nat.le_refl _,fun i hi=>?_,hwl,fun y2 hy2=>?_⟩
  ·rw [zv2 hk]
   by_cases k:i=a.toNat
   ·subst k; simp
   ·simp [k]
  ·rw [e]
   exact ⟨rfl,y2,rfl,rfl,rfl,rfl,Nat.le_refl _,fun _ _=>rfl,by rw [zc9,hz]⟩

def zwE:Ctr:=zrX Int (fun x=>I64 x.2) (fun x=>[i64 x.2]) (fun x => .tup [u64 (if 0 <= x.2 then x.1.getD x.2.toNat 0 else 0),i64 (zc9 x.1 x.2)])

theorem qqO:(
 let q1:Prop:=(221:TypeId)=221;
 let q2:Prop:=(210:TypeId)=210; ∀(x:List Nat×Int),
 let q3:Int:=(↑(if (0:Int) <= x.2 then x.1.getD x.2.toNat 0 else 0):Int);
 let q4:Prop:=(devO x.1).ob=devB x.1/\true=true/\True;
 let q5:Nat:=0+x.2.toNat; DevW x.1/\I64 x.2->devB x.1=(devO x.1).ob/\∀(g:DevG),Exx (DevG×List Nat×Int×Int) fun x_1 =>
 let q6:Int:=mayErr x_1.2.2.1 x_1.2.2.2; (((true=true/\zaC/\0=0)/\Tr 1 (x.2=x_1.2.2.1)/\Tr 1 ((x.1.length:Int)=x_1.2.2.2)/\True)/\true=true/\(q1/\(true=true/\zaC/\0=0/\4=4/\0=0/\x.1.length=x_1.2.1.length/\g.cap=x_1.1.cap)/\Tr 1 (Tr 1 ((0:Int)=0)/\false=false/\false=false/\Tr 1 (g.left=x_1.1.left)/\Tr 1 (g.steps=x_1.1.steps)/\True))/\(q2/\4=4/\g.cap=x_1.1.cap/\x_1.2.1.length <= x.1.length/\∀(i:Nat),i<x_1.2.1.length->[AV.int .u64 (↑(g.la i):Int),AV.int .u64 (↑(x.1.getD i 0):Int),AV.int .u64 (↑(g.se i):Int),AV.bool (g.fl i)]=[AV.int .u64 (↑(x_1.1.la i):Int),AV.int .u64 (↑(x_1.2.1.getD i 0):Int),AV.int .u64 (↑(x_1.1.se i):Int),AV.bool (x_1.1.fl i)])/\True)/\(DevW x_1.2.1/\I64 x_1.2.2.1/\I64 x_1.2.2.2)/\∀(y:DevG),y.cap=x_1.1.cap->BC (!decide (q6=(0:Int))) (Exx Unit fun y_1=>Exx DevG fun g=>Tr 1 ((q1/\(true=true/\zaC/\0=0/\4=4/\0=0/\x_1.2.1.length=x.1.length/\y.cap=g.cap)/\Tr 1 (Tr 1 ((0:Int)=0)/\false=false/\false=false/\Tr 1 (y.left=g.left)/\Tr 1 (y.steps=g.steps)/\True))/\(q2/\4=4/\y.cap=g.cap/\x.1.length <= x_1.2.1.length/\∀(i:Nat),i<x.1.length->[AV.int .u64 (↑(y.la i):Int),AV.int .u64 (↑(x_1.2.1.getD i 0):Int),AV.int .u64 (↑(y.se i):Int),AV.bool (y.fl i)]=[AV.int .u64 (↑(g.la i):Int),AV.int .u64 (↑(x.1.getD i 0):Int),AV.int .u64 (↑(g.se i):Int),AV.bool (g.fl i)])/\True)/\(((Tr 1 ((0:Int)=q3)/\Tr 1 (q6=zc9 x.1 x.2)/\True)/\True)/\q4)/\True) (((0:Int) <= x.2/\x.2<(x_1.2.1.length:Int))/\q5<x_1.2.1.length/\Exx Unit fun y_1=>Exx DevG fun g=>Tr 1 ((q1/\(true=true/\zaC/\0=0/\4=4/\0=0/\x_1.2.1.length=x.1.length/\y.cap=g.cap)/\Tr 1 (Tr 1 ((0:Int)=0)/\false=false/\false=false/\Tr 1 (y.left=g.left)/\Tr 1 (y.steps=g.steps)/\True))/\(q2/\4=4/\y.cap=g.cap/\x.1.length <= x_1.2.1.length/\∀(i:Nat),i<x.1.length->[AV.int .u64 (↑(y.la i):Int),AV.int .u64 (↑(x_1.2.1.getD i 0):Int),AV.int .u64 (↑(y.se i):Int),AV.bool (y.fl i)]=[AV.int .u64 (↑(g.la i):Int),AV.int .u64 (↑(x.1.getD i 0):Int),AV.int .u64 (↑(g.se i):Int),AV.bool (g.fl i)])/\True)/\(((Tr 1 ((↑(x_1.2.1.getD q5 0):Int)=q3)/\Tr 1 ((0:Int)=zc9 x.1 x.2)/\True)/\True)/\q4)/\True))=(zcA tb [(186,zaA zrW)] Tryz.f159 zwE (fun _=>{}) (fun _ _ _=>none) (fun x=>[(0,devO x.1)]) (fun x y av H=>[(0,[2],devO x.1)])):=by kernel_rfl

theorem qhB:SpecOk Tryz.prog 159 (zaA zwE):=by
 refine za0 zaM zaL (SPok.cons zrV SPok.nil) Tryz.func159 (by decide) (zkD fun _=>⟨rfl,rfl,trivial⟩) (Eq.mp qqO ?_)
 simp (maxSteps:=10000000) only [std,stdU,stdV,Exx,I64,Nat.reduceMul,Nat.reduceDiv,Nat.reduceAdd,Int.reduceToNat,zhQ,zfY,zaQ]
 rintro ws a ⟨h,h1,h2⟩ g
 have hlen:=h.1
 refine ⟨g,ws,rfl,rfl,rfl,rfl,rfl,Nat.le_refl _,fun _ _=>rfl,h,h1,h2,by omega,by omega,fun y hy=>⟨fun hne=>⟨rfl,y,rfl,rfl,rfl,rfl,Nat.le_refl _,fun _ _=>rfl,?_,rfl⟩,fun hz=>?_⟩⟩
 ·split
  ·rename_i h0
   have:ws.length <= a.toNat:=by
    by_cases h3:a<(ws.length:Int)
    ·exact absurd (show mayErr a (ws.length:Int)=0 by rw [mayErr,if_pos ⟨h0,h3⟩]) hne
    ·omega
   rw [List.getD_eq_getElem?_getD,List.getElem?_eq_none this]; rfl
  ·rfl
 ·obtain ⟨h3,h4⟩:0 <= a/\a<(ws.length:Int):=by
   by_cases k:0 <= a/\a<(ws.length:Int)
   ·exact k
   ·rw [mayErr,if_neg k] at hz; cases hz
  exact ⟨h3,h4,by omega,rfl,y,rfl,rfl,rfl,rfl,Nat.le_refl _,fun _ _=>rfl,by rw [if_pos h3],by rw [zc9,hz]⟩

def zrY:Ctr:=zrX Int (fun x=>I64 x.2) (fun x=>[i64 x.2]) (fun x=>i64 (mayErr x.2 (x.1.length / 8:Nat)))
def flushLA (x:List Nat×Int):LA:={ T:=Nat×DevG,F:=fun s=>frm 41 [(0,.ptr 0 [] 0),(1,i64 x.2),(16,i64 (s.1:Nat))],H:=fun s=>[.cells 221 [.sl 2 [] 0 4 0 x.1.length s.2.cap,.nils,i64 0,.bool false,.bool false,i64 s.2.left,i64 s.2.steps],.fence,.row 210 4 s.2.cap x.1.length (fun j=>[u64 (s.2.la j),u64 (x.1.getD j 0),u64 (s.2.se j),.bool (s.2.fl j)])] }

theorem qmK:(
 let q1:Prop:=true=true/\zaC/\0=0;
 let q2:Prop:=q1/\True;
 let q3:Prop:=(221:TypeId)=221;
 let q4:Prop:=(210:TypeId)=210; ∀(x:List Nat×Int),
 let q5:Int:=mayErr x.2 (↑(x.1.length / 8):Int);
 let q6:Prop:=(devO x.1).ob=devB x.1/\true=true/\True;
 let q7:Int:=x.2*8; DevW x.1/\I64 x.2->devB x.1=(devO x.1).ob/\∀(g:DevG),Exx (DevG×List Nat×Unit) fun x_1=>(q2/\true=true/\(q3/\(true=true/\zaC/\0=0/\4=4/\0=0/\x.1.length=x_1.2.1.length/\g.cap=x_1.1.cap)/\Tr 1 (Tr 1 ((0:Int)=0)/\false=false/\false=false/\Tr 1 (g.left=x_1.1.left)/\Tr 1 (g.steps=x_1.1.steps)/\True))/\(q4/\4=4/\g.cap=x_1.1.cap/\x_1.2.1.length <= x.1.length/\∀(i:Nat),i<x_1.2.1.length->[AV.int .u64 (↑(g.la i):Int),AV.int .u64 (↑(x.1.getD i 0):Int),AV.int .u64 (↑(g.se i):Int),AV.bool (g.fl i)]=[AV.int .u64 (↑(x_1.1.la i):Int),AV.int .u64 (↑(x_1.2.1.getD i 0):Int),AV.int .u64 (↑(x_1.1.se i):Int),AV.bool (x_1.1.fl i)])/\True)/\(DevW x_1.2.1/\True)/\∀(y:DevG),y.cap=x_1.1.cap->Exx (DevG×List Nat×Int×Int) fun x_2 =>
 let q8:Int:=mayErr x_2.2.2.1 x_2.2.2.2;
 let q9:Prop:=x_2.2.1.length=x.1.length;
 let q10:Prop:=x.1.length <= x_2.2.1.length; ((q1/\Tr 1 (x.2=x_2.2.2.1)/\Tr 1 ((↑(x_1.2.1.length / 8):Int)=x_2.2.2.2)/\True)/\true=true/\(q3/\(true=true/\zaC/\0=0/\4=4/\0=0/\x_1.2.1.length=x_2.2.1.length/\y.cap=x_2.1.cap)/\Tr 1 (Tr 1 ((0:Int)=0)/\false=false/\false=false/\Tr 1 (y.left=x_2.1.left)/\Tr 1 (y.steps=x_2.1.steps)/\True))/\(q4/\4=4/\y.cap=x_2.1.cap/\x_2.2.1.length <= x_1.2.1.length/\∀(i:Nat),i<x_2.2.1.length->[AV.int .u64 (↑(y.la i):Int),AV.int .u64 (↑(x_1.2.1.getD i 0):Int),AV.int .u64 (↑(y.se i):Int),AV.bool (y.fl i)]=[AV.int .u64 (↑(x_2.1.la i):Int),AV.int .u64 (↑(x_2.2.1.getD i 0):Int),AV.int .u64 (↑(x_2.1.se i):Int),AV.bool (x_2.1.fl i)])/\True)/\(DevW x_2.2.1/\I64 x_2.2.2.1/\I64 x_2.2.2.2)/\∀(y:DevG),y.cap=x_2.1.cap->BC (!decide (q8=(0:Int))) (Exx Unit fun y_1=>Exx DevG fun g=>Tr 1 ((q3/\(true=true/\zaC/\0=0/\4=4/\0=0/\q9/\y.cap=g.cap)/\Tr 1 (Tr 1 ((0:Int)=0)/\false=false/\false=false/\Tr 1 (y.left=g.left)/\Tr 1 (y.steps=g.steps)/\True))/\(q4/\4=4/\y.cap=g.cap/\q10/\∀(i:Nat),i<x.1.length->[AV.int .u64 (↑(y.la i):Int),AV.int .u64 (↑(x_2.2.1.getD i 0):Int),AV.int .u64 (↑(y.se i):Int),AV.bool (y.fl i)]=[AV.int .u64 (↑(g.la i):Int),AV.int .u64 (↑(x.1.getD i 0):Int),AV.int .u64 (↑(g.se i):Int),AV.bool (g.fl i)])/\True)/\((Tr 1 (q8=q5)/\True)/\q6)/\True) (Exx (Nat×DevG->Prop) fun I=>Exx (Nat×DevG->Nat) fun m=>(Exx (Nat×DevG) fun t=>I t/\(q1/\Tr 1 (x.2=x.2)/\Tr 14 (Tr 1 (0=(t.1:Int))/\Tr 24 True))/\(q3/\(true=true/\zaC/\0=0/\4=4/\0=0/\q9/\y.cap=t.2.cap)/\Tr 1 (Tr 1 ((0:Int)=0)/\false=false/\false=false/\Tr 1 (y.left=t.2.left)/\Tr 1 (y.steps=t.2.steps)/\True))/\true=true/\(q4/\4=4/\y.cap=t.2.cap/\q10/\∀(i:Nat),i<x.1.length->[AV.int .u64 (↑(y.la i):Int),AV.int .u64 (↑(x_2.2.1.getD i 0):Int),AV.int .u64 (↑(y.se i):Int),AV.bool (y.fl i)]=[AV.int .u64 (↑(t.2.la i):Int),AV.int .u64 (↑(x.1.getD i 0):Int),AV.int .u64 (↑(t.2.se i):Int),AV.bool (t.2.fl i)])/\True)/\∀(t:Nat×DevG),
 let q11:Int:=q7+(t.1:Int);
 let q12:Nat:=0+q11.toNat;
 let q13:Prop:=q12<x.1.length;
 let q14:Int:=(t.1:Int)+1;
 let q15:Prop:=q12=q12;
 let q16:Int:=(↑(t.2.la q12):Int);
 let q17:Int:=(↑(x.1.getD q12 0):Int); I t->BC (decide ((t.1:Int)<(8:Int))) (I64 q7/\I64 q11/\((0:Int) <= q11/\q11<(x.1.length:Int))/\q13/\q13/\x.1.length=x.1.length/\q13/\x.1.length=x.1.length/\I64 q14/\Exx (Nat×DevG) fun t'=>(I t'/\m t'<m t)/\(q1/\Tr 1 (x.2=x.2)/\Tr 14 (Tr 1 (q14=(↑t'.fst:Int))/\Tr 24 True))/\(q3/\(true=true/\zaC/\0=0/\4=4/\0=0/\x.1.length=x.1.length/\t.2.cap=t'.snd.cap)/\Tr 1 (Tr 1 ((0:Int)=0)/\false=false/\false=false/\Tr 1 (t.2.left=t'.snd.left)/\Tr 1 (t.2.steps=t'.snd.steps)/\True))/\true=true/\(q4/\4=4/\t.2.cap=t'.snd.cap/\x.1.length <= x.1.length/\∀(i:Nat),
 let q18:Int:=(↑(x.1.getD i 0):Int); i<x.1.length->[AV.int .u64 (if i=q12 then if q15 then q16 else q16 else if i=q12 then q16 else (↑(t.2.la i):Int)),AV.int .u64 (if i=q12 then if q15 then q17 else q17 else if i=q12 then q17 else q18),AV.int .u64 (if i=q12 then if q15 then q17 else (↑(t.2.se q12):Int) else if i=q12 then q17 else (↑(t.2.se i):Int)),AV.bool (if i=q12 then true else if i=q12 then t.2.fl q12 else t.2.fl i)]=[AV.int .u64 (↑(t'.snd.la i):Int),AV.int .u64 q18,AV.int .u64 (↑(t'.snd.se i):Int),AV.bool (t'.snd.fl i)])/\True) (Exx (DevG×List Nat×Unit) fun x_3=>(q2/\true=true/\(q3/\(true=true/\zaC/\0=0/\4=4/\0=0/\x.1.length=x_3.2.1.length/\t.2.cap=x_3.1.cap)/\Tr 1 (Tr 1 ((0:Int)=0)/\false=false/\false=false/\Tr 1 (t.2.left=x_3.1.left)/\Tr 1 (t.2.steps=x_3.1.steps)/\True))/\(q4/\4=4/\t.2.cap=x_3.1.cap/\x_3.2.1.length <= x.1.length/\∀(i:Nat),i<x_3.2.1.length->[AV.int .u64 (↑(t.2.la i):Int),AV.int .u64 (↑(x.1.getD i 0):Int),AV.int .u64 (↑(t.2.se i):Int),AV.bool (t.2.fl i)]=[AV.int .u64 (↑(x_3.1.la i):Int),AV.int .u64 (↑(x_3.2.1.getD i 0):Int),AV.int .u64 (↑(x_3.1.se i):Int),AV.bool (x_3.1.fl i)])/\True)/\(DevW x_3.2.1/\True)/\∀(y:DevG),y.cap=x_3.1.cap->Exx Unit fun y_1=>Exx DevG fun g=>Tr 1 ((q3/\(true=true/\zaC/\0=0/\4=4/\0=0/\x_3.2.1.length=x.1.length/\y.cap=g.cap)/\Tr 1 (Tr 1 ((0:Int)=0)/\false=false/\false=false/\Tr 1 (y.left=g.left)/\Tr 1 (y.steps=g.steps)/\True))/\(q4/\4=4/\y.cap=g.cap/\x.1.length <= x_3.2.1.length/\∀(i:Nat),i<x.1.length->[AV.int .u64 (↑(y.la i):Int),AV.int .u64 (↑(x_3.2.1.getD i 0):Int),AV.int .u64 (↑(y.se i):Int),AV.bool (y.fl i)]=[AV.int .u64 (↑(g.la i):Int),AV.int .u64 (↑(x.1.getD i 0):Int),AV.int .u64 (↑(g.se i):Int),AV.bool (g.fl i)])/\True)/\((Tr 1 ((0:Int)=q5)/\True)/\q6)/\True)))=(zcA tb [(113,zdF (zaA zjH) (zaA zhP)),(186,zaA zrW),(187,zaA zpK)] Tryz.f156 zrY (fun x=>{ loops:=[(5,flushLA x)] }) (fun _ _ _=>none) (fun x=>[(0,devO x.1)]) (fun x y av H=>[(0,[2],devO x.1)])):=by kernel_rfl

theorem qcK:SpecOk Tryz.prog 156 (zaA zrY):=by
 refine za0 zaM zaL (SPok.cons (zbR zlC zjG) (SPok.cons zrV (SPok.cons zuA SPok.nil))) Tryz.func156 (by decide) (zkD fun _=>rfl) (Eq.mp qmK ?_)
 simp (maxSteps:=10000000) only [std,stdU,stdV,Exx,I64,Nat.reduceMul,Nat.reduceDiv,Nat.reduceAdd,Int.reduceToNat,zhQ,zfY,zaQ]
 rintro ws a ⟨h,h1,h2⟩ g
 have hlen:=h.1
 refine ⟨g,ws,rfl,rfl,rfl,rfl,rfl,Nat.le_refl _,fun _ _=>rfl,h,fun y hy=>⟨y,ws,rfl,rfl,rfl,rfl,rfl,Nat.le_refl _,fun _ _=>rfl,h,h1,h2,by omega,by omega,fun y2 hy2=>⟨fun hne=>⟨rfl,y2,rfl,rfl,rfl,rfl,Nat.le_refl _,fun _ _=>rfl,rfl⟩,fun hz=>?_⟩⟩⟩
 obtain ⟨h3,h4⟩:0 <= a/\a<((ws.length / 8:Nat):Int):=by
  by_cases k:0 <= a/\a<((ws.length / 8:Nat):Int)
  ·exact k
  ·rw [mayErr,if_neg k] at hz; cases hz
 refine ⟨fun s=>s.1 <= 8,⟨0,y2,by simp,rfl,rfl,rfl,rfl,rfl,rfl,Nat.le_refl _,fun _ _=>rfl⟩,fun s=>8-s.1,?_⟩
 rintro i z hi
 simp only at hi
 refine ⟨fun hlt=>⟨by omega,by omega,by omega,by omega,by omega,by omega,by omega,by omega,by omega,by omega,by omega,i+1,{ z with se:=fun j=>if j=(a*8+(i:Int)).toNat then ws.getD j 0 else z.se j,fl:=fun j=>if j=(a*8+(i:Int)).toNat then true else z.fl j },by simp only; omega,by simp only; omega,by omega,rfl,rfl,rfl,rfl,fun j hj=>?_⟩,fun hge=>⟨z,ws,rfl,rfl,rfl,rfl,rfl,Nat.le_refl _,fun _ _=>rfl,h,fun y3 hy3=>⟨rfl,y3,rfl,rfl,rfl,rfl,Nat.le_refl _,fun _ _=>rfl,hz.symm⟩⟩⟩
 by_cases e:j=(a*8+(i:Int)).toNat
 ·subst e; simp
 ·simp [e]

def tupPtr (av:AV):Option Ren:=match av with
 | .tup (.ptr q _ _ :: _)=>some [some 0,some q]
 | _=>none
def devNewI:Ctr2 where
 X:=Int
 conv:=true
 tau:=fun _ _=>[]
 pre:=I64
 args:=fun n=>[i64 n]
 heap:=fun _=>[]
 p:=fun n=>0 <= n/\n <= 4096
 a:={ Y:=Unit,Q:=fun _ _=>True,res:=fun _ _ => .tup [.ptr 1 [] 0,i64 0],its:=fun _ _=>[],new:=fun n _=>[devI (List.replicate (8*n.toNat) 0)] }
 b:={ Y:=Unit,Q:=fun _ _=>True,res:=fun _ _ => .tup [.nilp,i64 2],its:=fun _ _=>[],new:=fun _ _=>[] }

theorem devNewV:(∀(x:Int),
 let q1:Prop:=(0:Int) <= x/\x <= (4096:Int);
 let q2:Prop:=(q1/\Exx Unit fun y=>False)\/¬devNewI.p x/\Exx Unit fun y=>((Tr 1 (Tr 1 ((2:Int)=2)/\True)/\True)/\true=true/\True)/\True;
 let q3:List Nat:=List.replicate (8*x.toNat) 0;
 let q4:Nat:=q3.length; -9223372036854775808 <= x/\x <= (9223372036854775807:Int)->BC (decide (x<(0:Int))) q2 (BC (decide ((4096:Int)<x)) q2 (I64 (x*8)/\((0:Int) <= x*8/\x*8 <= x*8/\(↑(32:Nat):Int)*(x*8) <= (281474976710656:Int)/\x*8 <= (9223372036854775807:Int))/\((q1/\Exx Unit fun y=>Exx DevG fun g =>
 let q5:Prop:=(x*8).toNat=g.cap; Tr 1 ((221=(221:TypeId)/\(true=true/\zaC/\0=0/\4=4/\0=0/\(x*8).toNat=q4/\q5)/\Tr 1 (Tr 1 ((0:Int)=0)/\false=false/\false=false/\Tr 1 ((0:Int)=g.left)/\Tr 1 ((0:Int)=g.steps)/\True))/\((210:TypeId)=210/\4=4/\q5/\q4 <= (x*8).toNat/\∀(i:Nat),i<q4->[AV.int .u64 0,AV.int .u64 0,AV.int .u64 0,AV.bool false]=[AV.int .u64 (↑(g.la i):Int),AV.int .u64 (↑(q3.getD i 0):Int),AV.int .u64 (↑(g.se i):Int),AV.bool (g.fl i)])/\True)/\((((true=true/\zaC/\0=0)/\Tr 1 ((0:Int)=0)/\True)/\True)/\true=true/\(devO q3).ob=devB q3/\True)/\True)\/¬devNewI.p x/\Exx Unit fun y=>False/\True))))=(qg3 tb [] Tryz.f76 devNewI (fun _=>{}) (fun _ av _=>tupPtr av) (fun _=>[]) (fun x y av H=>[(2,[1],devO (List.replicate (8*x.toNat) 0))]) (fun _ _ _ _=>[])):=by kernel_rfl

theorem qmI:SpecOk Tryz.prog 76 (ziC devNewI):=by
 refine zuO zaM zaL SPok.nil Tryz.func76 (by decide) ⟨fun _ _ _ _=>rfl,fun _ _ _ _=>⟨rfl,rfl⟩,fun x _ _ _ _=>⟨⟨trivial,⟨trivial,trivial⟩⟩,rfl,rfl,trivial⟩⟩ ⟨fun _ _ _ _=>rfl,fun _ _ _ _=>⟨rfl,rfl⟩,fun x _ _ _ _=>⟨⟨trivial,trivial⟩,rfl,rfl,trivial⟩⟩ (Eq.mp devNewV ?_)
 simp (maxSteps:=10000000) only [std,stdU,stdV,Exx,I64,Nat.reduceMul,Nat.reduceDiv,Nat.reduceAdd,Int.reduceToNat,zhQ,zfY,zaQ]
 rintro n ⟨h1,h2⟩
 refine ⟨fun h k=>?_,fun h0=>⟨fun h k=>?_,fun h3=>?_⟩⟩
 ·have k':0 <= n/\n <= 4096:=k
  omega
 ·have k':0 <= n/\n <= 4096:=k
  omega
 ·refine ⟨by omega,by omega,by omega,by omega,by omega,by omega,by omega,by omega,by rw [List.length_replicate]; omega,{ la:=fun _=>0,se:=fun _=>0,fl:=fun _=>false,cap:=(n*8).toNat,left:=0,steps:=0 },rfl,rfl,rfl,rfl,by rw [List.length_replicate]; omega,fun i hi=>?_⟩
  rw [zg2]
  simp


def putW (ws:List Nat) (k:Nat) (q:List Nat):List Nat:=(List.range ws.length).map fun i=>if k <= i/\i<k+q.length then q.getD (i-k) 0 else ws.getD i 0
theorem zb8 (ws:List Nat) (k:Nat) (q:List Nat):(putW ws k q).length=ws.length:=by simp [putW]
theorem zj0 {ws:List Nat} {k:Nat} {q:List Nat} {i:Nat}:(putW ws k q).getD i 0=if i<ws.length/\k <= i/\i<k+q.length then q.getD (i-k) 0 else ws.getD i 0:=by
 rw [putW,zfO]
 by_cases h:i<ws.length
 ·rw [if_pos h]; simp [h]
 ·rw [if_neg h,if_neg (fun k=>h k.1),List.getD_eq_getElem?_getD,List.getElem?_eq_none (by omega)]; rfl
theorem qpF (ws:List Nat) (k:Nat):putW ws k []=ws:=zbF 0 (zb8 _ _ _) fun i hi=>by rw [zj0,if_neg (by rw [List.length_nil]; omega)]
theorem qjS {ws:List Nat} {k:Nat} {q:List Nat} {i:Nat} (hi:i<q.length) (hk:k+q.length <= ws.length):(putW ws k (q.take i)).set (k+i) (q.getD i 0)=putW ws k (q.take (i+1)):=by
 refine zbF 0 (by rw [List.length_set,zb8,zb8]) fun j hj=>?_
 rw [zb8] at hj
 rw [zv2 (by rw [zb8]; omega),zj0,zj0,List.length_take,List.length_take,Nat.min_eq_left (by omega),Nat.min_eq_left (by omega)]
 by_cases e:j=k+i
 ·subst e
  rw [if_pos rfl,if_pos (by omega),za9,show k+i-k=i by omega,if_pos (by omega)]
 ·rw [if_neg e]
  by_cases e2:j<ws.length/\k <= j/\j<k+i
  ·rw [if_pos e2,if_pos (by omega),za9,za9,if_pos (by omega),if_pos (by omega)]
  ·rw [if_neg e2,if_neg (by omega)]
theorem qbQ {l:List Nat} {p:Nat->Prop} (h:∀i,i<l.length->p (l.getD i 0)):∀x∈l,p x:=fun x hx=>by
 obtain ⟨i,hi,e⟩:=List.mem_iff_getElem.1 hx
 have:=h i hi
 rw [List.getD_eq_getElem?_getD,List.getElem?_eq_getElem hi] at this
 rw [<- e]; exact this
theorem qjT {ws:List Nat} {k:Nat} {q:List Nat} (h:DevW ws) (hq:∀w∈q,U64 w):DevW (putW ws k q):=by
 refine ⟨by rw [zb8]; exact h.1,qbQ fun i hi=>?_⟩
 rw [zj0]
 split
 ·exact getD_mem (p:=U64) hq (by unfold U64; omega) _
 ·exact getD_mem (p:=U64) h.2 (by unfold U64; omega) _

def za2 (ws:List Nat):Nat:=ws.length / 8
def zhI (ws:List Nat) (a:Nat):List Nat:=(ws.drop (8*a)).take 8
def zdZ (ws:List Nat) (a:Int):Prop:=0 <= a/\a<(za2 ws:Int)
instance (ws:List Nat) (a:Int):Decidable (zdZ ws a):=by unfold zdZ; infer_instance
def za3 (ws:List Nat) (a:Int):Int:=mayErr a (za2 ws:Int)
theorem zcH {ws:List Nat} {a:Int}:za3 ws a=0 ↔ zdZ ws a:=by
 unfold za3 mayErr zdZ
 split
 ·rename_i h; exact ⟨fun _=>h,fun _=>rfl⟩
 ·rename_i h; exact ⟨fun k=>(by cases k),fun k=>absurd k h⟩
def zl6:Ctr:=zrX Int (fun x=>I64 x.2) (fun x=>[i64 x.2]) (fun x=>i64 (za3 x.1 x.2))

theorem qj1:(∀(x:List Nat×Int),
 let q1:Prop:=Tr 1 ((2:Int)=za3 x.1 x.2)/\True; DevW x.1/\I64 x.2->BC (decide (x.2<(0:Int))) (Exx Unit fun y=>(q1/\devB x.1=devB x.1/\true=true/\True)/\True) (Exx (List Nat×Unit) fun x_1 =>
 let q2:Int:=(↑(x_1.1.length / 8):Int);
 let q3:Prop:=devB x_1.1=devB x.1/\true=true/\True; (((true=true/\zaC/\0=0)/\True)/\true=true/\devB x.1=devB x_1.1/\True)/\(DevW x_1.1/\True)/\∀(y:Unit),True->BC (decide (q2 <= x.2)) (Exx Unit fun y=>(q1/\q3)/\True) (Exx Unit fun y=>((Tr 1 ((0:Int)=za3 x.1 x.2)/\True)/\q3)/\True)))=(fnVC tb [(113,zdF (zaA zjH) (zaA zhP))] Tryz.f116 zl6 (fun _=>{}) (fun _=>none)):=by kernel_rfl

theorem zqS:SpecOk Tryz.prog 116 (zaA zl6):=by
 refine zaK zaM zaL (SPok.cons (zbR zlC zjG) SPok.nil) Tryz.func116 (by decide) (zkD fun _=>rfl) (Eq.mp qj1 ?_)
 simp (maxSteps:=10000000) only [std,stdU,stdV,Exx,I64,Nat.reduceMul,Nat.reduceDiv,Nat.reduceAdd,Int.reduceToNat,zaQ]
 rintro ws a ⟨h,h1,h2⟩
 have e:za2 ws=ws.length / 8:=rfl
 exact ⟨fun g=>by rw [za3,mayErr,if_neg (by omega)],fun g=>⟨h,fun g2=>by rw [za3,mayErr,if_neg (by omega)],fun g2=>by rw [za3,mayErr,if_pos (by omega)]⟩⟩

def zk2:Ctr:=zwC (Nat×Nat×List Nat) (fun x=>x.2.1*8+x.2.2.1+x.2.2.2.length <= x.1.length/\x.2.1<za2 x.1/\∀w∈x.2.2.2,U64 w) (fun x=>[i64 (x.2.1:Nat),i64 (x.2.2.1:Nat),qgK .u64 x.2.2.2]) (fun x=>putW x.1 (x.2.1*8+x.2.2.1) x.2.2.2) (fun x=>i64 0)
def zx2 (x:List Nat×Nat×Nat×List Nat):LA:={ T:=Nat,F:=fun i=>frm 35 [(0,.ptr 0 [] 0),(1,i64 (x.2.1:Nat)),(2,i64 (x.2.2.1:Nat)),(12,qgK .u64 x.2.2.2),(13,i64 (x.2.2.2.length:Nat)),(14,i64 (i:Nat))],H:=fun i=>[devI (putW x.1 (x.2.1*8+x.2.2.1) (x.2.2.2.take i)),.fence] }

theorem qa9:(
 let q1:Prop:=true=true/\zaC/\0=0; ∀(x:List Nat×Nat×Nat×List Nat),
 let q2:Nat:=x.2.2.1;
 let q3:Nat:=x.2.1*8+q2;
 let q4:List Nat:=x.2.2.2;
 let q5:Nat:=q4.length;
 let q6:Int:=(x.2.1:Int);
 let q7:Prop:=Tr 1 (q6=q6);
 let q8:Int:=(q2:Int);
 let q9:Prop:=Tr 1 (q8=q8);
 let q11:Prop:=1=1/\q5=q5/\∀(i:Nat),
 let q10:List AV:=[AV.int .u64 (↑(q4.getD i 0):Int)]; i<q5->q10=q10;
 let q12:Int:=(q5:Int);
 let q13:Prop:=Tr 1 (q12=q12);
 let q14:Int:=q6*8;
 let q15:Int:=q14+q8;
 let q16:Ob:=devB (putW x.1 q3 q4); (DevW x.1/\q3+q5 <= x.1.length/\x.2.1<za2 x.1/\∀(w:Nat),w∈q4->U64 w)->Exx (Nat->Prop) fun I=>Exx (Nat->Nat) fun m=>(Exx Nat fun t=>I t/\(q1/\q7/\q9/\Tr 9 (q11/\q13/\Tr 1 (0=(t:Int))/\Tr 20 True))/\devB x.1=devB (putW x.1 q3 (List.take t q4))/\true=true/\True)/\∀(t:Nat),
 let q17:Int:=(t:Int)+1; I t->BC (decide ((t:Int)<q12)) (((0:Int) <= (t:Int)/\(t:Int)<q12)/\I64 q14/\I64 q15/\I64 (q15+(t:Int))/\Exx (List Nat×Int×Nat) fun x_1 =>
 let q18:Int:=zc9 x_1.1 x_1.2.1;
 let q19:Prop:=q18=(0:Int);
 let q20:Ob:=devB (zkK x_1.1 x_1.2.1 x_1.2.2); ((q1/\Tr 1 (q15+(t:Int)=x_1.2.1)/\Tr 1 ((↑(q4.getD (t:Int).toNat 0):Int)=(x_1.2.2:Int))/\True)/\true=true/\devB (putW x.1 q3 (List.take t q4))=devB x_1.1/\True)/\(DevW x_1.1/\I64 x_1.2.1/\U64 x_1.2.2)/\∀(y:Unit),True->BC (!decide q19) (Exx Unit fun y=>((Tr 1 q19/\True)/\q20=q16/\true=true/\True)/\True) (I64 q17/\Exx Nat fun t'=>(I t'/\m t'<m t)/\(q1/\q7/\q9/\Tr 9 (q11/\q13/\Tr 1 (q17=(↑t':Int))/\Tr 20 True))/\q20=devB (putW x.1 q3 (List.take t' q4))/\true=true/\True)) (Exx (List Nat×Int) fun x_1=>((q1/\Tr 1 (q6=x_1.2)/\True)/\true=true/\devB (putW x.1 q3 (List.take t q4))=devB x_1.1/\True)/\(DevW x_1.1/\I64 x_1.2)/\∀(y:Unit),True->Exx Unit fun y=>((Tr 1 (mayErr x_1.2 (↑(x_1.1.length / 8):Int)=(0:Int))/\True)/\devB x_1.1=q16/\true=true/\True)/\True))=(fnVC tb [(155,zaA zrU),(156,zaA zrY)] Tryz.f117 zk2 (fun x=>{ loops:=[(2,zx2 x)] }) (fun _=>none)):=by kernel_rfl

theorem zvF:SpecOk Tryz.prog 117 (zaA zk2):=by
 refine zaK zaM zaL (SPok.cons qcI (SPok.cons qcK SPok.nil)) Tryz.func117 (by decide) (zn6 fun _=>rfl) (Eq.mp qa9 ?_)
 simp (maxSteps:=10000000) only [std,stdU,stdV,Exx,I64,Nat.reduceMul,Nat.reduceDiv,Nat.reduceAdd,Int.reduceToNat,zaQ]
 rintro ws ln f q ⟨h,hr,hl,hq⟩
 have hlen:=h.1
 refine ⟨fun t=>t <= q.length,⟨0,by omega,rfl,by rw [List.take_zero,qpF]⟩,fun t=>q.length-t,fun t ht=>⟨fun hlt=>?_,fun hge=>?_⟩⟩
 ·have hw:DevW (putW ws (ln*8+f) (q.take t)):=qjT h fun w hw=>hq w (List.mem_of_mem_take hw)
  have hn:(ln:Int)*8+(f:Int)+(t:Int)=((ln*8+f+t:Nat):Int):=by omega
  have he:zc9 (putW ws (ln*8+f) (q.take t)) ((ln:Int)*8+(f:Int)+(t:Int))=0:=by rw [zc9,mayErr,zb8,if_pos (by omega)]
  have hs:zkK (putW ws (ln*8+f) (q.take t)) ((ln:Int)*8+(f:Int)+(t:Int)) (q.getD t 0)=putW ws (ln*8+f) (q.take (t+1)):=by
   rw [zkK,if_pos (by omega),hn,Int.toNat_natCast]
   exact qjS (by omega) (by omega)
  exact ⟨by omega,by omega,by omega,by omega,by omega,by omega,by omega,by omega,hw,by omega,by omega,getD_mem (p:=U64) hq (by unfold U64; omega) t,fun g=>absurd he g,fun _=>⟨by omega,by omega,t+1,by omega,by simp only; omega,by omega,hs⟩⟩
 ·rw [show t=q.length by omega,List.take_length]
  exact ⟨qjT h hq,by omega,by omega,by rw [mayErr,if_pos (by rw [zb8]; unfold za2 at hl; omega)],rfl⟩

theorem zsY {b:List Nat} (h:∀x∈b,x<256):∀w∈zbZ b,U64 w:=fun w hw=>by
 obtain ⟨i,_,rfl⟩:=List.mem_map.1 hw
 have h1:∀c∈(b.drop (8*i)).take 8,c<256:=fun c hc=>h c (List.mem_of_mem_drop (List.mem_of_mem_take hc))
 have:=zk5 _ h1
 have h2:((b.drop (8*i)).take 8).length <= 8:=by rw [List.length_take]; omega
 have h3:256 ^ ((b.drop (8*i)).take 8).length <= 256 ^ 8:=Nat.pow_le_pow_right (by decide) h2
 unfold U64; omega
def zeE (ws:List Nat) (a:Int) (b:List Nat):List Nat:=if zdZ ws a/\b.length=64 then putW ws (8*a.toNat) (zbZ b) else ws
def zd8 (ws:List Nat) (a:Int) (b:List Nat):Int:=if zdZ ws a/\b.length=64 then 0 else 2
def zk1:Ctr:=zwC (Int×List Nat) (fun x=>I64 x.2.1/\Oct x.2.2) (fun x=>[i64 x.2.1,octA x.2.2]) (fun x=>zeE x.1 x.2.1 x.2.2) (fun x=>i64 (zd8 x.1 x.2.1 x.2.2))

theorem qa8:(
 let q1:Prop:=true=true/\zaC/\0=0; ∀(x:List Nat×Int×List Nat),
 let q2:Int:=zd8 x.1 x.2.1 x.2.2;
 let q3:Ob:=devB (zeE x.1 x.2.1 x.2.2);
 let q4:Int:=(x.2.2.length:Int); DevW x.1/\I64 x.2.1/\Oct x.2.2->Exx (List Nat×Int) fun x_1=>((q1/\Tr 1 (x.2.1=x_1.2)/\True)/\true=true/\devB x.1=devB x_1.1/\True)/\(DevW x_1.1/\I64 x_1.2)/\∀(y:Unit),True->BC (!decide (za3 x_1.1 x_1.2=(0:Int))) (Exx Unit fun y=>((Tr 1 (za3 x_1.1 x_1.2=q2)/\True)/\devB x_1.1=q3/\true=true/\True)/\True) (BC (!decide (q4=(64:Int))) (Exx Unit fun y=>((Tr 1 ((2:Int)=q2)/\True)/\devB x_1.1=q3/\true=true/\True)/\True) (Exx (List Nat) fun x_2=>(((x.2.2.length=x_2.length/\∀(i:Nat),i<x_2.length->[AV.int .u8 (↑(x.2.2.getD i 0):Int)]=[AV.int .u8 (↑(x_2.getD i 0):Int)])/\True)/\true=true/\True)/\Oct x_2/\∀(y:Nat),(zbZ x_2).length <= y->Exx (List Nat×Nat×Nat×List Nat) fun x_3 =>
 let q5:Nat:=x_3.2.2.1;
 let q6:List Nat:=x_3.2.2.2;
 let q7:Nat:=q6.length;
 let q8:Nat:=x_3.2.1*8+q5; ((q1/\Tr 1 (x.2.1=(x_3.2.1:Int))/\Tr 1 (0=(q5:Int))/\(0+(zbZ x_2).length <= (zbZ x_2).length/\(zbZ x_2).length=q7/\∀(i:Nat),i<q7->[AV.int .u64 (↑((zbZ x_2).getD (0+i) 0):Int)]=[AV.int .u64 (↑(q6.getD i 0):Int)])/\True)/\true=true/\devB x_1.1=devB x_3.1/\True)/\(DevW x_3.1/\q8+q7 <= x_3.1.length/\x_3.2.1<za2 x_3.1/\∀(w:Nat),w∈q6->U64 w)/\∀(y:Unit),True->Exx Unit fun y=>((Tr 1 ((0:Int)=q2)/\True)/\devB (putW x_3.1 q8 q6)=q3/\true=true/\True)/\True)))=(fnVC tb [(116,zaA zl6),(117,zaA zk2),(118,zaA qhU)] Tryz.f81 zk1 (fun _=>{}) (fun _=>none)):=by kernel_rfl

theorem zvE:SpecOk Tryz.prog 81 (zaA zk1):=by
 refine zaK zaM zaL (SPok.cons zqS (SPok.cons zvF (SPok.cons qn5 SPok.nil))) Tryz.func81 (by decide) (zn6 fun _=>rfl) (Eq.mp qa8 ?_)
 simp (maxSteps:=10000000) only [std,stdU,stdV,Exx,I64,Nat.reduceMul,Nat.reduceDiv,Nat.reduceAdd,Int.reduceToNat,zaQ]
 rintro ws a b ⟨h,h1,h2,hb⟩
 have hlen:=h.1
 refine ⟨h,h1,h2,fun hne=>?_,fun hz=>⟨fun hb2=>?_,fun hb2=>⟨hb,fun y hy=>?_⟩⟩⟩
 ·have hn:¬zdZ ws a:=fun k=>hne (zcH.2 k)
  rw [zd8,if_neg (fun k=>hn k.1),zeE,if_neg (fun k=>hn k.1),za3,mayErr,if_neg (show ¬(0 <= a/\a<(za2 ws:Int)) from hn)]
  exact ⟨rfl,rfl⟩
 ·rw [zd8,if_neg (fun k=>hb2 (by rw [k.2]; rfl)),zeE,if_neg (fun k=>hb2 (by rw [k.2]; rfl))]
  exact ⟨rfl,rfl⟩
 ·have hin:=zcH.1 hz
  have hl:=hin
  unfold zdZ za2 at hl
  have hb3:b.length=64:=by omega
  have hwl:=zeO b
  refine ⟨ws,a.toNat,by omega,0,rfl,rfl,h,by omega,by unfold za2; omega,zsY hb.1,by rw [zd8,if_pos ⟨hin,hb3⟩],?_⟩
  rw [zeE,if_pos ⟨hin,hb3⟩,Nat.add_zero,Nat.mul_comm]

def zaV (ws:List Nat) (a:Int):List Nat:=if zdZ ws a then zaD (zhI ws a.toNat) else []
def zj1:Ctr where
 X:=List Nat×Int
 Y:=Nat
 conv:=true
 tau:=zgC
 pre:=fun x=>DevW x.1/\I64 x.2
 args:=fun x=>[.ptr 0 [] 0,i64 x.2]
 heap:=fun x=>[devI x.1]
 Q:=fun x cap=>(zaV x.1 x.2).length <= cap
 res:=fun x cap => .tup [.sl 2 [] 0 1 0 (zaV x.1 x.2).length cap,i64 (za3 x.1 x.2)]
 its:=fun x _=>[devI x.1]
 new:=fun x cap=>[rowN 5 .u8 cap (zaV x.1 x.2)]
theorem zvG:CtrOk zj1 :=
 ⟨fun _ _ _ _=>(rfl:1=1),fun _ _ _ _=>⟨rfl,rfl⟩,fun x _ _ _ _=>⟨⟨⟨trivial,trivial⟩,⟨⟨fun _ _=>⟨rfl,trivial⟩,trivial⟩,trivial⟩⟩,rfl,rfl,trivial⟩⟩
def qbA (x:List Nat×Int):LA:={ T:=Nat,F:=fun i=>frm 38 [(0,.ptr 0 [] 0),(1,i64 x.2),(7,.ptr 2 [] 0),(17,i64 (i:Nat))],H:=fun i=>[devI x.1,.fence,.cells 261 [.arr 1 8 (fun j=>[u64 (if j<i then (zhI x.1 x.2.toNat).getD j 0 else 0)])]] }
def tupSl2 (av:AV):Option Ren:=match av with
 | .tup (.sl q _ _ _ _ _ _ :: _)=>some [some 0,some 1,some q]
 | _=>some [some 0,some 1,none]

theorem qgD:(
 let q1:Prop:=true=true/\zaC/\0=0;
 let q2:Nat:=8-0; ∀(x:List Nat×Int),
 let q3:Prop:=(zaV x.1 x.2).length=0;
 let q4:Int:=x.2*8; DevW x.1/\I64 x.2->Exx (List Nat×Int) fun x_1=>((q1/\Tr 1 (x.2=x_1.2)/\True)/\true=true/\devB x.1=devB x_1.1/\True)/\(DevW x_1.1/\I64 x_1.2)/\∀(y:Unit),True->BC (!decide (za3 x_1.1 x_1.2=(0:Int))) (Exx Nat fun y=>((((q3/\y=0)/\Tr 1 (za3 x_1.1 x_1.2=za3 x.1 x.2)/\True)/\True)/\devB x_1.1=devB x.1/\true=true/\(y=0/\q3)/\True)/\(zaV x.1 x.2).length <= y) (Exx (Nat->Prop) fun I=>Exx (Nat->Nat) fun m=>(Exx Nat fun t=>I t/\(q1/\Tr 1 (x.2=x.2)/\Tr 5 (q1/\Tr 9 (Tr 1 (0=(t:Int))/\Tr 20 True)))/\devB x_1.1=devB x.1/\true=true/\(261=(261:TypeId)/\1=1/\8=8/\(∀(i:Nat),i<8->[AV.int .u64 0]=[AV.int .u64 (↑(if i<t then (zhI x.1 x.2.toNat).getD i 0 else 0):Int)])/\True)/\True)/\∀(t:Nat),
 let q5:Int:=(t:Int)+1; I t->BC (decide ((t:Int)<(8:Int))) (I64 q4/\I64 (q4+(t:Int))/\Exx (List Nat×Int) fun x_2=>((q1/\Tr 1 (q4+(t:Int)=x_2.2)/\True)/\true=true/\devB x.1=devB x_2.1/\True)/\(DevW x_2.1/\I64 x_2.2)/\∀(y:Unit),True->BC (!decide (zc9 x_2.1 x_2.2=(0:Int))) (Exx Nat fun y=>((((q3/\y=0)/\Tr 1 (zc9 x_2.1 x_2.2=za3 x.1 x.2)/\True)/\True)/\devB x_2.1=devB x.1/\true=true/\(y=0/\q3)/\True)/\(zaV x.1 x.2).length <= y) (((0:Int) <= (t:Int)/\(t:Int)<(↑(8:Nat):Int))/\(t:Int).toNat<8/\I64 q5/\Exx Nat fun t'=>(I t'/\m t'<m t)/\(q1/\Tr 1 (x.2=x.2)/\Tr 5 (q1/\Tr 9 (Tr 1 (q5=(↑t':Int))/\Tr 20 True)))/\devB x_2.1=devB x.1/\true=true/\((261:TypeId)=261/\1=1/\8=8/\(∀(i:Nat),
 let q6:Nat:=(zhI x.1 x.2.toNat).getD i 0; i<8->[AV.int .u64 (if i=(t:Int).toNat then (↑(if (0:Int) <= x_2.2 then x_2.1.getD x_2.2.toNat 0 else 0):Int) else (↑(if i<t then q6 else 0):Int))]=[AV.int .u64 (↑(if i<t' then q6 else 0):Int)])/\True)/\True)) ((0 <= 8/\8 <= 8)/\Exx (List Nat) fun x_2=>(((0+q2 <= 8/\q2=x_2.length/\∀(i:Nat),
 let q7:Nat:=0+i; i<x_2.length->[AV.int .u64 (↑(if q7<t then (zhI x.1 x.2.toNat).getD q7 0 else 0):Int)]=[AV.int .u64 (↑(x_2.getD i 0):Int)])/\True)/\true=true/\True)/\((∀(w:Nat),w∈x_2->U64 w)/\x_2.length <= 1000000)/\∀(y:Nat),(zaD x_2).length <= y->Exx Nat fun y_1=>((((true=true/\zaC/\0=0/\1=1/\0=0/\(zaD x_2).length=(zaV x.1 x.2).length/\y=y_1)/\Tr 1 ((0:Int)=za3 x.1 x.2)/\True)/\True)/\devB x.1=devB x.1/\true=true/\((5:TypeId)=5/\1=1/\y=y_1/\(zaV x.1 x.2).length <= (zaD x_2).length/\∀(i:Nat),i<(zaV x.1 x.2).length->[AV.int .u8 (↑((zaD x_2).getD i 0):Int)]=[AV.int .u8 (↑((zaV x.1 x.2).getD i 0):Int)])/\True)/\(zaV x.1 x.2).length <= y_1)))=(zcA tb [(116,zaA zl6),(128,zaA zq0),(159,zaA zwE)] Tryz.f120 zj1 (fun x=>{ loops:=[(6,qbA x)] }) (fun _ av _=>tupSl2 av) (fun _=>[]) (fun _ _ _ _=>[])):=by kernel_rfl

theorem zx3:SpecOk Tryz.prog 120 (zaA zj1):=by
 refine za0 zaM zaL (SPok.cons zqS (SPok.cons zqZ (SPok.cons qhB SPok.nil))) Tryz.func120 (by decide) zvG (Eq.mp qgD ?_)
 simp (maxSteps:=10000000) only [std,stdU,stdV,Exx,I64,Nat.reduceMul,Nat.reduceDiv,Nat.reduceAdd,Int.reduceToNat,zaQ]
 rintro ws a ⟨h,h1,h2⟩
 have hlen:=h.1
 refine ⟨h,h1,h2,fun hne=>?_,fun hz=>?_⟩
 ·have:zaV ws a=[]:=by rw [zaV,if_neg (fun k=>hne (zcH.2 k))]
  rw [this]; exact ⟨rfl,rfl,Nat.le_refl _⟩
 have hin:=zcH.1 hz
 have hl:=hin
 unfold zdZ za2 at hl
 have hL:zaV ws a=zaD (zhI ws a.toNat):=by rw [zaV,if_pos hin]
 have hW:(zhI ws a.toNat).length=8:=by rw [zhI,List.length_take,List.length_drop]; omega
 have hg:∀t,t<8->(zhI ws a.toNat).getD t 0=ws.getD (8*a.toNat+t) 0:=fun t ht=>by rw [zhI,za9,if_pos ht,za4]
 refine ⟨fun t=>t <= 8,⟨0,by omega,rfl,fun i _=>by simp⟩,fun t=>8-t,fun t ht=>⟨fun hlt=>?_,fun hge=>?_⟩⟩
 ·have he:zc9 ws (a*8+(t:Int))=0:=by rw [zc9,mayErr,if_pos (by omega)]
  refine ⟨by omega,by omega,by omega,by omega,h,by omega,by omega,fun g=>absurd he g,fun _=>⟨by omega,by omega,by omega,by omega,by omega,t+1,by omega,by simp only; omega,by omega,fun i hi=>?_⟩⟩
  by_cases e:i=t
  ·subst e
   rw [if_pos rfl,if_pos (by omega),if_pos (by omega),hg i hi,show (a*8+(i:Int)).toNat=8*a.toNat+i by omega]
  ·rw [if_neg e]
   by_cases e2:i<t
   ·rw [if_pos e2,if_pos (by omega)]
   ·rw [if_neg e2,if_neg (by omega)]
 ·refine ⟨by omega,zhI ws a.toNat,hW.symm,fun i hi=>by rw [if_pos (by omega)],fun w hw=>h.2 w (List.mem_of_mem_drop (List.mem_of_mem_take hw)),by omega,fun y hy=>?_⟩
  rw [hL]
  exact ⟨rfl,hz.symm,Nat.le_refl _,fun _ _=>rfl,hy⟩


structure StoreT where
 ws:List Nat
 a:AllocT
def zaG (s:StoreT):Prop:=DevW s.ws/\zbD s.a
abbrev zs1 (d a:Nat):Sx.Item := .cells 107 [.ptr d [] 0,.ptr a [] 0]
abbrev zeA (s:StoreT):AH:=[zs1 1 2,devI s.ws,zfG s.a]
def zo3 (args:List AV) (H:AH):List Nat:=match args with
 | .ptr p _ _ :: _=>match H[p]? with
   | some (.cells _ (.ptr d _ _ :: .ptr a _ _ :: _))=>[p,d,a]
   | _=>[p]
 | _=>[]
theorem zuN (s:StoreT):plH (zeA s):=⟨⟨rfl,rfl,trivial⟩,trivial,trivial,trivial⟩
theorem qiB {x:AllocT} (h:zbD x) (r:Int):zbD (za7 x r):=by
 unfold za7
 split
 ·exact h
 ·exact ⟨h.1,h.2.1,h.2.2.1,h.2.2.2.1,h.2.2.2.2.1,qnC h.2.2.2.2.2⟩
theorem zv1 {x:AllocT} (h:zbD x) (a:Int):zbD (zg1 x a):=⟨h.1,h.2.1,h.2.2.1,h.2.2.2.1,h.2.2.2.2.1,qeR h.2.2.2.2.2⟩
theorem qn4 {ws:List Nat} (h:DevW ws) (a:Int) {b:List Nat} (hb:Oct b):DevW (zeE ws a b):=by
 unfold zeE
 split
 ·exact qjT h (zsY hb.1)
 ·exact h
theorem zm5 {x:AllocT} (h:zbD x) (r:Int):I64 (zeR x r):=by
 unfold zeR
 split
 ·exact ⟨by omega,by omega⟩
 ·exact zv3 ⟨h.1,qb3 h⟩ 0

def zg8:Ctr where
 X:=StoreT×Int
 Y:=Nat
 conv:=true
 tau:=zo3
 pre:=fun x=>zaG x.1/\I64 x.2
 args:=fun x=>[.ptr 0 [] 0,i64 x.2]
 heap:=fun x=>zeA x.1
 Q:=fun x cap=>(zaV x.1.ws x.2).length <= cap
 res:=fun x cap => .tup [.sl 4 [] 0 1 0 (zaV x.1.ws x.2).length cap,i64 (za3 x.1.ws x.2)]
 its:=fun x _=>zeA x.1
 new:=fun x cap=>[rowN 5 .u8 cap (zaV x.1.ws x.2)]
theorem zw9:CtrOk zg8 :=
 ⟨fun _ _ _ _=>(rfl:3=3),fun _ _ _ _=>⟨rfl,rfl⟩,fun x _ _ _ _=>⟨⟨zuN _,⟨⟨fun _ _=>⟨rfl,trivial⟩,trivial⟩,trivial⟩⟩,rfl,rfl,trivial⟩⟩
def tupSl4 (av:AV):Option Ren:=match av with
 | .tup (.sl q _ _ _ _ _ _ :: _)=>some [some 0,some 1,some 2,some 3,some q]
 | _=>some [some 0,some 1,some 2,some 3,none]

theorem qiM:(
 let q1:Prop:=true=true/\zaC/\0=0; ∀(x:StoreT×Int),zaG x.1/\I64 x.2->Exx (List Nat×Int) fun x_1=>((q1/\Tr 1 (x.2=x_1.2)/\True)/\true=true/\devB x.1.ws=devB x_1.1/\True)/\(DevW x_1.1/\I64 x_1.2)/\∀(y:Nat),(zaV x_1.1 x_1.2).length <= y->Exx Nat fun y_1=>((((true=true/\zaC/\0=0/\1=1/\0=0/\(zaV x_1.1 x_1.2).length=(zaV x.1.ws x.2).length/\y=y_1)/\Tr 1 (za3 x_1.1 x_1.2=za3 x.1.ws x.2)/\True)/\True)/\((107:TypeId)=107/\q1/\q1/\True)/\devB x_1.1=devB x.1.ws/\zaB x.1.a=zaB x.1.a/\true=true/\((5:TypeId)=5/\1=1/\y=y_1/\(zaV x.1.ws x.2).length <= (zaV x_1.1 x_1.2).length/\∀(i:Nat),i<(zaV x.1.ws x.2).length->[AV.int .u8 (↑((zaV x_1.1 x_1.2).getD i 0):Int)]=[AV.int .u8 (↑((zaV x.1.ws x.2).getD i 0):Int)])/\True)/\(zaV x.1.ws x.2).length <= y_1)=(zcA tb [(120,zaA zj1)] Tryz.f85 zg8 (fun _=>{}) (fun _ av _=>tupSl4 av) (fun _=>[]) (fun _ _ _ _=>[])):=by kernel_rfl

theorem zkT:SpecOk Tryz.prog 85 (zaA zg8):=by
 refine za0 zaM zaL (SPok.cons zx3 SPok.nil) Tryz.func85 (by decide) zw9 (Eq.mp qiM ?_)
 simp (maxSteps:=10000000) only [std,stdU,stdV,Exx,I64,Nat.reduceMul,Nat.reduceDiv,Nat.reduceAdd,Int.reduceToNat,zaQ,zaI]
 exact fun s a ⟨h,h1,h2⟩=>⟨h.1,h1,h2,fun y hy=>hy⟩

def za5 (Y:Type) (pre:StoreT×Y->Prop) (args:StoreT×Y->List AV) (g:StoreT×Y->StoreT) (res:StoreT×Y->AV):Ctr where
 X:=StoreT×Y
 Y:=Unit
 conv:=true
 tau:=zo3
 pre:=fun x=>zaG x.1/\pre x
 args:=fun x => .ptr 0 [] 0 :: args x
 heap:=fun x=>zeA x.1
 Q:=fun _ _=>True
 res:=fun x _=>res x
 its:=fun x _=>zeA (g x)
 new:=fun _ _=>[]
theorem zaR {Y:Type} {pre:StoreT×Y->Prop} {args:StoreT×Y->List AV} {g:StoreT×Y->StoreT} {res:StoreT×Y->AV} (h:∀x,plV 2 (res x)):CtrOk (za5 Y pre args g res) :=
 ⟨fun _ _ _ _=>(rfl:3=3),fun _ _ _ _=>⟨rfl,rfl⟩,fun x _ _ _ _=>⟨⟨zuN _,trivial⟩,h x⟩⟩

structure Wr where
 s:StoreT
 at_:Int
 e:Int
def zcO (s:StoreT) (a:Int) (b:List Nat):Wr:={ s:={ s with ws:=zeE s.ws a b },at_:=if zd8 s.ws a b=0 then a else 0,e:=zd8 s.ws a b }
def makeR (s:StoreT) (b:List Nat):Wr :=
 if b.length=64 then if zcJ s.a s.a.r=0 then zcO { s with a:=za7 s.a s.a.r } (zeR s.a s.a.r) b else { s:={ s with a:=za7 s.a s.a.r },at_:=0,e:=zcJ s.a s.a.r }
 else { s:=s,at_:=0,e:=2 }
def ownB (x:AllocT) (a:Int):Bool:=hasN (x.n,x.w) a && !hasN (x.n,x.m) a
def ziG (s:StoreT) (a:Int) (b:List Nat):Wr :=
 if b.length=64/\hasN (s.a.n,s.a.w) a=true then
  if ownB s.a a=true then zcO s a b
  else if (makeR s b).e=0 then { s:={ (makeR s b).s with a:=zg1 (makeR s b).s.a a },at_:=(makeR s b).at_,e:=zc2 (makeR s b).s.a a }
  else { s:=(makeR s b).s,at_:=0,e:=(makeR s b).e }
 else { s:=s,at_:=0,e:=2 }
theorem zmZ {s:StoreT} (h:zaG s) (a:Int) {b:List Nat} (hb:Oct b):zaG (zcO s a b).s:=⟨qn4 h.1 a hb,h.2⟩
theorem znT {s:StoreT} (h:zaG s) {b:List Nat} (hb:Oct b):zaG (makeR s b).s:=by
 have ht:zaG { s with a:=za7 s.a s.a.r }:=⟨h.1,qiB h.2 _⟩
 unfold makeR
 split
 ·split
  ·exact zmZ ht _ hb
  ·exact ht
 ·exact h
theorem zz4 {s:StoreT} (h:zaG s) (a:Int) {b:List Nat} (hb:Oct b):zaG (ziG s a b).s:=by
 have hm:=znT h hb
 unfold ziG
 split
 ·split
  ·exact zmZ h _ hb
  ·split
   ·exact ⟨hm.1,zv1 hm.2 _⟩
   ·exact hm
 ·exact h
def wrA (r:Wr):AV := .tup [i64 r.at_,i64 r.e]
def zo1:Ctr:=za5 (Int×List Nat) (fun x=>I64 x.2.1/\Oct x.2.2) (fun x=>[i64 x.2.1,octA x.2.2]) (fun x=>(zcO x.1 x.2.1 x.2.2).s) (fun x=>wrA (zcO x.1 x.2.1 x.2.2))

theorem qn3:(
 let q1:Prop:=true=true/\zaC/\0=0; ∀(x:StoreT×Int×List Nat),
 let q2:Wr:=zcO x.1 x.2.1 x.2.2;
 let q3:Int:=q2.at_;
 let q4:Int:=q2.e;
 let q5:StoreT:=q2.s; zaG x.1/\I64 x.2.1/\Oct x.2.2->Exx (List Nat×Int×List Nat) fun x_1 =>
 let q6:Int:=zd8 x_1.1 x_1.2.1 x_1.2.2;
 let q7:Prop:=((107:TypeId)=107/\q1/\q1/\True)/\devB (zeE x_1.1 x_1.2.1 x_1.2.2)=devB q5.ws/\zaB x.1.a=zaB q5.a/\true=true/\True; ((q1/\Tr 1 (x.2.1=x_1.2.1)/\(x.2.2.length=x_1.2.2.length/\∀(i:Nat),i<x_1.2.2.length->[AV.int .u8 (↑(x.2.2.getD i 0):Int)]=[AV.int .u8 (↑(x_1.2.2.getD i 0):Int)])/\True)/\true=true/\devB x.1.ws=devB x_1.1/\True)/\(DevW x_1.1/\I64 x_1.2.1/\Oct x_1.2.2)/\∀(y:Unit),True->BC (!decide (q6=(0:Int))) (Exx Unit fun y=>(((Tr 1 ((0:Int)=q3)/\Tr 1 (q6=q4)/\True)/\True)/\q7)/\True) (Exx Unit fun y=>(((Tr 1 (x.2.1=q3)/\Tr 1 ((0:Int)=q4)/\True)/\True)/\q7)/\True))=(fnVC tb [(81,zaA zk1)] Tryz.f47 zo1 (fun _=>{}) (fun _=>none)):=by kernel_rfl

theorem zsW:SpecOk Tryz.prog 47 (zaA zo1):=by
 refine zaK zaM zaL (SPok.cons zvE SPok.nil) Tryz.func47 (by decide) (zaR fun _=>⟨rfl,rfl,trivial⟩) (Eq.mp qn3 ?_)
 simp (maxSteps:=10000000) only [std,stdU,stdV,Exx,I64,Nat.reduceMul,Nat.reduceDiv,Nat.reduceAdd,Int.reduceToNat,zaQ,zaI]
 rintro s a b ⟨h,h1,h2,hb⟩
 refine ⟨h.1,h1,h2,hb,fun hne=>⟨by rw [zcO]; simp only; rw [if_neg hne],rfl,rfl,rfl⟩,fun hz=>⟨by rw [zcO]; simp only; rw [if_pos hz],by rw [zcO]; exact hz.symm,rfl,rfl⟩⟩

def zg7:Ctr:=za5 (List Nat) (fun x=>Oct x.2) (fun x=>[octA x.2]) (fun x=>(makeR x.1 x.2).s) (fun x=>wrA (makeR x.1 x.2))

theorem qfH:(
 let q1:Prop:=true=true/\zaC/\0=0;
 let q2:Prop:=q1/\True;
 let q3:Prop:=(107:TypeId)=107/\q1/\q2; ∀(x:StoreT×List Nat),
 let q4:Prop:=Tr 1 ((0:Int)=(makeR x.1 x.2).at_);
 let q5:Prop:=devB x.1.ws=devB (makeR x.1 x.2).s.ws; zaG x.1/\Oct x.2->BC (!decide ((x.2.length:Int)=(64:Int))) (Exx Unit fun y=>(((q4/\Tr 1 ((2:Int)=(makeR x.1 x.2).e)/\True)/\True)/\q3/\q5/\zaB x.1.a=zaB (makeR x.1 x.2).s.a/\true=true/\True)/\True) (Exx (AllocT×Unit) fun x_1=>(q2/\true=true/\zaB x.1.a=zaB x_1.1/\True)/\(zbD x_1.1/\True)/\∀(y:Unit),True->BC (!decide (zcJ x_1.1 x_1.1.r=(0:Int))) (Exx Unit fun y=>(((q4/\Tr 1 (zcJ x_1.1 x_1.1.r=(makeR x.1 x.2).e)/\True)/\True)/\q3/\q5/\zaB (za7 x_1.1 x_1.1.r)=zaB (makeR x.1 x.2).s.a/\true=true/\True)/\True) (Exx (StoreT×Int×List Nat) fun x_2 =>
 let q6:Wr:=zcO x_2.1 x_2.2.1 x_2.2.2;
 let q7:StoreT:=q6.s; ((q1/\Tr 1 (zeR x_1.1 x_1.1.r=x_2.2.1)/\(x.2.length=x_2.2.2.length/\∀(i:Nat),i<x_2.2.2.length->[AV.int .u8 (↑(x.2.getD i 0):Int)]=[AV.int .u8 (↑(x_2.2.2.getD i 0):Int)])/\True)/\true=true/\q3/\devB x.1.ws=devB x_2.1.ws/\zaB (za7 x_1.1 x_1.1.r)=zaB x_2.1.a/\True)/\(zaG x_2.1/\I64 x_2.2.1/\Oct x_2.2.2)/\∀(y:Unit),True->Exx Unit fun y=>(((Tr 1 (q6.at_=(makeR x.1 x.2).at_)/\Tr 1 (q6.e=(makeR x.1 x.2).e)/\True)/\True)/\q3/\devB q7.ws=devB (makeR x.1 x.2).s.ws/\zaB q7.a=zaB (makeR x.1 x.2).s.a/\true=true/\True)/\True)))=(fnVC tb [(46,zaA zoB),(47,zaA zo1)] Tryz.f16 zg7 (fun _=>{}) (fun _=>none)):=by kernel_rfl

theorem ziK:SpecOk Tryz.prog 16 (zaA zg7):=by
 refine zaK zaM zaL (SPok.cons zzU (SPok.cons zsW SPok.nil)) Tryz.func16 (by decide) (zaR fun _=>⟨rfl,rfl,trivial⟩) (Eq.mp qfH ?_)
 simp (maxSteps:=10000000) only [std,stdU,stdV,Exx,I64,Nat.reduceMul,Nat.reduceDiv,Nat.reduceAdd,Int.reduceToNat,zaQ,zaI]
 rintro s b ⟨h,hb⟩
 refine ⟨fun hne=>?_,fun h64=>⟨h.2,fun hne=>?_,fun hz=>⟨{ s with a:=za7 s.a s.a.r },rfl,rfl,⟨h.1,qiB h.2 _⟩,(zm5 h.2 _).1,(zm5 h.2 _).2,hb,?_⟩⟩⟩
 ·rw [makeR,if_neg (fun k=>hne (by rw [k]; rfl))]; exact ⟨rfl,rfl,rfl,rfl⟩
 ·rw [makeR,if_pos (by omega),if_neg hne]; exact ⟨rfl,rfl,rfl,rfl⟩
 ·rw [makeR,if_pos (by omega),if_pos hz]; exact ⟨rfl,rfl,rfl,rfl⟩

def zjO:Ctr:=za5 (Int×List Nat) (fun x=>I64 x.2.1/\Oct x.2.2) (fun x=>[i64 x.2.1,octA x.2.2]) (fun x=>(ziG x.1 x.2.1 x.2.2).s) (fun x=>wrA (ziG x.1 x.2.1 x.2.2))

theorem qfG:(
 let q1:Prop:=true=true/\zaC/\0=0;
 let q2:Prop:=q1/\True;
 let q3:Prop:=(107:TypeId)=107/\q1/\q2; ∀(x:StoreT×Int×List Nat),
 let q4:Int:=(x.2.2.length:Int);
 let q5:Wr:=ziG x.1 x.2.1 x.2.2;
 let q6:Int:=q5.at_;
 let q7:Prop:=Tr 1 ((0:Int)=q6);
 let q8:Int:=q5.e;
 let q9:Prop:=(q7/\Tr 1 ((2:Int)=q8)/\True)/\True;
 let q10:StoreT:=q5.s;
 let q11:Ob:=devB q10.ws;
 let q12:Prop:=devB x.1.ws=q11;
 let q13:Ob:=zaB q10.a; zaG x.1/\I64 x.2.1/\Oct x.2.2->BC (!decide (q4=(64:Int))) (Exx Unit fun y=>(q9/\q3/\q12/\zaB x.1.a=q13/\true=true/\True)/\True) (Exx AllocT fun x_1=>(q2/\true=true/\zaB x.1.a=zaB x_1/\True)/\zbD x_1/\∀(y:Unit),True->Exx ((Nat×Nat)×Int) fun x_2=>((q1/\Tr 1 (x.2.1=x_2.2)/\True)/\true=true/\setB (x_1.n,x_1.w)=setB x_2.1/\True)/\(SetW x_2.1/\I64 x_2.2)/\∀(y:Unit),True->BC (!hasN x_2.1 x_2.2) (Exx Unit fun y=>(q9/\q3/\q12/\zaB x_1=q13/\true=true/\True)/\True) (Exx (AllocT×Int) fun x_3=>((q1/\Tr 1 (x.2.1=x_3.2)/\True)/\true=true/\zaB x_1=zaB x_3.1/\True)/\(zbD x_3.1/\I64 x_3.2)/\∀(y:Unit),True->BC (hasN (x_3.1.n,x_3.1.w) x_3.2 && !hasN (x_3.1.n,x_3.1.m) x_3.2) (Exx (StoreT×Int×List Nat) fun x_4 =>
 let q14:Wr:=zcO x_4.1 x_4.2.1 x_4.2.2;
 let q15:StoreT:=q14.s; ((q1/\Tr 1 (x.2.1=x_4.2.1)/\(x.2.2.length=x_4.2.2.length/\∀(i:Nat),i<x_4.2.2.length->[AV.int .u8 (↑(x.2.2.getD i 0):Int)]=[AV.int .u8 (↑(x_4.2.2.getD i 0):Int)])/\True)/\true=true/\q3/\devB x.1.ws=devB x_4.1.ws/\zaB x_3.1=zaB x_4.1.a/\True)/\(zaG x_4.1/\I64 x_4.2.1/\Oct x_4.2.2)/\∀(y:Unit),True->Exx Unit fun y=>(((Tr 1 (q14.at_=q6)/\Tr 1 (q14.e=q8)/\True)/\True)/\q3/\devB q15.ws=q11/\zaB q15.a=q13/\true=true/\True)/\True) (Exx (StoreT×List Nat) fun x_4=>((q1/\(x.2.2.length=x_4.2.length/\∀(i:Nat),i<x_4.2.length->[AV.int .u8 (↑(x.2.2.getD i 0):Int)]=[AV.int .u8 (↑(x_4.2.getD i 0):Int)])/\True)/\true=true/\q3/\devB x.1.ws=devB x_4.1.ws/\zaB x_3.1=zaB x_4.1.a/\True)/\(zaG x_4.1/\Oct x_4.2)/\∀(y:Unit),True->BC (!decide ((makeR x_4.1 x_4.2).e=(0:Int))) (Exx Unit fun y=>(((q7/\Tr 1 ((makeR x_4.1 x_4.2).e=q8)/\True)/\True)/\q3/\devB (makeR x_4.1 x_4.2).s.ws=q11/\zaB (makeR x_4.1 x_4.2).s.a=q13/\true=true/\True)/\True) (Exx (AllocT×Int) fun x_5=>((q1/\Tr 1 (x.2.1=x_5.2)/\True)/\true=true/\zaB (makeR x_4.1 x_4.2).s.a=zaB x_5.1/\True)/\(zbD x_5.1/\I64 x_5.2)/\∀(y:Unit),True->Exx Unit fun y=>(((Tr 1 ((makeR x_4.1 x_4.2).at_=q6)/\Tr 1 (zc2 x_5.1 x_5.2=q8)/\True)/\True)/\q3/\devB (makeR x_4.1 x_4.2).s.ws=q11/\zaB (zg1 x_5.1 x_5.2)=q13/\true=true/\True)/\True)))))=(fnVC tb [(16,zaA zg7),(47,zaA zo1),(60,zaA zwV),(93,zaA zkE),(135,zdF (zaA znA) (zaA zjR)),(166,zaA zsD)] Tryz.f125 zjO (fun _=>{}) (fun _=>none)):=by kernel_rfl

theorem zoI:SpecOk Tryz.prog 125 (zaA zjO):=by
 refine zaK zaM zaL (SPok.cons ziK (SPok.cons zsW (SPok.cons zuG (SPok.cons zoY (SPok.cons (zbR zlQ zjQ) (SPok.cons qcY SPok.nil)))))) Tryz.func125 (by decide) (zaR fun _=>⟨rfl,rfl,trivial⟩) (Eq.mp qfG ?_)
 simp (maxSteps:=10000000) only [std,stdU,stdV,Exx,I64,Nat.reduceMul,Nat.reduceDiv,Nat.reduceAdd,Int.reduceToNat,zaQ,zaI,zaZ]
 rintro s a b ⟨h,h1,h2,hb⟩
 have hs:SetW (s.a.n,s.a.w):=⟨h.2.1,h.2.2.2.2.2.2⟩
 refine ⟨fun hne=>?_,fun h64=>⟨h.2,hs,h1,h2,fun hn=>?_,fun hy=>⟨h.2,h1,h2,fun ho=>⟨s,rfl,rfl,h,h1,h2,hb,?_⟩,fun ho=>⟨s,rfl,rfl,h,hb,fun hne=>?_,fun hz=>⟨(znT h hb).2,h1,h2,?_⟩⟩⟩⟩⟩
 ·rw [ziG,if_neg (fun k=>hne (by rw [k.1]; rfl))]; exact ⟨rfl,rfl,rfl,rfl⟩
 ·rw [ziG,if_neg (fun k=>by rw [k.2] at hn; cases hn)]; exact ⟨rfl,rfl,rfl,rfl⟩
 ·rw [ziG,if_pos ⟨by omega,hy⟩,if_pos (show ownB s.a a=true from ho)]; exact ⟨rfl,rfl,rfl,rfl⟩
 ·rw [ziG,if_pos ⟨by omega,hy⟩,if_neg (fun k=>by rw [ownB,ho] at k; cases k),if_neg hne]; exact ⟨rfl,rfl,rfl,rfl⟩
 ·rw [ziG,if_pos ⟨by omega,hy⟩,if_neg (fun k=>by rw [ownB,ho] at k; cases k),if_pos hz]; exact ⟨rfl,rfl,rfl,rfl⟩

def storeNewI:Ctr2 where
 X:=StoreT
 conv:=true
 tau:=tau2
 pre:=zaG
 args:=fun _=>[.ptr 0 [] 0,.ptr 1 [] 0]
 heap:=fun s=>[devI s.ws,zfG s.a]
 p:=fun s=>s.a.n <= za2 s.ws
 a:={ Y:=Unit,Q:=fun _ _=>True,res:=fun _ _ => .tup [.ptr 3 [] 0,i64 0],its:=fun s _=>[devI s.ws,zfG s.a],new:=fun _ _=>[zs1 0 1] }
 b:={ Y:=Unit,Q:=fun _ _=>True,res:=fun _ _ => .tup [.nilp,i64 2],its:=fun s _=>[devI s.ws,zfG s.a],new:=fun _ _=>[] }
def tupPtr2 (av:AV):Option Ren:=match av with
 | .tup (.ptr q _ _ :: _)=>some [some 0,some 1,some 2,some q]
 | _=>none

theorem qiK:(
 let q1:Prop:=true=true/\zaC/\(0:Nat)=0;
 let q2:Prop:=q1/\True; ∀(x:StoreT),DevW x.ws/\zbD x.a->Exx AllocT fun x_1=>(q2/\true=true/\zaB x.a=zaB x_1/\True)/\zbD x_1/\∀(y:Unit),True->Exx ((Nat×Nat)×Unit) fun x_2=>(q2/\true=true/\setB (x_1.n,x_1.w)=setB x_2.1/\True)/\(SetW x_2.1/\True)/\∀(y:Unit),True->Exx (List Nat×Unit) fun x_3 =>
 let q3:Int:=(↑(x_3.1.length / 8):Int); (q2/\true=true/\devB x.ws=devB x_3.1/\True)/\(DevW x_3.1/\True)/\∀(y:Unit),True->BC (decide (q3<(x_2.1.1:Int))) ((x.a.n.le (za2 x.ws)/\Exx Unit fun y=>(((False/\Tr 1 ((2:Int)=0)/\True)/\True)/\devB x_3.1=devB x.ws/\zaB x_1=zaB x.a/\true=true/\False/\True)/\True)\/¬storeNewI.p x/\Exx Unit fun y=>((Tr 1 (Tr 1 ((2:Int)=2)/\True)/\True)/\devB x_3.1=devB x.ws/\zaB x_1=zaB x.a/\true=true/\True)/\True) ((x.a.n.le (za2 x.ws)/\Exx Unit fun y=>(((q1/\Tr 1 ((0:Int)=0)/\True)/\True)/\devB x_3.1=devB x.ws/\zaB x_1=zaB x.a/\true=true/\((107:Nat)=(107:TypeId)/\q1/\q2)/\True)/\True)\/¬storeNewI.p x/\Exx Unit fun y=>False/\True))=(qg3 tb [(60,zaA zwV),(111,zaA zgN),(113,zdF (zaA zjH) (zaA zhP))] Tryz.f79 storeNewI (fun _=>{}) (fun _ av _=>tupPtr2 av) (fun _=>[]) (fun _ _ _ _=>[]) (fun _ _ _ _=>[])):=by kernel_rfl

theorem zz9:SpecOk Tryz.prog 79 (ziC storeNewI):=by
 refine zuO zaM zaL (SPok.cons zuG (SPok.cons zfT (SPok.cons (zbR zlC zjG) SPok.nil))) Tryz.func79 (by decide) ⟨fun _ _ _ _=>rfl,fun _ _ _ _=>⟨rfl,rfl⟩,fun x _ _ _ _=>⟨⟨⟨trivial,trivial,trivial⟩,⟨⟨rfl,rfl,trivial⟩,trivial⟩⟩,rfl,rfl,trivial⟩⟩ ⟨fun _ _ _ _=>rfl,fun _ _ _ _=>⟨rfl,rfl⟩,fun x _ _ _ _=>⟨⟨⟨trivial,trivial,trivial⟩,trivial⟩,rfl,rfl,trivial⟩⟩ (Eq.mp qiK ?_)
 simp (maxSteps:=10000000) only [std,stdU,stdV,Exx,I64,Nat.reduceMul,Nat.reduceDiv,Nat.reduceAdd,Int.reduceToNat,zaQ,zaI,zaZ]
 rintro s ⟨h1,h2⟩
 have e:za2 s.ws=s.ws.length / 8:=rfl
 refine ⟨h2,⟨h2.1,h2.2.2.2.2.2⟩,h1,fun h k=>?_,fun h=>?_⟩
 ·have k':s.a.n <= za2 s.ws:=k
  omega
 ·show s.a.n <= za2 s.ws
  omega

def zd5 (n:Nat) (r:Int):StoreT:={ ws:=List.replicate (8*n) 0,a:={ n:=n,r:=r,c:=addL n 0 [0,1],e:=0,m:=addL n 0 [0,1],w:=addL n 0 [0,1] } }
def zj5:Ctr where
 X:=Nat×Int
 Y:=Unit
 conv:=true
 tau:=fun _ _=>[]
 pre:=fun x=>x.1 <= 3072/\0 <= x.2/\I64 x.2
 args:=fun x=>[i64 (x.1:Nat),i64 x.2]
 heap:=fun _=>[]
 Q:=fun _ _=>True
 res:=fun _ _ => .tup [.ptr 1 [] 0,.ptr 2 [] 0,.ptr 3 [] 0]
 its:=fun _ _=>[]
 new:=fun x _=>[zs1 2 3,devI (zd5 x.1 x.2).ws,zfG (zd5 x.1 x.2).a]
theorem zvQ:CtrOk zj5 :=
 ⟨fun _ _ _ _=>rfl,fun _ _ _ _=>⟨rfl,rfl⟩,fun x _ _ _ _=>⟨⟨trivial,⟨⟨rfl,rfl,trivial⟩,trivial,trivial,trivial⟩⟩,rfl,rfl,rfl,trivial⟩⟩
def tupPtr3 (av:AV):Option Ren:=match av with
 | .tup (.ptr q _ _ :: .ptr r _ _ :: .ptr s _ _ :: _)=>some [some 0,some q,some r,some s]
 | _=>none

theorem qgM:(
 let q1:Nat:=(TI.mk (TK.int IntKind.i64) 1 8 (ZL.cons (Value.int IntKind.i64 0) ZL.nil) false).size;
 let q2:Prop:=zaC/\(0:Nat)=0;
 let q3:Prop:=true=true/\q2;
 let q4:Prop:=q3/\q3/\True;
 let q5:Prop:=false=true/\q2;
 let q6:Prop:=q5/\True;
 let q7:Prop:=False/\q2;
 let q8:Prop:=q5/\False/\True;
 let q9:Prop:=False/\q6; ∀(x:Nat×Int),x.1 <= 3072/\(0:Int) <= x.2/\I64 x.2->Exx Int fun x_1=>((Tr 1 ((x.1:Int)=x_1)/\True)/\true=true/\True)/\(-9223372036854775808 <= x_1/\x_1 <= (9223372036854775807:Int))/\((0:Int) <= x_1/\x_1 <= (4096:Int)->∀(y:Unit),True->Exx (Int×List Int) fun x_2=>((Tr 1 ((x.1:Int)=x_2.1)/\((0:Nat)+(2:Nat) <= (2:Nat)/\2=x_2.2.length/\∀(i:Nat),
 let q10:Nat:=0+i; i<x_2.2.length->[AV.int .i64 (if q10=1*1 / 1 then 1 else if q10=0*1 / 1 then 0 else 0)]=[AV.int .i64 (x_2.2.getD i 0)])/\True)/\true=true/\True)/\(I64 x_2.1/\Ints x_2.2)/\∀(y:Unit),True->Exx (Int×List Int) fun x_3=>((Tr 1 ((x.1:Int)=x_3.1)/\(0=x_3.2.length/\∀(i:Nat),i<x_3.2.length->[]=[AV.int .i64 (x_3.2.getD i 0)])/\True)/\true=true/\True)/\(I64 x_3.1/\Ints x_3.2)/\∀(y:Unit),True->Exx ((Nat×Nat)×(Nat×Nat)×Int) fun x_4 =>
 let q11:Prop:=true=true/\False/\False/\setB x_4.1=zaB (zd5 x.1 x.2).a/\True; ((q3/\q3/\Tr 1 (x.2=x_4.2.2)/\True)/\true=true/\setB (zcB x_2.1,addL (zcB x_2.1) 0 x_2.2)=setB x_4.1/\setB (zcB x_3.1,addL (zcB x_3.1) 0 x_3.2)=setB x_4.2.1/\True)/\(SetW x_4.1/\SetW x_4.2.1/\I64 x_4.2.2)/\(x_4.1.1=x_4.2.1.1/\(0:Int) <= x_4.2.2->∀(y:Unit),True->Exx StoreT fun x_5=>(q4/\true=true/\devB (List.replicate (8*x_1.toNat) (0:Nat))=devB x_5.ws/\zaB (zc0 x_4)=zaB x_5.a/\True)/\(DevW x_5.ws/\zbD x_5.a)/\(x_5.a.n.le (za2 x_5.ws)->∀(y:Unit),True->Exx Unit fun y=>(((q3/\q4)/\True)/\true=true/\((107:TypeId)=107/\q4)/\devB x_5.ws=devB (zd5 x.1 x.2).ws/\zaB x_5.a=zaB (zd5 x.1 x.2).a/\True)/\True)/\(¬storeNewI.p x_5->∀(y:Unit),True->Exx Unit fun y=>(((False/\q5/\q6)/\True)/\q11)/\True))/\(¬allocNewI.p x_4->∀(y:Unit),True->Exx StoreT fun x=>((q7/\False/\True)/\false=true/\False/\False/\True)/\(DevW x.ws/\zbD x.a)/\(x.a.n.le (za2 x.ws)->∀(y:Unit),True->Exx Unit fun y=>(((q5/\q8)/\True)/\q11)/\True)/\(¬storeNewI.p x->∀(y:Unit),True->Exx Unit fun y=>(((False/\q8)/\True)/\q11)/\True)))/\(¬devNewI.p x_1->∀(y:Unit),True->Exx (Int×List Int) fun x_2=>((Tr 1 ((x.1:Int)=x_2.1)/\((0:Nat)+(2:Nat) <= (2:Nat)/\2=x_2.2.length/\∀(i:Nat),
 let q12:Nat:=0+i; i<x_2.2.length->[AV.int .i64 (if q12=1*1 / 1 then 1 else if q12=0*1 / 1 then 0 else 0)]=[AV.int .i64 (x_2.2.getD i 0)])/\True)/\true=true/\True)/\(I64 x_2.1/\Ints x_2.2)/\∀(y:Unit),True->Exx (Int×List Int) fun x_3=>((Tr 1 ((x.1:Int)=x_3.1)/\(0=x_3.2.length/\∀(i:Nat),i<x_3.2.length->[]=[AV.int .i64 (x_3.2.getD i 0)])/\True)/\true=true/\True)/\(I64 x_3.1/\Ints x_3.2)/\∀(y:Unit),True->Exx ((Nat×Nat)×(Nat×Nat)×Int) fun x_4 =>
 let q13:Prop:=true=true/\False/\setB x_4.1=devB (zd5 x.1 x.2).ws/\setB x_4.2.1=zaB (zd5 x.1 x.2).a/\True; ((q3/\q3/\Tr 1 (x.2=x_4.2.2)/\True)/\true=true/\setB (zcB x_2.1,addL (zcB x_2.1) 0 x_2.2)=setB x_4.1/\setB (zcB x_3.1,addL (zcB x_3.1) 0 x_3.2)=setB x_4.2.1/\True)/\(SetW x_4.1/\SetW x_4.2.1/\I64 x_4.2.2)/\(x_4.1.1=x_4.2.1.1/\(0:Int) <= x_4.2.2->∀(y:Unit),True->Exx StoreT fun x=>((False/\q7/\True)/\false=true/\False/\False/\True)/\(DevW x.ws/\zbD x.a)/\(x.a.n.le (za2 x.ws)->∀(y:Unit),True->Exx Unit fun y=>(((q5/\q9)/\True)/\q13)/\True)/\(¬storeNewI.p x->∀(y:Unit),True->Exx Unit fun y=>(((False/\q9)/\True)/\q13)/\True))/\(¬allocNewI.p x_4->∀(y:Unit),True->Exx StoreT fun x=>((False/\False/\True)/\false=true/\False/\False/\True)/\(DevW x.ws/\zbD x.a)/\(x.a.n.le (za2 x.ws)->∀(y:Unit),True->Exx Unit fun y=>(((q5/\False/\False/\True)/\True)/\q13)/\True)/\(¬storeNewI.p x->∀(y:Unit),True->Exx Unit fun y=>(((False/\False/\False/\True)/\True)/\q13)/\True))))=(zcA tb [(76,ziC devNewI),(77,zoX),(78,zaA qi4),(79,ziC storeNewI)] Tryz.f45 zj5 (fun _=>{}) (fun _ av _=>tupPtr3 av) (fun _=>[]) (fun _ _ _ _=>[])):=by kernel_rfl

theorem zyH:SpecOk Tryz.prog 45 (zaA zj5):=by
 refine za0 zaM zaL (SPok.cons qmI (SPok.cons zsU (SPok.cons qoS (SPok.cons zz9 SPok.nil)))) Tryz.func45 (by decide) zvQ (Eq.mp qgM ?_)
 simp (maxSteps:=10000000) only [std,stdU,stdV,Exx,I64,Nat.reduceMul,Nat.reduceDiv,Nat.reduceAdd,Int.reduceToNat,zaQ,zaI,zaZ]
 rintro n r ⟨hn,h0,h1,h2⟩
 have hcl:zcB (n:Int)=n:=by unfold zcB; omega
 have hz:0<2 ^ n:=Nat.pos_of_ne_zero (by simp)
 rw [hcl]
 have hw:zaG (zd5 n r):=⟨⟨by show (List.replicate (8*n) 0).length <= _; rw [List.length_replicate]; omega,fun w hw=>by have:w=0:=(List.mem_replicate.1 hw).2; subst this; unfold U64; omega⟩,hn,⟨h1,h2⟩,zg3 hz,hz,zg3 hz,zg3 hz⟩
 have hl:(zd5 n r).a.n <= za2 (zd5 n r).ws:=by
  show n <= (List.replicate (8*n) 0).length / 8
  rw [List.length_replicate]; omega
 have hi2:∀i,i<([0,1]:List Int).length->(if i=1 then [AV.int IntKind.i64 1] else if i=0 then [AV.int IntKind.i64 0] else [AV.int IntKind.i64 0])=[AV.int IntKind.i64 (([0,1]:List Int).getD i 0)]:=fun i hi=>by
  have hi:i<2:=hi
  have:i=0\/i=1:=by omega
  rcases this with rfl | rfl <;> rfl
 have hI:Ints [0,1]:=⟨fun x hx=>by
  simp at hx
  rcases hx with rfl | rfl <;> exact ⟨by omega,by omega⟩,by simp⟩
 exact ⟨by omega,by omega,fun _=>⟨[0,1],rfl,hi2,by omega,by omega,hI,[],rfl,fun i hi=>by simp at hi,by omega,by omega,⟨by simp,by simp⟩,⟨hn,zg3 hz⟩,⟨hn,hz⟩,h1,h2,fun _=>⟨zd5 n r,rfl,rfl,hw.1,hw.2,fun _=>⟨rfl,rfl⟩,fun h=>h hl⟩,fun h=>absurd (show allocNewI.p ((n,addL n 0 [0,1]),(n,addL n 0 []),r) from ⟨rfl,h0⟩) h⟩,fun h=>absurd (show devNewI.p (n:Int) from ⟨by omega,by omega⟩) h⟩

end Yard
