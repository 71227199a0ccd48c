import Derived.Test.YtlihikockhjodaaGreatDoorCrc
import Derived.Test.YtlihikockhjodaaGreatDoorAlloc

namespace Yard
open Go Go.Sx Go.Proofs
set_option linter.unusedVariables false
set_option linter.unusedSimpArgs false
set_option maxRecDepth 4000

structure DevG where
 la:Nat->Nat
 se:Nat->Nat
 fl:Nat->Bool
 cap:Nat
 left:Int
 steps:Int
abbrev qaH (ws:List Nat) (g:DevG):AH:=[.cells 221 [.sl 1 [] 0 4 0 ws.length g.cap,.nils,i64 0,.bool false,.bool false,i64 g.left,i64 g.steps],.row 210 4 g.cap ws.length (fun j=>[u64 (g.la j),u64 (ws.getD j 0),u64 (g.se j),.bool (g.fl j)])]
theorem devPl (ws:List Nat) (g:DevG):plH (qaH ws g):=⟨⟨rfl,rfl,rfl,rfl,rfl,rfl,rfl,trivial⟩,⟨fun _ _=>⟨rfl,rfl,rfl,rfl,trivial⟩,trivial⟩,trivial⟩
abbrev devO (ws:List Nat):Opn:={ tag:=[ws.map fun n:Nat=>(n:Int)],G:=DevG,fam:=qaH ws,pl:=devPl ws,nf:=fun _=>rfl,root:=fun _=>rfl }
def devB (ws:List Nat):Ob:=(devO ws).ob
abbrev devI (ws:List Nat):Sx.Item := .obj (devB ws)
theorem zaP {s t:List Nat}:(devB s=devB t) ↔ s=t:=by
 constructor
 ·intro h
  have:=congrArg Ob.tag h
  simp only [devB,Opn.ob,List.cons.injEq,and_true] at this
  have:=congrArg (List.map Int.toNat) this
  simpa [Function.comp_def] using this
 ·intro h; rw [h]
theorem ziL {s t:List Nat}:(devB s=(devO t).ob) ↔ s=t:=zaP
theorem zgU {s t:List Nat}:((devO s).ob=devB t) ↔ s=t:=zaP

def DevW (ws:List Nat):Prop:=ws.length <= 32768/\∀w∈ws,U64 w
def devTauO (args:List AV) (H:AH):List Nat:=match args with
 | .ptr p _ _ :: _=>match H[p]? with
   | some (.cells _ (.sl q _ _ _ _ _ _ :: _))=>[p,q]
   | _=>[p]
 | _=>[]

def zlI (Y:Type) (pre:List Nat×Y->Prop) (args:List Nat×Y->List AV) (res:List Nat×Y->AV):Ctr where
 X:=DevG×List Nat×Y
 Y:=DevG
 conv:=true
 tau:=devTauO
 pre:=fun x=>DevW x.2.1/\pre x.2
 args:=fun x=>args x.2
 heap:=fun x=>qaH x.2.1 x.1
 Q:=fun x g=>g.cap=x.1.cap
 res:=fun x _=>res x.2
 its:=fun x g=>qaH x.2.1 g
 new:=fun _ _=>[]
theorem zhA {Y:Type} {pre:List Nat×Y->Prop} {args:List Nat×Y->List AV} {res:List Nat×Y->AV} (h:∀x,plV 2 (res x)):CtrOk (zlI Y pre args res) :=
 ⟨fun _ _ _ _=>(rfl:2=2),fun _ _ _ _=>⟨rfl,rfl⟩,fun x _ _ _ _=>⟨⟨devPl _ _,trivial⟩,h x.2⟩⟩
def zpJ (Y:Type) (pre:List Nat×Y->Prop) (args:List Nat×Y->List AV) (res:List Nat×Y->AV):Ctr where
 X:=List Nat×Y
 Y:=Unit
 conv:=true
 tau:=zgN
 pre:=fun x=>DevW x.1/\pre x
 args:=fun x => .ptr 0 [] 0 :: args x
 heap:=fun x=>[devI x.1]
 Q:=fun _ _=>True
 res:=fun x _=>res x
 its:=fun x _=>[devI x.1]
 new:=fun _ _=>[]
theorem zjG {Y:Type} {pre:List Nat×Y->Prop} {args:List Nat×Y->List AV} {res:List Nat×Y->AV} (h:∀x,plV 2 (res x)):CtrOk (zpJ Y pre args res) :=
 ⟨fun _ _ _ _=>rfl,fun _ _ _ _=>⟨rfl,rfl⟩,fun x _ _ _ _=>⟨⟨⟨trivial,trivial⟩,trivial⟩,h x⟩⟩
def ztA (Y:Type) (pre:List Nat×Y->Prop) (args:List Nat×Y->List AV) (g:List Nat×Y->List Nat) (res:List Nat×Y->AV):Ctr where
 X:=List Nat×Y
 Y:=Unit
 conv:=true
 tau:=zgN
 pre:=fun x=>DevW x.1/\pre x
 args:=fun x => .ptr 0 [] 0 :: args x
 heap:=fun x=>[devI x.1]
 Q:=fun _ _=>True
 res:=fun x _=>res x
 its:=fun x _=>[devI (g x)]
 new:=fun _ _=>[]
theorem zmL {Y:Type} {pre:List Nat×Y->Prop} {args:List Nat×Y->List AV} {g:List Nat×Y->List Nat} {res:List Nat×Y->AV} (h:∀x,plV 2 (res x)):CtrOk (ztA Y pre args g res) :=
 ⟨fun _ _ _ _=>(rfl:1=1),fun _ _ _ _=>⟨rfl,rfl⟩,fun x _ _ _ _=>⟨⟨⟨trivial,trivial⟩,trivial⟩,h x⟩⟩

def ziK:Ctr:=zpJ Unit (fun _=>True) (fun _=>[]) (fun x=>i64 (x.1.length / 8:Nat))
def zgT:Ctr:=zlI Unit (fun _=>True) (fun _=>[.ptr 0 [] 0]) (fun x=>i64 (x.1.length / 8:Nat))

theorem qhJ:(∀(x:List Nat×Unit),
 let q1:Int:=(x.1.length:Int).tdiv 8; DevW x.1/\True->devB x.1=(devO x.1).ob/\∀(g:DevG),(8:Int)≠(0:Int)/\I64 q1/\Exx Unit fun y=>Exx DevG fun g_1=>Tr 1 (((221:TypeId)=221/\(true=true/\zaC/\(0:Nat)=0/\(4:Nat)=4/\(0:Nat)=0/\x.1.length=x.1.length/\g.cap=g_1.cap)/\Tr 1 (Tr 1 ((0:Int)=0)/\false=false/\false=false/\Tr 1 (g.left=g_1.left)/\Tr 1 (g.steps=g_1.steps)/\True))/\((210:TypeId)=210/\(4:Nat)=4/\g.cap=g_1.cap/\x.1.length <= x.1.length/\∀(i:Nat),
 let q2:AV:=AV.int .u64 (↑(x.1.getD i 0):Int); i<x.1.length->[AV.int .u64 (↑(g.la i):Int),q2,AV.int .u64 (↑(g.se i):Int),AV.bool (g.fl i)]=[AV.int .u64 (↑(g_1.la i):Int),q2,AV.int .u64 (↑(g_1.se i):Int),AV.bool (g_1.fl i)])/\True)/\((Tr 1 (q1=(↑(x.1.length / 8):Int))/\True)/\(devO x.1).ob=devB x.1/\true=true/\True)/\True)=(zcE tb [] Tryz.f113 ziK (fun _=>{}) (fun _ _ _=>none) (fun x=>[(0,devO x.1)]) (fun x y av H=>[(0,[2],devO x.1)])):=by kernel_rfl

theorem zkF:SpecOk Tryz.prog 113 (zaB ziK):=by
 refine za2 zaL zaN SPok.nil Tryz.func113 (by decide) (zjG fun _=>rfl) (Eq.mp qhJ ?_)
 simp (maxSteps:=10000000) only [std,stdU,stdV,Exx,I64,Nat.reduceMul,Nat.reduceDiv,Nat.reduceAdd,Int.reduceToNat,ziL,zgU,zaP]
 intro ws h g
 have:=h.1
 have e:(ws.length:Int).tdiv 8=((ws.length / 8:Nat):Int):=rfl
 rw [e]
 exact ⟨by omega,by omega,by omega,g,rfl,rfl,rfl,rfl,fun _ _=>rfl,rfl⟩

theorem qcJ:(∀(x:DevG×List Nat×Unit),
 let q1:Int:=(x.2.1.length:Int).tdiv 8; DevW x.2.1/\True->(8:Int)≠(0:Int)/\I64 q1/\Exx DevG fun y=>((Tr 1 (q1=(↑(x.2.1.length / 8):Int))/\True)/\((221:TypeId)=221/\(true=true/\zaC/\(0:Nat)=0/\(4:Nat)=4/\(0:Nat)=0/\x.2.1.length=x.2.1.length/\x.1.cap=y.cap)/\Tr 1 (Tr 1 ((0:Int)=0)/\false=false/\false=false/\Tr 1 (x.1.left=y.left)/\Tr 1 (x.1.steps=y.steps)/\True))/\((210:TypeId)=210/\(4:Nat)=4/\x.1.cap=y.cap/\x.2.1.length <= x.2.1.length/\∀(i:Nat),
 let q2:AV:=AV.int .u64 (↑(x.2.1.getD i 0):Int); i<x.2.1.length->[AV.int .u64 (↑(x.1.la i):Int),q2,AV.int .u64 (↑(x.1.se i):Int),AV.bool (x.1.fl i)]=[AV.int .u64 (↑(y.la i):Int),q2,AV.int .u64 (↑(y.se i):Int),AV.bool (y.fl i)])/\true=true/\True)/\y.cap=x.1.cap)=(fnVC tb [] Tryz.f113 zgT (fun _=>{}) (fun _=>none)):=by kernel_rfl

theorem ziJ:SpecOk Tryz.prog 113 (zaB zgT):=by
 refine zaK zaL zaN SPok.nil Tryz.func113 (by decide) (zhA fun _=>rfl) (Eq.mp qcJ ?_)
 simp (maxSteps:=10000000) only [std,stdU,stdV,Exx,I64,Nat.reduceMul,Nat.reduceDiv,Nat.reduceAdd,Int.reduceToNat]
 intro g ws h
 have:=h.1
 have e:(ws.length:Int).tdiv 8=((ws.length / 8:Nat):Int):=rfl
 rw [e]
 exact ⟨by omega,by omega,by omega,rfl,g,rfl,rfl,rfl,rfl,fun _ _=>rfl,rfl⟩

def mayErr (at_ n:Int):Int:=if 0 <= at_/\at_<n then 0 else 2
def zpI:Ctr:=zlI (Int×Int) (fun x=>I64 x.2.1/\I64 x.2.2) (fun x=>[.ptr 0 [] 0,i64 x.2.1,i64 x.2.2]) (fun x=>i64 (mayErr x.2.1 x.2.2))

theorem devMayV:(∀(x:DevG×List Nat×Int×Int),
 let q1:Int:=mayErr x.2.2.1 x.2.2.2;
 let q3:Prop:=Exx DevG fun y=>((Tr 1 ((2:Int)=q1)/\True)/\((221:TypeId)=221/\(true=true/\zaC/\(0:Nat)=0/\(4:Nat)=4/\(0:Nat)=0/\x.2.1.length=x.2.1.length/\x.1.cap=y.cap)/\Tr 1 (Tr 1 ((0:Int)=0)/\false=false/\false=false/\Tr 1 (x.1.left=y.left)/\Tr 1 (x.1.steps=y.steps)/\True))/\((210:TypeId)=210/\(4:Nat)=4/\x.1.cap=y.cap/\x.2.1.length <= x.2.1.length/\∀(i:Nat),
 let q2:AV:=AV.int .u64 (↑(x.2.1.getD i 0):Int); i<x.2.1.length->[AV.int .u64 (↑(x.1.la i):Int),q2,AV.int .u64 (↑(x.1.se i):Int),AV.bool (x.1.fl i)]=[AV.int .u64 (↑(y.la i):Int),q2,AV.int .u64 (↑(y.se i):Int),AV.bool (y.fl i)])/\true=true/\True)/\y.cap=x.1.cap; DevW x.2.1/\I64 x.2.2.1/\I64 x.2.2.2->BC (decide (x.2.2.1<(0:Int))) q3 (BC (decide (x.2.2.2 <= x.2.2.1)) q3 (Exx DevG fun y=>((Tr 1 ((0:Int)=q1)/\True)/\((221:TypeId)=221/\(true=true/\zaC/\(0:Nat)=0/\(4:Nat)=4/\(0:Nat)=0/\x.2.1.length=x.2.1.length/\x.1.cap=y.cap)/\Tr 1 (Tr 1 ((0:Int)=0)/\false=false/\false=false/\Tr 1 (x.1.left=y.left)/\Tr 1 (x.1.steps=y.steps)/\True))/\((210:TypeId)=210/\(4:Nat)=4/\x.1.cap=y.cap/\x.2.1.length <= x.2.1.length/\∀(i:Nat),
 let q4:AV:=AV.int .u64 (↑(x.2.1.getD i 0):Int); i<x.2.1.length->[AV.int .u64 (↑(x.1.la i):Int),q4,AV.int .u64 (↑(x.1.se i):Int),AV.bool (x.1.fl i)]=[AV.int .u64 (↑(y.la i):Int),q4,AV.int .u64 (↑(y.se i):Int),AV.bool (y.fl i)])/\true=true/\True)/\y.cap=x.1.cap)))=(fnVC tb [] Tryz.f186 zpI (fun _=>{}) (fun _=>none)):=by kernel_rfl

theorem zpH:SpecOk Tryz.prog 186 (zaB zpI):=by
 refine zaK zaL zaN SPok.nil Tryz.func186 (by decide) (zhA fun _=>rfl) (Eq.mp devMayV ?_)
 simp (maxSteps:=10000000) only [std,stdU,stdV,Exx,I64,Nat.reduceMul,Nat.reduceDiv,Nat.reduceAdd,Int.reduceToNat]
 rintro g ws a n ⟨h,h1,h2,h3,h4⟩
 refine ⟨fun h5=>⟨by rw [mayErr,if_neg (by omega)],g,rfl,rfl,rfl,rfl,fun _ _=>rfl,rfl⟩,fun h5=>⟨fun h6=>⟨by rw [mayErr,if_neg (by omega)],g,rfl,rfl,rfl,rfl,fun _ _=>rfl,rfl⟩,fun h6=>⟨by rw [mayErr,if_pos (by omega)],g,rfl,rfl,rfl,rfl,fun _ _=>rfl,rfl⟩⟩⟩

def zoR:Ctr:=zlI Unit (fun _=>True) (fun _=>[.ptr 0 [] 1]) (fun _=>i64 (-1))

theorem qe6:(∀(x:DevG×List Nat×Unit),DevW x.2.1/\True->Exx DevG fun y=>((Tr 1 (-(1:Int) = -(1:Int))/\True)/\((221:TypeId)=221/\(true=true/\zaC/\(0:Nat)=0/\(4:Nat)=4/\(0:Nat)=0/\x.2.1.length=x.2.1.length/\x.1.cap=y.cap)/\Tr 1 (Tr 1 ((0:Int)=0)/\false=false/\false=false/\Tr 1 (x.1.left=y.left)/\Tr 1 (x.1.steps=y.steps)/\True))/\((210:TypeId)=210/\(4:Nat)=4/\x.1.cap=y.cap/\x.2.1.length <= x.2.1.length/\∀(i:Nat),
 let q1:AV:=AV.int .u64 (↑(x.2.1.getD i 0):Int); i<x.2.1.length->[AV.int .u64 (↑(x.1.la i):Int),q1,AV.int .u64 (↑(x.1.se i):Int),AV.bool (x.1.fl i)]=[AV.int .u64 (↑(y.la i):Int),q1,AV.int .u64 (↑(y.se i):Int),AV.bool (y.fl i)])/\true=true/\True)/\y.cap=x.1.cap)=(fnVC tb [] Tryz.f203 zoR (fun _=>{}) (fun _=>none)):=by kernel_rfl

theorem zxI:SpecOk Tryz.prog 203 (zaB zoR):=by
 refine zaK zaL zaN SPok.nil Tryz.func203 (by decide) (zhA fun _=>rfl) (Eq.mp qe6 ?_)
 simp (maxSteps:=10000000) only [std,stdU,stdV,Exx,I64,Nat.reduceMul,Nat.reduceDiv,Nat.reduceAdd,Int.reduceToNat]
 exact fun g ws h=>⟨g,rfl,rfl,rfl,rfl,fun _ _=>rfl,rfl⟩

def znP:Ctr:=zlI Unit (fun _=>True) (fun _=>[.ptr 0 [] 0]) (fun _ => .tup [])

theorem qlG:(
 let q1:Prop:=(221:TypeId)=221;
 let q2:Prop:=(210:TypeId)=210; ∀(x:DevG×List Nat×Unit),DevW x.2.1/\True->∀(n:Int),n=IntKind.i64.wrap (x.1.steps+1)->Exx (DevG×List Nat×Unit) fun x_1=>(((true=true/\zaC/\(0:Nat)+(1:Nat)=1)/\True)/\true=true/\(q1/\(true=true/\zaC/\(0:Nat)=0/\(4:Nat)=4/\(0:Nat)=0/\x.2.1.length=x_1.2.1.length/\x.1.cap=x_1.1.cap)/\Tr 1 (Tr 1 ((0:Int)=0)/\false=false/\false=false/\Tr 1 (x.1.left=x_1.1.left)/\Tr 1 (n=x_1.1.steps)/\True))/\(q2/\(4:Nat)=4/\x.1.cap=x_1.1.cap/\x_1.2.1.length <= x.2.1.length/\∀(i:Nat),i<x_1.2.1.length->[AV.int .u64 (↑(x.1.la i):Int),AV.int .u64 (↑(x.2.1.getD i 0):Int),AV.int .u64 (↑(x.1.se i):Int),AV.bool (x.1.fl i)]=[AV.int .u64 (↑(x_1.1.la i):Int),AV.int .u64 (↑(x_1.2.1.getD i 0):Int),AV.int .u64 (↑(x_1.1.se i):Int),AV.bool (x_1.1.fl i)])/\True)/\(DevW x_1.2.1/\True)/\∀(y:DevG),y.cap=x_1.1.cap->Exx DevG fun y_1=>(Tr 1 True/\(q1/\(true=true/\zaC/\(0:Nat)=0/\(4:Nat)=4/\(0:Nat)=0/\x_1.2.1.length=x.2.1.length/\y.cap=y_1.cap)/\Tr 1 (Tr 1 ((0:Int)=0)/\false=false/\false=false/\Tr 1 (y.left=y_1.left)/\Tr 1 (y.steps=y_1.steps)/\True))/\(q2/\(4:Nat)=4/\y.cap=y_1.cap/\x.2.1.length <= x_1.2.1.length/\∀(i:Nat),i<x.2.1.length->[AV.int .u64 (↑(y.la i):Int),AV.int .u64 (↑(x_1.2.1.getD i 0):Int),AV.int .u64 (↑(y.se i):Int),AV.bool (y.fl i)]=[AV.int .u64 (↑(y_1.la i):Int),AV.int .u64 (↑(x.2.1.getD i 0):Int),AV.int .u64 (↑(y_1.se i):Int),AV.bool (y_1.fl i)])/\true=true/\True)/\y_1.cap=x.1.cap)=(fnVC (wr tb) [(203,zaB zoR)] Tryz.f187 znP (fun _=>{}) (fun _=>none)):=by kernel_rfl

theorem zrH:SpecOk Tryz.prog 187 (zaB znP):=by
 refine zaK zaL (wr_ok zaN) (SPok.cons zxI SPok.nil) Tryz.func187 (by decide) (zhA fun _=>trivial) (Eq.mp qlG ?_)
 simp (maxSteps:=10000000) only [std,stdU,stdV,Exx,I64,Nat.reduceMul,Nat.reduceDiv,Nat.reduceAdd,Int.reduceToNat]
 exact fun g ws h=>⟨{ g with steps:=IntKind.i64.wrap (g.steps+1) },ws,rfl,rfl,rfl,rfl,rfl,Nat.le_refl _,fun _ _=>rfl,h,fun y hy=>⟨rfl,y,rfl,rfl,rfl,rfl,Nat.le_refl _,fun _ _=>rfl,hy⟩⟩

def zcU (ws:List Nat) (at_:Int):Int:=mayErr at_ (ws.length:Nat)
def zjP (ws:List Nat) (at_:Int) (w:Nat):List Nat:=if 0 <= at_ then ws.set at_.toNat w else ws
def zpG:Ctr:=ztA (Int×Nat) (fun x=>I64 x.2.1/\U64 x.2.2) (fun x=>[i64 x.2.1,u64 x.2.2]) (fun x=>zjP x.1 x.2.1 x.2.2) (fun x=>i64 (zcU x.1 x.2.1))

theorem qhH:(
 let q1:Prop:=true=true/\zaC/\(0:Nat)=0;
 let q2:Prop:=(221:TypeId)=221;
 let q3:Prop:=(210:TypeId)=210; ∀(x:List Nat×Int×Nat),
 let q4:List Nat:=zjP x.1 x.2.1 x.2.2;
 let q5:Nat:=q4.length;
 let q6:Int:=zcU x.1 x.2.1;
 let q7:Prop:=(devO q4).ob=devB q4/\true=true/\True;
 let q8:Nat:=0+x.2.1.toNat; DevW x.1/\I64 x.2.1/\U64 x.2.2->devB x.1=(devO x.1).ob/\∀(g:DevG),Exx (DevG×List Nat×Int×Int) fun x_1 =>
 let q9:Int:=mayErr x_1.2.2.1 x_1.2.2.2; ((q1/\Tr 1 (x.2.1=x_1.2.2.1)/\Tr 1 ((x.1.length:Int)=x_1.2.2.2)/\True)/\true=true/\(q2/\(true=true/\zaC/\(0:Nat)=0/\(4:Nat)=4/\(0:Nat)=0/\x.1.length=x_1.2.1.length/\g.cap=x_1.1.cap)/\Tr 1 (Tr 1 ((0:Int)=0)/\false=false/\false=false/\Tr 1 (g.left=x_1.1.left)/\Tr 1 (g.steps=x_1.1.steps)/\True))/\(q3/\(4:Nat)=4/\g.cap=x_1.1.cap/\x_1.2.1.length <= x.1.length/\∀(i:Nat),i<x_1.2.1.length->[AV.int .u64 (↑(g.la i):Int),AV.int .u64 (↑(x.1.getD i 0):Int),AV.int .u64 (↑(g.se i):Int),AV.bool (g.fl i)]=[AV.int .u64 (↑(x_1.1.la i):Int),AV.int .u64 (↑(x_1.2.1.getD i 0):Int),AV.int .u64 (↑(x_1.1.se i):Int),AV.bool (x_1.1.fl i)])/\True)/\(DevW x_1.2.1/\I64 x_1.2.2.1/\I64 x_1.2.2.2)/\∀(y:DevG),y.cap=x_1.1.cap->BC (!decide (q9=(0:Int))) (Exx Unit fun y_1=>Exx DevG fun g=>Tr 1 ((q2/\(true=true/\zaC/\(0:Nat)=0/\(4:Nat)=4/\(0:Nat)=0/\x_1.2.1.length=q5/\y.cap=g.cap)/\Tr 1 (Tr 1 ((0:Int)=0)/\false=false/\false=false/\Tr 1 (y.left=g.left)/\Tr 1 (y.steps=g.steps)/\True))/\(q3/\(4:Nat)=4/\y.cap=g.cap/\q5 <= x_1.2.1.length/\∀(i:Nat),i<q5->[AV.int .u64 (↑(y.la i):Int),AV.int .u64 (↑(x_1.2.1.getD i 0):Int),AV.int .u64 (↑(y.se i):Int),AV.bool (y.fl i)]=[AV.int .u64 (↑(g.la i):Int),AV.int .u64 (↑(q4.getD i 0):Int),AV.int .u64 (↑(g.se i):Int),AV.bool (g.fl i)])/\True)/\((Tr 1 (q9=q6)/\True)/\q7)/\True) (((0:Int) <= x.2.1/\x.2.1<(x_1.2.1.length:Int))/\q8<x_1.2.1.length/\x_1.2.1.length=x_1.2.1.length/\Exx (DevG×List Nat×Unit) fun x_2=>((q1/\True)/\true=true/\(q2/\(true=true/\zaC/\(0:Nat)=0/\(4:Nat)=4/\(0:Nat)=0/\x_1.2.1.length=x_2.2.1.length/\y.cap=x_2.1.cap)/\Tr 1 (Tr 1 ((0:Int)=0)/\false=false/\false=false/\Tr 1 (y.left=x_2.1.left)/\Tr 1 (y.steps=x_2.1.steps)/\True))/\(q3/\(4:Nat)=4/\y.cap=x_2.1.cap/\x_2.2.1.length <= x_1.2.1.length/\∀(i:Nat),i<x_2.2.1.length->[AV.int .u64 (if i=q8 then (↑(y.la q8):Int) else (↑(y.la i):Int)),AV.int .u64 (if i=q8 then (x.2.2:Int) else (↑(x_1.2.1.getD i 0):Int)),AV.int .u64 (if i=q8 then (↑(y.se q8):Int) else (↑(y.se i):Int)),AV.bool (if i=q8 then y.fl q8 else y.fl i)]=[AV.int .u64 (↑(x_2.1.la i):Int),AV.int .u64 (↑(x_2.2.1.getD i 0):Int),AV.int .u64 (↑(x_2.1.se i):Int),AV.bool (x_2.1.fl i)])/\True)/\(DevW x_2.2.1/\True)/\∀(y:DevG),y.cap=x_2.1.cap->Exx Unit fun y_1=>Exx DevG fun g=>Tr 1 ((q2/\(true=true/\zaC/\(0:Nat)=0/\(4:Nat)=4/\(0:Nat)=0/\x_2.2.1.length=q5/\y.cap=g.cap)/\Tr 1 (Tr 1 ((0:Int)=0)/\false=false/\false=false/\Tr 1 (y.left=g.left)/\Tr 1 (y.steps=g.steps)/\True))/\(q3/\(4:Nat)=4/\y.cap=g.cap/\q5 <= x_2.2.1.length/\∀(i:Nat),i<q5->[AV.int .u64 (↑(y.la i):Int),AV.int .u64 (↑(x_2.2.1.getD i 0):Int),AV.int .u64 (↑(y.se i):Int),AV.bool (y.fl i)]=[AV.int .u64 (↑(g.la i):Int),AV.int .u64 (↑(q4.getD i 0):Int),AV.int .u64 (↑(g.se i):Int),AV.bool (g.fl i)])/\True)/\((Tr 1 ((0:Int)=q6)/\True)/\q7)/\True))=(zcE tb [(186,zaB zpI),(187,zaB znP)] Tryz.f155 zpG (fun _=>{}) (fun _ _ _=>none) (fun x=>[(0,devO x.1)]) (fun x y av H=>[(0,[2],devO (zjP x.1 x.2.1 x.2.2))])):=by kernel_rfl

theorem zyE:SpecOk Tryz.prog 155 (zaB zpG):=by
 refine za2 zaL zaN (SPok.cons zpH (SPok.cons zrH SPok.nil)) Tryz.func155 (by decide) (zmL fun _=>rfl) (Eq.mp qhH ?_)
 simp (maxSteps:=10000000) only [std,stdU,stdV,Exx,I64,Nat.reduceMul,Nat.reduceDiv,Nat.reduceAdd,Int.reduceToNat,ziL,zgU,zaP]
 rintro ws a w ⟨h,h1,h2,hw⟩ g
 have hlen:=h.1
 refine ⟨g,ws,rfl,rfl,rfl,rfl,rfl,Nat.le_refl _,fun _ _=>rfl,h,h1,h2,by omega,by omega,fun y hy=>⟨fun hne=>?_,fun hz=>?_⟩⟩
 ·have e:zjP ws a w=ws:=by
   rw [zjP]; split
   ·rename_i h0
    refine List.set_eq_of_length_le ?_
    by_cases h3:a<(ws.length:Int)
    ·exact absurd (show mayErr a (ws.length:Int)=0 by rw [mayErr,if_pos ⟨h0,h3⟩]) hne
    ·omega
   ·rfl
  rw [e]
  exact ⟨rfl,y,rfl,rfl,rfl,rfl,Nat.le_refl _,fun _ _=>rfl,rfl⟩
 ·obtain ⟨h3,h4⟩:0 <= a/\a<(ws.length:Int):=by
   by_cases k:0 <= a/\a<(ws.length:Int)
   ·exact k
   ·rw [mayErr,if_neg k] at hz; cases hz
  have hk:a.toNat<ws.length:=by omega
  have e:zjP ws a w=ws.set a.toNat w:=by rw [zjP,if_pos h3]
  have hwl:DevW (ws.set a.toNat w):=⟨by rw [List.length_set]; exact hlen,fun x hx=>by
   rcases List.mem_or_eq_of_mem_set hx with k | k
   ·exact h.2 x k
   ·rw [k]; exact hw⟩
  refine ⟨h3,h4,hk,y,ws.set a.toNat w,by rw [List.length_set],rfl,rfl,rfl,rfl,by rw [List.length_set]; exact Nat.le_refl _,fun i hi=>?_,hwl,fun y2 hy2=>?_⟩
  ·rw [zs1 hk]
   by_cases k:i=a.toNat
   ·subst k; simp
   ·simp [k]
  ·rw [e]
   exact ⟨rfl,y2,rfl,rfl,rfl,rfl,Nat.le_refl _,fun _ _=>rfl,by rw [zcU,hz]⟩

def ztB:Ctr:=zpJ Int (fun x=>I64 x.2) (fun x=>[i64 x.2]) (fun x => .tup [u64 (if 0 <= x.2 then x.1.getD x.2.toNat 0 else 0),i64 (zcU x.1 x.2)])

theorem qlH:(
 let q1:Prop:=(221:TypeId)=221;
 let q2:Prop:=(210:TypeId)=210; ∀(x:List Nat×Int),
 let q3:Int:=(↑(if (0:Int) <= x.2 then x.1.getD x.2.toNat 0 else 0):Int);
 let q4:Prop:=(devO x.1).ob=devB x.1/\true=true/\True;
 let q5:Nat:=0+x.2.toNat; DevW x.1/\I64 x.2->devB x.1=(devO x.1).ob/\∀(g:DevG),Exx (DevG×List Nat×Int×Int) fun x_1 =>
 let q6:Int:=mayErr x_1.2.2.1 x_1.2.2.2; (((true=true/\zaC/\(0:Nat)=0)/\Tr 1 (x.2=x_1.2.2.1)/\Tr 1 ((x.1.length:Int)=x_1.2.2.2)/\True)/\true=true/\(q1/\(true=true/\zaC/\(0:Nat)=0/\(4:Nat)=4/\(0:Nat)=0/\x.1.length=x_1.2.1.length/\g.cap=x_1.1.cap)/\Tr 1 (Tr 1 ((0:Int)=0)/\false=false/\false=false/\Tr 1 (g.left=x_1.1.left)/\Tr 1 (g.steps=x_1.1.steps)/\True))/\(q2/\(4:Nat)=4/\g.cap=x_1.1.cap/\x_1.2.1.length <= x.1.length/\∀(i:Nat),i<x_1.2.1.length->[AV.int .u64 (↑(g.la i):Int),AV.int .u64 (↑(x.1.getD i 0):Int),AV.int .u64 (↑(g.se i):Int),AV.bool (g.fl i)]=[AV.int .u64 (↑(x_1.1.la i):Int),AV.int .u64 (↑(x_1.2.1.getD i 0):Int),AV.int .u64 (↑(x_1.1.se i):Int),AV.bool (x_1.1.fl i)])/\True)/\(DevW x_1.2.1/\I64 x_1.2.2.1/\I64 x_1.2.2.2)/\∀(y:DevG),y.cap=x_1.1.cap->BC (!decide (q6=(0:Int))) (Exx Unit fun y_1=>Exx DevG fun g=>Tr 1 ((q1/\(true=true/\zaC/\(0:Nat)=0/\(4:Nat)=4/\(0:Nat)=0/\x_1.2.1.length=x.1.length/\y.cap=g.cap)/\Tr 1 (Tr 1 ((0:Int)=0)/\false=false/\false=false/\Tr 1 (y.left=g.left)/\Tr 1 (y.steps=g.steps)/\True))/\(q2/\(4:Nat)=4/\y.cap=g.cap/\x.1.length <= x_1.2.1.length/\∀(i:Nat),i<x.1.length->[AV.int .u64 (↑(y.la i):Int),AV.int .u64 (↑(x_1.2.1.getD i 0):Int),AV.int .u64 (↑(y.se i):Int),AV.bool (y.fl i)]=[AV.int .u64 (↑(g.la i):Int),AV.int .u64 (↑(x.1.getD i 0):Int),AV.int .u64 (↑(g.se i):Int),AV.bool (g.fl i)])/\True)/\(((Tr 1 ((0:Int)=q3)/\Tr 1 (q6=zcU x.1 x.2)/\True)/\True)/\q4)/\True) (((0:Int) <= x.2/\x.2<(x_1.2.1.length:Int))/\q5<x_1.2.1.length/\Exx Unit fun y_1=>Exx DevG fun g=>Tr 1 ((q1/\(true=true/\zaC/\(0:Nat)=0/\(4:Nat)=4/\(0:Nat)=0/\x_1.2.1.length=x.1.length/\y.cap=g.cap)/\Tr 1 (Tr 1 ((0:Int)=0)/\false=false/\false=false/\Tr 1 (y.left=g.left)/\Tr 1 (y.steps=g.steps)/\True))/\(q2/\(4:Nat)=4/\y.cap=g.cap/\x.1.length <= x_1.2.1.length/\∀(i:Nat),i<x.1.length->[AV.int .u64 (↑(y.la i):Int),AV.int .u64 (↑(x_1.2.1.getD i 0):Int),AV.int .u64 (↑(y.se i):Int),AV.bool (y.fl i)]=[AV.int .u64 (↑(g.la i):Int),AV.int .u64 (↑(x.1.getD i 0):Int),AV.int .u64 (↑(g.se i):Int),AV.bool (g.fl i)])/\True)/\(((Tr 1 ((↑(x_1.2.1.getD q5 0):Int)=q3)/\Tr 1 ((0:Int)=zcU x.1 x.2)/\True)/\True)/\q4)/\True))=(zcE tb [(186,zaB zpI)] Tryz.f159 ztB (fun _=>{}) (fun _ _ _=>none) (fun x=>[(0,devO x.1)]) (fun x y av H=>[(0,[2],devO x.1)])):=by kernel_rfl

theorem qcI:SpecOk Tryz.prog 159 (zaB ztB):=by
 refine za2 zaL zaN (SPok.cons zpH SPok.nil) Tryz.func159 (by decide) (zjG fun _=>⟨rfl,rfl,trivial⟩) (Eq.mp qlH ?_)
 simp (maxSteps:=10000000) only [std,stdU,stdV,Exx,I64,Nat.reduceMul,Nat.reduceDiv,Nat.reduceAdd,Int.reduceToNat,ziL,zgU,zaP]
 rintro ws a ⟨h,h1,h2⟩ g
 have hlen:=h.1
 refine ⟨g,ws,rfl,rfl,rfl,rfl,rfl,Nat.le_refl _,fun _ _=>rfl,h,h1,h2,by omega,by omega,fun y hy=>⟨fun hne=>⟨rfl,y,rfl,rfl,rfl,rfl,Nat.le_refl _,fun _ _=>rfl,?_,rfl⟩,fun hz=>?_⟩⟩
 ·split
  ·rename_i h0
   have:ws.length <= a.toNat:=by
    by_cases h3:a<(ws.length:Int)
    ·exact absurd (show mayErr a (ws.length:Int)=0 by rw [mayErr,if_pos ⟨h0,h3⟩]) hne
    ·omega
   rw [List.getD_eq_getElem?_getD,List.getElem?_eq_none this]; rfl
  ·rfl
 ·obtain ⟨h3,h4⟩:0 <= a/\a<(ws.length:Int):=by
   by_cases k:0 <= a/\a<(ws.length:Int)
   ·exact k
   ·rw [mayErr,if_neg k] at hz; cases hz
  exact ⟨h3,h4,by omega,rfl,y,rfl,rfl,rfl,rfl,Nat.le_refl _,fun _ _=>rfl,by rw [if_pos h3],by rw [zcU,hz]⟩

def zpK:Ctr:=zpJ Int (fun x=>I64 x.2) (fun x=>[i64 x.2]) (fun x=>i64 (mayErr x.2 (x.1.length / 8:Nat)))
def flushLA (x:List Nat×Int):LA:={ T:=Nat×DevG,F:=fun s=>frm 41 [(0,.ptr 0 [] 0),(1,i64 x.2),(16,i64 (s.1:Nat))],H:=fun s=>[.cells 221 [.sl 2 [] 0 4 0 x.1.length s.2.cap,.nils,i64 0,.bool false,.bool false,i64 s.2.left,i64 s.2.steps],.fence,.row 210 4 s.2.cap x.1.length (fun j=>[u64 (s.2.la j),u64 (x.1.getD j 0),u64 (s.2.se j),.bool (s.2.fl j)])] }

theorem qhK:(
 let q1:Prop:=true=true/\zaC/\(0:Nat)=0;
 let q2:Prop:=q1/\True;
 let q3:Prop:=(221:TypeId)=221;
 let q4:Prop:=(210:TypeId)=210; ∀(x:List Nat×Int),
 let q5:Int:=mayErr x.2 (↑(x.1.length / 8):Int);
 let q6:Prop:=(devO x.1).ob=devB x.1/\true=true/\True;
 let q7:Int:=x.2*8; DevW x.1/\I64 x.2->devB x.1=(devO x.1).ob/\∀(g:DevG),Exx (DevG×List Nat×Unit) fun x_1=>(q2/\true=true/\(q3/\(true=true/\zaC/\(0:Nat)=0/\(4:Nat)=4/\(0:Nat)=0/\x.1.length=x_1.2.1.length/\g.cap=x_1.1.cap)/\Tr 1 (Tr 1 ((0:Int)=0)/\false=false/\false=false/\Tr 1 (g.left=x_1.1.left)/\Tr 1 (g.steps=x_1.1.steps)/\True))/\(q4/\(4:Nat)=4/\g.cap=x_1.1.cap/\x_1.2.1.length <= x.1.length/\∀(i:Nat),i<x_1.2.1.length->[AV.int .u64 (↑(g.la i):Int),AV.int .u64 (↑(x.1.getD i 0):Int),AV.int .u64 (↑(g.se i):Int),AV.bool (g.fl i)]=[AV.int .u64 (↑(x_1.1.la i):Int),AV.int .u64 (↑(x_1.2.1.getD i 0):Int),AV.int .u64 (↑(x_1.1.se i):Int),AV.bool (x_1.1.fl i)])/\True)/\(DevW x_1.2.1/\True)/\∀(y:DevG),y.cap=x_1.1.cap->Exx (DevG×List Nat×Int×Int) fun x_2 =>
 let q8:Int:=mayErr x_2.2.2.1 x_2.2.2.2;
 let q9:Prop:=x_2.2.1.length=x.1.length;
 let q10:Prop:=x.1.length <= x_2.2.1.length; ((q1/\Tr 1 (x.2=x_2.2.2.1)/\Tr 1 ((↑(x_1.2.1.length / 8):Int)=x_2.2.2.2)/\True)/\true=true/\(q3/\(true=true/\zaC/\(0:Nat)=0/\(4:Nat)=4/\(0:Nat)=0/\x_1.2.1.length=x_2.2.1.length/\y.cap=x_2.1.cap)/\Tr 1 (Tr 1 ((0:Int)=0)/\false=false/\false=false/\Tr 1 (y.left=x_2.1.left)/\Tr 1 (y.steps=x_2.1.steps)/\True))/\(q4/\(4:Nat)=4/\y.cap=x_2.1.cap/\x_2.2.1.length <= x_1.2.1.length/\∀(i:Nat),i<x_2.2.1.length->[AV.int .u64 (↑(y.la i):Int),AV.int .u64 (↑(x_1.2.1.getD i 0):Int),AV.int .u64 (↑(y.se i):Int),AV.bool (y.fl i)]=[AV.int .u64 (↑(x_2.1.la i):Int),AV.int .u64 (↑(x_2.2.1.getD i 0):Int),AV.int .u64 (↑(x_2.1.se i):Int),AV.bool (x_2.1.fl i)])/\True)/\(DevW x_2.2.1/\I64 x_2.2.2.1/\I64 x_2.2.2.2)/\∀(y:DevG),y.cap=x_2.1.cap->BC (!decide (q8=(0:Int))) (Exx Unit fun y_1=>Exx DevG fun g=>Tr 1 ((q3/\(true=true/\zaC/\(0:Nat)=0/\(4:Nat)=4/\(0:Nat)=0/\q9/\y.cap=g.cap)/\Tr 1 (Tr 1 ((0:Int)=0)/\false=false/\false=false/\Tr 1 (y.left=g.left)/\Tr 1 (y.steps=g.steps)/\True))/\(q4/\(4:Nat)=4/\y.cap=g.cap/\q10/\∀(i:Nat),i<x.1.length->[AV.int .u64 (↑(y.la i):Int),AV.int .u64 (↑(x_2.2.1.getD i 0):Int),AV.int .u64 (↑(y.se i):Int),AV.bool (y.fl i)]=[AV.int .u64 (↑(g.la i):Int),AV.int .u64 (↑(x.1.getD i 0):Int),AV.int .u64 (↑(g.se i):Int),AV.bool (g.fl i)])/\True)/\((Tr 1 (q8=q5)/\True)/\q6)/\True) (Exx (Nat×DevG->Prop) fun I=>Exx (Nat×DevG->Nat) fun m=>(Exx (Nat×DevG) fun t=>I t/\(q1/\Tr 1 (x.2=x.2)/\Tr 14 (Tr 1 ((0:Int)=(t.1:Int))/\Tr 24 True))/\(q3/\(true=true/\zaC/\(0:Nat)=0/\(4:Nat)=4/\(0:Nat)=0/\q9/\y.cap=t.2.cap)/\Tr 1 (Tr 1 ((0:Int)=0)/\false=false/\false=false/\Tr 1 (y.left=t.2.left)/\Tr 1 (y.steps=t.2.steps)/\True))/\true=true/\(q4/\(4:Nat)=4/\y.cap=t.2.cap/\q10/\∀(i:Nat),i<x.1.length->[AV.int .u64 (↑(y.la i):Int),AV.int .u64 (↑(x_2.2.1.getD i 0):Int),AV.int .u64 (↑(y.se i):Int),AV.bool (y.fl i)]=[AV.int .u64 (↑(t.2.la i):Int),AV.int .u64 (↑(x.1.getD i 0):Int),AV.int .u64 (↑(t.2.se i):Int),AV.bool (t.2.fl i)])/\True)/\∀(t:Nat×DevG),
 let q11:Int:=q7+(t.1:Int);
 let q12:Nat:=0+q11.toNat;
 let q13:Prop:=q12<x.1.length;
 let q14:Int:=(t.1:Int)+1;
 let q15:Prop:=q12=q12;
 let q16:Int:=(↑(t.2.la q12):Int);
 let q17:Int:=(↑(x.1.getD q12 0):Int); I t->BC (decide ((t.1:Int)<(8:Int))) (I64 q7/\I64 q11/\((0:Int) <= q11/\q11<(x.1.length:Int))/\q13/\q13/\x.1.length=x.1.length/\q13/\x.1.length=x.1.length/\I64 q14/\Exx (Nat×DevG) fun t'=>(I t'/\m t'<m t)/\(q1/\Tr 1 (x.2=x.2)/\Tr 14 (Tr 1 (q14=(↑t'.fst:Int))/\Tr 24 True))/\(q3/\(true=true/\zaC/\(0:Nat)=0/\(4:Nat)=4/\(0:Nat)=0/\x.1.length=x.1.length/\t.2.cap=t'.snd.cap)/\Tr 1 (Tr 1 ((0:Int)=0)/\false=false/\false=false/\Tr 1 (t.2.left=t'.snd.left)/\Tr 1 (t.2.steps=t'.snd.steps)/\True))/\true=true/\(q4/\(4:Nat)=4/\t.2.cap=t'.snd.cap/\x.1.length <= x.1.length/\∀(i:Nat),
 let q18:Int:=(↑(x.1.getD i 0):Int); i<x.1.length->[AV.int .u64 (if i=q12 then if q15 then q16 else q16 else if i=q12 then q16 else (↑(t.2.la i):Int)),AV.int .u64 (if i=q12 then if q15 then q17 else q17 else if i=q12 then q17 else q18),AV.int .u64 (if i=q12 then if q15 then q17 else (↑(t.2.se q12):Int) else if i=q12 then q17 else (↑(t.2.se i):Int)),AV.bool (if i=q12 then true else if i=q12 then t.2.fl q12 else t.2.fl i)]=[AV.int .u64 (↑(t'.snd.la i):Int),AV.int .u64 q18,AV.int .u64 (↑(t'.snd.se i):Int),AV.bool (t'.snd.fl i)])/\True) (Exx (DevG×List Nat×Unit) fun x_3=>(q2/\true=true/\(q3/\(true=true/\zaC/\(0:Nat)=0/\(4:Nat)=4/\(0:Nat)=0/\x.1.length=x_3.2.1.length/\t.2.cap=x_3.1.cap)/\Tr 1 (Tr 1 ((0:Int)=0)/\false=false/\false=false/\Tr 1 (t.2.left=x_3.1.left)/\Tr 1 (t.2.steps=x_3.1.steps)/\True))/\(q4/\(4:Nat)=4/\t.2.cap=x_3.1.cap/\x_3.2.1.length <= x.1.length/\∀(i:Nat),i<x_3.2.1.length->[AV.int .u64 (↑(t.2.la i):Int),AV.int .u64 (↑(x.1.getD i 0):Int),AV.int .u64 (↑(t.2.se i):Int),AV.bool (t.2.fl i)]=[AV.int .u64 (↑(x_3.1.la i):Int),AV.int .u64 (↑(x_3.2.1.getD i 0):Int),AV.int .u64 (↑(x_3.1.se i):Int),AV.bool (x_3.1.fl i)])/\True)/\(DevW x_3.2.1/\True)/\∀(y:DevG),y.cap=x_3.1.cap->Exx Unit fun y_1=>Exx DevG fun g=>Tr 1 ((q3/\(true=true/\zaC/\(0:Nat)=0/\(4:Nat)=4/\(0:Nat)=0/\x_3.2.1.length=x.1.length/\y.cap=g.cap)/\Tr 1 (Tr 1 ((0:Int)=0)/\false=false/\false=false/\Tr 1 (y.left=g.left)/\Tr 1 (y.steps=g.steps)/\True))/\(q4/\(4:Nat)=4/\y.cap=g.cap/\x.1.length <= x_3.2.1.length/\∀(i:Nat),i<x.1.length->[AV.int .u64 (↑(y.la i):Int),AV.int .u64 (↑(x_3.2.1.getD i 0):Int),AV.int .u64 (↑(y.se i):Int),AV.bool (y.fl i)]=[AV.int .u64 (↑(g.la i):Int),AV.int .u64 (↑(x.1.getD i 0):Int),AV.int .u64 (↑(g.se i):Int),AV.bool (g.fl i)])/\True)/\((Tr 1 ((0:Int)=q5)/\True)/\q6)/\True)))=(zcE tb [(113,zc0 (zaB ziK) (zaB zgT)),(186,zaB zpI),(187,zaB znP)] Tryz.f156 zpK (fun x=>{ loops:=[(5,flushLA x)] }) (fun _ _ _=>none) (fun x=>[(0,devO x.1)]) (fun x y av H=>[(0,[2],devO x.1)])):=by kernel_rfl

theorem zyF:SpecOk Tryz.prog 156 (zaB zpK):=by
 refine za2 zaL zaN (SPok.cons (zbH zkF ziJ) (SPok.cons zpH (SPok.cons zrH SPok.nil))) Tryz.func156 (by decide) (zjG fun _=>rfl) (Eq.mp qhK ?_)
 simp (maxSteps:=10000000) only [std,stdU,stdV,Exx,I64,Nat.reduceMul,Nat.reduceDiv,Nat.reduceAdd,Int.reduceToNat,ziL,zgU,zaP]
 rintro ws a ⟨h,h1,h2⟩ g
 have hlen:=h.1
 refine ⟨g,ws,rfl,rfl,rfl,rfl,rfl,Nat.le_refl _,fun _ _=>rfl,h,fun y hy=>⟨y,ws,rfl,rfl,rfl,rfl,rfl,Nat.le_refl _,fun _ _=>rfl,h,h1,h2,by omega,by omega,fun y2 hy2=>⟨fun hne=>⟨rfl,y2,rfl,rfl,rfl,rfl,Nat.le_refl _,fun _ _=>rfl,rfl⟩,fun hz=>?_⟩⟩⟩
 obtain ⟨h3,h4⟩:0 <= a/\a<((ws.length / 8:Nat):Int):=by
  by_cases k:0 <= a/\a<((ws.length / 8:Nat):Int)
  ·exact k
  ·rw [mayErr,if_neg k] at hz; cases hz
 refine ⟨fun s=>s.1 <= 8,⟨0,y2,by simp,rfl,rfl,rfl,rfl,rfl,rfl,Nat.le_refl _,fun _ _=>rfl⟩,fun s=>8-s.1,?_⟩
 rintro i z hi
 simp only at hi
 refine ⟨fun hlt=>⟨by omega,by omega,by omega,by omega,by omega,by omega,by omega,by omega,by omega,by omega,by omega,i+1,{ z with se:=fun j=>if j=(a*8+(i:Int)).toNat then ws.getD j 0 else z.se j,fl:=fun j=>if j=(a*8+(i:Int)).toNat then true else z.fl j },by simp only; omega,by simp only; omega,by omega,rfl,rfl,rfl,rfl,fun j hj=>?_⟩,fun hge=>⟨z,ws,rfl,rfl,rfl,rfl,rfl,Nat.le_refl _,fun _ _=>rfl,h,fun y3 hy3=>⟨rfl,y3,rfl,rfl,rfl,rfl,Nat.le_refl _,fun _ _=>rfl,hz.symm⟩⟩⟩
 by_cases e:j=(a*8+(i:Int)).toNat
 ·subst e; simp
 ·simp [e]

def tupPtr (av:AV):Option Ren:=match av with
 | .tup (.ptr q _ _ :: _)=>some [some 0,some q]
 | _=>none
def devNewI:Ctr2 where
 X:=Int
 conv:=true
 tau:=fun _ _=>[]
 pre:=I64
 args:=fun n=>[i64 n]
 heap:=fun _=>[]
 p:=fun n=>0 <= n/\n <= 4096
 a:={ Y:=Unit,Q:=fun _ _=>True,res:=fun _ _ => .tup [.ptr 1 [] 0,i64 0],its:=fun _ _=>[],new:=fun n _=>[devI (List.replicate (8*n.toNat) 0)] }
 b:={ Y:=Unit,Q:=fun _ _=>True,res:=fun _ _ => .tup [.nilp,i64 2],its:=fun _ _=>[],new:=fun _ _=>[] }

theorem devNewV:(∀(x:Int),
 let q1:Prop:=(0:Int) <= x/\x <= (4096:Int);
 let q2:Prop:=(q1/\Exx Unit fun y=>False)\/¬devNewI.p x/\Exx Unit fun y=>((Tr 1 (Tr 1 ((2:Int)=2)/\True)/\True)/\true=true/\True)/\True;
 let q3:List Nat:=List.replicate (8*x.toNat) 0;
 let q4:Nat:=q3.length; -9223372036854775808 <= x/\x <= (9223372036854775807:Int)->BC (decide (x<(0:Int))) q2 (BC (decide ((4096:Int)<x)) q2 (I64 (x*8)/\((0:Int) <= x*8/\x*8 <= x*8/\(↑(32:Nat):Int)*(x*8) <= (281474976710656:Int)/\x*8 <= (9223372036854775807:Int))/\((q1/\Exx Unit fun y=>Exx DevG fun g =>
 let q5:Prop:=(x*8).toNat=g.cap; Tr 1 (((221:Nat)=(221:TypeId)/\(true=true/\zaC/\(0:Nat)=0/\(4:Nat)=4/\(0:Nat)=0/\(x*8).toNat=q4/\q5)/\Tr 1 (Tr 1 ((0:Int)=0)/\false=false/\false=false/\Tr 1 ((0:Int)=g.left)/\Tr 1 ((0:Int)=g.steps)/\True))/\((210:TypeId)=210/\(4:Nat)=4/\q5/\q4 <= (x*8).toNat/\∀(i:Nat),i<q4->[AV.int .u64 0,AV.int .u64 0,AV.int .u64 0,AV.bool false]=[AV.int .u64 (↑(g.la i):Int),AV.int .u64 (↑(q3.getD i 0):Int),AV.int .u64 (↑(g.se i):Int),AV.bool (g.fl i)])/\True)/\((((true=true/\zaC/\(0:Nat)=0)/\Tr 1 ((0:Int)=0)/\True)/\True)/\true=true/\(devO q3).ob=devB q3/\True)/\True)\/¬devNewI.p x/\Exx Unit fun y=>False/\True))))=(qgX tb [] Tryz.f76 devNewI (fun _=>{}) (fun _ av _=>tupPtr av) (fun _=>[]) (fun x y av H=>[(2,[1],devO (List.replicate (8*x.toNat) (0:Nat)))]) (fun _ _ _ _=>[])):=by kernel_rfl

theorem qhI:SpecOk Tryz.prog 76 (zmX devNewI):=by
 refine zwT zaL zaN SPok.nil Tryz.func76 (by decide) ⟨fun _ _ _ _=>rfl,fun _ _ _ _=>⟨rfl,rfl⟩,fun x _ _ _ _=>⟨⟨trivial,⟨trivial,trivial⟩⟩,rfl,rfl,trivial⟩⟩ ⟨fun _ _ _ _=>rfl,fun _ _ _ _=>⟨rfl,rfl⟩,fun x _ _ _ _=>⟨⟨trivial,trivial⟩,rfl,rfl,trivial⟩⟩ (Eq.mp devNewV ?_)
 simp (maxSteps:=10000000) only [std,stdU,stdV,Exx,I64,Nat.reduceMul,Nat.reduceDiv,Nat.reduceAdd,Int.reduceToNat,ziL,zgU,zaP]
 rintro n ⟨h1,h2⟩
 refine ⟨fun h k=>?_,fun h0=>⟨fun h k=>?_,fun h3=>?_⟩⟩
 ·have k':0 <= n/\n <= 4096:=k
  omega
 ·have k':0 <= n/\n <= 4096:=k
  omega
 ·refine ⟨by omega,by omega,by omega,by omega,by omega,by omega,by omega,by omega,by rw [List.length_replicate]; omega,{ la:=fun _=>0,se:=fun _=>0,fl:=fun _=>false,cap:=(n*8).toNat,left:=0,steps:=0 },rfl,rfl,rfl,rfl,by rw [List.length_replicate]; omega,fun i hi=>?_⟩
  rw [zjS]
  simp


def putW (ws:List Nat) (k:Nat) (q:List Nat):List Nat:=(List.range ws.length).map fun i=>if k <= i/\i<k+q.length then q.getD (i-k) 0 else ws.getD i 0
theorem zbT (ws:List Nat) (k:Nat) (q:List Nat):(putW ws k q).length=ws.length:=by simp [putW]
theorem zi1 {ws:List Nat} {k:Nat} {q:List Nat} {i:Nat}:(putW ws k q).getD i 0=if i<ws.length/\k <= i/\i<k+q.length then q.getD (i-k) 0 else ws.getD i 0:=by
 rw [putW,ze4]
 by_cases h:i<ws.length
 ·rw [if_pos h]; simp [h]
 ·rw [if_neg h,if_neg (fun k=>h k.1),List.getD_eq_getElem?_getD,List.getElem?_eq_none (by omega)]; rfl
theorem qj6 (ws:List Nat) (k:Nat):putW ws k []=ws:=zbF 0 (zbT _ _ _) fun i hi=>by rw [zi1,if_neg (by rw [List.length_nil]; omega)]
theorem qeQ {ws:List Nat} {k:Nat} {q:List Nat} {i:Nat} (hi:i<q.length) (hk:k+q.length <= ws.length):(putW ws k (q.take i)).set (k+i) (q.getD i 0)=putW ws k (q.take (i+1)):=by
 refine zbF 0 (by rw [List.length_set,zbT,zbT]) fun j hj=>?_
 rw [zbT] at hj
 rw [zs1 (by rw [zbT]; omega),zi1,zi1,List.length_take,List.length_take,Nat.min_eq_left (by omega),Nat.min_eq_left (by omega)]
 by_cases e:j=k+i
 ·subst e
  rw [if_pos rfl,if_pos (by omega),za3,show k+i-k=i by omega,if_pos (by omega)]
 ·rw [if_neg e]
  by_cases e2:j<ws.length/\k <= j/\j<k+i
  ·rw [if_pos e2,if_pos (by omega),za3,za3,if_pos (by omega),if_pos (by omega)]
  ·rw [if_neg e2,if_neg (by omega)]
theorem zxR {l:List Nat} {p:Nat->Prop} (h:∀i,i<l.length->p (l.getD i 0)):∀x∈l,p x:=fun x hx=>by
 obtain ⟨i,hi,e⟩:=List.mem_iff_getElem.1 hx
 have:=h i hi
 rw [List.getD_eq_getElem?_getD,List.getElem?_eq_getElem hi] at this
 rw [<- e]; exact this
theorem qeR {ws:List Nat} {k:Nat} {q:List Nat} (h:DevW ws) (hq:∀w∈q,U64 w):DevW (putW ws k q):=by
 refine ⟨by rw [zbT]; exact h.1,zxR fun i hi=>?_⟩
 rw [zi1]
 split
 ·exact getD_mem (p:=U64) hq (by unfold U64; omega) _
 ·exact getD_mem (p:=U64) h.2 (by unfold U64; omega) _

def zaT (ws:List Nat):Nat:=ws.length / 8
def zgP (ws:List Nat) (a:Nat):List Nat:=(ws.drop (8*a)).take 8
def zdE (ws:List Nat) (a:Int):Prop:=0 <= a/\a<(zaT ws:Int)
instance (ws:List Nat) (a:Int):Decidable (zdE ws a):=by unfold zdE; infer_instance
def zaX (ws:List Nat) (a:Int):Int:=mayErr a (zaT ws:Int)
theorem zb5 {ws:List Nat} {a:Int}:zaX ws a=0 ↔ zdE ws a:=by
 unfold zaX mayErr zdE
 split
 ·rename_i h; exact ⟨fun _=>h,fun _=>rfl⟩
 ·rename_i h; exact ⟨fun k=>(by cases k),fun k=>absurd k h⟩
def zk3:Ctr:=zpJ Int (fun x=>I64 x.2) (fun x=>[i64 x.2]) (fun x=>i64 (zaX x.1 x.2))

theorem qeZ:(∀(x:List Nat×Int),
 let q1:Prop:=Tr 1 ((2:Int)=zaX x.1 x.2)/\True; DevW x.1/\I64 x.2->BC (decide (x.2<(0:Int))) (Exx Unit fun y=>(q1/\devB x.1=devB x.1/\true=true/\True)/\True) (Exx (List Nat×Unit) fun x_1 =>
 let q2:Int:=(↑(x_1.1.length / 8):Int);
 let q3:Prop:=devB x_1.1=devB x.1/\true=true/\True; (((true=true/\zaC/\(0:Nat)=0)/\True)/\true=true/\devB x.1=devB x_1.1/\True)/\(DevW x_1.1/\True)/\∀(y:Unit),True->BC (decide (q2 <= x.2)) (Exx Unit fun y=>(q1/\q3)/\True) (Exx Unit fun y=>((Tr 1 ((0:Int)=zaX x.1 x.2)/\True)/\q3)/\True)))=(fnVC tb [(113,zc0 (zaB ziK) (zaB zgT))] Tryz.f116 zk3 (fun _=>{}) (fun _=>none)):=by kernel_rfl

theorem zoQ:SpecOk Tryz.prog 116 (zaB zk3):=by
 refine zaK zaL zaN (SPok.cons (zbH zkF ziJ) SPok.nil) Tryz.func116 (by decide) (zjG fun _=>rfl) (Eq.mp qeZ ?_)
 simp (maxSteps:=10000000) only [std,stdU,stdV,Exx,I64,Nat.reduceMul,Nat.reduceDiv,Nat.reduceAdd,Int.reduceToNat,zaP]
 rintro ws a ⟨h,h1,h2⟩
 have e:zaT ws=ws.length / 8:=rfl
 exact ⟨fun g=>by rw [zaX,mayErr,if_neg (by omega)],fun g=>⟨h,fun g2=>by rw [zaX,mayErr,if_neg (by omega)],fun g2=>by rw [zaX,mayErr,if_pos (by omega)]⟩⟩

def zj4:Ctr:=ztA (Nat×Nat×List Nat) (fun x=>x.2.1*8+x.2.2.1+x.2.2.2.length <= x.1.length/\x.2.1<zaT x.1/\∀w∈x.2.2.2,U64 w) (fun x=>[i64 (x.2.1:Nat),i64 (x.2.2.1:Nat),qbU .u64 x.2.2.2]) (fun x=>putW x.1 (x.2.1*8+x.2.2.1) x.2.2.2) (fun x=>i64 0)
def zuN (x:List Nat×Nat×Nat×List Nat):LA:={ T:=Nat,F:=fun i=>frm 35 [(0,.ptr 0 [] 0),(1,i64 (x.2.1:Nat)),(2,i64 (x.2.2.1:Nat)),(12,qbU .u64 x.2.2.2),(13,i64 (x.2.2.2.length:Nat)),(14,i64 (i:Nat))],H:=fun i=>[devI (putW x.1 (x.2.1*8+x.2.2.1) (x.2.2.2.take i)),.fence] }

theorem zxD:(
 let q1:Prop:=true=true/\zaC/\(0:Nat)=0; ∀(x:List Nat×Nat×Nat×List Nat),
 let q2:Nat:=x.2.2.1;
 let q3:Nat:=x.2.1*8+q2;
 let q4:List Nat:=x.2.2.2;
 let q5:Nat:=q4.length;
 let q6:Int:=(x.2.1:Int);
 let q7:Prop:=Tr 1 (q6=q6);
 let q8:Int:=(q2:Int);
 let q9:Prop:=Tr 1 (q8=q8);
 let q11:Prop:=(1:Nat)=1/\q5=q5/\∀(i:Nat),
 let q10:List AV:=[AV.int .u64 (↑(q4.getD i 0):Int)]; i<q5->q10=q10;
 let q12:Int:=(q5:Int);
 let q13:Prop:=Tr 1 (q12=q12);
 let q14:Int:=q6*8;
 let q15:Int:=q14+q8;
 let q16:Ob:=devB (putW x.1 q3 q4); (DevW x.1/\q3+q5 <= x.1.length/\x.2.1<zaT x.1/\∀(w:Nat),w∈q4->U64 w)->Exx (Nat->Prop) fun I=>Exx (Nat->Nat) fun m=>(Exx Nat fun t=>I t/\(q1/\q7/\q9/\Tr 9 (q11/\q13/\Tr 1 ((0:Int)=(t:Int))/\Tr 20 True))/\devB x.1=devB (putW x.1 q3 (List.take t q4))/\true=true/\True)/\∀(t:Nat),
 let q17:Int:=(t:Int)+1; I t->BC (decide ((t:Int)<q12)) (((0:Int) <= (t:Int)/\(t:Int)<q12)/\I64 q14/\I64 q15/\I64 (q15+(t:Int))/\Exx (List Nat×Int×Nat) fun x_1 =>
 let q18:Int:=zcU x_1.1 x_1.2.1;
 let q19:Prop:=q18=(0:Int);
 let q20:Ob:=devB (zjP x_1.1 x_1.2.1 x_1.2.2); ((q1/\Tr 1 (q15+(t:Int)=x_1.2.1)/\Tr 1 ((↑(q4.getD (t:Int).toNat 0):Int)=(x_1.2.2:Int))/\True)/\true=true/\devB (putW x.1 q3 (List.take t q4))=devB x_1.1/\True)/\(DevW x_1.1/\I64 x_1.2.1/\U64 x_1.2.2)/\∀(y:Unit),True->BC (!decide q19) (Exx Unit fun y=>((Tr 1 q19/\True)/\q20=q16/\true=true/\True)/\True) (I64 q17/\Exx Nat fun t'=>(I t'/\m t'<m t)/\(q1/\q7/\q9/\Tr 9 (q11/\q13/\Tr 1 (q17=(↑t':Int))/\Tr 20 True))/\q20=devB (putW x.1 q3 (List.take t' q4))/\true=true/\True)) (Exx (List Nat×Int) fun x_1=>((q1/\Tr 1 (q6=x_1.2)/\True)/\true=true/\devB (putW x.1 q3 (List.take t q4))=devB x_1.1/\True)/\(DevW x_1.1/\I64 x_1.2)/\∀(y:Unit),True->Exx Unit fun y=>((Tr 1 (mayErr x_1.2 (↑(x_1.1.length / 8):Int)=(0:Int))/\True)/\devB x_1.1=q16/\true=true/\True)/\True))=(fnVC tb [(155,zaB zpG),(156,zaB zpK)] Tryz.f117 zj4 (fun x=>{ loops:=[(2,zuN x)] }) (fun _=>none)):=by kernel_rfl

theorem zsA:SpecOk Tryz.prog 117 (zaB zj4):=by
 refine zaK zaL zaN (SPok.cons zyE (SPok.cons zyF SPok.nil)) Tryz.func117 (by decide) (zmL fun _=>rfl) (Eq.mp zxD ?_)
 simp (maxSteps:=10000000) only [std,stdU,stdV,Exx,I64,Nat.reduceMul,Nat.reduceDiv,Nat.reduceAdd,Int.reduceToNat,zaP]
 rintro ws ln f q ⟨h,hr,hl,hq⟩
 have hlen:=h.1
 refine ⟨fun t=>t <= q.length,⟨0,by omega,rfl,by rw [List.take_zero,qj6]⟩,fun t=>q.length-t,fun t ht=>⟨fun hlt=>?_,fun hge=>?_⟩⟩
 ·have hw:DevW (putW ws (ln*8+f) (q.take t)):=qeR h fun w hw=>hq w (List.mem_of_mem_take hw)
  have hn:(ln:Int)*8+(f:Int)+(t:Int)=((ln*8+f+t:Nat):Int):=by omega
  have he:zcU (putW ws (ln*8+f) (q.take t)) ((ln:Int)*8+(f:Int)+(t:Int))=0:=by rw [zcU,mayErr,zbT,if_pos (by omega)]
  have hs:zjP (putW ws (ln*8+f) (q.take t)) ((ln:Int)*8+(f:Int)+(t:Int)) (q.getD t 0)=putW ws (ln*8+f) (q.take (t+1)):=by
   rw [zjP,if_pos (by omega),hn,Int.toNat_natCast]
   exact qeQ (by omega) (by omega)
  exact ⟨by omega,by omega,by omega,by omega,by omega,by omega,by omega,by omega,hw,by omega,by omega,getD_mem (p:=U64) hq (by unfold U64; omega) t,fun g=>absurd he g,fun _=>⟨by omega,by omega,t+1,by omega,by simp only; omega,by omega,hs⟩⟩
 ·rw [show t=q.length by omega,List.take_length]
  exact ⟨qeR h hq,by omega,by omega,by rw [mayErr,if_pos (by rw [zbT]; unfold zaT at hl; omega)],rfl⟩

theorem zqF {b:List Nat} (h:∀x∈b,x<256):∀w∈zbL b,U64 w:=fun w hw=>by
 obtain ⟨i,_,rfl⟩:=List.mem_map.1 hw
 have h1:∀c∈(b.drop (8*i)).take 8,c<256:=fun c hc=>h c (List.mem_of_mem_drop (List.mem_of_mem_take hc))
 have:=zl7 _ h1
 have h2:((b.drop (8*i)).take 8).length <= 8:=by rw [List.length_take]; omega
 have h3:256 ^ ((b.drop (8*i)).take 8).length <= 256 ^ 8:=Nat.pow_le_pow_right (by decide) h2
 unfold U64; omega
def zdR (ws:List Nat) (a:Int) (b:List Nat):List Nat:=if zdE ws a/\b.length=64 then putW ws (8*a.toNat) (zbL b) else ws
def zdJ (ws:List Nat) (a:Int) (b:List Nat):Int:=if zdE ws a/\b.length=64 then 0 else 2
def zj3:Ctr:=ztA (Int×List Nat) (fun x=>I64 x.2.1/\Oct x.2.2) (fun x=>[i64 x.2.1,octA x.2.2]) (fun x=>zdR x.1 x.2.1 x.2.2) (fun x=>i64 (zdJ x.1 x.2.1 x.2.2))

theorem zxC:(
 let q1:Prop:=true=true/\zaC/\(0:Nat)=0; ∀(x:List Nat×Int×List Nat),
 let q2:Int:=zdJ x.1 x.2.1 x.2.2;
 let q3:Ob:=devB (zdR x.1 x.2.1 x.2.2);
 let q4:Int:=(x.2.2.length:Int); DevW x.1/\I64 x.2.1/\Oct x.2.2->Exx (List Nat×Int) fun x_1=>((q1/\Tr 1 (x.2.1=x_1.2)/\True)/\true=true/\devB x.1=devB x_1.1/\True)/\(DevW x_1.1/\I64 x_1.2)/\∀(y:Unit),True->BC (!decide (zaX x_1.1 x_1.2=(0:Int))) (Exx Unit fun y=>((Tr 1 (zaX x_1.1 x_1.2=q2)/\True)/\devB x_1.1=q3/\true=true/\True)/\True) (BC (!decide (q4=(64:Int))) (Exx Unit fun y=>((Tr 1 ((2:Int)=q2)/\True)/\devB x_1.1=q3/\true=true/\True)/\True) (Exx (List Nat) fun x_2=>(((x.2.2.length=x_2.length/\∀(i:Nat),i<x_2.length->[AV.int .u8 (↑(x.2.2.getD i 0):Int)]=[AV.int .u8 (↑(x_2.getD i 0):Int)])/\True)/\true=true/\True)/\Oct x_2/\∀(y:Nat),(zbL x_2).length <= y->Exx (List Nat×Nat×Nat×List Nat) fun x_3 =>
 let q5:Nat:=x_3.2.2.1;
 let q6:List Nat:=x_3.2.2.2;
 let q7:Nat:=q6.length;
 let q8:Nat:=x_3.2.1*8+q5; ((q1/\Tr 1 (x.2.1=(x_3.2.1:Int))/\Tr 1 ((0:Int)=(q5:Int))/\(0+(zbL x_2).length <= (zbL x_2).length/\(zbL x_2).length=q7/\∀(i:Nat),i<q7->[AV.int .u64 (↑((zbL x_2).getD (0+i) 0):Int)]=[AV.int .u64 (↑(q6.getD i 0):Int)])/\True)/\true=true/\devB x_1.1=devB x_3.1/\True)/\(DevW x_3.1/\q8+q7 <= x_3.1.length/\x_3.2.1<zaT x_3.1/\∀(w:Nat),w∈q6->U64 w)/\∀(y:Unit),True->Exx Unit fun y=>((Tr 1 ((0:Int)=q2)/\True)/\devB (putW x_3.1 q8 q6)=q3/\true=true/\True)/\True)))=(fnVC tb [(116,zaB zk3),(117,zaB zj4),(118,zaB qc3)] Tryz.f81 zj3 (fun _=>{}) (fun _=>none)):=by kernel_rfl

theorem zr9:SpecOk Tryz.prog 81 (zaB zj3):=by
 refine zaK zaL zaN (SPok.cons zoQ (SPok.cons zsA (SPok.cons qjB SPok.nil))) Tryz.func81 (by decide) (zmL fun _=>rfl) (Eq.mp zxC ?_)
 simp (maxSteps:=10000000) only [std,stdU,stdV,Exx,I64,Nat.reduceMul,Nat.reduceDiv,Nat.reduceAdd,Int.reduceToNat,zaP]
 rintro ws a b ⟨h,h1,h2,hb⟩
 have hlen:=h.1
 refine ⟨h,h1,h2,fun hne=>?_,fun hz=>⟨fun hb2=>?_,fun hb2=>⟨hb,fun y hy=>?_⟩⟩⟩
 ·have hn:¬zdE ws a:=fun k=>hne (zb5.2 k)
  rw [zdJ,if_neg (fun k=>hn k.1),zdR,if_neg (fun k=>hn k.1),zaX,mayErr,if_neg (show ¬(0 <= a/\a<(zaT ws:Int)) from hn)]
  exact ⟨rfl,rfl⟩
 ·rw [zdJ,if_neg (fun k=>hb2 (by rw [k.2]; rfl)),zdR,if_neg (fun k=>hb2 (by rw [k.2]; rfl))]
  exact ⟨rfl,rfl⟩
 ·have hin:=zb5.1 hz
  have hl:=hin
  unfold zdE zaT at hl
  have hb3:b.length=64:=by omega
  have hwl:=zd0 b
  refine ⟨ws,a.toNat,by omega,0,rfl,rfl,h,by omega,by unfold zaT; omega,zqF hb.1,by rw [zdJ,if_pos ⟨hin,hb3⟩],?_⟩
  rw [zdR,if_pos ⟨hin,hb3⟩,Nat.add_zero,Nat.mul_comm]

def zaQ (ws:List Nat) (a:Int):List Nat:=if zdE ws a then zaG (zgP ws a.toNat) else []
def zi2:Ctr where
 X:=List Nat×Int
 Y:=Nat
 conv:=true
 tau:=zgN
 pre:=fun x=>DevW x.1/\I64 x.2
 args:=fun x=>[.ptr 0 [] 0,i64 x.2]
 heap:=fun x=>[devI x.1]
 Q:=fun x cap=>(zaQ x.1 x.2).length <= cap
 res:=fun x cap => .tup [.sl 2 [] 0 1 0 (zaQ x.1 x.2).length cap,i64 (zaX x.1 x.2)]
 its:=fun x _=>[devI x.1]
 new:=fun x cap=>[rowN 5 .u8 cap (zaQ x.1 x.2)]
theorem zsB:CtrOk zi2 :=
 ⟨fun _ _ _ _=>(rfl:1=1),fun _ _ _ _=>⟨rfl,rfl⟩,fun x _ _ _ _=>⟨⟨⟨trivial,trivial⟩,⟨⟨fun _ _=>⟨rfl,trivial⟩,trivial⟩,trivial⟩⟩,rfl,rfl,trivial⟩⟩
def zxE (x:List Nat×Int):LA:={ T:=Nat,F:=fun i=>frm 38 [(0,.ptr 0 [] 0),(1,i64 x.2),(7,.ptr 2 [] 0),(17,i64 (i:Nat))],H:=fun i=>[devI x.1,.fence,.cells 261 [.arr 1 8 (fun j=>[u64 (if j<i then (zgP x.1 x.2.toNat).getD j 0 else 0)])]] }
def tupSl2 (av:AV):Option Ren:=match av with
 | .tup (.sl q _ _ _ _ _ _ :: _)=>some [some 0,some 1,some q]
 | _=>some [some 0,some 1,none]

theorem qbM:(
 let q1:Prop:=true=true/\zaC/\(0:Nat)=0;
 let q2:Nat:=8-0; ∀(x:List Nat×Int),
 let q3:Prop:=(zaQ x.1 x.2).length=0;
 let q4:Int:=x.2*8; DevW x.1/\I64 x.2->Exx (List Nat×Int) fun x_1=>((q1/\Tr 1 (x.2=x_1.2)/\True)/\true=true/\devB x.1=devB x_1.1/\True)/\(DevW x_1.1/\I64 x_1.2)/\∀(y:Unit),True->BC (!decide (zaX x_1.1 x_1.2=(0:Int))) (Exx Nat fun y=>((((q3/\y=0)/\Tr 1 (zaX x_1.1 x_1.2=zaX x.1 x.2)/\True)/\True)/\devB x_1.1=devB x.1/\true=true/\(y=0/\q3)/\True)/\(zaQ x.1 x.2).length <= y) (Exx (Nat->Prop) fun I=>Exx (Nat->Nat) fun m=>(Exx Nat fun t=>I t/\(q1/\Tr 1 (x.2=x.2)/\Tr 5 (q1/\Tr 9 (Tr 1 ((0:Int)=(t:Int))/\Tr 20 True)))/\devB x_1.1=devB x.1/\true=true/\((261:Nat)=(261:TypeId)/\(1:Nat)=1/\(8:Nat)=8/\(∀(i:Nat),i<8->[AV.int .u64 0]=[AV.int .u64 (↑(if i<t then (zgP x.1 x.2.toNat).getD i 0 else 0):Int)])/\True)/\True)/\∀(t:Nat),
 let q5:Int:=(t:Int)+1; I t->BC (decide ((t:Int)<(8:Int))) (I64 q4/\I64 (q4+(t:Int))/\Exx (List Nat×Int) fun x_2=>((q1/\Tr 1 (q4+(t:Int)=x_2.2)/\True)/\true=true/\devB x.1=devB x_2.1/\True)/\(DevW x_2.1/\I64 x_2.2)/\∀(y:Unit),True->BC (!decide (zcU x_2.1 x_2.2=(0:Int))) (Exx Nat fun y=>((((q3/\y=0)/\Tr 1 (zcU x_2.1 x_2.2=zaX x.1 x.2)/\True)/\True)/\devB x_2.1=devB x.1/\true=true/\(y=0/\q3)/\True)/\(zaQ x.1 x.2).length <= y) (((0:Int) <= (t:Int)/\(t:Int)<(↑(8:Nat):Int))/\(t:Int).toNat<8/\I64 q5/\Exx Nat fun t'=>(I t'/\m t'<m t)/\(q1/\Tr 1 (x.2=x.2)/\Tr 5 (q1/\Tr 9 (Tr 1 (q5=(↑t':Int))/\Tr 20 True)))/\devB x_2.1=devB x.1/\true=true/\((261:TypeId)=261/\(1:Nat)=1/\(8:Nat)=8/\(∀(i:Nat),
 let q6:Nat:=(zgP x.1 x.2.toNat).getD i 0; i<8->[AV.int .u64 (if i=(t:Int).toNat then (↑(if (0:Int) <= x_2.2 then x_2.1.getD x_2.2.toNat 0 else 0):Int) else (↑(if i<t then q6 else 0):Int))]=[AV.int .u64 (↑(if i<t' then q6 else 0):Int)])/\True)/\True)) (((0:Nat) <= (8:Nat)/\(8:Nat) <= (8:Nat))/\Exx (List Nat) fun x_2=>(((0+q2 <= 8/\q2=x_2.length/\∀(i:Nat),
 let q7:Nat:=0+i; i<x_2.length->[AV.int .u64 (↑(if q7<t then (zgP x.1 x.2.toNat).getD q7 0 else 0):Int)]=[AV.int .u64 (↑(x_2.getD i 0):Int)])/\True)/\true=true/\True)/\((∀(w:Nat),w∈x_2->U64 w)/\x_2.length <= 1000000)/\∀(y:Nat),(zaG x_2).length <= y->Exx Nat fun y_1=>((((true=true/\zaC/\(0:Nat)=0/\(1:Nat)=1/\(0:Nat)=0/\(zaG x_2).length=(zaQ x.1 x.2).length/\y=y_1)/\Tr 1 ((0:Int)=zaX x.1 x.2)/\True)/\True)/\devB x.1=devB x.1/\true=true/\((5:TypeId)=5/\(1:Nat)=1/\y=y_1/\(zaQ x.1 x.2).length <= (zaG x_2).length/\∀(i:Nat),i<(zaQ x.1 x.2).length->[AV.int .u8 (↑((zaG x_2).getD i 0):Int)]=[AV.int .u8 (↑((zaQ x.1 x.2).getD i 0):Int)])/\True)/\(zaQ x.1 x.2).length <= y_1)))=(zcE tb [(116,zaB zk3),(128,zaB zsF),(159,zaB ztB)] Tryz.f120 zi2 (fun x=>{ loops:=[(6,zxE x)] }) (fun _ av _=>tupSl2 av) (fun _=>[]) (fun _ _ _ _=>[])):=by kernel_rfl

theorem zuO:SpecOk Tryz.prog 120 (zaB zi2):=by
 refine za2 zaL zaN (SPok.cons zoQ (SPok.cons zuT (SPok.cons qcI SPok.nil))) Tryz.func120 (by decide) zsB (Eq.mp qbM ?_)
 simp (maxSteps:=10000000) only [std,stdU,stdV,Exx,I64,Nat.reduceMul,Nat.reduceDiv,Nat.reduceAdd,Int.reduceToNat,zaP]
 rintro ws a ⟨h,h1,h2⟩
 have hlen:=h.1
 refine ⟨h,h1,h2,fun hne=>?_,fun hz=>?_⟩
 ·have:zaQ ws a=[]:=by rw [zaQ,if_neg (fun k=>hne (zb5.2 k))]
  rw [this]; exact ⟨rfl,rfl,Nat.le_refl _⟩
 have hin:=zb5.1 hz
 have hl:=hin
 unfold zdE zaT at hl
 have hL:zaQ ws a=zaG (zgP ws a.toNat):=by rw [zaQ,if_pos hin]
 have hW:(zgP ws a.toNat).length=8:=by rw [zgP,List.length_take,List.length_drop]; omega
 have hg:∀t,t<8->(zgP ws a.toNat).getD t 0=ws.getD (8*a.toNat+t) 0:=fun t ht=>by rw [zgP,za3,if_pos ht,za6]
 refine ⟨fun t=>t <= 8,⟨0,by omega,rfl,fun i _=>by simp⟩,fun t=>8-t,fun t ht=>⟨fun hlt=>?_,fun hge=>?_⟩⟩
 ·have he:zcU ws (a*8+(t:Int))=0:=by rw [zcU,mayErr,if_pos (by omega)]
  refine ⟨by omega,by omega,by omega,by omega,h,by omega,by omega,fun g=>absurd he g,fun _=>⟨by omega,by omega,by omega,by omega,by omega,t+1,by omega,by simp only; omega,by omega,fun i hi=>?_⟩⟩
  by_cases e:i=t
  ·subst e
   rw [if_pos rfl,if_pos (by omega),if_pos (by omega),hg i hi,show (a*8+(i:Int)).toNat=8*a.toNat+i by omega]
  ·rw [if_neg e]
   by_cases e2:i<t
   ·rw [if_pos e2,if_pos (by omega)]
   ·rw [if_neg e2,if_neg (by omega)]
 ·refine ⟨by omega,zgP ws a.toNat,hW.symm,fun i hi=>by rw [if_pos (by omega)],fun w hw=>h.2 w (List.mem_of_mem_drop (List.mem_of_mem_take hw)),by omega,fun y hy=>?_⟩
  rw [hL]
  exact ⟨rfl,hz.symm,Nat.le_refl _,fun _ _=>rfl,hy⟩


structure StoreT where
 ws:List Nat
 a:AllocT
def zaF (s:StoreT):Prop:=DevW s.ws/\za7 s.a
abbrev zt7 (d a:Nat):Sx.Item := .cells 107 [.ptr d [] 0,.ptr a [] 0]
abbrev zbW (s:StoreT):AH:=[zt7 1 2,devI s.ws,zeX s.a]
def ziU (args:List AV) (H:AH):List Nat:=match args with
 | .ptr p _ _ :: _=>match H[p]? with
   | some (.cells _ (.ptr d _ _ :: .ptr a _ _ :: _))=>[p,d,a]
   | _=>[p]
 | _=>[]
theorem zlU (s:StoreT):plH (zbW s):=⟨⟨rfl,rfl,trivial⟩,trivial,trivial,trivial⟩
theorem qdO {x:AllocT} (h:za7 x) (r:Int):za7 (za1 x r):=by
 unfold za1
 split
 ·exact h
 ·exact ⟨h.1,h.2.1,h.2.2.1,h.2.2.2.1,h.2.2.2.2.1,qiF h.2.2.2.2.2⟩
theorem zsY {x:AllocT} (h:za7 x) (a:Int):za7 (zgB x a):=⟨h.1,h.2.1,h.2.2.1,h.2.2.2.1,h.2.2.2.2.1,qaG h.2.2.2.2.2⟩
theorem qjA {ws:List Nat} (h:DevW ws) (a:Int) {b:List Nat} (hb:Oct b):DevW (zdR ws a b):=by
 unfold zdR
 split
 ·exact qeR h (zqF hb.1)
 ·exact h
theorem zlT {x:AllocT} (h:za7 x) (r:Int):I64 (zd2 x r):=by
 unfold zd2
 split
 ·exact ⟨by omega,by omega⟩
 ·exact zs2 ⟨h.1,zx0 h⟩ 0

def zgG:Ctr where
 X:=StoreT×Int
 Y:=Nat
 conv:=true
 tau:=ziU
 pre:=fun x=>zaF x.1/\I64 x.2
 args:=fun x=>[.ptr 0 [] 0,i64 x.2]
 heap:=fun x=>zbW x.1
 Q:=fun x cap=>(zaQ x.1.ws x.2).length <= cap
 res:=fun x cap => .tup [.sl 4 [] 0 1 0 (zaQ x.1.ws x.2).length cap,i64 (zaX x.1.ws x.2)]
 its:=fun x _=>zbW x.1
 new:=fun x cap=>[rowN 5 .u8 cap (zaQ x.1.ws x.2)]
theorem zt8:CtrOk zgG :=
 ⟨fun _ _ _ _=>(rfl:3=3),fun _ _ _ _=>⟨rfl,rfl⟩,fun x _ _ _ _=>⟨⟨zlU _,⟨⟨fun _ _=>⟨rfl,trivial⟩,trivial⟩,trivial⟩⟩,rfl,rfl,trivial⟩⟩
def qdA (av:AV):Option Ren:=match av with
 | .tup (.sl q _ _ _ _ _ _ :: _)=>some [some 0,some 1,some 2,some 3,some q]
 | _=>some [some 0,some 1,some 2,some 3,none]

theorem qdY:(
 let q1:Prop:=true=true/\zaC/\(0:Nat)=0; ∀(x:StoreT×Int),zaF x.1/\I64 x.2->Exx (List Nat×Int) fun x_1=>((q1/\Tr 1 (x.2=x_1.2)/\True)/\true=true/\devB x.1.ws=devB x_1.1/\True)/\(DevW x_1.1/\I64 x_1.2)/\∀(y:Nat),(zaQ x_1.1 x_1.2).length <= y->Exx Nat fun y_1=>((((true=true/\zaC/\(0:Nat)=0/\(1:Nat)=1/\(0:Nat)=0/\(zaQ x_1.1 x_1.2).length=(zaQ x.1.ws x.2).length/\y=y_1)/\Tr 1 (zaX x_1.1 x_1.2=zaX x.1.ws x.2)/\True)/\True)/\((107:TypeId)=107/\q1/\q1/\True)/\devB x_1.1=devB x.1.ws/\zaA x.1.a=zaA x.1.a/\true=true/\((5:TypeId)=5/\(1:Nat)=1/\y=y_1/\(zaQ x.1.ws x.2).length <= (zaQ x_1.1 x_1.2).length/\∀(i:Nat),i<(zaQ x.1.ws x.2).length->[AV.int .u8 (↑((zaQ x_1.1 x_1.2).getD i 0):Int)]=[AV.int .u8 (↑((zaQ x.1.ws x.2).getD i 0):Int)])/\True)/\(zaQ x.1.ws x.2).length <= y_1)=(zcE tb [(120,zaB zi2)] Tryz.f85 zgG (fun _=>{}) (fun _ av _=>qdA av) (fun _=>[]) (fun _ _ _ _=>[])):=by kernel_rfl

theorem zjX:SpecOk Tryz.prog 85 (zaB zgG):=by
 refine za2 zaL zaN (SPok.cons zuO SPok.nil) Tryz.func85 (by decide) zt8 (Eq.mp qdY ?_)
 simp (maxSteps:=10000000) only [std,stdU,stdV,Exx,I64,Nat.reduceMul,Nat.reduceDiv,Nat.reduceAdd,Int.reduceToNat,zaP,zaH]
 exact fun s a ⟨h,h1,h2⟩=>⟨h.1,h1,h2,fun y hy=>hy⟩

def za0 (Y:Type) (pre:StoreT×Y->Prop) (args:StoreT×Y->List AV) (g:StoreT×Y->StoreT) (res:StoreT×Y->AV):Ctr where
 X:=StoreT×Y
 Y:=Unit
 conv:=true
 tau:=ziU
 pre:=fun x=>zaF x.1/\pre x
 args:=fun x => .ptr 0 [] 0 :: args x
 heap:=fun x=>zbW x.1
 Q:=fun _ _=>True
 res:=fun x _=>res x
 its:=fun x _=>zbW (g x)
 new:=fun _ _=>[]
theorem zaO {Y:Type} {pre:StoreT×Y->Prop} {args:StoreT×Y->List AV} {g:StoreT×Y->StoreT} {res:StoreT×Y->AV} (h:∀x,plV 2 (res x)):CtrOk (za0 Y pre args g res) :=
 ⟨fun _ _ _ _=>(rfl:3=3),fun _ _ _ _=>⟨rfl,rfl⟩,fun x _ _ _ _=>⟨⟨zlU _,trivial⟩,h x⟩⟩

structure Wr where
 s:StoreT
 at_:Int
 e:Int
def zcA (s:StoreT) (a:Int) (b:List Nat):Wr:={ s:={ s with ws:=zdR s.ws a b },at_:=if zdJ s.ws a b=0 then a else 0,e:=zdJ s.ws a b }
def makeR (s:StoreT) (b:List Nat):Wr :=
 if b.length=64 then if zb7 s.a s.a.r=0 then zcA { s with a:=za1 s.a s.a.r } (zd2 s.a s.a.r) b else { s:={ s with a:=za1 s.a s.a.r },at_:=0,e:=zb7 s.a s.a.r }
 else { s:=s,at_:=0,e:=2 }
def ownB (x:AllocT) (a:Int):Bool:=hasN (x.n,x.w) a && !hasN (x.n,x.m) a
def zhK (s:StoreT) (a:Int) (b:List Nat):Wr :=
 if b.length=64/\hasN (s.a.n,s.a.w) a=true then
  if ownB s.a a=true then zcA s a b
  else if (makeR s b).e=0 then { s:={ (makeR s b).s with a:=zgB (makeR s b).s.a a },at_:=(makeR s b).at_,e:=zcM (makeR s b).s.a a }
  else { s:=(makeR s b).s,at_:=0,e:=(makeR s b).e }
 else { s:=s,at_:=0,e:=2 }
theorem zlN {s:StoreT} (h:zaF s) (a:Int) {b:List Nat} (hb:Oct b):zaF (zcA s a b).s:=⟨qjA h.1 a hb,h.2⟩
theorem zmB {s:StoreT} (h:zaF s) {b:List Nat} (hb:Oct b):zaF (makeR s b).s:=by
 have ht:zaF { s with a:=za1 s.a s.a.r }:=⟨h.1,qdO h.2 _⟩
 unfold makeR
 split
 ·split
  ·exact zlN ht _ hb
  ·exact ht
 ·exact h
theorem zwJ {s:StoreT} (h:zaF s) (a:Int) {b:List Nat} (hb:Oct b):zaF (zhK s a b).s:=by
 have hm:=zmB h hb
 unfold zhK
 split
 ·split
  ·exact zlN h _ hb
  ·split
   ·exact ⟨hm.1,zsY hm.2 _⟩
   ·exact hm
 ·exact h
def wrA (r:Wr):AV := .tup [i64 r.at_,i64 r.e]
def znC:Ctr:=za0 (Int×List Nat) (fun x=>I64 x.2.1/\Oct x.2.2) (fun x=>[i64 x.2.1,octA x.2.2]) (fun x=>(zcA x.1 x.2.1 x.2.2).s) (fun x=>wrA (zcA x.1 x.2.1 x.2.2))

theorem qi9:(
 let q1:Prop:=true=true/\zaC/\(0:Nat)=0; ∀(x:StoreT×Int×List Nat),
 let q2:Wr:=zcA x.1 x.2.1 x.2.2;
 let q3:Int:=q2.at_;
 let q4:Int:=q2.e;
 let q5:StoreT:=q2.s; zaF x.1/\I64 x.2.1/\Oct x.2.2->Exx (List Nat×Int×List Nat) fun x_1 =>
 let q6:Int:=zdJ x_1.1 x_1.2.1 x_1.2.2;
 let q7:Prop:=((107:TypeId)=107/\q1/\q1/\True)/\devB (zdR x_1.1 x_1.2.1 x_1.2.2)=devB q5.ws/\zaA x.1.a=zaA q5.a/\true=true/\True; ((q1/\Tr 1 (x.2.1=x_1.2.1)/\(x.2.2.length=x_1.2.2.length/\∀(i:Nat),i<x_1.2.2.length->[AV.int .u8 (↑(x.2.2.getD i 0):Int)]=[AV.int .u8 (↑(x_1.2.2.getD i 0):Int)])/\True)/\true=true/\devB x.1.ws=devB x_1.1/\True)/\(DevW x_1.1/\I64 x_1.2.1/\Oct x_1.2.2)/\∀(y:Unit),True->BC (!decide (q6=(0:Int))) (Exx Unit fun y=>(((Tr 1 ((0:Int)=q3)/\Tr 1 (q6=q4)/\True)/\True)/\q7)/\True) (Exx Unit fun y=>(((Tr 1 (x.2.1=q3)/\Tr 1 ((0:Int)=q4)/\True)/\True)/\q7)/\True))=(fnVC tb [(81,zaB zj3)] Tryz.f47 znC (fun _=>{}) (fun _=>none)):=by kernel_rfl

theorem zqE:SpecOk Tryz.prog 47 (zaB znC):=by
 refine zaK zaL zaN (SPok.cons zr9 SPok.nil) Tryz.func47 (by decide) (zaO fun _=>⟨rfl,rfl,trivial⟩) (Eq.mp qi9 ?_)
 simp (maxSteps:=10000000) only [std,stdU,stdV,Exx,I64,Nat.reduceMul,Nat.reduceDiv,Nat.reduceAdd,Int.reduceToNat,zaP,zaH]
 rintro s a b ⟨h,h1,h2,hb⟩
 refine ⟨h.1,h1,h2,hb,fun hne=>⟨by rw [zcA]; simp only; rw [if_neg hne],rfl,rfl,rfl⟩,fun hz=>⟨by rw [zcA]; simp only; rw [if_pos hz],by rw [zcA]; exact hz.symm,rfl,rfl⟩⟩

def zgF:Ctr:=za0 (List Nat) (fun x=>Oct x.2) (fun x=>[octA x.2]) (fun x=>(makeR x.1 x.2).s) (fun x=>wrA (makeR x.1 x.2))

theorem qa3:(
 let q1:Prop:=true=true/\zaC/\(0:Nat)=0;
 let q2:Prop:=q1/\True;
 let q3:Prop:=(107:TypeId)=107/\q1/\q2; ∀(x:StoreT×List Nat),
 let q4:Prop:=Tr 1 ((0:Int)=(makeR x.1 x.2).at_);
 let q5:Prop:=devB x.1.ws=devB (makeR x.1 x.2).s.ws; zaF x.1/\Oct x.2->BC (!decide ((x.2.length:Int)=(64:Int))) (Exx Unit fun y=>(((q4/\Tr 1 ((2:Int)=(makeR x.1 x.2).e)/\True)/\True)/\q3/\q5/\zaA x.1.a=zaA (makeR x.1 x.2).s.a/\true=true/\True)/\True) (Exx (AllocT×Unit) fun x_1=>(q2/\true=true/\zaA x.1.a=zaA x_1.1/\True)/\(za7 x_1.1/\True)/\∀(y:Unit),True->BC (!decide (zb7 x_1.1 x_1.1.r=(0:Int))) (Exx Unit fun y=>(((q4/\Tr 1 (zb7 x_1.1 x_1.1.r=(makeR x.1 x.2).e)/\True)/\True)/\q3/\q5/\zaA (za1 x_1.1 x_1.1.r)=zaA (makeR x.1 x.2).s.a/\true=true/\True)/\True) (Exx (StoreT×Int×List Nat) fun x_2 =>
 let q6:Wr:=zcA x_2.1 x_2.2.1 x_2.2.2;
 let q7:StoreT:=q6.s; ((q1/\Tr 1 (zd2 x_1.1 x_1.1.r=x_2.2.1)/\(x.2.length=x_2.2.2.length/\∀(i:Nat),i<x_2.2.2.length->[AV.int .u8 (↑(x.2.getD i 0):Int)]=[AV.int .u8 (↑(x_2.2.2.getD i 0):Int)])/\True)/\true=true/\q3/\devB x.1.ws=devB x_2.1.ws/\zaA (za1 x_1.1 x_1.1.r)=zaA x_2.1.a/\True)/\(zaF x_2.1/\I64 x_2.2.1/\Oct x_2.2.2)/\∀(y:Unit),True->Exx Unit fun y=>(((Tr 1 (q6.at_=(makeR x.1 x.2).at_)/\Tr 1 (q6.e=(makeR x.1 x.2).e)/\True)/\True)/\q3/\devB q7.ws=devB (makeR x.1 x.2).s.ws/\zaA q7.a=zaA (makeR x.1 x.2).s.a/\true=true/\True)/\True)))=(fnVC tb [(46,zaB zmO),(47,zaB znC)] Tryz.f16 zgF (fun _=>{}) (fun _=>none)):=by kernel_rfl

theorem zhP:SpecOk Tryz.prog 16 (zaB zgF):=by
 refine zaK zaL zaN (SPok.cons zv9 (SPok.cons zqE SPok.nil)) Tryz.func16 (by decide) (zaO fun _=>⟨rfl,rfl,trivial⟩) (Eq.mp qa3 ?_)
 simp (maxSteps:=10000000) only [std,stdU,stdV,Exx,I64,Nat.reduceMul,Nat.reduceDiv,Nat.reduceAdd,Int.reduceToNat,zaP,zaH]
 rintro s b ⟨h,hb⟩
 refine ⟨fun hne=>?_,fun h64=>⟨h.2,fun hne=>?_,fun hz=>⟨{ s with a:=za1 s.a s.a.r },rfl,rfl,⟨h.1,qdO h.2 _⟩,(zlT h.2 _).1,(zlT h.2 _).2,hb,?_⟩⟩⟩
 ·rw [makeR,if_neg (fun k=>hne (by rw [k]; rfl))]; exact ⟨rfl,rfl,rfl,rfl⟩
 ·rw [makeR,if_pos (by omega),if_neg hne]; exact ⟨rfl,rfl,rfl,rfl⟩
 ·rw [makeR,if_pos (by omega),if_pos hz]; exact ⟨rfl,rfl,rfl,rfl⟩

def ziT:Ctr:=za0 (Int×List Nat) (fun x=>I64 x.2.1/\Oct x.2.2) (fun x=>[i64 x.2.1,octA x.2.2]) (fun x=>(zhK x.1 x.2.1 x.2.2).s) (fun x=>wrA (zhK x.1 x.2.1 x.2.2))

theorem qa2:(
 let q1:Prop:=true=true/\zaC/\(0:Nat)=0;
 let q2:Prop:=q1/\True;
 let q3:Prop:=(107:TypeId)=107/\q1/\q2; ∀(x:StoreT×Int×List Nat),
 let q4:Int:=(x.2.2.length:Int);
 let q5:Wr:=zhK x.1 x.2.1 x.2.2;
 let q6:Int:=q5.at_;
 let q7:Prop:=Tr 1 ((0:Int)=q6);
 let q8:Int:=q5.e;
 let q9:Prop:=(q7/\Tr 1 ((2:Int)=q8)/\True)/\True;
 let q10:StoreT:=q5.s;
 let q11:Ob:=devB q10.ws;
 let q12:Prop:=devB x.1.ws=q11;
 let q13:Ob:=zaA q10.a; zaF x.1/\I64 x.2.1/\Oct x.2.2->BC (!decide (q4=(64:Int))) (Exx Unit fun y=>(q9/\q3/\q12/\zaA x.1.a=q13/\true=true/\True)/\True) (Exx AllocT fun x_1=>(q2/\true=true/\zaA x.1.a=zaA x_1/\True)/\za7 x_1/\∀(y:Unit),True->Exx ((Nat×Nat)×Int) fun x_2=>((q1/\Tr 1 (x.2.1=x_2.2)/\True)/\true=true/\setB (x_1.n,x_1.w)=setB x_2.1/\True)/\(SetW x_2.1/\I64 x_2.2)/\∀(y:Unit),True->BC (!hasN x_2.1 x_2.2) (Exx Unit fun y=>(q9/\q3/\q12/\zaA x_1=q13/\true=true/\True)/\True) (Exx (AllocT×Int) fun x_3=>((q1/\Tr 1 (x.2.1=x_3.2)/\True)/\true=true/\zaA x_1=zaA x_3.1/\True)/\(za7 x_3.1/\I64 x_3.2)/\∀(y:Unit),True->BC (hasN (x_3.1.n,x_3.1.w) x_3.2 && !hasN (x_3.1.n,x_3.1.m) x_3.2) (Exx (StoreT×Int×List Nat) fun x_4 =>
 let q14:Wr:=zcA x_4.1 x_4.2.1 x_4.2.2;
 let q15:StoreT:=q14.s; ((q1/\Tr 1 (x.2.1=x_4.2.1)/\(x.2.2.length=x_4.2.2.length/\∀(i:Nat),i<x_4.2.2.length->[AV.int .u8 (↑(x.2.2.getD i 0):Int)]=[AV.int .u8 (↑(x_4.2.2.getD i 0):Int)])/\True)/\true=true/\q3/\devB x.1.ws=devB x_4.1.ws/\zaA x_3.1=zaA x_4.1.a/\True)/\(zaF x_4.1/\I64 x_4.2.1/\Oct x_4.2.2)/\∀(y:Unit),True->Exx Unit fun y=>(((Tr 1 (q14.at_=q6)/\Tr 1 (q14.e=q8)/\True)/\True)/\q3/\devB q15.ws=q11/\zaA q15.a=q13/\true=true/\True)/\True) (Exx (StoreT×List Nat) fun x_4=>((q1/\(x.2.2.length=x_4.2.length/\∀(i:Nat),i<x_4.2.length->[AV.int .u8 (↑(x.2.2.getD i 0):Int)]=[AV.int .u8 (↑(x_4.2.getD i 0):Int)])/\True)/\true=true/\q3/\devB x.1.ws=devB x_4.1.ws/\zaA x_3.1=zaA x_4.1.a/\True)/\(zaF x_4.1/\Oct x_4.2)/\∀(y:Unit),True->BC (!decide ((makeR x_4.1 x_4.2).e=(0:Int))) (Exx Unit fun y=>(((q7/\Tr 1 ((makeR x_4.1 x_4.2).e=q8)/\True)/\True)/\q3/\devB (makeR x_4.1 x_4.2).s.ws=q11/\zaA (makeR x_4.1 x_4.2).s.a=q13/\true=true/\True)/\True) (Exx (AllocT×Int) fun x_5=>((q1/\Tr 1 (x.2.1=x_5.2)/\True)/\true=true/\zaA (makeR x_4.1 x_4.2).s.a=zaA x_5.1/\True)/\(za7 x_5.1/\I64 x_5.2)/\∀(y:Unit),True->Exx Unit fun y=>(((Tr 1 ((makeR x_4.1 x_4.2).at_=q6)/\Tr 1 (zcM x_5.1 x_5.2=q8)/\True)/\True)/\q3/\devB (makeR x_4.1 x_4.2).s.ws=q11/\zaA (zgB x_5.1 x_5.2)=q13/\true=true/\True)/\True)))))=(fnVC tb [(16,zaB zgF),(47,zaB znC),(60,zaB zy6),(93,zaB zjJ),(135,zc0 (zaB zlZ) (zaB ziW)),(166,zaB zpY)] Tryz.f125 ziT (fun _=>{}) (fun _=>none)):=by kernel_rfl

theorem zmV:SpecOk Tryz.prog 125 (zaB ziT):=by
 refine zaK zaL zaN (SPok.cons zhP (SPok.cons zqE (SPok.cons zy5 (SPok.cons zm9 (SPok.cons (zbH zkS ziV) (SPok.cons zyT SPok.nil)))))) Tryz.func125 (by decide) (zaO fun _=>⟨rfl,rfl,trivial⟩) (Eq.mp qa2 ?_)
 simp (maxSteps:=10000000) only [std,stdU,stdV,Exx,I64,Nat.reduceMul,Nat.reduceDiv,Nat.reduceAdd,Int.reduceToNat,zaP,zaH,zaV]
 rintro s a b ⟨h,h1,h2,hb⟩
 have hs:SetW (s.a.n,s.a.w):=⟨h.2.1,h.2.2.2.2.2.2⟩
 refine ⟨fun hne=>?_,fun h64=>⟨h.2,hs,h1,h2,fun hn=>?_,fun hy=>⟨h.2,h1,h2,fun ho=>⟨s,rfl,rfl,h,h1,h2,hb,?_⟩,fun ho=>⟨s,rfl,rfl,h,hb,fun hne=>?_,fun hz=>⟨(zmB h hb).2,h1,h2,?_⟩⟩⟩⟩⟩
 ·rw [zhK,if_neg (fun k=>hne (by rw [k.1]; rfl))]; exact ⟨rfl,rfl,rfl,rfl⟩
 ·rw [zhK,if_neg (fun k=>by rw [k.2] at hn; cases hn)]; exact ⟨rfl,rfl,rfl,rfl⟩
 ·rw [zhK,if_pos ⟨by omega,hy⟩,if_pos (show ownB s.a a=true from ho)]; exact ⟨rfl,rfl,rfl,rfl⟩
 ·rw [zhK,if_pos ⟨by omega,hy⟩,if_neg (fun k=>by rw [ownB,ho] at k; cases k),if_neg hne]; exact ⟨rfl,rfl,rfl,rfl⟩
 ·rw [zhK,if_pos ⟨by omega,hy⟩,if_neg (fun k=>by rw [ownB,ho] at k; cases k),if_pos hz]; exact ⟨rfl,rfl,rfl,rfl⟩

def storeNewI:Ctr2 where
 X:=StoreT
 conv:=true
 tau:=tau2
 pre:=zaF
 args:=fun _=>[.ptr 0 [] 0,.ptr 1 [] 0]
 heap:=fun s=>[devI s.ws,zeX s.a]
 p:=fun s=>s.a.n <= zaT s.ws
 a:={ Y:=Unit,Q:=fun _ _=>True,res:=fun _ _ => .tup [.ptr 3 [] 0,i64 0],its:=fun s _=>[devI s.ws,zeX s.a],new:=fun _ _=>[zt7 0 1] }
 b:={ Y:=Unit,Q:=fun _ _=>True,res:=fun _ _ => .tup [.nilp,i64 2],its:=fun s _=>[devI s.ws,zeX s.a],new:=fun _ _=>[] }
def tupPtr2 (av:AV):Option Ren:=match av with
 | .tup (.ptr q _ _ :: _)=>some [some 0,some 1,some 2,some q]
 | _=>none

theorem qdW:(
 let q1:Prop:=true=true/\zaC/\(0:Nat)=0;
 let q2:Prop:=q1/\True; ∀(x:StoreT),DevW x.ws/\za7 x.a->Exx AllocT fun x_1=>(q2/\true=true/\zaA x.a=zaA x_1/\True)/\za7 x_1/\∀(y:Unit),True->Exx ((Nat×Nat)×Unit) fun x_2=>(q2/\true=true/\setB (x_1.n,x_1.w)=setB x_2.1/\True)/\(SetW x_2.1/\True)/\∀(y:Unit),True->Exx (List Nat×Unit) fun x_3 =>
 let q3:Int:=(↑(x_3.1.length / 8):Int); (q2/\true=true/\devB x.ws=devB x_3.1/\True)/\(DevW x_3.1/\True)/\∀(y:Unit),True->BC (decide (q3<(x_2.1.1:Int))) ((x.a.n.le (zaT x.ws)/\Exx Unit fun y=>(((False/\Tr 1 ((2:Int)=0)/\True)/\True)/\devB x_3.1=devB x.ws/\zaA x_1=zaA x.a/\true=true/\False/\True)/\True)\/¬storeNewI.p x/\Exx Unit fun y=>((Tr 1 (Tr 1 ((2:Int)=2)/\True)/\True)/\devB x_3.1=devB x.ws/\zaA x_1=zaA x.a/\true=true/\True)/\True) ((x.a.n.le (zaT x.ws)/\Exx Unit fun y=>(((q1/\Tr 1 ((0:Int)=0)/\True)/\True)/\devB x_3.1=devB x.ws/\zaA x_1=zaA x.a/\true=true/\((107:Nat)=(107:TypeId)/\q1/\q2)/\True)/\True)\/¬storeNewI.p x/\Exx Unit fun y=>False/\True))=(qgX tb [(60,zaB zy6),(111,zaB zf0),(113,zc0 (zaB ziK) (zaB zgT))] Tryz.f79 storeNewI (fun _=>{}) (fun _ av _=>tupPtr2 av) (fun _=>[]) (fun _ _ _ _=>[]) (fun _ _ _ _=>[])):=by kernel_rfl

theorem zwO:SpecOk Tryz.prog 79 (zmX storeNewI):=by
 refine zwT zaL zaN (SPok.cons zy5 (SPok.cons ze9 (SPok.cons (zbH zkF ziJ) SPok.nil))) Tryz.func79 (by decide) ⟨fun _ _ _ _=>rfl,fun _ _ _ _=>⟨rfl,rfl⟩,fun x _ _ _ _=>⟨⟨⟨trivial,trivial,trivial⟩,⟨⟨rfl,rfl,trivial⟩,trivial⟩⟩,rfl,rfl,trivial⟩⟩ ⟨fun _ _ _ _=>rfl,fun _ _ _ _=>⟨rfl,rfl⟩,fun x _ _ _ _=>⟨⟨⟨trivial,trivial,trivial⟩,trivial⟩,rfl,rfl,trivial⟩⟩ (Eq.mp qdW ?_)
 simp (maxSteps:=10000000) only [std,stdU,stdV,Exx,I64,Nat.reduceMul,Nat.reduceDiv,Nat.reduceAdd,Int.reduceToNat,zaP,zaH,zaV]
 rintro s ⟨h1,h2⟩
 have e:zaT s.ws=s.ws.length / 8:=rfl
 refine ⟨h2,⟨h2.1,h2.2.2.2.2.2⟩,h1,fun h k=>?_,fun h=>?_⟩
 ·have k':s.a.n <= zaT s.ws:=k
  omega
 ·show s.a.n <= zaT s.ws
  omega

def zdI (n:Nat) (r:Int):StoreT:={ ws:=List.replicate (8*n) 0,a:={ n:=n,r:=r,c:=addL n 0 [0,1],e:=0,m:=addL n 0 [0,1],w:=addL n 0 [0,1] } }
def zi6:Ctr where
 X:=Nat×Int
 Y:=Unit
 conv:=true
 tau:=fun _ _=>[]
 pre:=fun x=>x.1 <= 3072/\0 <= x.2/\I64 x.2
 args:=fun x=>[i64 (x.1:Nat),i64 x.2]
 heap:=fun _=>[]
 Q:=fun _ _=>True
 res:=fun _ _ => .tup [.ptr 1 [] 0,.ptr 2 [] 0,.ptr 3 [] 0]
 its:=fun _ _=>[]
 new:=fun x _=>[zt7 2 3,devI (zdI x.1 x.2).ws,zeX (zdI x.1 x.2).a]
theorem zsL:CtrOk zi6 :=
 ⟨fun _ _ _ _=>rfl,fun _ _ _ _=>⟨rfl,rfl⟩,fun x _ _ _ _=>⟨⟨trivial,⟨⟨rfl,rfl,trivial⟩,trivial,trivial,trivial⟩⟩,rfl,rfl,rfl,trivial⟩⟩
def tupPtr3 (av:AV):Option Ren:=match av with
 | .tup (.ptr q _ _ :: .ptr r _ _ :: .ptr s _ _ :: _)=>some [some 0,some q,some r,some s]
 | _=>none

theorem qbV:(
 let q1:Nat:=(TI.mk (TK.int IntKind.i64) 1 8 (ZL.cons (Value.int IntKind.i64 0) ZL.nil) false).size;
 let q2:Prop:=zaC/\(0:Nat)=0;
 let q3:Prop:=true=true/\q2;
 let q4:Prop:=q3/\q3/\True;
 let q5:Prop:=false=true/\q2;
 let q6:Prop:=q5/\True;
 let q7:Prop:=False/\q2;
 let q8:Prop:=q5/\False/\True;
 let q9:Prop:=False/\q6; ∀(x:Nat×Int),x.1 <= 3072/\(0:Int) <= x.2/\I64 x.2->Exx Int fun x_1=>((Tr 1 ((x.1:Int)=x_1)/\True)/\true=true/\True)/\(-9223372036854775808 <= x_1/\x_1 <= (9223372036854775807:Int))/\((0:Int) <= x_1/\x_1 <= (4096:Int)->∀(y:Unit),True->Exx (Int×List Int) fun x_2=>((Tr 1 ((x.1:Int)=x_2.1)/\((0:Nat)+(2:Nat) <= (2:Nat)/\2=x_2.2.length/\∀(i:Nat),
 let q10:Nat:=0+i; i<x_2.2.length->[AV.int .i64 (if q10=1*1 / 1 then 1 else if q10=0*1 / 1 then 0 else 0)]=[AV.int .i64 (x_2.2.getD i 0)])/\True)/\true=true/\True)/\(I64 x_2.1/\Ints x_2.2)/\∀(y:Unit),True->Exx (Int×List Int) fun x_3=>((Tr 1 ((x.1:Int)=x_3.1)/\(0=x_3.2.length/\∀(i:Nat),i<x_3.2.length->[]=[AV.int .i64 (x_3.2.getD i 0)])/\True)/\true=true/\True)/\(I64 x_3.1/\Ints x_3.2)/\∀(y:Unit),True->Exx ((Nat×Nat)×(Nat×Nat)×Int) fun x_4 =>
 let q11:Prop:=true=true/\False/\False/\setB x_4.1=zaA (zdI x.1 x.2).a/\True; ((q3/\q3/\Tr 1 (x.2=x_4.2.2)/\True)/\true=true/\setB (zbV x_2.1,addL (zbV x_2.1) 0 x_2.2)=setB x_4.1/\setB (zbV x_3.1,addL (zbV x_3.1) 0 x_3.2)=setB x_4.2.1/\True)/\(SetW x_4.1/\SetW x_4.2.1/\I64 x_4.2.2)/\(x_4.1.1=x_4.2.1.1/\(0:Int) <= x_4.2.2->∀(y:Unit),True->Exx StoreT fun x_5=>(q4/\true=true/\devB (List.replicate (8*x_1.toNat) (0:Nat))=devB x_5.ws/\zaA (zcL x_4)=zaA x_5.a/\True)/\(DevW x_5.ws/\za7 x_5.a)/\(x_5.a.n.le (zaT x_5.ws)->∀(y:Unit),True->Exx Unit fun y=>(((q3/\q4)/\True)/\true=true/\((107:TypeId)=107/\q4)/\devB x_5.ws=devB (zdI x.1 x.2).ws/\zaA x_5.a=zaA (zdI x.1 x.2).a/\True)/\True)/\(¬storeNewI.p x_5->∀(y:Unit),True->Exx Unit fun y=>(((False/\q5/\q6)/\True)/\q11)/\True))/\(¬allocNewI.p x_4->∀(y:Unit),True->Exx StoreT fun x=>((q7/\False/\True)/\false=true/\False/\False/\True)/\(DevW x.ws/\za7 x.a)/\(x.a.n.le (zaT x.ws)->∀(y:Unit),True->Exx Unit fun y=>(((q5/\q8)/\True)/\q11)/\True)/\(¬storeNewI.p x->∀(y:Unit),True->Exx Unit fun y=>(((False/\q8)/\True)/\q11)/\True)))/\(¬devNewI.p x_1->∀(y:Unit),True->Exx (Int×List Int) fun x_2=>((Tr 1 ((x.1:Int)=x_2.1)/\((0:Nat)+(2:Nat) <= (2:Nat)/\2=x_2.2.length/\∀(i:Nat),
 let q12:Nat:=0+i; i<x_2.2.length->[AV.int .i64 (if q12=1*1 / 1 then 1 else if q12=0*1 / 1 then 0 else 0)]=[AV.int .i64 (x_2.2.getD i 0)])/\True)/\true=true/\True)/\(I64 x_2.1/\Ints x_2.2)/\∀(y:Unit),True->Exx (Int×List Int) fun x_3=>((Tr 1 ((x.1:Int)=x_3.1)/\(0=x_3.2.length/\∀(i:Nat),i<x_3.2.length->[]=[AV.int .i64 (x_3.2.getD i 0)])/\True)/\true=true/\True)/\(I64 x_3.1/\Ints x_3.2)/\∀(y:Unit),True->Exx ((Nat×Nat)×(Nat×Nat)×Int) fun x_4 =>
 let q13:Prop:=true=true/\False/\setB x_4.1=devB (zdI x.1 x.2).ws/\setB x_4.2.1=zaA (zdI x.1 x.2).a/\True; ((q3/\q3/\Tr 1 (x.2=x_4.2.2)/\True)/\true=true/\setB (zbV x_2.1,addL (zbV x_2.1) 0 x_2.2)=setB x_4.1/\setB (zbV x_3.1,addL (zbV x_3.1) 0 x_3.2)=setB x_4.2.1/\True)/\(SetW x_4.1/\SetW x_4.2.1/\I64 x_4.2.2)/\(x_4.1.1=x_4.2.1.1/\(0:Int) <= x_4.2.2->∀(y:Unit),True->Exx StoreT fun x=>((False/\q7/\True)/\false=true/\False/\False/\True)/\(DevW x.ws/\za7 x.a)/\(x.a.n.le (zaT x.ws)->∀(y:Unit),True->Exx Unit fun y=>(((q5/\q9)/\True)/\q13)/\True)/\(¬storeNewI.p x->∀(y:Unit),True->Exx Unit fun y=>(((False/\q9)/\True)/\q13)/\True))/\(¬allocNewI.p x_4->∀(y:Unit),True->Exx StoreT fun x=>((False/\False/\True)/\false=true/\False/\False/\True)/\(DevW x.ws/\za7 x.a)/\(x.a.n.le (zaT x.ws)->∀(y:Unit),True->Exx Unit fun y=>(((q5/\False/\False/\True)/\True)/\q13)/\True)/\(¬storeNewI.p x->∀(y:Unit),True->Exx Unit fun y=>(((False/\False/\False/\True)/\True)/\q13)/\True))))=(zcE tb [(76,zmX devNewI),(77,zm8),(78,zaB qd9),(79,zmX storeNewI)] Tryz.f45 zi6 (fun _=>{}) (fun _ av _=>tupPtr3 av) (fun _=>[]) (fun _ _ _ _=>[])):=by kernel_rfl

theorem zu1:SpecOk Tryz.prog 45 (zaB zi6):=by
 refine za2 zaL zaN (SPok.cons qhI (SPok.cons zqC (SPok.cons qjS (SPok.cons zwO SPok.nil)))) Tryz.func45 (by decide) zsL (Eq.mp qbV ?_)
 simp (maxSteps:=10000000) only [std,stdU,stdV,Exx,I64,Nat.reduceMul,Nat.reduceDiv,Nat.reduceAdd,Int.reduceToNat,zaP,zaH,zaV]
 rintro n r ⟨hn,h0,h1,h2⟩
 have hcl:zbV (n:Int)=n:=by unfold zbV; omega
 have hz:0<2 ^ n:=Nat.pos_of_ne_zero (by simp)
 rw [hcl]
 have hw:zaF (zdI n r):=⟨⟨by show (List.replicate (8*n) 0).length <= _; rw [List.length_replicate]; omega,fun w hw=>by have:w=0:=(List.mem_replicate.1 hw).2; subst this; unfold U64; omega⟩,hn,⟨h1,h2⟩,zgC hz,hz,zgC hz,zgC hz⟩
 have hl:(zdI n r).a.n <= zaT (zdI n r).ws:=by
  show n <= (List.replicate (8*n) 0).length / 8
  rw [List.length_replicate]; omega
 have hi2:∀i,i<([0,1]:List Int).length->(if i=1 then [AV.int IntKind.i64 1] else if i=0 then [AV.int IntKind.i64 0] else [AV.int IntKind.i64 0])=[AV.int IntKind.i64 (([0,1]:List Int).getD i 0)]:=fun i hi=>by
  have hi:i<2:=hi
  have:i=0\/i=1:=by omega
  rcases this with rfl | rfl <;> rfl
 have hI:Ints [0,1]:=⟨fun x hx=>by
  simp at hx
  rcases hx with rfl | rfl <;> exact ⟨by omega,by omega⟩,by simp⟩
 exact ⟨by omega,by omega,fun _=>⟨[0,1],rfl,hi2,by omega,by omega,hI,[],rfl,fun i hi=>by simp at hi,by omega,by omega,⟨by simp,by simp⟩,⟨hn,zgC hz⟩,⟨hn,hz⟩,h1,h2,fun _=>⟨zdI n r,rfl,rfl,hw.1,hw.2,fun _=>⟨rfl,rfl⟩,fun h=>h hl⟩,fun h=>absurd (show allocNewI.p ((n,addL n 0 [0,1]),(n,addL n 0 []),r) from ⟨rfl,h0⟩) h⟩,fun h=>absurd (show devNewI.p (n:Int) from ⟨by omega,by omega⟩) h⟩

end Yard
