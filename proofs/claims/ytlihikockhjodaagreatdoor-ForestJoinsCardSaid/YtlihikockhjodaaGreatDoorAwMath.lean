import Derived.Test.YtlihikockhjodaaGreatDoorTreeList
import Derived.Test.YtlihikockhjodaaGreatDoorLinkOps

namespace Yard
open Go Go.Sx Go.Proofs
set_option linter.unusedVariables false
set_option linter.unusedSimpArgs false
set_option maxRecDepth 4000
set_option maxHeartbeats 4000000

abbrev qiT (s d a:Nat) (t:TickT):Sx.Item := .cells 42 (.ptr s [] 0 :: .ptr d [] 0 :: .ptr a [] 0 :: tickV t)
abbrev zhW (s:StoreT) (t:TickT):AH:=[qiT 1 2 3 t,zs1 2 3,devI s.ws,zfG s.a]
def qoK (args:List AV) (H:AH):List Nat:=match args with
 | .ptr p _ _ :: _=>match H[p]? with
   | some (.cells _ (.ptr s _ _ :: .ptr d _ _ :: .ptr a _ _ :: _))=>[p,s,d,a]
   | _=>[p]
 | _=>[]
theorem standPl (s:StoreT) (t:TickT):plH (zhW s t):=⟨⟨rfl,rfl,rfl,rfl,rfl,rfl,rfl,rfl,rfl,trivial⟩,⟨rfl,rfl,trivial⟩,trivial,trivial,trivial⟩
def zlM (Y:Type) (pre:(StoreT×TickT)×Y->Prop) (args:(StoreT×TickT)×Y->List AV) (res:(StoreT×TickT)×Y->AV):Ctr where
 X:=(StoreT×TickT)×Y
 Y:=Unit
 conv:=true
 tau:=qoK
 pre:=fun x=>zaG x.1.1/\pre x
 args:=fun x => .ptr 0 [] 0 :: args x
 heap:=fun x=>zhW x.1.1 x.1.2
 Q:=fun _ _=>True
 res:=fun x _=>res x
 its:=fun x _=>zhW x.1.1 x.1.2
 new:=fun _ _=>[]
theorem ziM {Y:Type} {pre:(StoreT×TickT)×Y->Prop} {args:(StoreT×TickT)×Y->List AV} {res:(StoreT×TickT)×Y->AV} (h:∀x,plV 2 (res x)):CtrOk (zlM Y pre args res) :=
 ⟨fun _ _ _ _=>(rfl:4=4),fun _ _ _ _=>⟨rfl,rfl⟩,fun x _ _ _ _=>⟨⟨standPl _ _,trivial⟩,h x⟩⟩
def zxB:Ctr where
 X:=Nat×Int
 Y:=Unit
 conv:=true
 tau:=fun _ _=>[]
 pre:=fun x=>x.1 <= 3072/\I64 x.2
 args:=fun x=>[i64 (x.1:Nat),i64 x.2]
 heap:=fun _=>[]
 Q:=fun _ _=>True
 res:=fun _ _ => .ptr 1 [] 0
 its:=fun _ _=>[]
 new:=fun x _=>[qiT 2 3 4 (zp1 (x.1:Nat) x.2 100),zs1 3 4,devI (zd5 x.1 0).ws,zfG (zd5 x.1 0).a]
theorem qiO:CtrOk zxB :=
 ⟨fun _ _ _ _=>rfl,fun _ _ _ _=>⟨rfl,rfl⟩,fun x _ _ _ _=>⟨⟨trivial,⟨⟨rfl,rfl,rfl,rfl,rfl,rfl,rfl,rfl,rfl,trivial⟩,⟨rfl,rfl,trivial⟩,trivial,trivial,trivial⟩⟩,rfl⟩⟩
def stoodSg (av:AV):Option Ren:=match av with
 | .ptr q _ _=>some [some 0,some q,some 1,some 2,some 3]
 | _=>none
theorem stoodV:(
 let q1:Prop:=true=true/\zaC/\(0:Nat)=0;
 let q2:Prop:=q1/\True; ∀(x:Nat×Int),
 let q3:TickT:=zp1 (x.1:Int) x.2 100; x.1 <= 3072/\I64 x.2->Exx (Nat×Int) fun x_1=>((Tr 1 ((x.1:Int)=(x_1.1:Int))/\Tr 1 ((0:Int)=x_1.2)/\True)/\true=true/\True)/\(x_1.1 <= 3072/\(0:Int) <= x_1.2/\I64 x_1.2)/\∀(y:Unit),True->Exx Unit fun y=>(q2/\true=true/\((42:Nat)=(42:TypeId)/\q1/\q1/\q1/\Tr 1 ((x.1:Int)=q3.blocks)/\Tr 1 (x.2=q3.slots)/\Tr 1 ((100:Int)=q3.gens)/\Tr 1 ((0:Int)=q3.top)/\Tr 1 ((0:Int)=q3.high)/\Tr 1 ((0:Int)=q3.free)/\True)/\((107:TypeId)=107/\q1/\q2)/\devB (zd5 x_1.1 x_1.2).ws=devB (zd5 x.1 0).ws/\zaB (zd5 x_1.1 x_1.2).a=zaB (zd5 x.1 0).a/\True)/\True)=(zcA tb [(45,zaA zj5)] Tryz.f15 zxB (fun _=>{}) (fun _ av _=>stoodSg av) (fun _=>[]) (fun _ _ _ _=>[])):=by kernel_rfl

theorem qdH:SpecOk Tryz.prog 15 (zaA zxB):=by
 refine za0 zaM zaL (SPok.cons zyH SPok.nil) Tryz.func15 (by decide) qiO (Eq.mp stoodV ?_)
 simp (maxSteps:=10000000) only [std,stdU,stdV,Exx,I64,Nat.reduceMul,Nat.reduceDiv,Nat.reduceAdd,Int.reduceToNat,zaQ,zaI]
 rintro n sl ⟨h,h1,h2⟩
 exact ⟨h,by omega,by omega,by omega,rfl,rfl,rfl,rfl,rfl,rfl⟩


def zfP (n:Nat) (ts:List Nat) (F:Fr) (_:AH):Option Ren:=some (qp7 n n++ts.map fun t=>match F.getD t .any with
 | .ptr q _ _=>some q
 | .sl q _ _ _ _ _ _=>some q
 | _=>none)
abbrev zoJ (s:StoreT) (t:TickT):AH:=[.fence,qiT 2 3 4 t,zs1 3 4,devI s.ws,zfG s.a]
def awT:TickT:=zp1 ((30:Nat):Int) 9 100
def aw22a:MR:=zb7 (zd5 30 0) awT 5 1
def aw22b:MR:=zb7 aw22a.s aw22a.t 3 2
def aw22c:TR:=lkRes aw22b.s aw22b.t aw22a.a aw22b.a
abbrev handC (h:HandT):Sx.Item := .cells 27 [i64 h.slot,i64 h.gen]
attribute [irreducible] aw22a aw22b aw22c

structure AwOk:Prop where
 wa:zaG aw22a.s
 ta:zaS aw22a.t
 ia:I64 aw22a.a
 ea:aw22a.e=0
 wb:zaG aw22b.s
 tb:zaS aw22b.t
 ib:I64 aw22b.a
 hb:aw22b.h=⟨1,1⟩
 eb:aw22b.e=0
 wc:zaG aw22c.s
 tc:zaS aw22c.t
 ic:I64 aw22c.a
 ec:aw22c.e=0
 list:listE aw22c.s.ws aw22c.a=([⟨1,1,3,2⟩,⟨0,1,5,1⟩],0)
 seat:zcL aw22c.s.ws aw22c.t ⟨1,1⟩=0
 next:(seatX aw22c.s.ws aw22c.t ⟨1,1⟩).next=aw22c.a
end Yard
