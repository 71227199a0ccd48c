import Derived.Test.YtlihikockhjodaaGreatDoorShadow
import Derived.Test.YtlihikockhjodaaGreatDoorRefList
import Derived.Test.YtlihikockhjodaaGreatDoorAwMath

namespace Yard
open Go Go.Sx Go.Proofs
set_option linter.unusedVariables false
set_option linter.unusedSimpArgs false
set_option maxRecDepth 4000
set_option maxHeartbeats 4000000

abbrev qrP (ws:List Nat) (g:DevG) (j:Nat):List AV:=[u64 (g.la j),u64 (ws.getD j 0),u64 (g.se j),.bool (g.fl j)]
def zpS:Ctr where
 X:=DevG×List Nat×Nat
 Y:=Unit
 conv:=true
 tau:=zgC
 pre:=fun x=>DevW x.2.1/\x.2.2<x.2.1.length
 args:=fun x=>[.ptr 0 [(0,4,x.2.2)] 0]
 heap:=fun x=>[.row 210 4 x.1.cap x.2.1.length (qrP x.2.1 x.1)]
 Q:=fun _ _=>True
 res:=fun x _=>u64 (x.2.1.getD x.2.2 0)
 its:=fun x _=>[.row 210 4 x.1.cap x.2.1.length (qrP x.2.1 x.1)]
 new:=fun _ _=>[]
theorem qe2:CtrOk zpS :=
 ⟨fun _ _ _ _=>(rfl:1=1),fun _ _ _ _=>⟨rfl,rfl⟩,fun x _ _ _ _=>⟨⟨⟨⟨fun _ _=>⟨rfl,rfl,rfl,rfl,trivial⟩,trivial⟩,trivial⟩,trivial⟩,rfl⟩⟩
theorem viewFnV:(∀(x:DevG×List Nat×Nat),
 let q1:Prop:=x.2.2<x.2.1.length;
 let q2:Int:=(↑(x.2.1.getD x.2.2 0):Int); DevW x.2.1/\q1->q1/\Exx Unit fun y=>((Tr 1 (q2=q2)/\True)/\((210:TypeId)=210/\4=4/\x.1.cap=x.1.cap/\x.2.1.length <= x.2.1.length/\∀(i:Nat),
 let q3:List AV:=[AV.int .u64 (↑(x.1.la i):Int),AV.int .u64 (↑(x.2.1.getD i 0):Int),AV.int .u64 (↑(x.1.se i):Int),AV.bool (x.1.fl i)]; i<x.2.1.length->q3=q3)/\true=true/\True)/\True)=(fnVC tb [] Tryz.f108 zpS (fun _=>{}) (fun _=>none)):=by kernel_rfl

theorem zwX:SpecOk Tryz.prog 108 (zaA zpS):=by
 refine zaK zaM zaL SPok.nil Tryz.func108 (by decide) qe2 (Eq.mp viewFnV ?_)
 simp (maxSteps:=10000000) only [std,stdU,stdV,Exx,I64,Nat.reduceMul,Nat.reduceDiv,Nat.reduceAdd,Int.reduceToNat]
 rintro g ws i ⟨h,hi⟩
 exact hi

def zkC:Ctr where
 X:=DevG×List Nat
 Y:=DevG×Nat
 conv:=true
 tau:=qmG
 pre:=fun x=>DevW x.2
 args:=fun _=>[.ptr 0 [] 0,.fn 108]
 heap:=fun x=>zrZ x.2 x.1
 Q:=fun x y=>y.1.cap=x.1.cap/\(zaD x.2).length <= y.2
 res:=fun x y => .sl 3 [] 0 1 0 (zaD x.2).length y.2
 its:=fun x y=>zrZ x.2 y.1
 new:=fun x y=>[rowN 5 .u8 y.2 (zaD x.2)]
theorem zwD:CtrOk zkC :=
 ⟨fun _ _ _ _=>(rfl:2=2),fun _ _ _ _=>⟨rfl,rfl⟩,fun x _ _ _ _=>⟨⟨devPl _ _,⟨⟨fun _ _=>⟨rfl,trivial⟩,trivial⟩,trivial⟩⟩,rfl⟩⟩
def qcJ (x:DevG×List Nat):LA:={ T:=Nat,F:=fun i=>frm 35 [(0,.ptr 0 [] 0),(1,.fn 108),(5,.sl 3 [] 0 1 0 x.2.length x.2.length),(17,i64 (x.2.length:Nat)),(18,i64 (i:Nat))],H:=fun i=>zrZ x.2 x.1++[.fence,.row 111 1 x.2.length x.2.length (fun j=>[u64 (if j<i then x.2.getD j 0 else 0)])] }
def slSg3 (av:AV):Option Ren:=match av with
 | .sl q _ _ _ _ _ _=>some [some 0,some 1,some 2,some q]
 | _=>some [some 0,some 1,some 2,none]
theorem qhA:(
 let q1:Prop:=true=true/\zaC/\0=0;
 let q2:Prop:=(221:TypeId)=221;
 let q3:Prop:=(210:TypeId)=210;
 let q4:Prop:=(111:TypeId)=111; ∀(x:DevG×List Nat),
 let q5:Prop:=(x.2.length:Int).toNat=x.2.length;
 let q6:Prop:=Tr 1 ((x.2.length:Int)=(x.2.length:Int));
 let q7:Prop:=q2/\(true=true/\zaC/\0=0/\4=4/\0=0/\x.2.length=x.2.length/\x.1.cap=x.1.cap)/\Tr 1 (Tr 1 ((0:Int)=0)/\false=false/\false=false/\Tr 1 (x.1.left=x.1.left)/\Tr 1 (x.1.steps=x.1.steps)/\True);
 let q8:Prop:=x.2.length <= x.2.length; DevW x.2->((0:Int) <= (x.2.length:Int)/\(x.2.length:Int) <= (x.2.length:Int)/\(↑(8:Nat):Int)*(x.2.length:Int) <= (281474976710656:Int)/\(x.2.length:Int) <= (9223372036854775807:Int))/\Exx (Nat->Prop) fun I=>Exx (Nat->Nat) fun m=>(Exx Nat fun t=>I t/\(q1/\108=108/\Tr 3 ((true=true/\zaC/\0=0/\1=1/\0=0/\q5/\q5)/\Tr 11 (q6/\Tr 1 (0=(t:Int))/\Tr 16 True)))/\q7/\(q3/\4=4/\x.1.cap=x.1.cap/\q8/\∀(i:Nat),
 let q9:List AV:=[AV.int .u64 (↑(x.1.la i):Int),AV.int .u64 (↑(x.2.getD i 0):Int),AV.int .u64 (↑(x.1.se i):Int),AV.bool (x.1.fl i)]; i<x.2.length->q9=q9)/\true=true/\(q4/\1=1/\q5/\x.2.length <= (x.2.length:Int).toNat/\∀(i:Nat),i<x.2.length->[AV.int .u64 0]=[AV.int .u64 (↑(if i<t then x.2.getD i 0 else 0):Int)])/\True)/\∀(t:Nat),
 let q10:Prop:=(t:Int)<(x.2.length:Int);
 let q11:Prop:=(0:Int) <= (t:Int)/\q10;
 let q12:Nat:=0+(t:Int).toNat;
 let q13:Int:=(t:Int)+1; I t->BC (decide q10) (q11/\Exx (DevG×List Nat×Nat) fun x_1=>(((true=true/\[]++[(0,4,q12)]=[(0,4,x_1.2.2)]/\0=0)/\True)/\true=true/\(q3/\4=4/\x.1.cap=x_1.1.cap/\x_1.2.1.length <= x.2.length/\∀(i:Nat),i<x_1.2.1.length->[AV.int .u64 (↑(x.1.la i):Int),AV.int .u64 (↑(x.2.getD i 0):Int),AV.int .u64 (↑(x.1.se i):Int),AV.bool (x.1.fl i)]=[AV.int .u64 (↑(x_1.1.la i):Int),AV.int .u64 (↑(x_1.2.1.getD i 0):Int),AV.int .u64 (↑(x_1.1.se i):Int),AV.bool (x_1.1.fl i)])/\True)/\(DevW x_1.2.1/\x_1.2.2<x_1.2.1.length)/\∀(y:Unit),True->q11/\q12<x.2.length/\x.2.length=x.2.length/\I64 q13/\Exx Nat fun t'=>(I t'/\m t'<m t)/\(q1/\108=108/\Tr 3 ((true=true/\zaC/\0=0/\1=1/\0=0/\x.2.length=x.2.length/\x.2.length=x.2.length)/\Tr 11 (q6/\Tr 1 (q13=(↑t':Int))/\Tr 16 True)))/\q7/\(q3/\4=4/\x_1.1.cap=x.1.cap/\x.2.length <= x_1.2.1.length/\∀(i:Nat),i<x.2.length->[AV.int .u64 (↑(x_1.1.la i):Int),AV.int .u64 (↑(x_1.2.1.getD i 0):Int),AV.int .u64 (↑(x_1.1.se i):Int),AV.bool (x_1.1.fl i)]=[AV.int .u64 (↑(x.1.la i):Int),AV.int .u64 (↑(x.2.getD i 0):Int),AV.int .u64 (↑(x.1.se i):Int),AV.bool (x.1.fl i)])/\true=true/\(q4/\1=1/\x.2.length=x.2.length/\q8/\∀(i:Nat),i<x.2.length->[AV.int .u64 (if i=q12 then (↑(x_1.2.1.getD x_1.2.2 0):Int) else (↑(if i<t then x.2.getD i 0 else 0):Int))]=[AV.int .u64 (↑(if i<t' then x.2.getD i 0 else 0):Int)])/\True) (Exx (List Nat) fun x_1=>(((0+x.2.length <= x.2.length/\x.2.length=x_1.length/\∀(i:Nat),
 let q14:Nat:=0+i; i<x_1.length->[AV.int .u64 (↑(if q14<t then x.2.getD q14 0 else 0):Int)]=[AV.int .u64 (↑(x_1.getD i 0):Int)])/\True)/\true=true/\True)/\((∀(w:Nat),w∈x_1->U64 w)/\x_1.length <= 1000000)/\∀(y:Nat),(zaD x_1).length <= y->Exx (DevG×Nat) fun y_1=>(((true=true/\zaC/\0=0/\1=1/\0=0/\(zaD x_1).length=(zaD x.2).length/\y=y_1.2)/\True)/\(q2/\(true=true/\zaC/\0=0/\4=4/\0=0/\x.2.length=x.2.length/\x.1.cap=y_1.1.cap)/\Tr 1 (Tr 1 ((0:Int)=0)/\false=false/\false=false/\Tr 1 (x.1.left=y_1.1.left)/\Tr 1 (x.1.steps=y_1.1.steps)/\True))/\(q3/\4=4/\x.1.cap=y_1.1.cap/\q8/\∀(i:Nat),
 let q15:AV:=AV.int .u64 (↑(x.2.getD i 0):Int); i<x.2.length->[AV.int .u64 (↑(x.1.la i):Int),q15,AV.int .u64 (↑(x.1.se i):Int),AV.bool (x.1.fl i)]=[AV.int .u64 (↑(y_1.1.la i):Int),q15,AV.int .u64 (↑(y_1.1.se i):Int),AV.bool (y_1.1.fl i)])/\true=true/\((5:TypeId)=5/\1=1/\y=y_1.2/\(zaD x.2).length <= (zaD x_1).length/\∀(i:Nat),i<(zaD x.2).length->[AV.int .u8 (↑((zaD x_1).getD i 0):Int)]=[AV.int .u8 (↑((zaD x.2).getD i 0):Int)])/\True)/\y_1.1.cap=x.1.cap/\(zaD x.2).length <= y_1.2))=(zcA tb [(128,zaA zq0),(108,zaA zpS)] Tryz.f107 zkC (fun x=>{ loops:=[(3,qcJ x)] }) (fun _ av _=>slSg3 av) (fun _=>[]) (fun _ _ _ _=>[])):=by kernel_rfl

theorem zzK:SpecOk Tryz.prog 107 (zaA zkC):=by
 refine za0 zaM zaL (SPok.cons zqZ (SPok.cons zwX SPok.nil)) Tryz.func107 (by decide) zwD (Eq.mp qhA ?_)
 simp (maxSteps:=10000000) only [std,stdU,stdV,Exx,I64,Nat.reduceMul,Nat.reduceDiv,Nat.reduceAdd,Int.reduceToNat,List.cons.injEq]
 rintro g ws h
 have hlen:=h.1
 refine ⟨by omega,by omega,by omega,by omega,fun t=>t <= ws.length,⟨0,Nat.zero_le _,rfl,fun i hi=>rfl⟩,fun t=>ws.length-t,fun t ht=>⟨fun hlt=>⟨by omega,by omega,g,ws,t,rfl,rfl,Nat.le_refl _,fun _ _=>⟨rfl,rfl,rfl,rfl⟩,h,by omega,by omega,by omega,by omega,by omega,by omega,t+1,by omega,by simp only; omega,by omega,rfl,Nat.le_refl _,fun _ _=>⟨rfl,rfl,rfl,rfl⟩,fun i hi=>?_⟩,fun hge=>⟨ws,rfl,fun i hi=>by rw [if_pos (by omega)],h.2,by omega,fun y hy=>⟨rfl,g,rfl,rfl,rfl,rfl,fun _ _=>⟨rfl,rfl,rfl⟩,Nat.le_refl _,fun _ _=>rfl,rfl,hy⟩⟩⟩⟩
 by_cases e:i=t
 ·subst e; rw [if_pos rfl,if_pos (by omega)]
 ·rw [if_neg e]
  by_cases e2:i<t
  ·rw [if_pos e2,if_pos (by omega)]
  ·rw [if_neg e2,if_neg (by omega)]

def zpJ:Ctr where
 X:=List Nat
 Y:=Nat
 conv:=true
 tau:=zgC
 pre:=DevW
 args:=fun _=>[.ptr 0 [] 0]
 heap:=fun ws=>[devI ws]
 Q:=fun ws cap=>(zaD ws).length <= cap
 res:=fun ws cap => .sl 2 [] 0 1 0 (zaD ws).length cap
 its:=fun ws _=>[devI ws]
 new:=fun ws cap=>[rowN 5 .u8 cap (zaD ws)]
theorem qcH:CtrOk zpJ :=
 ⟨fun _ _ _ _=>(rfl:1=1),fun _ _ _ _=>⟨rfl,rfl⟩,fun x _ _ _ _=>⟨⟨⟨trivial,trivial⟩,⟨⟨fun _ _=>⟨rfl,trivial⟩,trivial⟩,trivial⟩⟩,rfl⟩⟩
def slSg2 (av:AV):Option Ren:=match av with
 | .sl q _ _ _ _ _ _=>some [some 0,some 1,some q]
 | _=>some [some 0,some 1,none]
theorem qqM:(
 let q1:Prop:=(221:TypeId)=221;
 let q2:Prop:=(210:TypeId)=210; ∀(x:List Nat),DevW x->devB x=(devO x).ob/\∀(g:DevG),Exx (DevG×List Nat) fun x_1=>(((true=true/\zaC/\0=0)/\108=108/\True)/\true=true/\(q1/\(true=true/\zaC/\0=0/\4=4/\0=0/\x.length=x_1.2.length/\g.cap=x_1.1.cap)/\Tr 1 (Tr 1 ((0:Int)=0)/\false=false/\false=false/\Tr 1 (g.left=x_1.1.left)/\Tr 1 (g.steps=x_1.1.steps)/\True))/\(q2/\4=4/\g.cap=x_1.1.cap/\x_1.2.length <= x.length/\∀(i:Nat),i<x_1.2.length->[AV.int .u64 (↑(g.la i):Int),AV.int .u64 (↑(x.getD i 0):Int),AV.int .u64 (↑(g.se i):Int),AV.bool (g.fl i)]=[AV.int .u64 (↑(x_1.1.la i):Int),AV.int .u64 (↑(x_1.2.getD i 0):Int),AV.int .u64 (↑(x_1.1.se i):Int),AV.bool (x_1.1.fl i)])/\True)/\DevW x_1.2/\∀(y:DevG×Nat),y.1.cap=x_1.1.cap/\(zaD x_1.2).length <= y.2->Exx Nat fun y_1=>Exx DevG fun g=>Tr 1 ((q1/\(true=true/\zaC/\0=0/\4=4/\0=0/\x_1.2.length=x.length/\y.1.cap=g.cap)/\Tr 1 (Tr 1 ((0:Int)=0)/\false=false/\false=false/\Tr 1 (y.1.left=g.left)/\Tr 1 (y.1.steps=g.steps)/\True))/\(q2/\4=4/\y.1.cap=g.cap/\x.length <= x_1.2.length/\∀(i:Nat),i<x.length->[AV.int .u64 (↑(y.1.la i):Int),AV.int .u64 (↑(x_1.2.getD i 0):Int),AV.int .u64 (↑(y.1.se i):Int),AV.bool (y.1.fl i)]=[AV.int .u64 (↑(g.la i):Int),AV.int .u64 (↑(x.getD i 0):Int),AV.int .u64 (↑(g.se i):Int),AV.bool (g.fl i)])/\True)/\(((true=true/\zaC/\0=0/\1=1/\0=0/\(zaD x_1.2).length=(zaD x).length/\y.2=y_1)/\True)/\(devO x).ob=devB x/\true=true/\((5:TypeId)=5/\1=1/\y.2=y_1/\(zaD x).length <= (zaD x_1.2).length/\∀(i:Nat),i<(zaD x).length->[AV.int .u8 (↑((zaD x_1.2).getD i 0):Int)]=[AV.int .u8 (↑((zaD x).getD i 0):Int)])/\True)/\(zaD x).length <= y_1)=(zcA tb [(107,zaA zkC),(108,zaA zpS)] Tryz.f72 zpJ (fun _=>{}) (fun _ av _=>slSg2 av) (fun x=>[(0,devO x)]) (fun x y av H=>[(0,[2],devO x)])):=by kernel_rfl

theorem qg9:SpecOk Tryz.prog 72 (zaA zpJ):=by
 refine za0 zaM zaL (SPok.cons zzK (SPok.cons zwX SPok.nil)) Tryz.func72 (by decide) qcH (Eq.mp qqM ?_)
 simp (maxSteps:=10000000) only [std,stdU,stdV,Exx,I64,Nat.reduceMul,Nat.reduceDiv,Nat.reduceAdd,Int.reduceToNat,zhQ,zfY,zaQ]
 rintro ws h g
 exact ⟨g,ws,rfl,rfl,rfl,rfl,rfl,Nat.le_refl _,fun _ _=>rfl,h,fun g2 c hc=>⟨rfl,c,g2,rfl,rfl,rfl,rfl,Nat.le_refl _,fun _ _=>rfl,rfl,rfl,rfl,Nat.le_refl _,fun _ _=>rfl,hc.2⟩⟩


def qeE:Ctr:=zlM Unit (fun _=>True) (fun _=>[]) (fun x=>strN (zaD x.1.1.ws))
theorem imageV:(
 let q1:Prop:=true=true/\zaC/\0=0;
 let q2:Prop:=q1/\True; ∀(x:(StoreT×TickT)×Unit),zaG x.1.1/\True->Exx (List Nat) fun x_1=>(q2/\true=true/\devB x.1.1.ws=devB x_1/\True)/\DevW x_1/\∀(y:Nat),(zaD x_1).length <= y->0+(zaD x_1).length <= (zaD x_1).length/\Exx (List Nat) fun m=>((zaD x_1).length=m.length/\∀(i:Nat),i<m.length->[AV.int .u8 (↑((zaD x_1).getD (0+i) 0):Int)]=[AV.int .u8 (↑(m.getD i 0):Int)])/\(∀(c:Nat),c∈m->c<256)/\Exx Unit fun y=>((cstr m=cstr (zaD x.1.1.ws)/\True)/\((42:TypeId)=42/\q1/\q1/\q1/\Tr 1 (x.1.2.blocks=x.1.2.blocks)/\Tr 1 (x.1.2.slots=x.1.2.slots)/\Tr 1 (x.1.2.gens=x.1.2.gens)/\Tr 1 (x.1.2.top=x.1.2.top)/\Tr 1 (x.1.2.high=x.1.2.high)/\Tr 1 (x.1.2.free=x.1.2.free)/\True)/\((107:TypeId)=107/\q1/\q2)/\devB x_1=devB x.1.1.ws/\zaB x.1.1.a=zaB x.1.1.a/\true=true/\True)/\True)=(fnVC tb [(72,zaA zpJ)] Tryz.f37 qeE (fun _=>{}) (fun _=>none)):=by kernel_rfl

theorem qeD:SpecOk Tryz.prog 37 (zaA qeE):=by
 refine zaK zaM zaL (SPok.cons qg9 SPok.nil) Tryz.func37 (by decide) (ziM fun _=>rfl) (Eq.mp imageV ?_)
 simp (maxSteps:=10000000) only [std,stdU,stdV,Exx,I64,Nat.reduceMul,Nat.reduceDiv,Nat.reduceAdd,Int.reduceToNat,zaQ,zaI]
 rintro s t h
 exact ⟨h.1,fun _ _=>zj4 _⟩

def zdA (img:List Nat) (top:Int) (k:Nat):Nat:=((List.range k).filter fun i=>(zc1 img top i).live).length
theorem zq6 (img:List Nat) (top:Int) (k:Nat):zdA img top (k+1)=zdA img top k+if (zc1 img top k).live=true then 1 else 0:=by
 unfold zdA
 rw [List.range_succ,List.filter_append,List.length_append]
 congr 1
 by_cases h:(zc1 img top k).live=true
 ·simp [h]
 ·simp [h]
theorem qk1 (img:List Nat) (top:Int) (k:Nat):zdA img top k <= k:=by
 unfold zdA
 exact Nat.le_trans (List.length_filter_le _ _) (by simp)
theorem zyX {s:StoreT} (h:zaG s):Oct (zaD s.ws):=⟨zj4 _,by rw [zbW]; have:=h.1.1; omega⟩
def zhJ (s:StoreT) (t:TickT) (es:List EntT) (bs:List Int):Prop:=es.length=bs.length/\(∀i,i<es.length->zcL s.ws t (entH (es.getD i entZ))=0/\(seatX s.ws t (entH (es.getD i entZ))).next=bs.getD i 0)/\(∀i,i<t.high.toNat->zbX (zaD s.ws) t.top i)/\zdA (zaD s.ws) t.top t.high.toNat=es.length
instance (s:StoreT) (t:TickT) (es:List EntT) (bs:List Int):Decidable (zhJ s t es bs):=by unfold zhJ; infer_instance
def qk5:Ctr:=zlM (List EntT×List Int) (fun x=>zaS x.1.2/\x.1.2.high <= 1792/\EntsI x.2.1/\zg5 x.2.2) (fun x=>[zn5 x.2.1,zrA x.2.2]) (fun x => .bool (decide (zhJ x.1.1 x.1.2 x.2.1 x.2.2)))
def leadsLA (x:(StoreT×TickT)×(List EntT×List Int)):LA:={ T:=Nat,F:=fun i=>frm 83 [(0,.ptr 0 [] 0),(1,zn5 x.2.1),(2,zrA x.2.2),(7,i64 (i:Nat))],H:=fun _=>zhW x.1.1 x.1.2++[.fence] }
def leadsLB (x:(StoreT×TickT)×(List EntT×List Int)):LA:={ T:=Nat,F:=fun i=>frm 83 [(0,.ptr 0 [] 0),(1,zn5 x.2.1),(10,i64 (zdA (zaD x.1.1.ws) x.1.2.top i:Nat)),(11,i64 (i:Nat))],H:=fun _=>zhW x.1.1 x.1.2++[.fence] }
theorem leadsV:(
 let q1:Prop:=(42:TypeId)=42;
 let q2:Prop:=true=true/\zaC/\0=0;
 let q3:Prop:=q2/\True;
 let q4:Prop:=(107:TypeId)=107/\q2/\q3; ∀(x:(StoreT×TickT)×List EntT×List Int),
 let q5:Nat:=x.2.1.length;
 let q6:Int:=(q5:Int);
 let q7:Nat:=x.2.2.length;
 let q8:Int:=(q7:Int);
 let q9:Bool:=decide (zhJ x.1.1 x.1.2 x.2.1 x.2.2);
 let q10:Prop:=false=q9/\True;
 let q11:Prop:=q1/\q2/\q2/\q2/\Tr 1 (x.1.2.blocks=x.1.2.blocks)/\Tr 1 (x.1.2.slots=x.1.2.slots)/\Tr 1 (x.1.2.gens=x.1.2.gens)/\Tr 1 (x.1.2.top=x.1.2.top)/\Tr 1 (x.1.2.high=x.1.2.high)/\Tr 1 (x.1.2.free=x.1.2.free)/\True;
 let q12:Ob:=zaB x.1.1.a;
 let q13:Prop:=q11/\q4/\devB x.1.1.ws=devB x.1.1.ws/\q12=q12/\true=true/\True;
 let q16:Prop:=4=4/\q5=q5/\∀(i:Nat),
 let q14:EntT:=x.2.1.getD i entZ;
 let q15:List AV:=[AV.int .i64 q14.slot,AV.int .i64 q14.gen,AV.int .i64 q14.key,AV.int .i64 q14.value]; i<q5->q15=q15;
 let q18:Prop:=1=1/\q7=q7/\∀(i:Nat),
 let q17:List AV:=[AV.int .i64 (x.2.2.getD i 0)]; i<q7->q17=q17;
 let q19:List Nat:=zaD x.1.1.ws; zaG x.1.1/\zaS x.1.2/\x.1.2.high <= (1792:Int)/\EntsI x.2.1/\zg5 x.2.2->BC (!decide (q6=q8)) (Exx Unit fun y=>(q10/\q13)/\True) (Exx (Nat->Prop) fun I=>Exx (Nat->Nat) fun m=>(Exx Nat fun t=>I t/\(q2/\q16/\q18/\Tr 4 (Tr 1 (0=(t:Int))/\Tr 75 True))/\q13)/\∀(t:Nat),
 let q20:EntT:=x.2.1.getD (t:Int).toNat entZ;
 let q21:Int:=x.2.2.getD (t:Int).toNat 0;
 let q22:Int:=(t:Int)+1;
 let q27:Prop:=Exx (StoreT×TickT×HandT) fun x_1 =>
 let q23:Int:=zcL x_1.1.ws x_1.2.1 x_1.2.2;
 let q24:Prop:=q11/\q4/\devB x_1.1.ws=devB x.1.1.ws/\zaB x_1.1.a=q12/\true=true/\True;
 let q25:Prop:=Exx Unit fun y=>(q10/\q24)/\True;
 let q26:Int:=(seatX x_1.1.ws x_1.2.1 x_1.2.2).next; ((q2/\(Tr 1 (x.1.2.blocks=x_1.2.1.blocks)/\Tr 1 (x.1.2.slots=x_1.2.1.slots)/\Tr 1 (x.1.2.gens=x_1.2.1.gens)/\Tr 1 (x.1.2.top=x_1.2.1.top)/\Tr 1 (x.1.2.high=x_1.2.1.high)/\Tr 1 (x.1.2.free=x_1.2.1.free)/\True)/\(Tr 1 (q20.slot=x_1.2.2.slot)/\Tr 1 (q20.gen=x_1.2.2.gen)/\True)/\True)/\true=true/\q4/\devB x.1.1.ws=devB x_1.1.ws/\q12=zaB x_1.1.a/\True)/\(zaG x_1.1/\zaS x_1.2.1/\zhT x_1.2.2)/\∀(y:Unit),True->BC (!decide (q23=(0:Int))) q25 (((0:Int) <= (t:Int)/\(t:Int)<q8)/\BC (!decide (q26=q21)) q25 (I64 q22/\Exx Nat fun t'=>(I t'/\m t'<m t)/\(q2/\q16/\q18/\Tr 4 (Tr 1 (q22=(↑t':Int))/\Tr 75 True))/\q24)); I t->BC (decide ((t:Int)<q6)) (((0:Int) <= (t:Int)/\(t:Int)<q6)/\q27/\q27) (Exx (Nat->Prop) fun I=>Exx (Nat->Nat) fun m=>(Exx Nat fun t=>I t/\(q2/\q16/\Tr 8 (Tr 1 (0=(↑(zdA q19 x.1.2.top t):Int))/\Tr 1 (0=(t:Int))/\Tr 71 True))/\q13)/\∀(t:Nat),
 let q28:Int:=(↑(zdA q19 x.1.2.top t):Int);
 let q29:Int:=q28+1;
 let q30:Int:=(t:Int)+1;
 let q31:Prop:=I64 q30;
 let q33:Prop:=Exx ((StoreT×TickT)×Unit) fun x_1 =>
 let q32:Prop:=(q1/\q2/\q2/\q2/\Tr 1 (x_1.1.2.blocks=x.1.2.blocks)/\Tr 1 (x_1.1.2.slots=x.1.2.slots)/\Tr 1 (x_1.1.2.gens=x.1.2.gens)/\Tr 1 (x_1.1.2.top=x.1.2.top)/\Tr 1 (x_1.1.2.high=x.1.2.high)/\Tr 1 (x_1.1.2.free=x.1.2.free)/\True)/\q4/\devB x_1.1.1.ws=devB x.1.1.ws/\zaB x_1.1.1.a=q12/\true=true/\True; (q3/\true=true/\(q1/\q2/\q2/\q2/\Tr 1 (x.1.2.blocks=x_1.1.2.blocks)/\Tr 1 (x.1.2.slots=x_1.1.2.slots)/\Tr 1 (x.1.2.gens=x_1.1.2.gens)/\Tr 1 (x.1.2.top=x_1.1.2.top)/\Tr 1 (x.1.2.high=x_1.1.2.high)/\Tr 1 (x.1.2.free=x_1.1.2.free)/\True)/\q4/\devB x.1.1.ws=devB x_1.1.1.ws/\q12=zaB x_1.1.1.a/\True)/\(zaG x_1.1.1/\True)/\∀(y:Unit),True->Exx (List Nat×Int×Nat) fun x_2=>((cstr (zaD x_1.1.1.ws)=cstr x_2.1/\Tr 1 (x.1.2.top=x_2.2.1)/\Tr 1 ((t:Int)=(x_2.2.2:Int))/\True)/\true=true/\True)/\(Oct x_2.1/\I64 x_2.2.1/\x_2.2.2<1792)/\∀(y:Unit),True->BC (!decide (zbX x_2.1 x_2.2.1 x_2.2.2)) (Exx Unit fun y=>(q10/\q32)/\True) (BC (zc1 x_2.1 x_2.2.1 x_2.2.2).live (I64 q29/\q31/\Exx Nat fun t'=>(I t'/\m t'<m t)/\(q2/\q16/\Tr 8 (Tr 1 (q29=(↑(zdA q19 x.1.2.top t'):Int))/\Tr 1 (q30=(↑t':Int))/\Tr 71 True))/\q32) (q31/\Exx Nat fun t'=>(I t'/\m t'<m t)/\(q2/\q16/\Tr 8 (Tr 1 (q28=(↑(zdA q19 x.1.2.top t'):Int))/\Tr 1 (q30=(↑t':Int))/\Tr 71 True))/\q32)); I t->BC (decide ((t:Int)<x.1.2.high)) ((Exx ((StoreT×TickT)×Unit) fun x_1 =>
 let q34:Prop:=(q1/\q2/\q2/\q2/\Tr 1 (x_1.1.2.blocks=x.1.2.blocks)/\Tr 1 (x_1.1.2.slots=x.1.2.slots)/\Tr 1 (x_1.1.2.gens=x.1.2.gens)/\Tr 1 (x_1.1.2.top=x.1.2.top)/\Tr 1 (x_1.1.2.high=x.1.2.high)/\Tr 1 (x_1.1.2.free=x.1.2.free)/\True)/\q4/\devB x_1.1.1.ws=devB x.1.1.ws/\zaB x_1.1.1.a=q12/\true=true/\True;
 let q35:Prop:=Exx (List Nat×Int×Nat) fun x_2=>((cstr (zaD x_1.1.1.ws)=cstr x_2.1/\Tr 1 (x_1.1.2.top=x_2.2.1)/\Tr 1 ((t:Int)=(x_2.2.2:Int))/\True)/\true=true/\True)/\(Oct x_2.1/\I64 x_2.2.1/\x_2.2.2<1792)/\∀(y:Unit),True->BC (!decide (zbX x_2.1 x_2.2.1 x_2.2.2)) (Exx Unit fun y=>(q10/\q34)/\True) (BC (zc1 x_2.1 x_2.2.1 x_2.2.2).live (I64 q29/\q31/\Exx Nat fun t'=>(I t'/\m t'<m t)/\(q2/\q16/\Tr 8 (Tr 1 (q29=(↑(zdA q19 x.1.2.top t'):Int))/\Tr 1 (q30=(↑t':Int))/\Tr 71 True))/\q34) (q31/\Exx Nat fun t'=>(I t'/\m t'<m t)/\(q2/\q16/\Tr 8 (Tr 1 (q28=(↑(zdA q19 x.1.2.top t'):Int))/\Tr 1 (q30=(↑t':Int))/\Tr 71 True))/\q34)); (q3/\true=true/\(q1/\q2/\q2/\q2/\Tr 1 (x.1.2.blocks=x_1.1.2.blocks)/\Tr 1 (x.1.2.slots=x_1.1.2.slots)/\Tr 1 (x.1.2.gens=x_1.1.2.gens)/\Tr 1 (x.1.2.top=x_1.1.2.top)/\Tr 1 (x.1.2.high=x_1.1.2.high)/\Tr 1 (x.1.2.free=x_1.1.2.free)/\True)/\q4/\devB x.1.1.ws=devB x_1.1.1.ws/\q12=zaB x_1.1.1.a/\True)/\(zaG x_1.1.1/\True)/\∀(y:Unit),True->(q35/\q35)/\q35)/\((Exx ((StoreT×TickT)×Unit) fun x_1 =>
 let q36:Prop:=(q1/\q2/\q2/\q2/\Tr 1 (x_1.1.2.blocks=x.1.2.blocks)/\Tr 1 (x_1.1.2.slots=x.1.2.slots)/\Tr 1 (x_1.1.2.gens=x.1.2.gens)/\Tr 1 (x_1.1.2.top=x.1.2.top)/\Tr 1 (x_1.1.2.high=x.1.2.high)/\Tr 1 (x_1.1.2.free=x.1.2.free)/\True)/\q4/\devB x_1.1.1.ws=devB x.1.1.ws/\zaB x_1.1.1.a=q12/\true=true/\True;
 let q37:Prop:=Exx (List Nat×Int×Nat) fun x_2=>((cstr (zaD x_1.1.1.ws)=cstr x_2.1/\Tr 1 (x.1.2.top=x_2.2.1)/\Tr 1 ((t:Int)=(x_2.2.2:Int))/\True)/\true=true/\True)/\(Oct x_2.1/\I64 x_2.2.1/\x_2.2.2<1792)/\∀(y:Unit),True->BC (!decide (zbX x_2.1 x_2.2.1 x_2.2.2)) (Exx Unit fun y=>(q10/\q36)/\True) (BC (zc1 x_2.1 x_2.2.1 x_2.2.2).live (I64 q29/\q31/\Exx Nat fun t'=>(I t'/\m t'<m t)/\(q2/\q16/\Tr 8 (Tr 1 (q29=(↑(zdA q19 x.1.2.top t'):Int))/\Tr 1 (q30=(↑t':Int))/\Tr 71 True))/\q36) (q31/\Exx Nat fun t'=>(I t'/\m t'<m t)/\(q2/\q16/\Tr 8 (Tr 1 (q28=(↑(zdA q19 x.1.2.top t'):Int))/\Tr 1 (q30=(↑t':Int))/\Tr 71 True))/\q36)); (q3/\true=true/\(q1/\q2/\q2/\q2/\Tr 1 (x.1.2.blocks=x_1.1.2.blocks)/\Tr 1 (x.1.2.slots=x_1.1.2.slots)/\Tr 1 (x.1.2.gens=x_1.1.2.gens)/\Tr 1 (x.1.2.top=x_1.1.2.top)/\Tr 1 (x.1.2.high=x_1.1.2.high)/\Tr 1 (x.1.2.free=x_1.1.2.free)/\True)/\q4/\devB x.1.1.ws=devB x_1.1.1.ws/\q12=zaB x_1.1.1.a/\True)/\(zaG x_1.1.1/\True)/\∀(y:Unit),True->q37/\q37)/\q33)/\(Exx ((StoreT×TickT)×Unit) fun x_1 =>
 let q38:Prop:=(q1/\q2/\q2/\q2/\Tr 1 (x_1.1.2.blocks=x.1.2.blocks)/\Tr 1 (x_1.1.2.slots=x.1.2.slots)/\Tr 1 (x_1.1.2.gens=x.1.2.gens)/\Tr 1 (x_1.1.2.top=x.1.2.top)/\Tr 1 (x_1.1.2.high=x.1.2.high)/\Tr 1 (x_1.1.2.free=x.1.2.free)/\True)/\q4/\devB x_1.1.1.ws=devB x.1.1.ws/\zaB x_1.1.1.a=q12/\true=true/\True; (q3/\true=true/\(q1/\q2/\q2/\q2/\Tr 1 (x.1.2.blocks=x_1.1.2.blocks)/\Tr 1 (x.1.2.slots=x_1.1.2.slots)/\Tr 1 (x.1.2.gens=x_1.1.2.gens)/\Tr 1 (x.1.2.top=x_1.1.2.top)/\Tr 1 (x.1.2.high=x_1.1.2.high)/\Tr 1 (x.1.2.free=x_1.1.2.free)/\True)/\q4/\devB x.1.1.ws=devB x_1.1.1.ws/\q12=zaB x_1.1.1.a/\True)/\(zaG x_1.1.1/\True)/\∀(y:Unit),True->Exx (List Nat×Int×Nat) fun x_2=>((cstr (zaD x_1.1.1.ws)=cstr x_2.1/\Tr 1 (x_1.1.2.top=x_2.2.1)/\Tr 1 ((t:Int)=(x_2.2.2:Int))/\True)/\true=true/\True)/\(Oct x_2.1/\I64 x_2.2.1/\x_2.2.2<1792)/\∀(y:Unit),True->BC (!decide (zbX x_2.1 x_2.2.1 x_2.2.2)) (Exx Unit fun y=>(q10/\q38)/\True) (BC (zc1 x_2.1 x_2.2.1 x_2.2.2).live (I64 q29/\q31/\Exx Nat fun t'=>(I t'/\m t'<m t)/\(q2/\q16/\Tr 8 (Tr 1 (q29=(↑(zdA q19 x.1.2.top t'):Int))/\Tr 1 (q30=(↑t':Int))/\Tr 71 True))/\q38) (q31/\Exx Nat fun t'=>(I t'/\m t'<m t)/\(q2/\q16/\Tr 8 (Tr 1 (q28=(↑(zdA q19 x.1.2.top t'):Int))/\Tr 1 (q30=(↑t':Int))/\Tr 71 True))/\q38)))/\q33) (Exx Unit fun y=>((decide (q28=q6)=q9/\True)/\q13)/\True))))=(fnVC tb [(37,zaA qeE),(96,zaA zgM),(97,zaA znK)] Tryz.f59 qk5 (fun x=>{ loops:=[(4,leadsLA x),(11,leadsLB x)],loose:=[(6,[0,1,2,3]),(13,[0,1,2,3])] }) (fun _=>none)):=by kernel_rfl

theorem qpZ:SpecOk Tryz.prog 59 (zaA qk5):=by
 refine zaK zaM zaL (SPok.cons qeD (SPok.cons zkJ (SPok.cons zxZ SPok.nil))) Tryz.func59 (by decide) (ziM fun _=>rfl) (Eq.mp leadsV ?_)
 simp (maxSteps:=10000000) only [std,stdU,stdV,Exx,I64,Nat.reduceMul,Nat.reduceDiv,Nat.reduceAdd,Int.reduceToNat,zaQ,zaI,zfH,zc8,zi6,qi9,zd9,zcS,zgR,qdP]
 rintro s t es bs ⟨h,ht,h1,h2,h3⟩
 have hO:=zyX h
 have hel:=h2.2
 have no:¬zhJ s t es bs->false=decide (zhJ s t es bs):=fun k=>(decide_eq_false k).symm
 refine ⟨fun hne=>no fun k=>hne k.1,fun hl=>⟨fun i=>i <= es.length/\∀j,j<i->zcL s.ws t (entH (es.getD j entZ))=0/\(seatX s.ws t (entH (es.getD j entZ))).next=bs.getD j 0,⟨0,⟨Nat.zero_le _,fun j hj=>absurd hj (Nat.not_lt_zero _)⟩,rfl⟩,fun i=>es.length-i,fun i hJ=>⟨fun hlt=>?_,fun hge=>?_⟩⟩⟩
 ·obtain ⟨q1,q2⟩:=hJ
  have hi:i<es.length:=by omega
  have hE:EntI (es.getD i entZ):=getD_mem (p:=EntI) h2.1 ⟨I64_0,I64_0,I64_0,I64_0⟩ i
  have hH:zhT (entH (es.getD i entZ)):=⟨hE.1,hE.2.1⟩
  have t1:¬zcL s.ws t (entH (es.getD i entZ))=0->false=decide (zhJ s t es bs):=fun k=>no fun q=>k (q.2.1 i hi).1
  have t2:zcL s.ws t (entH (es.getD i entZ))=0->0 <= (i:Int)/\(i:Int)<(bs.length:Int)/\(¬(seatX s.ws t (entH (es.getD i entZ))).next=bs.getD i 0->false=decide (zhJ s t es bs))/\((seatX s.ws t (entH (es.getD i entZ))).next=bs.getD i 0->-9223372036854775808 <= (i:Int)+1/\(i:Int)+1 <= 9223372036854775807/\∃x_2:Nat,(fun i=>i <= es.length/\∀j,j<i->zcL s.ws t (entH (es.getD j entZ))=0/\(seatX s.ws t (entH (es.getD j entZ))).next=bs.getD j 0) x_2/\(fun i=>es.length-i) x_2<(fun i=>es.length-i) i/\(i:Int)+1=(x_2:Int)):=fun k =>
   ⟨by omega,by omega,fun k2=>no fun q=>k2 (q.2.1 i hi).2,fun k2=>⟨by omega,by omega,i+1,⟨by omega,fun j hj=>by
    by_cases e:j=i
    ·subst e; exact ⟨k,k2⟩
    ·exact q2 j (by omega)⟩,by simp only; omega,by omega⟩⟩
  exact ⟨by omega,hlt,h,ht,hH,t1,t2,h,ht,hH,t1,t2⟩
 ·obtain ⟨q1,q2⟩:=hJ
  have ei:i=es.length:=by omega
  subst ei
  refine ⟨fun k=>(k:Int) <= 1792/\k <= t.high.toNat/\∀j,j<k->zbX (zaD s.ws) t.top j,⟨0,⟨by omega,Nat.zero_le _,fun j hj=>absurd hj (Nat.not_lt_zero _)⟩,rfl,rfl⟩,fun k=>t.high.toNat-k,fun k hK=>⟨fun hlt=>?_,fun hge=>?_⟩⟩
  ·obtain ⟨m1,m2,m3⟩:=hK
   have hk:k<t.high.toNat:=by omega
   have hk2:k<1792:=by omega
   have ht1:=ht.2.2.2.1.1
   have ht2:=ht.2.2.2.1.2
   have hln:=qk1 (zaD s.ws) t.top k
   have t1:¬zbX (zaD s.ws) t.top k->false=decide (zhJ s t es bs):=fun q=>no fun z=>q (z.2.2.1 k hk)
   have hnext:zbX (zaD s.ws) t.top k->((k+1:Nat):Int) <= 1792/\k+1 <= t.high.toNat/\∀j,j<k+1->zbX (zaD s.ws) t.top j:=fun hp=>⟨by omega,by omega,fun j hj=>by
    by_cases e:j=k
    ·subst e; exact hp
    ·exact m3 j (by omega)⟩
   have t2:zbX (zaD s.ws) t.top k->((zc1 (zaD s.ws) t.top k).live=true->-9223372036854775808 <= ((zdA (zaD s.ws) t.top k:Nat):Int)+1/\((zdA (zaD s.ws) t.top k:Nat):Int)+1 <= 9223372036854775807/\-9223372036854775808 <= (k:Int)+1/\(k:Int)+1 <= 9223372036854775807/\∃x_3:Nat,(fun k:Nat=>(k:Int) <= 1792/\k <= t.high.toNat/\∀j,j<k->zbX (zaD s.ws) t.top j) x_3/\(fun k=>t.high.toNat-k) x_3<(fun k=>t.high.toNat-k) k/\((zdA (zaD s.ws) t.top k:Nat):Int)+1=((zdA (zaD s.ws) t.top x_3:Nat):Int)/\(k:Int)+1=(x_3:Int))/\((zc1 (zaD s.ws) t.top k).live=false->-9223372036854775808 <= (k:Int)+1/\(k:Int)+1 <= 9223372036854775807/\∃x_3:Nat,(fun k:Nat=>(k:Int) <= 1792/\k <= t.high.toNat/\∀j,j<k->zbX (zaD s.ws) t.top j) x_3/\(fun k=>t.high.toNat-k) x_3<(fun k=>t.high.toNat-k) k/\zdA (zaD s.ws) t.top k=zdA (zaD s.ws) t.top x_3/\(k:Int)+1=(x_3:Int)):=fun hp =>
    ⟨fun hv=>⟨by omega,by omega,by omega,by omega,k+1,hnext hp,by simp only; omega,by rw [zq6,if_pos hv]; omega,by omega⟩,fun hv=>⟨by omega,by omega,k+1,hnext hp,by simp only; omega,by rw [zq6,hv]; rfl,by omega⟩⟩
   repeat' with_reducible refine And.intro ?_ ?_
   all_goals first | exact h | exact hO | exact t1 | exact t2 | exact ht1 | exact ht2 | exact hk2
  ·obtain ⟨m1,m2,m3⟩:=hK
   have hh:=ht.2.2.2.2.1
   have ek:k=t.high.toNat:=by omega
   subst ek
   exact decide_eq_decide.2 ⟨fun q=>⟨hl,q2,m3,q⟩,fun q=>q.2.2.2⟩

end Yard
