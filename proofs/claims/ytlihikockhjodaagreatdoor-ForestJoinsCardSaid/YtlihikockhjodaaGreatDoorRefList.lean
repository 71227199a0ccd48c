import Derived.Test.YtlihikockhjodaaGreatDoorRefPage
import Derived.Test.YtlihikockhjodaaGreatDoorTreeList

namespace Yard
open Go Go.Sx Go.Proofs
set_option linter.unusedVariables false
set_option linter.unusedSimpArgs false
set_option maxRecDepth 4000
set_option maxHeartbeats 4000000

def imgOk (img:List Nat) (a:Int):Prop:=0 <= a/\a<((img.length / 64:Nat):Int)
instance (img:List Nat) (a:Int):Decidable (imgOk img a):=by unfold imgOk; infer_instance
def imgL (img:List Nat) (a:Int):List Nat:=if imgOk img a then (img.drop (64*a.toNat)).take 64 else []
theorem zvY {img:List Nat} (h:Oct img) (a:Int):Oct (imgL img a):=by
 unfold imgL
 split
 ·exact ⟨fun c hc=>h.1 c (List.mem_of_mem_drop (List.mem_of_mem_take hc)),by rw [List.length_take]; omega⟩
 ·exact ⟨by simp,by simp⟩
theorem zpH {img:List Nat} {a:Int} (h:imgOk img a):(imgL img a).length=64:=by
 rw [imgL,if_pos h,List.length_take,List.length_drop]
 unfold imgOk at h; omega
def refLineI:Ctr2 where
 X:=List Nat×Int
 conv:=true
 tau:=fun _ _=>[]
 pre:=fun x=>Oct x.1/\I64 x.2
 args:=fun x=>[strN x.1,i64 x.2]
 heap:=fun _=>[]
 p:=fun x=>imgOk x.1 x.2
 a:={ Y:=Nat,Q:=fun _ cap=>64 <= cap,res:=fun _ cap => .tup [.sl 1 [] 0 1 0 64 cap,.bool true],its:=fun _ _=>[],new:=fun x _=>[.view 1 64 (fun i=>[.int .u8 (((imgL x.1 x.2).getD i 0:Nat):Int)])] }
 b:={ Y:=Unit,Q:=fun _ _=>True,res:=fun _ _ => .tup [.nils,.bool false],its:=fun _ _=>[],new:=fun _ _=>[] }

def lineSg (av:AV):Option Ren:=match av with
 | .tup (.sl q _ _ _ _ _ _ :: _)=>some [some 0,some q]
 | _=>some [some 0]
theorem qo9:(∀(x:List Nat×Int),
 let q1:Prop:=(0:Int) <= x.2/\x.2<(↑(x.1.length / 64):Int);
 let q2:Prop:=(q1/\Exx Nat fun y=>False/\Nat.le 64 y)\/¬refLineI.p x/\Exx Unit fun y=>((Tr 1 (false=false/\True)/\True)/\true=true/\True)/\True;
 let q3:Int:=(↑(cstr x.1).length:Int).tdiv 64;
 let q4:Int:=64*x.2;
 let q5:Prop:=I64 q4;
 let q6:Int:=q4+64;
 let q7:Nat:=q4.toNat;
 let q8:Nat:=q6.toNat;
 let q9:List Int:=List.drop q7 (List.take q8 (cstr x.1));
 let q10:Nat:=q9.length; Oct x.1/\I64 x.2->BC (decide (x.2<(0:Int))) q2 (64≠(0:Int)/\I64 q3/\BC (decide (q3 <= x.2)) q2 (q5/\q5/\I64 q6/\(0:Int) <= q6/\(0:Int) <= q4/\(q7 <= q8/\q8 <= (cstr x.1).length)/\q10 <= 9223372036854775807/\∀(cap:Nat),q10 <= cap/\cap <= 9223372036854775807->(q1/\Exx Nat fun y=>((((true=true/\zaC/\0=0/\1=1/\0=0/\q10=64/\cap=y)/\true=true/\True)/\True)/\true=true/\(1=1/\64 <= q10/\∀(i:Nat),i<64->[AV.int .u8 (q9.getD i 0)]=[AV.int .u8 (↑((imgL x.1 x.2).getD i 0):Int)])/\True)/\Nat.le 64 y)\/¬refLineI.p x/\Exx Unit fun y=>False/\True)))=(qg3 tb [] Tryz.f137 refLineI (fun _=>{}) (fun _ av _=>lineSg av) (fun _=>[]) (fun _ _ _ _=>[]) (fun _ _ _ _=>[])):=by kernel_rfl

theorem znH:SpecOk Tryz.prog 137 (ziC refLineI):=by
 refine zuO zaM zaL SPok.nil Tryz.func137 (by decide) ⟨fun _ _ _ _=>rfl,fun _ _ _ _=>⟨rfl,rfl⟩,fun x _ _ _ _=>⟨⟨trivial,⟨⟨fun _ _=>⟨rfl,trivial⟩,trivial⟩,trivial⟩⟩,rfl,rfl,trivial⟩⟩ ⟨fun _ _ _ _=>rfl,fun _ _ _ _=>⟨rfl,rfl⟩,fun x _ _ _ _=>⟨⟨trivial,trivial⟩,rfl,rfl,trivial⟩⟩ (Eq.mp qo9 ?_)
 simp (maxSteps:=10000000) only [std,stdU,stdV,Exx,I64,Nat.reduceMul,Nat.reduceDiv,Nat.reduceAdd,Int.reduceToNat]
 rintro img a ⟨⟨hi,hl⟩,h1,h2⟩
 have e1:((img.length:Int)).tdiv 64=((img.length / 64:Nat):Int):=rfl
 rw [e1]
 refine ⟨fun h k=>?_,fun h0=>⟨by omega,by omega,by omega,fun h k=>?_,fun h=>?_⟩⟩
 ·have:imgOk img a:=k
  unfold imgOk at this; omega
 ·have:imgOk img a:=k
  unfold imgOk at this; omega
 ·have hk:imgOk img a:=⟨by omega,by omega⟩
  have e2:(64*a).toNat=64*a.toNat:=by omega
  have e3:(64*a+64).toNat=64*a.toNat+64:=by omega
  have e4:(img.take (64*a.toNat+64)).drop (64*a.toNat)=imgL img a:=by
   rw [imgL,if_pos hk,List.drop_take]; congr 1; omega
  have h64:=zpH hk
  rw [e2,e3,e4,h64]
  exact ⟨by omega,by omega,by omega,by omega,by omega,by omega,by omega,by omega,by omega,by omega,by omega,fun cap hc=>⟨by omega,by omega,rfl,by omega,fun _ _=>rfl,hc.1⟩⟩
theorem qb1 {img:List Nat} {a:Int} (h:¬imgOk img a):imgL img a=[]:=by rw [imgL,if_neg h]
theorem qbL:¬zgF []:=fun k=>by have:=k.1.1; simp at this
theorem zvM:¬zdB []:=fun k=>by have:=k.1.1; simp at this
theorem not_node:¬zcI []:=fun k=>by have:=k.1.1; simp at this

def zaN (img:List Nat) (a:Int) (i:Nat):Int:=if a=0 then 0 else zcE (imgL img a) i
def zc7 (img:List Nat) (a:Int):Prop:=a=0\/zgF (imgL img a)
instance (img:List Nat) (a:Int):Decidable (zc7 img a):=by unfold zc7; infer_instance
def zcP (img:List Nat) (a:Int) (i:Nat):SeatT:=if a=0 then seatZ else zaW (imgL img a) i
def zdV (img:List Nat) (a:Int):Prop:=a=0\/zdB (imgL img a)
instance (img:List Nat) (a:Int):Decidable (zdV img a):=by unfold zdV; infer_instance
def zl3:Ctr:=zbN (List Nat×Int) (fun x=>Oct x.1/\I64 x.2) (fun x=>[strN x.1,i64 x.2]) (fun x => .tup [fanA (zaN x.1 x.2),.bool (decide (zc7 x.1 x.2))])
def zjY:Ctr:=zbN (List Nat×Int) (fun x=>Oct x.1/\I64 x.2) (fun x=>[strN x.1,i64 x.2]) (fun x => .tup [qbV (zcP x.1 x.2),.bool (decide (zdV x.1 x.2))])
theorem qjQ:(∀(x:List Nat×Int),
 let q1:Prop:=1=1/\16=16/\(∀(i:Nat),i<16->[AV.int .i64 0]=[AV.int .i64 (zaN x.1 x.2 i)])/\True;
 let q2:Bool:=decide (zc7 x.1 x.2); Oct x.1/\I64 x.2->BC (decide (x.2=(0:Int))) (Exx Unit fun y=>(((q1/\true=q2/\True)/\True)/\true=true/\True)/\True) (Exx (List Nat×Int) fun x_1=>((cstr x.1=cstr x_1.1/\Tr 1 (x.2=x_1.2)/\True)/\true=true/\True)/\(Oct x_1.1/\I64 x_1.2)/\((0:Int) <= x_1.2/\x_1.2<(↑(x_1.1.length / 64):Int)->∀(y:Nat),Nat.le 64 y->Exx (List Nat) fun x_2=>(((0+64 <= 64/\64=x_2.length/\∀(i:Nat),i<x_2.length->[AV.int .u8 (↑((imgL x_1.1 x_1.2).getD (0+i) 0):Int)]=[AV.int .u8 (↑(x_2.getD i 0):Int)])/\True)/\true=true/\True)/\Oct x_2/\∀(y:Unit),True->Exx Unit fun y=>((((1=1/\16=16/\(∀(i:Nat),i<16->[AV.int .i64 (zcE x_2 i)]=[AV.int .i64 (zaN x.1 x.2 i)])/\True)/\decide (zgF x_2)=q2/\True)/\True)/\true=true/\True)/\True)/\(¬refLineI.p x_1->∀(y:Unit),True->Exx Unit fun y=>(((q1/\false=q2/\True)/\True)/\true=true/\True)/\True)))=(fnVC tb [(137,ziC refLineI),(138,zaA znJ)] Tryz.f94 zl3 (fun _=>{}) (fun _=>none)):=by kernel_rfl

theorem zqN:SpecOk Tryz.prog 94 (zaA zl3):=by
 refine zaK zaM zaL (SPok.cons znH (SPok.cons zxS SPok.nil)) Tryz.func94 (by decide) (zaO fun _=>⟨⟨fun _ _=>⟨rfl,trivial⟩,trivial⟩,rfl,trivial⟩) (Eq.mp qjQ ?_)
 simp (maxSteps:=10000000) only [std,stdU,stdV,Exx,I64,Nat.reduceMul,Nat.reduceDiv,Nat.reduceAdd,Int.reduceToNat]
 rintro img a ⟨h,h1,h2⟩
 refine ⟨fun hz=>⟨fun i _=>by rw [zaN,if_pos hz],(decide_eq_true (.inl hz)).symm⟩,fun hz=>⟨h,h1,h2,fun hk y hy=>⟨imgL img a,(zpH hk).symm,fun _ _=>rfl,zvY h a,fun i _=>by rw [zaN,if_neg hz],decide_eq_decide.2 ⟨fun k => .inr k,fun k=>k.resolve_left hz⟩⟩,fun hk=>?_⟩⟩
 have e:=qb1 (show ¬imgOk img a from hk)
 refine ⟨fun i _=>by rw [zaN,if_neg hz,e,zcE,if_neg qbL],(decide_eq_false fun k=>?_).symm⟩
 rcases k with k | k
 ·exact hz k
 ·rw [e] at k; exact qbL k

theorem qgA:(
 let q1:List AV:=[AV.bool false,AV.int .i64 0,AV.int .i64 0]; ∀(x:List Nat×Int),
 let q2:Prop:=3=3/\7=7/\(∀(i:Nat),i<7->q1=[AV.bool (zcP x.1 x.2 i).live,AV.int .i64 (zcP x.1 x.2 i).gen,AV.int .i64 (zcP x.1 x.2 i).next])/\True;
 let q3:Bool:=decide (zdV x.1 x.2); Oct x.1/\I64 x.2->BC (decide (x.2=(0:Int))) (Exx Unit fun y=>(((q2/\true=q3/\True)/\True)/\true=true/\True)/\True) (Exx (List Nat×Int) fun x_1=>((cstr x.1=cstr x_1.1/\Tr 1 (x.2=x_1.2)/\True)/\true=true/\True)/\(Oct x_1.1/\I64 x_1.2)/\((0:Int) <= x_1.2/\x_1.2<(↑(x_1.1.length / 64):Int)->∀(y:Nat),Nat.le 64 y->Exx (List Nat) fun x_2=>(((0+64 <= 64/\64=x_2.length/\∀(i:Nat),i<x_2.length->[AV.int .u8 (↑((imgL x_1.1 x_1.2).getD (0+i) 0):Int)]=[AV.int .u8 (↑(x_2.getD i 0):Int)])/\True)/\true=true/\True)/\Oct x_2/\∀(y:Unit),True->Exx Unit fun y=>((((3=3/\7=7/\(∀(i:Nat),i<7->[AV.bool (zaW x_2 i).live,AV.int .i64 (zaW x_2 i).gen,AV.int .i64 (zaW x_2 i).next]=[AV.bool (zcP x.1 x.2 i).live,AV.int .i64 (zcP x.1 x.2 i).gen,AV.int .i64 (zcP x.1 x.2 i).next])/\True)/\decide (zdB x_2)=q3/\True)/\True)/\true=true/\True)/\True)/\(¬refLineI.p x_1->∀(y:Unit),True->Exx Unit fun y=>(((q2/\false=q3/\True)/\True)/\true=true/\True)/\True)))=(fnVC tb [(137,ziC refLineI),(139,zaA zkY)] Tryz.f95 zjY (fun _=>{}) (fun _=>none)):=by kernel_rfl

theorem zoN:SpecOk Tryz.prog 95 (zaA zjY):=by
 refine zaK zaM zaL (SPok.cons znH (SPok.cons zu4 SPok.nil)) Tryz.func95 (by decide) (zaO fun _=>⟨⟨fun _ _=>⟨rfl,rfl,rfl,trivial⟩,trivial⟩,rfl,trivial⟩) (Eq.mp qgA ?_)
 simp (maxSteps:=10000000) only [std,stdU,stdV,Exx,I64,Nat.reduceMul,Nat.reduceDiv,Nat.reduceAdd,Int.reduceToNat]
 rintro img a ⟨h,h1,h2⟩
 refine ⟨fun hz=>⟨fun i _=>by rw [zcP,if_pos hz]; rfl,(decide_eq_true (.inl hz)).symm⟩,fun hz=>⟨h,h1,h2,fun hk y hy=>⟨imgL img a,(zpH hk).symm,fun _ _=>rfl,zvY h a,fun i _=>by rw [zcP,if_neg hz],decide_eq_decide.2 ⟨fun k => .inr k,fun k=>k.resolve_left hz⟩⟩,fun hk=>?_⟩⟩
 have e:=qb1 (show ¬imgOk img a from hk)
 refine ⟨fun i _=>by rw [zcP,if_neg hz,e,zaW,if_neg zvM]; rfl,(decide_eq_false fun k=>?_).symm⟩
 rcases k with k | k
 ·exact hz k
 ·rw [e] at k; exact zvM k

def zpG:Ctr:=qo0 (List Nat×Int) (fun x=>Oct x.1/\I64 x.2) (fun x=>[strN x.1,i64 x.2]) 3 .i64 (fun x=>(getNodeT (imgL x.1 x.2)).kids) (fun x r => .tup [qd3 (getNodeT (imgL x.1 x.2)) r,.bool (decide (zcI (imgL x.1 x.2)))])
theorem qb0:CtrOk zpG:=zo6 fun _ _ _=>⟨⟨rfl,rfl,rfl,rfl,rfl,trivial⟩,rfl,trivial⟩
theorem qp6:(∀(x:List Nat×Int),
 let q1:Bool:=decide (zcI (imgL x.1 x.2));
 let q2:Prop:=(getNodeT (imgL x.1 x.2)).kids.length=0; Oct x.1/\I64 x.2->Exx (List Nat×Int) fun x_1=>((cstr x.1=cstr x_1.1/\Tr 1 (x.2=x_1.2)/\True)/\true=true/\True)/\(Oct x_1.1/\I64 x_1.2)/\((0:Int) <= x_1.2/\x_1.2<(↑(x_1.1.length / 64):Int)->∀(y:Nat),Nat.le 64 y->Exx (List Nat) fun x_2=>(((0+64 <= 64/\64=x_2.length/\∀(i:Nat),i<x_2.length->[AV.int .u8 (↑((imgL x_1.1 x_1.2).getD (0+i) 0):Int)]=[AV.int .u8 (↑(x_2.getD i 0):Int)])/\True)/\true=true/\True)/\Oct x_2/\∀(y:Nat),(getNodeT x_2).kids.length <= y/\y <= 9223372036854775807->Exx Nat fun y_1=>((((Tr 1 ((getNodeT x_2).e.slot=(getNodeT (imgL x.1 x.2)).e.slot)/\Tr 1 ((getNodeT x_2).e.gen=(getNodeT (imgL x.1 x.2)).e.gen)/\Tr 1 ((getNodeT x_2).e.key=(getNodeT (imgL x.1 x.2)).e.key)/\Tr 1 ((getNodeT x_2).e.value=(getNodeT (imgL x.1 x.2)).e.value)/\(true=true/\zaC/\0=0/\1=1/\0=0/\(getNodeT x_2).kids.length=(getNodeT (imgL x.1 x.2)).kids.length/\y=y_1)/\True)/\decide (zcI x_2)=q1/\True)/\True)/\true=true/\((3:TypeId)=3/\1=1/\y=y_1/\(getNodeT (imgL x.1 x.2)).kids.length <= (getNodeT x_2).kids.length/\∀(i:Nat),i<(getNodeT (imgL x.1 x.2)).kids.length->[AV.int .i64 ((getNodeT x_2).kids.getD i 0)]=[AV.int .i64 ((getNodeT (imgL x.1 x.2)).kids.getD i 0)])/\True)/\(getNodeT (imgL x.1 x.2)).kids.length <= y_1/\y_1 <= 9223372036854775807)/\(¬refLineI.p x_1->∀(y:Unit),True->Exx Nat fun y=>((((Tr 1 ((0:Int)=(getNodeT (imgL x.1 x.2)).e.slot)/\Tr 1 ((0:Int)=(getNodeT (imgL x.1 x.2)).e.gen)/\Tr 1 ((0:Int)=(getNodeT (imgL x.1 x.2)).e.key)/\Tr 1 ((0:Int)=(getNodeT (imgL x.1 x.2)).e.value)/\(q2/\y=0)/\True)/\false=q1/\True)/\True)/\true=true/\(y=0/\q2)/\True)/\(getNodeT (imgL x.1 x.2)).kids.length <= y/\y <= 9223372036854775807))=(zcA tb [(137,ziC refLineI),(153,zaA zkX)] Tryz.f109 zpG (fun _=>{}) (fun _ av _=>qm9 av) (fun _=>[]) (fun _ _ _ _=>[])):=by kernel_rfl

theorem qgT:SpecOk Tryz.prog 109 (zaA zpG):=by
 refine za0 zaM zaL (SPok.cons znH (SPok.cons zu3 SPok.nil)) Tryz.func109 (by decide) qb0 (Eq.mp qp6 ?_)
 simp (maxSteps:=10000000) only [std,stdU,stdV,Exx,I64,Nat.reduceMul,Nat.reduceDiv,Nat.reduceAdd,Int.reduceToNat]
 rintro img a ⟨h,h1,h2⟩
 refine ⟨h,h1,h2,fun hk y hy=>⟨imgL img a,(zpH hk).symm,fun _ _=>rfl,zvY h a,fun y2 hy2=>⟨rfl,rfl,rfl,rfl,rfl,rfl,Nat.le_refl _,fun _ _=>rfl,hy2.1,hy2.2⟩⟩,fun hk=>?_⟩
 rw [qb1 (show ¬imgOk img a from hk),getNodeT,if_neg not_node]
 exact ⟨rfl,rfl,rfl,rfl,rfl,(decide_eq_false not_node).symm,rfl,Nat.le_refl _,by omega⟩

def imgF (img:List Nat) (top:Int) (i j:Nat):Int:=zaN img (zaN img top i) j
theorem zmH (img:List Nat) (a:Int) {i:Nat} (hi:i<16):I64 (zaN img a i):=by
 unfold zaN zcE
 split
 ·exact I64_0
 ·split
  ·rename_i hf
   exact kidOk_I (hf.2.2.2.2 i hi)
  ·exact I64_0
def zbX (img:List Nat) (top:Int) (s:Nat):Prop:=zc7 img top/\zc7 img (zaN img top (s / 112))/\zdV img (imgF img top (s / 112) (s / 7 % 16))
instance (img:List Nat) (top:Int) (s:Nat):Decidable (zbX img top s):=by unfold zbX; infer_instance
def zc1 (img:List Nat) (top:Int) (s:Nat):SeatT:=if zc7 img top/\zc7 img (zaN img top (s / 112)) then zcP img (imgF img top (s / 112) (s / 7 % 16)) (s % 7) else seatZ
def znK:Ctr:=zbN (List Nat×Int×Nat) (fun x=>Oct x.1/\I64 x.2.1/\x.2.2<1792) (fun x=>[strN x.1,i64 x.2.1,i64 (x.2.2:Nat)]) (fun x => .tup [zxL (zc1 x.1 x.2.1 x.2.2),.bool (decide (zbX x.1 x.2.1 x.2.2))])
theorem qgB:(∀(x:List Nat×Int×Nat),
 let q1:Int:=(x.2.2:Int).tdiv 112;
 let q2:Nat:=q1.toNat;
 let q3:SeatT:=zc1 x.1 x.2.1 x.2.2;
 let q4:Bool:=q3.live;
 let q5:Int:=q3.gen;
 let q6:Int:=q3.next;
 let q7:Bool:=decide (zbX x.1 x.2.1 x.2.2);
 let q8:Prop:=Exx Unit fun y=>((((false=q4/\Tr 1 ((0:Int)=q5)/\Tr 1 ((0:Int)=q6)/\True)/\false=q7/\True)/\True)/\true=true/\True)/\True;
 let q9:Int:=(x.2.2:Int).tdiv 7; Oct x.1/\I64 x.2.1/\x.2.2<1792->Exx (List Nat×Int) fun x_1=>((cstr x.1=cstr x_1.1/\Tr 1 (x.2.1=x_1.2)/\True)/\true=true/\True)/\(Oct x_1.1/\I64 x_1.2)/\∀(y:Unit),True->112≠(0:Int)/\I64 q1/\((0:Int) <= q1/\q1<(↑(16:Nat):Int))/\q2<16/\Exx (List Nat×Int) fun x_2=>((cstr x.1=cstr x_2.1/\Tr 1 (zaN x_1.1 x_1.2 q2=x_2.2)/\True)/\true=true/\True)/\(Oct x_2.1/\I64 x_2.2)/\∀(y:Unit),True->BC (!decide (zc7 x_1.1 x_1.2)) q8 (BC (!decide (zc7 x_2.1 x_2.2)) q8 (7≠(0:Int)/\I64 q9/\16≠(0:Int)/\∀(n:Int),n=q9.tmod 16->((0:Int) <= n/\n<(↑(16:Nat):Int))/\n.toNat<16/\Exx (List Nat×Int) fun x_3=>((cstr x.1=cstr x_3.1/\Tr 1 (zaN x_2.1 x_2.2 n.toNat=x_3.2)/\True)/\true=true/\True)/\(Oct x_3.1/\I64 x_3.2)/\∀(y:Unit),True->7≠(0:Int)/\∀(n:Int),n=(x.2.2:Int).tmod 7->((0:Int) <= n/\n<(↑(7:Nat):Int))/\n.toNat<7/\Exx Unit fun y=>(((((zcP x_3.1 x_3.2 n.toNat).live=q4/\Tr 1 ((zcP x_3.1 x_3.2 n.toNat).gen=q5)/\Tr 1 ((zcP x_3.1 x_3.2 n.toNat).next=q6)/\True)/\decide (zdV x_3.1 x_3.2)=q7/\True)/\True)/\true=true/\True)/\True)))=(fnVC tb [(94,zaA zl3),(95,zaA zjY)] Tryz.f97 znK (fun _=>{}) (fun _=>none)):=by kernel_rfl

theorem zxZ:SpecOk Tryz.prog 97 (zaA znK):=by
 refine zaK zaM zaL (SPok.cons zqN (SPok.cons zoN SPok.nil)) Tryz.func97 (by decide) (zaO fun _=>⟨⟨rfl,rfl,rfl,trivial⟩,rfl,trivial⟩) (Eq.mp qgB ?_)
 simp (maxSteps:=10000000) only [std,stdU,stdV,Exx,I64,Nat.reduceMul,Nat.reduceDiv,Nat.reduceAdd,Int.reduceToNat]
 rintro img top sl ⟨h,h1,h2,h3⟩
 have e1:((sl:Nat):Int).tdiv 112=((sl / 112:Nat):Int):=rfl
 have e2:((sl:Nat):Int).tdiv 7=((sl / 7:Nat):Int):=rfl
 have e3:((sl / 7:Nat):Int).tmod 16=((sl / 7 % 16:Nat):Int):=rfl
 have e4:((sl:Nat):Int).tmod 7=((sl % 7:Nat):Int):=rfl
 rw [e1,e2,e3,e4]
 simp only [Int.toNat_natCast]
 have hF1:=zmH img top (i:=sl / 112) (by omega)
 have hF2:=zmH img (zaN img top (sl / 112)) (i:=sl / 7 % 16) (by omega)
 have hno:¬(zc7 img top/\zc7 img (zaN img top (sl / 112)))->(false=(zc1 img top sl).live/\0=(zc1 img top sl).gen/\0=(zc1 img top sl).next/\false=decide (zbX img top sl)):=fun hn=>by
  rw [zc1,if_neg hn]; exact ⟨rfl,rfl,rfl,(decide_eq_false fun k=>hn ⟨k.1,k.2.1⟩).symm⟩
 refine ⟨h,h1,h2,by omega,by omega,by omega,by omega,by omega,by omega,h,hF1.1,hF1.2,fun hn=>hno fun k=>hn k.1,fun hy=>⟨fun hn=>hno fun k=>hn k.2,fun hy2=>⟨by omega,by omega,by omega,by omega,by omega,by omega,by omega,h,hF2.1,hF2.2,by omega,by omega,by omega,by omega,?_⟩⟩⟩
 rw [zc1,if_pos ⟨hy,hy2⟩]
 exact ⟨rfl,rfl,rfl,decide_eq_decide.2 ⟨fun k=>⟨hy,hy2,k⟩,fun k=>k.2.2⟩⟩

def zq7 (img:List Nat) (a:Int) (k:Nat):List Int:=((List.range k).map (zaN img a)).filter (fun c=>decide (c≠0))
def fanP (img:List Nat) (a:Int):List Int:=(if a=0 then [] else [a])++zq7 img a 16
def zgD (img:List Nat) (top:Int) (k:Nat):List Int:=(if top=0 then [] else [top])++(List.range k).flatMap (fun i=>fanP img (zaN img top i))
def zvI (img:List Nat) (top:Int) (k:Nat):Prop:=∀i,i<k->zc7 img (zaN img top i)/\∀j,j<16->zdV img (imgF img top i j)
def zeY (img:List Nat) (top:Int):Prop:=zc7 img top/\zvI img top 16
instance (img:List Nat) (top:Int):Decidable (zeY img top):=by unfold zeY zvI; infer_instance
def zcX (img:List Nat) (top:Int):List Int:=if zeY img top then zgD img top 16 else []
def zk0:Ctr:=qo0 (List Nat×Int) (fun x=>Oct x.1/\I64 x.2) (fun x=>[strN x.1,i64 x.2]) 3 .i64 (fun x=>zcX x.1 x.2) (fun x r => .tup [r,.bool (decide (zeY x.1 x.2))])
theorem ztV (img:List Nat) (a:Int) (k:Nat):zq7 img a (k+1)=zq7 img a k++(if zaN img a k=0 then [] else [zaN img a k]):=by
 unfold zq7
 rw [List.range_succ,List.map_append,List.filter_append]
 congr 1
 by_cases h:zaN img a k=0 <;> simp [h]
theorem zyN (img:List Nat) (a:Int) (k:Nat):(zq7 img a k).length <= k:=by
 unfold zq7
 exact Nat.le_trans (List.length_filter_le _ _) (by simp)
theorem zqX (img:List Nat) (top:Int) (k:Nat):zgD img top (k+1)=zgD img top k++fanP img (zaN img top k):=by
 unfold zgD
 rw [List.range_succ,List.flatMap_append,<- List.append_assoc]; simp
theorem ztJ (img:List Nat) (top:Int) (k:Nat):(zgD img top k).length <= 1+17*k:=by
 induction k with
 | zero=>unfold zgD; split <;> simp
 | succ k ih =>
   have:=zyN img (zaN img top k) 16
   rw [zqX,List.length_append,fanP,List.length_append]
   have:(if zaN img top k=0 then [] else [zaN img top k]:List Int).length <= 1:=by split <;> simp
   omega
theorem snocJ (l:List Int) (c:Int):∀i,i<(l++[c]).length->(if i<l.length then [i64 (l.getD i 0)] else if i-l.length=0 then [i64 c] else [i64 0])=[i64 ((l++[c]).getD i 0)]:=fun i hi=>by
 rw [zaH]
 rw [List.length_append] at hi
 simp only [List.length_cons,List.length_nil] at hi
 by_cases e:i<l.length
 ·rw [if_pos e,if_pos e]
 ·have e2:i-l.length=0:=by omega
  rw [if_neg e,if_neg e,if_pos e2,e2]; rfl
def qpR (F:Fr) (_:AH):Option Ren:=match F.getD 8 .any with
 | .sl q _ _ _ _ _ _=>some [some 0,some 1,some q]
 | _=>some [some 0,some 1,none]
def qdZ (F:Fr) (_:AH):Option Ren:=match F.getD 8 .any,F.getD 10 .any with
 | .sl q _ _ _ _ _ _,.ptr p _ _=>some [some 0,some 1,some q,some p]
 | _,.ptr p _ _=>some [some 0,some 1,none,some p]
 | _,_=>none
def zxW (x:List Nat×Int):LA:={ T:=Nat×Nat×List Int,F:=fun t=>frm 84 [(0,strN x.1),(1,i64 x.2),(6,.ptr 1 [] 0),(8,.sl 2 [] 0 1 0 t.2.2.length t.2.1),(9,i64 (t.1:Nat))],H:=fun t=>[.fence,.cells 184 (fanV (zaN x.1 x.2)),rowI 3 .i64 t.2.1 t.2.2],ρ₁:=qpR,ρ₂:=qpR }
def zxV (x:List Nat×Int):LA:={ T:=(Nat×Nat)×Nat×List Int,F:=fun t=>frm 84 [(0,strN x.1),(1,i64 x.2),(6,.ptr 1 [] 0),(8,.sl 2 [] 0 1 0 t.2.2.length t.2.1),(9,i64 (t.1.1:Nat)),(10,.ptr 3 [] 0),(12,i64 (t.1.2:Nat))],H:=fun t=>[.fence,.cells 184 (fanV (zaN x.1 x.2)),rowI 3 .i64 t.2.1 t.2.2,.cells 184 (fanV (zaN x.1 (zaN x.1 x.2 t.1.1)))],ρ₁:=qdZ,ρ₂:=qdZ }
def zxY (x:List Nat×Int):LA:={ T:=Nat×List Int,F:=fun t=>frm 84 [(0,strN x.1),(1,i64 x.2),(6,.ptr 1 [] 0),(8,.sl 2 [] 0 1 0 t.2.length t.1)],H:=fun t=>[.fence,.cells 184 (fanV (zaN x.1 x.2)),rowI 3 .i64 t.1 t.2],ρ₁:=qpR,ρ₂:=qpR }
def zxX (x:List Nat×Int):LA:={ T:=Nat×Nat×List Int,F:=fun t=>frm 84 [(0,strN x.1),(1,i64 x.2),(6,.ptr 1 [] 0),(8,.sl 2 [] 0 1 0 t.2.2.length t.2.1),(9,i64 (t.1:Nat)),(10,.ptr 3 [] 0)],H:=fun t=>[.fence,.cells 184 (fanV (zaN x.1 x.2)),rowI 3 .i64 t.2.1 t.2.2,.cells 184 (fanV (zaN x.1 (zaN x.1 x.2 t.1)))],ρ₁:=qdZ,ρ₂:=qdZ }
theorem qa2:(
 let q1:Prop:=0+1 <= 1;
 let q2:Prop:=true=true/\zaC/\0=0;
 let q3:Prop:=(3:TypeId)=3;
 let q4:Nat:=0*1 / 1;
 let q5:Nat:=(TI.mk (TK.int IntKind.i64) 1 8 (ZL.cons (Value.int IntKind.i64 0) ZL.nil) false).size;
 let q6:Prop:=(184:TypeId)=184;
 let q7:Prop:=q2/\Tr 73 True; ∀(x:List Nat×Int),
 let q8:Prop:=(zcX x.1 x.2).length=0;
 let q9:Bool:=decide (zeY x.1 x.2);
 let q10:Prop:=Exx Nat fun y=>((((q8/\y=0)/\false=q9/\True)/\True)/\true=true/\(y=0/\q8)/\True)/\(zcX x.1 x.2).length <= y/\y <= 9223372036854775807;
 let q11:Prop:=q6/\1=1/\16=16/\(∀(i:Nat),i<16->[AV.int .i64 (zaN x.1 x.2 i)]=[AV.int .i64 (zaN x.1 x.2 i)])/\True; Oct x.1/\I64 x.2->Exx (List Nat×Int) fun x_1 =>
 let q12:Prop:=184=(184:TypeId)/\1=1/\16=16/\(∀(i:Nat),i<16->[AV.int .i64 (zaN x_1.1 x_1.2 i)]=[AV.int .i64 (zaN x.1 x.2 i)])/\True; ((cstr x.1=cstr x_1.1/\Tr 1 (x.2=x_1.2)/\True)/\true=true/\True)/\(Oct x_1.1/\I64 x_1.2)/\∀(y:Unit),True->BC (!decide (zc7 x_1.1 x_1.2)) q10 (Exx (Nat×List Int->Prop) fun I=>BC (!decide (x.2=(0:Int))) (q1/\(1 <= 9223372036854775807/\1*8 <= 140737488355328)/\∀(cap:Nat),1 <= cap/\cap <= 9223372036854775807->Exx (Nat×List Int) fun t=>I t/\(cstr x.1=cstr x.1/\Tr 1 (x.2=x.2)/\Tr 4 (q2/\Tr 1 ((true=true/\zaC/\0=0/\1=1/\0=0/\1=t.2.length/\cap=t.1)/\Tr 75 True)))/\true=true/\q12/\(q3/\1=1/\cap=t.1/\t.2.length <= 1/\∀(i:Nat),
 let q13:Nat:=0+i; i<t.2.length->[AV.int .i64 (if q13=q4 then x.2 else 0)]=[AV.int .i64 (t.2.getD i 0)])/\True) (Exx (Nat×List Int) fun t=>I t/\(cstr x.1=cstr x.1/\Tr 1 (x.2=x.2)/\Tr 4 (q2/\Tr 1 ((t.2.length=0/\t.1=0)/\Tr 75 True)))/\true=true/\q12/\(t.1=0/\t.2.length=0)/\True)/\∀(t:Nat×List Int),I t->Exx (Nat×Nat×List Int->Prop) fun I=>Exx (Nat×Nat×List Int->Nat) fun m=>(Exx (Nat×Nat×List Int) fun t_1=>I t_1/\(cstr x.1=cstr x.1/\Tr 1 (x.2=x.2)/\Tr 4 (q2/\Tr 1 ((true=true/\zaC/\0=0/\1=1/\0=0/\t.2.length=t_1.2.2.length/\t.1=t_1.2.1)/\Tr 1 (0=(t_1.1:Int))/\Tr 74 True)))/\true=true/\q11/\(q3/\1=1/\t.1=t_1.2.1/\t_1.2.2.length <= t.2.length/\∀(i:Nat),i<t_1.2.2.length->[AV.int .i64 (t.2.getD i 0)]=[AV.int .i64 (t_1.2.2.getD i 0)])/\True)/\∀(t:Nat×Nat×List Int),
 let q14:Prop:=(0:Int) <= (t.1:Int)/\(t.1:Int)<(↑(16:Nat):Int);
 let q15:Prop:=(t.1:Int).toNat<16;
 let q16:Int:=zaN x.1 x.2 (t.1:Int).toNat;
 let q17:Nat:=t.2.2.length+1; I t->BC (decide ((t.1:Int)<(16:Int))) (q14/\q15/\Exx (List Nat×Int) fun x_2=>((cstr x.1=cstr x_2.1/\Tr 1 (q16=x_2.2)/\True)/\true=true/\True)/\(Oct x_2.1/\I64 x_2.2)/\∀(y:Unit),True->BC (!decide (zc7 x_2.1 x_2.2)) q10 (Exx (Nat×Nat×List Int->Prop) fun I_1=>(q14/\q15/\BC (!decide (q16=(0:Int))) (q14/\q15/\q1/\true=true/\(t.2.2.length <= t.2.2.length/\t.2.1=t.2.1)/\(q17 <= 9223372036854775807/\q17*8 <= 140737488355328)/\∀(cap:Nat),q17 <= cap/\cap <= 9223372036854775807->Exx (Nat×Nat×List Int) fun t_1=>I_1 t_1/\(cstr x.1=cstr x.1/\Tr 1 (x.2=x.2)/\Tr 4 (q2/\Tr 1 ((true=true/\zaC/\0=0/\1=1/\0=0/\q17=t_1.2.2.length/\cap=t_1.2.1)/\Tr 1 ((t.1:Int)=(t_1.1:Int))/\q7)))/\true=true/\q11/\(q3/\1=1/\cap=t_1.2.1/\t_1.2.2.length <= q17/\∀(i:Nat),
 let q18:Nat:=0+(i-t.2.2.length); i<t_1.2.2.length->(if i<t.2.2.length then [AV.int .i64 (t.2.2.getD i 0)] else [AV.int .i64 (if q18=q4 then q16 else 0)])=[AV.int .i64 (t_1.2.2.getD i 0)])/\(184=(184:TypeId)/\1=1/\16=16/\(∀(i:Nat),i<16->[AV.int .i64 (zaN x_2.1 x_2.2 i)]=[AV.int .i64 (zaN x.1 (zaN x.1 x.2 t_1.1) i)])/\True)/\True) (Exx (Nat×Nat×List Int) fun t_1 =>
 let q19:Prop:=t.2.1=t_1.2.1; I_1 t_1/\(cstr x.1=cstr x.1/\Tr 1 (x.2=x.2)/\Tr 4 (q2/\Tr 1 ((true=true/\zaC/\0=0/\1=1/\0=0/\t.2.2.length=t_1.2.2.length/\q19)/\Tr 1 ((t.1:Int)=(t_1.1:Int))/\q7)))/\true=true/\q11/\(q3/\1=1/\q19/\t_1.2.2.length <= t.2.2.length/\∀(i:Nat),i<t_1.2.2.length->[AV.int .i64 (t.2.2.getD i 0)]=[AV.int .i64 (t_1.2.2.getD i 0)])/\(184=(184:TypeId)/\1=1/\16=16/\(∀(i:Nat),i<16->[AV.int .i64 (zaN x_2.1 x_2.2 i)]=[AV.int .i64 (zaN x.1 (zaN x.1 x.2 t_1.1) i)])/\True)/\True))/\∀(t_1:Nat×Nat×List Int),I_1 t_1->Exx ((Nat×Nat)×Nat×List Int->Prop) fun I_2=>Exx ((Nat×Nat)×Nat×List Int->Nat) fun m_1=>(Exx ((Nat×Nat)×Nat×List Int) fun t =>
 let q20:Prop:=t_1.2.1=t.2.1; I_2 t/\(cstr x.1=cstr x.1/\Tr 1 (x.2=x.2)/\Tr 4 (q2/\Tr 1 ((true=true/\zaC/\0=0/\1=1/\0=0/\t_1.2.2.length=t.2.2.length/\q20)/\Tr 1 ((t_1.1:Int)=(t.1.1:Int))/\q2/\Tr 1 (Tr 1 (0=(t.1.2:Int))/\Tr 71 True))))/\true=true/\q11/\(q3/\1=1/\q20/\t.2.2.length <= t_1.2.2.length/\∀(i:Nat),i<t.2.2.length->[AV.int .i64 (t_1.2.2.getD i 0)]=[AV.int .i64 (t.2.2.getD i 0)])/\(q6/\1=1/\16=16/\(∀(i:Nat),i<16->[AV.int .i64 (zaN x.1 (zaN x.1 x.2 t_1.1) i)]=[AV.int .i64 (zaN x.1 (zaN x.1 x.2 t.1.1) i)])/\True)/\True)/\∀(t_2:(Nat×Nat)×Nat×List Int),
 let q21:Prop:=(0:Int) <= (t_2.1.2:Int)/\(t_2.1.2:Int)<(↑(16:Nat):Int);
 let q22:Nat:=(t_2.1.2:Int).toNat;
 let q23:Prop:=q22<16;
 let q24:Int:=zaN x.1 x.2 t_2.1.1;
 let q25:Int:=zaN x.1 q24 q22;
 let q26:Nat:=t_2.2.2.length+1;
 let q27:Int:=(t_2.1.2:Int)+1;
 let q28:Prop:=I64 q27;
 let q29:Int:=(t_2.1.1:Int)+1; I_2 t_2->BC (decide ((t_2.1.2:Int)<(16:Int))) (q21/\q23/\Exx (List Nat×Int) fun x_3=>((cstr x.1=cstr x_3.1/\Tr 1 (q25=x_3.2)/\True)/\true=true/\True)/\(Oct x_3.1/\I64 x_3.2)/\∀(y:Unit),True->BC (!decide (zdV x_3.1 x_3.2)) q10 (q21/\q23/\BC (!decide (q25=(0:Int))) (q21/\q23/\q1/\true=true/\(t_2.2.2.length <= t_2.2.2.length/\t_2.2.1=t_2.2.1)/\(q26 <= 9223372036854775807/\q26*8 <= 140737488355328)/\∀(cap:Nat),q26 <= cap/\cap <= 9223372036854775807->q28/\Exx ((Nat×Nat)×Nat×List Int) fun t'=>(I_2 t'/\m_1 t'<m_1 t_2)/\(cstr x.1=cstr x.1/\Tr 1 (x.2=x.2)/\Tr 4 (q2/\Tr 1 ((true=true/\zaC/\0=0/\1=1/\0=0/\q26=t'.snd.2.length/\cap=t'.snd.1)/\Tr 1 ((t_2.1.1:Int)=(↑t'.fst.1:Int))/\q2/\Tr 1 (Tr 1 (q27=(↑t'.fst.2:Int))/\Tr 71 True))))/\true=true/\q11/\(q3/\1=1/\cap=t'.snd.1/\t'.snd.2.length <= q26/\∀(i:Nat),
 let q30:Nat:=0+(i-t_2.2.2.length); i<t'.snd.2.length->(if i<t_2.2.2.length then [AV.int .i64 (t_2.2.2.getD i 0)] else [AV.int .i64 (if q30=q4 then q25 else 0)])=[AV.int .i64 (t'.snd.2.getD i 0)])/\(q6/\1=1/\16=16/\(∀(i:Nat),i<16->[AV.int .i64 (zaN x.1 q24 i)]=[AV.int .i64 (zaN x.1 (zaN x.1 x.2 t'.fst.1) i)])/\True)/\True) (q28/\Exx ((Nat×Nat)×Nat×List Int) fun t' =>
 let q31:Prop:=t_2.2.1=t'.snd.1; (I_2 t'/\m_1 t'<m_1 t_2)/\(cstr x.1=cstr x.1/\Tr 1 (x.2=x.2)/\Tr 4 (q2/\Tr 1 ((true=true/\zaC/\0=0/\1=1/\0=0/\t_2.2.2.length=t'.snd.2.length/\q31)/\Tr 1 ((t_2.1.1:Int)=(↑t'.fst.1:Int))/\q2/\Tr 1 (Tr 1 (q27=(↑t'.fst.2:Int))/\Tr 71 True))))/\true=true/\q11/\(q3/\1=1/\q31/\t'.snd.2.length <= t_2.2.2.length/\∀(i:Nat),i<t'.snd.2.length->[AV.int .i64 (t_2.2.2.getD i 0)]=[AV.int .i64 (t'.snd.2.getD i 0)])/\(q6/\1=1/\16=16/\(∀(i:Nat),i<16->[AV.int .i64 (zaN x.1 q24 i)]=[AV.int .i64 (zaN x.1 (zaN x.1 x.2 t'.fst.1) i)])/\True)/\True))) (I64 q29/\Exx (Nat×Nat×List Int) fun t' =>
 let q32:Prop:=t_2.2.1=t'.snd.1; (I t'/\m t'<m t)/\(cstr x.1=cstr x.1/\Tr 1 (x.2=x.2)/\Tr 4 (q2/\Tr 1 ((true=true/\zaC/\0=0/\1=1/\0=0/\t_2.2.2.length=t'.snd.2.length/\q32)/\Tr 1 (q29=(↑t'.fst:Int))/\Tr 74 True)))/\true=true/\q11/\(q3/\1=1/\q32/\t'.snd.2.length <= t_2.2.2.length/\∀(i:Nat),i<t'.snd.2.length->[AV.int .i64 (t_2.2.2.getD i 0)]=[AV.int .i64 (t'.snd.2.getD i 0)])/\True))) (Exx Nat fun y=>((((true=true/\zaC/\0=0/\1=1/\0=0/\t.2.2.length=(zcX x.1 x.2).length/\t.2.1=y)/\true=q9/\True)/\True)/\true=true/\(q3/\1=1/\t.2.1=y/\(zcX x.1 x.2).length <= t.2.2.length/\∀(i:Nat),i<(zcX x.1 x.2).length->[AV.int .i64 (t.2.2.getD i 0)]=[AV.int .i64 ((zcX x.1 x.2).getD i 0)])/\True)/\(zcX x.1 x.2).length <= y/\y <= 9223372036854775807)))=(zcA tb [(94,zaA zl3),(95,zaA zjY)] Tryz.f57 zk0 (fun x=>{ loops:=[(8,zxW x),(16,zxV x)],joins:=[(7,zxY x),(15,zxX x)] }) (fun _ av _=>qdB av) (fun _=>[]) (fun _ _ _ _=>[])):=by kernel_rfl

theorem zu9:SpecOk Tryz.prog 57 (zaA zk0):=by
 refine za0 zaM zaL (SPok.cons zqN (SPok.cons zoN SPok.nil)) Tryz.func57 (by decide) (zo6 fun _ _ _=>⟨rfl,rfl,trivial⟩) (Eq.mp qa2 ?_)
 simp (maxSteps:=10000000) only [std,stdU,stdV,Exx,I64,Nat.reduceMul,Nat.reduceDiv,Nat.reduceAdd,Int.reduceToNat]
 rintro img top ⟨h,h1,h2⟩
 have hno:¬zeY img top->((zcX img top).length=0/\false=decide (zeY img top)/\(zcX img top).length=0/\(zcX img top).length <= 0/\0 <= 9223372036854775807):=fun hn=>by
  rw [zcX,if_neg hn]; exact ⟨rfl,(decide_eq_false hn).symm,rfl,Nat.le_refl _,by omega⟩
 refine ⟨h,h1,h2,fun hn=>hno fun k=>hn k.1,fun hT=>⟨fun t=>t.2=zgD img top 0/\t.2.length <= t.1/\t.1 <= 9223372036854775807,fun hz=>⟨by omega,by omega,fun cap hc=>⟨cap,[top],⟨by simp only [zgD]; rw [if_neg hz]; rfl,hc.1,hc.2⟩,rfl,rfl,rfl,Nat.le_refl _,fun i hi=>?_⟩⟩,fun hz=>⟨0,[],⟨by simp only [zgD]; rw [if_pos hz]; rfl,Nat.le_refl _,by simp⟩,rfl,rfl,rfl,rfl⟩,fun cap b hb=>?_⟩⟩
 ·have:i=0:=by simp at hi; exact hi
  subst this; rfl
 obtain ⟨q1,q2,q3⟩:=hb
 simp only at q1 q2 q3
 refine ⟨fun t=>t.1 <= 16/\t.2.2=zgD img top t.1/\zvI img top t.1/\t.2.2.length <= t.2.1/\t.2.1 <= 9223372036854775807,⟨0,cap,b,⟨by omega,q1,fun i hi=>absurd hi (Nat.not_lt_zero _),q2,q3⟩,rfl,rfl,rfl,rfl,Nat.le_refl _,fun _ _=>rfl⟩,fun t=>16-t.1,fun a c l hJ=>⟨fun hlt=>?_,fun hge=>?_⟩⟩
 ·obtain ⟨j1,j2,j3,j4,j5⟩:=hJ
  simp only at j1 j2 j3 j4 j5
  have hlen:=ztJ img top a
  rw [<- j2] at hlen
  have hI:=zmH img top (i:=a) (by omega)
  refine ⟨by omega,by omega,by omega,h,hI.1,hI.2,fun hn=>hno fun k=>hn (k.2 a (by omega)).1,fun hy=>⟨by omega,by omega,by omega,fun t=>t.1=a/\t.2.2=zgD img top a++(if zaN img top a=0 then [] else [zaN img top a])/\t.2.2.length <= t.2.1/\t.2.1 <= 9223372036854775807,fun hz=>⟨by omega,by omega,by omega,by omega,by omega,fun cap2 hc2=>⟨a,cap2,l++[zaN img top a],⟨rfl,by simp only; rw [if_neg hz,j2],by simp only [List.length_append,List.length_cons,List.length_nil]; omega,hc2.2⟩,by simp,rfl,rfl,rfl,by simp,snocJ l _,fun _ _=>rfl⟩⟩,fun hz=>⟨a,c,l,⟨rfl,by simp only; rw [if_pos hz,List.append_nil,j2],j4,j5⟩,rfl,rfl,rfl,rfl,Nat.le_refl _,fun _ _=>rfl,fun _ _=>rfl⟩,fun a1 c1 l1 hK=>?_⟩⟩
  obtain ⟨k1,k2,k3,k4⟩:=hK
  simp only at k1 k2 k3 k4
  subst k1
  refine ⟨fun t=>t.1.1=a1/\t.1.2 <= 16/\t.2.2=zgD img top a1++(if zaN img top a1=0 then [] else [zaN img top a1])++zq7 img (zaN img top a1) t.1.2/\(∀j,j<t.1.2->zdV img (imgF img top a1 j))/\t.2.2.length <= t.2.1/\t.2.1 <= 9223372036854775807,⟨a1,0,c1,l1,⟨rfl,by simp only; omega,by simp only [zq7]; rw [k2]; simp,fun j hj=>absurd hj (Nat.not_lt_zero _),k3,k4⟩,rfl,rfl,rfl,rfl,rfl,Nat.le_refl _,fun _ _=>rfl,fun _ _=>rfl⟩,fun t=>16-t.1.2,fun a2 j c2 l2 hL=>⟨fun hlt2=>?_,fun hge2=>?_⟩⟩
  ·obtain ⟨m1,m2,m3,m4,m5,m6⟩:=hL
   simp only at m1 m2 m3 m4 m5 m6
   subst m1
   have hl2:l2.length <= 2000:=by
    have:=ztJ img top a2
    have:=zyN img (zaN img top a2) j
    rw [m3]
    simp only [List.length_append]
    have:(if zaN img top a2=0 then [] else [zaN img top a2]:List Int).length <= 1:=by split <;> simp
    omega
   have hI2:=zmH img (zaN img top a2) (i:=j) (by omega)
   have hm4:zdV img (zaN img (zaN img top a2) j)->∀i,i<j+1->zdV img (imgF img top a2 i):=fun hy i hi=>by
    by_cases e:i=j
    ·subst e; exact hy
    ·exact m4 i (by omega)
   refine ⟨by omega,by omega,by omega,h,hI2.1,hI2.2,fun hn=>hno fun k=>hn ((k.2 a2 (by omega)).2 j (by omega)),fun hy2=>⟨by omega,by omega,by omega,fun hz=>⟨by omega,by omega,by omega,by omega,by omega,fun cap3 hc3=>⟨by omega,by omega,a2,j+1,cap3,l2++[zaN img (zaN img top a2) j],⟨rfl,by simp only; omega,?_,hm4 hy2,by simp only [List.length_append,List.length_cons,List.length_nil]; omega,hc3.2⟩,by simp only; omega,by simp,rfl,rfl,by omega,rfl,by simp,snocJ l2 _,fun _ _=>rfl⟩⟩,fun hz=>⟨by omega,by omega,a2,j+1,c2,l2,⟨rfl,by simp only; omega,?_,hm4 hy2,m5,m6⟩,by simp only; omega,rfl,rfl,rfl,by omega,rfl,Nat.le_refl _,fun _ _=>rfl,fun _ _=>rfl⟩⟩⟩
   ·simp only
    rw [ztV,if_neg hz,m3,List.append_assoc (zgD img top a2++_)]
   ·simp only
    rw [ztV,if_pos hz,m3,List.append_nil]
  ·obtain ⟨m1,m2,m3,m4,m5,m6⟩:=hL
   simp only at m1 m2 m3 m4 m5 m6
   subst m1
   have ej:j=16:=by omega
   subst ej
   refine ⟨by omega,by omega,a2+1,c2,l2,⟨by simp only; omega,?_,fun i hi=>?_,m5,m6⟩,by simp only; omega,rfl,rfl,by omega,rfl,Nat.le_refl _,fun _ _=>rfl⟩
   ·simp only
    rw [zqX,fanP,m3,List.append_assoc]
   ·by_cases e:i=a2
    ·subst e; exact ⟨hy,m4⟩
    ·exact j3 i (by simp only at hi; omega)
 ·obtain ⟨j1,j2,j3,j4,j5⟩:=hJ
  simp only at j1 j2 j3 j4 j5
  have ea:a=16:=by omega
  subst ea
  have hok:zeY img top:=⟨hT,j3⟩
  rw [zcX,if_pos hok,<- j2]
  exact ⟨rfl,(decide_eq_true hok).symm,Nat.le_refl _,fun _ _=>rfl,j4,j5⟩


abbrev EB:Type:=List EntT×List Int
def zcV (T:Nat->Int->Option EB) (e:EntT) (a:Int) (l:List Int):Nat->Option EB
 | 0=>some ([e],[a])
 | i+1=>match zcV T e a l i with
   | none=>none
   | some p=>match T i (l.getD i 0) with
     | none=>none
     | some q=>if ahead e (q.1.getD 0 entZ) then some (p.1++q.1,p.2++q.2) else none
def qe5 (N:Int->Option NodeT):Nat->Nat->Int->Option EB
 | 0,_,_=>none
 | f+1,k,a=>match N a with
   | none=>none
   | some n=>if n.kids.length=k then zcV (qe5 N f) n.e a n.kids k else none
def zbQ (N:Int->Option NodeT) (k:Nat) (a:Int):Option EB:=qe5 N (k+1) k a
theorem zk7 {T T':Nat->Int->Option EB} {e:EntT} {a:Int} {l:List Int}:∀{k:Nat},(∀i,i<k->∀c,T i c=T' i c)->zcV T e a l k=zcV T' e a l k
 | 0,_=>rfl
 | k+1,h=>by
   rw [zcV,zcV,zk7 (k:=k) fun i hi c=>h i (by omega) c,h k (by omega)]
theorem qe4 (N:Int->Option NodeT):∀(f k:Nat) (a:Int),k+1 <= f->qe5 N f k a=zbQ N k a:=fun f=>by
 induction f using Nat.strongRecOn with
 | ind f ih =>
   intro k a h
   cases f with
   | zero=>omega
   | succ f =>
     rw [zbQ,qe5,qe5]
     cases N a with
     | none=>rfl
     | some n =>
       simp only
       split
       ·refine zk7 fun i hi c=>?_
        rw [ih f (by omega) i c (by omega),ih k (by omega) i c (by omega)]
       ·rfl
theorem zhU (N:Int->Option NodeT) (k:Nat) (a:Int):zbQ N k a=match N a with
  | none=>none
  | some n=>if n.kids.length=k then zcV (zbQ N) n.e a n.kids k else none:=by
 rw [zbQ,qe5]
 cases N a with
 | none=>rfl
 | some n =>
   simp only
   split
   ·exact zk7 fun i hi c=>qe4 N k i c hi
   ·rfl
theorem zfV {T:Nat->Int->Option EB} {e:EntT} {a:Int} {l:List Int}:∀{k:Nat} {p:EB},zcV T e a l k=some p->(∃r,p.1=e :: r)/\∃r,p.2=a :: r
 | 0,p,h=>by cases h; exact ⟨⟨[],rfl⟩,[],rfl⟩
 | k+1,p,h=>by
   rw [zcV] at h
   cases hk:zcV T e a l k with
   | none=>rw [hk] at h; cases h
   | some q =>
     rw [hk] at h
     simp only at h
     cases hT:T k (l.getD k 0) with
     | none=>rw [hT] at h; cases h
     | some r =>
       rw [hT] at h
       simp only at h
       split at h
       ·cases h
        obtain ⟨⟨r1,h1⟩,r2,h2⟩:=zfV hk
        exact ⟨⟨r1++r.1,by simp only; rw [h1]; rfl⟩,r2++r.2,by simp only; rw [h2]; rfl⟩
       ·cases h
theorem zq8 {T:Nat->Int->Option EB} {e:EntT} {a:Int} {l:List Int}:∀{k:Nat} {p:EB},(∀i,i<k->∀c q,T i c=some q->q.1.length=2 ^ i/\q.2.length=2 ^ i)->zcV T e a l k=some p->p.1.length=2 ^ k/\p.2.length=2 ^ k
 | 0,p,_,h=>by cases h; exact ⟨rfl,rfl⟩
 | k+1,p,hT0,h=>by
   rw [zcV] at h
   cases hk:zcV T e a l k with
   | none=>rw [hk] at h; cases h
   | some q =>
     rw [hk] at h
     simp only at h
     cases hT:T k (l.getD k 0) with
     | none=>rw [hT] at h; cases h
     | some r =>
       rw [hT] at h
       simp only at h
       split at h
       ·cases h
        have h1:=zq8 (fun i hi=>hT0 i (by omega)) hk
        have h2:=hT0 k (by omega) _ _ hT
        simp only [List.length_append,Nat.pow_succ]; omega
       ·cases h
theorem zeF {N:Int->Option NodeT} {k:Nat} {a:Int} {p:EB} (h:zbQ N k a=some p):∃n,N a=some n/\n.kids.length=k/\zcV (zbQ N) n.e a n.kids k=some p:=by
 rw [zhU] at h
 cases hN:N a with
 | none=>rw [hN] at h; cases h
 | some n =>
   rw [hN] at h
   simp only at h
   split at h
   ·exact ⟨n,rfl,by assumption,h⟩
   ·cases h
theorem zpX (N:Int->Option NodeT):∀(k:Nat) (a:Int) (p:EB),zbQ N k a=some p->p.1.length=2 ^ k/\p.2.length=2 ^ k:=fun k=>by
 induction k using Nat.strongRecOn with
 | ind k ih =>
   intro a p h
   obtain ⟨n,_,_,h⟩:=zeF h
   exact zq8 (fun i hi c q hq=>ih i hi c q hq) h

def imgN (img:List Nat) (a:Int):Option NodeT:=if zcI (imgL img a) then some (nodeB (imgL img a)) else none
def imgT (img:List Nat) (k:Nat) (a:Int):EB:=(zbQ (imgN img) k a).getD ([],[])
def zlZ (m:Nat):Ctr where
 X:=List Nat×Int×Nat
 Y:=Nat×Nat
 conv:=true
 tau:=fun _ _=>[]
 pre:=fun x=>Oct x.1/\I64 x.2.1/\x.2.2<m
 args:=fun x=>[strN x.1,i64 x.2.1,i64 (x.2.2:Nat)]
 heap:=fun _=>[]
 Q:=fun x c=>((imgT x.1 x.2.2 x.2.1).1.length <= c.1/\c.1 <= 9223372036854775807)/\(imgT x.1 x.2.2 x.2.1).2.length <= c.2/\c.2 <= 9223372036854775807
 res:=fun x c => .tup [.sl 1 [] 0 4 0 (imgT x.1 x.2.2 x.2.1).1.length c.1,.sl 2 [] 0 1 0 (imgT x.1 x.2.2 x.2.1).2.length c.2,.bool (zbQ (imgN x.1) x.2.2 x.2.1).isSome]
 its:=fun _ _=>[]
 new:=fun x c=>[entR c.1 (imgT x.1 x.2.2 x.2.1).1,rowI 3 .i64 c.2 (imgT x.1 x.2.2 x.2.1).2]
theorem qaR (m:Nat):CtrOk (zlZ m) :=
 ⟨fun _ _ _ _=>rfl,fun _ _ _ _=>⟨rfl,rfl⟩,fun x _ _ _ _=>⟨⟨trivial,⟨⟨fun _ _=>⟨rfl,rfl,rfl,rfl,trivial⟩,trivial⟩,⟨fun _ _=>⟨rfl,trivial⟩,trivial⟩,trivial⟩⟩,rfl,rfl,rfl,trivial⟩⟩
def qh4 (av:AV):Option Ren:=match av with
 | .tup (.sl q _ _ _ _ _ _ :: .sl r _ _ _ _ _ _ :: _)=>some [some 0,some q,some r]
 | _=>some [some 0,none,none]
def zxP (x:List Nat×Int×Nat):LA:={ T:=(Nat×Nat)×(List EntT×Nat)×(List Int×Nat),F:=fun t=>frm 73 [(0,strN x.1),(1,i64 x.2.1),(2,i64 (x.2.2:Nat)),(9,.ptr 2 [] 0),(11,.sl 3 [] 0 4 0 t.2.1.1.length t.2.1.2),(12,.sl 4 [] 0 1 0 t.2.2.1.length t.2.2.2),(13,i64 (t.1.1:Nat))],H:=fun t=>[.fence,rowI 3 .i64 t.1.2 (nodeB (imgL x.1 x.2.1)).kids,.cells 31 [i64 (nodeB (imgL x.1 x.2.1)).e.slot,i64 (nodeB (imgL x.1 x.2.1)).e.gen,i64 (nodeB (imgL x.1 x.2.1)).e.key,i64 (nodeB (imgL x.1 x.2.1)).e.value,.sl 1 [] 0 1 0 (nodeB (imgL x.1 x.2.1)).kids.length t.1.2],entR t.2.1.2 t.2.1.1,rowI 3 .i64 t.2.2.2 t.2.2.1] }
theorem qo5:(
 let q1:Prop:=true=true/\zaC/\0=0;
 let q2:Prop:=(3:TypeId)=3;
 let q3:Prop:=(29:TypeId)=29;
 let q4:Nat:=(TI.mk (TK.struct [(0,27),(2,3),(3,3)]) 4 32 (ZL.cons (Value.int IntKind.i64 0) (ZL.cons (Value.int IntKind.i64 0) (ZL.cons (Value.int IntKind.i64 0) (ZL.cons (Value.int IntKind.i64 0) ZL.nil)))) true).size;
 let q5:Nat:=(TI.mk (TK.int IntKind.i64) 1 8 (ZL.cons (Value.int IntKind.i64 0) ZL.nil) false).size;
 let q6:Nat:=0+Int.toNat 0; ∀(m:Nat) (x:List Nat×Int×Nat),
 let q7:EB:=imgT x.1 x.2.2 x.2.1;
 let q8:List EntT:=q7.1;
 let q9:Nat:=q8.length;
 let q10:Prop:=q9=0;
 let q11:List Int:=q7.2;
 let q12:Nat:=q11.length;
 let q13:Prop:=q12=0;
 let q14:Bool:=(zbQ (imgN x.1) x.2.2 x.2.1).isSome;
 let q15:Prop:=Exx (Nat×Nat) fun y=>((((q10/\y.1=0)/\(q13/\y.2=0)/\false=q14/\True)/\True)/\true=true/\(y.1=0/\q10)/\(y.2=0/\q13)/\True)/\(q9 <= y.1/\y.1 <= 9223372036854775807)/\q12 <= y.2/\y.2 <= 9223372036854775807;
 let q16:Prop:=cstr x.1=cstr x.1;
 let q17:Prop:=Tr 1 (x.2.1=x.2.1);
 let q18:Prop:=Tr 1 ((x.2.2:Int)=(x.2.2:Int));
 let q19:NodeT:=nodeB (imgL x.1 x.2.1);
 let q20:List Int:=q19.kids;
 let q21:Nat:=q20.length;
 let q22:EntT:=q19.e;
 let q23:Int:=q22.slot;
 let q24:Int:=q22.gen;
 let q25:Int:=q22.key;
 let q26:Int:=q22.value; Oct x.1/\I64 x.2.1/\x.2.2<m+1->Exx (List Nat×Int) fun x_1=>((cstr x.1=cstr x_1.1/\Tr 1 (x.2.1=x_1.2)/\True)/\true=true/\True)/\(Oct x_1.1/\I64 x_1.2)/\∀(y:Nat),(getNodeT (imgL x_1.1 x_1.2)).kids.length <= y/\y <= 9223372036854775807->BC (!decide (zcI (imgL x_1.1 x_1.2))) q15 (BC (!decide ((↑(getNodeT (imgL x_1.1 x_1.2)).kids.length:Int)=(x.2.2:Int))) q15 (Exx ((Nat×Nat)×(List EntT×Nat)×List Int×Nat->Prop) fun I=>Exx ((Nat×Nat)×(List EntT×Nat)×List Int×Nat->Nat) fun m_1=>(Exx ((Nat×Nat)×(List EntT×Nat)×List Int×Nat) fun t =>
 let q27:List EntT×Nat:=t.2.1;
 let q28:List EntT:=q27.1;
 let q29:Nat:=q28.length;
 let q30:Prop:=1=q27.2;
 let q31:List Int×Nat:=t.2.2;
 let q32:List Int:=q31.1;
 let q33:Nat:=q32.length;
 let q34:Prop:=1=q31.2;
 let q35:Prop:=y=t.1.2; I t/\(q16/\q17/\q18/\Tr 6 (q1/\Tr 1 ((true=true/\zaC/\0=0/\4=4/\0=0/\1=q29/\q30)/\(true=true/\zaC/\0=0/\1=1/\0=0/\1=q33/\q34)/\Tr 1 (0=(t.1.1:Int))/\Tr 59 True)))/\true=true/\(q2/\1=1/\q35/\q21 <= (getNodeT (imgL x_1.1 x_1.2)).kids.length/\∀(i:Nat),i<q21->[AV.int .i64 ((getNodeT (imgL x_1.1 x_1.2)).kids.getD i 0)]=[AV.int .i64 (q20.getD i 0)])/\(31=(31:TypeId)/\Tr 1 ((getNodeT (imgL x_1.1 x_1.2)).e.slot=q23)/\Tr 1 ((getNodeT (imgL x_1.1 x_1.2)).e.gen=q24)/\Tr 1 ((getNodeT (imgL x_1.1 x_1.2)).e.key=q25)/\Tr 1 ((getNodeT (imgL x_1.1 x_1.2)).e.value=q26)/\(true=true/\zaC/\0=0/\1=1/\0=0/\(getNodeT (imgL x_1.1 x_1.2)).kids.length=q21/\q35)/\True)/\(q3/\4=4/\q30/\q29 <= 1/\∀(i:Nat),
 let q36:Prop:=i=0*4 / 4; i<q29->[AV.int .i64 (if q36 then (getNodeT (imgL x_1.1 x_1.2)).e.slot else 0),AV.int .i64 (if q36 then (getNodeT (imgL x_1.1 x_1.2)).e.gen else 0),AV.int .i64 (if q36 then (getNodeT (imgL x_1.1 x_1.2)).e.key else 0),AV.int .i64 (if q36 then (getNodeT (imgL x_1.1 x_1.2)).e.value else 0)]=[AV.int .i64 (q28.getD i entZ).slot,AV.int .i64 (q28.getD i entZ).gen,AV.int .i64 (q28.getD i entZ).key,AV.int .i64 (q28.getD i entZ).value])/\(q2/\1=1/\q34/\q33 <= 1/\∀(i:Nat),i<q33->[AV.int .i64 (if i=0*1 / 1 then x.2.1 else 0)]=[AV.int .i64 (q32.getD i 0)])/\True)/\∀(t:(Nat×Nat)×(List EntT×Nat)×List Int×Nat),
 let q37:Int:=(t.1.1:Int);
 let q38:Nat:=0+q37.toNat;
 let q39:List EntT×Nat:=t.2.1;
 let q40:List EntT:=q39.1;
 let q41:Nat:=q40.length;
 let q42:Nat:=q39.2;
 let q43:List Int×Nat:=t.2.2;
 let q44:List Int:=q43.1;
 let q45:Nat:=q44.length;
 let q46:Nat:=q43.2;
 let q47:Int:=q37+1; I t->BC (decide (q37<(x.2.2:Int))) (((0:Int) <= q37/\q37<(q21:Int))/\q38<q21/\Exx (List Nat×Int×Nat) fun x_2 =>
 let q48:EB:=imgT x_2.1 x_2.2.2 x_2.2.1;
 let q49:List EntT:=q48.1;
 let q50:Nat:=q49.length;
 let q51:List Int:=q48.2;
 let q52:Nat:=q51.length;
 let q53:EntT:=q49.getD q6 entZ;
 let q54:Nat:=q41+q50;
 let q55:Nat:=q45+q52; ((cstr x.1=cstr x_2.1/\Tr 1 (q20.getD q38 0=x_2.2.1)/\Tr 1 (q37=(x_2.2.2:Int))/\True)/\true=true/\True)/\(Oct x_2.1/\I64 x_2.2.1/\x_2.2.2<m)/\∀(y:Nat×Nat),(q50 <= y.1/\y.1 <= 9223372036854775807)/\q52 <= y.2/\y.2 <= 9223372036854775807->BC (!(zbQ (imgN x_2.1) x_2.2.2 x_2.2.1).isSome) q15 (((0:Int) <= (0:Int)/\0<(q50:Int))/\q6<q50/\Exx (EntT×EntT) fun x=>(((Tr 1 (q23=x.1.slot)/\Tr 1 (q24=x.1.gen)/\Tr 1 (q25=x.1.key)/\Tr 1 (q26=x.1.value)/\True)/\(Tr 1 (q53.slot=x.2.slot)/\Tr 1 (q53.gen=x.2.gen)/\Tr 1 (q53.key=x.2.key)/\Tr 1 (q53.value=x.2.value)/\True)/\True)/\true=true/\True)/\(EntI x.1/\EntI x.2)/\∀(y:Unit),True->BC (!decide (ahead x.1 x.2)) q15 (0+q50 <= q50/\true=true/\(q41 <= q41/\q42=q42)/\(q54 <= 9223372036854775807/\q54*32 <= 140737488355328)/\∀(cap:Nat),q54 <= cap/\cap <= 9223372036854775807->0+q52 <= q52/\true=true/\(q45 <= q45/\q46=q46)/\(q55 <= 9223372036854775807/\q55*8 <= 140737488355328)/\∀(cap_1:Nat),q55 <= cap_1/\cap_1 <= 9223372036854775807->I64 q47/\Exx ((Nat×Nat)×(List EntT×Nat)×List Int×Nat) fun t' =>
 let q56:List EntT×Nat:=t'.snd.1;
 let q57:List EntT:=q56.1;
 let q58:Nat:=q57.length;
 let q59:Prop:=cap=q56.2;
 let q60:List Int×Nat:=t'.snd.2;
 let q61:List Int:=q60.1;
 let q62:Nat:=q61.length;
 let q63:Prop:=cap_1=q60.2;
 let q64:Prop:=t.1.2=t'.fst.2; (I t'/\m_1 t'<m_1 t)/\(q16/\q17/\q18/\Tr 6 (q1/\Tr 1 ((true=true/\zaC/\0=0/\4=4/\0=0/\q54=q58/\q59)/\(true=true/\zaC/\0=0/\1=1/\0=0/\q55=q62/\q63)/\Tr 1 (q47=(↑t'.fst.1:Int))/\Tr 59 True)))/\true=true/\(q2/\1=1/\q64/\q21 <= q21/\∀(i:Nat),i<q21->[AV.int .i64 (q20.getD i 0)]=[AV.int .i64 (q20.getD i 0)])/\((31:TypeId)=31/\Tr 1 (q23=q23)/\Tr 1 (q24=q24)/\Tr 1 (q25=q25)/\Tr 1 (q26=q26)/\(true=true/\zaC/\0=0/\1=1/\0=0/\q21=q21/\q64)/\True)/\(q3/\4=4/\q59/\q58 <= q54/\∀(i:Nat),
 let q65:EntT:=q49.getD (0+(i-q41)) entZ; i<q58->(if i<q41 then [AV.int .i64 (q40.getD i entZ).slot,AV.int .i64 (q40.getD i entZ).gen,AV.int .i64 (q40.getD i entZ).key,AV.int .i64 (q40.getD i entZ).value] else [AV.int .i64 q65.slot,AV.int .i64 q65.gen,AV.int .i64 q65.key,AV.int .i64 q65.value])=[AV.int .i64 (q57.getD i entZ).slot,AV.int .i64 (q57.getD i entZ).gen,AV.int .i64 (q57.getD i entZ).key,AV.int .i64 (q57.getD i entZ).value])/\(q2/\1=1/\q63/\q62 <= q55/\∀(i:Nat),i<q62->(if i<q45 then [AV.int .i64 (q44.getD i 0)] else [AV.int .i64 (q51.getD (0+(i-q45)) 0)])=[AV.int .i64 (q61.getD i 0)])/\True))) (Exx (Nat×Nat) fun y=>((((true=true/\zaC/\0=0/\4=4/\0=0/\q41=q9/\q42=y.1)/\(true=true/\zaC/\0=0/\1=1/\0=0/\q45=q12/\q46=y.2)/\true=q14/\True)/\True)/\true=true/\(q3/\4=4/\q42=y.1/\q9 <= q41/\∀(i:Nat),i<q9->[AV.int .i64 (q40.getD i entZ).slot,AV.int .i64 (q40.getD i entZ).gen,AV.int .i64 (q40.getD i entZ).key,AV.int .i64 (q40.getD i entZ).value]=[AV.int .i64 (q8.getD i entZ).slot,AV.int .i64 (q8.getD i entZ).gen,AV.int .i64 (q8.getD i entZ).key,AV.int .i64 (q8.getD i entZ).value])/\(q2/\1=1/\q46=y.2/\q12 <= q45/\∀(i:Nat),i<q12->[AV.int .i64 (q44.getD i 0)]=[AV.int .i64 (q11.getD i 0)])/\True)/\(q9 <= y.1/\y.1 <= 9223372036854775807)/\q12 <= y.2/\y.2 <= 9223372036854775807))))=(∀m:Nat,zcA tb [(109,zaA zpG),(73,zaA (zlZ m)),(35,zaA qeW)] Tryz.f73 (zlZ (m+1)) (fun x=>{ loops:=[(6,zxP x)] }) (fun _ av _=>qh4 av) (fun _=>[]) (fun _ _ _ _=>[])):=by kernel_rfl

theorem zyQ {P:EntT->Prop} {T:Nat->Int->Option EB} {e:EntT} {a:Int} {l:List Int} (he:P e):∀{k:Nat} {p:EB},(∀i,i<k->∀c q,T i c=some q->∀x∈q.1,P x)->zcV T e a l k=some p->∀x∈p.1,P x
 | 0,p,_,h=>by cases h; intro x hx; rw [List.mem_singleton] at hx; rw [hx]; exact he
 | k+1,p,hT0,h=>by
   rw [zcV] at h
   cases hk:zcV T e a l k with
   | none=>rw [hk] at h; cases h
   | some q =>
     rw [hk] at h
     simp only at h
     cases hT:T k (l.getD k 0) with
     | none=>rw [hT] at h; cases h
     | some r =>
       rw [hT] at h
       simp only at h
       split at h
       ·cases h
        intro x hx
        rcases List.mem_append.1 hx with hx | hx
        ·exact zyQ he (fun i hi=>hT0 i (by omega)) hk x hx
        ·exact hT0 k (by omega) _ _ hT x hx
       ·cases h
theorem qeC {img:List Nat} {a:Int} {n:NodeT} (h:imgN img a=some n):zd1 n/\zbJ n:=by
 unfold imgN at h
 split at h
 ·rename_i hn
  cases h
  exact ⟨(znQ _).2 (by have:=hn.2.2.1; omega),hn.2.2.2.1⟩
 ·cases h
theorem zpY {P:EntT->Prop} {N:Int->Option NodeT} (hN:∀a n,N a=some n->P n.e):∀(k:Nat) (a:Int) (p:EB),zbQ N k a=some p->∀x∈p.1,P x:=fun k=>by
 induction k using Nat.strongRecOn with
 | ind k ih =>
   intro a p h
   obtain ⟨n,h1,_,h2⟩:=zeF h
   exact zyQ (hN a n h1) (fun i hi c q hq=>ih i hi c q hq) h2
theorem zrF {img:List Nat} {k:Nat} {a:Int} {p:EB} (h:zbQ (imgN img) k a=some p):imgT img k a=p:=by rw [imgT,h]; rfl
theorem qlK {img:List Nat} {k:Nat} {a:Int} (h:zbQ (imgN img) k a=none):imgT img k a=([],[]):=by rw [imgT,h]; rfl
theorem zqI:∀m:Nat,SpecOk Tryz.prog 73 (zaA (zlZ m))
 | 0=>⟨⟨_,Tryz.func73,rfl,rfl⟩,fun W D R ids own H w args vals K hgl hT hR hS=>by
   unfold zaA at hS
   split at hS
   ·obtain ⟨x,_,h,_⟩:=hS
    exact absurd h.2.2 (Nat.not_lt_zero _)
   ·exact hS.elim⟩
 | m+1=>by
   refine za0 zaM zaL (SPok.cons qgT (SPok.cons (zqI m) (SPok.cons qeV SPok.nil))) Tryz.func73 (by decide) (qaR (m+1)) (an:=fun x=>{ loops:=[(6,zxP x)] }) (σ:=fun _ av _=>qh4 av) (op:=fun _=>[]) (cl:=fun _ _ _ _=>[]) ?_
   refine (Eq.mp qo5 ?_) m
   simp (maxSteps:=10000000) only [and_false,false_and,false_or,or_false,bOf_true,bOf_false,true_bOf,false_bOf,Exx,int_ite,merge_o,Tr_eq,true_and,and_true,exists_const,forall_const,implies_true,forall_eq,exists_eq,exists_eq',exists_eq_left,exists_eq_left',exists_eq_right,Prod.exists,Prod.forall,and_assoc,exists_and_left,BC_iff,Bool.not_eq_true',Bool.not_eq_false',decide_eq_true_eq,decide_eq_false_iff_not,I64,nat_cast_inj,Int.toNat_natCast,nats_iff,nats_iff',ints_iff,ints_iff',natss_iff,natss_iff',nilnil,litL_eq,str_inj,str_append,str_length,str_getD,str_take,lit1_iff,one_iff,two_iff,one_get,Nat.zero_add,Nat.sub_zero,Nat.reduceMul,Nat.reduceDiv,Nat.reduceAdd,Int.reduceToNat,Nat.not_lt_zero,if_false,if_true,Nat.le_refl,List.length_singleton,List.length_cons,List.length_nil,Bool.false_eq_true,not_true_eq_false,false_implies,not_false_eq_true,Prod.mk.injEq,zrS]
   rintro m img a k ⟨h,ha1,ha2,h2⟩
   refine ⟨h,ha1,ha2,fun y hy=>?_⟩
   have hno:zbQ (imgN img) k a=none->((imgT img k a).1.length=0/\(imgT img k a).2.length=0/\false=(zbQ (imgN img) k a).isSome/\(imgT img k a).1.length=0/\(imgT img k a).2.length=0/\(imgT img k a).1.length <= 0/\0 <= 9223372036854775807/\(imgT img k a).2.length <= 0/\0 <= 9223372036854775807):=fun hn=>by
    rw [qlK hn,hn]; exact ⟨rfl,rfl,rfl,rfl,rfl,Nat.le_refl _,by omega,Nat.le_refl _,by omega⟩
   refine ⟨fun hn=>hno (by rw [zhU,imgN,if_neg hn]),fun hN=>?_⟩
   have eN:imgN img a=some (nodeB (imgL img a)):=by rw [imgN,if_pos hN]
   have eT:getNodeT (imgL img a)=nodeB (imgL img a):=by rw [getNodeT,if_pos hN]
   have hI:=qeC eN
   rw [eT] at hy ⊢
   refine ⟨fun hk=>hno (by rw [zhU,eN]; simp only; rw [if_neg hk]),fun hk=>?_⟩
   have hk12:k <= 12:=by have:=hI.2.2.2.2.2.1; omega
   have e0:zbQ (imgN img) k a=zcV (zbQ (imgN img)) (nodeB (imgL img a)).e a (nodeB (imgL img a)).kids k:=by
    rw [zhU,eN]; simp only; rw [if_pos hk]
   generalize nodeB (imgL img a)=n at *
   have hT:∀i,i<k->∀c q,zbQ (imgN img) i c=some q->q.1.length=2 ^ i/\q.2.length=2 ^ i:=fun i _ c q hq=>zpX _ i c q hq
   have stop:∀j,j<k->zcV (zbQ (imgN img)) n.e a n.kids (j+1)=none->zbQ (imgN img) k a=none:=fun j hj hn=>by
    rw [e0]
    have:∀d,zcV (zbQ (imgN img)) n.e a n.kids (j+1+d)=none:=fun d=>by
     induction d with
     | zero=>exact hn
     | succ d ih=>rw [Nat.add_succ,zcV,ih]
    have:=this (k-(j+1))
    rwa [show j+1+(k-(j+1))=k by omega] at this
   refine ⟨fun t=>t.1.1 <= k/\zcV (zbQ (imgN img)) n.e a n.kids t.1.1=some (t.2.1.1,t.2.2.1)/\t.2.1.1.length <= t.2.1.2/\t.2.1.2 <= 9223372036854775807/\t.2.2.1.length <= t.2.2.2/\t.2.2.2 <= 9223372036854775807,⟨0,y,[n.e],1,[a],1,⟨Nat.zero_le _,rfl,by simp,by simp only; omega,by simp,by simp only; omega⟩,rfl,rfl,rfl,rfl,rfl,rfl,Nat.le_refl _,fun _ _=>rfl,rfl,rfl,rfl,rfl,rfl,rfl,rfl,Nat.le_refl _,fun i hi=>?_,rfl,Nat.le_refl _,fun i hi=>?_⟩,fun t=>k-t.1.1,fun i kc es ec bs bc hJ=>⟨fun hlt=>?_,fun hge=>?_⟩⟩
   ·have:i=0:=by simp at hi; exact hi
    subst this; rfl
   ·have:i=0:=by simp at hi; exact hi
    subst this; rfl
   ·obtain ⟨q1,q2,q3,q4,q5,q6⟩:=hJ
    simp only at q1 q2 q3 q4 q5 q6
    have hi:i<k:=by omega
    have hkid:=zvU hI.1.2 i
    have hl:=zq8 (fun j hj=>hT j (by omega)) q2
    simp only at hl
    have p1:2 ^ i <= 2 ^ 12:=Nat.pow_le_pow_right (by decide) (by omega)
    have e12:2 ^ 12=4096:=rfl
    refine ⟨by omega,by omega,by omega,h,hkid.1,hkid.2,by omega,fun c1 c2 hc=>⟨fun hs=>hno (stop i hi ?_),fun hs=>?_⟩⟩
    ·rw [zcV,q2]
     cases hq:zbQ (imgN img) i (n.kids.getD i 0) with
     | none=>simp only [hq]
     | some q=>rw [hq] at hs; cases hs
    ·cases hq:zbQ (imgN img) i (n.kids.getD i 0) with
     | none=>rw [hq] at hs; cases hs
     | some q =>
       have hql:=hT i hi _ _ hq
       have hpos:0<2 ^ i:=Nat.pow_pos (by decide)
       have hqI:=zpY (P:=EntI) (fun c m hm=>(qeC hm).1.1) i _ q hq
       have hg0:EntI (q.1.getD 0 entZ):=getD_mem (p:=EntI) hqI ⟨I64_0,I64_0,I64_0,I64_0⟩ 0
       rw [zrF hq] at hc ⊢
       refine ⟨by omega,by omega,by omega,hI.1.1,hg0,fun ha=>hno (stop i hi ?_),fun ha=>⟨by omega,by omega,fun cap hcap=>⟨by omega,by omega,fun cap2 hcap2=>⟨by omega,by omega,i+1,kc,es++q.1,cap,bs++q.2,cap2,⟨by simp only; omega,?_,by simp only [List.length_append]; omega,hcap.2,by simp only [List.length_append]; omega,hcap2.2⟩,by simp only; omega,by simp,rfl,by simp,rfl,by omega,rfl,rfl,rfl,by simp,fun j hj=>?_,rfl,by simp,fun j hj=>?_⟩⟩⟩⟩
       ·rw [zcV,q2]; simp only; rw [hq]; simp only; rw [if_neg ha]
       ·rw [zcV,q2]; simp only; rw [hq]; simp only; rw [if_pos ha]
       ·rw [zaH]
        by_cases e:j<es.length
        ·rw [if_pos e,if_pos e]
        ·rw [if_neg e,if_neg e]
       ·rw [zaH]
        by_cases e:j<bs.length
        ·rw [if_pos e,if_pos e]
        ·rw [if_neg e,if_neg e]
   ·obtain ⟨q1,q2,q3,q4,q5,q6⟩:=hJ
    simp only at q1 q2 q3 q4 q5 q6
    have ei:i=k:=by omega
    subst ei
    have e1:zbQ (imgN img) i a=some (es,bs):=by rw [e0,q2]
    rw [zrF e1,e1]
    exact ⟨rfl,rfl,rfl,Nat.le_refl _,fun _ _=>rfl,Nat.le_refl _,fun _ _=>rfl,q3,q4,q5,q6⟩
def qdU:Sx.Spec:=zaA (zlZ 13)
theorem qf1:SpecOk Tryz.prog 73 qdU:=zqI 13


abbrev zn5 (l:List EntT):AV := .ro 4 l.length (entF l)
def EntsI (l:List EntT):Prop:=(∀x∈l,EntI x)/\l.length <= 1000000
def zkZ:Ctr:=zbN (List EntT×List EntT) (fun x=>EntsI x.1/\EntsI x.2) (fun x=>[zn5 x.1,zn5 x.2]) (fun x => .bool (decide (x.1=x.2)))
def zxU (x:List EntT×List EntT):LA:={ T:=Nat,F:=fun i=>frm 26 [(0,zn5 x.1),(1,zn5 x.2),(5,i64 (i:Nat))],H:=fun _=>[.fence] }
theorem qa1:(∀(x:List EntT×List EntT),
 let q1:Bool:=decide (x.1=x.2);
 let q2:Prop:=Exx Unit fun y=>((false=q1/\True)/\true=true/\True)/\True;
 let q4:Prop:=4=4/\x.1.length=x.1.length/\∀(i:Nat),
 let q3:List AV:=[AV.int .i64 (x.1.getD i entZ).slot,AV.int .i64 (x.1.getD i entZ).gen,AV.int .i64 (x.1.getD i entZ).key,AV.int .i64 (x.1.getD i entZ).value]; i<x.1.length->q3=q3;
 let q6:Prop:=4=4/\x.2.length=x.2.length/\∀(i:Nat),
 let q5:List AV:=[AV.int .i64 (x.2.getD i entZ).slot,AV.int .i64 (x.2.getD i entZ).gen,AV.int .i64 (x.2.getD i entZ).key,AV.int .i64 (x.2.getD i entZ).value]; i<x.2.length->q5=q5; EntsI x.1/\EntsI x.2->BC (!decide ((x.1.length:Int)=(x.2.length:Int))) q2 (Exx (Nat->Prop) fun I=>Exx (Nat->Nat) fun m=>(Exx Nat fun t=>I t/\(q4/\q6/\Tr 3 (Tr 1 (0=(t:Int))/\Tr 20 True))/\true=true/\True)/\∀(t:Nat),
 let q7:Prop:=(t:Int)<(x.1.length:Int);
 let q8:EntT:=x.1.getD (t:Int).toNat entZ;
 let q9:EntT:=x.2.getD (t:Int).toNat entZ;
 let q10:Int:=(t:Int)+1; I t->BC (decide q7) (((0:Int) <= (t:Int)/\q7)/\((0:Int) <= (t:Int)/\(t:Int)<(x.2.length:Int))/\(Tr 2 True/\Tr 2 True)/\(Tr 2 True/\Tr 2 True)/\∀(b:Bool),(b=true ↔ (q8.slot=q9.slot/\q8.gen=q9.gen/\True)/\q8.key=q9.key/\q8.value=q9.value/\True)->BC (!b) q2 (I64 q10/\Exx Nat fun t'=>(I t'/\m t'<m t)/\(q4/\q6/\Tr 3 (Tr 1 (q10=(↑t':Int))/\Tr 20 True))/\true=true/\True)) (Exx Unit fun y=>((true=q1/\True)/\true=true/\True)/\True)))=(fnVC tb [] Tryz.f26 zkZ (fun x=>{ loops:=[(4,zxU x)] }) (fun _=>none)):=by kernel_rfl

theorem zu8:SpecOk Tryz.prog 26 (zaA zkZ):=by
 refine zaK zaM zaL SPok.nil Tryz.func26 (by decide) (zaO fun _=>rfl) (Eq.mp qa1 ?_)
 simp (maxSteps:=10000000) only [std,stdU,stdV,Exx,I64,Nat.reduceMul,Nat.reduceDiv,Nat.reduceAdd,Int.reduceToNat]
 rintro l q ⟨⟨h1,h2⟩,h3,h4⟩
 refine ⟨fun h=>(decide_eq_false (fun e=>h (by rw [e]))).symm,fun he=>⟨fun i=>i <= l.length/\∀j,j<i->l.getD j entZ=q.getD j entZ,⟨0,⟨by omega,fun j hj=>absurd hj (Nat.not_lt_zero _)⟩,rfl⟩,fun i=>l.length-i,fun i hi=>⟨fun hlt=>⟨by omega,by omega,by omega,by omega,fun c hc=>?_⟩,fun hge=>(decide_eq_true (zeJ entZ he fun j hj=>hi.2 j (by omega))).symm⟩⟩⟩
 have hce:c=true ↔ l.getD i entZ=q.getD i entZ:=by
  rw [hc]
  refine ⟨fun ⟨h1,h2,h3,h4⟩=>?_,fun h=>by rw [h]; exact ⟨rfl,rfl,rfl,rfl⟩⟩
  cases e1:l.getD i entZ
  cases e2:q.getD i entZ
  rw [e1,e2] at h1 h2 h3 h4
  simp only at h1 h2 h3 h4
  rw [h1,h2,h3,h4]
 refine ⟨fun h=>(decide_eq_false (fun e=>?_)).symm,fun h=>⟨by omega,by omega,i+1,⟨by omega,fun j hj=>?_⟩,by simp only; omega,by omega⟩⟩
 ·have:=hce.2 (by rw [e])
  rw [h] at this; cases this
 ·by_cases e:j=i
  ·subst e; exact hce.1 h
  ·exact hi.2 j (by omega)

def zgG (x:EntT) (l:List EntT):Nat->Nat
 | 0=>0
 | k+1=>if ahead x (l.getD k entZ) then zgG x l k else k+1
def insE (l:List EntT) (x:EntT):List EntT:=l.take (zgG x l l.length)++x :: l.drop (zgG x l l.length)
def zaY (l:List EntT):List EntT:=l.foldl insE []
theorem qeA (x:EntT) (l:List EntT):∀k,zgG x l k <= k
 | 0=>Nat.le_refl _
 | k+1=>by
   unfold zgG
   split
   ·exact Nat.le_succ_of_le (qeA x l k)
   ·exact Nat.le_refl _
theorem zyU (l:List EntT) (x:EntT):(insE l x).Perm (x :: l):=by
 unfold insE
 refine List.perm_middle.trans (List.Perm.cons _ ?_)
 rw [List.take_append_drop]
theorem zt2:∀(l m:List EntT),(l.foldl insE m).Perm (l++m)
 | [],m=>List.Perm.refl _
 | x :: r,m=>by
   refine (zt2 r (insE m x)).trans ?_
   refine ((zyU m x).append_left r).trans ?_
   exact List.perm_middle
theorem zjP (l:List EntT):(zaY l).Perm l:=by
 have:=zt2 l []
 rwa [List.append_nil] at this
theorem qfL {l:List EntT} {i:Nat} (h:i<l.length):zaY (l.take (i+1))=insE (zaY (l.take i)) (l.getD i entZ):=by
 rw [zc4 entZ h,zaY,List.foldl_append]; rfl
theorem zxF (l:List EntT):(zaY l).length=l.length:=(zjP l).length_eq
theorem qaF {l:List EntT} (h:EntsI l):EntsI (zaY l):=⟨fun x hx=>h.1 x ((zjP l).mem_iff.1 hx),by rw [zxF]; exact h.2⟩
theorem EntsI.take {l:List EntT} (h:EntsI l) (n:Nat):EntsI (l.take n):=⟨fun x hx=>h.1 x (List.mem_of_mem_take hx),by rw [List.length_take]; have:=h.2; omega⟩
def rowEC (X:Type) (pre:X->Prop) (args:X->List AV) (l:X->List EntT) (res:X->AV->AV):Ctr where
 X:=X
 Y:=Nat
 conv:=true
 tau:=fun _ _=>[]
 pre:=pre
 args:=args
 heap:=fun _=>[]
 Q:=fun x cap=>(l x).length <= cap/\cap <= 9223372036854775807
 res:=fun x cap=>res x (.sl 1 [] 0 4 0 (l x).length cap)
 its:=fun _ _=>[]
 new:=fun x cap=>[entR cap (l x)]
theorem qo1 {X:Type} {pre:X->Prop} {args:X->List AV} {l:X->List EntT} {res:X->AV->AV} (h:∀x n cap,plV 2 (res x (.sl 1 [] 0 4 0 n cap))):CtrOk (rowEC X pre args l res) :=
 ⟨fun _ _ _ _=>rfl,fun _ _ _ _=>⟨rfl,rfl⟩,fun x cap _ _ _=>⟨⟨trivial,⟨⟨fun _ _=>⟨rfl,rfl,rfl,rfl,trivial⟩,trivial⟩,trivial⟩⟩,h _ _ _⟩⟩
def qaE:Ctr:=rowEC (List EntT) EntsI (fun l=>[zn5 l]) zaY (fun _ r=>r)
def zlN (F:Fr) (_:AH):Option Ren:=match F.getD 3 .any with
 | .sl q _ _ _ _ _ _=>some [some 0,some q]
 | _=>some [some 0,none]
def qoM (l:List EntT):LA:={ T:=Nat×Nat,F:=fun t=>frm 49 [(0,zn5 l),(3,.sl 1 [] 0 4 0 (zaY (l.take t.1)).length t.2),(4,i64 (t.1:Nat))],H:=fun t=>[.fence,entR t.2 (zaY (l.take t.1))],ρ₁:=zlN,ρ₂:=zlN }
def qoL (l:List EntT):LA:={ T:=(Nat×Nat)×Nat,F:=fun t=>frm 49 [(0,zn5 l),(3,.sl 1 [] 0 4 0 (zaY (l.take t.1.1)).length t.1.2),(4,i64 (t.1.1:Nat)),(5,i64 (t.2:Nat))],H:=fun t=>[.fence,entR t.1.2 (zaY (l.take t.1.1))],ρ₁:=zlN,ρ₂:=zlN }
def slSg (av:AV):Option Ren:=match av with
 | .sl q _ _ _ _ _ _=>some [some 0,some q]
 | _=>some [some 0,none]
theorem sortedV:(
 let q1:Prop:=(29:TypeId)=29;
 let q2:Nat:=0+0;
 let q3:Prop:=(0:Nat)+(1:Nat) <= (1:Nat);
 let q4:Nat:=0*4 / 4;
 let q5:Nat:=(TI.mk (TK.struct [(0,27),(2,3),(3,3)]) 4 32 (ZL.cons (Value.int IntKind.i64 0) (ZL.cons (Value.int IntKind.i64 0) (ZL.cons (Value.int IntKind.i64 0) (ZL.cons (Value.int IntKind.i64 0) ZL.nil)))) true).size;
 let q6:Nat:=(0,Operand.tmp 40).1*q5 / q5; ∀(x:List EntT),
 let q8:Prop:=(4:Nat)=4/\x.length=x.length/\∀(i:Nat),
 let q7:List AV:=[AV.int .i64 (x.getD i entZ).slot,AV.int .i64 (x.getD i entZ).gen,AV.int .i64 (x.getD i entZ).key,AV.int .i64 (x.getD i entZ).value]; i<x.length->q7=q7; EntsI x->Exx (Nat×Nat->Prop) fun I=>Exx (Nat×Nat->Nat) fun m=>(Exx (Nat×Nat) fun t =>
 let q9:Prop:=(zaY (List.take t.1 x)).length=0; I t/\(q8/\Tr 2 ((q9/\t.2=0)/\Tr 1 ((0:Int)=(t.1:Int))/\Tr 44 True))/\true=true/\(t.2=0/\q9)/\True)/\∀(t:Nat×Nat),I t->BC (decide ((t.1:Int)<(x.length:Int))) (Exx ((Nat×Nat)×Nat->Prop) fun I_1=>Exx ((Nat×Nat)×Nat->Nat) fun m_1=>(Exx ((Nat×Nat)×Nat) fun t_1=>I_1 t_1/\(q8/\Tr 2 ((true=true/\zaC/\(0:Nat)=0/\(4:Nat)=4/\(0:Nat)=0/\(zaY (List.take t.1 x)).length=(zaY (List.take t_1.1.1 x)).length/\t.2=t_1.1.2)/\Tr 1 ((t.1:Int)=(t_1.1.1:Int))/\Tr 1 ((↑(zaY (List.take t.1 x)).length:Int)=(t_1.2:Int))/\Tr 43 True))/\true=true/\(q1/\(4:Nat)=4/\t.2=t_1.1.2/\(zaY (List.take t_1.1.1 x)).length <= (zaY (List.take t.1 x)).length/\∀(i:Nat),i<(zaY (List.take t_1.1.1 x)).length->[AV.int .i64 ((zaY (List.take t.1 x)).getD i entZ).slot,AV.int .i64 ((zaY (List.take t.1 x)).getD i entZ).gen,AV.int .i64 ((zaY (List.take t.1 x)).getD i entZ).key,AV.int .i64 ((zaY (List.take t.1 x)).getD i entZ).value]=[AV.int .i64 ((zaY (List.take t_1.1.1 x)).getD i entZ).slot,AV.int .i64 ((zaY (List.take t_1.1.1 x)).getD i entZ).gen,AV.int .i64 ((zaY (List.take t_1.1.1 x)).getD i entZ).key,AV.int .i64 ((zaY (List.take t_1.1.1 x)).getD i entZ).value])/\True)/\∀(t_1:(Nat×Nat)×Nat),
 let q10:Prop:=(0:Int) <= (t_1.1.1:Int)/\(t_1.1.1:Int)<(x.length:Int);
 let q11:Int:=(t_1.2:Int)-1;
 let q12:Prop:=I64 q11;
 let q13:Nat:=0+q11.toNat;
 let q14:EntT:=x.getD (t_1.1.1:Int).toNat entZ;
 let q15:Int:=q14.slot;
 let q16:Int:=q14.gen;
 let q17:Int:=q14.key;
 let q18:Int:=q14.value;
 let q19:EntT:=(zaY (List.take t_1.1.1 x)).getD q13 entZ;
 let q20:Prop:=(0:Int) <= (t_1.2:Int);
 let q21:Nat:=(t_1.2:Int).toNat-0;
 let q22:Nat:=q21+1;
 let q23:Nat:=0+(t_1.2:Int).toNat;
 let q24:Nat:=(zaY (List.take t_1.1.1 x)).length-(t_1.2:Int).toNat;
 let q25:Nat:=q22+q24;
 let q26:Int:=(t_1.1.1:Int)+1;
 let q31:Prop:=q20/\(0 <= (t_1.2:Int).toNat/\(t_1.2:Int).toNat <= t_1.1.2)/\q2+q21 <= (zaY (List.take t_1.1.1 x)).length/\(q21 <= 9223372036854775807/\q21*32 <= 140737488355328)/\∀(cap:Nat),q21 <= cap/\cap <= 9223372036854775807->q10/\q3/\true=true/\(q21 <= q21/\cap=cap)/\(q22 <= 9223372036854775807/\q22*32 <= 140737488355328)/\∀(cap:Nat),q22 <= cap/\cap <= 9223372036854775807->q20/\((t_1.2:Int).toNat <= (zaY (List.take t_1.1.1 x)).length/\(zaY (List.take t_1.1.1 x)).length <= t_1.1.2)/\q23+q24 <= (zaY (List.take t_1.1.1 x)).length/\true=true/\(q22 <= q22/\cap=cap)/\(q25 <= 9223372036854775807/\q25*32 <= 140737488355328)/\∀(cap:Nat),q25 <= cap/\cap <= 9223372036854775807->I64 q26/\Exx (Nat×Nat) fun t'=>(I t'/\m t'<m t)/\(q8/\Tr 2 ((true=true/\zaC/\(0:Nat)=0/\(4:Nat)=4/\(0:Nat)=0/\q25=(zaY (List.take t'.fst x)).length/\cap=t'.snd)/\Tr 1 (q26=(↑t'.fst:Int))/\Tr 44 True))/\true=true/\(q1/\(4:Nat)=4/\cap=t'.snd/\(zaY (List.take t'.fst x)).length <= q25/\∀(i:Nat),
 let q27:EntT:=(zaY (List.take t_1.1.1 x)).getD (q2+i) entZ;
 let q28:Nat:=0+(i-q21);
 let q29:Prop:=q28=q4;
 let q30:EntT:=(zaY (List.take t_1.1.1 x)).getD (q23+(i-q22)) entZ; i<(zaY (List.take t'.fst x)).length->(if i<q22 then if i<q21 then [AV.int .i64 q27.slot,AV.int .i64 q27.gen,AV.int .i64 q27.key,AV.int .i64 q27.value] else [AV.int .i64 (if q29 then q15 else 0),AV.int .i64 (if q29 then q16 else 0),AV.int .i64 (if q29 then q17 else 0),AV.int .i64 (if q29 then q18 else 0)] else [AV.int .i64 q30.slot,AV.int .i64 q30.gen,AV.int .i64 q30.key,AV.int .i64 q30.value])=[AV.int .i64 ((zaY (List.take t'.fst x)).getD i entZ).slot,AV.int .i64 ((zaY (List.take t'.fst x)).getD i entZ).gen,AV.int .i64 ((zaY (List.take t'.fst x)).getD i entZ).key,AV.int .i64 ((zaY (List.take t'.fst x)).getD i entZ).value])/\True; I_1 t_1->BC (decide ((0:Int)<(t_1.2:Int))) (q10/\q12/\((0:Int) <= q11/\q11<(↑(zaY (List.take t_1.1.1 x)).length:Int))/\q13<(zaY (List.take t_1.1.1 x)).length/\Exx (EntT×EntT) fun x_1=>(((Tr 1 (q15=x_1.1.slot)/\Tr 1 (q16=x_1.1.gen)/\Tr 1 (q17=x_1.1.key)/\Tr 1 (q18=x_1.1.value)/\True)/\(Tr 1 (q19.slot=x_1.2.slot)/\Tr 1 (q19.gen=x_1.2.gen)/\Tr 1 (q19.key=x_1.2.key)/\Tr 1 (q19.value=x_1.2.value)/\True)/\True)/\true=true/\True)/\(EntI x_1.1/\EntI x_1.2)/\∀(y:Unit),True->BC (decide (ahead x_1.1 x_1.2)) (q12/\Exx ((Nat×Nat)×Nat) fun t'=>(I_1 t'/\m_1 t'<m_1 t_1)/\(q8/\Tr 2 ((true=true/\zaC/\(0:Nat)=0/\(4:Nat)=4/\(0:Nat)=0/\(zaY (List.take t_1.1.1 x)).length=(zaY (List.take t'.fst.1 x)).length/\t_1.1.2=t'.fst.2)/\Tr 1 ((t_1.1.1:Int)=(↑t'.fst.1:Int))/\Tr 1 (q11=(↑t'.snd:Int))/\Tr 43 True))/\true=true/\(q1/\(4:Nat)=4/\t_1.1.2=t'.fst.2/\(zaY (List.take t'.fst.1 x)).length <= (zaY (List.take t_1.1.1 x)).length/\∀(i:Nat),i<(zaY (List.take t'.fst.1 x)).length->[AV.int .i64 ((zaY (List.take t_1.1.1 x)).getD i entZ).slot,AV.int .i64 ((zaY (List.take t_1.1.1 x)).getD i entZ).gen,AV.int .i64 ((zaY (List.take t_1.1.1 x)).getD i entZ).key,AV.int .i64 ((zaY (List.take t_1.1.1 x)).getD i entZ).value]=[AV.int .i64 ((zaY (List.take t'.fst.1 x)).getD i entZ).slot,AV.int .i64 ((zaY (List.take t'.fst.1 x)).getD i entZ).gen,AV.int .i64 ((zaY (List.take t'.fst.1 x)).getD i entZ).key,AV.int .i64 ((zaY (List.take t'.fst.1 x)).getD i entZ).value])/\True) q31) q31) (Exx Nat fun y=>(((true=true/\zaC/\(0:Nat)=0/\(4:Nat)=4/\(0:Nat)=0/\(zaY (List.take t.1 x)).length=(zaY x).length/\t.2=y)/\True)/\true=true/\(q1/\(4:Nat)=4/\t.2=y/\(zaY x).length <= (zaY (List.take t.1 x)).length/\∀(i:Nat),i<(zaY x).length->[AV.int .i64 ((zaY (List.take t.1 x)).getD i entZ).slot,AV.int .i64 ((zaY (List.take t.1 x)).getD i entZ).gen,AV.int .i64 ((zaY (List.take t.1 x)).getD i entZ).key,AV.int .i64 ((zaY (List.take t.1 x)).getD i entZ).value]=[AV.int .i64 ((zaY x).getD i entZ).slot,AV.int .i64 ((zaY x).getD i entZ).gen,AV.int .i64 ((zaY x).getD i entZ).key,AV.int .i64 ((zaY x).getD i entZ).value])/\True)/\(zaY x).length <= y/\y <= 9223372036854775807))=(zcA tb [(35,zaA qeW)] Tryz.f31 qaE (fun x=>{ loops:=[(3,qoM x),(6,qoL x)] }) (fun _ av _=>slSg av) (fun _=>[]) (fun _ _ _ _=>[])):=by kernel_rfl

theorem qiV:SpecOk Tryz.prog 31 (zaA qaE):=by
 refine za0 zaM zaL (SPok.cons qeV SPok.nil) Tryz.func31 (by decide) (qo1 fun _ _ _=>rfl) (Eq.mp sortedV ?_)
 simp (maxSteps:=10000000) only [std,stdU,stdV,Exx,I64,Nat.reduceMul,Nat.reduceDiv,Nat.reduceAdd,Int.reduceToNat,zrS]
 intro l h
 have hlen:=h.2
 have hsl:∀i,i <= l.length->(zaY (l.take i)).length=i:=fun i hi=>by rw [zxF,List.length_take]; omega
 refine ⟨fun t=>t.1 <= l.length/\t.1 <= t.2/\t.2 <= 9223372036854775807,⟨0,0,⟨Nat.zero_le _,Nat.le_refl _,by simp⟩,rfl,rfl,rfl,rfl,rfl⟩,fun t=>l.length-t.1,fun i c hJ=>⟨fun hlt=>?_,fun hge=>?_⟩⟩
 ·obtain ⟨q1,q2,q3⟩:=hJ
  simp only at q1 q2 q3
  have hi:i<l.length:=by omega
  have hS:=hsl i q1
  have hSI:=qaF (h.take i)
  have hx:EntI (l.getD i entZ):=getD_mem (p:=EntI) h.1 ⟨I64_0,I64_0,I64_0,I64_0⟩ i
  have e1:zaY (l.take (i+1))=insE (zaY (l.take i)) (l.getD i entZ):=qfL hi
  have hS1:=hsl (i+1) (by omega)
  refine ⟨fun t=>t.1.1=i/\t.1.2=c/\t.2 <= i/\zgG (l.getD i entZ) (zaY (l.take i)) i=zgG (l.getD i entZ) (zaY (l.take i)) t.2,⟨i,c,i,⟨rfl,rfl,Nat.le_refl _,rfl⟩,rfl,rfl,rfl,hS,rfl,Nat.le_refl _,fun _ _=>rfl⟩,fun t=>t.2,fun i2 c2 k hK=>?_⟩
  obtain ⟨k1,k2,k3,k4⟩:=hK
  simp only at k1 k2 k3 k4
  subst k1; subst k2
  generalize hs:zaY (l.take i2)=s at *
  generalize hxe:l.getD i2 entZ=x at *
  rw [hS]
  refine (fun (tail:zgG x s i2=k->_)=>⟨fun hp=>⟨by omega,by omega,by omega,by omega,by omega,by omega,by omega,hx,getD_mem (p:=EntI) hSI.1 ⟨I64_0,I64_0,I64_0,I64_0⟩ _,fun ha=>⟨by omega,by omega,i2,c2,k-1,⟨rfl,rfl,by simp only; omega,?_⟩,by simp only; omega,by rw [hs]; exact hS.symm,rfl,rfl,by omega,rfl,by rw [hs]; omega,fun _ _=>by rw [hs]⟩,fun hna=>tail ?_⟩,fun hz=>tail ?_⟩) ?_
  ·intro hk
   have ei:insE s x=s.take k++x :: s.drop k:=by rw [insE,hS,hk]
   have hgi:∀j,(insE s x).getD j entZ=if j<k then s.getD j entZ else if j=k then x else s.getD (j-1) entZ:=fun j=>by
    rw [ei,zaH,List.length_take,show min k s.length=k by omega]
    by_cases e:j<k
    ·rw [if_pos e,if_pos e,za9,if_pos e]
    ·rw [if_neg e,if_neg e]
     by_cases e2:j=k
     ·rw [if_pos e2,e2,Nat.sub_self]; rfl
     ·rw [if_neg e2,show j-k=(j-k-1)+1 by omega,List.getD_cons_succ,za4]
      congr 1; omega
   refine ⟨by omega,by omega,by omega,by omega,by omega,by omega,fun cap hcap=>⟨by omega,by omega,by omega,by omega,fun cap2 hcap2=>⟨by omega,by omega,by omega,by omega,by omega,by omega,fun cap3 hcap3=>⟨by omega,by omega,i2+1,cap3,⟨by simp only; omega,by simp only; omega,hcap3.2⟩,by simp only; omega,by omega,rfl,by omega,rfl,by omega,fun j hj=>?_⟩⟩⟩⟩
   rw [hS1] at hj
   rw [e1,hgi j]
   by_cases e:j<k
   ·rw [if_pos (by omega),if_pos e,if_pos e]
   ·rw [if_neg e,if_neg e]
    by_cases e2:j=k
    ·have e3:j-k=0:=by omega
     rw [if_pos (by omega),if_pos e3,if_pos e3,if_pos e3,if_pos e3,if_pos e2]
    ·rw [if_neg (by omega),if_neg e2,show k+(j-(k+1))=j-1 by omega]
  ·obtain ⟨j,rfl⟩:∃j,k=j+1:=⟨k-1,by omega⟩
   have e2:(((j+1:Nat):Int)-1).toNat=j:=by omega
   rw [e2] at ha
   have ha':ahead x (s.getD j entZ):=ha
   simp only [Nat.add_sub_cancel]
   rw [k4,zgG,if_pos ha']
  ·obtain ⟨j,rfl⟩:∃j,k=j+1:=⟨k-1,by omega⟩
   have e2:(((j+1:Nat):Int)-1).toNat=j:=by omega
   rw [e2] at hna
   have hna':¬ahead x (s.getD j entZ):=hna
   rw [k4,zgG,if_neg hna']
  ·have:k=0:=by omega
   subst this
   rw [k4]; rfl
 ·obtain ⟨q1,q2,q3⟩:=hJ
  simp only at q1 q2 q3
  have e:i=l.length:=by omega
  have hl:=hsl l.length (Nat.le_refl _)
  rw [List.take_length] at hl
  rw [e,List.take_length]
  exact ⟨rfl,Nat.le_refl _,fun _ _=>rfl,by omega,q3⟩

end Yard
