import Derived.Test.YtlihikockhjodaaGreatDoorCrc
import Derived.Test.YtlihikockhjodaaGreatDoorNodeMath
import Derived.Test.YtlihikockhjodaaGreatDoorSlotInv

namespace Yard
open Go Go.Sx Go.Proofs
set_option linter.unusedVariables false
set_option linter.unusedSimpArgs false
set_option maxRecDepth 4000

def zqJ:Ctr:=zbN (Nat×Nat) (fun x=>U64 x.1/\x.2 <= 1000) (fun x=>[u64 x.1,i64 (x.2:Int)]) (fun x => .int .u8 ((x.1 / 256 ^ x.2 % 256:Nat):Int))
def znI:Ctr:=zbN (Nat×Nat) (fun x=>U64 x.1/\x.2 <= 1000) (fun x=>[u64 x.1,i64 (x.2:Int)]) (fun x=>strN (layN x.1 x.2))
def znG:Ctr:=zbN (List Nat) Oct (fun l=>[strN l]) (fun l=>u64 (za8 l))
def qf3 (x:Nat×Nat):LA:={ T:=Nat,F:=fun i=>frm 16 [(0,u64 (x.1 / 256 ^ i)),(1,i64 (x.2:Int)),(5,i64 (i:Int))],H:=fun _=>[.fence] }

theorem qjN:(∀(x:Nat×Nat),
 let q1:Prop:=Tr 1 ((x.2:Int)=(x.2:Int)); U64 x.1/\x.2 <= 1000->Exx (Nat->Prop) fun I=>Exx (Nat->Nat) fun m=>(Exx Nat fun t=>I t/\(Tr 1 ((x.1:Int)=(↑(x.1 / 256 ^ t):Int))/\q1/\Tr 3 (Tr 1 (0=(t:Int))/\Tr 10 True))/\true=true/\True)/\∀(t:Nat),
 let q2:Int:=(↑(x.1 / 256 ^ t):Int);
 let q3:Int:=(t:Int)+1; I t->BC (decide ((t:Int)<(x.2:Int))) (256≠(0:Int)/\∀(n:Int),n=IntKind.u64.wrap (q2.tdiv 256)->I64 q3/\Exx Nat fun t'=>(I t'/\m t'<m t)/\(Tr 1 (n=(↑(x.1 / 256 ^ t'):Int))/\q1/\Tr 3 (Tr 1 (q3=(↑t':Int))/\Tr 10 True))/\true=true/\True) (256≠(0:Int)/\∀(n:Int),n=q2.tmod 256->∀(m:Int),m=IntKind.u8.wrap n->Exx Unit fun y=>((Tr 1 (m=(↑(x.1 / 256 ^ x.2 % 256):Int))/\True)/\true=true/\True)/\True))=(fnVC tb [] Tryz.f82 zqJ (fun x=>{ loops:=[(2,qf3 x)] }) (fun _=>none)):=by kernel_rfl

theorem qaU:SpecOk Tryz.prog 82 (zaA zqJ):=by
 refine zaK zaM zaL SPok.nil Tryz.func82 (by decide) (zaO fun _=>rfl) (Eq.mp qjN ?_)
 simp (maxSteps:=10000000) only [std,stdU,stdV,Exx,I64,Nat.reduceMul,Nat.reduceDiv,Nat.reduceAdd,Int.reduceToNat]
 rintro v n ⟨hv,hn⟩
 have hlt:∀i,U64 (v / 256 ^ i):=fun i=>Nat.lt_of_le_of_lt (Nat.div_le_self _ _) hv
 have e1:∀x:Nat,(x:Int).tdiv 256=((x / 256:Nat):Int):=fun _=>rfl
 have e2:∀x:Nat,(x:Int).tmod 256=((x % 256:Nat):Int):=fun _=>rfl
 refine ⟨fun i=>i <= n,⟨0,by omega,by simp,rfl⟩,fun i=>n-i,fun i hi=>⟨fun h=>⟨by omega,by omega,by omega,i+1,by omega,by simp only; omega,?_,by omega⟩,fun h=>⟨by omega,?_⟩⟩⟩
 ·rw [e1,zoG (by have:=hlt i; unfold U64 at *; omega),Nat.div_div_eq_div_mul,Nat.pow_succ]
 ·rw [e2,qhT,Nat.mod_mod,show i=n by omega]

def qpB (x:Nat×Nat):LA:={ T:=Nat,F:=fun i=>frm 20 [(0,u64 x.1),(1,i64 (x.2:Int)),(5,strN (layN x.1 i)),(6,i64 (i:Int))],H:=fun _=>[.fence] }

theorem qk7 (v n:Nat):layN v (n+1)=layN v n++[v / 256 ^ n % 256]:=by
 refine zbF 0 (by simp [zaE]) fun i hi=>?_
 have hi:i<n+1:=by simpa [zaE] using hi
 rw [zmD _ _ _ hi,zaH,zaE]
 by_cases h:i<n
 ·rw [if_pos h,zmD _ _ _ h]
 ·have:i=n:=by omega
  subst this
  rw [if_neg h,Nat.sub_self]; rfl

theorem refLayV:(
 let q1:Nat:=(TI.mk (TK.int IntKind.u8) 1 1 (ZL.cons (Value.int IntKind.u8 0) ZL.nil) false).size; ∀(x:Nat×Nat),
 let q2:Prop:=Tr 1 ((x.1:Int)=(x.1:Int));
 let q3:Prop:=Tr 1 ((x.2:Int)=(x.2:Int)); U64 x.1/\x.2 <= 1000->Exx (Nat->Prop) fun I=>Exx (Nat->Nat) fun m=>(Exx Nat fun t=>I t/\(q2/\q3/\Tr 3 (cstr (litL (ByteArray.mk #[]))=cstr (layN x.1 t)/\Tr 1 (0=(t:Int))/\Tr 13 True))/\true=true/\True)/\∀(t:Nat),
 let q4:Int:=(t:Int)+1; I t->BC (decide ((t:Int)<(x.2:Int))) (Exx (Nat×Nat) fun x_1=>((Tr 1 ((x.1:Int)=(x_1.1:Int))/\Tr 1 ((t:Int)=(x_1.2:Int))/\True)/\true=true/\True)/\(U64 x_1.1/\x_1.2 <= 1000)/\∀(y:Unit),True->0+1 <= 1/\Exx (List Nat) fun m_1=>(1=m_1.length/\∀(i:Nat),
 let q5:Nat:=0+i; i<m_1.length->[AV.int .u8 (if q5=0*1 / 1 then (↑(x_1.1 / 256 ^ x_1.2 % 256):Int) else 0)]=[AV.int .u8 (↑(m_1.getD i 0):Int)])/\(∀(c:Nat),c∈m_1->c<256)/\(cstr (layN x.1 t)).length+(cstr m_1).length <= 9223372036854775807/\I64 q4/\Exx Nat fun t'=>(I t'/\m t'<m t)/\(q2/\q3/\Tr 3 (cstr (layN x.1 t)++cstr m_1=cstr (layN x.1 t')/\Tr 1 (q4=(↑t':Int))/\Tr 13 True))/\true=true/\True) (Exx Unit fun y=>((cstr (layN x.1 t)=cstr (layN x.1 x.2)/\True)/\true=true/\True)/\True))=(fnVC tb [(82,zaA zqJ)] Tryz.f48 znI (fun x=>{ loops:=[(3,qpB x)] }) (fun _=>none)):=by kernel_rfl

theorem zl1:SpecOk Tryz.prog 48 (zaA znI):=by
 refine zaK zaM zaL (SPok.cons qaU SPok.nil) Tryz.func48 (by decide) (zaO fun _=>rfl) (Eq.mp refLayV ?_)
 simp (maxSteps:=10000000) only [std,stdU,stdV,Exx,I64,Nat.reduceMul,Nat.reduceDiv,Nat.reduceAdd,Int.reduceToNat]
 rintro v n ⟨hv,hn⟩
 refine ⟨fun i=>i <= n,⟨0,by omega,rfl,rfl⟩,fun i=>n-i,fun i hi=>⟨fun h=>⟨hv,by omega,fun c hc=>by simp at hc; omega,by rw [zaE]; omega,by omega,by omega,i+1,by omega,by simp only; omega,(qk7 v i).symm,by omega⟩,fun h=>by rw [show i=n by omega]⟩⟩

def qaV (l:List Nat):LA:={ T:=Nat,F:=fun i=>frm 22 [(0,strN l),(3,u64 (numN ((l.take 8).drop i))),(4,i64 ((i:Int)-1))],H:=fun _=>[.fence] }

theorem qpT {l:List Nat} {i:Nat} (hl:∀c∈l,c<256) (hi:i<l.length) (h8:i<8) :
  IntKind.u64.wrap (IntKind.u64.wrap (((numN ((l.take 8).drop (i+1)):Nat):Int)*256)+IntKind.u64.wrap ((l.getD i 0:Nat):Int))=((numN ((l.take 8).drop i):Nat):Int):=by
 have hc:l.getD i 0<256:=getD_mem (p:=fun c=>c<256) hl (by decide) i
 have hlen:((l.take 8).drop (i+1)).length <= 7:=by simp; omega
 have h1:=zk5 ((l.take 8).drop (i+1)) fun c hc=>hl c (List.mem_of_mem_take (List.mem_of_mem_drop hc))
 have h2:256 ^ ((l.take 8).drop (i+1)).length <= 256 ^ 7:=Nat.pow_le_pow_right (by decide) hlen
 have h3:numN ((l.take 8).drop (i+1))<72057594037927936:=Nat.lt_of_lt_of_le h1 h2
 have e:(l.take 8).drop i=l.getD i 0 :: (l.take 8).drop (i+1):=by
  have hi':i<(l.take 8).length:=by simp; omega
  rw [List.drop_eq_getElem_cons hi']
  congr 1
  rw [List.getElem_take,List.getD_eq_getElem?_getD,List.getElem?_eq_getElem hi]; rfl
 have e1:((numN ((l.take 8).drop (i+1)):Nat):Int)*256=((numN ((l.take 8).drop (i+1))*256:Nat):Int):=by omega
 rw [e1,zoG (by unfold U64; omega),zoG (show U64 (l.getD i 0) by unfold U64; omega)]
 have e2:((numN ((l.take 8).drop (i+1))*256:Nat):Int)+((l.getD i 0:Nat):Int)=((numN ((l.take 8).drop (i+1))*256+l.getD i 0:Nat):Int):=by omega
 rw [e2,zoG (by unfold U64; omega),e,numN]
 omega

theorem qf4:(∀(x:List Nat),
 let q1:Int:=(↑(cstr x).length:Int)-1; Oct x->I64 q1/\Exx (Nat->Prop) fun I=>Exx (Nat->Nat) fun m=>(Exx Nat fun t=>I t/\(cstr x=cstr x/\Tr 2 (Tr 1 (0=(↑(numN (List.drop t (List.take 8 x))):Int))/\Tr 1 (q1=(t:Int)-1)/\Tr 17 True))/\true=true/\True)/\∀(t:Nat),
 let q2:Int:=(t:Int)-1;
 let q3:Prop:=(0:Int) <= q2;
 let q4:Int:=(↑(numN (List.drop t (List.take 8 x))):Int);
 let q5:Int:=q2-1;
 let q6:Prop:=I64 q5; I t->BC (decide q3) (BC (decide (q2<(8:Int))) (∀(n:Int),n=IntKind.u64.wrap (q4*256)->(q3/\q2<(↑(cstr x).length:Int))/\∀(m_1:Int),m_1=IntKind.u64.wrap ((cstr x).getD q2.toNat 0)->∀(n_1:Int),n_1=IntKind.u64.wrap (n+m_1)->q6/\Exx Nat fun t'=>(I t'/\m t'<m t)/\(cstr x=cstr x/\Tr 2 (Tr 1 (n_1=(↑(numN (List.drop t' (List.take 8 x))):Int))/\Tr 1 (q5=(↑t':Int)-1)/\Tr 17 True))/\true=true/\True) (q6/\Exx Nat fun t'=>(I t'/\m t'<m t)/\(cstr x=cstr x/\Tr 2 (Tr 1 (q4=(↑(numN (List.drop t' (List.take 8 x))):Int))/\Tr 1 (q5=(↑t':Int)-1)/\Tr 17 True))/\true=true/\True)) (Exx Unit fun y=>((Tr 1 (q4=(↑(za8 x):Int))/\True)/\true=true/\True)/\True))=(fnVC tb [] Tryz.f197 znG (fun x=>{ loops:=[(3,qaV x)] }) (fun _=>none)):=by kernel_rfl

theorem zxQ:SpecOk Tryz.prog 197 (zaA znG):=by
 refine zaK zaM zaL SPok.nil Tryz.func197 (by decide) (zaO fun _=>rfl) (Eq.mp qf4 ?_)
 simp (maxSteps:=10000000) only [std,stdU,stdV,Exx,I64,Nat.reduceMul,Nat.reduceDiv,Nat.reduceAdd,Int.reduceToNat]
 rintro l ⟨hl,hlen⟩
 refine ⟨by omega,by omega,fun i=>i <= l.length,⟨l.length,by omega,?_,rfl⟩,fun i=>i,?_⟩
 ·rw [List.drop_of_length_le (by simp; omega)]; rfl
 ·intro i hi
  refine ⟨fun h=>⟨fun h8=>?_,fun h8=>?_⟩,fun h=>?_⟩
  ·obtain ⟨j,rfl⟩:∃j,i=j+1:=⟨i-1,by omega⟩
   have e:((j+1:Nat):Int)-1=(j:Int):=by omega
   rw [e]
   refine ⟨by omega,by omega,by omega,by omega,j,by omega,by simp only; omega,?_,rfl⟩
   rw [Int.toNat_natCast]
   exact qpT hl (by omega) (by omega)
  ·refine ⟨by omega,by omega,i-1,by omega,by simp only; omega,?_,by omega⟩
   rw [List.drop_of_length_le (by simp; omega),List.drop_of_length_le (by simp; omega)]
  ·rw [show i=0 by omega,List.drop_zero]; rfl

set_option maxHeartbeats 4000000

theorem qo4:∀(l:List Nat) (a:Nat),regN tableN a l=bitN a l:=by
 intro l
 induction l with
 | nil=>intro a; rfl
 | cons c s ih =>
   intro a
   show regN tableN (takeN tableN a c) s=bitN (stepsN 8 (a ^^^ c)) s
   rw [ih]
   congr 1
   show halfN (stepsN 4) (halfN (stepsN 4) (a ^^^ c))=_
   rw [ztZ,ztZ]
   exact (zs4 4 4 _).symm
theorem qkG {n:Nat} (h:n<4294967296):n ^^^ ones=ones-n:=by
 have:=Nat.xor_comm n ones
 apply Nat.eq_of_testBit_eq
 intro i
 have e2:ones-n=2 ^ 32-(n+1):=by unfold ones; omega
 rw [e2,Nat.testBit_two_pow_sub_succ h,Nat.testBit_xor,show ones=2 ^ 32-1 from rfl,Nat.testBit_two_pow_sub_one]
 by_cases hi:i<32
 ·simp [hi]
 ·have:n.testBit i=false:=Nat.testBit_lt_two_pow (Nat.lt_of_lt_of_le h (by
   have:=Nat.pow_le_pow_right (n:=2) (by omega) (show 32 <= i by omega); simpa using this))
  simp [hi,this]
theorem qf9 {l:List Nat} (h:∀c∈l,c<256):ones-zfB l=sumN [l]:=by
 have hr:zfB l<4294967296:=zl2 h (by decide)
 rw [<- qkG hr,sumN]
 congr 1
 show _=regN tableN ones l
 rw [qo4]; rfl
theorem qiI {l:List Nat} (h:∀c∈l,c<256):sumN [l]<4294967296:=zkQ (zsG fun m hm=>by rw [List.mem_singleton] at hm; subst hm; exact h)

def zqM:Ctr:=zbN (List Nat) Oct (fun l=>[strN l]) (fun l=>i64 (IntKind.i64.wrap ((za8 l:Nat):Int)))
theorem refIntV:(∀(x:List Nat),Oct x->Exx (List Nat) fun x_1=>((cstr x=cstr x_1/\True)/\true=true/\True)/\Oct x_1/\∀(y:Unit),True->∀(m :
 Int),m=IntKind.i64.wrap (↑(za8 x_1):Int)->Exx Unit fun y=>((Tr 1 (m=IntKind.i64.wrap (↑(za8 x):Int))/\True)/\true=true/\True)/\True) =
 (fnVC tb [(197,zaA znG)] Tryz.f175 zqM (fun _=>{}) (fun _=>none)):=by kernel_rfl

theorem zqL:SpecOk Tryz.prog 175 (zaA zqM):=by
 refine zaK zaM zaL (SPok.cons zxQ SPok.nil) Tryz.func175 (by decide) (zaO fun _=>rfl) (Eq.mp refIntV ?_)
 simp (maxSteps:=10000000) only [std,stdU,stdV,Exx,I64,Nat.reduceMul,Nat.reduceDiv,Nat.reduceAdd,Int.reduceToNat]
 exact fun l h=>h

def zu7:Ctr:=zbN (List Nat×Nat) (fun x=>Oct x.1/\x.2 <= 1000) (fun x=>[strN x.1,i64 (x.2:Nat)]) (fun x=>strN (x.1++List.replicate (x.2-x.1.length) 0))
theorem qpD:(∀(x:List Nat×Nat),
 let q1:Int:=(x.2:Int)-(↑(cstr x.1).length:Int);
 let q2:Int:=max q1 0;
 let q3:Nat:=q2.toNat; Oct x.1/\x.2 <= 1000->I64 q1/\((0:Int) <= q2/\q2 <= q2/\(↑(1:Nat):Int)*q2 <= (281474976710656:Int)/\q2 <= (9223372036854775807:Int))/\0+q3 <= q3/\Exx (List Nat) fun m=>(q3=m.length/\∀(i:Nat),i<m.length->[AV.int .u8 0]=[AV.int .u8 (↑(m.getD i 0):Int)])/\(∀(c:Nat),c∈m->c<256)/\(cstr x.1).length+(cstr m).length <= 9223372036854775807/\Exx Unit fun y=>((cstr x.1++cstr m=cstr (x.1++List.replicate (x.2-x.1.length) 0)/\True)/\true=true/\True)/\True)=(fnVC tb [] Tryz.f83 zu7 (fun _=>{}) (fun _=>none)):=by kernel_rfl

theorem qf8:SpecOk Tryz.prog 83 (zaA zu7):=by
 refine zaK zaM zaL SPok.nil Tryz.func83 (by decide) (zaO fun _=>rfl) (Eq.mp qpD ?_)
 simp (maxSteps:=10000000) only [std,stdU,stdV,Exx,I64,Nat.reduceMul,Nat.reduceDiv,Nat.reduceAdd,Int.reduceToNat]
 rintro l n ⟨⟨hl,h2⟩,h3⟩
 refine ⟨by omega,by omega,by omega,by omega,by omega,by omega,List.replicate (n-l.length) 0,by rw [List.length_replicate]; omega,fun i hi=>?_,fun c hc=>by rw [(List.mem_replicate.1 hc).2]; decide,by rw [List.length_replicate]; omega,rfl⟩
 rw [zg2]; split <;> rfl

def zjW:Ctr:=zbN (Nat×Nat×List Nat) (fun x=>x.1<256/\x.2.1<256/\(∀c∈x.2.2,c<256)/\x.2.2.length <= 56) (fun x=>[i64 (x.1:Nat),i64 (x.2.1:Nat),strN x.2.2]) (fun x=>strN (zcD x.1 x.2.1 x.2.2))
theorem qo6:(
 let q1:Prop:=0+4 <= 4;
 let q2:Nat:=(TI.mk (TK.int IntKind.u8) 1 1 (ZL.cons (Value.int IntKind.u8 0) ZL.nil) false).size; ∀(x:Nat×Nat×List Nat),
 let q3:List Int:=cstr (zcD x.1 x.2.1 x.2.2); x.1<256/\x.2.1<256/\(∀(c:Nat),c∈x.2.2->c<256)/\x.2.2.length <= 56->∀(m:Int),m=IntKind.u8.wrap (x.1:Int)->∀(m_1:Int),
 let q8:Prop:=Exx (List Nat×Nat) fun x_1 =>
 let q4:List Int:=cstr (x_1.1++List.replicate (x_1.2-x_1.1.length) 0); ((cstr x.2.2=cstr x_1.1/\Tr 1 (56=(x_1.2:Int))/\True)/\true=true/\True)/\(Oct x_1.1/\x_1.2 <= 1000)/\∀(y:Unit),True->q1/\Exx (List Nat) fun m_2 =>
 let q5:List Int:=cstr m_2++q4;
 let q6:Nat:=q5.length; (4=m_2.length/\∀(i:Nat),
 let q7:Nat:=0+i; i<m_2.length->[AV.int .u8 (if q7=3*1 / 1 then 0 else if q7=2*1 / 1 then 0 else if q7=1*1 / 1 then m_1 else if q7=0*1 / 1 then m else 0)]=[AV.int .u8 (↑(m_2.getD i 0):Int)])/\(∀(c:Nat),c∈m_2->c<256)/\(cstr m_2).length+q4.length <= 9223372036854775807/\q6 <= 9223372036854775807/\∀(cap:Nat),q6 <= cap/\cap <= 9223372036854775807->Exx (List Nat) fun x=>(((0+q6 <= q6/\q6=x.length/\∀(i:Nat),i<x.length->[AV.int .u8 (q5.getD (0+i) 0)]=[AV.int .u8 (↑(x.getD i 0):Int)])/\True)/\true=true/\True)/\zsJ x/\∀(y:Unit),True->∀(m:Int),m=IntKind.u64.wrap (↑(ones-zfB x):Int)->Exx (Nat×Nat) fun x=>((Tr 1 (m=(x.1:Int))/\Tr 1 (4=(x.2:Int))/\True)/\true=true/\True)/\(U64 x.1/\x.2 <= 1000)/\∀(y:Unit),True->(cstr (layN x.1 x.2)).length+q6 <= 9223372036854775807/\Exx Unit fun y=>((cstr (layN x.1 x.2)++q5=q3/\True)/\true=true/\True)/\True; m_1=IntKind.u8.wrap (x.2.1:Int)->((q1/\Exx (List Nat) fun m_2=>(4=m_2.length/\∀(i:Nat),
 let q9:Nat:=0+i; i<m_2.length->[AV.int .u8 (if q9=3*1 / 1 then 0 else if q9=2*1 / 1 then 0 else if q9=1*1 / 1 then m_1 else if q9=0*1 / 1 then m else 0)]=[AV.int .u8 (↑(m_2.getD i 0):Int)])/\(∀(c:Nat),c∈m_2->c<256)/\Exx (List Nat×Nat) fun x_1 =>
 let q10:List Int:=cstr (x_1.1++List.replicate (x_1.2-x_1.1.length) 0);
 let q11:List Int:=cstr m_2++q10;
 let q12:Nat:=q11.length; ((cstr x.2.2=cstr x_1.1/\Tr 1 (56=(x_1.2:Int))/\True)/\true=true/\True)/\(Oct x_1.1/\x_1.2 <= 1000)/\∀(y:Unit),True->(cstr m_2).length+q10.length <= 9223372036854775807/\q12 <= 9223372036854775807/\∀(cap:Nat),q12 <= cap/\cap <= 9223372036854775807->Exx (List Nat) fun x=>(((0+q12 <= q12/\q12=x.length/\∀(i:Nat),i<x.length->[AV.int .u8 (q11.getD (0+i) 0)]=[AV.int .u8 (↑(x.getD i 0):Int)])/\True)/\true=true/\True)/\zsJ x/\∀(y:Unit),True->∀(m:Int),m=IntKind.u64.wrap (↑(ones-zfB x):Int)->Exx (Nat×Nat) fun x=>((Tr 1 (m=(x.1:Int))/\Tr 1 (4=(x.2:Int))/\True)/\true=true/\True)/\(U64 x.1/\x.2 <= 1000)/\∀(y:Unit),True->(cstr (layN x.1 x.2)).length+q12 <= 9223372036854775807/\Exx Unit fun y=>((cstr (layN x.1 x.2)++q11=q3/\True)/\true=true/\True)/\True)/\q8)/\q8)=(fnVC tb [(48,zaA znI),(83,zaA zu7),(84,zaA qaS)] Tryz.f49 zjW (fun _=>{}) (fun _=>none)):=by kernel_rfl

theorem zjV:SpecOk Tryz.prog 49 (zaA zjW):=by
 refine zaK zaM zaL (SPok.cons zl1 (SPok.cons qf8 (SPok.cons qjL SPok.nil))) Tryz.func49 (by decide) (zaO fun _=>rfl) (Eq.mp qo6 ?_)
 simp (maxSteps:=10000000) only [std,stdU,stdV,Exx,I64,Nat.reduceMul,Nat.reduceDiv,Nat.reduceAdd,Int.reduceToNat]
 rintro k t b ⟨hk,ht,hb,hl⟩
 have hO:Oct b:=⟨hb,by omega⟩
 have hg:∀i,i<([k,t,0,0]:List Nat).length->(if i=3 then [AV.int IntKind.u8 0] else if i=2 then [AV.int IntKind.u8 0] else if i=1 then [AV.int IntKind.u8 (IntKind.u8.wrap ((t:Nat):Int))] else if i=0 then [AV.int IntKind.u8 (IntKind.u8.wrap ((k:Nat):Int))] else [AV.int IntKind.u8 0])=[AV.int IntKind.u8 ((([k,t,0,0]:List Nat).getD i 0:Nat):Int)]:=fun i hi=>by
  have hi:i<4:=hi
  have:i=0\/i=1\/i=2\/i=3:=by omega
  rcases this with rfl | rfl | rfl | rfl
  ·rw [if_neg (by decide),if_neg (by decide),if_neg (by decide),if_pos rfl,qhT,Nat.mod_eq_of_lt hk]; rfl
  ·rw [if_neg (by decide),if_neg (by decide),if_pos rfl,qhT,Nat.mod_eq_of_lt ht]; rfl
  ·rfl
  ·rfl
 have hlt:∀c∈([k,t,0,0]:List Nat),c<256:=fun c hc=>by
  simp only [List.mem_cons,List.not_mem_nil,or_false] at hc; omega
 have er:([k,t,0,0]:List Nat)++(b++List.replicate (56-b.length) 0)=zbS k t b:=by rw [zbS,List.append_assoc]
 have hlr:=zeG (k:=k) (t:=t) hl
 have hrl:=qdS hk ht hb
 have hbl:(b++List.replicate (56-b.length) 0).length=56:=by rw [List.length_append,List.length_replicate]; omega
 have tail:([k,t,0,0]:List Nat).length+(b++List.replicate (56-b.length) 0).length <= 9223372036854775807/\(([k,t,0,0]:List Nat)++(b++List.replicate (56-b.length) 0)).length <= 9223372036854775807/\∀(cap:Nat),(([k,t,0,0]:List Nat)++(b++List.replicate (56-b.length) 0)).length <= cap/\cap <= 9223372036854775807->zsJ (([k,t,0,0]:List Nat)++(b++List.replicate (56-b.length) 0))/\∃a:Nat,IntKind.u64.wrap ((ones-zfB (([k,t,0,0]:List Nat)++(b++List.replicate (56-b.length) 0)):Nat):Int)=(a:Int)/\∃x_2:Nat,(4:Int)=(x_2:Int)/\U64 a/\x_2 <= 1000/\(layN a x_2).length+(([k,t,0,0]:List Nat)++(b++List.replicate (56-b.length) 0)).length <= 9223372036854775807/\layN a x_2++(([k,t,0,0]:List Nat)++(b++List.replicate (56-b.length) 0))=zcD k t b:=by
  rw [er,hbl,hlr]
  refine ⟨by simp,by omega,fun cap hc=>⟨⟨hrl,by omega⟩,sumN [zbS k t b],?_,4,rfl,?_,by omega,by rw [zaE]; omega,rfl⟩⟩
  ·rw [qf9 hrl]; exact zoG (by have:=qiI hrl; unfold U64; omega)
  ·have:=qiI hrl; unfold U64; omega
 exact ⟨⟨[k,t,0,0],rfl,hg,hlt,56,rfl,hO,by omega,tail⟩,⟨56,rfl,hO,by omega,[k,t,0,0],rfl,hg,hlt,tail⟩,⟨56,rfl,hO,by omega,[k,t,0,0],rfl,hg,hlt,tail⟩⟩

def zl0:Ctr:=zbN (List Nat) Oct (fun b=>[octA b]) (fun b => .tup [i64 (ze0 b:Nat),i64 (tagN b:Nat),strN (zbC b),.bool (decide (zb0 b))])
theorem qo8:(∀(x:List Nat),
 let q1:Prop:=Exx Unit fun y=>(((Tr 1 (0=(↑(ze0 x):Int))/\Tr 1 (0=(↑(tagN x):Int))/\cstr (litL (ByteArray.mk #[]))=cstr (zbC x)/\false=decide (zb0 x)/\True)/\True)/\true=true/\True)/\True;
 let q2:Prop:=(0:Int) <= (4:Int)/\(4:Int)<(x.length:Int);
 let q3:Int:=(↑(x.getD (Int.toNat 4) 0):Int);
 let q4:Prop:=(0:Int) <= (5:Int)/\(5:Int)<(x.length:Int);
 let q5:Prop:=Int.toNat 8 <= x.length/\x.length <= x.length; Oct x->BC (!decide ((x.length:Int)=(64:Int))) q1 (q2/\BC (decide (q3=(0:Int))) q1 (q2/\∀(m:Int),m=IntKind.i64.wrap q3->q4/\∀(m_1:Int),
 let q6:Int:=IntKind.i64.wrap (↑(x.getD (Int.toNat 5) 0):Int); m_1=q6->(0:Int) <= (8:Int)/\q5/\Exx (List Nat) fun m_2 =>
 let q7:Nat:=x.length-Int.toNat 8; (q7=m_2.length/\∀(i:Nat),i<m_2.length->[AV.int .u8 (↑(x.getD (Int.toNat 8+i) 0):Int)]=[AV.int .u8 (↑(m_2.getD i 0):Int)])/\(∀(c:Nat),c∈m_2->c<256)/\Exx (List Nat) fun m_3=>(x.length=m_3.length/\∀(i:Nat),i<m_3.length->[AV.int .u8 (↑(x.getD i 0):Int)]=[AV.int .u8 (↑(m_3.getD i 0):Int)])/\(∀(c:Nat),c∈m_3->c<256)/\Exx (Nat×Nat×List Nat) fun x_1 =>
 let q8:List Int:=cstr (zcD x_1.1 x_1.2.1 x_1.2.2); ((Tr 1 (m=(x_1.1:Int))/\Tr 1 (m_1=(x_1.2.1:Int))/\cstr m_2=cstr x_1.2.2/\True)/\true=true/\True)/\(x_1.1<256/\x_1.2.1<256/\(∀(c:Nat),c∈x_1.2.2->c<256)/\x_1.2.2.length <= 56)/\∀(y:Unit),True->BC (!decide (q8=cstr m_3)) q1 (q2/\∀(m:Int),m=IntKind.i64.wrap q3->q4/\∀(m_4:Int),m_4=q6->(0:Int) <= (8:Int)/\q5/\Exx (List Nat) fun m_5=>(q7=m_5.length/\∀(i:Nat),i<m_5.length->[AV.int .u8 (↑(x.getD (Int.toNat 8+i) 0):Int)]=[AV.int .u8 (↑(m_5.getD i 0):Int)])/\(∀(c:Nat),c∈m_5->c<256)/\Exx Unit fun y=>(((Tr 1 (m=(↑(ze0 x):Int))/\Tr 1 (m_4=(↑(tagN x):Int))/\cstr m_5=cstr (zbC x)/\true=decide (zb0 x)/\True)/\True)/\true=true/\True)/\True))))=(fnVC tb [(49,zaA zjW)] Tryz.f174 zl0 (fun _=>{}) (fun _=>none)):=by kernel_rfl

theorem znF:SpecOk Tryz.prog 174 (zaA zl0):=by
 refine zaK zaM zaL (SPok.cons zjV SPok.nil) Tryz.func174 (by decide) (zaO fun _=>⟨rfl,rfl,rfl,rfl,trivial⟩) (Eq.mp qo8 ?_)
 simp (maxSteps:=10000000) only [std,stdU,stdV,Exx,I64,Nat.reduceMul,Nat.reduceDiv,Nat.reduceAdd,Int.reduceToNat]
 rintro b ⟨hb,hl⟩
 have hno:¬zb0 b->((0:Int)=((ze0 b:Nat):Int)/\(0:Int)=((tagN b:Nat):Int)/\List.map (fun c:UInt8=>c.toNat) []=zbC b/\false=decide (zb0 b)):=fun h=>by
  rw [ze0,if_neg h,tagN,if_neg h,zbC,if_neg h]; exact ⟨rfl,rfl,rfl,(decide_eq_false h).symm⟩
 have g4:b.getD 4 0<256:=getD_mem (p:=fun c=>c<256) hb (by decide) 4
 have g5:b.getD 5 0<256:=getD_mem (p:=fun c=>c<256) hb (by decide) 5
 have hb8:∀c∈b.drop 8,c<256:=fun c hc=>hb c (List.mem_of_mem_drop hc)
 refine ⟨fun h=>hno (fun k=>h (by rw [k.1]; rfl)),fun h64=>⟨by omega,by omega,fun h=>hno (fun k=>k.2.1 (by omega)),fun h4=>⟨by omega,by omega,by omega,by omega,by omega,by omega,b.drop 8,by rw [List.length_drop],fun i hi=>by rw [za4],hb8,hb,b.getD 4 0,zbP ⟨by omega,by omega⟩,b.getD 5 0,zbP ⟨by omega,by omega⟩,g4,g5,hb8,by rw [List.length_drop]; omega,fun h=>hno (fun k=>h (zlT hb k)),fun h=>?_⟩⟩⟩
 have hr:zb0 b:=qfS hb (by omega) (by omega) h
 refine ⟨by omega,by omega,by omega,by omega,by omega,by omega,b.drop 8,by rw [List.length_drop],fun i hi=>by rw [za4],hb8,?_,?_,?_,(decide_eq_true hr).symm⟩
 ·rw [ze0,if_pos hr]; exact zbP ⟨by omega,by omega⟩
 ·rw [tagN,if_pos hr]; exact zbP ⟨by omega,by omega⟩
 ·rw [zbC,if_pos hr]

def qf2 (n:NodeT) (p:Bool):LA:={ T:=Nat×Bool,F:=fun s=>frm 50 [(1,.ptr 1 [] 0),(4,.bool s.2),(5,i64 (s.1:Nat))],H:=fun s=>[.fence,.cells 31 (qpV n)] }
def qk9 (F:Fr) (H:AH):Option Ren:=match H[(2:Nat)]? with
 | some (.cells _ (_ :: _ :: _ :: _ :: .sl q _ _ _ _ _ _ :: _))=>some [some 0,some 1,some 2,some q]
 | _=>some [some 0,some 1,some 2,none]
def zh2:Ctr:=zhH
theorem zu1:(
 let q1:Prop:=true=true/\zaC/\0=0; ∀(x:NodeT),
 let q2:Prop:=Tr 1 (x.e.slot=x.e.slot)/\Tr 1 (x.e.gen=x.e.gen)/\Tr 1 (x.e.key=x.e.key)/\Tr 1 (x.e.value=x.e.value)/\(1=1/\x.kids.length=x.kids.length/\∀(i:Nat),i<x.kids.length->[AV.int .i64 (x.kids.getD i 0)]=[AV.int .i64 (x.kids.getD i 0)])/\True;
 let q3:Prop:=true=true/\(31=(31:TypeId)/\q2)/\True;
 let q7:Prop:=Exx (Nat×Bool->Prop) fun I=>Exx (Nat×Bool->Nat) fun m=>(Exx (Nat×Bool) fun t=>I t/\Tr 1 (q1/\Tr 2 (false=t.2/\Tr 1 (0=(t.1:Int))/\Tr 44 True))/\q3)/\∀(t:Nat×Bool),
 let q4:Prop:=(t.1:Int)<(x.kids.length:Int);
 let q5:Int:=(t.1:Int)+1;
 let q6:Prop:=Exx Unit fun y=>((t.2=decide (zbJ x)/\True)/\true=true/\True)/\True; I t->BC (decide q4) (BC t.2 (((0:Int) <= (t.1:Int)/\q4)/\Exx Int fun x_1=>((Tr 1 (x.kids.getD (t.1:Int).toNat 0=x_1)/\True)/\true=true/\True)/\(-9223372036854775808 <= x_1/\x_1 <= (9223372036854775807:Int))/\∀(y:Unit),True->I64 q5/\Exx (Nat×Bool) fun t'=>(I t'/\m t'<m t)/\Tr 1 (q1/\Tr 2 (decide ((2:Int) <= x_1/\x_1 <= (3071:Int))=t'.snd/\Tr 1 (q5=(↑t'.fst:Int))/\Tr 44 True))/\true=true/\((31:TypeId)=31/\q2)/\True) q6) q6; zd1 x->BC (decide ((0:Int) <= x.e.slot)) (BC (decide (x.e.slot <= (1791:Int))) (BC (decide ((1:Int) <= x.e.gen)) (BC (decide (x.e.gen <= (4294967295:Int))) (Exx (Nat×Bool->Prop) fun I=>Exx (Nat×Bool->Nat) fun m=>(Exx (Nat×Bool) fun t=>I t/\Tr 1 (q1/\Tr 2 (decide ((x.kids.length:Int) <= (12:Int))=t.2/\Tr 1 (0=(t.1:Int))/\Tr 44 True))/\q3)/\∀(t:Nat×Bool),
 let q8:Prop:=(t.1:Int)<(x.kids.length:Int);
 let q9:Int:=(t.1:Int)+1;
 let q10:Prop:=Exx Unit fun y=>((t.2=decide (zbJ x)/\True)/\true=true/\True)/\True; I t->BC (decide q8) (BC t.2 (((0:Int) <= (t.1:Int)/\q8)/\Exx Int fun x_1=>((Tr 1 (x.kids.getD (t.1:Int).toNat 0=x_1)/\True)/\true=true/\True)/\(-9223372036854775808 <= x_1/\x_1 <= (9223372036854775807:Int))/\∀(y:Unit),True->I64 q9/\Exx (Nat×Bool) fun t'=>(I t'/\m t'<m t)/\Tr 1 (q1/\Tr 2 (decide ((2:Int) <= x_1/\x_1 <= (3071:Int))=t'.snd/\Tr 1 (q9=(↑t'.fst:Int))/\Tr 44 True))/\true=true/\((31:TypeId)=31/\q2)/\True) q10) q10) q7) q7) q7) q7)=(fnVC tb [(198,zaA zmU)] Tryz.f185 zh2 (fun x=>{ loops:=[(4,qf2 x true)] }) (fun _=>none)):=by kernel_rfl

theorem zqK:SpecOk Tryz.prog 185 (zaA zh2):=by
 refine zaK zaM zaL (SPok.cons zn8 SPok.nil) Tryz.func185 (by decide) (zaO fun _=>rfl) (Eq.mp zu1 ?_)
 simp (maxSteps:=10000000) only [std,stdU,stdV,Exx,I64,Nat.reduceMul,Nat.reduceDiv,Nat.reduceAdd,Int.reduceToNat]
 intro n h
 have hK:=h.2.2
 have tail:∀b0:Bool,(b0=true ↔ (0 <= n.e.slot/\n.e.slot <= 1791/\1 <= n.e.gen/\n.e.gen <= 4294967295/\n.kids.length <= 12))->∃x:Nat×Bool->Prop,(∃a b,x (a,b)/\b0=b/\(0:Int)=((a:Nat):Int))/\∃x_1:Nat×Bool->Nat,∀(a:Nat) (b:Bool),x (a,b)->((a:Int)<(n.kids.length:Int)->(b=true->0 <= (a:Int)/\(a:Int)<(n.kids.length:Int)/\-9223372036854775808 <= n.kids.getD a 0/\n.kids.getD a 0 <= 9223372036854775807/\-9223372036854775808 <= (a:Int)+1/\(a:Int)+1 <= 9223372036854775807/\∃a_4 b_1,x (a_4,b_1)/\x_1 (a_4,b_1)<x_1 (a,b)/\decide (2 <= n.kids.getD a 0/\n.kids.getD a 0 <= 3071)=b_1/\(a:Int)+1=((a_4:Nat):Int))/\(b=false->b=decide (zbJ n)))/\(¬(a:Int)<(n.kids.length:Int)->b=decide (zbJ n)):=fun b0 hb0=>by
  refine ⟨fun s=>s.1 <= n.kids.length/\(s.2=true ↔ (b0=true/\∀j,j<s.1->¬zd6 (n.kids.getD j 0))),⟨0,b0,⟨Nat.zero_le _,⟨fun k=>⟨k,fun j hj=>absurd hj (Nat.not_lt_zero _)⟩,fun k=>k.1⟩⟩,rfl,rfl⟩,fun s=>n.kids.length-s.1,fun a b hab=>⟨fun hlt=>⟨fun hb=>?_,fun hb=>?_⟩,fun hge=>?_⟩⟩
  ·obtain ⟨q1,q2⟩:=hab
   simp only at q1 q2
   have hg:=zvU h.2 a
   have hq:=q2.1 hb
   refine ⟨by omega,hlt,hg.1,hg.2,by omega,by omega,a+1,_,⟨by simp only; omega,?_⟩,by simp only; omega,rfl,by omega⟩
   simp only [decide_eq_true_eq]
   refine ⟨fun k=>⟨hq.1,fun j hj=>?_⟩,fun k=>?_⟩
   ·by_cases e:j=a
    ·subst e; unfold zd6; omega
    ·exact hq.2 j (by omega)
   ·have:=k.2 a (by omega)
    unfold zd6 at this; omega
  ·obtain ⟨q1,q2⟩:=hab
   simp only at q1 q2
   subst hb
   refine (decide_eq_false fun k=>?_).symm
   obtain ⟨h1,h2,h3,h4,h5,h6⟩:=k
   have:=q2.2 ⟨hb0.2 ⟨h1,by omega,h3,h4,h5⟩,fun j hj=>h6 _ (by rw [List.getD_eq_getElem?_getD,List.getElem?_eq_getElem (by omega)]; exact List.getElem_mem _)⟩
   cases this
  ·obtain ⟨q1,q2⟩:=hab
   simp only at q1 q2
   rw [Bool.eq_iff_iff,decide_eq_true_eq,q2,hb0]
   refine ⟨fun ⟨⟨h1,h2,h3,h4,h5⟩,k⟩=>⟨h1,by omega,h3,h4,h5,fun c hc=>?_⟩,fun ⟨h1,h2,h3,h4,h5,h6⟩=>⟨⟨h1,by omega,h3,h4,h5⟩,fun j hj=>h6 _ (by rw [List.getD_eq_getElem?_getD,List.getElem?_eq_getElem (by omega)]; exact List.getElem_mem _)⟩⟩
   obtain ⟨j,hj,e⟩:=List.mem_iff_getElem.1 hc
   have:=k j (by omega)
   rw [List.getD_eq_getElem?_getD,List.getElem?_eq_getElem hj] at this
   rw [<- e]; exact this
 exact ⟨fun h1=>⟨fun h2=>⟨fun h3=>⟨fun h4=>tail _ (by rw [decide_eq_true_eq]; omega),fun h4=>tail _ (by simp; omega)⟩,fun h3=>tail _ (by simp; omega)⟩,fun h2=>tail _ (by simp; omega)⟩,fun h1=>tail _ (by simp; omega)⟩

def qaT:Ctr:=zbN NodeT (fun n=>zbJ n/\zd1 n) (fun n=>[qpW n]) (fun n=>strN (zaJ n))
def qo7 (n:NodeT):LA:={ T:=Nat,F:=fun k=>frm 50 [(1,.ptr 1 [] 0),(4,strN (zdD n k)),(5,i64 (k:Nat))],H:=fun s=>[.fence,.cells 31 (qpV n)] }
theorem refPutV:(
 let q1:Prop:=true=true/\zaC/\0=0; ∀(x:NodeT),
 let q2:Prop:=Tr 1 (x.e.slot=x.e.slot)/\Tr 1 (x.e.gen=x.e.gen)/\Tr 1 (x.e.key=x.e.key)/\Tr 1 (x.e.value=x.e.value)/\(1=1/\x.kids.length=x.kids.length/\∀(i:Nat),i<x.kids.length->[AV.int .i64 (x.kids.getD i 0)]=[AV.int .i64 (x.kids.getD i 0)])/\True; zbJ x/\zd1 x->∀(m:Int),m=IntKind.u64.wrap x.e.key->∀(m_1:Int),m_1=IntKind.u64.wrap x.e.value->∀(m_2:Int),m_2=IntKind.u64.wrap x.e.slot->∀(m_3:Int),m_3=IntKind.u64.wrap x.e.gen->Exx (Nat×Nat) fun x_1=>((Tr 1 (m=(x_1.1:Int))/\Tr 1 (8=(x_1.2:Int))/\True)/\true=true/\True)/\(U64 x_1.1/\x_1.2 <= 1000)/\∀(y:Unit),True->Exx (Nat×Nat) fun x_2 =>
 let q3:List Int:=cstr (layN x_1.1 x_1.2)++cstr (layN x_2.1 x_2.2); ((Tr 1 (m_1=(x_2.1:Int))/\Tr 1 (8=(x_2.2:Int))/\True)/\true=true/\True)/\(U64 x_2.1/\x_2.2 <= 1000)/\∀(y:Unit),True->(cstr (layN x_1.1 x_1.2)).length+(cstr (layN x_2.1 x_2.2)).length <= 9223372036854775807/\Exx (Nat×Nat) fun x_3 =>
 let q4:List Int:=q3++cstr (layN x_3.1 x_3.2); ((Tr 1 (m_2=(x_3.1:Int))/\Tr 1 (4=(x_3.2:Int))/\True)/\true=true/\True)/\(U64 x_3.1/\x_3.2 <= 1000)/\∀(y:Unit),True->q3.length+(cstr (layN x_3.1 x_3.2)).length <= 9223372036854775807/\Exx (Nat×Nat) fun x_4=>((Tr 1 (m_3=(x_4.1:Int))/\Tr 1 (4=(x_4.2:Int))/\True)/\true=true/\True)/\(U64 x_4.1/\x_4.2 <= 1000)/\∀(y:Unit),True->q4.length+(cstr (layN x_4.1 x_4.2)).length <= 9223372036854775807/\Exx (Nat->Prop) fun I=>Exx (Nat->Nat) fun m=>(Exx Nat fun t=>I t/\Tr 1 (q1/\Tr 2 (q4++cstr (layN x_4.1 x_4.2)=cstr (zdD x t)/\Tr 1 (0=(t:Int))/\Tr 44 True))/\true=true/\(31=(31:TypeId)/\q2)/\True)/\∀(t:Nat),
 let q5:Prop:=(t:Int)<(x.kids.length:Int);
 let q6:Int:=(t:Int)+1; I t->BC (decide q5) (((0:Int) <= (t:Int)/\q5)/\∀(m_4:Int),m_4=IntKind.u64.wrap (x.kids.getD (t:Int).toNat 0)->Exx (Nat×Nat) fun x_5=>((Tr 1 (m_4=(x_5.1:Int))/\Tr 1 (2=(x_5.2:Int))/\True)/\true=true/\True)/\(U64 x_5.1/\x_5.2 <= 1000)/\∀(y:Unit),True->(cstr (zdD x t)).length+(cstr (layN x_5.1 x_5.2)).length <= 9223372036854775807/\I64 q6/\Exx Nat fun t'=>(I t'/\m t'<m t)/\Tr 1 (q1/\Tr 2 (cstr (zdD x t)++cstr (layN x_5.1 x_5.2)=cstr (zdD x t')/\Tr 1 (q6=(↑t':Int))/\Tr 44 True))/\true=true/\((31:TypeId)=31/\q2)/\True) (Exx (Nat×Nat×List Nat) fun x_5=>((Tr 1 (1=(x_5.1:Int))/\Tr 1 ((x.kids.length:Int)=(x_5.2.1:Int))/\cstr (zdD x t)=cstr x_5.2.2/\True)/\true=true/\True)/\(x_5.1<256/\x_5.2.1<256/\(∀(c:Nat),c∈x_5.2.2->c<256)/\x_5.2.2.length <= 56)/\∀(y:Unit),True->Exx Unit fun y=>((cstr (zcD x_5.1 x_5.2.1 x_5.2.2)=cstr (zaJ x)/\True)/\true=true/\True)/\True))=(fnVC tb [(48,zaA znI),(49,zaA zjW)] Tryz.f17 qaT (fun x=>{ loops:=[(4,qo7 x)] }) (fun _=>none)):=by kernel_rfl

theorem qjM:SpecOk Tryz.prog 17 (zaA qaT):=by
 refine zaK zaM zaL (SPok.cons zl1 (SPok.cons zjV SPok.nil)) Tryz.func17 (by decide) (zaO fun _=>rfl) (Eq.mp refPutV ?_)
 simp (maxSteps:=10000000) only [std,stdU,stdV,Exx,I64,Nat.reduceMul,Nat.reduceDiv,Nat.reduceAdd,Int.reduceToNat]
 rintro n ⟨hok,h⟩
 obtain ⟨h1,h2,h3,h4,h5,h6⟩:=hok
 have o2:zaD [u64N n.e.key,u64N n.e.value]=layN (u64N n.e.key) 8++layN (u64N n.e.value) 8:=by simp [zaD]
 refine ⟨u64N n.e.key,zlJ,8,rfl,u64N_U _,by omega,u64N n.e.value,zlJ,8,rfl,u64N_U _,by omega,by simp [zaE],n.e.slot.toNat,zbK h1 (by omega),4,rfl,by unfold U64; omega,by omega,by simp [zaE],n.e.gen.toNat,zbK (by omega) h4,4,rfl,by unfold U64; omega,by omega,by simp [zaE],fun k=>k <= n.kids.length,⟨0,Nat.zero_le _,?_,rfl⟩,fun k=>n.kids.length-k,fun k hk=>⟨fun hlt=>?_,fun hge=>?_⟩⟩
 ·rw [zdD,zrH,o2]; simp [zq9]
 ·have ha:k<n.kids.length:=by omega
  have hm:n.kids.getD k 0∈n.kids:=by rw [List.getD_eq_getElem?_getD,List.getElem?_eq_getElem ha]; exact List.getElem_mem ha
  have hb:=h6 _ hm
  unfold zd6 at hb
  exact ⟨by omega,hlt,(n.kids.getD k 0).toNat,zbK (by omega) (by omega),2,rfl,by unfold U64; omega,by omega,by rw [zcZ,zaE]; omega,by omega,by omega,k+1,by omega,by simp only; omega,by rw [zdD,zdD,zfW,List.append_assoc],by omega⟩
 ·have e:k=n.kids.length:=by omega
  subst e
  exact ⟨1,rfl,by omega,by omega,zmT n _,by rw [zcZ]; omega,by rw [zaJ,if_pos ⟨h1,h2,h3,h4,h5,h6⟩]⟩

def qeW:Ctr:=zbN (EntT×EntT) (fun x=>EntI x.1/\EntI x.2) (fun x=>[entA x.1,entA x.2]) (fun x => .bool (decide (ahead x.1 x.2)))
theorem aheadV:(∀(x:EntT×EntT),
 let q1:Bool:=decide (ahead x.1 x.2); EntI x.1/\EntI x.2->BC (!decide (x.1.key=x.2.key)) (Exx Unit fun y=>((decide (x.1.key<x.2.key)=q1/\True)/\true=true/\True)/\True) (BC (!decide (x.1.slot=x.2.slot)) (Exx Unit fun y=>((decide (x.1.slot<x.2.slot)=q1/\True)/\true=true/\True)/\True) (Exx Unit fun y=>((decide (x.1.gen<x.2.gen)=q1/\True)/\true=true/\True)/\True)))=(fnVC tb [] Tryz.f35 qeW (fun _=>{}) (fun _=>none)):=by kernel_rfl

theorem qeV:SpecOk Tryz.prog 35 (zaA qeW):=by
 refine zaK zaM zaL SPok.nil Tryz.func35 (by decide) (zaO fun _=>rfl) (Eq.mp aheadV ?_)
 simp (maxSteps:=10000000) only [std,stdU,stdV,Exx,I64,Nat.reduceMul,Nat.reduceDiv,Nat.reduceAdd,Int.reduceToNat]
 rintro a b ⟨ha,hb⟩
 unfold ahead
 exact ⟨fun h=>decide_eq_decide.2 (by rw [if_neg h]),fun h=>⟨fun k=>decide_eq_decide.2 (by rw [if_pos h,if_neg k]),fun k=>decide_eq_decide.2 (by rw [if_pos h,if_pos k])⟩⟩

def zkX:Ctr:=zmI
def qpC (b:List Nat):LA:={ T:=Nat×Nat,F:=fun s=>frm 74 [(0,octA b),(2,.ptr 1 [] 0),(5,i64 (b.getD 5 0:Nat)),(6,strN (b.drop 8)),(8,.ptr 2 [] 0),(9,i64 (s.1:Nat))],H:=fun s=>[.fence,.cells 31 [i64 0,i64 0,i64 0,i64 0,.nils],.cells 31 [i64 (nodeB b).e.slot,i64 (nodeB b).e.gen,i64 (nodeB b).e.key,i64 (nodeB b).e.value,.sl 3 [] 0 1 0 s.1 s.2],.row 3 1 s.2 s.1 (fun i=>[i64 (numA b (24+2*(i:Nat)) 2)])],ρ₁:=qk9,ρ₂:=qk9 }
theorem zsL:CtrOk zmI:=zo6 fun _ _ _=>⟨⟨rfl,rfl,rfl,rfl,rfl,trivial⟩,rfl,trivial⟩
theorem zfA {l:List Nat} {a n:Nat} (hn:1 <= n) (h8:n <= 8) (h:a+n <= l.length):za8 ((l.take (a+n)).drop a)=getN l (a:Int) (n:Int):=by
 have e:(l.take (a+n)).drop a=(l.drop a).take n:=by rw [List.drop_take]; congr 1; omega
 rw [e,zeM hn h8 h,za8,List.take_take,Nat.min_eq_right h8]
theorem qaW:(
 let q1:Prop:=true=true/\zaC/\0=0;
 let q2:Prop:=Tr 1 ((0:Int)=0)/\Tr 1 ((0:Int)=0)/\Tr 1 ((0:Int)=0)/\Tr 1 ((0:Int)=0)/\Tr 1 True;
 let q3:Prop:=(31:TypeId)=31;
 let q4:Prop:=(3:TypeId)=3;
 let q5:Nat:=(TI.mk (TK.int IntKind.i64) 1 8 (ZL.cons (Value.int IntKind.i64 0) ZL.nil) false).size; ∀(x:List Nat),
 let q6:Prop:=Exx Nat fun y=>((((Tr 1 ((0:Int)=(getNodeT x).e.slot)/\Tr 1 ((0:Int)=(getNodeT x).e.gen)/\Tr 1 ((0:Int)=(getNodeT x).e.key)/\Tr 1 ((0:Int)=(getNodeT x).e.value)/\((getNodeT x).kids.length=0/\y=0)/\True)/\false=decide (zcI x)/\True)/\True)/\true=true/\(y=0/\(getNodeT x).kids.length=0)/\True)/\(getNodeT x).kids.length <= y/\y <= 9223372036854775807;
 let q8:Prop:=1=1/\x.length=x.length/\∀(i:Nat),
 let q7:List AV:=[AV.int .u8 (↑(x.getD i 0):Int)]; i<x.length->q7=q7;
 let q9:Int:=(↑(x.getD 5 0):Int); Oct x->Exx (List Nat) fun x_1=>(((x.length=x_1.length/\∀(i:Nat),i<x_1.length->[AV.int .u8 (↑(x.getD i 0):Int)]=[AV.int .u8 (↑(x_1.getD i 0):Int)])/\True)/\true=true/\True)/\Oct x_1/\∀(y:Unit),True->BC (!decide (zb0 x_1)) q6 (BC (!decide ((↑(ze0 x_1):Int)=(1:Int))) q6 (BC (decide (12<(↑(tagN x_1):Int))) q6 ((0:Int) <= (20:Int)/\(0:Int) <= (16:Int)/\((16:Int).toNat <= (20:Int).toNat/\Int.toNat 20 <= (cstr (zbC x_1)).length)/\(0:Int) <= (24:Int)/\(0:Int) <= (20:Int)/\((20:Int).toNat <= (24:Int).toNat/\Int.toNat 24 <= (cstr (zbC x_1)).length)/\(0:Int) <= (8:Int)/\(0 <= (8:Int).toNat/\Int.toNat 8 <= (cstr (zbC x_1)).length)/\(0:Int) <= (16:Int)/\(0:Int) <= (8:Int)/\((8:Int).toNat <= (16:Int).toNat/\Int.toNat 16 <= (cstr (zbC x_1)).length)/\(Exx (List Nat) fun x_2=>((List.drop (Int.toNat 16) (List.take (Int.toNat 20) (cstr (zbC x_1)))=cstr x_2/\True)/\true=true/\True)/\Oct x_2/\∀(y:Unit),True->(Exx (List Nat) fun x_3=>((List.drop (Int.toNat 20) (List.take (Int.toNat 24) (cstr (zbC x_1)))=cstr x_3/\True)/\true=true/\True)/\Oct x_3/\∀(y:Unit),True->(Exx (List Nat) fun x_4 =>
 let q24:Prop:=Exx (List Nat) fun x_5=>((List.drop (Int.toNat 8) (List.take (Int.toNat 16) (cstr (zbC x_1)))=cstr x_5/\True)/\true=true/\True)/\Oct x_5/\∀(y:Unit),True->Exx (Nat×Nat->Prop) fun I=>Exx (Nat×Nat->Nat) fun m=>(Exx (Nat×Nat) fun t=>I t/\(q8/\Tr 1 (q1/\Tr 2 (Tr 1 ((↑(tagN x_1):Int)=q9)/\cstr (zbC x_1)=cstr (List.drop 8 x)/\Tr 1 (q1/\Tr 1 (0=(t.1:Int))/\Tr 64 True))))/\true=true/\(31=(31:TypeId)/\q2)/\(31=(31:TypeId)/\Tr 1 (IntKind.i64.wrap (↑(za8 x_2):Int)=(nodeB x).e.slot)/\Tr 1 (IntKind.i64.wrap (↑(za8 x_3):Int)=(nodeB x).e.gen)/\Tr 1 (IntKind.i64.wrap (↑(za8 x_4):Int)=(nodeB x).e.key)/\Tr 1 (IntKind.i64.wrap (↑(za8 x_5):Int)=(nodeB x).e.value)/\(t.1=0/\t.2=0)/\True)/\(t.2=0/\t.1=0)/\True)/\∀(t:Nat×Nat),
 let q10:Int:=2*(t.1:Int);
 let q11:Prop:=I64 q10;
 let q12:Int:=24+q10;
 let q13:Int:=26+q10;
 let q14:Nat:=q12.toNat;
 let q15:Nat:=q13.toNat;
 let q16:Nat:=t.1+1;
 let q17:Int:=(t.1:Int)+1; I t->BC (decide ((t.1:Int)<q9)) (q11/\I64 q12/\q11/\I64 q13/\(0:Int) <= q13/\(0:Int) <= q12/\(q14 <= q15/\q15 <= (cstr (List.drop 8 x)).length)/\(Exx (List Nat) fun x_6=>((List.drop q14 (List.take q15 (cstr (List.drop 8 x)))=cstr x_6/\True)/\true=true/\True)/\Oct x_6/\∀(y:Unit),True->0+1 <= 1/\true=true/\(t.1 <= t.1/\t.2=t.2)/\(q16 <= 9223372036854775807/\q16*8 <= 140737488355328)/\∀(cap:Nat),q16 <= cap/\cap <= 9223372036854775807->I64 q17/\Exx (Nat×Nat) fun t'=>(I t'/\m t'<m t)/\(q8/\Tr 1 (q1/\Tr 2 (Tr 1 (q9=q9)/\cstr (List.drop 8 x)=cstr (List.drop 8 x)/\Tr 1 (q1/\Tr 1 (q17=(↑t'.fst:Int))/\Tr 64 True))))/\true=true/\(q3/\q2)/\(q3/\Tr 1 ((nodeB x).e.slot=(nodeB x).e.slot)/\Tr 1 ((nodeB x).e.gen=(nodeB x).e.gen)/\Tr 1 ((nodeB x).e.key=(nodeB x).e.key)/\Tr 1 ((nodeB x).e.value=(nodeB x).e.value)/\(true=true/\zaC/\0=0/\1=1/\0=0/\q16=t'.fst/\cap=t'.snd)/\True)/\(q4/\1=1/\cap=t'.snd/\t'.fst <= q16/\∀(i:Nat),
 let q18:List AV:=[AV.int .i64 (numA x (24+2*(i:Int)) 2)];
 let q19:Nat:=0+(i-t.1); i<t'.fst->(if i<t.1 then q18 else [AV.int .i64 (if q19=0*1 / 1 then IntKind.i64.wrap (↑(za8 x_6):Int) else 0)])=q18)/\True)/\Exx (List Nat) fun x_6 =>
 let q22:Prop:=0+1 <= 1/\true=true/\(t.1 <= t.1/\t.2=t.2)/\(q16 <= 9223372036854775807/\q16*8 <= 140737488355328)/\∀(cap:Nat),q16 <= cap/\cap <= 9223372036854775807->I64 q17/\Exx (Nat×Nat) fun t'=>(I t'/\m t'<m t)/\(q8/\Tr 1 (q1/\Tr 2 (Tr 1 (q9=q9)/\cstr (List.drop 8 x)=cstr (List.drop 8 x)/\Tr 1 (q1/\Tr 1 (q17=(↑t'.fst:Int))/\Tr 64 True))))/\true=true/\(q3/\q2)/\(q3/\Tr 1 ((nodeB x).e.slot=(nodeB x).e.slot)/\Tr 1 ((nodeB x).e.gen=(nodeB x).e.gen)/\Tr 1 ((nodeB x).e.key=(nodeB x).e.key)/\Tr 1 ((nodeB x).e.value=(nodeB x).e.value)/\(true=true/\zaC/\0=0/\1=1/\0=0/\q16=t'.fst/\cap=t'.snd)/\True)/\(q4/\1=1/\cap=t'.snd/\t'.fst <= q16/\∀(i:Nat),
 let q20:List AV:=[AV.int .i64 (numA x (24+2*(i:Int)) 2)];
 let q21:Nat:=0+(i-t.1); i<t'.fst->(if i<t.1 then q20 else [AV.int .i64 (if q21=0*1 / 1 then IntKind.i64.wrap (↑(za8 x_6):Int) else 0)])=q20)/\True; ((List.drop q14 (List.take q15 (cstr (List.drop 8 x)))=cstr x_6/\True)/\true=true/\True)/\Oct x_6/\∀(y:Unit),True->q22/\q22) (Exx NodeT fun x_6 =>
 let q23:Prop:=0+t.1 <= t.1; (((Tr 1 ((nodeB x).e.slot=x_6.e.slot)/\Tr 1 ((nodeB x).e.gen=x_6.e.gen)/\Tr 1 ((nodeB x).e.key=x_6.e.key)/\Tr 1 ((nodeB x).e.value=x_6.e.value)/\(q23/\t.1=x_6.kids.length/\∀(i:Nat),i<x_6.kids.length->[AV.int .i64 (numA x (24+2*(↑(0+i):Int)) 2)]=[AV.int .i64 (x_6.kids.getD i 0)])/\True)/\True)/\true=true/\True)/\zd1 x_6/\∀(y:Unit),True->BC (!decide (zbJ x_6)) q6 (Exx (List Nat) fun m=>(x.length=m.length/\∀(i:Nat),i<m.length->[AV.int .u8 (↑(x.getD i 0):Int)]=[AV.int .u8 (↑(m.getD i 0):Int)])/\(∀(c:Nat),c∈m->c<256)/\Exx NodeT fun x_7=>(((Tr 1 ((nodeB x).e.slot=x_7.e.slot)/\Tr 1 ((nodeB x).e.gen=x_7.e.gen)/\Tr 1 ((nodeB x).e.key=x_7.e.key)/\Tr 1 ((nodeB x).e.value=x_7.e.value)/\(q23/\t.1=x_7.kids.length/\∀(i:Nat),i<x_7.kids.length->[AV.int .i64 (numA x (24+2*(↑(0+i):Int)) 2)]=[AV.int .i64 (x_7.kids.getD i 0)])/\True)/\True)/\true=true/\True)/\(zbJ x_7/\zd1 x_7)/\∀(y:Unit),True->BC (!decide (cstr (zaJ x_7)=cstr m)) q6 (Exx Nat fun y=>((((Tr 1 ((nodeB x).e.slot=(getNodeT x).e.slot)/\Tr 1 ((nodeB x).e.gen=(getNodeT x).e.gen)/\Tr 1 ((nodeB x).e.key=(getNodeT x).e.key)/\Tr 1 ((nodeB x).e.value=(getNodeT x).e.value)/\(true=true/\zaC/\0=0/\1=1/\0=0/\t.1=(getNodeT x).kids.length/\t.2=y)/\True)/\true=decide (zcI x)/\True)/\True)/\true=true/\(q4/\1=1/\t.2=y/\(getNodeT x).kids.length <= t.1/\∀(i:Nat),i<(getNodeT x).kids.length->[AV.int .i64 (numA x (24+2*(i:Int)) 2)]=[AV.int .i64 ((getNodeT x).kids.getD i 0)])/\True)/\(getNodeT x).kids.length <= y/\y <= 9223372036854775807))); ((List.drop 0 (List.take (Int.toNat 8) (cstr (zbC x_1)))=cstr x_4/\True)/\true=true/\True)/\Oct x_4/\∀(y:Unit),True->q24/\q24)/\Exx (List Nat) fun x_4=>((List.drop 0 (List.take (Int.toNat 8) (cstr (zbC x_1)))=cstr x_4/\True)/\true=true/\True)/\Oct x_4/\∀(y:Unit),True->Exx (List Nat) fun x_5=>((List.drop (Int.toNat 8) (List.take (Int.toNat 16) (cstr (zbC x_1)))=cstr x_5/\True)/\true=true/\True)/\Oct x_5/\∀(y:Unit),True->Exx (Nat×Nat->Prop) fun I=>Exx (Nat×Nat->Nat) fun m=>(Exx (Nat×Nat) fun t=>I t/\(q8/\Tr 1 (q1/\Tr 2 (Tr 1 ((↑(tagN x_1):Int)=q9)/\cstr (zbC x_1)=cstr (List.drop 8 x)/\Tr 1 (q1/\Tr 1 (0=(t.1:Int))/\Tr 64 True))))/\true=true/\(31=(31:TypeId)/\q2)/\(31=(31:TypeId)/\Tr 1 (IntKind.i64.wrap (↑(za8 x_2):Int)=(nodeB x).e.slot)/\Tr 1 (IntKind.i64.wrap (↑(za8 x_3):Int)=(nodeB x).e.gen)/\Tr 1 (IntKind.i64.wrap (↑(za8 x_4):Int)=(nodeB x).e.key)/\Tr 1 (IntKind.i64.wrap (↑(za8 x_5):Int)=(nodeB x).e.value)/\(t.1=0/\t.2=0)/\True)/\(t.2=0/\t.1=0)/\True)/\∀(t:Nat×Nat),
 let q25:Int:=2*(t.1:Int);
 let q26:Prop:=I64 q25;
 let q27:Int:=24+q25;
 let q28:Int:=26+q25;
 let q29:Nat:=q27.toNat;
 let q30:Nat:=q28.toNat;
 let q31:Nat:=t.1+1;
 let q32:Int:=(t.1:Int)+1; I t->BC (decide ((t.1:Int)<q9)) (q26/\I64 q27/\q26/\I64 q28/\(0:Int) <= q28/\(0:Int) <= q27/\(q29 <= q30/\q30 <= (cstr (List.drop 8 x)).length)/\(Exx (List Nat) fun x_6=>((List.drop q29 (List.take q30 (cstr (List.drop 8 x)))=cstr x_6/\True)/\true=true/\True)/\Oct x_6/\∀(y:Unit),True->0+1 <= 1/\true=true/\(t.1 <= t.1/\t.2=t.2)/\(q31 <= 9223372036854775807/\q31*8 <= 140737488355328)/\∀(cap:Nat),q31 <= cap/\cap <= 9223372036854775807->I64 q32/\Exx (Nat×Nat) fun t'=>(I t'/\m t'<m t)/\(q8/\Tr 1 (q1/\Tr 2 (Tr 1 (q9=q9)/\cstr (List.drop 8 x)=cstr (List.drop 8 x)/\Tr 1 (q1/\Tr 1 (q32=(↑t'.fst:Int))/\Tr 64 True))))/\true=true/\(q3/\q2)/\(q3/\Tr 1 ((nodeB x).e.slot=(nodeB x).e.slot)/\Tr 1 ((nodeB x).e.gen=(nodeB x).e.gen)/\Tr 1 ((nodeB x).e.key=(nodeB x).e.key)/\Tr 1 ((nodeB x).e.value=(nodeB x).e.value)/\(true=true/\zaC/\0=0/\1=1/\0=0/\q31=t'.fst/\cap=t'.snd)/\True)/\(q4/\1=1/\cap=t'.snd/\t'.fst <= q31/\∀(i:Nat),
 let q33:List AV:=[AV.int .i64 (numA x (24+2*(i:Int)) 2)];
 let q34:Nat:=0+(i-t.1); i<t'.fst->(if i<t.1 then q33 else [AV.int .i64 (if q34=0*1 / 1 then IntKind.i64.wrap (↑(za8 x_6):Int) else 0)])=q33)/\True)/\Exx (List Nat) fun x_6 =>
 let q37:Prop:=0+1 <= 1/\true=true/\(t.1 <= t.1/\t.2=t.2)/\(q31 <= 9223372036854775807/\q31*8 <= 140737488355328)/\∀(cap:Nat),q31 <= cap/\cap <= 9223372036854775807->I64 q32/\Exx (Nat×Nat) fun t'=>(I t'/\m t'<m t)/\(q8/\Tr 1 (q1/\Tr 2 (Tr 1 (q9=q9)/\cstr (List.drop 8 x)=cstr (List.drop 8 x)/\Tr 1 (q1/\Tr 1 (q32=(↑t'.fst:Int))/\Tr 64 True))))/\true=true/\(q3/\q2)/\(q3/\Tr 1 ((nodeB x).e.slot=(nodeB x).e.slot)/\Tr 1 ((nodeB x).e.gen=(nodeB x).e.gen)/\Tr 1 ((nodeB x).e.key=(nodeB x).e.key)/\Tr 1 ((nodeB x).e.value=(nodeB x).e.value)/\(true=true/\zaC/\0=0/\1=1/\0=0/\q31=t'.fst/\cap=t'.snd)/\True)/\(q4/\1=1/\cap=t'.snd/\t'.fst <= q31/\∀(i:Nat),
 let q35:List AV:=[AV.int .i64 (numA x (24+2*(i:Int)) 2)];
 let q36:Nat:=0+(i-t.1); i<t'.fst->(if i<t.1 then q35 else [AV.int .i64 (if q36=0*1 / 1 then IntKind.i64.wrap (↑(za8 x_6):Int) else 0)])=q35)/\True; ((List.drop q29 (List.take q30 (cstr (List.drop 8 x)))=cstr x_6/\True)/\true=true/\True)/\Oct x_6/\∀(y:Unit),True->q37/\q37) (Exx NodeT fun x_6 =>
 let q38:Prop:=0+t.1 <= t.1; (((Tr 1 ((nodeB x).e.slot=x_6.e.slot)/\Tr 1 ((nodeB x).e.gen=x_6.e.gen)/\Tr 1 ((nodeB x).e.key=x_6.e.key)/\Tr 1 ((nodeB x).e.value=x_6.e.value)/\(q38/\t.1=x_6.kids.length/\∀(i:Nat),i<x_6.kids.length->[AV.int .i64 (numA x (24+2*(↑(0+i):Int)) 2)]=[AV.int .i64 (x_6.kids.getD i 0)])/\True)/\True)/\true=true/\True)/\zd1 x_6/\∀(y:Unit),True->BC (!decide (zbJ x_6)) q6 (Exx (List Nat) fun m=>(x.length=m.length/\∀(i:Nat),i<m.length->[AV.int .u8 (↑(x.getD i 0):Int)]=[AV.int .u8 (↑(m.getD i 0):Int)])/\(∀(c:Nat),c∈m->c<256)/\Exx NodeT fun x_7=>(((Tr 1 ((nodeB x).e.slot=x_7.e.slot)/\Tr 1 ((nodeB x).e.gen=x_7.e.gen)/\Tr 1 ((nodeB x).e.key=x_7.e.key)/\Tr 1 ((nodeB x).e.value=x_7.e.value)/\(q38/\t.1=x_7.kids.length/\∀(i:Nat),i<x_7.kids.length->[AV.int .i64 (numA x (24+2*(↑(0+i):Int)) 2)]=[AV.int .i64 (x_7.kids.getD i 0)])/\True)/\True)/\true=true/\True)/\(zbJ x_7/\zd1 x_7)/\∀(y:Unit),True->BC (!decide (cstr (zaJ x_7)=cstr m)) q6 (Exx Nat fun y=>((((Tr 1 ((nodeB x).e.slot=(getNodeT x).e.slot)/\Tr 1 ((nodeB x).e.gen=(getNodeT x).e.gen)/\Tr 1 ((nodeB x).e.key=(getNodeT x).e.key)/\Tr 1 ((nodeB x).e.value=(getNodeT x).e.value)/\(true=true/\zaC/\0=0/\1=1/\0=0/\t.1=(getNodeT x).kids.length/\t.2=y)/\True)/\true=decide (zcI x)/\True)/\True)/\true=true/\(q4/\1=1/\t.2=y/\(getNodeT x).kids.length <= t.1/\∀(i:Nat),i<(getNodeT x).kids.length->[AV.int .i64 (numA x (24+2*(i:Int)) 2)]=[AV.int .i64 ((getNodeT x).kids.getD i 0)])/\True)/\(getNodeT x).kids.length <= y/\y <= 9223372036854775807))))/\Exx (List Nat) fun x_3=>((List.drop (Int.toNat 20) (List.take (Int.toNat 24) (cstr (zbC x_1)))=cstr x_3/\True)/\true=true/\True)/\Oct x_3/\∀(y:Unit),True->Exx (List Nat) fun x_4=>((List.drop 0 (List.take (Int.toNat 8) (cstr (zbC x_1)))=cstr x_4/\True)/\true=true/\True)/\Oct x_4/\∀(y:Unit),True->Exx (List Nat) fun x_5=>((List.drop (Int.toNat 8) (List.take (Int.toNat 16) (cstr (zbC x_1)))=cstr x_5/\True)/\true=true/\True)/\Oct x_5/\∀(y:Unit),True->Exx (Nat×Nat->Prop) fun I=>Exx (Nat×Nat->Nat) fun m=>(Exx (Nat×Nat) fun t=>I t/\(q8/\Tr 1 (q1/\Tr 2 (Tr 1 ((↑(tagN x_1):Int)=q9)/\cstr (zbC x_1)=cstr (List.drop 8 x)/\Tr 1 (q1/\Tr 1 (0=(t.1:Int))/\Tr 64 True))))/\true=true/\(31=(31:TypeId)/\q2)/\(31=(31:TypeId)/\Tr 1 (IntKind.i64.wrap (↑(za8 x_2):Int)=(nodeB x).e.slot)/\Tr 1 (IntKind.i64.wrap (↑(za8 x_3):Int)=(nodeB x).e.gen)/\Tr 1 (IntKind.i64.wrap (↑(za8 x_4):Int)=(nodeB x).e.key)/\Tr 1 (IntKind.i64.wrap (↑(za8 x_5):Int)=(nodeB x).e.value)/\(t.1=0/\t.2=0)/\True)/\(t.2=0/\t.1=0)/\True)/\∀(t:Nat×Nat),
 let q39:Int:=2*(t.1:Int);
 let q40:Prop:=I64 q39;
 let q41:Int:=24+q39;
 let q42:Int:=26+q39;
 let q43:Nat:=q41.toNat;
 let q44:Nat:=q42.toNat;
 let q45:Nat:=t.1+1;
 let q46:Int:=(t.1:Int)+1; I t->BC (decide ((t.1:Int)<q9)) (q40/\I64 q41/\q40/\I64 q42/\(0:Int) <= q42/\(0:Int) <= q41/\(q43 <= q44/\q44 <= (cstr (List.drop 8 x)).length)/\(Exx (List Nat) fun x_6=>((List.drop q43 (List.take q44 (cstr (List.drop 8 x)))=cstr x_6/\True)/\true=true/\True)/\Oct x_6/\∀(y:Unit),True->0+1 <= 1/\true=true/\(t.1 <= t.1/\t.2=t.2)/\(q45 <= 9223372036854775807/\q45*8 <= 140737488355328)/\∀(cap:Nat),q45 <= cap/\cap <= 9223372036854775807->I64 q46/\Exx (Nat×Nat) fun t'=>(I t'/\m t'<m t)/\(q8/\Tr 1 (q1/\Tr 2 (Tr 1 (q9=q9)/\cstr (List.drop 8 x)=cstr (List.drop 8 x)/\Tr 1 (q1/\Tr 1 (q46=(↑t'.fst:Int))/\Tr 64 True))))/\true=true/\(q3/\q2)/\(q3/\Tr 1 ((nodeB x).e.slot=(nodeB x).e.slot)/\Tr 1 ((nodeB x).e.gen=(nodeB x).e.gen)/\Tr 1 ((nodeB x).e.key=(nodeB x).e.key)/\Tr 1 ((nodeB x).e.value=(nodeB x).e.value)/\(true=true/\zaC/\0=0/\1=1/\0=0/\q45=t'.fst/\cap=t'.snd)/\True)/\(q4/\1=1/\cap=t'.snd/\t'.fst <= q45/\∀(i:Nat),
 let q47:List AV:=[AV.int .i64 (numA x (24+2*(i:Int)) 2)];
 let q48:Nat:=0+(i-t.1); i<t'.fst->(if i<t.1 then q47 else [AV.int .i64 (if q48=0*1 / 1 then IntKind.i64.wrap (↑(za8 x_6):Int) else 0)])=q47)/\True)/\Exx (List Nat) fun x_6 =>
 let q51:Prop:=0+1 <= 1/\true=true/\(t.1 <= t.1/\t.2=t.2)/\(q45 <= 9223372036854775807/\q45*8 <= 140737488355328)/\∀(cap:Nat),q45 <= cap/\cap <= 9223372036854775807->I64 q46/\Exx (Nat×Nat) fun t'=>(I t'/\m t'<m t)/\(q8/\Tr 1 (q1/\Tr 2 (Tr 1 (q9=q9)/\cstr (List.drop 8 x)=cstr (List.drop 8 x)/\Tr 1 (q1/\Tr 1 (q46=(↑t'.fst:Int))/\Tr 64 True))))/\true=true/\(q3/\q2)/\(q3/\Tr 1 ((nodeB x).e.slot=(nodeB x).e.slot)/\Tr 1 ((nodeB x).e.gen=(nodeB x).e.gen)/\Tr 1 ((nodeB x).e.key=(nodeB x).e.key)/\Tr 1 ((nodeB x).e.value=(nodeB x).e.value)/\(true=true/\zaC/\0=0/\1=1/\0=0/\q45=t'.fst/\cap=t'.snd)/\True)/\(q4/\1=1/\cap=t'.snd/\t'.fst <= q45/\∀(i:Nat),
 let q49:List AV:=[AV.int .i64 (numA x (24+2*(i:Int)) 2)];
 let q50:Nat:=0+(i-t.1); i<t'.fst->(if i<t.1 then q49 else [AV.int .i64 (if q50=0*1 / 1 then IntKind.i64.wrap (↑(za8 x_6):Int) else 0)])=q49)/\True; ((List.drop q43 (List.take q44 (cstr (List.drop 8 x)))=cstr x_6/\True)/\true=true/\True)/\Oct x_6/\∀(y:Unit),True->q51/\q51) (Exx NodeT fun x_6 =>
 let q52:Prop:=0+t.1 <= t.1; (((Tr 1 ((nodeB x).e.slot=x_6.e.slot)/\Tr 1 ((nodeB x).e.gen=x_6.e.gen)/\Tr 1 ((nodeB x).e.key=x_6.e.key)/\Tr 1 ((nodeB x).e.value=x_6.e.value)/\(q52/\t.1=x_6.kids.length/\∀(i:Nat),i<x_6.kids.length->[AV.int .i64 (numA x (24+2*(↑(0+i):Int)) 2)]=[AV.int .i64 (x_6.kids.getD i 0)])/\True)/\True)/\true=true/\True)/\zd1 x_6/\∀(y:Unit),True->BC (!decide (zbJ x_6)) q6 (Exx (List Nat) fun m=>(x.length=m.length/\∀(i:Nat),i<m.length->[AV.int .u8 (↑(x.getD i 0):Int)]=[AV.int .u8 (↑(m.getD i 0):Int)])/\(∀(c:Nat),c∈m->c<256)/\Exx NodeT fun x_7=>(((Tr 1 ((nodeB x).e.slot=x_7.e.slot)/\Tr 1 ((nodeB x).e.gen=x_7.e.gen)/\Tr 1 ((nodeB x).e.key=x_7.e.key)/\Tr 1 ((nodeB x).e.value=x_7.e.value)/\(q52/\t.1=x_7.kids.length/\∀(i:Nat),i<x_7.kids.length->[AV.int .i64 (numA x (24+2*(↑(0+i):Int)) 2)]=[AV.int .i64 (x_7.kids.getD i 0)])/\True)/\True)/\true=true/\True)/\(zbJ x_7/\zd1 x_7)/\∀(y:Unit),True->BC (!decide (cstr (zaJ x_7)=cstr m)) q6 (Exx Nat fun y=>((((Tr 1 ((nodeB x).e.slot=(getNodeT x).e.slot)/\Tr 1 ((nodeB x).e.gen=(getNodeT x).e.gen)/\Tr 1 ((nodeB x).e.key=(getNodeT x).e.key)/\Tr 1 ((nodeB x).e.value=(getNodeT x).e.value)/\(true=true/\zaC/\0=0/\1=1/\0=0/\t.1=(getNodeT x).kids.length/\t.2=y)/\True)/\true=decide (zcI x)/\True)/\True)/\true=true/\(q4/\1=1/\t.2=y/\(getNodeT x).kids.length <= t.1/\∀(i:Nat),i<(getNodeT x).kids.length->[AV.int .i64 (numA x (24+2*(i:Int)) 2)]=[AV.int .i64 ((getNodeT x).kids.getD i 0)])/\True)/\(getNodeT x).kids.length <= y/\y <= 9223372036854775807))))/\Exx (List Nat) fun x_2=>((List.drop (Int.toNat 16) (List.take (Int.toNat 20) (cstr (zbC x_1)))=cstr x_2/\True)/\true=true/\True)/\Oct x_2/\∀(y:Unit),True->Exx (List Nat) fun x_3=>((List.drop (Int.toNat 20) (List.take (Int.toNat 24) (cstr (zbC x_1)))=cstr x_3/\True)/\true=true/\True)/\Oct x_3/\∀(y:Unit),True->Exx (List Nat) fun x_4=>((List.drop 0 (List.take (Int.toNat 8) (cstr (zbC x_1)))=cstr x_4/\True)/\true=true/\True)/\Oct x_4/\∀(y:Unit),True->Exx (List Nat) fun x_5=>((List.drop (Int.toNat 8) (List.take (Int.toNat 16) (cstr (zbC x_1)))=cstr x_5/\True)/\true=true/\True)/\Oct x_5/\∀(y:Unit),True->Exx (Nat×Nat->Prop) fun I=>Exx (Nat×Nat->Nat) fun m=>(Exx (Nat×Nat) fun t=>I t/\(q8/\Tr 1 (q1/\Tr 2 (Tr 1 ((↑(tagN x_1):Int)=q9)/\cstr (zbC x_1)=cstr (List.drop 8 x)/\Tr 1 (q1/\Tr 1 (0=(t.1:Int))/\Tr 64 True))))/\true=true/\(31=(31:TypeId)/\q2)/\(31=(31:TypeId)/\Tr 1 (IntKind.i64.wrap (↑(za8 x_2):Int)=(nodeB x).e.slot)/\Tr 1 (IntKind.i64.wrap (↑(za8 x_3):Int)=(nodeB x).e.gen)/\Tr 1 (IntKind.i64.wrap (↑(za8 x_4):Int)=(nodeB x).e.key)/\Tr 1 (IntKind.i64.wrap (↑(za8 x_5):Int)=(nodeB x).e.value)/\(t.1=0/\t.2=0)/\True)/\(t.2=0/\t.1=0)/\True)/\∀(t:Nat×Nat),
 let q53:Int:=2*(t.1:Int);
 let q54:Prop:=I64 q53;
 let q55:Int:=24+q53;
 let q56:Int:=26+q53;
 let q57:Nat:=q55.toNat;
 let q58:Nat:=q56.toNat;
 let q59:Nat:=t.1+1;
 let q60:Int:=(t.1:Int)+1; I t->BC (decide ((t.1:Int)<q9)) (q54/\I64 q55/\q54/\I64 q56/\(0:Int) <= q56/\(0:Int) <= q55/\(q57 <= q58/\q58 <= (cstr (List.drop 8 x)).length)/\(Exx (List Nat) fun x_6=>((List.drop q57 (List.take q58 (cstr (List.drop 8 x)))=cstr x_6/\True)/\true=true/\True)/\Oct x_6/\∀(y:Unit),True->0+1 <= 1/\true=true/\(t.1 <= t.1/\t.2=t.2)/\(q59 <= 9223372036854775807/\q59*8 <= 140737488355328)/\∀(cap:Nat),q59 <= cap/\cap <= 9223372036854775807->I64 q60/\Exx (Nat×Nat) fun t'=>(I t'/\m t'<m t)/\(q8/\Tr 1 (q1/\Tr 2 (Tr 1 (q9=q9)/\cstr (List.drop 8 x)=cstr (List.drop 8 x)/\Tr 1 (q1/\Tr 1 (q60=(↑t'.fst:Int))/\Tr 64 True))))/\true=true/\(q3/\q2)/\(q3/\Tr 1 ((nodeB x).e.slot=(nodeB x).e.slot)/\Tr 1 ((nodeB x).e.gen=(nodeB x).e.gen)/\Tr 1 ((nodeB x).e.key=(nodeB x).e.key)/\Tr 1 ((nodeB x).e.value=(nodeB x).e.value)/\(true=true/\zaC/\0=0/\1=1/\0=0/\q59=t'.fst/\cap=t'.snd)/\True)/\(q4/\1=1/\cap=t'.snd/\t'.fst <= q59/\∀(i:Nat),
 let q61:List AV:=[AV.int .i64 (numA x (24+2*(i:Int)) 2)];
 let q62:Nat:=0+(i-t.1); i<t'.fst->(if i<t.1 then q61 else [AV.int .i64 (if q62=0*1 / 1 then IntKind.i64.wrap (↑(za8 x_6):Int) else 0)])=q61)/\True)/\Exx (List Nat) fun x_6 =>
 let q65:Prop:=0+1 <= 1/\true=true/\(t.1 <= t.1/\t.2=t.2)/\(q59 <= 9223372036854775807/\q59*8 <= 140737488355328)/\∀(cap:Nat),q59 <= cap/\cap <= 9223372036854775807->I64 q60/\Exx (Nat×Nat) fun t'=>(I t'/\m t'<m t)/\(q8/\Tr 1 (q1/\Tr 2 (Tr 1 (q9=q9)/\cstr (List.drop 8 x)=cstr (List.drop 8 x)/\Tr 1 (q1/\Tr 1 (q60=(↑t'.fst:Int))/\Tr 64 True))))/\true=true/\(q3/\q2)/\(q3/\Tr 1 ((nodeB x).e.slot=(nodeB x).e.slot)/\Tr 1 ((nodeB x).e.gen=(nodeB x).e.gen)/\Tr 1 ((nodeB x).e.key=(nodeB x).e.key)/\Tr 1 ((nodeB x).e.value=(nodeB x).e.value)/\(true=true/\zaC/\0=0/\1=1/\0=0/\q59=t'.fst/\cap=t'.snd)/\True)/\(q4/\1=1/\cap=t'.snd/\t'.fst <= q59/\∀(i:Nat),
 let q63:List AV:=[AV.int .i64 (numA x (24+2*(i:Int)) 2)];
 let q64:Nat:=0+(i-t.1); i<t'.fst->(if i<t.1 then q63 else [AV.int .i64 (if q64=0*1 / 1 then IntKind.i64.wrap (↑(za8 x_6):Int) else 0)])=q63)/\True; ((List.drop q57 (List.take q58 (cstr (List.drop 8 x)))=cstr x_6/\True)/\true=true/\True)/\Oct x_6/\∀(y:Unit),True->q65/\q65) (Exx NodeT fun x_6 =>
 let q66:Prop:=0+t.1 <= t.1; (((Tr 1 ((nodeB x).e.slot=x_6.e.slot)/\Tr 1 ((nodeB x).e.gen=x_6.e.gen)/\Tr 1 ((nodeB x).e.key=x_6.e.key)/\Tr 1 ((nodeB x).e.value=x_6.e.value)/\(q66/\t.1=x_6.kids.length/\∀(i:Nat),i<x_6.kids.length->[AV.int .i64 (numA x (24+2*(↑(0+i):Int)) 2)]=[AV.int .i64 (x_6.kids.getD i 0)])/\True)/\True)/\true=true/\True)/\zd1 x_6/\∀(y:Unit),True->BC (!decide (zbJ x_6)) q6 (Exx (List Nat) fun m=>(x.length=m.length/\∀(i:Nat),i<m.length->[AV.int .u8 (↑(x.getD i 0):Int)]=[AV.int .u8 (↑(m.getD i 0):Int)])/\(∀(c:Nat),c∈m->c<256)/\Exx NodeT fun x_7=>(((Tr 1 ((nodeB x).e.slot=x_7.e.slot)/\Tr 1 ((nodeB x).e.gen=x_7.e.gen)/\Tr 1 ((nodeB x).e.key=x_7.e.key)/\Tr 1 ((nodeB x).e.value=x_7.e.value)/\(q66/\t.1=x_7.kids.length/\∀(i:Nat),i<x_7.kids.length->[AV.int .i64 (numA x (24+2*(↑(0+i):Int)) 2)]=[AV.int .i64 (x_7.kids.getD i 0)])/\True)/\True)/\true=true/\True)/\(zbJ x_7/\zd1 x_7)/\∀(y:Unit),True->BC (!decide (cstr (zaJ x_7)=cstr m)) q6 (Exx Nat fun y=>((((Tr 1 ((nodeB x).e.slot=(getNodeT x).e.slot)/\Tr 1 ((nodeB x).e.gen=(getNodeT x).e.gen)/\Tr 1 ((nodeB x).e.key=(getNodeT x).e.key)/\Tr 1 ((nodeB x).e.value=(getNodeT x).e.value)/\(true=true/\zaC/\0=0/\1=1/\0=0/\t.1=(getNodeT x).kids.length/\t.2=y)/\True)/\true=decide (zcI x)/\True)/\True)/\true=true/\(q4/\1=1/\t.2=y/\(getNodeT x).kids.length <= t.1/\∀(i:Nat),i<(getNodeT x).kids.length->[AV.int .i64 (numA x (24+2*(i:Int)) 2)]=[AV.int .i64 ((getNodeT x).kids.getD i 0)])/\True)/\(getNodeT x).kids.length <= y/\y <= 9223372036854775807)))))))=(zcA tb [(17,zaA qaT),(174,zaA zl0),(175,zaA zqM),(185,zaA zh2)] Tryz.f153 zkX (fun x=>{ loops:=[(6,qpC x)],loose:=[(8,[2,3]),(9,[2,3])] }) (fun _ av _=>qm9 av) (fun _=>[]) (fun _ _ _ _=>[])):=by kernel_rfl

theorem zu3:SpecOk Tryz.prog 153 (zaA zkX):=by
 refine za0 zaM zaL (SPok.cons qjM (SPok.cons znF (SPok.cons zqL (SPok.cons zqK SPok.nil)))) Tryz.func153 (by decide) zsL (Eq.mp qaW ?_)
 simp (maxSteps:=10000000) only [std,stdU,stdV,Exx,I64,Nat.reduceMul,Nat.reduceDiv,Nat.reduceAdd,Int.reduceToNat,qbM,zvN]
 rintro b ⟨hb,hl⟩
 refine ⟨⟨hb,hl⟩,?_⟩
 have hno:¬zcI b->(0=(getNodeT b).e.slot/\0=(getNodeT b).e.gen/\0=(getNodeT b).e.key/\0=(getNodeT b).e.value/\(getNodeT b).kids.length=0/\false=decide (zcI b)/\(getNodeT b).kids.length=0/\(getNodeT b).kids.length <= 0/\0 <= 9223372036854775807):=fun h=>by
  rw [getNodeT,if_neg h]; exact ⟨rfl,rfl,rfl,rfl,rfl,(decide_eq_false h).symm,rfl,Nat.le_refl _,by omega⟩
 refine ⟨fun h=>hno (fun k=>h k.1),fun hr=>⟨fun h=>hno (fun k=>h (by rw [ze0,if_pos hr,k.2.1]; rfl)),fun hk=>⟨fun h=>hno (fun k=>by have:=k.2.2.1; rw [tagN,if_pos hr] at h; omega),fun ht=>?_⟩⟩⟩
 have h64:=hr.1
 have hB:zbC b=b.drop 8:=if_pos hr
 have hK:b.getD 4 0=1:=by rw [ze0,if_pos hr] at hk; omega
 have hT:tagN b=b.getD 5 0:=if_pos hr
 have hT2:b.getD 5 0 <= 12:=by rw [hT] at ht; omega
 have hlen:(b.drop 8).length=56:=by rw [List.length_drop]; omega
 have hbd:∀c∈b.drop 8,c<256:=fun x hx=>hb x (List.mem_of_mem_drop hx)
 have ho:∀m n,Oct (((b.drop 8).take m).drop n):=fun m n=>⟨fun x hx=>hbd x (List.mem_of_mem_take (List.mem_of_mem_drop hx)),by rw [List.length_drop,List.length_take]; omega⟩
 have p1:za8 (((b.drop 8).take 20).drop 16)=getN (b.drop 8) 16 4:=zfA (a:=16) (n:=4) (by omega) (by omega) (by omega)
 have p2:za8 (((b.drop 8).take 24).drop 20)=getN (b.drop 8) 20 4:=zfA (a:=20) (n:=4) (by omega) (by omega) (by omega)
 have p3:za8 (((b.drop 8).take 8).drop 0)=getN (b.drop 8) 0 8:=zfA (a:=0) (n:=8) (by omega) (by omega) (by omega)
 have p4:za8 (((b.drop 8).take 16).drop 8)=getN (b.drop 8) 8 8:=zfA (a:=8) (n:=8) (by omega) (by omega) (by omega)
 rw [hB,p1,p2,p3,p4,hT]
 repeat refine And.intro (by omega) ?_
 refine (fun t=>⟨ho _ _,ho _ _,ho _ _,ho _ _,t,ho _ _,t,ho _ _,ho _ _,t,ho _ _,ho _ _,ho _ _,t,ho _ _,ho _ _,ho _ _,ho _ _,t⟩) ?_
 refine ⟨fun s=>s.1 <= b.getD 5 0/\s.1 <= s.2/\s.2 <= 9223372036854775807,⟨0,0,⟨by omega,by omega,by simp⟩,rfl,rfl,rfl,rfl,rfl,rfl,rfl,rfl,rfl,rfl,rfl⟩,fun s=>b.getD 5 0-s.1,fun a d hac=>⟨fun hlt=>?_,fun hge=>?_⟩⟩
 ·obtain ⟨q1,q2,q3⟩:=hac
  simp only at q1 q2 q3
  have e1:(24+2*(a:Int)).toNat=24+2*a:=by omega
  have e2:(26+2*(a:Int)).toNat=24+2*a+2:=by omega
  have p5:za8 (((b.drop 8).take (24+2*a+2)).drop (24+2*a))=getN (b.drop 8) ((24+2*a:Nat):Int) 2:=zfA (a:=24+2*a) (n:=2) (by omega) (by omega) (by omega)
  have e3:((24+2*a:Nat):Int)=24+2*(a:Int):=by omega
  rw [e3] at p5
  rw [e1,e2,p5]
  repeat refine And.intro (by omega) ?_
  refine (fun t=>⟨ho _ _,by omega,by omega,t,ho _ _,by omega,by omega,t,by omega,by omega,t⟩) ?_
  exact fun cap hc=>⟨by omega,by omega,a+1,cap,⟨by simp only; omega,hc.1,hc.2⟩,by simp only; omega,by omega,rfl,rfl,rfl,Nat.le_refl _,fun i hi=>by
    by_cases e:i<a
    ·rw [if_pos e]
    ·have e2:i=a:=by omega
     subst e2
     rw [if_neg e,if_pos (by omega)]; rfl⟩
 ·obtain ⟨q1,q2,q3⟩:=hac
  simp only at q1 q2 q3
  have ha:a=b.getD 5 0:=by omega
  have hkl:(nodeB b).kids.length=b.getD 5 0:=by simp only [nodeB,zdU]
  have hki:∀i,i<(nodeB b).kids.length->[i64 (numA b (24+2*(i:Nat)) 2)]=[i64 ((nodeB b).kids.getD i 0)]:=fun i hi=>by
   rw [hkl] at hi
   simp only [nodeB]; rw [zhL b hi]
  refine ⟨nodeB b,rfl,rfl,rfl,rfl,by rw [hkl,ha],hki,(znQ b).2 (by omega),fun h=>hno (fun k=>h k.2.2.2.1),fun hok=>⟨hb,nodeB b,rfl,rfl,rfl,rfl,by rw [hkl,ha],hki,hok,(znQ b).2 (by omega),fun h=>hno (fun k=>h (qkL hb k)),fun h=>?_⟩⟩
  have hN:zcI b:=by
   have:=(ztL hok ((znQ b).2 (by omega)).1).1
   rwa [h] at this
  rw [getNodeT,if_pos hN,hkl]
  rw [hkl] at hki
  exact ⟨rfl,rfl,rfl,rfl,ha,(decide_eq_true hN).symm,by omega,hki,by omega,q3⟩


theorem qi9 {l:Bool} {g n:Int} {p:SeatT->Prop}:(∃x:SeatT,l=x.live/\g=x.gen/\n=x.next/\p x) ↔ p ⟨l,g,n⟩ :=
 ⟨fun ⟨x,h1,h2,h3,k⟩=>by subst h1; subst h2; subst h3; exact k,fun k=>⟨_,rfl,rfl,rfl,k⟩⟩
theorem qdP {x:SeatT}:(⟨x.live,x.gen,x.next⟩:SeatT)=x:=rfl
theorem shl7 {t:Nat} (h:t<7):IntKind.i64.wrap (1*2 ^ min t IntKind.i64.bits)=((2 ^ t:Nat):Int):=by
 have:t=0\/t=1\/t=2\/t=3\/t=4\/t=5\/t=6:=by omega
 rcases this with rfl | rfl | rfl | rfl | rfl | rfl | rfl <;> rfl
def qa0:Ctr:=zbN (Nat->Int) (fun f=>∀i,i<16->I64 (f i)) (fun f=>[fanA f]) (fun f => .tup [strN (putFanL f),.bool (decide (zeT f))])
def qpE (f:Nat->Int):LA:={ T:=Nat,F:=fun i=>frm 33 [(1,.ptr 1 [] 0),(4,strN (kidsL f i)),(5,i64 (i:Nat))],H:=fun _=>[.fence,.cells 184 (fanV f)] }
theorem refFanV:(
 let q1:Prop:=true=true/\zaC/\0=0;
 let q2:Prop:=(184:TypeId)=184; ∀(x:Nat->Int),
 let q3:Prop:=1=1/\16=16/\(∀(i:Nat),i<16->[AV.int .i64 (x i)]=[AV.int .i64 (x i)])/\True;
 let q4:Prop:=true=true/\(q2/\q3)/\True; (∀(i:Nat),i<16->I64 (x i))->Exx (Nat->Prop) fun I=>Exx (Nat->Nat) fun m=>(Exx Nat fun t=>I t/\Tr 1 (q1/\Tr 2 (cstr (litL (ByteArray.mk #[]))=cstr (kidsL x t)/\Tr 1 (0=(t:Int))/\Tr 27 True))/\true=true/\(184=(184:TypeId)/\q3)/\True)/\∀(t:Nat),
 let q5:Prop:=(0:Int) <= (t:Int)/\(t:Int)<(↑(16:Nat):Int);
 let q6:Prop:=(t:Int).toNat<16;
 let q7:Int:=(t:Int)+1;
 let q8:Prop:=q5/\q6/\∀(m_1:Int),m_1=IntKind.u64.wrap (x (t:Int).toNat)->Exx (Nat×Nat) fun x_1=>((Tr 1 (m_1=(x_1.1:Int))/\Tr 1 (2=(x_1.2:Int))/\True)/\true=true/\True)/\(U64 x_1.1/\x_1.2 <= 1000)/\∀(y:Unit),True->(cstr (kidsL x t)).length+(cstr (layN x_1.1 x_1.2)).length <= 9223372036854775807/\I64 q7/\Exx Nat fun t'=>(I t'/\m t'<m t)/\Tr 1 (q1/\Tr 2 (cstr (kidsL x t)++cstr (layN x_1.1 x_1.2)=cstr (kidsL x t')/\Tr 1 (q7=(↑t':Int))/\Tr 27 True))/\q4; I t->BC (decide ((t:Int)<(16:Int))) (q5/\q6/\BC (!decide (x (t:Int).toNat=(0:Int))) (q5/\q6/\Exx Int fun x_1=>((Tr 1 (x (t:Int).toNat=x_1)/\True)/\true=true/\True)/\(-9223372036854775808 <= x_1/\x_1 <= (9223372036854775807:Int))/\∀(y:Unit),True->BC (!decide ((2:Int) <= x_1/\x_1 <= (3071:Int))) (Exx Unit fun y=>(((cstr (litL (ByteArray.mk #[]))=cstr (putFanL x)/\false=decide (zeT x)/\True)/\True)/\true=true/\True)/\True) q8) q8) (Exx (Nat×Nat×List Nat) fun x_1=>((Tr 1 (3=(x_1.1:Int))/\Tr 1 (0=(x_1.2.1:Int))/\cstr (kidsL x t)=cstr x_1.2.2/\True)/\true=true/\True)/\(x_1.1<256/\x_1.2.1<256/\(∀(c:Nat),c∈x_1.2.2->c<256)/\x_1.2.2.length <= 56)/\∀(y:Unit),True->Exx Unit fun y=>(((cstr (zcD x_1.1 x_1.2.1 x_1.2.2)=cstr (putFanL x)/\true=decide (zeT x)/\True)/\True)/\true=true/\True)/\True))=(fnVC tb [(48,zaA znI),(49,zaA zjW),(198,zaA zmU)] Tryz.f176 qa0 (fun x=>{ loops:=[(3,qpE x)] }) (fun _=>none)):=by kernel_rfl

theorem qjP:SpecOk Tryz.prog 176 (zaA qa0):=by
 refine zaK zaM zaL (SPok.cons zl1 (SPok.cons zjV (SPok.cons zn8 SPok.nil))) Tryz.func176 (by decide) (zaO fun _=>⟨rfl,rfl,trivial⟩) (Eq.mp refFanV ?_)
 simp (maxSteps:=10000000) only [std,stdU,stdV,Exx,I64,Nat.reduceMul,Nat.reduceDiv,Nat.reduceAdd,Int.reduceToNat]
 intro f hf
 refine ⟨fun t=>t <= 16/\∀j,j<t->zgZ (f j),⟨0,⟨by omega,fun j hj=>absurd hj (Nat.not_lt_zero _)⟩,rfl,rfl⟩,fun t=>16-t,fun t ht=>⟨fun hlt=>?_,fun hge=>?_⟩⟩
 ·obtain ⟨h1,h2⟩:=ht
  have step:zgZ (f t)->0 <= (t:Int)/\(t:Int)<((16:Nat):Int)/\t<16/\∃a:Nat,IntKind.u64.wrap (f t)=(a:Int)/\∃x_2:Nat,(2:Int)=(x_2:Int)/\U64 a/\x_2 <= 1000/\(kidsL f t).length+(layN a x_2).length <= 9223372036854775807/\-9223372036854775808 <= (t:Int)+1/\(t:Int)+1 <= 9223372036854775807/\∃x_3:Nat,(fun t:Nat=>t <= 16/\∀j,j<t->zgZ (f j)) x_3/\(fun t:Nat=>16-t) x_3<(fun t:Nat=>16-t) t/\kidsL f t++layN a x_2=kidsL f x_3/\(t:Int)+1=(x_3:Int):=fun hk=>by
   have hk0:=hk
   unfold zgZ at hk
   exact ⟨by omega,by omega,by omega,(f t).toNat,zbK (by omega) (by omega),2,rfl,by unfold U64; omega,by omega,by rw [zb1,zaE]; omega,by omega,by omega,t+1,⟨by omega,fun j hj=>by
    by_cases e:j=t
    ·subst e; exact hk0
    ·exact h2 j (by omega)⟩,by simp only; omega,(ze1 f t).symm,by omega⟩
  refine ⟨by omega,by omega,by omega,fun hz=>⟨by omega,by omega,by omega,(hf t (by omega)).1,(hf t (by omega)).2,fun hb=>?_,fun hk=>step (.inr hk)⟩,fun hz=>step (.inl hz)⟩
  have hn:¬zeT f:=fun k=>by have:=k t (by omega); unfold zgZ at this; omega
  rw [putFanL,if_neg hn]; exact ⟨rfl,(decide_eq_false hn).symm⟩
 ·obtain ⟨h1,h2⟩:=ht
  have e:t=16:=by omega
  subst e
  have hok:zeT f:=h2
  exact ⟨3,rfl,0,rfl,by omega,by omega,zmE f 16,by rw [zb1]; omega,by rw [putFanL,if_pos hok],(decide_eq_true hok).symm⟩

def zu2:Ctr:=zbN (Nat->SeatT) (fun l=>∀i,i<7->zdE (l i)) (fun l=>[qbV l]) (fun l => .tup [strN (zaU l),.bool (decide (zdR l))])
def qjO (l:Nat->SeatT):LA:={ T:=Nat,F:=fun i=>frm 39 [(1,.ptr 1 [] 0),(4,strN (zbT l i)),(5,i64 (zcM l i:Nat)),(6,i64 (i:Nat))],H:=fun _=>[.fence,.cells 189 (qgN l)] }
theorem qpA:(
 let q1:Prop:=true=true/\zaC/\0=0;
 let q2:Prop:=(189:TypeId)=189; ∀(x:Nat->SeatT),
 let q4:Prop:=3=3/\7=7/\(∀(i:Nat),
 let q3:List AV:=[AV.bool (x i).live,AV.int .i64 (x i).gen,AV.int .i64 (x i).next]; i<7->q3=q3)/\True;
 let q5:Prop:=true=true/\(q2/\q4)/\True; (∀(i:Nat),i<7->zdE (x i))->Exx (Nat->Prop) fun I=>Exx (Nat->Nat) fun m=>(Exx Nat fun t=>I t/\Tr 1 (q1/\Tr 2 (cstr (litL (ByteArray.mk #[]))=cstr (zbT x t)/\Tr 1 (0=(↑(zcM x t):Int))/\Tr 1 (0=(t:Int))/\Tr 32 True))/\true=true/\(189=(189:TypeId)/\q4)/\True)/\∀(t:Nat),
 let q6:Int:=(t:Int)+1;
 let q7:Prop:=I64 q6; I t->BC (decide ((t:Int)<(7:Int))) (((0:Int) <= (t:Int)/\(t:Int)<(↑(7:Nat):Int))/\(t:Int).toNat<7/\Exx SeatT fun x_1=>((((x (t:Int).toNat).live=x_1.live/\Tr 1 ((x (t:Int).toNat).gen=x_1.gen)/\Tr 1 ((x (t:Int).toNat).next=x_1.next)/\True)/\True)/\true=true/\True)/\zdE x_1/\∀(y:Unit),True->BC (!decide (za6 x_1)) (Exx Unit fun y=>(((cstr (litL (ByteArray.mk #[]))=cstr (zaU x)/\false=decide (zdR x)/\True)/\True)/\true=true/\True)/\True) (BC (x (t:Int).toNat).live ((0:Int) <= (t:Int)/\∀(n:Int),
 let q8:Int:=(↑(zcM x t):Int)+n; n=IntKind.i64.wrap (1*2 ^ min (t:Int).toNat IntKind.i64.bits)->I64 q8/\∀(m_1:Int),m_1=IntKind.u64.wrap (x (t:Int).toNat).gen->∀(m_2:Int),m_2=IntKind.u64.wrap (x (t:Int).toNat).next->Exx (Nat×Nat) fun x_2 =>
 let q9:List Int:=cstr (zbT x t)++cstr (layN x_2.1 x_2.2); ((Tr 1 (m_1=(x_2.1:Int))/\Tr 1 (4=(x_2.2:Int))/\True)/\true=true/\True)/\(U64 x_2.1/\x_2.2 <= 1000)/\∀(y:Unit),True->(cstr (zbT x t)).length+(cstr (layN x_2.1 x_2.2)).length <= 9223372036854775807/\Exx (Nat×Nat) fun x_3=>((Tr 1 (m_2=(x_3.1:Int))/\Tr 1 (4=(x_3.2:Int))/\True)/\true=true/\True)/\(U64 x_3.1/\x_3.2 <= 1000)/\∀(y:Unit),True->q9.length+(cstr (layN x_3.1 x_3.2)).length <= 9223372036854775807/\q7/\Exx Nat fun t'=>(I t'/\m t'<m t)/\Tr 1 (q1/\Tr 2 (q9++cstr (layN x_3.1 x_3.2)=cstr (zbT x t')/\Tr 1 (q8=(↑(zcM x t'):Int))/\Tr 1 (q6=(↑t':Int))/\Tr 32 True))/\q5) (∀(m_1:Int),m_1=IntKind.u64.wrap (x (t:Int).toNat).gen->∀(m_2:Int),m_2=IntKind.u64.wrap (x (t:Int).toNat).next->Exx (Nat×Nat) fun x_2 =>
 let q10:List Int:=cstr (zbT x t)++cstr (layN x_2.1 x_2.2); ((Tr 1 (m_1=(x_2.1:Int))/\Tr 1 (4=(x_2.2:Int))/\True)/\true=true/\True)/\(U64 x_2.1/\x_2.2 <= 1000)/\∀(y:Unit),True->(cstr (zbT x t)).length+(cstr (layN x_2.1 x_2.2)).length <= 9223372036854775807/\Exx (Nat×Nat) fun x_3=>((Tr 1 (m_2=(x_3.1:Int))/\Tr 1 (4=(x_3.2:Int))/\True)/\true=true/\True)/\(U64 x_3.1/\x_3.2 <= 1000)/\∀(y:Unit),True->q10.length+(cstr (layN x_3.1 x_3.2)).length <= 9223372036854775807/\q7/\Exx Nat fun t'=>(I t'/\m t'<m t)/\Tr 1 (q1/\Tr 2 (q10++cstr (layN x_3.1 x_3.2)=cstr (zbT x t')/\Tr 1 ((↑(zcM x t):Int)=(↑(zcM x t'):Int))/\Tr 1 (q6=(↑t':Int))/\Tr 32 True))/\q5))) (Exx (Nat×Nat×List Nat) fun x_1=>((Tr 1 (2=(x_1.1:Int))/\Tr 1 ((↑(zcM x t):Int)=(x_1.2.1:Int))/\cstr (zbT x t)=cstr x_1.2.2/\True)/\true=true/\True)/\(x_1.1<256/\x_1.2.1<256/\(∀(c:Nat),c∈x_1.2.2->c<256)/\x_1.2.2.length <= 56)/\∀(y:Unit),True->Exx Unit fun y=>(((cstr (zcD x_1.1 x_1.2.1 x_1.2.2)=cstr (zaU x)/\true=decide (zdR x)/\True)/\True)/\true=true/\True)/\True))=(fnVC tb [(48,zaA znI),(49,zaA zjW),(199,zaA qaL)] Tryz.f177 zu2 (fun x=>{ loops:=[(3,qjO x)] }) (fun _=>none)):=by kernel_rfl

theorem qf5:SpecOk Tryz.prog 177 (zaA zu2):=by
 refine zaK zaM zaL (SPok.cons zl1 (SPok.cons zjV (SPok.cons qjB SPok.nil))) Tryz.func177 (by decide) (zaO fun _=>⟨rfl,rfl,trivial⟩) (Eq.mp qpA ?_)
 simp (maxSteps:=10000000) only [std,stdU,stdV,Exx,I64,Nat.reduceMul,Nat.reduceDiv,Nat.reduceAdd,Int.reduceToNat,qi9,qdP]
 intro l hl
 refine ⟨fun t=>t <= 7/\∀j,j<t->za6 (l j),⟨0,⟨by omega,fun j hj=>absurd hj (Nat.not_lt_zero _)⟩,rfl,rfl,rfl⟩,fun t=>7-t,fun t ht=>⟨fun hlt=>?_,fun hge=>?_⟩⟩
 ·obtain ⟨h1,h2⟩:=ht
  have ht7:t<7:=by omega
  refine ⟨by omega,by omega,by omega,hl t (by omega),fun hb=>?_,fun hs=>?_⟩
  ·have hn:¬zdR l:=fun k=>hb (k t (by omega))
   rw [zaU,if_neg hn]; exact ⟨rfl,(decide_eq_false hn).symm⟩
  ·have hsn:=zo4 hs
   have hll:=zgQ l t
   have hp:2 ^ t <= 2 ^ 7:=Nat.pow_le_pow_right (by decide) (by omega)
   have e7:(2:Nat) ^ 7=128:=rfl
   have hx:∀j,j<t+1->za6 (l j):=fun j hj=>by
    by_cases e:j=t
    ·subst e; exact hs
    ·exact h2 j (by omega)
   rw [shl7 ht7]
   refine ⟨fun hlv=>⟨by omega,by omega,by omega,(l t).gen.toNat,zbK (by omega) (by omega),4,rfl,by unfold U64; omega,by omega,by rw [zbE,zaE]; omega,(l t).next.toNat,zbK (by omega) (by omega),4,rfl,by unfold U64; omega,by omega,by rw [List.length_append,zbE,zaE,zaE]; omega,by omega,by omega,t+1,⟨by omega,hx⟩,by simp only; omega,by rw [zdK,List.append_assoc],by rw [zcM,if_pos hlv]; omega,by omega⟩,
    fun hlv=>⟨(l t).gen.toNat,zbK (by omega) (by omega),4,rfl,by unfold U64; omega,by omega,by rw [zbE,zaE]; omega,(l t).next.toNat,zbK (by omega) (by omega),4,rfl,by unfold U64; omega,by omega,by rw [List.length_append,zbE,zaE,zaE]; omega,by omega,by omega,t+1,⟨by omega,hx⟩,by simp only; omega,by rw [zdK,List.append_assoc],by rw [zcM,hlv]; rfl,by omega⟩⟩
 ·obtain ⟨h1,h2⟩:=ht
  have e:t=7:=by omega
  subst e
  have hok:zdR l:=h2
  have hll:=zgQ l 7
  exact ⟨2,rfl,by omega,by omega,ziS l 7,by rw [zbE]; omega,by rw [zaU,if_pos hok],(decide_eq_true hok).symm⟩

def znJ:Ctr:=zrK
theorem zu5:CtrOk zrK:=zaO fun _=>⟨⟨fun _ _=>⟨rfl,trivial⟩,trivial⟩,rfl,trivial⟩
def qaY (b:List Nat):LA:={ T:=Nat,F:=fun i=>frm 56 [(0,octA b),(2,.ptr 1 [] 0),(6,strN (b.drop 8)),(8,.ptr 2 [] 0),(9,i64 (i:Nat))],H:=fun i=>[.fence,.cells 184 (fanV fun _=>0),.cells 184 [.arr 1 16 (fun j=>[i64 (if j<i then zd0 b j else 0)])]] }
theorem qf6:(
 let q1:Prop:=true=true/\zaC/\0=0;
 let q2:Prop:=1=1/\16=16/\(∀(i:Nat),i<16->[AV.int .i64 (0:Int)]=[AV.int .i64 (0:Int)])/\True;
 let q3:Prop:=(184:TypeId)=184; ∀(x:List Nat),
 let q4:Prop:=Exx Unit fun y=>((((1=1/\16=16/\(∀(i:Nat),i<16->[AV.int .i64 0]=[AV.int .i64 (zcE x i)])/\True)/\false=decide (zgF x)/\True)/\True)/\true=true/\True)/\True;
 let q6:Prop:=1=1/\x.length=x.length/\∀(i:Nat),
 let q5:List AV:=[AV.int .u8 (↑(x.getD i 0):Int)]; i<x.length->q5=q5; Oct x->Exx (List Nat) fun x_1=>(((x.length=x_1.length/\∀(i:Nat),i<x_1.length->[AV.int .u8 (↑(x.getD i 0):Int)]=[AV.int .u8 (↑(x_1.getD i 0):Int)])/\True)/\true=true/\True)/\Oct x_1/\∀(y:Unit),True->BC (!decide (zb0 x_1)) q4 (BC (!decide ((↑(ze0 x_1):Int)=(3:Int))) q4 (Exx (Nat->Prop) fun I=>Exx (Nat->Nat) fun m=>(Exx Nat fun t=>I t/\(q6/\Tr 1 (q1/\Tr 3 (cstr (zbC x_1)=cstr (List.drop 8 x)/\Tr 1 (q1/\Tr 1 (0=(t:Int))/\Tr 46 True))))/\true=true/\(184=(184:TypeId)/\q2)/\(184=(184:TypeId)/\1=1/\16=16/\(∀(i:Nat),i<16->[AV.int .i64 0]=[AV.int .i64 (if i<t then zd0 x i else 0)])/\True)/\True)/\∀(t:Nat),
 let q7:Int:=2*(t:Int);
 let q8:Prop:=I64 q7;
 let q9:Int:=q7+2;
 let q10:Nat:=q7.toNat;
 let q11:Nat:=q9.toNat;
 let q12:Int:=(t:Int)+1; I t->BC (decide ((t:Int)<(16:Int))) (q8/\q8/\I64 q9/\(0:Int) <= q9/\(0:Int) <= q7/\(q10 <= q11/\q11 <= (cstr (List.drop 8 x)).length)/\Exx (List Nat) fun x_2=>((List.drop q10 (List.take q11 (cstr (List.drop 8 x)))=cstr x_2/\True)/\true=true/\True)/\Oct x_2/\∀(y:Unit),True->((0:Int) <= (t:Int)/\(t:Int)<(↑(16:Nat):Int))/\(t:Int).toNat<16/\I64 q12/\Exx Nat fun t'=>(I t'/\m t'<m t)/\(q6/\Tr 1 (q1/\Tr 3 (cstr (List.drop 8 x)=cstr (List.drop 8 x)/\Tr 1 (q1/\Tr 1 (q12=(↑t':Int))/\Tr 46 True))))/\true=true/\(q3/\q2)/\(q3/\1=1/\16=16/\(∀(i:Nat),i<16->[AV.int .i64 (if i=(t:Int).toNat then IntKind.i64.wrap (↑(za8 x_2):Int) else if i<t then zd0 x i else 0)]=[AV.int .i64 (if i<t' then zd0 x i else 0)])/\True)/\True) (Exx (Nat->Int) fun x_2=>(((1=1/\16=16/\(∀(i:Nat),i<16->[AV.int .i64 (if i<t then zd0 x i else 0)]=[AV.int .i64 (x_2 i)])/\True)/\True)/\true=true/\True)/\(∀(i:Nat),i<16->I64 (x_2 i))/\∀(y:Unit),True->BC (!decide (zeT x_2)) q4 (Exx (List Nat) fun m=>(x.length=m.length/\∀(i:Nat),i<m.length->[AV.int .u8 (↑(x.getD i 0):Int)]=[AV.int .u8 (↑(m.getD i 0):Int)])/\(∀(c:Nat),c∈m->c<256)/\BC (!decide (cstr (putFanL x_2)=cstr m)) q4 (Exx Unit fun y=>((((1=1/\16=16/\(∀(i:Nat),i<16->[AV.int .i64 (if i<t then zd0 x i else 0)]=[AV.int .i64 (zcE x i)])/\True)/\true=decide (zgF x)/\True)/\True)/\true=true/\True)/\True))))))=(fnVC tb [(174,zaA zl0),(175,zaA zqM),(176,zaA qa0)] Tryz.f138 znJ (fun x=>{ loops:=[(6,qaY x)] }) (fun _=>none)):=by kernel_rfl

theorem zxS:SpecOk Tryz.prog 138 (zaA znJ):=by
 refine zaK zaM zaL (SPok.cons znF (SPok.cons zqL (SPok.cons qjP SPok.nil))) Tryz.func138 (by decide) zu5 (Eq.mp qf6 ?_)
 simp (maxSteps:=10000000) only [std,stdU,stdV,Exx,I64,Nat.reduceMul,Nat.reduceDiv,Nat.reduceAdd,Int.reduceToNat]
 rintro b ⟨hb,hl⟩
 have hno:¬zgF b->((∀i,i<16->[AV.int IntKind.i64 0]=[AV.int IntKind.i64 (zcE b i)])/\false=decide (zgF b)):=fun h =>
  ⟨fun i _=>by rw [zcE,if_neg h],(decide_eq_false h).symm⟩
 refine ⟨⟨hb,hl⟩,fun h=>hno (fun k=>h k.1),fun hr=>⟨fun h=>hno (fun k=>h (by rw [ze0,if_pos hr,k.2.1]; rfl)),fun hk=>?_⟩⟩
 have h64:=hr.1
 have hB:zbC b=b.drop 8:=if_pos hr
 have hlen:(b.drop 8).length=56:=by rw [List.length_drop]; omega
 have hbd:∀c∈b.drop 8,c<256:=fun x hx=>hb x (List.mem_of_mem_drop hx)
 refine ⟨fun t=>t <= 16,⟨0,by omega,hB,rfl,fun i _=>rfl⟩,fun t=>16-t,fun t ht=>⟨fun hlt=>?_,fun hge=>?_⟩⟩
 ·have e1:(2*(t:Int)).toNat=2*t:=by omega
  have e2:(2*(t:Int)+2).toNat=2*t+2:=by omega
  have p5:za8 (((b.drop 8).take (2*t+2)).drop (2*t))=getN (b.drop 8) ((2*t:Nat):Int) 2:=zfA (a:=2*t) (n:=2) (by omega) (by omega) (by omega)
  have p6:=zeM (l:=b.drop 8) (a:=2*t) (n:=2) (by omega) (by omega) (by omega)
  have p7:=zl7 (l:=b.drop 8) (a:=2*t) (n:=2) hbd (by omega)
  rw [e1,e2]
  refine ⟨by omega,by omega,by omega,by omega,by omega,by omega,by omega,by omega,by omega,by omega,⟨fun x hx=>hbd x (List.mem_of_mem_take (List.mem_of_mem_drop hx)),by rw [List.length_drop,List.length_take]; omega⟩,by omega,by omega,by omega,by omega,by omega,t+1,by omega,by simp only; omega,by omega,fun i hi=>?_⟩
  have hw:IntKind.i64.wrap ((za8 (((b.drop 8).take (2*t+2)).drop (2*t)):Nat):Int)=zd0 b t:=by
   have p6':getN (b.drop 8) ((2*t:Nat):Int) 2=numN (((b.drop 8).drop (2*t)).take 2):=p6
   rw [p5,p6',zd0,List.drop_drop]
   rw [List.drop_drop] at p7
   exact zbP ⟨by omega,by omega⟩
  rw [hw]
  by_cases e:i=t
  ·subst e; rw [if_pos rfl,if_pos (by omega)]
  ·rw [if_neg e]
   by_cases e2:i<t
   ·rw [if_pos e2,if_pos (by omega)]
   ·rw [if_neg e2,if_neg (by omega)]
 ·have e:t=16:=by omega
  subst e
  refine ⟨zd0 b,fun i hi=>by rw [if_pos hi],fun i hi=>qbX hb i,fun hn=>hno (fun k=>hn k.2.2.2.2),fun hok=>⟨hb,fun hn=>hno (fun k=>hn (qqJ hb k)),fun h=>?_⟩⟩
  have hN:zgF b:=by
   have:=(zzI hok).1
   rwa [h] at this
  exact ⟨fun i hi=>by rw [if_pos hi,zcE,if_pos hN],(decide_eq_true hN).symm⟩

def zkY:Ctr:=zmJ
theorem zsM:CtrOk zmJ:=zaO fun _=>⟨⟨fun _ _=>⟨rfl,rfl,rfl,trivial⟩,trivial⟩,rfl,trivial⟩
def zxR (b:List Nat):LA:={ T:=Nat,F:=fun i=>frm 72 [(0,octA b),(2,.ptr 1 [] 0),(5,i64 (b.getD 5 0:Nat)),(6,strN (b.drop 8)),(8,.ptr 2 [] 0),(9,i64 (i:Nat))],H:=fun i=>[.fence,.cells 189 (qgN fun _=>seatZ),.cells 189 [.arr 3 7 (fun j=>if j<i then qfQ (za1 b j) else qfQ seatZ)]] }
theorem qaX:(
 let q1:List AV:=[AV.bool false,AV.int .i64 0,AV.int .i64 0];
 let q2:Prop:=true=true/\zaC/\0=0;
 let q3:List AV:=[AV.bool seatZ.live,AV.int .i64 seatZ.gen,AV.int .i64 seatZ.next];
 let q4:Prop:=(189:TypeId)=189; ∀(x:List Nat),
 let q5:Prop:=Exx Unit fun y=>((((3=3/\7=7/\(∀(i:Nat),i<7->q1=[AV.bool (zaW x i).live,AV.int .i64 (zaW x i).gen,AV.int .i64 (zaW x i).next])/\True)/\false=decide (zdB x)/\True)/\True)/\true=true/\True)/\True;
 let q7:Prop:=1=1/\x.length=x.length/\∀(i:Nat),
 let q6:List AV:=[AV.int .u8 (↑(x.getD i 0):Int)]; i<x.length->q6=q6;
 let q8:Int:=(↑(x.getD 5 0):Int); Oct x->Exx (List Nat) fun x_1=>(((x.length=x_1.length/\∀(i:Nat),i<x_1.length->[AV.int .u8 (↑(x.getD i 0):Int)]=[AV.int .u8 (↑(x_1.getD i 0):Int)])/\True)/\true=true/\True)/\Oct x_1/\∀(y:Unit),True->BC (!decide (zb0 x_1)) q5 (BC (!decide ((↑(ze0 x_1):Int)=(2:Int))) q5 (Exx (Nat->Prop) fun I=>Exx (Nat->Nat) fun m=>(Exx Nat fun t=>I t/\(q7/\Tr 1 (q2/\Tr 2 (Tr 1 ((↑(tagN x_1):Int)=q8)/\cstr (zbC x_1)=cstr (List.drop 8 x)/\Tr 1 (q2/\Tr 1 (0=(t:Int))/\Tr 62 True))))/\true=true/\(189=(189:TypeId)/\3=3/\7=7/\(∀(i:Nat),i<7->q1=q3)/\True)/\(189=(189:TypeId)/\3=3/\7=7/\(∀(i:Nat),i<7->q1=if i<t then [AV.bool (za1 x i).live,AV.int .i64 (za1 x i).gen,AV.int .i64 (za1 x i).next] else q3)/\True)/\True)/\∀(t:Nat),
 let q9:Int:=8*(t:Int);
 let q10:Prop:=I64 q9;
 let q11:Int:=q9+4;
 let q12:Prop:=I64 q11;
 let q13:Prop:=(0:Int) <= q11;
 let q14:Nat:=q9.toNat;
 let q15:Nat:=q11.toNat;
 let q16:Int:=q9+8;
 let q17:Nat:=q16.toNat;
 let q18:Int:=(t:Int)+1; I t->BC (decide ((t:Int)<(7:Int))) ((0:Int) <= (t:Int)/\∀(n:Int),n=IntKind.i64.wrap (1*2 ^ min (t:Int).toNat IntKind.i64.bits)->n≠(0:Int)/\I64 (q8.tdiv n)/\2≠(0:Int)/\∀(n_1:Int),n_1=(q8.tdiv n).tmod 2->q10/\q10/\q12/\q13/\(0:Int) <= q9/\(q14 <= q15/\q15 <= (cstr (List.drop 8 x)).length)/\q10/\q12/\q10/\I64 q16/\(0:Int) <= q16/\q13/\(q15 <= q17/\q17 <= (cstr (List.drop 8 x)).length)/\Exx (List Nat) fun x_2=>((List.drop q14 (List.take q15 (cstr (List.drop 8 x)))=cstr x_2/\True)/\true=true/\True)/\Oct x_2/\∀(y:Unit),True->Exx (List Nat) fun x_3 =>
 let q19:List AV:=[AV.bool (decide (n_1=(1:Int))),AV.int .i64 (IntKind.i64.wrap (↑(za8 x_2):Int)),AV.int .i64 (IntKind.i64.wrap (↑(za8 x_3):Int))]; ((List.drop q15 (List.take q17 (cstr (List.drop 8 x)))=cstr x_3/\True)/\true=true/\True)/\Oct x_3/\∀(y:Unit),True->((0:Int) <= (t:Int)/\(t:Int)<(↑(7:Nat):Int))/\(t:Int).toNat<7/\I64 q18/\Exx Nat fun t'=>(I t'/\m t'<m t)/\(q7/\Tr 1 (q2/\Tr 2 (Tr 1 (q8=q8)/\cstr (List.drop 8 x)=cstr (List.drop 8 x)/\Tr 1 (q2/\Tr 1 (q18=(↑t':Int))/\Tr 62 True))))/\true=true/\(q4/\3=3/\7=7/\(∀(i:Nat),i<7->q3=q3)/\True)/\(q4/\3=3/\7=7/\(∀(i:Nat),
 let q20:List AV:=[AV.bool (za1 x i).live,AV.int .i64 (za1 x i).gen,AV.int .i64 (za1 x i).next];
 let q21:List AV:=if i<t then q20 else q3; i<7->zq4 i (t:Int).toNat q19 q21 (zoS i (t:Int).toNat q19 q21)=if i<t' then q20 else q3)/\True)/\True) (Exx (Nat->SeatT) fun x_2=>(((3=3/\7=7/\(∀(i:Nat),i<7->(if i<t then [AV.bool (za1 x i).live,AV.int .i64 (za1 x i).gen,AV.int .i64 (za1 x i).next] else q3)=[AV.bool (x_2 i).live,AV.int .i64 (x_2 i).gen,AV.int .i64 (x_2 i).next])/\True)/\True)/\true=true/\True)/\(∀(i:Nat),i<7->zdE (x_2 i))/\∀(y:Unit),True->BC (!decide (zdR x_2)) q5 (Exx (List Nat) fun m=>(x.length=m.length/\∀(i:Nat),i<m.length->[AV.int .u8 (↑(x.getD i 0):Int)]=[AV.int .u8 (↑(m.getD i 0):Int)])/\(∀(c:Nat),c∈m->c<256)/\BC (!decide (cstr (zaU x_2)=cstr m)) q5 (Exx Unit fun y=>((((3=3/\7=7/\(∀(i:Nat),i<7->(if i<t then [AV.bool (za1 x i).live,AV.int .i64 (za1 x i).gen,AV.int .i64 (za1 x i).next] else q3)=[AV.bool (zaW x i).live,AV.int .i64 (zaW x i).gen,AV.int .i64 (zaW x i).next])/\True)/\true=decide (zdB x)/\True)/\True)/\true=true/\True)/\True))))))=(fnVC tb [(174,zaA zl0),(175,zaA zqM),(177,zaA zu2)] Tryz.f139 zkY (fun x=>{ loops:=[(6,zxR x)],loose:=[(8,[2])] }) (fun _=>none)):=by kernel_rfl

theorem zu4:SpecOk Tryz.prog 139 (zaA zkY):=by
 refine zaK zaM zaL (SPok.cons znF (SPok.cons zqL (SPok.cons qf5 SPok.nil))) Tryz.func139 (by decide) zsM (Eq.mp qaX ?_)
 simp (maxSteps:=10000000) only [std,stdU,stdV,Exx,I64,Nat.reduceMul,Nat.reduceDiv,Nat.reduceAdd,Int.reduceToNat]
 rintro b ⟨hb,hl⟩
 have hno:¬zdB b->((∀i,i<7->[AV.bool false,AV.int IntKind.i64 0,AV.int IntKind.i64 0]=[AV.bool (zaW b i).live,AV.int IntKind.i64 (zaW b i).gen,AV.int IntKind.i64 (zaW b i).next])/\false=decide (zdB b)):=fun h =>
  ⟨fun i _=>by rw [zaW,if_neg h]; rfl,(decide_eq_false h).symm⟩
 refine ⟨⟨hb,hl⟩,fun h=>hno (fun k=>h k.1),fun hr=>⟨fun h=>hno (fun k=>h (by rw [ze0,if_pos hr,k.2.1]; rfl)),fun hk=>?_⟩⟩
 have h64:=hr.1
 have hB:zbC b=b.drop 8:=if_pos hr
 have hT:tagN b=b.getD 5 0:=if_pos hr
 have g5:b.getD 5 0<256:=getD_mem (p:=fun c=>c<256) hb (by decide) 5
 have hlen:(b.drop 8).length=56:=by rw [List.length_drop]; omega
 have hbd:∀c∈b.drop 8,c<256:=fun x hx=>hb x (List.mem_of_mem_drop hx)
 have ho:∀m n,Oct (((b.drop 8).take m).drop n):=fun m n=>⟨fun x hx=>hbd x (List.mem_of_mem_take (List.mem_of_mem_drop hx)),by rw [List.length_drop,List.length_take]; omega⟩
 refine ⟨fun t=>t <= 7,⟨0,by omega,hT,hB,rfl,fun i _=>rfl,fun i _=>rfl⟩,fun t=>7-t,fun t ht=>⟨fun hlt=>?_,fun hge=>?_⟩⟩
 ·have ht7:t<7:=by omega
  have e1:(8*(t:Int)).toNat=8*t:=by omega
  have e2:(8*(t:Int)+4).toNat=8*t+4:=by omega
  have e3:(8*(t:Int)+8).toNat=8*t+4+4:=by omega
  have e4:((b.getD 5 0:Nat):Int).tdiv ((2 ^ t:Nat):Int)=((b.getD 5 0 / 2 ^ t:Nat):Int):=rfl
  have e5:((b.getD 5 0 / 2 ^ t:Nat):Int).tmod 2=((b.getD 5 0 / 2 ^ t % 2:Nat):Int):=rfl
  have hpos:0<2 ^ t:=Nat.pow_pos (by decide)
  have hdl:b.getD 5 0 / 2 ^ t <= b.getD 5 0:=Nat.div_le_self _ _
  have hw1:IntKind.i64.wrap ((za8 (((b.drop 8).take (8*t+4)).drop (8*t)):Nat):Int)=(za1 b t).gen:=by
   have p5:za8 (((b.drop 8).take (8*t+4)).drop (8*t))=getN (b.drop 8) ((8*t:Nat):Int) 4:=zfA (a:=8*t) (n:=4) (by omega) (by omega) (by omega)
   have p6:getN (b.drop 8) ((8*t:Nat):Int) 4=numN (((b.drop 8).drop (8*t)).take 4):=zeM (l:=b.drop 8) (a:=8*t) (n:=4) (by omega) (by omega) (by omega)
   have p7:=zl7 (l:=b.drop 8) (a:=8*t) (n:=4) hbd (by omega)
   rw [p5,p6,za1,List.drop_drop]
   rw [List.drop_drop] at p7
   exact zbP ⟨by omega,by omega⟩
  have hw2:IntKind.i64.wrap ((za8 (((b.drop 8).take (8*t+4+4)).drop (8*t+4)):Nat):Int)=(za1 b t).next:=by
   have p5:za8 (((b.drop 8).take (8*t+4+4)).drop (8*t+4))=getN (b.drop 8) ((8*t+4:Nat):Int) 4:=zfA (a:=8*t+4) (n:=4) (by omega) (by omega) (by omega)
   have p6:getN (b.drop 8) ((8*t+4:Nat):Int) 4=numN (((b.drop 8).drop (8*t+4)).take 4):=zeM (l:=b.drop 8) (a:=8*t+4) (n:=4) (by omega) (by omega) (by omega)
   have p7:=zl7 (l:=b.drop 8) (a:=8*t+4) (n:=4) hbd (by omega)
   rw [p5,p6,za1,List.drop_drop,show 8+(8*t+4)=12+8*t by omega]
   rw [List.drop_drop,show 8+(8*t+4)=12+8*t by omega] at p7
   exact zbP ⟨by omega,by omega⟩
  have hw3:decide (((b.getD 5 0 / 2 ^ t % 2:Nat):Int)=1)=(za1 b t).live:=by
   rw [Bool.eq_iff_iff,decide_eq_true_iff,za1,beq_iff_eq]; omega
  rw [shl7 ht7,e1,e2,e3,e4,e5,hw1,hw2,hw3]
  have hq:∀q:Nat,q <= b.getD 5 0->-9223372036854775808 <= (q:Int)/\(q:Int) <= 9223372036854775807:=fun q hq=>⟨by omega,by omega⟩
  have hq:=hq _ hdl
  refine ⟨by omega,by omega,hq.1,hq.2,by omega,by omega,by omega,by omega,by omega,by omega,by omega,by omega,by omega,by omega,by omega,by omega,by omega,by omega,by omega,by omega,by omega,by omega,by omega,by omega,by omega,by omega,by omega,ho _ _,ho _ _,by omega,by omega,by omega,by omega,by omega,t+1,by omega,by simp only; omega,by omega,fun i hi=>?_⟩
  by_cases e:i=t
  ·subst e; rw [if_pos rfl,if_pos (by omega)]
  ·rw [if_neg e]
   by_cases e2:i<t
   ·rw [if_pos e2,if_pos (by omega)]
   ·rw [if_neg e2,if_neg (by omega)]
 ·have e:t=7:=by omega
  subst e
  refine ⟨za1 b,fun i hi=>by rw [if_pos hi],fun i hi=>zuW hb i,fun hn=>hno (fun k=>hn k.2.2.2),fun hok=>⟨hb,fun hn=>hno (fun k=>hn (qk4 hb k)),fun h=>?_⟩⟩
  have hN:zdB b:=by
   have:=(ztS hok).1
   rwa [h] at this
  exact ⟨fun i hi=>by rw [if_pos hi,zaW,if_pos hN],(decide_eq_true hN).symm⟩

end Yard
