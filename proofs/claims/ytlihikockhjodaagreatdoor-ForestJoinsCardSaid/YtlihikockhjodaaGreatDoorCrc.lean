import Derived.Test.YtlihikockhjodaaGreatDoorSxZ
import Derived.Test.YtlihikockhjodaaGreatDoorRef01

namespace Yard

def zhV (n:Nat):Nat:=if n % 2=1 then (n / 2) ^^^ 2197175160 else n / 2
def stepsN:Nat->Nat->Nat
 | 0,n=>n
 | k+1,n=>zhV (stepsN k n)

theorem qiQ (a b:Nat):zhV (a ^^^ b)=zhV a ^^^ zhV b:=by
 have h1:(a ^^^ b) / 2=a / 2 ^^^ b / 2:=by
  have:=Nat.shiftRight_xor_distrib (a:=a) (b:=b) (i:=1)
  simpa [Nat.shiftRight_succ] using this
 have h2:(a ^^^ b) % 2=(a % 2+b % 2) % 2:=by
  have h3:∀n:Nat,n % 2=(n.testBit 0).toNat:=fun n=>by
   rw [Nat.testBit_zero]
   rcases Nat.mod_two_eq_zero_or_one n with h | h <;> simp [h]
  rw [h3,h3 a,h3 b,Nat.testBit_xor]
  cases a.testBit 0 <;> cases b.testBit 0 <;> rfl
 unfold zhV
 rcases Nat.mod_two_eq_zero_or_one a with ha | ha <;> rcases Nat.mod_two_eq_zero_or_one b with hb | hb <;> simp only [h1,h2,ha,hb] <;> simp
 ·rw [Nat.xor_assoc]
 ·rw [Nat.xor_assoc,Nat.xor_assoc,Nat.xor_comm (b / 2)]
 ·rw [Nat.xor_assoc,Nat.xor_comm 2197175160 (b / 2 ^^^ 2197175160),Nat.xor_assoc,Nat.xor_self,Nat.xor_zero]

theorem zs2:∀(k a b:Nat),stepsN k (a ^^^ b)=stepsN k a ^^^ stepsN k b
 | 0,_,_=>rfl
 | k+1,a,b=>by rw [stepsN,zs2 k,qiQ]; rfl
theorem zs4:∀(j k n:Nat),stepsN (j+k) n=stepsN j (stepsN k n)
 | 0,k,n=>by rw [Nat.zero_add]; rfl
 | j+1,k,n=>by rw [Nat.add_right_comm,stepsN,zs4 j]; rfl
theorem zs3 (n:Nat):∀k,stepsN k (2 ^ k*n)=n
 | 0=>by simp [stepsN]
 | k+1=>by
   rw [Nat.pow_succ,Nat.mul_assoc,stepsN,zs3 (2*n) k,zhV,if_neg (by omega)]
   omega
theorem qoH {n:Nat} (h:n<4294967296):zhV n<4294967296:=by
 unfold zhV
 split
 ·exact Nat.xor_lt_two_pow (n:=32) (by omega) (by omega)
 ·omega
theorem ziL {n:Nat} (h:n<4294967296):∀k,stepsN k n<4294967296
 | 0=>h
 | k+1=>qoH (ziL h k)
def numN:List Nat->Nat
 | []=>0
 | c :: r=>c+256*numN r

def bitN (x:Nat) (l:List Nat):Nat:=l.foldl (fun x c=>stepsN 8 (x ^^^ c)) x
def halfN (f:Nat->Nat) (x:Nat):Nat:=(x / 16) ^^^ f (x % 16)
theorem ztZ (x:Nat):halfN (stepsN 4) x=stepsN 4 x:=by
 have e:x=(16*(x / 16)) ^^^ (x % 16):=by
  apply Nat.eq_of_testBit_eq
  intro i
  rw [Nat.testBit_xor]
  have e1:16*(x / 16)=2 ^ 4*(x / 2 ^ 4):=rfl
  have e2:x % 16=x % 2 ^ 4:=rfl
  rw [e1,e2,Nat.testBit_two_pow_mul,Nat.testBit_mod_two_pow,Nat.testBit_div_two_pow]
  by_cases h:4 <= i
  ·rw [decide_eq_true h,decide_eq_false (by omega:¬i<4),Nat.sub_add_cancel h]; simp
  ·rw [decide_eq_false h,decide_eq_true (by omega:i<4)]; simp
 conv=>rhs; rw [e,zs2,show (16:Nat)=2 ^ 4 from rfl,zs3]
 rfl

end Yard


namespace Yard
open Go Go.Sx

def layN:Nat->Nat->List Nat
 | _,0=>[]
 | v,n+1=>v % 256 :: layN (v / 256) n
theorem zaE:∀(n v:Nat),(layN v n).length=n
 | 0,_=>rfl
 | n+1,v=>by simp [layN,zaE n]
theorem zmD:∀(n v i:Nat),i<n->(layN v n).getD i 0=v / 256 ^ i % 256
 | 0,_,i,h=>absurd h (Nat.not_lt_zero _)
 | n+1,v,0,_=>by simp [layN]
 | n+1,v,i+1,h=>by
   simp only [layN,List.getD_cons_succ]
   rw [zmD n (v / 256) i (by omega),Nat.pow_succ,Nat.div_div_eq_div_mul,Nat.mul_comm]
theorem zgY:∀(n v:Nat),∀c∈layN v n,c<256
 | 0,_,c,h=>by cases h
 | n+1,v,c,h=>by
   rcases List.mem_cons.1 h with rfl | h
   ·exact Nat.mod_lt _ (by decide)
   ·exact zgY n _ c h
theorem ze7:∀(n v:Nat),v<256 ^ n->numN (layN v n)=v
 | 0,v,h=>by have:v=0:=by simpa using h
             subst this; rfl
 | n+1,v,h=>by
   rw [layN,numN,ze7 n (v / 256) (by rw [Nat.pow_succ] at h; exact Nat.div_lt_of_lt_mul (by omega))]
   omega
theorem zk5:∀(l:List Nat),(∀c∈l,c<256)->numN l<256 ^ l.length
 | [],_=>by simp [numN]
 | c :: r,h=>by
   have h1:=h c List.mem_cons_self
   have h2:=zk5 r fun c hc=>h c (List.mem_cons_of_mem _ hc)
   rw [List.length_cons,Nat.pow_succ,numN]; omega
theorem zvT:∀(l:List Nat),(∀c∈l,c<256)->layN (numN l) l.length=l
 | [],_=>rfl
 | c :: r,h=>by
   have h1:=h c List.mem_cons_self
   have h2:=zvT r fun c hc=>h c (List.mem_cons_of_mem _ hc)
   rw [List.length_cons,layN,numN,show (c+256*numN r) % 256=c by omega,show (c+256*numN r) / 256=numN r by omega,h2]
theorem zyB:∀(l:List Nat) (c:Nat),numN (l++[c])=numN l+256 ^ l.length*c
 | [],c=>by simp [numN]
 | a :: r,c=>by
   rw [List.cons_append,numN,zyB r c,numN,List.length_cons,Nat.pow_succ,Nat.mul_add,Nat.add_assoc]
   congr 2
   rw [<- Nat.mul_assoc,Nat.mul_comm 256]

def layL (v:Nat) (n:Int):List Nat:=if 0 <= n/\n <= 8 then layN v n.toNat else []
def za8 (l:List Nat):Nat:=numN (l.take 8)
def hasB (len:Nat) (at_ n:Int):Prop:=0 <= at_/\0 <= n/\at_+n <= (len:Int)
instance (len:Nat) (at_ n:Int):Decidable (hasB len at_ n):=by unfold hasB; infer_instance
def cut (l:List Nat) (at_ n:Int):List Nat:=(l.drop at_.toNat).take n.toNat
def zrJ (len:Nat) (at_ n:Int):Prop:=1 <= n/\n <= 8/\hasB len at_ n
instance (len:Nat) (at_ n:Int):Decidable (zrJ len at_ n):=by unfold zrJ; infer_instance
def getN (l:List Nat) (at_ n:Int):Nat:=if zrJ l.length at_ n then numN (cut l at_ n) else 0
def zdP (l:List Nat) (at_ n:Int):Bool:=decide (hasB l.length at_ n)&&(cut l at_ n).all (fun c=>decide (c=0))
def zbZ (l:List Nat):List Nat:=(List.range (l.length / 8)).map fun i=>numN ((l.drop (8*i)).take 8)
def zaD (ws:List Nat):List Nat:=ws.flatMap fun w=>layN w 8

theorem zbW:∀(ws:List Nat),(zaD ws).length=8*ws.length
 | []=>rfl
 | w :: r=>by
   have:=zbW r
   simp only [zaD,List.flatMap_cons,List.length_append,zaE,List.length_cons] at *
   omega
theorem zj4:∀(ws:List Nat),∀c∈zaD ws,c<256
 | [],c,h=>by cases h
 | w :: r,c,h=>by
   simp only [zaD,List.flatMap_cons,List.mem_append] at h
   rcases h with h | h
   ·exact zgY _ _ c h
   ·exact zj4 r c h
theorem zyA (ws:List Nat) (w:Nat):zaD (ws++[w])=zaD ws++layN w 8:=by simp [zaD]

end Yard


namespace Yard
open Go Go.Sx Go.Proofs
set_option linter.unusedVariables false
set_option linter.unusedSimpArgs false
set_option maxRecDepth 4000

def U64 (n:Nat):Prop:=n<18446744073709551616
abbrev octA (l:List Nat):AV:=qgK .u8 l
def Oct (l:List Nat):Prop:=(∀x∈l,x<256)/\l.length <= 100000000
def layC:Ctr:=rowC (Nat×Int) (fun x=>U64 x.1/\I64 x.2) (fun x=>[u64 x.1,i64 x.2]) 5 .u8 (fun x=>layL x.1 x.2) (fun _ r=>r)
def qa3:Ctr:=zbN (List Nat) Oct (fun l=>[octA l]) (fun l=>u64 (za8 l))
def qdE:Ctr:=zbN (List Nat×Int×Int) (fun x=>Oct x.1/\I64 x.2.1/\I64 x.2.2) (fun x=>[octA x.1,i64 x.2.1,i64 x.2.2]) (fun x => .bool (decide (hasB x.1.length x.2.1 x.2.2)))
def getC:Ctr:=zbN (List Nat×Int×Int) (fun x=>Oct x.1/\I64 x.2.1/\I64 x.2.2) (fun x=>[octA x.1,i64 x.2.1,i64 x.2.2]) (fun x => .tup [u64 (getN x.1 x.2.1 x.2.2),.bool (decide (zrJ x.1.length x.2.1 x.2.2))])
def zmA:Ctr:=zbN (List Nat×Int×Int) (fun x=>Oct x.1/\I64 x.2.1/\I64 x.2.2) (fun x=>[octA x.1,i64 x.2.1,i64 x.2.2]) (fun x => .bool (zdP x.1 x.2.1 x.2.2))
def qhU:Ctr:=rowC (List Nat) Oct (fun l=>[octA l]) 111 .u64 zbZ (fun _ r=>r)
def zq0:Ctr:=rowC (List Nat) (fun l=>(∀w∈l,U64 w)/\l.length <= 1000000) (fun l=>[qgK .u64 l]) 5 .u8 zaD (fun _ r=>r)

def layF (v i:Nat):Nat->List AV:=fun j=>[.int .u8 ((if j<i then v / 256 ^ j % 256 else 0:Nat):Int)]
def layLA (x:Nat×Int):LA:={ T:=Nat,F:=fun i=>frm 29 [(0,u64 (x.1 / 256 ^ i)),(5,.sl 1 [] 0 1 0 x.2.toNat x.2.toNat),(16,i64 x.2),(17,i64 (i:Int))],H:=fun i=>[.fence,.row 5 1 x.2.toNat x.2.toNat (layF x.1 i)] }

theorem qhT (n:Nat):IntKind.u8.wrap (n:Int)=((n % 256:Nat):Int):=by
 unfold IntKind.wrap
 simp only [IntKind.signed,Bool.false_and,Bool.false_eq_true,if_false]
 rfl
theorem zoG {n:Nat} (h:U64 n):IntKind.u64.wrap (n:Int)=n:=zfK (k := .u64) rfl h
theorem shr8 (n:Nat):((n:Nat):Int).fdiv (2 ^ min 8 IntKind.u64.bits)=((n / 256:Nat):Int):=zuR (i:=8) (n:=IntKind.u64.bits) (by decide)
theorem znV {v:Nat} {n:Int} (h:0 <= n/\n <= 8):layL v n=layN v n.toNat:=if_pos h
theorem qd7 {v:Nat} {n:Int} (h:¬(0 <= n/\n <= 8)):layL v n=[]:=if_neg h

theorem layV:(
 let q1:Prop:=(5:TypeId)=5; ∀(x:Nat×Int),
 let q2:Prop:=(layL x.1 x.2).length=0;
 let q3:Prop:=Exx Nat fun y=>(((q2/\y=0)/\True)/\true=true/\(y=0/\q2)/\True)/\(layL x.1 x.2).length <= y;
 let q4:Prop:=true=true/\zaC/\0=0/\1=1/\0=0/\x.2.toNat=x.2.toNat/\x.2.toNat=x.2.toNat; U64 x.1/\I64 x.2->BC (decide (x.2<(0:Int))) q3 (BC (decide ((8:Int)<x.2)) q3 (((0:Int) <= x.2/\x.2 <= x.2/\(↑(1:Nat):Int)*x.2 <= (281474976710656:Int)/\x.2 <= (9223372036854775807:Int))/\Exx (Nat->Prop) fun I=>Exx (Nat->Nat) fun m=>(Exx Nat fun t=>I t/\(Tr 1 ((x.1:Int)=(↑(x.1 / 256 ^ t):Int))/\Tr 4 (q4/\Tr 10 (Tr 1 ((x.2.toNat:Int)=x.2)/\Tr 1 (0=(t:Int))/\Tr 11 True)))/\true=true/\(q1/\1=1/\x.2.toNat=x.2.toNat/\x.2.toNat <= x.2.toNat/\∀(i:Nat),i<x.2.toNat->[AV.int .u8 0]=[AV.int .u8 (↑(if i<t then x.1 / 256 ^ i % 256 else 0):Int)])/\True)/\∀(t:Nat),
 let q5:Int:=(↑(x.1 / 256 ^ t):Int);
 let q6:Nat:=0+(t:Int).toNat;
 let q7:Int:=(t:Int)+1; I t->BC (decide ((t:Int)<x.2)) (∀(m_1:Int),m_1=IntKind.u8.wrap q5->((0:Int) <= (t:Int)/\(t:Int)<(x.2.toNat:Int))/\q6<x.2.toNat/\x.2.toNat=x.2.toNat/\(0:Int) <= (8:Int)/\∀(n:Int),n=q5.fdiv (2 ^ min (Int.toNat 8) IntKind.u64.bits)->I64 q7/\Exx Nat fun t'=>(I t'/\m t'<m t)/\(Tr 1 (n=(↑(x.1 / 256 ^ t'):Int))/\Tr 4 (q4/\Tr 10 (Tr 1 (x.2=x.2)/\Tr 1 (q7=(↑t':Int))/\Tr 11 True)))/\true=true/\(q1/\1=1/\x.2.toNat=x.2.toNat/\x.2.toNat <= x.2.toNat/\∀(i:Nat),
 let q8:Nat:=x.1 / 256 ^ i % 256; i<x.2.toNat->[AV.int .u8 (if i=q6 then m_1 else (↑(if i<t then q8 else 0):Int))]=[AV.int .u8 (↑(if i<t' then q8 else 0):Int)])/\True) (Exx Nat fun y=>(((true=true/\zaC/\0=0/\1=1/\0=0/\x.2.toNat=(layL x.1 x.2).length/\x.2.toNat=y)/\True)/\true=true/\(q1/\1=1/\x.2.toNat=y/\(layL x.1 x.2).length <= x.2.toNat/\∀(i:Nat),i<(layL x.1 x.2).length->[AV.int .u8 (↑(if i<t then x.1 / 256 ^ i % 256 else 0):Int)]=[AV.int .u8 (↑((layL x.1 x.2).getD i 0):Int)])/\True)/\(layL x.1 x.2).length <= y))))=(fnVC tb [] Tryz.f129 layC (fun x=>{ loops:=[(5,layLA x)] }) (fun _=>none)):=by kernel_rfl

theorem zyM:SpecOk Tryz.prog 129 (zaA layC):=by
 refine zaK zaM zaL SPok.nil Tryz.func129 (by decide) (zgW fun _ _ _=>rfl) (Eq.mp layV ?_)
 simp (maxSteps:=10000000) only [std,stdU,stdV,Exx,I64,Nat.reduceMul,Nat.reduceDiv,Nat.reduceAdd,Int.reduceToNat]
 rintro v n ⟨hv,h1,h2⟩
 refine ⟨fun h=>by rw [qd7 (by omega)]; simp,fun h=>⟨fun h'=>by rw [qd7 (by omega)]; simp,fun h'=>?_⟩⟩
 rw [znV (by omega),zaE]
 refine ⟨by omega,by omega,by omega,by omega,fun i=>i <= n.toNat,⟨0,by omega,by simp,by omega,rfl,fun i _=>by simp⟩,fun i=>n.toNat-i,fun i hi=>⟨fun hlt=>?_,fun hlt=>?_⟩⟩
 ·rw [shr8,qhT]
  refine ⟨by omega,by omega,by omega,by omega,by omega,by omega,i+1,by omega,by simp only; omega,by rw [Nat.pow_succ,Nat.div_div_eq_div_mul],by omega,fun j hj=>?_⟩
  by_cases e:j=i
  ·subst e; rw [if_pos rfl,if_pos (by omega)]
  ·rw [if_neg e]
   by_cases e2:j<i
   ·rw [if_pos e2,if_pos (by omega)]
   ·rw [if_neg e2,if_neg (by omega)]
 ·refine ⟨rfl,by omega,fun j hj=>?_,by omega⟩
  rw [if_pos (by omega),zmD _ _ _ hj]

def readLA (l:List Nat):LA:={ T:=Nat,F:=fun i=>frm 26 [(3,u64 (numN (l.take i))),(10,.ro 1 (min l.length 8) (fun i=>[.int .u8 ((l.getD i 0:Nat):Int)])),(11,i64 (min l.length 8:Nat)),(12,i64 (i:Int))],H:=fun _=>[.fence] }

theorem num_or {l:List Nat} {i:Nat} (hl:∀c∈l,c<256) (hi:i<l.length) (h8:i<8):bits BinOp.or IntKind.u64 ((numN (l.take i):Nat):Int) (IntKind.u64.wrap (IntKind.u64.wrap ((l.getD i 0:Nat):Int)*2 ^ min (8*(i:Int)).toNat IntKind.u64.bits))=((numN (l.take (i+1)):Nat):Int):=by
 have hc:l.getD i 0<256:=getD_mem (p:=fun c=>c<256) hl (by decide) i
 have h1:=zk5 (l.take i) fun c hc=>hl c (List.mem_of_mem_take hc)
 have hlen:(l.take i).length=i:=by simp; omega
 rw [hlen] at h1
 have h256:(256:Nat) ^ i=2 ^ (8*i):=by rw [Nat.pow_mul]
 have hpow:(2:Nat) ^ (8*i)*256 <= 18446744073709551616:=by
  have:=Nat.pow_le_pow_right (n:=2) (by decide) (show 8*i+8 <= 64 by omega)
  rw [Nat.pow_add] at this; simpa using this
 have hb:l.getD i 0*2 ^ (8*i)<2 ^ IntKind.u64.bits:=by
  have:(l.getD i 0+1)*2 ^ (8*i) <= 256*2 ^ (8*i):=Nat.mul_le_mul_right _ hc
  have hp:0<2 ^ (8*i):=Nat.pos_of_ne_zero (by simp)
  rw [Nat.add_mul,Nat.one_mul] at this
  show _<18446744073709551616
  omega
 rw [zoG (show l.getD i 0<_ by omega),show (8*(i:Int)).toNat=8*i by omega,qiX (k := .u64) rfl (n:=IntKind.u64.bits) (show 8*i <= 64 by omega) hb]
 have h2:numN (l.take i)<2 ^ IntKind.u64.bits:=by
  rw [h256] at h1
  have:(2:Nat) ^ (8*i) <= 18446744073709551616:=by omega
  exact Nat.lt_of_lt_of_le h1 this
 rw [qmR (k := .u64) rfl h2 hb,znL (by rw [<- h256]; exact h1),zc4 0 hi,zyB,hlen,h256,Nat.mul_comm]

theorem readV:(∀(x:List Nat),
 let q1:Int:=min (x.length:Int) 8;
 let q2:Nat:=q1.toNat;
 let q3:Nat:=q2-0;
 let q4:Int:=(↑(min x.length 8):Int); Oct x->(0:Int) <= q1/\(0 <= q2/\q2 <= x.length)/\Exx (Nat->Prop) fun I=>Exx (Nat->Nat) fun m=>(Exx Nat fun t=>I t/\Tr 3 (Tr 1 (0=(↑(numN (List.take t x)):Int))/\Tr 6 ((1=1/\q3=min x.length 8/\∀(i:Nat),i<q3->[AV.int .u8 (↑(x.getD (0+i) 0):Int)]=[AV.int .u8 (↑(x.getD i 0):Int)])/\Tr 1 ((q3:Int)=q4)/\Tr 1 (0=(t:Int))/\Tr 13 True))/\true=true/\True)/\∀(t:Nat),
 let q5:Int:=8*(t:Int);
 let q6:Int:=(t:Int)+1; I t->BC (decide ((t:Int)<q4)) (((0:Int) <= (t:Int)/\(t:Int)<q4)/\∀(m_1:Int),m_1=IntKind.u64.wrap (↑(x.getD (t:Int).toNat 0):Int)->I64 q5/\(0:Int) <= q5/\∀(n:Int),n=IntKind.u64.wrap (m_1*2 ^ min q5.toNat IntKind.u64.bits)->∀(n_1:Int),n_1=bits BinOp.or IntKind.u64 (↑(numN (List.take t x)):Int) n->I64 q6/\Exx Nat fun t'=>(I t'/\m t'<m t)/\Tr 3 (Tr 1 (n_1=(↑(numN (List.take t' x)):Int))/\Tr 6 ((1=1/\min x.length 8=min x.length 8/\∀(i:Nat),
 let q7:List AV:=[AV.int .u8 (↑(x.getD i 0):Int)]; i<min x.length 8->q7=q7)/\Tr 1 (q4=q4)/\Tr 1 (q6=(↑t':Int))/\Tr 13 True))/\true=true/\True) (Exx Unit fun y=>((Tr 1 ((↑(numN (List.take t x)):Int)=(↑(za8 x):Int))/\True)/\true=true/\True)/\True))=(fnVC tb [] Tryz.f157 qa3 (fun x=>{ loops:=[(3,readLA x)] }) (fun _=>none)):=by kernel_rfl

theorem zqO:SpecOk Tryz.prog 157 (zaA qa3):=by
 refine zaK zaM zaL SPok.nil Tryz.func157 (by decide) (zaO fun _=>rfl) (Eq.mp readV ?_)
 simp (maxSteps:=10000000) only [std,stdU,stdV,Exx,I64,Nat.reduceMul,Nat.reduceDiv,Nat.reduceAdd,Int.reduceToNat]
 rintro l ⟨hl,hlen⟩
 refine ⟨by omega,by omega,by omega,fun i=>i <= min l.length 8,⟨0,by omega,rfl,by omega,by omega,rfl⟩,fun i=>min l.length 8-i,fun i hi=>⟨fun hlt=>?_,fun hlt=>?_⟩⟩
 ·repeat refine And.intro (by omega) ?_
  exact ⟨i+1,by omega,by simp only; omega,num_or hl (by omega) (by omega),by omega⟩
 ·rw [show i=min l.length 8 by omega,za8]
  congr 1
  by_cases h:l.length <= 8
  ·rw [List.take_of_length_le (by omega),List.take_of_length_le (by omega)]
  ·rw [show min l.length 8=8 by omega]

theorem thereV:(∀(x:List Nat×Int×Int),
 let q1:Int:=(x.1.length:Int)-x.2.2;
 let q2:Bool:=decide (hasB x.1.length x.2.1 x.2.2);
 let q3:Prop:=Exx Unit fun y=>((false=q2/\True)/\true=true/\True)/\True; Oct x.1/\I64 x.2.1/\I64 x.2.2->BC (decide ((0:Int) <= x.2.1)) (BC (decide ((0:Int) <= x.2.2)) (BC (decide (x.2.2 <= (x.1.length:Int))) (I64 q1/\Exx Unit fun y=>((decide (x.2.1 <= q1)=q2/\True)/\true=true/\True)/\True) q3) q3) q3)=(fnVC tb [] Tryz.f165 qdE (fun _=>{}) (fun _=>none)):=by kernel_rfl

theorem qdD:SpecOk Tryz.prog 165 (zaA qdE):=by
 refine zaK zaM zaL SPok.nil Tryz.func165 (by decide) (zaO fun _=>rfl) (Eq.mp thereV ?_)
 simp (maxSteps:=10000000) only [std,stdU,stdV,Exx,I64,Nat.reduceMul,Nat.reduceDiv,Nat.reduceAdd,Int.reduceToNat]
 rintro l a n ⟨hl,h1,h2,h3,h4⟩
 have hlen:=hl.2
 unfold hasB
 refine ⟨fun h=>⟨fun h'=>⟨fun h''=>⟨by omega,by omega,decide_eq_decide.2 (by omega)⟩,fun h''=>?_⟩,fun h'=>?_⟩,fun h=>?_⟩
 all_goals exact (decide_eq_false (by omega)).symm

theorem cut_mem {l:List Nat} {a n:Int} {p:Nat->Prop} (h:∀x∈l,p x):∀x∈cut l a n,p x:=fun x hx=>h x (List.mem_of_mem_drop (List.mem_of_mem_take hx))
theorem zfZ {l:List Nat} {a n:Int} (h:hasB l.length a n):(cut l a n).length=n.toNat:=by
 unfold hasB at h
 simp only [cut,List.length_take,List.length_drop]; omega
theorem zpL {l:List Nat} {a n:Int} {i:Nat} (hi:i<n.toNat):(cut l a n).getD i 0=l.getD (a.toNat+i) 0:=by
 rw [cut,za9,if_pos hi,za4]

theorem getV:(∀(x:List Nat×Int×Int),
 let q1:Int:=(↑(getN x.1 x.2.1 x.2.2):Int);
 let q2:Bool:=decide (zrJ x.1.length x.2.1 x.2.2);
 let q3:Prop:=Exx Unit fun y=>(((Tr 1 ((0:Int)=q1)/\false=q2/\True)/\True)/\true=true/\True)/\True;
 let q4:Int:=x.2.1+x.2.2;
 let q5:Nat:=q4.toNat; Oct x.1/\I64 x.2.1/\I64 x.2.2->BC (decide (x.2.2<(1:Int))) q3 (BC (decide ((8:Int)<x.2.2)) q3 (Exx (List Nat×Int×Int) fun x_1=>(((x.1.length=x_1.1.length/\∀(i:Nat),i<x_1.1.length->[AV.int .u8 (↑(x.1.getD i 0):Int)]=[AV.int .u8 (↑(x_1.1.getD i 0):Int)])/\Tr 1 (x.2.1=x_1.2.1)/\Tr 1 (x.2.2=x_1.2.2)/\True)/\true=true/\True)/\(Oct x_1.1/\I64 x_1.2.1/\I64 x_1.2.2)/\∀(y:Unit),True->BC (!decide (hasB x_1.1.length x_1.2.1 x_1.2.2)) q3 (I64 q4/\(0:Int) <= q4/\(0:Int) <= x.2.1/\(x.2.1.toNat <= q5/\q5 <= x.1.length)/\Exx (List Nat) fun x_2=>(((q5-x.2.1.toNat=x_2.length/\∀(i:Nat),i<x_2.length->[AV.int .u8 (↑(x.1.getD (x.2.1.toNat+i) 0):Int)]=[AV.int .u8 (↑(x_2.getD i 0):Int)])/\True)/\true=true/\True)/\Oct x_2/\∀(y:Unit),True->Exx Unit fun y=>(((Tr 1 ((↑(za8 x_2):Int)=q1)/\true=q2/\True)/\True)/\true=true/\True)/\True))))=(fnVC tb [(157,zaA qa3),(165,zaA qdE)] Tryz.f162 getC (fun _=>{}) (fun _=>none)):=by kernel_rfl

theorem get_ok:SpecOk Tryz.prog 162 (zaA getC):=by
 refine zaK zaM zaL (SPok.cons zqO (SPok.cons qdD SPok.nil)) Tryz.func162 (by decide) (zaO fun _=>⟨rfl,rfl,trivial⟩) (Eq.mp getV ?_)
 simp (maxSteps:=10000000) only [std,stdU,stdV,Exx,I64,Nat.reduceMul,Nat.reduceDiv,Nat.reduceAdd,Int.reduceToNat]
 rintro l a n ⟨hl,h1,h2,h3,h4⟩
 have hno:∀{p:Prop},¬zrJ l.length a n->((0:Int)=((getN l a n:Nat):Int)/\false=decide (zrJ l.length a n)):=fun h=>⟨by rw [getN,if_neg h]; rfl,(decide_eq_false h).symm⟩
 refine ⟨fun h=>hno (p:=True) (by unfold zrJ; omega),fun h=>⟨fun h'=>hno (p:=True) (by unfold zrJ; omega),fun h'=>⟨hl,h1,h2,h3,h4,fun h''=>hno (p:=True) (fun k=>h'' k.2.2),fun h''=>?_⟩⟩⟩
 have hb:=h''
 unfold hasB at hb
 have hok:zrJ l.length a n:=⟨by omega,by omega,h''⟩
 have hlen:=hl.2
 repeat refine And.intro (by omega) ?_
 refine ⟨cut l a n,by rw [zfZ h'']; omega,fun i hi=>by rw [zpL (by rw [zfZ h''] at hi; exact hi)],⟨cut_mem hl.1,by rw [zfZ h'']; omega⟩,?_,(decide_eq_true hok).symm⟩
 rw [getN,if_pos hok,za8,List.take_of_length_le]
 rw [zfZ h'']; omega

def qkK (x:List Nat×Int×Int):LA:={ T:=Nat,F:=fun i=>frm 28 [(19,.ro 1 x.2.2.toNat (fun j=>[.int .u8 ((x.1.getD (x.2.1.toNat+j) 0:Nat):Int)])),(20,i64 x.2.2),(21,i64 (i:Int))],H:=fun _=>[.fence] }

theorem qpU:(∀(x:List Nat×Int×Int),
 let q1:Bool:=zdP x.1 x.2.1 x.2.2;
 let q2:Prop:=Exx Unit fun y=>((false=q1/\True)/\true=true/\True)/\True;
 let q3:Int:=x.2.1+x.2.2;
 let q4:Nat:=q3.toNat;
 let q5:Nat:=q4-x.2.1.toNat; Oct x.1/\I64 x.2.1/\I64 x.2.2->Exx (List Nat×Int×Int) fun x_1=>(((x.1.length=x_1.1.length/\∀(i:Nat),i<x_1.1.length->[AV.int .u8 (↑(x.1.getD i 0):Int)]=[AV.int .u8 (↑(x_1.1.getD i 0):Int)])/\Tr 1 (x.2.1=x_1.2.1)/\Tr 1 (x.2.2=x_1.2.2)/\True)/\true=true/\True)/\(Oct x_1.1/\I64 x_1.2.1/\I64 x_1.2.2)/\∀(y:Unit),True->BC (!decide (hasB x_1.1.length x_1.2.1 x_1.2.2)) q2 (I64 q3/\(0:Int) <= q3/\(0:Int) <= x.2.1/\(x.2.1.toNat <= q4/\q4 <= x.1.length)/\Exx (Nat->Prop) fun I=>Exx (Nat->Nat) fun m=>(Exx Nat fun t=>I t/\Tr 19 ((1=1/\q5=x.2.2.toNat/\∀(i:Nat),
 let q6:List AV:=[AV.int .u8 (↑(x.1.getD (x.2.1.toNat+i) 0):Int)]; i<q5->q6=q6)/\Tr 1 ((q5:Int)=x.2.2)/\Tr 1 (0=(t:Int))/\Tr 6 True)/\true=true/\True)/\∀(t:Nat),
 let q7:Int:=(↑(x.1.getD (x.2.1.toNat+(t:Int).toNat) 0):Int);
 let q8:Int:=(t:Int)+1; I t->BC (decide ((t:Int)<x.2.2)) (((0:Int) <= (t:Int)/\(t:Int)<(x.2.2.toNat:Int))/\BC (!decide (q7=(0:Int))) q2 (I64 q8/\Exx Nat fun t'=>(I t'/\m t'<m t)/\Tr 19 ((1=1/\x.2.2.toNat=x.2.2.toNat/\∀(i:Nat),
 let q9:List AV:=[AV.int .u8 (↑(x.1.getD (x.2.1.toNat+i) 0):Int)]; i<x.2.2.toNat->q9=q9)/\Tr 1 (x.2.2=x.2.2)/\Tr 1 (q8=(↑t':Int))/\Tr 6 True)/\true=true/\True)) (Exx Unit fun y=>((true=q1/\True)/\true=true/\True)/\True)))=(fnVC tb [(165,zaA qdE)] Tryz.f124 zmA (fun x=>{ loops:=[(4,qkK x)] }) (fun _=>none)):=by kernel_rfl

theorem znP:SpecOk Tryz.prog 124 (zaA zmA):=by
 refine zaK zaM zaL (SPok.cons qdD SPok.nil) Tryz.func124 (by decide) (zaO fun _=>rfl) (Eq.mp qpU ?_)
 simp (maxSteps:=10000000) only [std,stdU,stdV,Exx,I64,Nat.reduceMul,Nat.reduceDiv,Nat.reduceAdd,Int.reduceToNat]
 rintro l a n ⟨hl,h1,h2,h3,h4⟩
 refine ⟨hl,h1,h2,h3,h4,fun h=>by rw [zdP,decide_eq_false h]; rfl,fun h=>?_⟩
 have hb:=h
 unfold hasB at hb
 have hlen:=hl.2
 have hc:=zfZ h
 have hn:zdP l a n=(cut l a n).all (fun c=>decide (c=0)):=by rw [zdP,decide_eq_true h]; rfl
 repeat refine And.intro (by omega) ?_
 refine ⟨fun i=>i <= n.toNat/\∀j,j<i->l.getD (a.toNat+j) 0=0,⟨0,⟨by omega,fun j hj=>absurd hj (Nat.not_lt_zero _)⟩,by omega,by omega,rfl⟩,fun i=>n.toNat-i,fun i hi=>⟨fun hlt=>⟨by omega,by omega,fun hz=>?_,fun hz=>⟨by omega,by omega,i+1,⟨by omega,fun j hj=>?_⟩,by simp only; omega,by omega⟩⟩,fun hlt=>?_⟩⟩
 ·rw [hn]
  symm
  rw [List.all_eq_false]
  refine ⟨(cut l a n).getD i 0,?_,?_⟩
  ·rw [List.getD_eq_getElem?_getD,List.getElem?_eq_getElem (by omega)]; exact List.getElem_mem _
  ·rw [zpL (by omega)]; simpa using hz
 ·by_cases e:j=i
  ·subst e; omega
  ·exact hi.2 j (by omega)
 ·rw [hn]
  symm
  rw [List.all_eq_true]
  intro c hcm
  obtain ⟨j,hj,rfl⟩:=zvP (d:=0) hcm
  rw [zpL (by omega),hi.2 j (by omega)]; rfl

def wordsLA (l:List Nat):LA:={ T:=Nat×Nat,F:=fun s=>frm 15 [(0,octA (l.drop (8*s.1))),(3,.sl 1 [] 0 1 0 s.1 s.2)],H:=fun s=>[.fence,rowN 111 .u64 s.2 ((zbZ l).take s.1)] }
theorem zeO (l:List Nat):(zbZ l).length=l.length / 8:=by simp [zbZ]
theorem zpQ {l:List Nat} {i:Nat} (h:i<l.length / 8):(zbZ l).getD i 0=za8 (l.drop (8*i)):=by
 rw [zbZ,zfO,if_pos h]; rfl
theorem Oct.drop {l:List Nat} (h:Oct l) (n:Nat):Oct (l.drop n):=⟨fun x hx=>h.1 x (List.mem_of_mem_drop hx),by have:=h.2; simp; omega⟩

theorem wordsV:(
 let q1:Prop:=(111:TypeId)=111;
 let q2:Nat:=(TI.mk (TK.int IntKind.u64) 1 8 (ZL.cons (Value.int IntKind.u64 0) ZL.nil) false).size; ∀(x:List Nat),Oct x->Exx (Nat×Nat->Prop) fun I=>Exx (Nat×Nat->Nat) fun m=>(Exx (Nat×Nat) fun t =>
 let q3:List Nat:=List.drop (8*t.1) x; I t/\((1=1/\x.length=q3.length/\∀(i:Nat),i<x.length->[AV.int .u8 (↑(x.getD i 0):Int)]=[AV.int .u8 (↑(q3.getD i 0):Int)])/\Tr 2 ((t.1=0/\t.2=0)/\Tr 11 True))/\true=true/\(t.2=0/\(List.take t.1 (zbZ x)).length=0)/\True)/\∀(t:Nat×Nat),
 let q4:List Nat:=List.drop (8*t.1) x;
 let q5:Nat:=q4.length;
 let q6:Int:=(q5:Int);
 let q7:Nat:=t.1+1;
 let q8:Nat:=q5-Int.toNat 8; I t->BC (decide ((8:Int) <= q6)) (Exx (List Nat) fun x_1=>(((q5=x_1.length/\∀(i:Nat),i<x_1.length->[AV.int .u8 (↑(q4.getD i 0):Int)]=[AV.int .u8 (↑(x_1.getD i 0):Int)])/\True)/\true=true/\True)/\Oct x_1/\∀(y:Unit),True->0+1 <= 1/\true=true/\(t.1 <= (List.take t.1 (zbZ x)).length/\t.2=t.2)/\(q7 <= 9223372036854775807/\q7*8 <= 140737488355328)/\∀(cap:Nat),q7 <= cap/\cap <= 9223372036854775807->(0:Int) <= (8:Int)/\(Int.toNat 8 <= q5/\q5 <= q5)/\Exx (Nat×Nat) fun t' =>
 let q9:List Nat:=List.drop (8*t'.fst) x; (I t'/\m t'<m t)/\((1=1/\q8=q9.length/\∀(i:Nat),i<q8->[AV.int .u8 (↑(q4.getD (Int.toNat 8+i) 0):Int)]=[AV.int .u8 (↑(q9.getD i 0):Int)])/\Tr 2 ((true=true/\zaC/\0=0/\1=1/\0=0/\q7=t'.fst/\cap=t'.snd)/\Tr 11 True))/\true=true/\(q1/\1=1/\cap=t'.snd/\(List.take t'.fst (zbZ x)).length <= q7/\∀(i:Nat),
 let q10:Nat:=0+(i-t.1); i<(List.take t'.fst (zbZ x)).length->(if i<t.1 then [AV.int .u64 (↑((List.take t.1 (zbZ x)).getD i 0):Int)] else [AV.int .u64 (if q10=0*1 / 1 then (↑(za8 x_1):Int) else 0)])=[AV.int .u64 (↑((List.take t'.fst (zbZ x)).getD i 0):Int)])/\True) (Exx Nat fun y=>(((true=true/\zaC/\0=0/\1=1/\0=0/\t.1=(zbZ x).length/\t.2=y)/\True)/\true=true/\(q1/\1=1/\t.2=y/\(zbZ x).length <= (List.take t.1 (zbZ x)).length/\∀(i:Nat),i<(zbZ x).length->[AV.int .u64 (↑((List.take t.1 (zbZ x)).getD i 0):Int)]=[AV.int .u64 (↑((zbZ x).getD i 0):Int)])/\True)/\(zbZ x).length <= y))=(fnVC tb [(157,zaA qa3)] Tryz.f118 qhU (fun x=>{ loops:=[(2,wordsLA x)] }) (fun _=>none)):=by kernel_rfl

theorem qn5:SpecOk Tryz.prog 118 (zaA qhU):=by
 refine zaK zaM zaL (SPok.cons zqO SPok.nil) Tryz.func118 (by decide) (zgW fun _ _ _=>rfl) (Eq.mp wordsV ?_)
 simp (maxSteps:=10000000) only [std,stdU,stdV,Exx,I64,Nat.reduceMul,Nat.reduceDiv,Nat.reduceAdd,Int.reduceToNat]
 rintro l hl
 have hlen:=hl.2
 have hw:=zeO l
 refine ⟨fun s=>s.1 <= l.length / 8/\s.1 <= s.2,⟨0,0,by simp,by simp,fun i _=>by simp,rfl,rfl,rfl,by simp⟩,fun s=>l.length / 8-s.1,?_⟩
 rintro k cap ⟨hk,hkc⟩
 simp only at hk hkc
 have e1:(l.drop (8*k)).length=l.length-8*k:=by simp
 have e2:((zbZ l).take k).length=k:=by rw [List.length_take,hw]; omega
 rw [e1,e2]
 refine ⟨fun h=>⟨hl.drop _,by omega,by omega,by omega,?_⟩,fun h=>?_⟩
 ·rintro cap' ⟨hc1,hc2⟩
  have e3:((zbZ l).take (k+1)).length=k+1:=by rw [List.length_take,hw]; omega
  refine ⟨by omega,by omega,k+1,cap',⟨by simp only; omega,by simp only; omega⟩,by simp only; omega,by simp; omega,fun i hi=>?_,rfl,rfl,rfl,by rw [e3]; omega,fun i hi=>?_⟩
  ·rw [za4,za4,show 8*k+(8+i)=8*(k+1)+i by omega]
  ·rw [e3] at hi
   by_cases e:i<k
   ·rw [if_pos e,za9,za9,if_pos e,if_pos hi]
   ·have:i=k:=by omega
    subst this
    rw [if_neg e,if_pos (Nat.sub_self _),za9,if_pos hi,zpQ (by omega)]
 ·have:k=l.length / 8:=by omega
  refine ⟨by omega,by omega,fun i hi=>?_,by omega⟩
  rw [za9,if_pos (by omega)]

def qpS (l:List Nat):LA:={ T:=Nat×Nat,F:=fun s=>frm 18 [(3,.sl 1 [] 0 1 0 (zaD (l.take s.1)).length s.2),(6,qgK .u64 l),(7,i64 (l.length:Int)),(8,i64 (s.1:Int))],H:=fun s=>[.fence,rowN 5 .u8 s.2 (zaD (l.take s.1))] }

theorem octetsV:(
 let q1:Prop:=(5:TypeId)=5; ∀(x:List Nat),
 let q3:Prop:=1=1/\x.length=x.length/\∀(i:Nat),
 let q2:List AV:=[AV.int .u64 (↑(x.getD i 0):Int)]; i<x.length->q2=q2;
 let q4:Prop:=Tr 1 ((x.length:Int)=(x.length:Int)); (∀(w:Nat),w∈x->U64 w)/\x.length <= 1000000->Exx (Nat×Nat->Prop) fun I=>Exx (Nat×Nat->Nat) fun m=>(Exx (Nat×Nat) fun t =>
 let q5:Prop:=(zaD (List.take t.1 x)).length=0; I t/\Tr 3 ((q5/\t.2=0)/\Tr 2 (q3/\q4/\Tr 1 (0=(t.1:Int))/\Tr 9 True))/\true=true/\(t.2=0/\q5)/\True)/\∀(t:Nat×Nat),
 let q6:Prop:=(t.1:Int)<(x.length:Int);
 let q7:Int:=(t.1:Int)+1; I t->BC (decide q6) (((0:Int) <= (t.1:Int)/\q6)/\Exx (Nat×Int) fun x_1 =>
 let q8:Nat:=(zaD (List.take t.1 x)).length+(layL x_1.1 x_1.2).length; ((Tr 1 ((↑(x.getD (t.1:Int).toNat 0):Int)=(x_1.1:Int))/\Tr 1 ((8:Int)=x_1.2)/\True)/\true=true/\True)/\(U64 x_1.1/\I64 x_1.2)/\∀(y:Nat),(layL x_1.1 x_1.2).length <= y->0+(layL x_1.1 x_1.2).length <= (layL x_1.1 x_1.2).length/\true=true/\((zaD (List.take t.1 x)).length <= (zaD (List.take t.1 x)).length/\t.2=t.2)/\(q8 <= 9223372036854775807/\q8*1 <= 140737488355328)/\∀(cap:Nat),q8 <= cap/\cap <= 9223372036854775807->I64 q7/\Exx (Nat×Nat) fun t'=>(I t'/\m t'<m t)/\Tr 3 ((true=true/\zaC/\0=0/\1=1/\0=0/\q8=(zaD (List.take t'.fst x)).length/\cap=t'.snd)/\Tr 2 (q3/\q4/\Tr 1 (q7=(↑t'.fst:Int))/\Tr 9 True))/\true=true/\(q1/\1=1/\cap=t'.snd/\(zaD (List.take t'.fst x)).length <= q8/\∀(i:Nat),i<(zaD (List.take t'.fst x)).length->(if i<(zaD (List.take t.1 x)).length then [AV.int .u8 (↑((zaD (List.take t.1 x)).getD i 0):Int)] else [AV.int .u8 (↑((layL x_1.1 x_1.2).getD (0+(i-(zaD (List.take t.1 x)).length)) 0):Int)])=[AV.int .u8 (↑((zaD (List.take t'.fst x)).getD i 0):Int)])/\True) (Exx Nat fun y=>(((true=true/\zaC/\0=0/\1=1/\0=0/\(zaD (List.take t.1 x)).length=(zaD x).length/\t.2=y)/\True)/\true=true/\(q1/\1=1/\t.2=y/\(zaD x).length <= (zaD (List.take t.1 x)).length/\∀(i:Nat),i<(zaD x).length->[AV.int .u8 (↑((zaD (List.take t.1 x)).getD i 0):Int)]=[AV.int .u8 (↑((zaD x).getD i 0):Int)])/\True)/\(zaD x).length <= y))=(fnVC tb [(129,zaA layC)] Tryz.f128 zq0 (fun x=>{ loops:=[(3,qpS x)] }) (fun _=>none)):=by kernel_rfl

theorem zqZ:SpecOk Tryz.prog 128 (zaA zq0):=by
 refine zaK zaM zaL (SPok.cons zyM SPok.nil) Tryz.func128 (by decide) (zgW fun _ _ _=>rfl) (Eq.mp octetsV ?_)
 simp (maxSteps:=10000000) only [std,stdU,stdV,Exx,I64,Nat.reduceMul,Nat.reduceDiv,Nat.reduceAdd,Int.reduceToNat]
 rintro l ⟨hl,hlen⟩
 refine ⟨fun s=>s.1 <= l.length/\(zaD (l.take s.1)).length <= s.2,⟨0,0,by simp [zaD],by simp [zaD],rfl,rfl,rfl,by simp [zaD]⟩,fun s=>l.length-s.1,?_⟩
 rintro k cap ⟨hk,hkc⟩
 simp only at hk hkc
 have e1:(zaD (l.take k)).length=8*k:=by rw [zbW,List.length_take]; omega
 have e2:(layL (l.getD k 0) 8).length=8:=by rw [znV (by omega),zaE]; rfl
 rw [e1,e2]
 rw [e1] at hkc
 refine ⟨fun h=>⟨by omega,by omega,getD_mem hl (by unfold U64; omega) k,by omega,by omega,fun y hy=>⟨by omega,by omega,?_⟩⟩,fun h=>?_⟩
 ·rintro cap' ⟨hc1,hc2⟩
  have e3:(zaD (l.take (k+1))).length=8*(k+1):=by rw [zbW,List.length_take]; omega
  refine ⟨by omega,by omega,k+1,cap',⟨by simp only; omega,by simp only; omega⟩,by simp only; omega,by omega,rfl,by omega,rfl,by omega,fun i hi=>?_⟩
  rw [zc4 0 (by omega),zyA,zaH,e1]
  by_cases e:i<8*k
  ·rw [if_pos e,if_pos e]
  ·rw [if_neg e,if_neg e,znV (by omega)]; rfl
 ·have:k=l.length:=by omega
  subst this
  rw [List.take_length] at e1 ⊢
  exact ⟨by omega,by omega,fun _ _=>rfl,by omega⟩

theorem qbH {ws:List Nat} {j:Nat} (h:j<ws.length):((zaD ws).drop (8*j)).take 8=layN (ws.getD j 0) 8:=by
 have e:ws=ws.take j++(ws.getD j 0 :: ws.drop (j+1)):=by
  conv=>lhs; rw [<- List.take_append_drop j ws]
  congr 1
  rw [List.drop_eq_getElem_cons h,List.getD_eq_getElem?_getD,List.getElem?_eq_getElem h]; rfl
 have e1:zaD ws=zaD (ws.take j)++(layN (ws.getD j 0) 8++zaD (ws.drop (j+1))):=by
  conv=>lhs; rw [e]
  simp [zaD]
 have l1:(zaD (ws.take j)).length=8*j:=by rw [zbW,List.length_take]; omega
 rw [e1,List.drop_append,List.drop_of_length_le (by omega),List.nil_append,l1,Nat.sub_self,List.drop_zero,List.take_append,zaE,Nat.sub_self,List.take_zero,List.append_nil,List.take_of_length_le (by rw [zaE]; omega)]
theorem zx9 {l:List Nat} (h:∀c∈l,c<256):zaD (zbZ l)=l.take (8*(l.length / 8)):=by
 have hw:=zeO l
 have hl:=zbW (zbZ l)
 have ht:(l.take (8*(l.length / 8))).length=8*(l.length / 8):=by rw [List.length_take]; omega
 refine zbF 0 (by omega) fun i hi=>?_
 have hc:=qbH (ws:=zbZ l) (j:=i / 8) (by omega)
 have hx:((l.drop (8*(i / 8))).take 8).length=8:=by simp; omega
 have hm:∀c∈(l.drop (8*(i / 8))).take 8,c<256:=fun c hc=>h c (List.mem_of_mem_drop (List.mem_of_mem_take hc))
 have e:=zvT _ hm
 rw [hx] at e
 rw [zpQ (by omega),za8,e] at hc
 have h1:(zaD (zbZ l)).getD i 0=(((zaD (zbZ l)).drop (8*(i / 8))).take 8).getD (i % 8) 0:=by
  rw [za9,if_pos (Nat.mod_lt _ (by decide)),za4]; congr 1; omega
 rw [h1,hc,za9,if_pos (Nat.mod_lt _ (by decide)),za4,za9,if_pos (by omega)]
 congr 1; omega

end Yard


namespace Yard
open Go Go.Sx Go.Proofs
set_option linter.unusedVariables false
set_option linter.unusedSimpArgs false
set_option maxRecDepth 4000

def tableN (i:Nat):Nat:=stepsN 4 i
def u32 (n:Nat):AV := .int .u32 (n:Int)
def octs (l:List Nat):AV := .ro 1 l.length (fun i=>[.int .u8 ((l.getD i 0:Nat):Int)])
def tabA (f:Nat->Nat):AV := .agg [.arr 1 16 (fun i=>[u32 (f i)])]

def takeN (f:Nat->Nat) (x c:Nat):Nat:=halfN f (halfN f (x ^^^ c))
def regN (f:Nat->Nat) (x:Nat) (l:List Nat):Nat:=l.foldl (takeN f) x
theorem qe1 {a b:Nat} (ha:a<4294967296) (hb:b<4294967296):a ^^^ b<4294967296:=Nat.xor_lt_two_pow (n:=32) ha hb
theorem zv0 {f:Nat->Nat} (hf:∀i,i<16->f i<4294967296) {x:Nat} (hx:x<4294967296):halfN f x<4294967296:=qe1 (by omega) (hf _ (by omega))
theorem qoC {f:Nat->Nat} (hf:∀i,i<16->f i<4294967296) {x c:Nat} (hx:x<4294967296) (hc:c<256):takeN f x c<4294967296:=zv0 hf (zv0 hf (qe1 hx (by omega)))

theorem qc9 {a:Nat} (h:a<4294967296):bits .xor .u32 (a:Int) 2197175160=((a ^^^ 2197175160:Nat):Int):=zwI (k := .u32) rfl (b:=2197175160) h (by decide)
theorem qn2 {a:Nat} (h:a<4294967296):bits .xor .u32 (a:Int) 4294967295=((a ^^^ 4294967295:Nat):Int):=zwI (k := .u32) rfl (b:=4294967295) h (by decide)
theorem and_one {a:Nat} (h:a<4294967296):bits .and .u32 (a:Int) 1=((a % 2:Nat):Int):=by
 rw [show (1:Int)=((1:Nat):Int) from rfl,zpM (k := .u32) rfl h (by decide),Nat.and_one_is_mod]
theorem qrR {a:Nat} (h:a<4294967296):bits .and .u32 (a:Int) 15=((a % 16:Nat):Int):=by
 rw [show (15:Int)=((15:Nat):Int) from rfl,zpM (k := .u32) rfl h (by decide),show 15=2 ^ 4-1 from rfl,Nat.and_two_pow_sub_one_eq_mod]
theorem shr_one (a:Nat):(a:Int).fdiv (2 ^ min 1 IntKind.u32.bits)=((a / 2:Nat):Int):=by
 show (a:Int).fdiv 2=_
 rw [Int.fdiv_eq_ediv_of_nonneg _ (by decide)]; rfl
theorem qdK (a:Nat):(a:Int).fdiv (2 ^ min (Int.toNat 4) IntKind.u32.bits)=((a / 16:Nat):Int):=by
 show (a:Int).fdiv 16=_
 rw [Int.fdiv_eq_ediv_of_nonneg _ (by decide)]; rfl
theorem zsX {a:Nat} (h:a<4294967296):IntKind.u32.wrap (a:Int)=a:=zfK rfl h
theorem zwH {a b:Nat}:((a:Int)=(b:Int)) ↔ a=b:=Int.ofNat_inj

def qoI:Ctr:=zbN Nat (fun x=>x<4294967296) (fun x=>[u32 x]) (fun x=>u32 (zhV x))
def qiP:Ctr:=zbN (Nat×Nat) (fun x=>x.1<4294967296/\x.2 <= 1000) (fun x=>[u32 x.1,.int .i64 (x.2:Int)]) (fun x=>u32 (stepsN x.2 x.1))
def qiF:Ctr:=zbN Unit (fun _=>True) (fun _=>[]) (fun _=>tabA tableN)
theorem stepV:(∀(x:Nat),x<4294967296->∀(n:Int),n=bits BinOp.and IntKind.u32 (x:Int) 1->BC (decide (n=(1:Int))) ((0:Int) <= (1:Int)/\∀
 (n:Int),n=(x:Int).fdiv (2 ^ min (Int.toNat 1) IntKind.u32.bits)->∀(n_1:Int),n_1=bits BinOp.xor IntKind.u32 n 2197175160->Exx Unit fun y=>((Tr
 1 (n_1=(↑(zhV x):Int))/\True)/\true=true/\True)/\True) ((0:Int) <= (1:Int)/\∀(n:Int),n=(x:Int).fdiv (2 ^ min (Int.toNat 1)
 IntKind.u32.bits)->Exx Unit fun y=>((Tr 1 (n=(↑(zhV x):Int))/\True)/\true=true/\True)/\True))=(fnVC tb [] Tryz.f205 qoI (fun _=>{}) (fun _=>none)):=by kernel_rfl

theorem step_ok:SpecOk Tryz.prog 205 (zaA qoI):=by
 refine zaK zaM zaL SPok.nil Tryz.func205 (by decide) (zaO fun _=>rfl) (Eq.mp stepV ?_)
 simp (maxSteps:=10000000) only [std,stdU,stdV,Exx,I64,Nat.reduceMul,Nat.reduceDiv,Nat.reduceAdd,Int.reduceToNat]
 intro x hx
 rw [and_one hx,shr_one,qc9 (by omega),show (1:Int)=((1:Nat):Int) from rfl]
 simp only [zwH]
 exact ⟨fun h=>⟨by omega,by rw [zhV,if_pos h]⟩,fun h=>⟨by omega,by rw [zhV,if_neg h]⟩⟩

def qiR:Ctr:=qoI

theorem step'V:(∀(x:Nat),x<4294967296->2≠(0:Int)/\∀(n:Int),n=(x:Int).tmod 2->BC (decide (n=(1:Int))) (2≠(0:Int)
 /\ ∀(n:Int),n=IntKind.u32.wrap ((x:Int).tdiv 2)->∀(n_1:Int),n_1=bits BinOp.xor IntKind.u32 n 2197175160->Exx Unit fun y=>((Tr 1 (n_1 =
 (↑(zhV x):Int))/\True)/\true=true/\True)/\True) (2≠(0:Int)/\∀(n:Int),n=IntKind.u32.wrap ((x:Int).tdiv 2)->Exx Unit fun y =>
 ((Tr 1 (n=(↑(zhV x):Int))/\True)/\true=true/\True)/\True))=(fnVC tb [] Tryz.f158 qiR (fun _=>{}) (fun _=>none)):=by kernel_rfl

theorem qoJ:SpecOk Tryz.prog 158 (zaA qiR):=by
 refine zaK zaM zaL SPok.nil Tryz.func158 (by decide) (zaO fun _=>rfl) (Eq.mp step'V ?_)
 simp (maxSteps:=10000000) only [std,stdU,stdV,Exx,I64,Nat.reduceMul,Nat.reduceDiv,Nat.reduceAdd,Int.reduceToNat]
 intro x hx
 have e1:(x:Int).tmod 2=((x % 2:Nat):Int):=rfl
 have e2:(x:Int).tdiv 2=((x / 2:Nat):Int):=rfl
 rw [e1,e2,zsX (by omega),qc9 (by omega),show (1:Int)=((1:Nat):Int) from rfl]
 simp only [zwH]
 exact ⟨by omega,fun h=>⟨by omega,by rw [zhV,if_pos h]⟩,fun h=>⟨by omega,by rw [zhV,if_neg h]⟩⟩

def stepsL (x:Nat×Nat):LA:={ T:=Nat,F:=fun k=>frm 14 [(0,u32 (stepsN k x.1)),(1,.int .i64 (x.2:Int)),(5,.int .i64 (k:Int))],H:=fun _=>[.fence] }

theorem stepsV:(∀(x:Nat×Nat),
 let q1:Prop:=Tr 1 ((x.2:Int)=(x.2:Int)); x.1<4294967296/\x.2 <= 1000->Exx (Nat->Prop) fun I=>Exx (Nat->Nat) fun m=>(Exx Nat fun t=>I t/\(Tr 1 ((x.1:Int)=(↑(stepsN t x.1):Int))/\q1/\Tr 3 (Tr 1 (0=(t:Int))/\Tr 8 True))/\true=true/\True)/\∀(t:Nat),
 let q2:Int:=(t:Int)+1; I t->BC (decide ((t:Int)<(x.2:Int))) (Exx Nat fun x_1=>((Tr 1 ((↑(stepsN t x.1):Int)=(x_1:Int))/\True)/\true=true/\True)/\x_1<4294967296/\∀(y:Unit),True->I64 q2/\Exx Nat fun t'=>(I t'/\m t'<m t)/\(Tr 1 ((↑(zhV x_1):Int)=(↑(stepsN t' x.1):Int))/\q1/\Tr 3 (Tr 1 (q2=(↑t':Int))/\Tr 8 True))/\true=true/\True) (Exx Unit fun y=>((Tr 1 ((↑(stepsN t x.1):Int)=(↑(stepsN x.2 x.1):Int))/\True)/\true=true/\True)/\True))=(fnVC tb [(158,zaA qiR)] Tryz.f119 qiP (fun x=>{ loops:=[(2,stepsL x)] }) (fun _=>none)):=by kernel_rfl

theorem qoG:SpecOk Tryz.prog 119 (zaA qiP):=by
 refine zaK zaM zaL (SPok.cons qoJ SPok.nil) Tryz.func119 (by decide) (zaO fun _=>rfl) (Eq.mp stepsV ?_)
 simp (maxSteps:=10000000) only [std,stdU,stdV,Exx,I64,Nat.reduceMul,Nat.reduceDiv,Nat.reduceAdd,Int.reduceToNat]
 rintro x n ⟨h1,h2⟩
 refine ⟨fun k=>k <= n,⟨0,by omega,rfl,rfl⟩,fun k=>n-k,fun k hk=>⟨fun hl=>⟨ziL h1 k,by omega,by omega,k+1,by omega,by simp only; omega,rfl,by omega⟩,fun hl=>?_⟩⟩
 have:k=n:=by omega
 rw [this]

def tabF (i:Nat):Nat->List AV:=fun j=>[u32 (if j<i then tableN j else 0)]
def tabH (i:Nat):AH:=[.fence,.cells 295 [.arr 1 16 (fun _=>[.int .u32 0])],.cells 295 [.arr 1 16 (tabF i)]]
def tabL1:LA:={ T:=Nat,F:=fun i=>frm 19 [(0,.ptr 1 [] 0),(1,.ptr 2 [] 0),(4,.int .i64 (i:Int))],H:=tabH }
def tabL2:LA:={ T:=Nat×Nat,F:=fun x=>frm 19 [(0,.ptr 1 [] 0),(1,.ptr 2 [] 0),(4,.int .i64 (x.1:Int)),(2,.int .i64 (x.1:Int)),(3,u32 (stepsN x.2 x.1)),(9,.int .i64 (x.2:Int))],H:=fun x=>tabH x.1 }

theorem tableV:(
 let q1:Prop:=true=true/\zaC/\0=0;
 let q2:Prop:=1=1/\16=16/\(∀(i:Nat),i<16->[AV.int .u32 (0:Int)]=[AV.int .u32 (0:Int)])/\True;
 let q3:Prop:=(295:TypeId)=295;
 let q4:Prop:=q3/\q2; ∀(x:Unit),True->Exx (Nat->Prop) fun I=>Exx (Nat->Nat) fun m=>(Exx Nat fun t=>I t/\(q1/\q1/\Tr 2 (Tr 1 (0=(t:Int))/\Tr 14 True))/\true=true/\(295=(295:TypeId)/\q2)/\(295=(295:TypeId)/\1=1/\16=16/\(∀(i:Nat),i<16->[AV.int .u32 0]=[AV.int .u32 (↑(if i<t then tableN i else 0):Int)])/\True)/\True)/\∀(t:Nat),I t->BC (decide ((t:Int)<(16:Int))) (∀(m_1:Int),m_1=IntKind.u32.wrap (t:Int)->Exx (Nat×Nat->Prop) fun I_1=>Exx (Nat×Nat->Nat) fun m_2=>(Exx (Nat×Nat) fun t_1 =>
 let q5:Prop:=Tr 1 ((t:Int)=(t_1.1:Int)); I_1 t_1/\(q1/\q1/\q5/\Tr 1 (m_1=(↑(stepsN t_1.2 t_1.1):Int))/\q5/\Tr 4 (Tr 1 (0=(t_1.2:Int))/\Tr 9 True))/\true=true/\q4/\(q3/\1=1/\16=16/\(∀(i:Nat),i<16->[AV.int .u32 (↑(if i<t then tableN i else 0):Int)]=[AV.int .u32 (↑(if i<t_1.1 then tableN i else 0):Int)])/\True)/\True)/\∀(t_1:Nat×Nat),
 let q6:Int:=(t_1.2:Int)+1;
 let q7:Int:=(t_1.1:Int)+1; I_1 t_1->BC (decide ((t_1.2:Int)<(4:Int))) (Exx Nat fun x=>((Tr 1 ((↑(stepsN t_1.2 t_1.1):Int)=(x:Int))/\True)/\true=true/\True)/\x<4294967296/\∀(y:Unit),True->I64 q6/\Exx (Nat×Nat) fun t' =>
 let q8:Prop:=Tr 1 ((t_1.1:Int)=(↑t'.fst:Int)); (I_1 t'/\m_2 t'<m_2 t_1)/\(q1/\q1/\q8/\Tr 1 ((↑(zhV x):Int)=(↑(stepsN t'.snd t'.fst):Int))/\q8/\Tr 4 (Tr 1 (q6=(↑t'.snd:Int))/\Tr 9 True))/\true=true/\q4/\(q3/\1=1/\16=16/\(∀(i:Nat),i<16->[AV.int .u32 (↑(if i<t_1.1 then tableN i else 0):Int)]=[AV.int .u32 (↑(if i<t'.fst then tableN i else 0):Int)])/\True)/\True) (((0:Int) <= (t_1.1:Int)/\(t_1.1:Int)<(↑(16:Nat):Int))/\(t_1.1:Int).toNat<16/\I64 q7/\Exx Nat fun t'=>(I t'/\m t'<m t)/\(q1/\q1/\Tr 2 (Tr 1 (q7=(↑t':Int))/\Tr 14 True))/\true=true/\q4/\(q3/\1=1/\16=16/\(∀(i:Nat),i<16->[AV.int .u32 (if i=(t_1.1:Int).toNat then (↑(stepsN t_1.2 t_1.1):Int) else (↑(if i<t_1.1 then tableN i else 0):Int))]=[AV.int .u32 (↑(if i<t' then tableN i else 0):Int)])/\True)/\True)) (Exx Unit fun y=>(((1=1/\16=16/\(∀(i:Nat),i<16->[AV.int .u32 (↑(if i<t then tableN i else 0):Int)]=[AV.int .u32 (↑(tableN i):Int)])/\True)/\True)/\true=true/\True)/\True))=(fnVC tb [(205,zaA qoI)] Tryz.f189 qiF (fun x=>{ loops:=[(3,tabL1),(7,tabL2)] }) (fun _=>none)):=by kernel_rfl

theorem qoD:SpecOk Tryz.prog 189 (zaA qiF):=by
 refine zaK zaM zaL (SPok.cons step_ok SPok.nil) Tryz.func189 (by decide) (zaO fun _=>⟨fun _ _=>⟨rfl,trivial⟩,trivial⟩) (Eq.mp tableV ?_)
 simp (maxSteps:=10000000) only [std,stdU,stdV,Exx,I64,Nat.reduceMul,Nat.reduceDiv,Nat.reduceAdd,Int.reduceToNat]
 refine ⟨fun i=>i <= 16,⟨0,by omega,rfl,fun j _=>rfl⟩,fun i=>16-i,fun i hi=>⟨fun hl=>?_,fun hl=>fun j hj=>by rw [if_pos (by omega)]⟩⟩
 refine ⟨fun x=>x.1=i/\x.2 <= 4,⟨i,0,⟨rfl,by simp⟩,rfl,zsX (by omega),rfl,rfl,fun j _=>rfl⟩,fun x=>4-x.2,?_⟩
 rintro i' k ⟨rfl,hk⟩
 simp only at *
 refine ⟨fun hl2=>⟨ziL (by omega) k,by omega,by omega,i',k+1,⟨rfl,by omega⟩,by omega,rfl,rfl,rfl,by omega,fun _ _=>rfl⟩,fun hl2=>⟨by omega,by omega,by omega,by omega,by omega,i'+1,by omega,by omega,by omega,fun j hj=>?_⟩⟩
 have hk4:k=4:=by omega
 subst hk4
 by_cases hji:j=i'
 ·subst hji
  rw [if_pos rfl,if_pos (by omega)]; rfl
 ·rw [if_neg hji]
  by_cases h3:j<i'
  ·rw [if_pos h3,if_pos (by omega)]
  ·rw [if_neg h3,if_neg (by omega)]

theorem zuF {a b:Nat} (ha:a<4294967296) (hb:b<4294967296):bits .xor .u32 (a:Int) (b:Int)=((a ^^^ b:Nat):Int):=zwI (k := .u32) rfl ha hb

def crcTau (args:List AV) (H:AH):List Nat:=match args with
 | .ptr p _ _ :: _=>[p]
 | _=>[]
def tabI (f:Nat->Nat):Sx.Item := .cells 295 [.arr 1 16 (fun i=>[u32 (f i)])]
def zsJ (l:List Nat):Prop:=(∀x∈l,x<256)/\l.length <= 1000000
def zlY:Ctr where
 X:=(Nat->Nat)×Nat×List Nat
 Y:=Unit
 conv:=true
 tau:=crcTau
 pre:=fun x=>(∀i,i<16->x.1 i<4294967296)/\x.2.1<4294967296/\zsJ x.2.2
 args:=fun x=>[.ptr 0 [] 0,u32 x.2.1,octs x.2.2]
 heap:=fun x=>[tabI x.1]
 Q:=fun _ _=>True
 res:=fun x _=>u32 (regN x.1 x.2.1 x.2.2)
 its:=fun x _=>[tabI x.1]
 new:=fun _ _=>[]
def regL (x:(Nat->Nat)×Nat×List Nat):LA:={ T:=Nat,F:=fun i=>frm 39 [(0,.ptr 0 [] 0),(1,u32 (regN x.1 x.2.1 (x.2.2.take i))),(9,octs x.2.2),(10,.int .i64 (x.2.2.length:Int)),(11,.int .i64 (i:Int))],H:=fun _=>[tabI x.1,.fence] }

theorem zxO:CtrOk zlY:=⟨fun _ _ _ _=>rfl,fun _ _ _ _=>⟨rfl,rfl⟩,fun _ _ _ _ _=>⟨⟨⟨⟨fun _ _=>⟨rfl,trivial⟩,trivial⟩,trivial⟩,trivial⟩,rfl⟩⟩
theorem zzP {l:List Nat} (h:zsJ l) (i:Nat):l.getD i 0<256:=by
 rw [List.getD_eq_getElem?_getD]
 cases e:l[i]? with
 | none=>simp
 | some x=>exact h.1 x (List.mem_of_getElem? e)
theorem qaQ {f:Nat->Nat} (hf:∀i,i<16->f i<4294967296):∀{l:List Nat} {x:Nat},(∀c∈l,c<256)->x<4294967296->regN f x l<4294967296
 | [],x,_,hx=>hx
 | c :: r,x,hl,hx=>qaQ hf (l:=r) (fun c hc=>hl c (List.mem_cons_of_mem _ hc)) (qoC hf hx (hl c List.mem_cons_self))
theorem qjK (f:Nat->Nat) (x:Nat) {l:List Nat} {i:Nat} (hi:i<l.length):regN f x (l.take (i+1))=takeN f (regN f x (l.take i)) (l.getD i 0):=by
 rw [List.take_add_one,List.getElem?_eq_getElem hi,List.getD_eq_getElem?_getD,List.getElem?_eq_getElem hi]
 simp only [regN,Option.toList,List.foldl_append,List.foldl,Option.getD]

theorem qjJ:(
 let q1:Prop:=true=true/\zaC/\0=0;
 let q2:Prop:=(295:TypeId)=295; ∀(x:(Nat->Nat)×Nat×List Nat),
 let q4:Prop:=1=1/\x.2.2.length=x.2.2.length/\∀(i:Nat),
 let q3:List AV:=[AV.int .u8 (↑(x.2.2.getD i 0):Int)]; i<x.2.2.length->q3=q3;
 let q5:Int:=(x.2.2.length:Int);
 let q6:Prop:=Tr 1 (q5=q5);
 let q8:Prop:=(q2/\1=1/\16=16/\(∀(i:Nat),
 let q7:List AV:=[AV.int .u32 (↑(x.1 i):Int)]; i<16->q7=q7)/\True)/\true=true/\True; (∀(i:Nat),i<16->x.1 i<4294967296)/\x.2.1<4294967296/\zsJ x.2.2->Exx (Nat->Prop) fun I=>Exx (Nat->Nat) fun m=>(Exx Nat fun t=>I t/\(q1/\Tr 1 ((x.2.1:Int)=(↑(regN x.1 x.2.1 (List.take t x.2.2)):Int))/\Tr 7 (q4/\q6/\Tr 1 (0=(t:Int))/\Tr 27 True))/\q8)/\∀(t:Nat),
 let q9:Int:=(↑(regN x.1 x.2.1 (List.take t x.2.2)):Int);
 let q10:Int:=(t:Int)+1; I t->BC (decide ((t:Int)<q5)) (((0:Int) <= (t:Int)/\(t:Int)<q5)/\∀(m_1:Int),m_1=IntKind.u32.wrap (↑(x.2.2.getD (t:Int).toNat 0):Int)->∀(n:Int),
 let q11:Int:=2 ^ min (Int.toNat 4) IntKind.u32.bits; n=bits BinOp.xor IntKind.u32 q9 m_1->(0:Int) <= (4:Int)/\∀(n_1:Int),n_1=n.fdiv q11->∀(n_2:Int),n_2=bits BinOp.and IntKind.u32 n 15->((0:Int) <= n_2/\n_2<(↑(16:Nat):Int))/\n_2.toNat<16/\∀(n:Int),n=bits BinOp.xor IntKind.u32 n_1 (↑(x.1 n_2.toNat):Int)->(0:Int) <= (4:Int)/\∀(n_3:Int),n_3=n.fdiv q11->∀(n_4:Int),n_4=bits BinOp.and IntKind.u32 n 15->((0:Int) <= n_4/\n_4<(↑(16:Nat):Int))/\n_4.toNat<16/\∀(n:Int),n=bits BinOp.xor IntKind.u32 n_3 (↑(x.1 n_4.toNat):Int)->I64 q10/\Exx Nat fun t'=>(I t'/\m t'<m t)/\(q1/\Tr 1 (n=(↑(regN x.1 x.2.1 (List.take t' x.2.2)):Int))/\Tr 7 (q4/\q6/\Tr 1 (q10=(↑t':Int))/\Tr 27 True))/\q8) (Exx Unit fun y=>((Tr 1 (q9=(↑(regN x.1 x.2.1 x.2.2):Int))/\True)/\q8)/\True))=(fnVC tb [] Tryz.f190 zlY (fun x=>{ loops:=[(2,regL x)] }) (fun _=>none)):=by kernel_rfl

theorem qaP:SpecOk Tryz.prog 190 (zaA zlY):=by
 refine zaK zaM zaL SPok.nil Tryz.func190 (by decide) zxO (Eq.mp qjJ ?_)
 simp only [Exx,nilnil,Tr_eq,true_and,and_true,exists_const,forall_const,BC_iff,decide_eq_true_eq,decide_eq_false_iff_not,zwH,I64,implies_true]
 rintro ⟨f,x,l⟩ ⟨hf,hx,hl⟩
 simp only at *
 have hlen:=hl.2
 have htl:∀i,∀c∈l.take i,c<256:=fun i c hc=>hl.1 c (List.mem_of_mem_take hc)
 refine ⟨fun i=>i <= l.length,fun i=>l.length-i,⟨0,by omega,rfl,rfl⟩,fun i hi=>⟨fun hlt=>⟨by omega,?_⟩,fun hge=>?_⟩⟩
 ·have hr:=qaQ hf (htl i) hx
  have hc:=zzP hl i
  have hs:=qjK f x (l:=l) (i:=i) (by omega)
  generalize regN f x (l.take i)=r at *
  generalize hcc:l.getD i 0=c at *
  have h1:=qe1 hr (show c<4294967296 by omega)
  have h2:=zv0 hf h1
  rintro m1 rfl n rfl
  have e1:((i:Int)).toNat=i:=Int.toNat_natCast i
  rw [e1,hcc,zsX (by omega),zuF hr (by omega)]
  refine ⟨by omega,?_⟩
  rintro n1 rfl n2 rfl
  rw [qrR h1,qdK,Int.toNat_natCast]
  refine ⟨⟨by omega,by omega⟩,by omega,?_⟩
  rintro n rfl
  rw [zuF (by omega) (hf _ (by omega)),show (r ^^^ c) / 16 ^^^ f ((r ^^^ c) % 16)=halfN f (r ^^^ c) from rfl]
  refine ⟨by omega,?_⟩
  rintro n3 rfl n4 rfl
  rw [qrR h2,qdK,Int.toNat_natCast]
  refine ⟨⟨by omega,by omega⟩,by omega,?_⟩
  rintro n rfl
  rw [zuF (by omega) (hf _ (by omega))]
  refine ⟨by omega,i+1,⟨by omega,by simp only; omega⟩,?_,by omega⟩
  rw [hs]; rfl
 ·rw [show i=l.length by omega,List.take_length]

def ones:Nat:=4294967295
def octss (x:List (List Nat)):AV := .ro 1 x.length (fun i=>[octs (x.getD i [])])
def zjM (x:List (List Nat)):Prop:=(∀l∈x,zsJ l)/\x.length <= 1000
def accN (x:List (List Nat)):Nat:=x.foldl (regN tableN) ones
def sumN (x:List (List Nat)):Nat:=accN x ^^^ ones
def sumC:Ctr:=zbN (List (List Nat)) zjM (fun x=>[octss x]) (fun x=>u32 (sumN x))
def zuM:Ctr:=zbN (Nat×List (List Nat)) (fun x=>x.1<4294967296/\zjM x.2) (fun x=>[u32 x.1,octss x.2]) (fun x => .bool (decide (sumN x.2=x.1)))
def sumL (x:List (List Nat)):LA:={ T:=Nat,F:=fun i=>frm 20 [(3,.ptr 1 [] 0),(4,u32 (accN (x.take i))),(8,octss x),(9,.int .i64 (x.length:Int)),(10,.int .i64 (i:Int))],H:=fun _=>[.fence,tabI tableN] }
def zfB (l:List Nat):Nat:=l.foldl (fun x c=>stepsN 8 (x ^^^ c)) ones
def qaS:Ctr:=zbN (List Nat) zsJ (fun l=>[octs l]) (fun l=>u32 (ones-zfB l))
def refSumL (l:List Nat):LA:={ T:=Nat,F:=fun i=>frm 21 [(0,octs l),(3,u32 (zfB (l.take i))),(4,.int .i64 (i:Int))],H:=fun _=>[.fence] }
theorem zkQ {x:Nat} (h:x<4294967296):x ^^^ ones<4294967296:=qe1 h (by decide)

theorem zw7 {i:Nat} (h:i<16):tableN i<4294967296:=ziL (by omega) 4
theorem qhF {x:List (List Nat)} (h:zjM x) (i:Nat):zsJ (x.getD i []):=by
 rw [List.getD_eq_getElem?_getD]
 cases e:x[i]? with
 | none=>exact ⟨fun c hc=>(by cases hc),by simp⟩
 | some l=>exact h.1 l (List.mem_of_getElem? e)
theorem zjD {α β:Type} (g:α->β->α) (a:α) {l:List β} {i:Nat} (d:β) (hi:i<l.length):(l.take (i+1)).foldl g a=g ((l.take i).foldl g a) (l.getD i d):=by
 rw [List.take_add_one,List.getElem?_eq_getElem hi,List.getD_eq_getElem?_getD,List.getElem?_eq_getElem hi]
 simp only [Option.toList,List.foldl_append,List.foldl,Option.getD]
theorem qrV:∀{x:List (List Nat)} {a:Nat},(∀l∈x,∀c∈l,c<256)->a<4294967296->x.foldl (regN tableN) a<4294967296
 | [],a,_,ha=>ha
 | l :: r,a,h,ha=>qrV (x:=r) (fun l hl=>h l (List.mem_cons_of_mem _ hl)) (qaQ (fun _ hi=>zw7 hi) (h l List.mem_cons_self) ha)
theorem zsG {x:List (List Nat)} (h:∀l∈x,∀c∈l,c<256):accN x<4294967296:=qrV h (by decide)
theorem zzZ {x:List (List Nat)} (h:zjM x) (i:Nat):accN (x.take i)<4294967296:=zsG fun l hl=>(h.1 l (List.mem_of_mem_take hl)).1

theorem sumV:(
 let q1:Prop:=true=true/\zaC/\0=0;
 let q2:Prop:=(295:TypeId)=295; ∀(x:List (List Nat)),
 let q4:Prop:=1=1/\x.length=x.length/\∀(i:Nat),
 let q3:List AV:=[AV.ro 1 (x.getD i []).length fun i_1=>[AV.int .u8 (↑((x.getD i []).getD i_1 0):Int)]]; i<x.length->q3=q3;
 let q5:Prop:=Tr 1 ((x.length:Int)=(x.length:Int)); zjM x->Exx Unit fun x_1=>Tr 1 (true=true/\True)/\Tr 1 (∀(y:Unit),True->Exx (Nat->Prop) fun I=>Exx (Nat->Nat) fun m=>(Exx Nat fun t=>I t/\Tr 3 (q1/\Tr 1 (4294967295=(↑(accN (List.take t x)):Int))/\Tr 3 (q4/\q5/\Tr 1 (0=(t:Int))/\Tr 9 True))/\true=true/\(295=(295:TypeId)/\1=1/\16=16/\(∀(i:Nat),i<16->[AV.int .u32 (↑(tableN i):Int)]=[AV.int .u32 (↑(tableN i):Int)])/\True)/\True)/\∀(t:Nat),
 let q6:Prop:=(t:Int)<(x.length:Int);
 let q7:Int:=(t:Int)+1; I t->BC (decide q6) (((0:Int) <= (t:Int)/\q6)/\Exx ((Nat->Nat)×Nat×List Nat) fun x_2=>((q1/\Tr 1 ((↑(accN (List.take t x)):Int)=(x_2.2.1:Int))/\((x.getD (t:Int).toNat []).length=x_2.2.2.length/\∀(i:Nat),i<x_2.2.2.length->[AV.int .u8 (↑((x.getD (t:Int).toNat []).getD i 0):Int)]=[AV.int .u8 (↑(x_2.2.2.getD i 0):Int)])/\True)/\true=true/\(q2/\1=1/\16=16/\(∀(i:Nat),i<16->[AV.int .u32 (↑(tableN i):Int)]=[AV.int .u32 (↑(x_2.1 i):Int)])/\True)/\True)/\((∀(i:Nat),i<16->x_2.1 i<4294967296)/\x_2.2.1<4294967296/\zsJ x_2.2.2)/\∀(y:Unit),True->I64 q7/\Exx Nat fun t'=>(I t'/\m t'<m t)/\Tr 3 (q1/\Tr 1 ((↑(regN x_2.1 x_2.2.1 x_2.2.2):Int)=(↑(accN (List.take t' x)):Int))/\Tr 3 (q4/\q5/\Tr 1 (q7=(↑t':Int))/\Tr 9 True))/\true=true/\(q2/\1=1/\16=16/\(∀(i:Nat),i<16->[AV.int .u32 (↑(x_2.1 i):Int)]=[AV.int .u32 (↑(tableN i):Int)])/\True)/\True) (∀(n:Int),n=bits BinOp.xor IntKind.u32 (↑(accN (List.take t x)):Int) 4294967295->Exx Unit fun y=>((Tr 1 (n=(↑(sumN x):Int))/\True)/\true=true/\True)/\True)))=(fnVC tb [(189,zaA qiF),(190,zaA zlY)] Tryz.f167 sumC (fun x=>{ loops:=[(3,sumL x)] }) (fun _=>none)):=by kernel_rfl

theorem qq9:SpecOk Tryz.prog 167 (zaA sumC):=by
 refine zaK zaM zaL (SPok.cons qoD (SPok.cons qaP SPok.nil)) Tryz.func167 (by decide) (zaO fun _=>rfl) (Eq.mp sumV ?_)
 simp (maxSteps:=10000000) only [std,stdU,stdV,Exx,I64,Nat.reduceMul,Nat.reduceDiv,Nat.reduceAdd,Int.reduceToNat]
 intro x hx
 have hlen:=hx.2
 refine ⟨fun i=>i <= x.length,⟨0,by omega,rfl,rfl⟩,fun i=>x.length-i,fun i hi=>⟨fun hlt=>⟨by omega,by omega,tableN,fun _ _=>rfl,fun _ h=>zw7 h,zzZ hx i,qhF hx i,by omega,by omega,i+1,by omega,by simp only; omega,?_,by omega,fun _ _=>rfl⟩,fun hge=>?_⟩⟩
 ·exact (zjD (regN tableN) ones [] (by omega)).symm
 ·rw [show i=x.length by omega,List.take_length,qn2 (zsG fun l hl=>(hx.1 l hl).1)]
  rfl

theorem zl2:∀{l:List Nat} {a:Nat},(∀c∈l,c<256)->a<4294967296->l.foldl (fun x c=>stepsN 8 (x ^^^ c)) a<4294967296
 | [],a,_,ha=>ha
 | c :: r,a,h,ha=>zl2 (l:=r) (fun l hl=>h l (List.mem_cons_of_mem _ hl)) (ziL (qe1 ha (by have:=h c List.mem_cons_self; omega)) 8)

theorem refSumV:(∀(x:List Nat),
 let q2:Prop:=1=1/\x.length=x.length/\∀(i:Nat),
 let q1:List AV:=[AV.int .u8 (↑(x.getD i 0):Int)]; i<x.length->q1=q1; zsJ x->Exx (Nat->Prop) fun I=>Exx (Nat->Nat) fun m=>(Exx Nat fun t=>I t/\(q2/\Tr 2 (Tr 1 (4294967295=(↑(zfB (List.take t x)):Int))/\Tr 1 (0=(t:Int))/\Tr 16 True))/\true=true/\True)/\∀(t:Nat),
 let q3:Prop:=(t:Int)<(x.length:Int);
 let q4:Int:=(t:Int)+1; I t->BC (decide q3) (((0:Int) <= (t:Int)/\q3)/\∀(m_1:Int),m_1=IntKind.u32.wrap (↑(x.getD (t:Int).toNat 0):Int)->∀(n:Int),n=bits BinOp.xor IntKind.u32 (↑(zfB (List.take t x)):Int) m_1->Exx (Nat×Nat) fun x_1=>((Tr 1 (n=(x_1.1:Int))/\Tr 1 (8=(x_1.2:Int))/\True)/\true=true/\True)/\(x_1.1<4294967296/\x_1.2 <= 1000)/\∀(y:Unit),True->I64 q4/\Exx Nat fun t'=>(I t'/\m t'<m t)/\(q2/\Tr 2 (Tr 1 ((↑(stepsN x_1.2 x_1.1):Int)=(↑(zfB (List.take t' x)):Int))/\Tr 1 (q4=(↑t':Int))/\Tr 16 True))/\true=true/\True) (∀(n:Int),n=IntKind.u32.wrap (4294967295-(↑(zfB (List.take t x)):Int))->Exx Unit fun y=>((Tr 1 (n=(↑(ones-zfB x):Int))/\True)/\true=true/\True)/\True))=(fnVC tb [(119,zaA qiP)] Tryz.f84 qaS (fun x=>{ loops:=[(3,refSumL x)] }) (fun _=>none)):=by kernel_rfl

theorem qjL:SpecOk Tryz.prog 84 (zaA qaS):=by
 refine zaK zaM zaL (SPok.cons qoG SPok.nil) Tryz.func84 (by decide) (zaO fun _=>rfl) (Eq.mp refSumV ?_)
 simp (maxSteps:=10000000) only [std,stdU,stdV,Exx,I64,Nat.reduceMul,Nat.reduceDiv,Nat.reduceAdd,Int.reduceToNat]
 intro l hl
 have hlen:=hl.2
 refine ⟨fun i=>i <= l.length,⟨0,by omega,rfl,rfl⟩,fun i=>l.length-i,fun i hi=>⟨fun hlt=>⟨by omega,by omega,?_⟩,fun hge=>?_⟩⟩
 ·have hc:=zzP hl i
  have hr:zfB (l.take i)<4294967296:=zl2 (fun c hc=>hl.1 c (List.mem_of_mem_take hc)) (by decide)
  rw [zsX (by omega),zuF hr (by omega)]
  refine ⟨zfB (l.take i) ^^^ l.getD i 0,rfl,8,rfl,qe1 hr (by omega),by omega,by omega,by omega,i+1,by omega,by simp only; omega,?_,by omega⟩
  exact (zjD (fun x c=>stepsN 8 (x ^^^ c)) ones 0 (by omega)).symm
 ·rw [show i=l.length by omega,List.take_length]
  have hr:zfB l<4294967296:=zl2 hl.1 (by decide)
  have e:(4294967295:Int)-((zfB l:Nat):Int)=((ones-zfB l:Nat):Int):=by unfold ones; omega
  rw [e,zsX (by unfold ones; omega)]

theorem qoF:(∀(x:Nat×List (List Nat)),x.1<4294967296/\zjM x.2->Exx (List (List Nat)) fun x_1=>(((x.2.length=x_1.length/\∀(i:Nat),i
 < x_1.length->[AV.ro 1 (x.2.getD i []).length fun i_1=>[AV.int .u8 (↑((x.2.getD i []).getD i_1 0):Int)]]=[AV.ro 1 (x_1.getD i []).length fun i_1 =>
 [AV.int .u8 (↑((x_1.getD i []).getD i_1 0):Int)]])/\True)/\true=true/\True)/\zjM x_1/\∀(y:Unit),True->Exx Unit fun y=>((decide ((↑(sumN x_1)
 : Int)=(x.1:Int))=decide (sumN x.2=x.1)/\True)/\true=true/\True)/\True)=(fnVC tb [(167,zaA sumC)] Tryz.f188 zuM (fun _=>{}) (fun _
 => none)):=by kernel_rfl

theorem qfF:SpecOk Tryz.prog 188 (zaA zuM):=by
 refine zaK zaM zaL (SPok.cons qq9 SPok.nil) Tryz.func188 (by decide) (zaO fun _=>rfl) (Eq.mp qoF ?_)
 simp (maxSteps:=10000000) only [std,stdU,stdV,Exx,I64,Nat.reduceMul,Nat.reduceDiv,Nat.reduceAdd,Int.reduceToNat]
 exact fun _ _ h=>h.2

end Yard
