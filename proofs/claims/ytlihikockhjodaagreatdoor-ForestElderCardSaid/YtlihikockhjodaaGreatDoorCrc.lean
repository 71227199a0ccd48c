import Derived.Test.YtlihikockhjodaaGreatDoorSxZ
import Derived.Test.YtlihikockhjodaaGreatDoorRef01

namespace Yard

def zrT (n:Nat):Nat:=if n % 2=1 then (n / 2) ^^^ 2197175160 else n / 2
def zmW:Nat->Nat->Nat
 | 0,n=>n
 | k+1,n=>zrT (zmW k n)

theorem qjM {n:Nat} (h:n<4294967296):zrT n<4294967296:=by
 unfold zrT
 split
 ·exact Nat.xor_lt_two_pow (n:=32) (by omega) (by omega)
 ·omega
theorem zn7 {n:Nat} (h:n<4294967296):∀k,zmW k n<4294967296
 | 0=>h
 | k+1=>qjM (zn7 h k)
def numN:List Nat->Nat
 | []=>0
 | c :: r=>c+256*numN r

def qk4 (f:Nat->Nat) (x:Nat):Nat:=(x / 16) ^^^ f (x % 16)
end Yard


namespace Yard
open Go Go.Sx

def layN:Nat->Nat->List Nat
 | _,0=>[]
 | v,n+1=>v % 256 :: layN (v / 256) n
theorem zaE:∀(n v:Nat),(layN v n).length=n
 | 0,_=>rfl
 | n+1,v=>by simp [layN,zaE n]
theorem zu7:∀(n v i:Nat),i<n->(layN v n).getD i 0=v / 256 ^ i % 256
 | 0,_,i,h=>absurd h (Nat.not_lt_zero _)
 | n+1,v,0,_=>by simp [layN]
 | n+1,v,i+1,h=>by
   simp only [layN,List.getD_cons_succ]
   rw [zu7 n (v / 256) i (by omega),Nat.pow_succ,Nat.div_div_eq_div_mul,Nat.mul_comm]
theorem zf8:∀(n v:Nat),∀c∈layN v n,c<256
 | 0,_,c,h=>by cases h
 | n+1,v,c,h=>by
   rcases List.mem_cons.1 h with rfl | h
   ·exact Nat.mod_lt _ (by decide)
   ·exact zf8 n _ c h
theorem zeG:∀(n v:Nat),v<256 ^ n->numN (layN v n)=v
 | 0,v,h=>by have:v=0:=by simpa using h
             subst this; rfl
 | n+1,v,h=>by
   rw [layN,numN,zeG n (v / 256) (by rw [Nat.pow_succ] at h; exact Nat.div_lt_of_lt_mul (by omega))]
   omega
theorem zl7:∀(l:List Nat),(∀c∈l,c<256)->numN l<256 ^ l.length
 | [],_=>by simp [numN]
 | c :: r,h=>by
   have h1:=h c List.mem_cons_self
   have h2:=zl7 r fun c hc=>h c (List.mem_cons_of_mem _ hc)
   rw [List.length_cons,Nat.pow_succ,numN]; omega
theorem qf3:∀(l:List Nat),(∀c∈l,c<256)->layN (numN l) l.length=l
 | [],_=>rfl
 | c :: r,h=>by
   have h1:=h c List.mem_cons_self
   have h2:=qf3 r fun c hc=>h c (List.mem_cons_of_mem _ hc)
   rw [List.length_cons,layN,numN,show (c+256*numN r) % 256=c by omega,show (c+256*numN r) / 256=numN r by omega,h2]
theorem zuV:∀(l:List Nat) (c:Nat),numN (l++[c])=numN l+256 ^ l.length*c
 | [],c=>by simp [numN]
 | a :: r,c=>by
   rw [List.cons_append,numN,zuV r c,numN,List.length_cons,Nat.pow_succ,Nat.mul_add,Nat.add_assoc]
   congr 2
   rw [<- Nat.mul_assoc,Nat.mul_comm 256]

def layL (v:Nat) (n:Int):List Nat:=if 0 <= n/\n <= 8 then layN v n.toNat else []
def zdN (l:List Nat):Nat:=numN (l.take 8)
def hasB (len:Nat) (at_ n:Int):Prop:=0 <= at_/\0 <= n/\at_+n <= (len:Int)
instance (len:Nat) (at_ n:Int):Decidable (hasB len at_ n):=by unfold hasB; infer_instance
def cut (l:List Nat) (at_ n:Int):List Nat:=(l.drop at_.toNat).take n.toNat
def zo6 (len:Nat) (at_ n:Int):Prop:=1 <= n/\n <= 8/\hasB len at_ n
instance (len:Nat) (at_ n:Int):Decidable (zo6 len at_ n):=by unfold zo6; infer_instance
def getN (l:List Nat) (at_ n:Int):Nat:=if zo6 l.length at_ n then numN (cut l at_ n) else 0
def zd3 (l:List Nat) (at_ n:Int):Bool:=decide (hasB l.length at_ n)&&(cut l at_ n).all (fun c=>decide (c=0))
def zbL (l:List Nat):List Nat:=(List.range (l.length / 8)).map fun i=>numN ((l.drop (8*i)).take 8)
def zaG (ws:List Nat):List Nat:=ws.flatMap fun w=>layN w 8

theorem zbR:∀(ws:List Nat),(zaG ws).length=8*ws.length
 | []=>rfl
 | w :: r=>by
   have:=zbR r
   simp only [zaG,List.flatMap_cons,List.length_append,zaE,List.length_cons] at *
   omega
theorem zqW:∀(ws:List Nat),∀c∈zaG ws,c<256
 | [],c,h=>by cases h
 | w :: r,c,h=>by
   simp only [zaG,List.flatMap_cons,List.mem_append] at h
   rcases h with h | h
   ·exact zf8 _ _ c h
   ·exact zqW r c h
theorem zuU (ws:List Nat) (w:Nat):zaG (ws++[w])=zaG ws++layN w 8:=by simp [zaG]

end Yard


namespace Yard
open Go Go.Sx Go.Proofs
set_option linter.unusedVariables false
set_option linter.unusedSimpArgs false
set_option maxRecDepth 4000

def U64 (n:Nat):Prop:=n<18446744073709551616
abbrev octA (l:List Nat):AV:=qbU .u8 l
def Oct (l:List Nat):Prop:=(∀x∈l,x<256)/\l.length <= 100000000
def layC:Ctr:=rowC (Nat×Int) (fun x=>U64 x.1/\I64 x.2) (fun x=>[u64 x.1,i64 x.2]) 5 .u8 (fun x=>layL x.1 x.2) (fun _ r=>r)
def zw7:Ctr:=zcR (List Nat) Oct (fun l=>[octA l]) (fun l=>u64 (zdN l))
def zzA:Ctr:=zcR (List Nat×Int×Int) (fun x=>Oct x.1/\I64 x.2.1/\I64 x.2.2) (fun x=>[octA x.1,i64 x.2.1,i64 x.2.2]) (fun x => .bool (decide (hasB x.1.length x.2.1 x.2.2)))
def getC:Ctr:=zcR (List Nat×Int×Int) (fun x=>Oct x.1/\I64 x.2.1/\I64 x.2.2) (fun x=>[octA x.1,i64 x.2.1,i64 x.2.2]) (fun x => .tup [u64 (getN x.1 x.2.1 x.2.2),.bool (decide (zo6 x.1.length x.2.1 x.2.2))])
def zk6:Ctr:=zcR (List Nat×Int×Int) (fun x=>Oct x.1/\I64 x.2.1/\I64 x.2.2) (fun x=>[octA x.1,i64 x.2.1,i64 x.2.2]) (fun x => .bool (zd3 x.1 x.2.1 x.2.2))
def qc3:Ctr:=rowC (List Nat) Oct (fun l=>[octA l]) 111 .u64 zbL (fun _ r=>r)
def zsF:Ctr:=rowC (List Nat) (fun l=>(∀w∈l,U64 w)/\l.length <= 1000000) (fun l=>[qbU .u64 l]) 5 .u8 zaG (fun _ r=>r)

def layF (v i:Nat):Nat->List AV:=fun j=>[.int .u8 ((if j<i then v / 256 ^ j % 256 else 0:Nat):Int)]
def layLA (x:Nat×Int):LA:={ T:=Nat,F:=fun i=>frm 29 [(0,u64 (x.1 / 256 ^ i)),(5,.sl 1 [] 0 1 0 x.2.toNat x.2.toNat),(16,i64 x.2),(17,i64 (i:Int))],H:=fun i=>[.fence,.row 5 1 x.2.toNat x.2.toNat (layF x.1 i)] }

theorem wrap8 (n:Nat):IntKind.u8.wrap (n:Int)=((n % 256:Nat):Int):=by
 unfold IntKind.wrap
 simp only [IntKind.signed,Bool.false_and,Bool.false_eq_true,if_false]
 rfl
theorem qc1 {n:Nat} (h:U64 n):IntKind.u64.wrap (n:Int)=n:=zeZ (k := .u64) rfl h
theorem shr8 (n:Nat):((n:Nat):Int).fdiv (2 ^ min 8 IntKind.u64.bits)=((n / 256:Nat):Int):=zrV (i:=8) (n:=IntKind.u64.bits) (by decide)
theorem zmD {v:Nat} {n:Int} (h:0 <= n/\n <= 8):layL v n=layN v n.toNat:=if_pos h
theorem zzY {v:Nat} {n:Int} (h:¬(0 <= n/\n <= 8)):layL v n=[]:=if_neg h

theorem layV:(
 let q1:Prop:=(5:TypeId)=5; ∀(x:Nat×Int),
 let q2:Prop:=(layL x.1 x.2).length=0;
 let q3:Prop:=Exx Nat fun y=>(((q2/\y=0)/\True)/\true=true/\(y=0/\q2)/\True)/\(layL x.1 x.2).length <= y;
 let q4:Prop:=true=true/\zaC/\(0:Nat)=0/\(1:Nat)=1/\(0:Nat)=0/\x.2.toNat=x.2.toNat/\x.2.toNat=x.2.toNat; U64 x.1/\I64 x.2->BC (decide (x.2<(0:Int))) q3 (BC (decide ((8:Int)<x.2)) q3 (((0:Int) <= x.2/\x.2 <= x.2/\(↑(1:Nat):Int)*x.2 <= (281474976710656:Int)/\x.2 <= (9223372036854775807:Int))/\Exx (Nat->Prop) fun I=>Exx (Nat->Nat) fun m=>(Exx Nat fun t=>I t/\(Tr 1 ((x.1:Int)=(↑(x.1 / 256 ^ t):Int))/\Tr 4 (q4/\Tr 10 (Tr 1 ((x.2.toNat:Int)=x.2)/\Tr 1 ((0:Int)=(t:Int))/\Tr 11 True)))/\true=true/\(q1/\(1:Nat)=1/\x.2.toNat=x.2.toNat/\x.2.toNat <= x.2.toNat/\∀(i:Nat),i<x.2.toNat->[AV.int .u8 0]=[AV.int .u8 (↑(if i<t then x.1 / 256 ^ i % 256 else 0):Int)])/\True)/\∀(t:Nat),
 let q5:Int:=(↑(x.1 / 256 ^ t):Int);
 let q6:Nat:=0+(t:Int).toNat;
 let q7:Int:=(t:Int)+1; I t->BC (decide ((t:Int)<x.2)) (∀(m_1:Int),m_1=IntKind.u8.wrap q5->((0:Int) <= (t:Int)/\(t:Int)<(x.2.toNat:Int))/\q6<x.2.toNat/\x.2.toNat=x.2.toNat/\(0:Int) <= (8:Int)/\∀(n:Int),n=q5.fdiv (2 ^ min (Int.toNat 8) IntKind.u64.bits)->I64 q7/\Exx Nat fun t'=>(I t'/\m t'<m t)/\(Tr 1 (n=(↑(x.1 / 256 ^ t'):Int))/\Tr 4 (q4/\Tr 10 (Tr 1 (x.2=x.2)/\Tr 1 (q7=(↑t':Int))/\Tr 11 True)))/\true=true/\(q1/\(1:Nat)=1/\x.2.toNat=x.2.toNat/\x.2.toNat <= x.2.toNat/\∀(i:Nat),
 let q8:Nat:=x.1 / 256 ^ i % 256; i<x.2.toNat->[AV.int .u8 (if i=q6 then m_1 else (↑(if i<t then q8 else 0):Int))]=[AV.int .u8 (↑(if i<t' then q8 else 0):Int)])/\True) (Exx Nat fun y=>(((true=true/\zaC/\(0:Nat)=0/\(1:Nat)=1/\(0:Nat)=0/\x.2.toNat=(layL x.1 x.2).length/\x.2.toNat=y)/\True)/\true=true/\(q1/\(1:Nat)=1/\x.2.toNat=y/\(layL x.1 x.2).length <= x.2.toNat/\∀(i:Nat),i<(layL x.1 x.2).length->[AV.int .u8 (↑(if i<t then x.1 / 256 ^ i % 256 else 0):Int)]=[AV.int .u8 (↑((layL x.1 x.2).getD i 0):Int)])/\True)/\(layL x.1 x.2).length <= y))))=(fnVC tb [] Tryz.f129 layC (fun x=>{ loops:=[(5,layLA x)] }) (fun _=>none)):=by kernel_rfl

theorem zu6:SpecOk Tryz.prog 129 (zaB layC):=by
 refine zaK zaL zaN SPok.nil Tryz.func129 (by decide) (zf6 fun _ _ _=>rfl) (Eq.mp layV ?_)
 simp (maxSteps:=10000000) only [std,stdU,stdV,Exx,I64,Nat.reduceMul,Nat.reduceDiv,Nat.reduceAdd,Int.reduceToNat]
 rintro v n ⟨hv,h1,h2⟩
 refine ⟨fun h=>by rw [zzY (by omega)]; simp,fun h=>⟨fun h'=>by rw [zzY (by omega)]; simp,fun h'=>?_⟩⟩
 rw [zmD (by omega),zaE]
 refine ⟨by omega,by omega,by omega,by omega,fun i=>i <= n.toNat,⟨0,by omega,by simp,by omega,rfl,fun i _=>by simp⟩,fun i=>n.toNat-i,fun i hi=>⟨fun hlt=>?_,fun hlt=>?_⟩⟩
 ·rw [shr8,wrap8]
  refine ⟨by omega,by omega,by omega,by omega,by omega,by omega,i+1,by omega,by simp only; omega,by rw [Nat.pow_succ,Nat.div_div_eq_div_mul],by omega,fun j hj=>?_⟩
  by_cases e:j=i
  ·subst e; rw [if_pos rfl,if_pos (by omega)]
  ·rw [if_neg e]
   by_cases e2:j<i
   ·rw [if_pos e2,if_pos (by omega)]
   ·rw [if_neg e2,if_neg (by omega)]
 ·refine ⟨rfl,by omega,fun j hj=>?_,by omega⟩
  rw [if_pos (by omega),zu7 _ _ _ hj]

def readLA (l:List Nat):LA:={ T:=Nat,F:=fun i=>frm 26 [(3,u64 (numN (l.take i))),(10,.ro 1 (min l.length 8) (fun i=>[.int .u8 ((l.getD i 0:Nat):Int)])),(11,i64 (min l.length 8:Nat)),(12,i64 (i:Int))],H:=fun _=>[.fence] }

theorem num_or {l:List Nat} {i:Nat} (hl:∀c∈l,c<256) (hi:i<l.length) (h8:i<8):bits BinOp.or IntKind.u64 ((numN (l.take i):Nat):Int) (IntKind.u64.wrap (IntKind.u64.wrap ((l.getD i 0:Nat):Int)*2 ^ min (8*(i:Int)).toNat IntKind.u64.bits))=((numN (l.take (i+1)):Nat):Int):=by
 have hc:l.getD i 0<256:=getD_mem (p:=fun c=>c<256) hl (by decide) i
 have h1:=zl7 (l.take i) fun c hc=>hl c (List.mem_of_mem_take hc)
 have hlen:(l.take i).length=i:=by simp; omega
 rw [hlen] at h1
 have h256:(256:Nat) ^ i=2 ^ (8*i):=by rw [Nat.pow_mul]
 have hpow:(2:Nat) ^ (8*i)*256 <= 18446744073709551616:=by
  have:=Nat.pow_le_pow_right (n:=2) (by decide) (show 8*i+8 <= 64 by omega)
  rw [Nat.pow_add] at this; simpa using this
 have hb:l.getD i 0*2 ^ (8*i)<2 ^ IntKind.u64.bits:=by
  have:(l.getD i 0+1)*2 ^ (8*i) <= 256*2 ^ (8*i):=Nat.mul_le_mul_right _ hc
  have hp:0<2 ^ (8*i):=Nat.pos_of_ne_zero (by simp)
  rw [Nat.add_mul,Nat.one_mul] at this
  show _<18446744073709551616
  omega
 rw [qc1 (show l.getD i 0<_ by omega),show (8*(i:Int)).toNat=8*i by omega,qd3 (k := .u64) rfl (n:=IntKind.u64.bits) (show 8*i <= 64 by omega) hb]
 have h2:numN (l.take i)<2 ^ IntKind.u64.bits:=by
  rw [h256] at h1
  have:(2:Nat) ^ (8*i) <= 18446744073709551616:=by omega
  exact Nat.lt_of_lt_of_le h1 this
 rw [qhS (k := .u64) rfl h2 hb,zl4 (by rw [<- h256]; exact h1),zb6 0 hi,zuV,hlen,h256,Nat.mul_comm]

theorem readV:(∀(x:List Nat),
 let q1:Int:=min (x.length:Int) 8;
 let q2:Nat:=q1.toNat;
 let q3:Nat:=q2-0;
 let q4:Int:=(↑(min x.length 8):Int); Oct x->(0:Int) <= q1/\(0 <= q2/\q2 <= x.length)/\Exx (Nat->Prop) fun I=>Exx (Nat->Nat) fun m=>(Exx Nat fun t=>I t/\Tr 3 (Tr 1 ((0:Int)=(↑(numN (List.take t x)):Int))/\Tr 6 (((1:Nat)=1/\q3=min x.length 8/\∀(i:Nat),i<q3->[AV.int .u8 (↑(x.getD (0+i) 0):Int)]=[AV.int .u8 (↑(x.getD i 0):Int)])/\Tr 1 ((q3:Int)=q4)/\Tr 1 ((0:Int)=(t:Int))/\Tr 13 True))/\true=true/\True)/\∀(t:Nat),
 let q5:Int:=8*(t:Int);
 let q6:Int:=(t:Int)+1; I t->BC (decide ((t:Int)<q4)) (((0:Int) <= (t:Int)/\(t:Int)<q4)/\∀(m_1:Int),m_1=IntKind.u64.wrap (↑(x.getD (t:Int).toNat 0):Int)->I64 q5/\(0:Int) <= q5/\∀(n:Int),n=IntKind.u64.wrap (m_1*2 ^ min q5.toNat IntKind.u64.bits)->∀(n_1:Int),n_1=bits BinOp.or IntKind.u64 (↑(numN (List.take t x)):Int) n->I64 q6/\Exx Nat fun t'=>(I t'/\m t'<m t)/\Tr 3 (Tr 1 (n_1=(↑(numN (List.take t' x)):Int))/\Tr 6 (((1:Nat)=1/\min x.length 8=min x.length 8/\∀(i:Nat),
 let q7:List AV:=[AV.int .u8 (↑(x.getD i 0):Int)]; i<min x.length 8->q7=q7)/\Tr 1 (q4=q4)/\Tr 1 (q6=(↑t':Int))/\Tr 13 True))/\true=true/\True) (Exx Unit fun y=>((Tr 1 ((↑(numN (List.take t x)):Int)=(↑(zdN x):Int))/\True)/\true=true/\True)/\True))=(fnVC tb [] Tryz.f157 zw7 (fun x=>{ loops:=[(3,readLA x)] }) (fun _=>none)):=by kernel_rfl

theorem zoN:SpecOk Tryz.prog 157 (zaB zw7):=by
 refine zaK zaL zaN SPok.nil Tryz.func157 (by decide) (zaW fun _=>rfl) (Eq.mp readV ?_)
 simp (maxSteps:=10000000) only [std,stdU,stdV,Exx,I64,Nat.reduceMul,Nat.reduceDiv,Nat.reduceAdd,Int.reduceToNat]
 rintro l ⟨hl,hlen⟩
 refine ⟨by omega,by omega,by omega,fun i=>i <= min l.length 8,⟨0,by omega,rfl,by omega,by omega,rfl⟩,fun i=>min l.length 8-i,fun i hi=>⟨fun hlt=>?_,fun hlt=>?_⟩⟩
 ·repeat refine And.intro (by omega) ?_
  exact ⟨i+1,by omega,by simp only; omega,num_or hl (by omega) (by omega),by omega⟩
 ·rw [show i=min l.length 8 by omega,zdN]
  congr 1
  by_cases h:l.length <= 8
  ·rw [List.take_of_length_le (by omega),List.take_of_length_le (by omega)]
  ·rw [show min l.length 8=8 by omega]

theorem thereV:(∀(x:List Nat×Int×Int),
 let q1:Int:=(x.1.length:Int)-x.2.2;
 let q2:Bool:=decide (hasB x.1.length x.2.1 x.2.2);
 let q3:Prop:=Exx Unit fun y=>((false=q2/\True)/\true=true/\True)/\True; Oct x.1/\I64 x.2.1/\I64 x.2.2->BC (decide ((0:Int) <= x.2.1)) (BC (decide ((0:Int) <= x.2.2)) (BC (decide (x.2.2 <= (x.1.length:Int))) (I64 q1/\Exx Unit fun y=>((decide (x.2.1 <= q1)=q2/\True)/\true=true/\True)/\True) q3) q3) q3)=(fnVC tb [] Tryz.f165 zzA (fun _=>{}) (fun _=>none)):=by kernel_rfl

theorem zy9:SpecOk Tryz.prog 165 (zaB zzA):=by
 refine zaK zaL zaN SPok.nil Tryz.func165 (by decide) (zaW fun _=>rfl) (Eq.mp thereV ?_)
 simp (maxSteps:=10000000) only [std,stdU,stdV,Exx,I64,Nat.reduceMul,Nat.reduceDiv,Nat.reduceAdd,Int.reduceToNat]
 rintro l a n ⟨hl,h1,h2,h3,h4⟩
 have hlen:=hl.2
 unfold hasB
 refine ⟨fun h=>⟨fun h'=>⟨fun h''=>⟨by omega,by omega,decide_eq_decide.2 (by omega)⟩,fun h''=>?_⟩,fun h'=>?_⟩,fun h=>?_⟩
 all_goals exact (decide_eq_false (by omega)).symm

theorem cut_mem {l:List Nat} {a n:Int} {p:Nat->Prop} (h:∀x∈l,p x):∀x∈cut l a n,p x:=fun x hx=>h x (List.mem_of_mem_drop (List.mem_of_mem_take hx))
theorem zgV {l:List Nat} {a n:Int} (h:hasB l.length a n):(cut l a n).length=n.toNat:=by
 unfold hasB at h
 simp only [cut,List.length_take,List.length_drop]; omega
theorem ztD {l:List Nat} {a n:Int} {i:Nat} (hi:i<n.toNat):(cut l a n).getD i 0=l.getD (a.toNat+i) 0:=by
 rw [cut,za3,if_pos hi,za6]

theorem getV:(∀(x:List Nat×Int×Int),
 let q1:Int:=(↑(getN x.1 x.2.1 x.2.2):Int);
 let q2:Bool:=decide (zo6 x.1.length x.2.1 x.2.2);
 let q3:Prop:=Exx Unit fun y=>(((Tr 1 ((0:Int)=q1)/\false=q2/\True)/\True)/\true=true/\True)/\True;
 let q4:Int:=x.2.1+x.2.2;
 let q5:Nat:=q4.toNat; Oct x.1/\I64 x.2.1/\I64 x.2.2->BC (decide (x.2.2<(1:Int))) q3 (BC (decide ((8:Int)<x.2.2)) q3 (Exx (List Nat×Int×Int) fun x_1=>(((x.1.length=x_1.1.length/\∀(i:Nat),i<x_1.1.length->[AV.int .u8 (↑(x.1.getD i 0):Int)]=[AV.int .u8 (↑(x_1.1.getD i 0):Int)])/\Tr 1 (x.2.1=x_1.2.1)/\Tr 1 (x.2.2=x_1.2.2)/\True)/\true=true/\True)/\(Oct x_1.1/\I64 x_1.2.1/\I64 x_1.2.2)/\∀(y:Unit),True->BC (!decide (hasB x_1.1.length x_1.2.1 x_1.2.2)) q3 (I64 q4/\(0:Int) <= q4/\(0:Int) <= x.2.1/\(x.2.1.toNat <= q5/\q5 <= x.1.length)/\Exx (List Nat) fun x_2=>(((q5-x.2.1.toNat=x_2.length/\∀(i:Nat),i<x_2.length->[AV.int .u8 (↑(x.1.getD (x.2.1.toNat+i) 0):Int)]=[AV.int .u8 (↑(x_2.getD i 0):Int)])/\True)/\true=true/\True)/\Oct x_2/\∀(y:Unit),True->Exx Unit fun y=>(((Tr 1 ((↑(zdN x_2):Int)=q1)/\true=q2/\True)/\True)/\true=true/\True)/\True))))=(fnVC tb [(157,zaB zw7),(165,zaB zzA)] Tryz.f162 getC (fun _=>{}) (fun _=>none)):=by kernel_rfl

theorem get_ok:SpecOk Tryz.prog 162 (zaB getC):=by
 refine zaK zaL zaN (SPok.cons zoN (SPok.cons zy9 SPok.nil)) Tryz.func162 (by decide) (zaW fun _=>⟨rfl,rfl,trivial⟩) (Eq.mp getV ?_)
 simp (maxSteps:=10000000) only [std,stdU,stdV,Exx,I64,Nat.reduceMul,Nat.reduceDiv,Nat.reduceAdd,Int.reduceToNat]
 rintro l a n ⟨hl,h1,h2,h3,h4⟩
 have hno:∀{p:Prop},¬zo6 l.length a n->((0:Int)=((getN l a n:Nat):Int)/\false=decide (zo6 l.length a n)):=fun h=>⟨by rw [getN,if_neg h]; rfl,(decide_eq_false h).symm⟩
 refine ⟨fun h=>hno (p:=True) (by unfold zo6; omega),fun h=>⟨fun h'=>hno (p:=True) (by unfold zo6; omega),fun h'=>⟨hl,h1,h2,h3,h4,fun h''=>hno (p:=True) (fun k=>h'' k.2.2),fun h''=>?_⟩⟩⟩
 have hb:=h''
 unfold hasB at hb
 have hok:zo6 l.length a n:=⟨by omega,by omega,h''⟩
 have hlen:=hl.2
 repeat refine And.intro (by omega) ?_
 refine ⟨cut l a n,by rw [zgV h'']; omega,fun i hi=>by rw [ztD (by rw [zgV h''] at hi; exact hi)],⟨cut_mem hl.1,by rw [zgV h'']; omega⟩,?_,(decide_eq_true hok).symm⟩
 rw [getN,if_pos hok,zdN,List.take_of_length_le]
 rw [zgV h'']; omega

def qfH (x:List Nat×Int×Int):LA:={ T:=Nat,F:=fun i=>frm 28 [(19,.ro 1 x.2.2.toNat (fun j=>[.int .u8 ((x.1.getD (x.2.1.toNat+j) 0:Nat):Int)])),(20,i64 x.2.2),(21,i64 (i:Int))],H:=fun _=>[.fence] }

theorem qkK:(∀(x:List Nat×Int×Int),
 let q1:Bool:=zd3 x.1 x.2.1 x.2.2;
 let q2:Prop:=Exx Unit fun y=>((false=q1/\True)/\true=true/\True)/\True;
 let q3:Int:=x.2.1+x.2.2;
 let q4:Nat:=q3.toNat;
 let q5:Nat:=q4-x.2.1.toNat; Oct x.1/\I64 x.2.1/\I64 x.2.2->Exx (List Nat×Int×Int) fun x_1=>(((x.1.length=x_1.1.length/\∀(i:Nat),i<x_1.1.length->[AV.int .u8 (↑(x.1.getD i 0):Int)]=[AV.int .u8 (↑(x_1.1.getD i 0):Int)])/\Tr 1 (x.2.1=x_1.2.1)/\Tr 1 (x.2.2=x_1.2.2)/\True)/\true=true/\True)/\(Oct x_1.1/\I64 x_1.2.1/\I64 x_1.2.2)/\∀(y:Unit),True->BC (!decide (hasB x_1.1.length x_1.2.1 x_1.2.2)) q2 (I64 q3/\(0:Int) <= q3/\(0:Int) <= x.2.1/\(x.2.1.toNat <= q4/\q4 <= x.1.length)/\Exx (Nat->Prop) fun I=>Exx (Nat->Nat) fun m=>(Exx Nat fun t=>I t/\Tr 19 (((1:Nat)=1/\q5=x.2.2.toNat/\∀(i:Nat),
 let q6:List AV:=[AV.int .u8 (↑(x.1.getD (x.2.1.toNat+i) 0):Int)]; i<q5->q6=q6)/\Tr 1 ((q5:Int)=x.2.2)/\Tr 1 ((0:Int)=(t:Int))/\Tr 6 True)/\true=true/\True)/\∀(t:Nat),
 let q7:Int:=(↑(x.1.getD (x.2.1.toNat+(t:Int).toNat) 0):Int);
 let q8:Int:=(t:Int)+1; I t->BC (decide ((t:Int)<x.2.2)) (((0:Int) <= (t:Int)/\(t:Int)<(x.2.2.toNat:Int))/\BC (!decide (q7=(0:Int))) q2 (I64 q8/\Exx Nat fun t'=>(I t'/\m t'<m t)/\Tr 19 (((1:Nat)=1/\x.2.2.toNat=x.2.2.toNat/\∀(i:Nat),
 let q9:List AV:=[AV.int .u8 (↑(x.1.getD (x.2.1.toNat+i) 0):Int)]; i<x.2.2.toNat->q9=q9)/\Tr 1 (x.2.2=x.2.2)/\Tr 1 (q8=(↑t':Int))/\Tr 6 True)/\true=true/\True)) (Exx Unit fun y=>((true=q1/\True)/\true=true/\True)/\True)))=(fnVC tb [(165,zaB zzA)] Tryz.f124 zk6 (fun x=>{ loops:=[(4,qfH x)] }) (fun _=>none)):=by kernel_rfl

theorem zl9:SpecOk Tryz.prog 124 (zaB zk6):=by
 refine zaK zaL zaN (SPok.cons zy9 SPok.nil) Tryz.func124 (by decide) (zaW fun _=>rfl) (Eq.mp qkK ?_)
 simp (maxSteps:=10000000) only [std,stdU,stdV,Exx,I64,Nat.reduceMul,Nat.reduceDiv,Nat.reduceAdd,Int.reduceToNat]
 rintro l a n ⟨hl,h1,h2,h3,h4⟩
 refine ⟨hl,h1,h2,h3,h4,fun h=>by rw [zd3,decide_eq_false h]; rfl,fun h=>?_⟩
 have hb:=h
 unfold hasB at hb
 have hlen:=hl.2
 have hc:=zgV h
 have hn:zd3 l a n=(cut l a n).all (fun c=>decide (c=0)):=by rw [zd3,decide_eq_true h]; rfl
 repeat refine And.intro (by omega) ?_
 refine ⟨fun i=>i <= n.toNat/\∀j,j<i->l.getD (a.toNat+j) 0=0,⟨0,⟨by omega,fun j hj=>absurd hj (Nat.not_lt_zero _)⟩,by omega,by omega,rfl⟩,fun i=>n.toNat-i,fun i hi=>⟨fun hlt=>⟨by omega,by omega,fun hz=>?_,fun hz=>⟨by omega,by omega,i+1,⟨by omega,fun j hj=>?_⟩,by simp only; omega,by omega⟩⟩,fun hlt=>?_⟩⟩
 ·rw [hn]
  symm
  rw [List.all_eq_false]
  refine ⟨(cut l a n).getD i 0,?_,?_⟩
  ·rw [List.getD_eq_getElem?_getD,List.getElem?_eq_getElem (by omega)]; exact List.getElem_mem _
  ·rw [ztD (by omega)]; simpa using hz
 ·by_cases e:j=i
  ·subst e; omega
  ·exact hi.2 j (by omega)
 ·rw [hn]
  symm
  rw [List.all_eq_true]
  intro c hcm
  obtain ⟨j,hj,rfl⟩:=zsK (d:=0) hcm
  rw [ztD (by omega),hi.2 j (by omega)]; rfl

def wordsLA (l:List Nat):LA:={ T:=Nat×Nat,F:=fun s=>frm 15 [(0,octA (l.drop (8*s.1))),(3,.sl 1 [] 0 1 0 s.1 s.2)],H:=fun s=>[.fence,rowN 111 .u64 s.2 ((zbL l).take s.1)] }
theorem zd0 (l:List Nat):(zbL l).length=l.length / 8:=by simp [zbL]
theorem znV {l:List Nat} {i:Nat} (h:i<l.length / 8):(zbL l).getD i 0=zdN (l.drop (8*i)):=by
 rw [zbL,ze4,if_pos h]; rfl
theorem Oct.drop {l:List Nat} (h:Oct l) (n:Nat):Oct (l.drop n):=⟨fun x hx=>h.1 x (List.mem_of_mem_drop hx),by have:=h.2; simp; omega⟩

theorem wordsV:(
 let q1:Prop:=(111:TypeId)=111;
 let q2:Nat:=(TI.mk (TK.int IntKind.u64) 1 8 (ZL.cons (Value.int IntKind.u64 0) ZL.nil) false).size; ∀(x:List Nat),Oct x->Exx (Nat×Nat->Prop) fun I=>Exx (Nat×Nat->Nat) fun m=>(Exx (Nat×Nat) fun t =>
 let q3:List Nat:=List.drop (8*t.1) x; I t/\(((1:Nat)=1/\x.length=q3.length/\∀(i:Nat),i<x.length->[AV.int .u8 (↑(x.getD i 0):Int)]=[AV.int .u8 (↑(q3.getD i 0):Int)])/\Tr 2 ((t.1=0/\t.2=0)/\Tr 11 True))/\true=true/\(t.2=0/\(List.take t.1 (zbL x)).length=0)/\True)/\∀(t:Nat×Nat),
 let q4:List Nat:=List.drop (8*t.1) x;
 let q5:Nat:=q4.length;
 let q6:Int:=(q5:Int);
 let q7:Nat:=t.1+1;
 let q8:Nat:=q5-Int.toNat 8; I t->BC (decide ((8:Int) <= q6)) (Exx (List Nat) fun x_1=>(((q5=x_1.length/\∀(i:Nat),i<x_1.length->[AV.int .u8 (↑(q4.getD i 0):Int)]=[AV.int .u8 (↑(x_1.getD i 0):Int)])/\True)/\true=true/\True)/\Oct x_1/\∀(y:Unit),True->(0:Nat)+(1:Nat) <= (1:Nat)/\true=true/\(t.1 <= (List.take t.1 (zbL x)).length/\t.2=t.2)/\(q7 <= 9223372036854775807/\q7*8 <= 140737488355328)/\∀(cap:Nat),q7 <= cap/\cap <= 9223372036854775807->(0:Int) <= (8:Int)/\(Int.toNat 8 <= q5/\q5 <= q5)/\Exx (Nat×Nat) fun t' =>
 let q9:List Nat:=List.drop (8*t'.fst) x; (I t'/\m t'<m t)/\(((1:Nat)=1/\q8=q9.length/\∀(i:Nat),i<q8->[AV.int .u8 (↑(q4.getD (Int.toNat 8+i) 0):Int)]=[AV.int .u8 (↑(q9.getD i 0):Int)])/\Tr 2 ((true=true/\zaC/\(0:Nat)=0/\(1:Nat)=1/\(0:Nat)=0/\q7=t'.fst/\cap=t'.snd)/\Tr 11 True))/\true=true/\(q1/\(1:Nat)=1/\cap=t'.snd/\(List.take t'.fst (zbL x)).length <= q7/\∀(i:Nat),
 let q10:Nat:=0+(i-t.1); i<(List.take t'.fst (zbL x)).length->(if i<t.1 then [AV.int .u64 (↑((List.take t.1 (zbL x)).getD i 0):Int)] else [AV.int .u64 (if q10=0*1 / 1 then (↑(zdN x_1):Int) else 0)])=[AV.int .u64 (↑((List.take t'.fst (zbL x)).getD i 0):Int)])/\True) (Exx Nat fun y=>(((true=true/\zaC/\(0:Nat)=0/\(1:Nat)=1/\(0:Nat)=0/\t.1=(zbL x).length/\t.2=y)/\True)/\true=true/\(q1/\(1:Nat)=1/\t.2=y/\(zbL x).length <= (List.take t.1 (zbL x)).length/\∀(i:Nat),i<(zbL x).length->[AV.int .u64 (↑((List.take t.1 (zbL x)).getD i 0):Int)]=[AV.int .u64 (↑((zbL x).getD i 0):Int)])/\True)/\(zbL x).length <= y))=(fnVC tb [(157,zaB zw7)] Tryz.f118 qc3 (fun x=>{ loops:=[(2,wordsLA x)] }) (fun _=>none)):=by kernel_rfl

theorem qjB:SpecOk Tryz.prog 118 (zaB qc3):=by
 refine zaK zaL zaN (SPok.cons zoN SPok.nil) Tryz.func118 (by decide) (zf6 fun _ _ _=>rfl) (Eq.mp wordsV ?_)
 simp (maxSteps:=10000000) only [std,stdU,stdV,Exx,I64,Nat.reduceMul,Nat.reduceDiv,Nat.reduceAdd,Int.reduceToNat]
 rintro l hl
 have hlen:=hl.2
 have hw:=zd0 l
 refine ⟨fun s=>s.1 <= l.length / 8/\s.1 <= s.2,⟨0,0,by simp,by simp,fun i _=>by simp,rfl,rfl,rfl,by simp⟩,fun s=>l.length / 8-s.1,?_⟩
 rintro k cap ⟨hk,hkc⟩
 simp only at hk hkc
 have e1:(l.drop (8*k)).length=l.length-8*k:=by simp
 have e2:((zbL l).take k).length=k:=by rw [List.length_take,hw]; omega
 rw [e1,e2]
 refine ⟨fun h=>⟨hl.drop _,by omega,by omega,by omega,?_⟩,fun h=>?_⟩
 ·rintro cap' ⟨hc1,hc2⟩
  have e3:((zbL l).take (k+1)).length=k+1:=by rw [List.length_take,hw]; omega
  refine ⟨by omega,by omega,k+1,cap',⟨by simp only; omega,by simp only; omega⟩,by simp only; omega,by simp; omega,fun i hi=>?_,rfl,rfl,rfl,by rw [e3]; omega,fun i hi=>?_⟩
  ·rw [za6,za6,show 8*k+(8+i)=8*(k+1)+i by omega]
  ·rw [e3] at hi
   by_cases e:i<k
   ·rw [if_pos e,za3,za3,if_pos e,if_pos hi]
   ·have:i=k:=by omega
    subst this
    rw [if_neg e,if_pos (Nat.sub_self _),za3,if_pos hi,znV (by omega)]
 ·have:k=l.length / 8:=by omega
  refine ⟨by omega,by omega,fun i hi=>?_,by omega⟩
  rw [za3,if_pos (by omega)]

def qkJ (l:List Nat):LA:={ T:=Nat×Nat,F:=fun s=>frm 18 [(3,.sl 1 [] 0 1 0 (zaG (l.take s.1)).length s.2),(6,qbU .u64 l),(7,i64 (l.length:Int)),(8,i64 (s.1:Int))],H:=fun s=>[.fence,rowN 5 .u8 s.2 (zaG (l.take s.1))] }

theorem octetsV:(
 let q1:Prop:=(5:TypeId)=5; ∀(x:List Nat),
 let q3:Prop:=(1:Nat)=1/\x.length=x.length/\∀(i:Nat),
 let q2:List AV:=[AV.int .u64 (↑(x.getD i 0):Int)]; i<x.length->q2=q2;
 let q4:Prop:=Tr 1 ((x.length:Int)=(x.length:Int)); (∀(w:Nat),w∈x->U64 w)/\x.length <= 1000000->Exx (Nat×Nat->Prop) fun I=>Exx (Nat×Nat->Nat) fun m=>(Exx (Nat×Nat) fun t =>
 let q5:Prop:=(zaG (List.take t.1 x)).length=0; I t/\Tr 3 ((q5/\t.2=0)/\Tr 2 (q3/\q4/\Tr 1 ((0:Int)=(t.1:Int))/\Tr 9 True))/\true=true/\(t.2=0/\q5)/\True)/\∀(t:Nat×Nat),
 let q6:Prop:=(t.1:Int)<(x.length:Int);
 let q7:Int:=(t.1:Int)+1; I t->BC (decide q6) (((0:Int) <= (t.1:Int)/\q6)/\Exx (Nat×Int) fun x_1 =>
 let q8:Nat:=(zaG (List.take t.1 x)).length+(layL x_1.1 x_1.2).length; ((Tr 1 ((↑(x.getD (t.1:Int).toNat 0):Int)=(x_1.1:Int))/\Tr 1 ((8:Int)=x_1.2)/\True)/\true=true/\True)/\(U64 x_1.1/\I64 x_1.2)/\∀(y:Nat),(layL x_1.1 x_1.2).length <= y->0+(layL x_1.1 x_1.2).length <= (layL x_1.1 x_1.2).length/\true=true/\((zaG (List.take t.1 x)).length <= (zaG (List.take t.1 x)).length/\t.2=t.2)/\(q8 <= 9223372036854775807/\q8*1 <= 140737488355328)/\∀(cap:Nat),q8 <= cap/\cap <= 9223372036854775807->I64 q7/\Exx (Nat×Nat) fun t'=>(I t'/\m t'<m t)/\Tr 3 ((true=true/\zaC/\(0:Nat)=0/\(1:Nat)=1/\(0:Nat)=0/\q8=(zaG (List.take t'.fst x)).length/\cap=t'.snd)/\Tr 2 (q3/\q4/\Tr 1 (q7=(↑t'.fst:Int))/\Tr 9 True))/\true=true/\(q1/\(1:Nat)=1/\cap=t'.snd/\(zaG (List.take t'.fst x)).length <= q8/\∀(i:Nat),i<(zaG (List.take t'.fst x)).length->(if i<(zaG (List.take t.1 x)).length then [AV.int .u8 (↑((zaG (List.take t.1 x)).getD i 0):Int)] else [AV.int .u8 (↑((layL x_1.1 x_1.2).getD (0+(i-(zaG (List.take t.1 x)).length)) 0):Int)])=[AV.int .u8 (↑((zaG (List.take t'.fst x)).getD i 0):Int)])/\True) (Exx Nat fun y=>(((true=true/\zaC/\(0:Nat)=0/\(1:Nat)=1/\(0:Nat)=0/\(zaG (List.take t.1 x)).length=(zaG x).length/\t.2=y)/\True)/\true=true/\(q1/\(1:Nat)=1/\t.2=y/\(zaG x).length <= (zaG (List.take t.1 x)).length/\∀(i:Nat),i<(zaG x).length->[AV.int .u8 (↑((zaG (List.take t.1 x)).getD i 0):Int)]=[AV.int .u8 (↑((zaG x).getD i 0):Int)])/\True)/\(zaG x).length <= y))=(fnVC tb [(129,zaB layC)] Tryz.f128 zsF (fun x=>{ loops:=[(3,qkJ x)] }) (fun _=>none)):=by kernel_rfl

theorem zuT:SpecOk Tryz.prog 128 (zaB zsF):=by
 refine zaK zaL zaN (SPok.cons zu6 SPok.nil) Tryz.func128 (by decide) (zf6 fun _ _ _=>rfl) (Eq.mp octetsV ?_)
 simp (maxSteps:=10000000) only [std,stdU,stdV,Exx,I64,Nat.reduceMul,Nat.reduceDiv,Nat.reduceAdd,Int.reduceToNat]
 rintro l ⟨hl,hlen⟩
 refine ⟨fun s=>s.1 <= l.length/\(zaG (l.take s.1)).length <= s.2,⟨0,0,by simp [zaG],by simp [zaG],rfl,rfl,rfl,by simp [zaG]⟩,fun s=>l.length-s.1,?_⟩
 rintro k cap ⟨hk,hkc⟩
 simp only at hk hkc
 have e1:(zaG (l.take k)).length=8*k:=by rw [zbR,List.length_take]; omega
 have e2:(layL (l.getD k 0) 8).length=8:=by rw [zmD (by omega),zaE]; rfl
 rw [e1,e2]
 rw [e1] at hkc
 refine ⟨fun h=>⟨by omega,by omega,getD_mem hl (by unfold U64; omega) k,by omega,by omega,fun y hy=>⟨by omega,by omega,?_⟩⟩,fun h=>?_⟩
 ·rintro cap' ⟨hc1,hc2⟩
  have e3:(zaG (l.take (k+1))).length=8*(k+1):=by rw [zbR,List.length_take]; omega
  refine ⟨by omega,by omega,k+1,cap',⟨by simp only; omega,by simp only; omega⟩,by simp only; omega,by omega,rfl,by omega,rfl,by omega,fun i hi=>?_⟩
  rw [zb6 0 (by omega),zuU,zaI,e1]
  by_cases e:i<8*k
  ·rw [if_pos e,if_pos e]
  ·rw [if_neg e,if_neg e,zmD (by omega)]; rfl
 ·have:k=l.length:=by omega
  subst this
  rw [List.take_length] at e1 ⊢
  exact ⟨by omega,by omega,fun _ _=>rfl,by omega⟩

theorem zxK {ws:List Nat} {j:Nat} (h:j<ws.length):((zaG ws).drop (8*j)).take 8=layN (ws.getD j 0) 8:=by
 have e:ws=ws.take j++(ws.getD j 0 :: ws.drop (j+1)):=by
  conv=>lhs; rw [<- List.take_append_drop j ws]
  congr 1
  rw [List.drop_eq_getElem_cons h,List.getD_eq_getElem?_getD,List.getElem?_eq_getElem h]; rfl
 have e1:zaG ws=zaG (ws.take j)++(layN (ws.getD j 0) 8++zaG (ws.drop (j+1))):=by
  conv=>lhs; rw [e]
  simp [zaG]
 have l1:(zaG (ws.take j)).length=8*j:=by rw [zbR,List.length_take]; omega
 rw [e1,List.drop_append,List.drop_of_length_le (by omega),List.nil_append,l1,Nat.sub_self,List.drop_zero,List.take_append,zaE,Nat.sub_self,List.take_zero,List.append_nil,List.take_of_length_le (by rw [zaE]; omega)]
theorem zuS {l:List Nat} (h:∀c∈l,c<256):zaG (zbL l)=l.take (8*(l.length / 8)):=by
 have hw:=zd0 l
 have hl:=zbR (zbL l)
 have ht:(l.take (8*(l.length / 8))).length=8*(l.length / 8):=by rw [List.length_take]; omega
 refine zbF 0 (by omega) fun i hi=>?_
 have hc:=zxK (ws:=zbL l) (j:=i / 8) (by omega)
 have hx:((l.drop (8*(i / 8))).take 8).length=8:=by simp; omega
 have hm:∀c∈(l.drop (8*(i / 8))).take 8,c<256:=fun c hc=>h c (List.mem_of_mem_drop (List.mem_of_mem_take hc))
 have e:=qf3 _ hm
 rw [hx] at e
 rw [znV (by omega),zdN,e] at hc
 have h1:(zaG (zbL l)).getD i 0=(((zaG (zbL l)).drop (8*(i / 8))).take 8).getD (i % 8) 0:=by
  rw [za3,if_pos (Nat.mod_lt _ (by decide)),za6]; congr 1; omega
 rw [h1,hc,za3,if_pos (Nat.mod_lt _ (by decide)),za6,za3,if_pos (by omega)]
 congr 1; omega

end Yard


namespace Yard
open Go Go.Sx Go.Proofs
set_option linter.unusedVariables false
set_option linter.unusedSimpArgs false
set_option maxRecDepth 4000

def zdG (i:Nat):Nat:=zmW 4 i
def u32 (n:Nat):AV := .int .u32 (n:Int)
def octs (l:List Nat):AV := .ro 1 l.length (fun i=>[.int .u8 ((l.getD i 0:Nat):Int)])
def tabA (f:Nat->Nat):AV := .agg [.arr 1 16 (fun i=>[u32 (f i)])]

def takeN (f:Nat->Nat) (x c:Nat):Nat:=qk4 f (qk4 f (x ^^^ c))
def regN (f:Nat->Nat) (x:Nat) (l:List Nat):Nat:=l.foldl (takeN f) x
theorem qi8 {a b:Nat} (ha:a<4294967296) (hb:b<4294967296):a ^^^ b<4294967296:=Nat.xor_lt_two_pow (n:=32) ha hb
theorem zsX {f:Nat->Nat} (hf:∀i,i<16->f i<4294967296) {x:Nat} (hx:x<4294967296):qk4 f x<4294967296:=qi8 (by omega) (hf _ (by omega))
theorem qjI {f:Nat->Nat} (hf:∀i,i<16->f i<4294967296) {x c:Nat} (hx:x<4294967296) (hc:c<256):takeN f x c<4294967296:=zsX hf (zsX hf (qi8 hx (by omega)))

theorem qi6 {a:Nat} (h:a<4294967296):bits .xor .u32 (a:Int) 2197175160=((a ^^^ 2197175160:Nat):Int):=ztG (k := .u32) rfl (b:=2197175160) h (by decide)
theorem qi7 {a:Nat} (h:a<4294967296):bits .xor .u32 (a:Int) 4294967295=((a ^^^ 4294967295:Nat):Int):=ztG (k := .u32) rfl (b:=4294967295) h (by decide)
theorem and_one {a:Nat} (h:a<4294967296):bits .and .u32 (a:Int) 1=((a % 2:Nat):Int):=by
 rw [show (1:Int)=((1:Nat):Int) from rfl,znR (k := .u32) rfl h (by decide),Nat.and_one_is_mod]
theorem qmN {a:Nat} (h:a<4294967296):bits .and .u32 (a:Int) 15=((a % 16:Nat):Int):=by
 rw [show (15:Int)=((15:Nat):Int) from rfl,znR (k := .u32) rfl h (by decide),show 15=2 ^ 4-1 from rfl,Nat.and_two_pow_sub_one_eq_mod]
theorem shr_one (a:Nat):(a:Int).fdiv (2 ^ min 1 IntKind.u32.bits)=((a / 2:Nat):Int):=by
 show (a:Int).fdiv 2=_
 rw [Int.fdiv_eq_ediv_of_nonneg _ (by decide)]; rfl
theorem zzE (a:Nat):(a:Int).fdiv (2 ^ min (Int.toNat 4) IntKind.u32.bits)=((a / 16:Nat):Int):=by
 show (a:Int).fdiv 16=_
 rw [Int.fdiv_eq_ediv_of_nonneg _ (by decide)]; rfl
theorem qc2 {a:Nat} (h:a<4294967296):IntKind.u32.wrap (a:Int)=a:=zeZ rfl h
theorem qaK {a b:Nat}:((a:Int)=(b:Int)) ↔ a=b:=Int.ofNat_inj

def stepC:Ctr:=zcR Nat (fun x=>x<4294967296) (fun x=>[u32 x]) (fun x=>u32 (zrT x))
def qdS:Ctr:=zcR Unit (fun _=>True) (fun _=>[]) (fun _=>tabA zdG)
theorem stepV:(∀(x:Nat),x<4294967296->∀(n:Int),n=bits BinOp.and IntKind.u32 (x:Int) 1->BC (decide (n=(1:Int))) ((0:Int) <= (1:Int)/\∀
 (n:Int),n=(x:Int).fdiv (2 ^ min (Int.toNat 1) IntKind.u32.bits)->∀(n_1:Int),n_1=bits BinOp.xor IntKind.u32 n 2197175160->Exx Unit fun y=>((Tr
 1 (n_1=(↑(zrT x):Int))/\True)/\true=true/\True)/\True) ((0:Int) <= (1:Int)/\∀(n:Int),n=(x:Int).fdiv (2 ^ min (Int.toNat 1)
 IntKind.u32.bits)->Exx Unit fun y=>((Tr 1 (n=(↑(zrT x):Int))/\True)/\true=true/\True)/\True))=(fnVC tb [] Tryz.f205 stepC (fun _=>{}) (fun _=>none)):=by kernel_rfl

theorem step_ok:SpecOk Tryz.prog 205 (zaB stepC):=by
 refine zaK zaL zaN SPok.nil Tryz.func205 (by decide) (zaW fun _=>rfl) (Eq.mp stepV ?_)
 simp (maxSteps:=10000000) only [std,stdU,stdV,Exx,I64,Nat.reduceMul,Nat.reduceDiv,Nat.reduceAdd,Int.reduceToNat]
 intro x hx
 rw [and_one hx,shr_one,qi6 (by omega),show (1:Int)=((1:Nat):Int) from rfl]
 simp only [qaK]
 exact ⟨fun h=>⟨by omega,by rw [zrT,if_pos h]⟩,fun h=>⟨by omega,by rw [zrT,if_neg h]⟩⟩

def tabF (i:Nat):Nat->List AV:=fun j=>[u32 (if j<i then zdG j else 0)]
def tabH (i:Nat):AH:=[.fence,.cells 295 [.arr 1 16 (fun _=>[.int .u32 0])],.cells 295 [.arr 1 16 (tabF i)]]
def tabL1:LA:={ T:=Nat,F:=fun i=>frm 19 [(0,.ptr 1 [] 0),(1,.ptr 2 [] 0),(4,.int .i64 (i:Int))],H:=tabH }
def tabL2:LA:={ T:=Nat×Nat,F:=fun x=>frm 19 [(0,.ptr 1 [] 0),(1,.ptr 2 [] 0),(4,.int .i64 (x.1:Int)),(2,.int .i64 (x.1:Int)),(3,u32 (zmW x.2 x.1)),(9,.int .i64 (x.2:Int))],H:=fun x=>tabH x.1 }

theorem tableV:(
 let q1:Prop:=true=true/\zaC/\(0:Nat)=0;
 let q2:Prop:=(1:Nat)=1/\(16:Nat)=16/\(∀(i:Nat),i<16->[AV.int .u32 (0:Int)]=[AV.int .u32 (0:Int)])/\True;
 let q3:Prop:=(295:TypeId)=295;
 let q4:Prop:=q3/\q2; ∀(x:Unit),True->Exx (Nat->Prop) fun I=>Exx (Nat->Nat) fun m=>(Exx Nat fun t=>I t/\(q1/\q1/\Tr 2 (Tr 1 ((0:Int)=(t:Int))/\Tr 14 True))/\true=true/\((295:Nat)=(295:TypeId)/\q2)/\((295:Nat)=(295:TypeId)/\(1:Nat)=1/\(16:Nat)=16/\(∀(i:Nat),i<16->[AV.int .u32 0]=[AV.int .u32 (↑(if i<t then zdG i else 0):Int)])/\True)/\True)/\∀(t:Nat),I t->BC (decide ((t:Int)<(16:Int))) (∀(m_1:Int),m_1=IntKind.u32.wrap (t:Int)->Exx (Nat×Nat->Prop) fun I_1=>Exx (Nat×Nat->Nat) fun m_2=>(Exx (Nat×Nat) fun t_1 =>
 let q5:Prop:=Tr 1 ((t:Int)=(t_1.1:Int)); I_1 t_1/\(q1/\q1/\q5/\Tr 1 (m_1=(↑(zmW t_1.2 t_1.1):Int))/\q5/\Tr 4 (Tr 1 ((0:Int)=(t_1.2:Int))/\Tr 9 True))/\true=true/\q4/\(q3/\(1:Nat)=1/\(16:Nat)=16/\(∀(i:Nat),i<16->[AV.int .u32 (↑(if i<t then zdG i else 0):Int)]=[AV.int .u32 (↑(if i<t_1.1 then zdG i else 0):Int)])/\True)/\True)/\∀(t_1:Nat×Nat),
 let q6:Int:=(t_1.2:Int)+1;
 let q7:Int:=(t_1.1:Int)+1; I_1 t_1->BC (decide ((t_1.2:Int)<(4:Int))) (Exx Nat fun x=>((Tr 1 ((↑(zmW t_1.2 t_1.1):Int)=(x:Int))/\True)/\true=true/\True)/\x<4294967296/\∀(y:Unit),True->I64 q6/\Exx (Nat×Nat) fun t' =>
 let q8:Prop:=Tr 1 ((t_1.1:Int)=(↑t'.fst:Int)); (I_1 t'/\m_2 t'<m_2 t_1)/\(q1/\q1/\q8/\Tr 1 ((↑(zrT x):Int)=(↑(zmW t'.snd t'.fst):Int))/\q8/\Tr 4 (Tr 1 (q6=(↑t'.snd:Int))/\Tr 9 True))/\true=true/\q4/\(q3/\(1:Nat)=1/\(16:Nat)=16/\(∀(i:Nat),i<16->[AV.int .u32 (↑(if i<t_1.1 then zdG i else 0):Int)]=[AV.int .u32 (↑(if i<t'.fst then zdG i else 0):Int)])/\True)/\True) (((0:Int) <= (t_1.1:Int)/\(t_1.1:Int)<(↑(16:Nat):Int))/\(t_1.1:Int).toNat<16/\I64 q7/\Exx Nat fun t'=>(I t'/\m t'<m t)/\(q1/\q1/\Tr 2 (Tr 1 (q7=(↑t':Int))/\Tr 14 True))/\true=true/\q4/\(q3/\(1:Nat)=1/\(16:Nat)=16/\(∀(i:Nat),i<16->[AV.int .u32 (if i=(t_1.1:Int).toNat then (↑(zmW t_1.2 t_1.1):Int) else (↑(if i<t_1.1 then zdG i else 0):Int))]=[AV.int .u32 (↑(if i<t' then zdG i else 0):Int)])/\True)/\True)) (Exx Unit fun y=>((((1:Nat)=1/\(16:Nat)=16/\(∀(i:Nat),i<16->[AV.int .u32 (↑(if i<t then zdG i else 0):Int)]=[AV.int .u32 (↑(zdG i):Int)])/\True)/\True)/\true=true/\True)/\True))=(fnVC tb [(205,zaB stepC)] Tryz.f189 qdS (fun x=>{ loops:=[(3,tabL1),(7,tabL2)] }) (fun _=>none)):=by kernel_rfl

theorem qjJ:SpecOk Tryz.prog 189 (zaB qdS):=by
 refine zaK zaL zaN (SPok.cons step_ok SPok.nil) Tryz.func189 (by decide) (zaW fun _=>⟨fun _ _=>⟨rfl,trivial⟩,trivial⟩) (Eq.mp tableV ?_)
 simp (maxSteps:=10000000) only [std,stdU,stdV,Exx,I64,Nat.reduceMul,Nat.reduceDiv,Nat.reduceAdd,Int.reduceToNat]
 refine ⟨fun i=>i <= 16,⟨0,by omega,rfl,fun j _=>rfl⟩,fun i=>16-i,fun i hi=>⟨fun hl=>?_,fun hl=>fun j hj=>by rw [if_pos (by omega)]⟩⟩
 refine ⟨fun x=>x.1=i/\x.2 <= 4,⟨i,0,⟨rfl,by simp⟩,rfl,qc2 (by omega),rfl,rfl,fun j _=>rfl⟩,fun x=>4-x.2,?_⟩
 rintro i' k ⟨rfl,hk⟩
 simp only at *
 refine ⟨fun hl2=>⟨zn7 (by omega) k,by omega,by omega,i',k+1,⟨rfl,by omega⟩,by omega,rfl,rfl,rfl,by omega,fun _ _=>rfl⟩,fun hl2=>⟨by omega,by omega,by omega,by omega,by omega,i'+1,by omega,by omega,by omega,fun j hj=>?_⟩⟩
 have hk4:k=4:=by omega
 subst hk4
 by_cases hji:j=i'
 ·subst hji
  rw [if_pos rfl,if_pos (by omega)]; rfl
 ·rw [if_neg hji]
  by_cases h3:j<i'
  ·rw [if_pos h3,if_pos (by omega)]
  ·rw [if_neg h3,if_neg (by omega)]

theorem zwH {a b:Nat} (ha:a<4294967296) (hb:b<4294967296):bits .xor .u32 (a:Int) (b:Int)=((a ^^^ b:Nat):Int):=ztG (k := .u32) rfl ha hb

def crcTau (args:List AV) (H:AH):List Nat:=match args with
 | .ptr p _ _ :: _=>[p]
 | _=>[]
def tabI (f:Nat->Nat):Sx.Item := .cells 295 [.arr 1 16 (fun i=>[u32 (f i)])]
def qcW (l:List Nat):Prop:=(∀x∈l,x<256)/\l.length <= 1000000
def zk1:Ctr where
 X:=(Nat->Nat)×Nat×List Nat
 Y:=Unit
 conv:=true
 tau:=crcTau
 pre:=fun x=>(∀i,i<16->x.1 i<4294967296)/\x.2.1<4294967296/\qcW x.2.2
 args:=fun x=>[.ptr 0 [] 0,u32 x.2.1,octs x.2.2]
 heap:=fun x=>[tabI x.1]
 Q:=fun _ _=>True
 res:=fun x _=>u32 (regN x.1 x.2.1 x.2.2)
 its:=fun x _=>[tabI x.1]
 new:=fun _ _=>[]
def regL (x:(Nat->Nat)×Nat×List Nat):LA:={ T:=Nat,F:=fun i=>frm 39 [(0,.ptr 0 [] 0),(1,u32 (regN x.1 x.2.1 (x.2.2.take i))),(9,octs x.2.2),(10,.int .i64 (x.2.2.length:Int)),(11,.int .i64 (i:Int))],H:=fun _=>[tabI x.1,.fence] }

theorem zuJ:CtrOk zk1:=⟨fun _ _ _ _=>rfl,fun _ _ _ _=>⟨rfl,rfl⟩,fun _ _ _ _ _=>⟨⟨⟨⟨fun _ _=>⟨rfl,trivial⟩,trivial⟩,trivial⟩,trivial⟩,rfl⟩⟩
theorem qhR {l:List Nat} (h:qcW l) (i:Nat):l.getD i 0<256:=by
 rw [List.getD_eq_getElem?_getD]
 cases e:l[i]? with
 | none=>simp
 | some x=>exact h.1 x (List.mem_of_getElem? e)
theorem zw5 {f:Nat->Nat} (hf:∀i,i<16->f i<4294967296):∀{l:List Nat} {x:Nat},(∀c∈l,c<256)->x<4294967296->regN f x l<4294967296
 | [],x,_,hx=>hx
 | c :: r,x,hl,hx=>zw5 hf (l:=r) (fun c hc=>hl c (List.mem_cons_of_mem _ hc)) (qjI hf hx (hl c List.mem_cons_self))
theorem qeO (f:Nat->Nat) (x:Nat) {l:List Nat} {i:Nat} (hi:i<l.length):regN f x (l.take (i+1))=takeN f (regN f x (l.take i)) (l.getD i 0):=by
 rw [List.take_add_one,List.getElem?_eq_getElem hi,List.getD_eq_getElem?_getD,List.getElem?_eq_getElem hi]
 simp only [regN,Option.toList,List.foldl_append,List.foldl,Option.getD]

theorem qeN:(
 let q1:Prop:=true=true/\zaC/\(0:Nat)=0;
 let q2:Prop:=(295:TypeId)=295; ∀(x:(Nat->Nat)×Nat×List Nat),
 let q4:Prop:=(1:Nat)=1/\x.2.2.length=x.2.2.length/\∀(i:Nat),
 let q3:List AV:=[AV.int .u8 (↑(x.2.2.getD i 0):Int)]; i<x.2.2.length->q3=q3;
 let q5:Int:=(x.2.2.length:Int);
 let q6:Prop:=Tr 1 (q5=q5);
 let q8:Prop:=(q2/\(1:Nat)=1/\(16:Nat)=16/\(∀(i:Nat),
 let q7:List AV:=[AV.int .u32 (↑(x.1 i):Int)]; i<16->q7=q7)/\True)/\true=true/\True; (∀(i:Nat),i<16->x.1 i<4294967296)/\x.2.1<4294967296/\qcW x.2.2->Exx (Nat->Prop) fun I=>Exx (Nat->Nat) fun m=>(Exx Nat fun t=>I t/\(q1/\Tr 1 ((x.2.1:Int)=(↑(regN x.1 x.2.1 (List.take t x.2.2)):Int))/\Tr 7 (q4/\q6/\Tr 1 ((0:Int)=(t:Int))/\Tr 27 True))/\q8)/\∀(t:Nat),
 let q9:Int:=(↑(regN x.1 x.2.1 (List.take t x.2.2)):Int);
 let q10:Int:=(t:Int)+1; I t->BC (decide ((t:Int)<q5)) (((0:Int) <= (t:Int)/\(t:Int)<q5)/\∀(m_1:Int),m_1=IntKind.u32.wrap (↑(x.2.2.getD (t:Int).toNat 0):Int)->∀(n:Int),
 let q11:Int:=2 ^ min (Int.toNat 4) IntKind.u32.bits; n=bits BinOp.xor IntKind.u32 q9 m_1->(0:Int) <= (4:Int)/\∀(n_1:Int),n_1=n.fdiv q11->∀(n_2:Int),n_2=bits BinOp.and IntKind.u32 n 15->((0:Int) <= n_2/\n_2<(↑(16:Nat):Int))/\n_2.toNat<16/\∀(n:Int),n=bits BinOp.xor IntKind.u32 n_1 (↑(x.1 n_2.toNat):Int)->(0:Int) <= (4:Int)/\∀(n_3:Int),n_3=n.fdiv q11->∀(n_4:Int),n_4=bits BinOp.and IntKind.u32 n 15->((0:Int) <= n_4/\n_4<(↑(16:Nat):Int))/\n_4.toNat<16/\∀(n:Int),n=bits BinOp.xor IntKind.u32 n_3 (↑(x.1 n_4.toNat):Int)->I64 q10/\Exx Nat fun t'=>(I t'/\m t'<m t)/\(q1/\Tr 1 (n=(↑(regN x.1 x.2.1 (List.take t' x.2.2)):Int))/\Tr 7 (q4/\q6/\Tr 1 (q10=(↑t':Int))/\Tr 27 True))/\q8) (Exx Unit fun y=>((Tr 1 (q9=(↑(regN x.1 x.2.1 x.2.2):Int))/\True)/\q8)/\True))=(fnVC tb [] Tryz.f190 zk1 (fun x=>{ loops:=[(2,regL x)] }) (fun _=>none)):=by kernel_rfl

theorem zw4:SpecOk Tryz.prog 190 (zaB zk1):=by
 refine zaK zaL zaN SPok.nil Tryz.func190 (by decide) zuJ (Eq.mp qeN ?_)
 simp only [Exx,nilnil,Tr_eq,true_and,and_true,exists_const,forall_const,BC_iff,decide_eq_true_eq,decide_eq_false_iff_not,qaK,I64,implies_true]
 rintro ⟨f,x,l⟩ ⟨hf,hx,hl⟩
 simp only at *
 have hlen:=hl.2
 have htl:∀i,∀c∈l.take i,c<256:=fun i c hc=>hl.1 c (List.mem_of_mem_take hc)
 refine ⟨fun i=>i <= l.length,fun i=>l.length-i,⟨0,by omega,rfl,rfl⟩,fun i hi=>⟨fun hlt=>⟨by omega,?_⟩,fun hge=>?_⟩⟩
 ·have hr:=zw5 hf (htl i) hx
  have hc:=qhR hl i
  have hs:=qeO f x (l:=l) (i:=i) (by omega)
  generalize regN f x (l.take i)=r at *
  generalize hcc:l.getD i 0=c at *
  have h1:=qi8 hr (show c<4294967296 by omega)
  have h2:=zsX hf h1
  rintro m1 rfl n rfl
  have e1:((i:Int)).toNat=i:=Int.toNat_natCast i
  rw [e1,hcc,qc2 (by omega),zwH hr (by omega)]
  refine ⟨by omega,?_⟩
  rintro n1 rfl n2 rfl
  rw [qmN h1,zzE,Int.toNat_natCast]
  refine ⟨⟨by omega,by omega⟩,by omega,?_⟩
  rintro n rfl
  rw [zwH (by omega) (hf _ (by omega)),show (r ^^^ c) / 16 ^^^ f ((r ^^^ c) % 16)=qk4 f (r ^^^ c) from rfl]
  refine ⟨by omega,?_⟩
  rintro n3 rfl n4 rfl
  rw [qmN h2,zzE,Int.toNat_natCast]
  refine ⟨⟨by omega,by omega⟩,by omega,?_⟩
  rintro n rfl
  rw [zwH (by omega) (hf _ (by omega))]
  refine ⟨by omega,i+1,⟨by omega,by simp only; omega⟩,?_,by omega⟩
  rw [hs]; rfl
 ·rw [show i=l.length by omega,List.take_length]

def ones:Nat:=4294967295
def octss (x:List (List Nat)):AV := .ro 1 x.length (fun i=>[octs (x.getD i [])])
def ziR (x:List (List Nat)):Prop:=(∀l∈x,qcW l)/\x.length <= 1000
def accN (x:List (List Nat)):Nat:=x.foldl (regN zdG) ones
def sumN (x:List (List Nat)):Nat:=accN x ^^^ ones
def sumC:Ctr:=zcR (List (List Nat)) ziR (fun x=>[octss x]) (fun x=>u32 (sumN x))
def zrS:Ctr:=zcR (Nat×List (List Nat)) (fun x=>x.1<4294967296/\ziR x.2) (fun x=>[u32 x.1,octss x.2]) (fun x => .bool (decide (sumN x.2=x.1)))
def sumL (x:List (List Nat)):LA:={ T:=Nat,F:=fun i=>frm 20 [(3,.ptr 1 [] 0),(4,u32 (accN (x.take i))),(8,octss x),(9,.int .i64 (x.length:Int)),(10,.int .i64 (i:Int))],H:=fun _=>[.fence,tabI zdG] }
theorem znT {x:Nat} (h:x<4294967296):x ^^^ ones<4294967296:=qi8 h (by decide)

theorem zt5 {i:Nat} (h:i<16):zdG i<4294967296:=zn7 (by omega) 4
theorem qcM {x:List (List Nat)} (h:ziR x) (i:Nat):qcW (x.getD i []):=by
 rw [List.getD_eq_getElem?_getD]
 cases e:x[i]? with
 | none=>exact ⟨fun c hc=>(by cases hc),by simp⟩
 | some l=>exact h.1 l (List.mem_of_getElem? e)
theorem zpA {α β:Type} (g:α->β->α) (a:α) {l:List β} {i:Nat} (d:β) (hi:i<l.length):(l.take (i+1)).foldl g a=g ((l.take i).foldl g a) (l.getD i d):=by
 rw [List.take_add_one,List.getElem?_eq_getElem hi,List.getD_eq_getElem?_getD,List.getElem?_eq_getElem hi]
 simp only [Option.toList,List.foldl_append,List.foldl,Option.getD]
theorem qmR:∀{x:List (List Nat)} {a:Nat},(∀l∈x,∀c∈l,c<256)->a<4294967296->x.foldl (regN zdG) a<4294967296
 | [],a,_,ha=>ha
 | l :: r,a,h,ha=>qmR (x:=r) (fun l hl=>h l (List.mem_cons_of_mem _ hl)) (zw5 (fun _ hi=>zt5 hi) (h l List.mem_cons_self) ha)
theorem ztM {x:List (List Nat)} (h:∀l∈x,∀c∈l,c<256):accN x<4294967296:=qmR h (by decide)
theorem zwD {x:List (List Nat)} (h:ziR x) (i:Nat):accN (x.take i)<4294967296:=ztM fun l hl=>(h.1 l (List.mem_of_mem_take hl)).1

theorem sumV:(
 let q1:Prop:=true=true/\zaC/\(0:Nat)=0;
 let q2:Prop:=(295:TypeId)=295; ∀(x:List (List Nat)),
 let q4:Prop:=(1:Nat)=1/\x.length=x.length/\∀(i:Nat),
 let q3:List AV:=[AV.ro 1 (x.getD i []).length fun i_1=>[AV.int .u8 (↑((x.getD i []).getD i_1 0):Int)]]; i<x.length->q3=q3;
 let q5:Prop:=Tr 1 ((x.length:Int)=(x.length:Int)); ziR x->Exx Unit fun x_1=>Tr 1 (true=true/\True)/\Tr 1 (∀(y:Unit),True->Exx (Nat->Prop) fun I=>Exx (Nat->Nat) fun m=>(Exx Nat fun t=>I t/\Tr 3 (q1/\Tr 1 ((4294967295:Int)=(↑(accN (List.take t x)):Int))/\Tr 3 (q4/\q5/\Tr 1 ((0:Int)=(t:Int))/\Tr 9 True))/\true=true/\((295:Nat)=(295:TypeId)/\(1:Nat)=1/\(16:Nat)=16/\(∀(i:Nat),i<16->[AV.int .u32 (↑(zdG i):Int)]=[AV.int .u32 (↑(zdG i):Int)])/\True)/\True)/\∀(t:Nat),
 let q6:Prop:=(t:Int)<(x.length:Int);
 let q7:Int:=(t:Int)+1; I t->BC (decide q6) (((0:Int) <= (t:Int)/\q6)/\Exx ((Nat->Nat)×Nat×List Nat) fun x_2=>((q1/\Tr 1 ((↑(accN (List.take t x)):Int)=(x_2.2.1:Int))/\((x.getD (t:Int).toNat []).length=x_2.2.2.length/\∀(i:Nat),i<x_2.2.2.length->[AV.int .u8 (↑((x.getD (t:Int).toNat []).getD i 0):Int)]=[AV.int .u8 (↑(x_2.2.2.getD i 0):Int)])/\True)/\true=true/\(q2/\(1:Nat)=1/\(16:Nat)=16/\(∀(i:Nat),i<16->[AV.int .u32 (↑(zdG i):Int)]=[AV.int .u32 (↑(x_2.1 i):Int)])/\True)/\True)/\((∀(i:Nat),i<16->x_2.1 i<4294967296)/\x_2.2.1<4294967296/\qcW x_2.2.2)/\∀(y:Unit),True->I64 q7/\Exx Nat fun t'=>(I t'/\m t'<m t)/\Tr 3 (q1/\Tr 1 ((↑(regN x_2.1 x_2.2.1 x_2.2.2):Int)=(↑(accN (List.take t' x)):Int))/\Tr 3 (q4/\q5/\Tr 1 (q7=(↑t':Int))/\Tr 9 True))/\true=true/\(q2/\(1:Nat)=1/\(16:Nat)=16/\(∀(i:Nat),i<16->[AV.int .u32 (↑(x_2.1 i):Int)]=[AV.int .u32 (↑(zdG i):Int)])/\True)/\True) (∀(n:Int),n=bits BinOp.xor IntKind.u32 (↑(accN (List.take t x)):Int) 4294967295->Exx Unit fun y=>((Tr 1 (n=(↑(sumN x):Int))/\True)/\true=true/\True)/\True)))=(fnVC tb [(189,zaB qdS),(190,zaB zk1)] Tryz.f167 sumC (fun x=>{ loops:=[(3,sumL x)] }) (fun _=>none)):=by kernel_rfl

theorem ql2:SpecOk Tryz.prog 167 (zaB sumC):=by
 refine zaK zaL zaN (SPok.cons qjJ (SPok.cons zw4 SPok.nil)) Tryz.func167 (by decide) (zaW fun _=>rfl) (Eq.mp sumV ?_)
 simp (maxSteps:=10000000) only [std,stdU,stdV,Exx,I64,Nat.reduceMul,Nat.reduceDiv,Nat.reduceAdd,Int.reduceToNat]
 intro x hx
 have hlen:=hx.2
 refine ⟨fun i=>i <= x.length,⟨0,by omega,rfl,rfl⟩,fun i=>x.length-i,fun i hi=>⟨fun hlt=>⟨by omega,by omega,zdG,fun _ _=>rfl,fun _ h=>zt5 h,zwD hx i,qcM hx i,by omega,by omega,i+1,by omega,by simp only; omega,?_,by omega,fun _ _=>rfl⟩,fun hge=>?_⟩⟩
 ·exact (zpA (regN zdG) ones [] (by omega)).symm
 ·rw [show i=x.length by omega,List.take_length,qi7 (ztM fun l hl=>(hx.1 l hl).1)]
  rfl

theorem qjL:(∀(x:Nat×List (List Nat)),x.1<4294967296/\ziR x.2->Exx (List (List Nat)) fun x_1=>(((x.2.length=x_1.length/\∀(i:Nat),i
 < x_1.length->[AV.ro 1 (x.2.getD i []).length fun i_1=>[AV.int .u8 (↑((x.2.getD i []).getD i_1 0):Int)]]=[AV.ro 1 (x_1.getD i []).length fun i_1 =>
 [AV.int .u8 (↑((x_1.getD i []).getD i_1 0):Int)]])/\True)/\true=true/\True)/\ziR x_1/\∀(y:Unit),True->Exx Unit fun y=>((decide ((↑(sumN x_1)
 : Int)=(x.1:Int))=decide (sumN x.2=x.1)/\True)/\true=true/\True)/\True)=(fnVC tb [(167,zaB sumC)] Tryz.f188 zrS (fun _=>{}) (fun _
 => none)):=by kernel_rfl

theorem qa1:SpecOk Tryz.prog 188 (zaB zrS):=by
 refine zaK zaL zaN (SPok.cons ql2 SPok.nil) Tryz.func188 (by decide) (zaW fun _=>rfl) (Eq.mp qjL ?_)
 simp (maxSteps:=10000000) only [std,stdU,stdV,Exx,I64,Nat.reduceMul,Nat.reduceDiv,Nat.reduceAdd,Int.reduceToNat]
 exact fun _ _ h=>h.2

end Yard
