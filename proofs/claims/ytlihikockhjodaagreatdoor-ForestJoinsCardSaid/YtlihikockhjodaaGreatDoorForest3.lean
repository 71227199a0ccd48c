import Derived.Test.YtlihikockhjodaaGreatDoorWfOps
import Derived.Test.YtlihikockhjodaaGreatDoorAwMath

namespace Yard
open Go Go.Sx Go.Proofs
set_option linter.unusedVariables false
set_option linter.unusedSimpArgs false
set_option maxRecDepth 4000
set_option maxHeartbeats 4000000

abbrev qrB (r:Nat->Int):List AV:=[.arr 1 12 (fun i=>[i64 (r i)])]
abbrev zd4 (r:Nat->Int):AV := .agg (qrB r)
abbrev zdN (r:Nat->Int):Sx.Item := .cells 47 (qrB r)
def zdM:Nat->Int:=fun _=>0
def zaT (r:Nat->Int):Prop:=∀i,i<12->I64 (r i)
def rootN (r:Nat->Int):Nat->Nat
 | 0=>0
 | k+1=>rootN r k+if r k=0 then 0 else 2 ^ k
theorem zh1 (r:Nat->Int):∀k,rootN r k<2 ^ k
 | 0=>by simp [rootN]
 | k+1=>by
   have:=zh1 r k
   rw [rootN,Nat.pow_succ]
   split <;> omega
def zgS:Ctr:=zbN (Nat->Int) zaT (fun r=>[zd4 r]) (fun r=>i64 (rootN r 12:Nat))
def zv7 (r:Nat->Int):LA:={ T:=Nat,F:=fun i=>frm 19 [(1,.ptr 1 [] 0),(3,i64 (rootN r i:Nat)),(6,zd4 r),(7,i64 (i:Nat))],H:=fun _=>[.fence,zdN r] }
theorem shl12 {t:Nat} (h:t<12):IntKind.i64.wrap (1*2 ^ min t IntKind.i64.bits)=((2 ^ t:Nat):Int):=by
 have:t=0\/t=1\/t=2\/t=3\/t=4\/t=5\/t=6\/t=7\/t=8\/t=9\/t=10\/t=11:=by omega
 rcases this with rfl | rfl | rfl | rfl | rfl | rfl | rfl | rfl | rfl | rfl | rfl | rfl <;> rfl
theorem zy9:(
 let q1:Prop:=true=true/\zaC/\0=0;
 let q2:Prop:=(47:TypeId)=47; ∀(x:Nat->Int),
 let q3:Prop:=1=1/\12=12/\(∀(i:Nat),i<12->[AV.int .i64 (x i)]=[AV.int .i64 (x i)])/\True;
 let q4:Prop:=true=true/\(q2/\q3)/\True; zaT x->Exx (Nat->Prop) fun I=>Exx (Nat->Nat) fun m=>(Exx Nat fun t=>I t/\Tr 1 (q1/\Tr 1 (Tr 1 (0=(↑(rootN x t):Int))/\Tr 2 (q3/\Tr 1 (0=(t:Int))/\Tr 11 True)))/\true=true/\(47=(47:TypeId)/\q3)/\True)/\∀(t:Nat),
 let q5:Prop:=(t:Int)<(↑(12:Nat):Int);
 let q6:Int:=(t:Int)+1;
 let q7:Prop:=I64 q6; I t->BC (decide ((t:Int)<(12:Int))) (((0:Int) <= (t:Int)/\q5/\q5)/\BC (!decide (x (t:Int).toNat=(0:Int))) ((0:Int) <= (t:Int)/\∀(n:Int),
 let q8:Int:=(↑(rootN x t):Int)+n; n=IntKind.i64.wrap (1*2 ^ min (t:Int).toNat IntKind.i64.bits)->I64 q8/\q7/\Exx Nat fun t'=>(I t'/\m t'<m t)/\Tr 1 (q1/\Tr 1 (Tr 1 (q8=(↑(rootN x t'):Int))/\Tr 2 (q3/\Tr 1 (q6=(↑t':Int))/\Tr 11 True)))/\q4) (q7/\Exx Nat fun t'=>(I t'/\m t'<m t)/\Tr 1 (q1/\Tr 1 (Tr 1 ((↑(rootN x t):Int)=(↑(rootN x t'):Int))/\Tr 2 (q3/\Tr 1 (q6=(↑t':Int))/\Tr 11 True)))/\q4)) (Exx Unit fun y=>((Tr 1 ((↑(rootN x t):Int)=(↑(rootN x 12):Int))/\True)/\true=true/\True)/\True))=(fnVC tb [] Tryz.f27 zgS (fun r=>{ loops:=[(3,zv7 r)] }) (fun _=>none)):=by kernel_rfl

theorem zkN:SpecOk Tryz.prog 27 (zaA zgS):=by
 refine zaK zaM zaL SPok.nil Tryz.func27 (by decide) (zaO fun _=>rfl) (Eq.mp zy9 ?_)
 simp (maxSteps:=10000000) only [std,stdU,stdV,Exx,I64,Nat.reduceMul,Nat.reduceDiv,Nat.reduceAdd,Int.reduceToNat]
 intro r hr
 refine ⟨fun i=>i <= 12,⟨0,Nat.zero_le _,rfl,rfl⟩,fun i=>12-i,fun i hi=>⟨fun hlt=>?_,fun hge=>?_⟩⟩
 ·have h12:i<12:=by omega
  have hn:=zh1 r i
  have hp:2 ^ i <= 2 ^ 11:=Nat.pow_le_pow_right (by decide) (by omega)
  have e11:(2:Nat) ^ 11=2048:=rfl
  rw [shl12 h12]
  refine ⟨by omega,by omega,by omega,fun hne=>⟨by omega,by omega,by omega,by omega,by omega,i+1,by omega,by simp only; omega,?_,by omega⟩,fun hz=>⟨by omega,by omega,i+1,by omega,by simp only; omega,?_,by omega⟩⟩
  ·rw [rootN,if_neg hne]; omega
  ·rw [rootN,if_pos hz]; rfl
 ·have e:i=12:=by omega
  rw [e]

structure FR where
 s:StoreT
 t:TickT
 r:Nat->Int
 e:Int
def frA (q:FR):AV := .tup [zeQ q.t,zd4 q.r,i64 q.e]
theorem qlV (q:FR):plV 2 (frA q):=⟨⟨rfl,rfl,rfl,rfl,rfl,rfl,trivial⟩,⟨fun _ _=>⟨rfl,trivial⟩,trivial⟩,rfl,trivial⟩
def updR (r:Nat->Int) (i:Nat) (v:Int):Nat->Int:=fun j=>if j=i then v else r j
def addF:Nat->Nat->StoreT->TickT->(Nat->Int)->Int->FR
 | 0,_,s,_,_,_=>⟨s,tickZ,zdM,2⟩
 | n+1,i,s,t,r,a =>
   if r i=0 then ⟨s,t,updR r i a,0⟩
   else if i=11 then ⟨s,tickZ,zdM,2⟩
   else if (lkRes s t (r i) a).e=0 then addF n (i+1) (lkRes s t (r i) a).s (lkRes s t (r i) a).t (updR r i 0) (lkRes s t (r i) a).a
   else ⟨(lkRes s t (r i) a).s,tickZ,zdM,(lkRes s t (r i) a).e⟩
def addR (s:StoreT) (t:TickT) (r:Nat->Int) (a:Int):FR :=
 if readE s.ws a=0 then addF (12-(readT s.ws a).kids.length) (readT s.ws a).kids.length s t r a else ⟨s,tickZ,zdM,readE s.ws a⟩
def zj9:Ctr:=za5 (TickT×(Nat->Int)×Int) (fun x=>zaS x.2.1/\zaT x.2.2.1/\I64 x.2.2.2) (fun x=>[zeQ x.2.1,zd4 x.2.2.1,i64 x.2.2.2]) (fun x=>(addR x.1 x.2.1 x.2.2.1 x.2.2.2).s) (fun x=>frA (addR x.1 x.2.1 x.2.2.1 x.2.2.2))
def qb8 (x:StoreT×TickT×(Nat->Int)×Int):LA:={ T:=(Nat×Int)×(StoreT×TickT)×(Nat->Int),F:=fun t=>frm 63 [(0,.ptr 0 [] 0),(3,i64 t.1.2),(5,.ptr 4 [] 0),(6,.ptr 5 [] 0),(8,.ptr 6 [] 0),(9,.ptr 7 [] 0),(13,i64 (t.1.1:Nat))],H:=fun t=>zeA t.2.1.1++[.fence,zz8 t.2.1.2,zdN t.2.2,zz8 tickZ,zdN zdM],ρ₁:=zfP 4 [5,6,8,9],ρ₂:=zfP 4 [5,6,8,9] }
theorem qdA {r:Nat->Int} (h:zaT r) {i:Nat} {v:Int} (hv:I64 v):zaT (updR r i v):=fun j hj=>by
 unfold updR
 split
 ·exact hv
 ·exact h j hj
theorem zuJ (r:Nat->Int) (k:Nat) (v:Int):∀i,i<12->(if i=k then [i64 v] else [i64 (r i)])=[i64 (updR r k v i)]:=fun i _=>by
 unfold updR
 split <;> rfl
theorem qrU:∀(n i:Nat) (s:StoreT) (t:TickT) (r:Nat->Int) (a:Int),i+n=12->zaG s->zaS t->zaT r->I64 a->zaG (addF n i s t r a).s/\zaS (addF n i s t r a).t/\zaT (addF n i s t r a).r
 | 0,_,s,t,r,a,_,h,ht,hr,ha=>⟨h,zc5,fun _ _=>I64_0⟩
 | n+1,i,s,t,r,a,hi,h,ht,hr,ha=>by
   unfold addF
   split
   ·exact ⟨h,ht,qdA hr ha⟩
   ·split
    ·exact ⟨h,zc5,fun _ _=>I64_0⟩
    ·have k:=lk_I h ht (hr i (by omega)) ha
     split
     ·exact qrU n (i+1) _ _ _ _ (by omega) k.1 k.2.1 (qdA hr I64_0) k.2.2
     ·exact ⟨k.1,zc5,fun _ _=>I64_0⟩
theorem addR_I {s:StoreT} (h:zaG s) {t:TickT} (ht:zaS t) {r:Nat->Int} (hr:zaT r) {a:Int} (ha:I64 a):zaG (addR s t r a).s/\zaS (addR s t r a).t/\zaT (addR s t r a).r:=by
 unfold addR
 have hl:=zl5 s.ws a
 split
 ·exact qrU _ _ _ _ _ _ (by omega) h ht hr ha
 ·exact ⟨h,zc5,fun _ _=>I64_0⟩
theorem qg1:(
 let q1:Prop:=true=true/\zaC/\0=0;
 let q2:Prop:=(107:TypeId)=107/\q1/\q1/\True;
 let q3:Prop:=(40:TypeId)=40;
 let q4:Prop:=(47:TypeId)=47; ∀(x:StoreT×TickT×(Nat->Int)×Int),
 let q5:Int:=x.2.2.2;
 let q6:FR:=addR x.1 x.2.1 x.2.2.1 q5;
 let q7:TickT:=q6.t;
 let q8:Int:=q7.blocks;
 let q9:Int:=q7.slots;
 let q10:Int:=q7.gens;
 let q11:Int:=q7.top;
 let q12:Int:=q7.high;
 let q13:Int:=q7.free;
 let q14:Prop:=Tr 1 ((0:Int)=q8)/\Tr 1 ((0:Int)=q9)/\Tr 1 ((0:Int)=q10)/\Tr 1 ((0:Int)=q11)/\Tr 1 ((0:Int)=q12)/\Tr 1 ((0:Int)=q13)/\True;
 let q15:Prop:=1=1/\12=12/\(∀(i:Nat),i<12->[AV.int .i64 0]=[AV.int .i64 (q6.r i)])/\True;
 let q16:Int:=q6.e;
 let q17:StoreT:=q6.s;
 let q18:Ob:=devB q17.ws;
 let q19:Ob:=zaB q17.a; zaG x.1/\zaS x.2.1/\zaT x.2.2.1/\I64 q5->Exx (StoreT×Int) fun x_1=>((q1/\Tr 1 (q5=x_1.2)/\True)/\true=true/\q2/\devB x.1.ws=devB x_1.1.ws/\zaB x.1.a=zaB x_1.1.a/\True)/\(zaG x_1.1/\I64 x_1.2)/\∀(y:Nat),(readT x_1.1.ws x_1.2).kids.length <= y/\y <= 9223372036854775807->BC (!decide (readE x_1.1.ws x_1.2=(0:Int))) (Exx Unit fun y=>(((q14/\q15/\Tr 1 (readE x_1.1.ws x_1.2=q16)/\True)/\True)/\q2/\devB x_1.1.ws=q18/\zaB x_1.1.a=q19/\true=true/\True)/\True) (Exx ((Nat×Int)×(StoreT×TickT)×(Nat->Int)->Prop) fun I=>Exx ((Nat×Int)×(StoreT×TickT)×(Nat->Int)->Nat) fun m=>(Exx ((Nat×Int)×(StoreT×TickT)×(Nat->Int)) fun t =>
 let q20:StoreT×TickT:=t.2.1;
 let q21:StoreT:=q20.1;
 let q22:TickT:=q20.2; I t/\(q1/\Tr 2 (Tr 1 (q5=t.1.2)/\Tr 1 (q1/\q1/\Tr 1 (q1/\q1/\Tr 3 (Tr 1 ((↑(readT x_1.1.ws x_1.2).kids.length:Int)=(t.1.1:Int))/\Tr 49 True)))))/\q2/\devB x_1.1.ws=devB q21.ws/\zaB x_1.1.a=zaB q21.a/\true=true/\(40=(40:TypeId)/\Tr 1 (x.2.1.blocks=q22.blocks)/\Tr 1 (x.2.1.slots=q22.slots)/\Tr 1 (x.2.1.gens=q22.gens)/\Tr 1 (x.2.1.top=q22.top)/\Tr 1 (x.2.1.high=q22.high)/\Tr 1 (x.2.1.free=q22.free)/\True)/\(47=(47:TypeId)/\1=1/\12=12/\(∀(i:Nat),i<12->[AV.int .i64 (x.2.2.1 i)]=[AV.int .i64 (t.2.2 i)])/\True)/\(40=(40:TypeId)/\Tr 1 ((0:Int)=tickZ.blocks)/\Tr 1 ((0:Int)=tickZ.slots)/\Tr 1 ((0:Int)=tickZ.gens)/\Tr 1 ((0:Int)=tickZ.top)/\Tr 1 ((0:Int)=tickZ.high)/\Tr 1 ((0:Int)=tickZ.free)/\True)/\(47=(47:TypeId)/\1=1/\12=12/\(∀(i:Nat),i<12->[AV.int .i64 0]=[AV.int .i64 (zdM i)])/\True)/\True)/\∀(t:(Nat×Int)×(StoreT×TickT)×(Nat->Int)),
 let q23:Int:=(t.1.1:Int);
 let q24:Prop:=(0:Int) <= q23/\q23<(↑(12:Nat):Int);
 let q25:Nat:=q23.toNat;
 let q26:Prop:=q25<12;
 let q27:Int:=t.2.2 q25;
 let q28:StoreT×TickT:=t.2.1;
 let q29:TickT:=q28.2;
 let q30:Int:=q29.blocks;
 let q31:Int:=q29.slots;
 let q32:Int:=q29.gens;
 let q33:Int:=q29.top;
 let q34:Int:=q29.high;
 let q35:Int:=q29.free;
 let q36:StoreT:=q28.1;
 let q37:Ob:=devB q36.ws;
 let q38:Ob:=zaB q36.a;
 let q39:Prop:=q2/\q37=q18/\q38=q19/\true=true/\True;
 let q40:Prop:=Exx Unit fun y=>(((q14/\q15/\Tr 1 ((2:Int)=q16)/\True)/\True)/\q39)/\True;
 let q41:Int:=q23+1; I t->BC (decide (q23<(12:Int))) (q24/\q26/\BC (decide (q27=(0:Int))) (q24/\q26/\Exx Unit fun y=>((((Tr 1 (q30=q8)/\Tr 1 (q31=q9)/\Tr 1 (q32=q10)/\Tr 1 (q33=q11)/\Tr 1 (q34=q12)/\Tr 1 (q35=q13)/\True)/\(1=1/\12=12/\(∀(i:Nat),i<12->[AV.int .i64 (if i=q25 then t.1.2 else t.2.2 i)]=[AV.int .i64 (q6.r i)])/\True)/\Tr 1 ((0:Int)=q16)/\True)/\True)/\q39)/\True) (BC (decide (q23=(11:Int))) q40 (q24/\q26/\Exx (StoreT×TickT×Int×Int) fun x =>
 let q42:TR:=lkRes x.1 x.2.1 x.2.2.1 x.2.2.2;
 let q43:Int:=q42.e;
 let q44:StoreT:=q42.s;
 let q45:Ob:=devB q44.ws;
 let q46:Ob:=zaB q44.a;
 let q47:TickT:=q42.t; ((q1/\(Tr 1 (q30=x.2.1.blocks)/\Tr 1 (q31=x.2.1.slots)/\Tr 1 (q32=x.2.1.gens)/\Tr 1 (q33=x.2.1.top)/\Tr 1 (q34=x.2.1.high)/\Tr 1 (q35=x.2.1.free)/\True)/\Tr 1 (q27=x.2.2.1)/\Tr 1 (t.1.2=x.2.2.2)/\True)/\true=true/\q2/\q37=devB x.1.ws/\q38=zaB x.1.a/\True)/\(zaG x.1/\zaS x.2.1/\I64 x.2.2.1/\I64 x.2.2.2)/\∀(y:Unit),True->BC (!decide (q43=(0:Int))) (Exx Unit fun y=>(((q14/\q15/\Tr 1 (q43=q16)/\True)/\True)/\q2/\q45=q18/\q46=q19/\true=true/\True)/\True) (q24/\q26/\I64 q41/\Exx ((Nat×Int)×(StoreT×TickT)×(Nat->Int)) fun t' =>
 let q48:StoreT×TickT:=t'.snd.1;
 let q49:StoreT:=q48.1;
 let q50:TickT:=q48.2; (I t'/\m t'<m t)/\(q1/\Tr 2 (Tr 1 (q42.a=t'.fst.2)/\Tr 1 (q1/\q1/\Tr 1 (q1/\q1/\Tr 3 (Tr 1 (q41=(↑t'.fst.1:Int))/\Tr 49 True)))))/\q2/\q45=devB q49.ws/\q46=zaB q49.a/\true=true/\(q3/\Tr 1 (q47.blocks=q50.blocks)/\Tr 1 (q47.slots=q50.slots)/\Tr 1 (q47.gens=q50.gens)/\Tr 1 (q47.top=q50.top)/\Tr 1 (q47.high=q50.high)/\Tr 1 (q47.free=q50.free)/\True)/\(q4/\1=1/\12=12/\(∀(i:Nat),i<12->[AV.int .i64 (if i=q25 then 0 else t.2.2 i)]=[AV.int .i64 (t'.snd.2 i)])/\True)/\(q3/\Tr 1 (tickZ.blocks=tickZ.blocks)/\Tr 1 (tickZ.slots=tickZ.slots)/\Tr 1 (tickZ.gens=tickZ.gens)/\Tr 1 (tickZ.top=tickZ.top)/\Tr 1 (tickZ.high=tickZ.high)/\Tr 1 (tickZ.free=tickZ.free)/\True)/\(q4/\1=1/\12=12/\(∀(i:Nat),i<12->[AV.int .i64 (zdM i)]=[AV.int .i64 (zdM i)])/\True)/\True)))) q40))=(fnVC tb [(50,zaA zpZ),(51,zaA zpW)] Tryz.f18 zj9 (fun x=>{ loops:=[(5,qb8 x)],loose:=[(9,[6,7]),(11,[0,1,2,4])] }) (fun _=>none)):=by kernel_rfl

theorem zoU:SpecOk Tryz.prog 18 (zaA zj9):=by
 refine zaK zaM zaL (SPok.cons zo2 (SPok.cons zz7 SPok.nil)) Tryz.func18 (by decide) (zaR fun _=>qlV _) (Eq.mp qg1 ?_)
 simp (maxSteps:=10000000) only [std,stdU,stdV,Exx,I64,Nat.reduceMul,Nat.reduceDiv,Nat.reduceAdd,Int.reduceToNat,↓and_self,and_self,and_self_left,and_self_right,zaQ,zaI,zfH,zc8,zd9,zcS,zfL]
 rintro s0 t0 r0 a0 ⟨h,ht,hr,ha1,ha2⟩
 have hl:=zl5 s0.ws a0
 refine ⟨h,ha1,ha2,fun y hy=>⟨fun hn=>?_,fun hz=>?_⟩⟩
 ·rw [addR,if_neg hn]
  exact ⟨rfl,rfl,rfl,rfl,rfl,rfl,fun _ _=>rfl,rfl,rfl,rfl⟩
 refine ⟨fun z=>zaG z.2.1.1/\zaS z.2.1.2/\zaT z.2.2/\I64 z.1.2/\z.1.1 <= 12/\addR s0 t0 r0 a0=addF (12-z.1.1) z.1.1 z.2.1.1 z.2.1.2 z.2.2 z.1.2,⟨(readT s0.ws a0).kids.length,a0,s0,t0,r0,⟨h,ht,hr,⟨ha1,ha2⟩,hl,by rw [addR,if_pos hz]⟩,rfl,rfl,rfl,rfl,rfl,rfl,rfl,rfl,rfl,rfl,fun _ _=>rfl,rfl,rfl,rfl,rfl,rfl,rfl,fun _ _=>rfl⟩,fun z=>12-z.1.1,fun i a s t r hJ=>?_⟩
 obtain ⟨j1,j2,j3,j4,j5,j6⟩:=hJ
 simp only at j1 j2 j3 j4 j5 j6
 refine ⟨fun hlt=>?_,fun hge=>?_⟩
 ·have hi:i<12:=by omega
  rw [show 12-i=(11-i)+1 by omega,addF] at j6
  refine ⟨by omega,by omega,hi,fun hr0=>?_,fun hr0=>⟨fun h11=>?_,fun h11=>?_⟩⟩
  ·rw [if_pos hr0] at j6
   rw [j6]
   exact ⟨by omega,by omega,hi,rfl,rfl,rfl,rfl,rfl,rfl,zuJ r i a,rfl,rfl,rfl⟩
  ·rw [if_neg hr0,if_pos (by omega)] at j6
   rw [j6]
   exact ⟨rfl,rfl,rfl,rfl,rfl,rfl,fun _ _=>rfl,rfl,rfl,rfl⟩
  ·rw [if_neg hr0,if_neg (by omega)] at j6
   have hri:=j3 i hi
   have k:=lk_I j1 j2 hri j4
   refine ⟨by omega,by omega,hi,j1,j2,hri.1,hri.2,j4.1,j4.2,fun hne=>?_,fun he=>?_⟩
   ·rw [if_neg hne] at j6
    rw [j6]
    exact ⟨rfl,rfl,rfl,rfl,rfl,rfl,fun _ _=>rfl,rfl,rfl,rfl⟩
   ·rw [if_pos he] at j6
    exact ⟨by omega,by omega,hi,by omega,by omega,i+1,_,(lkRes s t (r i) a).s,(lkRes s t (r i) a).t,updR r i 0,⟨k.1,k.2.1,qdA j3 I64_0,k.2.2,by simp only; omega,by simp only; rw [j6,show 12-(i+1)=11-i by omega]⟩,by simp only; omega,rfl,by omega,rfl,rfl,rfl,rfl,rfl,rfl,rfl,rfl,zuJ r i 0⟩
 ·have hi:i=12:=by omega
  subst hi
  rw [show 12-12=0 from rfl,addF] at j6
  rw [j6]
  exact ⟨rfl,rfl,rfl,rfl,rfl,rfl,fun _ _=>rfl,rfl,rfl,rfl⟩


def zbO:List Int->StoreT->TickT->(Nat->Int)->FR
 | [],s,t,r=>⟨s,t,r,0⟩
 | a :: l,s,t,r=>if (addR s t r a).e=0 then zbO l (addR s t r a).s (addR s t r a).t (addR s t r a).r else ⟨(addR s t r a).s,tickZ,zdM,(addR s t r a).e⟩
def zsF:Ctr:=za5 (TickT×(Nat->Int)×List Int) (fun x=>zaS x.2.1/\zaT x.2.2.1/\zg5 x.2.2.2) (fun x=>[zeQ x.2.1,zd4 x.2.2.1,zrA x.2.2.2]) (fun x=>(zbO x.2.2.2 x.1 x.2.1 x.2.2.1).s) (fun x=>frA (zbO x.2.2.2 x.1 x.2.1 x.2.2.1))
def qqW (x:StoreT×TickT×(Nat->Int)×List Int):LA:={ T:=Nat×(StoreT×TickT)×(Nat->Int),F:=fun t=>frm 37 [(0,.ptr 0 [] 0),(5,.ptr 4 [] 0),(6,.ptr 5 [] 0),(8,.ptr 6 [] 0),(9,.ptr 7 [] 0),(14,zrA x.2.2.2),(15,i64 (x.2.2.2.length:Nat)),(16,i64 (t.1:Nat))],H:=fun t=>zeA t.2.1.1++[.fence,zz8 t.2.1.2,zdN t.2.2,zz8 tickZ,zdN zdM],ρ₁:=zfP 4 [5,6,8,9],ρ₂:=zfP 4 [5,6,8,9] }
theorem addAllV:(
 let q1:Prop:=true=true/\zaC/\0=0;
 let q2:Prop:=(107:TypeId)=107/\q1/\q1/\True;
 let q3:Prop:=(40:TypeId)=40;
 let q4:Prop:=(47:TypeId)=47; ∀(x:StoreT×TickT×(Nat->Int)×List Int),
 let q5:TickT:=x.2.1;
 let q6:(Nat->Int)×List Int:=x.2.2;
 let q7:List Int:=q6.2;
 let q8:Nat:=q7.length;
 let q9:Prop:=1=1/\q8=q8/\∀(i:Nat),i<q8->[AV.int .i64 (q7.getD i 0)]=[AV.int .i64 (q7.getD i 0)];
 let q10:Int:=(q8:Int);
 let q11:Prop:=Tr 1 (q10=q10);
 let q12:FR:=zbO q7 x.1 q5 q6.1;
 let q13:TickT:=q12.t;
 let q14:Int:=q13.blocks;
 let q15:Int:=q13.slots;
 let q16:Int:=q13.gens;
 let q17:Int:=q13.top;
 let q18:Int:=q13.high;
 let q19:Int:=q13.free;
 let q20:Int:=q12.e;
 let q21:StoreT:=q12.s;
 let q22:Ob:=devB q21.ws;
 let q23:Ob:=zaB q21.a; zaG x.1/\zaS q5/\zaT q6.1/\zg5 q7->Exx (Nat×(StoreT×TickT)×(Nat->Int)->Prop) fun I=>Exx (Nat×(StoreT×TickT)×(Nat->Int)->Nat) fun m=>(Exx (Nat×(StoreT×TickT)×(Nat->Int)) fun t =>
 let q24:StoreT:=t.2.1.1;
 let q25:TickT:=t.2.1.2; I t/\(q1/\Tr 4 (q1/\q1/\Tr 1 (q1/\q1/\Tr 4 (q9/\q11/\Tr 1 (0=(t.1:Int))/\Tr 20 True))))/\q2/\devB x.1.ws=devB q24.ws/\zaB x.1.a=zaB q24.a/\true=true/\(40=(40:TypeId)/\Tr 1 (q5.blocks=q25.blocks)/\Tr 1 (q5.slots=q25.slots)/\Tr 1 (q5.gens=q25.gens)/\Tr 1 (q5.top=q25.top)/\Tr 1 (q5.high=q25.high)/\Tr 1 (q5.free=q25.free)/\True)/\(47=(47:TypeId)/\1=1/\12=12/\(∀(i:Nat),i<12->[AV.int .i64 (q6.1 i)]=[AV.int .i64 (t.2.2 i)])/\True)/\(40=(40:TypeId)/\Tr 1 ((0:Int)=tickZ.blocks)/\Tr 1 ((0:Int)=tickZ.slots)/\Tr 1 ((0:Int)=tickZ.gens)/\Tr 1 ((0:Int)=tickZ.top)/\Tr 1 ((0:Int)=tickZ.high)/\Tr 1 ((0:Int)=tickZ.free)/\True)/\(47=(47:TypeId)/\1=1/\12=12/\(∀(i:Nat),i<12->[AV.int .i64 0]=[AV.int .i64 (zdM i)])/\True)/\True)/\∀(t:Nat×(StoreT×TickT)×(Nat->Int)),
 let q26:Prop:=(t.1:Int)<q10;
 let q27:TickT:=t.2.1.2;
 let q28:Int:=q27.blocks;
 let q29:Int:=q27.slots;
 let q30:Int:=q27.gens;
 let q31:Int:=q27.top;
 let q32:Int:=q27.high;
 let q33:Int:=q27.free;
 let q34:StoreT:=t.2.1.1;
 let q35:Ob:=devB q34.ws;
 let q36:Ob:=zaB q34.a;
 let q37:Int:=(t.1:Int)+1; I t->BC (decide q26) (((0:Int) <= (t.1:Int)/\q26)/\Exx (StoreT×TickT×(Nat->Int)×Int) fun x =>
 let q38:Int:=x.2.2.2;
 let q39:FR:=addR x.1 x.2.1 x.2.2.1 q38;
 let q40:Int:=q39.e;
 let q41:StoreT:=q39.s;
 let q42:Ob:=devB q41.ws;
 let q43:Ob:=zaB q41.a;
 let q44:TickT:=q39.t; ((q1/\(Tr 1 (q28=x.2.1.blocks)/\Tr 1 (q29=x.2.1.slots)/\Tr 1 (q30=x.2.1.gens)/\Tr 1 (q31=x.2.1.top)/\Tr 1 (q32=x.2.1.high)/\Tr 1 (q33=x.2.1.free)/\True)/\(1=1/\12=12/\(∀(i:Nat),i<12->[AV.int .i64 (t.2.2 i)]=[AV.int .i64 (x.2.2.1 i)])/\True)/\Tr 1 (q7.getD (t.1:Int).toNat 0=q38)/\True)/\true=true/\q2/\q35=devB x.1.ws/\q36=zaB x.1.a/\True)/\(zaG x.1/\zaS x.2.1/\zaT x.2.2.1/\I64 q38)/\∀(y:Unit),True->BC (!decide (q40=(0:Int))) (Exx Unit fun y=>((((Tr 1 ((0:Int)=q14)/\Tr 1 ((0:Int)=q15)/\Tr 1 ((0:Int)=q16)/\Tr 1 ((0:Int)=q17)/\Tr 1 ((0:Int)=q18)/\Tr 1 ((0:Int)=q19)/\True)/\(1=1/\12=12/\(∀(i:Nat),i<12->[AV.int .i64 0]=[AV.int .i64 (q12.r i)])/\True)/\Tr 1 (q40=q20)/\True)/\True)/\q2/\q42=q22/\q43=q23/\true=true/\True)/\True) (I64 q37/\Exx (Nat×(StoreT×TickT)×(Nat->Int)) fun t' =>
 let q45:StoreT:=t'.snd.1.1;
 let q46:TickT:=t'.snd.1.2; (I t'/\m t'<m t)/\(q1/\Tr 4 (q1/\q1/\Tr 1 (q1/\q1/\Tr 4 (q9/\q11/\Tr 1 (q37=(↑t'.fst:Int))/\Tr 20 True))))/\q2/\q42=devB q45.ws/\q43=zaB q45.a/\true=true/\(q3/\Tr 1 (q44.blocks=q46.blocks)/\Tr 1 (q44.slots=q46.slots)/\Tr 1 (q44.gens=q46.gens)/\Tr 1 (q44.top=q46.top)/\Tr 1 (q44.high=q46.high)/\Tr 1 (q44.free=q46.free)/\True)/\(q4/\1=1/\12=12/\(∀(i:Nat),i<12->[AV.int .i64 (q39.r i)]=[AV.int .i64 (t'.snd.2 i)])/\True)/\(q3/\Tr 1 (tickZ.blocks=tickZ.blocks)/\Tr 1 (tickZ.slots=tickZ.slots)/\Tr 1 (tickZ.gens=tickZ.gens)/\Tr 1 (tickZ.top=tickZ.top)/\Tr 1 (tickZ.high=tickZ.high)/\Tr 1 (tickZ.free=tickZ.free)/\True)/\(q4/\1=1/\12=12/\(∀(i:Nat),i<12->[AV.int .i64 (zdM i)]=[AV.int .i64 (zdM i)])/\True)/\True)) (Exx Unit fun y=>((((Tr 1 (q28=q14)/\Tr 1 (q29=q15)/\Tr 1 (q30=q16)/\Tr 1 (q31=q17)/\Tr 1 (q32=q18)/\Tr 1 (q33=q19)/\True)/\(1=1/\12=12/\(∀(i:Nat),i<12->[AV.int .i64 (t.2.2 i)]=[AV.int .i64 (q12.r i)])/\True)/\Tr 1 ((0:Int)=q20)/\True)/\True)/\q2/\q35=q22/\q36=q23/\true=true/\True)/\True))=(fnVC tb [(18,zaA zj9)] Tryz.f56 zsF (fun x=>{ loops:=[(2,qqW x)],loose:=[(9,[6,7])] }) (fun _=>none)):=by kernel_rfl

theorem zsE:SpecOk Tryz.prog 56 (zaA zsF):=by
 refine zaK zaM zaL (SPok.cons zoU SPok.nil) Tryz.func56 (by decide) (zaR fun _=>qlV _) (Eq.mp addAllV ?_)
 simp (maxSteps:=10000000) only [std,stdU,stdV,Exx,I64,Nat.reduceMul,Nat.reduceDiv,Nat.reduceAdd,Int.reduceToNat,↓and_self,and_self,and_self_left,and_self_right,zaQ,zaI,zfH,zc8,zd9,zcS,zfL]
 rintro s0 t0 r0 l ⟨h,ht,hr,hl⟩
 have hl63:=hl.2
 refine ⟨fun z=>zaG z.2.1.1/\zaS z.2.1.2/\zaT z.2.2/\z.1 <= l.length/\zbO l s0 t0 r0=zbO (l.drop z.1) z.2.1.1 z.2.1.2 z.2.2,⟨0,s0,t0,r0,⟨h,ht,hr,Nat.zero_le _,rfl⟩,rfl,rfl,rfl,rfl,rfl,rfl,rfl,rfl,rfl,fun _ _=>rfl,rfl,rfl,rfl,rfl,rfl,rfl,fun _ _=>rfl⟩,fun z=>l.length-z.1,fun i s t r hJ=>?_⟩
 obtain ⟨j1,j2,j3,j4,j5⟩:=hJ
 simp only at j1 j2 j3 j4 j5
 refine ⟨fun hlt=>?_,fun hge=>?_⟩
 ·have hi:i<l.length:=by omega
  have ha:I64 (l.getD i 0):=getD_mem (p:=I64) hl.1 I64_0 i
  have eg:l.getD i 0=l[i]:=by rw [List.getD_eq_getElem?_getD,List.getElem?_eq_getElem hi]; rfl
  rw [List.drop_eq_getElem_cons hi,<- eg,zbO] at j5
  have k:=addR_I j1 j2 j3 ha
  refine ⟨by omega,by omega,s,r,fun _ _=>rfl,rfl,rfl,j1,j2,j3,ha.1,ha.2,fun hne=>?_,fun he=>?_⟩
  ·rw [if_neg hne] at j5
   rw [j5]
   exact ⟨rfl,rfl,rfl,rfl,rfl,rfl,fun _ _=>rfl,rfl,rfl,rfl⟩
  ·rw [if_pos he] at j5
   exact ⟨by omega,by omega,i+1,(addR s t r (l.getD i 0)).s,(addR s t r (l.getD i 0)).t,(addR s t r (l.getD i 0)).r,⟨k.1,k.2.1,k.2.2,by simp only; omega,j5⟩,by simp only; omega,by omega,rfl,rfl,rfl,rfl,rfl,rfl,rfl,rfl,fun _ _=>rfl⟩
 ·have hi:i=l.length:=by omega
  rw [hi,List.drop_length,zbO] at j5
  rw [j5]
  exact ⟨rfl,rfl,rfl,rfl,rfl,rfl,fun _ _=>rfl,rfl,rfl,rfl⟩

structure IR where
 s:StoreT
 t:TickT
 r:Nat->Int
 h:HandT
 e:Int
def irA (q:IR):AV := .tup [zeQ q.t,zd4 q.r,zy1 q.h,i64 q.e]
theorem irA_pl (q:IR):plV 2 (irA q):=⟨⟨rfl,rfl,rfl,rfl,rfl,rfl,trivial⟩,⟨fun _ _=>⟨rfl,trivial⟩,trivial⟩,⟨rfl,rfl,trivial⟩,rfl,trivial⟩
def insR (s:StoreT) (t:TickT) (r:Nat->Int) (k v:Int):IR :=
 if (zb7 s t k v).e=0 then
  if (addR (zb7 s t k v).s (zb7 s t k v).t r (zb7 s t k v).a).e=0 then ⟨(addR (zb7 s t k v).s (zb7 s t k v).t r (zb7 s t k v).a).s,(addR (zb7 s t k v).s (zb7 s t k v).t r (zb7 s t k v).a).t,(addR (zb7 s t k v).s (zb7 s t k v).t r (zb7 s t k v).a).r,(zb7 s t k v).h,0⟩
  else ⟨(addR (zb7 s t k v).s (zb7 s t k v).t r (zb7 s t k v).a).s,tickZ,zdM,zvZ,(addR (zb7 s t k v).s (zb7 s t k v).t r (zb7 s t k v).a).e⟩
 else ⟨(zb7 s t k v).s,tickZ,zdM,zvZ,(zb7 s t k v).e⟩
def zvW:Ctr:=za5 (TickT×(Nat->Int)×Int×Int) (fun x=>zaS x.2.1/\zaT x.2.2.1/\I64 x.2.2.2.1/\I64 x.2.2.2.2) (fun x=>[zeQ x.2.1,zd4 x.2.2.1,i64 x.2.2.2.1,i64 x.2.2.2.2]) (fun x=>(insR x.1 x.2.1 x.2.2.1 x.2.2.2.1 x.2.2.2.2).s) (fun x=>irA (insR x.1 x.2.1 x.2.2.1 x.2.2.2.1 x.2.2.2.2))
theorem insertV:(
 let q1:Prop:=true=true/\zaC/\0=0;
 let q2:Prop:=(107:TypeId)=107/\q1/\q1/\True; ∀(x:StoreT×TickT×(Nat->Int)×Int×Int),
 let q3:TickT:=x.2.1;
 let q4:(Nat->Int)×Int×Int:=x.2.2;
 let q5:Int×Int:=q4.2;
 let q6:Int:=q5.1;
 let q7:Int:=q5.2;
 let q8:IR:=insR x.1 q3 q4.1 q6 q7;
 let q9:TickT:=q8.t;
 let q10:Int:=q9.blocks;
 let q11:Int:=q9.slots;
 let q12:Int:=q9.gens;
 let q13:Int:=q9.top;
 let q14:Int:=q9.high;
 let q15:Int:=q9.free;
 let q16:Prop:=Tr 1 ((0:Int)=q10)/\Tr 1 ((0:Int)=q11)/\Tr 1 ((0:Int)=q12)/\Tr 1 ((0:Int)=q13)/\Tr 1 ((0:Int)=q14)/\Tr 1 ((0:Int)=q15)/\True;
 let q17:Prop:=1=1/\12=12/\(∀(i:Nat),i<12->[AV.int .i64 0]=[AV.int .i64 (q8.r i)])/\True;
 let q18:HandT:=q8.h;
 let q19:Int:=q18.slot;
 let q20:Int:=q18.gen;
 let q21:Prop:=Tr 1 ((0:Int)=q19)/\Tr 1 ((0:Int)=q20)/\True;
 let q22:Int:=q8.e;
 let q23:StoreT:=q8.s;
 let q24:Ob:=devB q23.ws;
 let q25:Ob:=zaB q23.a;
 let q26:Prop:=Tr 1 ((0:Int)=q22)/\True; zaG x.1/\zaS q3/\zaT q4.1/\I64 q6/\I64 q7->Exx (StoreT×TickT×Int×Int) fun x_1 =>
 let q27:MR:=zb7 x_1.1 x_1.2.1 x_1.2.2.1 x_1.2.2.2;
 let q28:Int:=q27.e;
 let q29:Bool:=decide (q28=(0:Int));
 let q30:TickT:=q27.t;
 let q31:Int:=q30.blocks;
 let q32:Int:=q30.slots;
 let q33:Int:=q30.gens;
 let q34:Int:=q30.top;
 let q35:Int:=q30.high;
 let q36:Int:=q30.free;
 let q37:StoreT:=q27.s;
 let q38:Ob:=devB q37.ws;
 let q39:Ob:=zaB q37.a;
 let q40:HandT:=q27.h;
 let q41:Prop:=(Tr 1 (q40.slot=q19)/\Tr 1 (q40.gen=q20)/\True)/\q26;
 let q42:Prop:=q2/\q38=q24/\q39=q25/\true=true/\True; ((q1/\(Tr 1 (q3.blocks=x_1.2.1.blocks)/\Tr 1 (q3.slots=x_1.2.1.slots)/\Tr 1 (q3.gens=x_1.2.1.gens)/\Tr 1 (q3.top=x_1.2.1.top)/\Tr 1 (q3.high=x_1.2.1.high)/\Tr 1 (q3.free=x_1.2.1.free)/\True)/\Tr 1 (q6=x_1.2.2.1)/\Tr 1 (q7=x_1.2.2.2)/\True)/\true=true/\q2/\devB x.1.ws=devB x_1.1.ws/\zaB x.1.a=zaB x_1.1.a/\True)/\(zaG x_1.1/\zaS x_1.2.1/\I64 x_1.2.2.1/\I64 x_1.2.2.2)/\∀(y:Unit),True->BC q29 (Exx (StoreT×TickT×(Nat->Int)×Int) fun x =>
 let q43:Int:=x.2.2.2;
 let q44:FR:=addR x.1 x.2.1 x.2.2.1 q43;
 let q45:Int:=q44.e;
 let q46:StoreT:=q44.s;
 let q47:Prop:=q2/\devB q46.ws=q24/\zaB q46.a=q25/\true=true/\True;
 let q48:TickT:=q44.t; ((q1/\(Tr 1 (q31=x.2.1.blocks)/\Tr 1 (q32=x.2.1.slots)/\Tr 1 (q33=x.2.1.gens)/\Tr 1 (q34=x.2.1.top)/\Tr 1 (q35=x.2.1.high)/\Tr 1 (q36=x.2.1.free)/\True)/\(1=1/\12=12/\(∀(i:Nat),i<12->[AV.int .i64 (q4.1 i)]=[AV.int .i64 (x.2.2.1 i)])/\True)/\Tr 1 (q27.a=q43)/\True)/\true=true/\q2/\q38=devB x.1.ws/\q39=zaB x.1.a/\True)/\(zaG x.1/\zaS x.2.1/\zaT x.2.2.1/\I64 q43)/\∀(y:Unit),True->BC (!decide (q45=(0:Int))) (Exx Unit fun y=>(((q16/\q17/\q21/\Tr 1 (q45=q22)/\True)/\True)/\q47)/\True) (Exx Unit fun y=>((((Tr 1 (q48.blocks=q10)/\Tr 1 (q48.slots=q11)/\Tr 1 (q48.gens=q12)/\Tr 1 (q48.top=q13)/\Tr 1 (q48.high=q14)/\Tr 1 (q48.free=q15)/\True)/\(1=1/\12=12/\(∀(i:Nat),i<12->[AV.int .i64 (q44.r i)]=[AV.int .i64 (q8.r i)])/\True)/\q41)/\True)/\q47)/\True)) (BC (!q29) (Exx Unit fun y=>(((q16/\q17/\q21/\Tr 1 (q28=q22)/\True)/\True)/\q42)/\True) (Exx Unit fun y=>((((Tr 1 (q31=q10)/\Tr 1 (q32=q11)/\Tr 1 (q33=q12)/\Tr 1 (q34=q13)/\Tr 1 (q35=q14)/\Tr 1 (q36=q15)/\True)/\(1=1/\12=12/\(∀(i:Nat),i<12->[AV.int .i64 (q4.1 i)]=[AV.int .i64 (q8.r i)])/\True)/\q41)/\True)/\q42)/\True)))=(fnVC tb [(18,zaA zj9),(52,zaA zpV)] Tryz.f19 zvW (fun x=>{ loose:=[(6,[6,7,8])] }) (fun _=>none)):=by kernel_rfl

theorem zyT:SpecOk Tryz.prog 19 (zaA zvW):=by
 refine zaK zaM zaL (SPok.cons zoU (SPok.cons zz6 SPok.nil)) Tryz.func19 (by decide) (zaR fun _=>irA_pl _) (Eq.mp insertV ?_)
 simp (maxSteps:=10000000) only [std,stdU,stdV,Exx,I64,Nat.reduceMul,Nat.reduceDiv,Nat.reduceAdd,Int.reduceToNat,↓and_self,and_self,and_self_left,and_self_right,zaQ,zaI,zfH,zc8,zd9,zcS,zfL,zi6,zgR]
 rintro s t r k v ⟨h,ht,hr,hk1,hk2,hv1,hv2⟩
 have m:=mk_I h ht k v
 refine ⟨h,ht,hk1,hk2,hv1,hv2,fun he=>⟨(zb7 s t k v).s,r,fun _ _=>rfl,rfl,rfl,m.1,m.2.1,hr,m.2.2.1,m.2.2.2,fun hne=>?_,fun he2=>?_⟩,fun hne=>⟨fun _=>?_,fun q=>absurd q hne⟩⟩
 ·rw [insR,if_pos he,if_neg hne]
  exact ⟨rfl,rfl,rfl,rfl,rfl,rfl,fun _ _=>rfl,rfl,rfl,rfl,rfl,rfl⟩
 ·rw [insR,if_pos he,if_pos he2]
  exact ⟨rfl,rfl,rfl,rfl,rfl,rfl,fun _ _=>rfl,rfl,rfl,rfl,rfl,rfl⟩
 ·rw [insR,if_neg hne]
  exact ⟨rfl,rfl,rfl,rfl,rfl,rfl,fun _ _=>rfl,rfl,rfl,rfl,rfl,rfl⟩


structure Fst where
 n:NodeT
 p:Int
 e:Int
def fstF (ws:List Nat) (r:Nat->Int):Nat->Nat->NodeT->Int->Bool->Fst
 | 0,_,b,p,f=>if f=true then ⟨b,p,0⟩ else ⟨nodeZ,0,18⟩
 | n+1,i,b,p,f =>
   if r i=0 then fstF ws r n (i+1) b p f
   else if readE ws (r i)=0 then
    if f=false\/zgT (readT ws (r i)).e b.e<0 then fstF ws r n (i+1) (readT ws (r i)) (i:Nat) true
    else fstF ws r n (i+1) b p f
   else ⟨nodeZ,0,readE ws (r i)⟩
def fst (ws:List Nat) (r:Nat->Int):Fst:=fstF ws r 12 0 nodeZ 0 false
def zv9:Ctr where
 X:=StoreT×(Nat->Int)
 Y:=Nat
 conv:=true
 tau:=zo3
 pre:=fun x=>zaG x.1/\zaT x.2
 args:=fun x=>[.ptr 0 [] 0,zd4 x.2]
 heap:=fun x=>zeA x.1
 Q:=fun x cap=>(fst x.1.ws x.2).n.kids.length <= cap/\cap <= 9223372036854775807
 res:=fun x cap => .tup [qd3 (fst x.1.ws x.2).n (.sl 4 [] 0 1 0 (fst x.1.ws x.2).n.kids.length cap),i64 (fst x.1.ws x.2).p,i64 (fst x.1.ws x.2).e]
 its:=fun x _=>zeA x.1
 new:=fun x cap=>[rowI 3 .i64 cap (fst x.1.ws x.2).n.kids]
theorem qg6:CtrOk zv9 :=
 ⟨fun _ _ _ _=>(rfl:3=3),fun _ _ _ _=>⟨rfl,rfl⟩,fun x _ _ _ _=>⟨⟨zuN _,⟨⟨fun _ _=>⟨rfl,trivial⟩,trivial⟩,trivial⟩⟩,⟨rfl,rfl,rfl,rfl,rfl,trivial⟩,rfl,rfl,trivial⟩⟩

def qkN (n:Nat) (ts:List Nat) (k:Nat) (F:Fr) (H:AH):Option Ren:=some (qp7 n n++(ts.map fun t=>match F.getD t .any with
 | .ptr q _ _=>some q
 | .sl q _ _ _ _ _ _=>some q
 | _=>none)++[match F.getD k .any with
 | .ptr q _ _=>match H[q]? with
   | some (.cells _ (_ :: _ :: _ :: _ :: .sl p _ _ _ _ _ _ :: _))=>some p
   | _=>none
 | _=>none])
def qqH (x:StoreT×(Nat->Int)):LA:={ T:=Nat×(NodeT×Nat)×(Int×Bool),F:=fun t=>frm 50 [(0,.ptr 0 [] 0),(4,.ptr 4 [] 0),(5,i64 t.2.2.1),(7,.bool t.2.2.2),(15,zd4 x.2),(16,i64 (t.1:Nat))],H:=fun t=>zeA x.1++[.fence,.cells 31 [i64 t.2.1.1.e.slot,i64 t.2.1.1.e.gen,i64 t.2.1.1.e.key,i64 t.2.1.1.e.value,.sl 5 [] 0 1 0 t.2.1.1.kids.length t.2.1.2],rowI 3 .i64 t.2.1.2 t.2.1.1.kids],ρ₁:=qkN 4 [4] 4,ρ₂:=qkN 4 [4] 4 }
theorem firstFV:(
 let q1:Prop:=true=true/\zaC/\0=0;
 let q2:Prop:=(107:TypeId)=107/\q1/\q1/\True;
 let q3:Prop:=(31:TypeId)=31;
 let q4:Prop:=(3:TypeId)=3; ∀(x:StoreT×(Nat->Int)),
 let q5:Prop:=1=1/\12=12/\(∀(i:Nat),i<12->[AV.int .i64 (x.2 i)]=[AV.int .i64 (x.2 i)])/\True;
 let q6:Prop:=(fst x.1.ws x.2).n.kids.length=0;
 let q7:Prop:=Tr 1 ((0:Int)=(fst x.1.ws x.2).p); zaG x.1/\zaT x.2->Exx (Nat×(NodeT×Nat)×Int×Bool->Prop) fun I=>Exx (Nat×(NodeT×Nat)×Int×Bool->Nat) fun m=>(Exx (Nat×(NodeT×Nat)×Int×Bool) fun t =>
 let q8:Int×Bool:=t.2.2;
 let q9:NodeT×Nat:=t.2.1;
 let q10:NodeT:=q9.1;
 let q11:EntT:=q10.e;
 let q12:Prop:=q10.kids.length=0;
 let q13:Prop:=q9.2=0; I t/\(q1/\Tr 3 (q1/\Tr 1 ((0:Int)=q8.1)/\Tr 1 (false=q8.2/\Tr 7 (q5/\Tr 1 (0=(t.1:Int))/\Tr 33 True))))/\q2/\devB x.1.ws=devB x.1.ws/\zaB x.1.a=zaB x.1.a/\true=true/\(31=(31:TypeId)/\Tr 1 ((0:Int)=q11.slot)/\Tr 1 ((0:Int)=q11.gen)/\Tr 1 ((0:Int)=q11.key)/\Tr 1 ((0:Int)=q11.value)/\(q12/\q13)/\True)/\(q13/\q12)/\True)/\∀(t:Nat×(NodeT×Nat)×Int×Bool),
 let q14:Prop:=(t.1:Int)<(↑(12:Nat):Int);
 let q15:Int:=x.2 (t.1:Int).toNat;
 let q16:Int:=(t.1:Int)+1;
 let q17:Prop:=I64 q16;
 let q18:Int×Bool:=t.2.2;
 let q19:Int:=q18.1;
 let q20:Bool:=q18.2;
 let q21:NodeT×Nat:=t.2.1;
 let q22:NodeT:=q21.1;
 let q23:EntT:=q22.e;
 let q24:Int:=q23.slot;
 let q25:Int:=q23.gen;
 let q26:Int:=q23.key;
 let q27:Int:=q23.value;
 let q28:List Int:=q22.kids;
 let q29:Nat:=q28.length;
 let q30:Nat:=q21.2;
 let q31:Bool:=!q20; I t->BC (decide ((t.1:Int)<(12:Int))) (((0:Int) <= (t.1:Int)/\q14/\q14)/\BC (decide (q15=(0:Int))) (q17/\Exx (Nat×(NodeT×Nat)×Int×Bool) fun t' =>
 let q32:Int×Bool:=t'.snd.2;
 let q33:NodeT×Nat:=t'.snd.1;
 let q34:NodeT:=q33.1;
 let q35:EntT:=q34.e;
 let q36:List Int:=q34.kids;
 let q37:Nat:=q36.length;
 let q38:Prop:=q30=q33.2; (I t'/\m t'<m t)/\(q1/\Tr 3 (q1/\Tr 1 (q19=q32.1)/\Tr 1 (q20=q32.2/\Tr 7 (q5/\Tr 1 (q16=(↑t'.fst:Int))/\Tr 33 True))))/\q2/\devB x.1.ws=devB x.1.ws/\zaB x.1.a=zaB x.1.a/\true=true/\(q3/\Tr 1 (q24=q35.slot)/\Tr 1 (q25=q35.gen)/\Tr 1 (q26=q35.key)/\Tr 1 (q27=q35.value)/\(true=true/\zaC/\0=0/\1=1/\0=0/\q29=q37/\q38)/\True)/\(q4/\1=1/\q38/\q37 <= q29/\∀(i:Nat),i<q37->[AV.int .i64 (q28.getD i 0)]=[AV.int .i64 (q36.getD i 0)])/\True) (Exx (StoreT×Int) fun x_1=>((q1/\Tr 1 (q15=x_1.2)/\True)/\true=true/\q2/\devB x.1.ws=devB x_1.1.ws/\zaB x.1.a=zaB x_1.1.a/\True)/\(zaG x_1.1/\I64 x_1.2)/\∀(y:Nat),
 let q46:Prop:=q17/\Exx (Nat×(NodeT×Nat)×Int×Bool) fun t' =>
 let q39:Int×Bool:=t'.snd.2;
 let q40:NodeT×Nat:=t'.snd.1;
 let q41:NodeT:=q40.1;
 let q42:EntT:=q41.e;
 let q43:List Int:=q41.kids;
 let q44:Nat:=q43.length;
 let q45:Prop:=y=q40.2; (I t'/\m t'<m t)/\(q1/\Tr 3 (q1/\Tr 1 ((t.1:Int)=q39.1)/\Tr 1 (true=q39.2/\Tr 7 (q5/\Tr 1 (q16=(↑t'.fst:Int))/\Tr 33 True))))/\q2/\devB x_1.1.ws=devB x.1.ws/\zaB x_1.1.a=zaB x.1.a/\true=true/\(q3/\Tr 1 ((readT x_1.1.ws x_1.2).e.slot=q42.slot)/\Tr 1 ((readT x_1.1.ws x_1.2).e.gen=q42.gen)/\Tr 1 ((readT x_1.1.ws x_1.2).e.key=q42.key)/\Tr 1 ((readT x_1.1.ws x_1.2).e.value=q42.value)/\(true=true/\zaC/\0=0/\1=1/\0=0/\(readT x_1.1.ws x_1.2).kids.length=q44/\q45)/\True)/\(q4/\1=1/\q45/\q44 <= (readT x_1.1.ws x_1.2).kids.length/\∀(i:Nat),i<q44->[AV.int .i64 ((readT x_1.1.ws x_1.2).kids.getD i 0)]=[AV.int .i64 (q43.getD i 0)])/\True; (readT x_1.1.ws x_1.2).kids.length <= y/\y <= 9223372036854775807->BC (!decide (readE x_1.1.ws x_1.2=(0:Int))) (Exx Nat fun y=>((((Tr 1 ((0:Int)=(fst x.1.ws x.2).n.e.slot)/\Tr 1 ((0:Int)=(fst x.1.ws x.2).n.e.gen)/\Tr 1 ((0:Int)=(fst x.1.ws x.2).n.e.key)/\Tr 1 ((0:Int)=(fst x.1.ws x.2).n.e.value)/\(q6/\y=0)/\True)/\q7/\Tr 1 (readE x_1.1.ws x_1.2=(fst x.1.ws x.2).e)/\True)/\True)/\q2/\devB x_1.1.ws=devB x.1.ws/\zaB x_1.1.a=zaB x.1.a/\true=true/\(y=0/\q6)/\True)/\(fst x.1.ws x.2).n.kids.length <= y/\y <= 9223372036854775807) (BC q31 q46 (Exx (EntT×EntT) fun x_2=>(((Tr 1 ((readT x_1.1.ws x_1.2).e.slot=x_2.1.slot)/\Tr 1 ((readT x_1.1.ws x_1.2).e.gen=x_2.1.gen)/\Tr 1 ((readT x_1.1.ws x_1.2).e.key=x_2.1.key)/\Tr 1 ((readT x_1.1.ws x_1.2).e.value=x_2.1.value)/\True)/\(Tr 1 (q24=x_2.2.slot)/\Tr 1 (q25=x_2.2.gen)/\Tr 1 (q26=x_2.2.key)/\Tr 1 (q27=x_2.2.value)/\True)/\True)/\true=true/\True)/\(EntI x_2.1/\EntI x_2.2)/\∀(y:Unit),True->BC (decide (zgT x_2.1 x_2.2<(0:Int))) q46 (q17/\Exx (Nat×(NodeT×Nat)×Int×Bool) fun t' =>
 let q47:Int×Bool:=t'.snd.2;
 let q48:NodeT×Nat:=t'.snd.1;
 let q49:NodeT:=q48.1;
 let q50:EntT:=q49.e;
 let q51:List Int:=q49.kids;
 let q52:Nat:=q51.length;
 let q53:Prop:=q30=q48.2; (I t'/\m t'<m t)/\(q1/\Tr 3 (q1/\Tr 1 (q19=q47.1)/\Tr 1 (q20=q47.2/\Tr 7 (q5/\Tr 1 (q16=(↑t'.fst:Int))/\Tr 33 True))))/\q2/\devB x_1.1.ws=devB x.1.ws/\zaB x_1.1.a=zaB x.1.a/\true=true/\(q3/\Tr 1 (q24=q50.slot)/\Tr 1 (q25=q50.gen)/\Tr 1 (q26=q50.key)/\Tr 1 (q27=q50.value)/\(true=true/\zaC/\0=0/\1=1/\0=0/\q29=q52/\q53)/\True)/\(q4/\1=1/\q53/\q52 <= q29/\∀(i:Nat),i<q52->[AV.int .i64 (q28.getD i 0)]=[AV.int .i64 (q51.getD i 0)])/\True))))) (BC q31 (Exx Nat fun y=>((((Tr 1 ((0:Int)=(fst x.1.ws x.2).n.e.slot)/\Tr 1 ((0:Int)=(fst x.1.ws x.2).n.e.gen)/\Tr 1 ((0:Int)=(fst x.1.ws x.2).n.e.key)/\Tr 1 ((0:Int)=(fst x.1.ws x.2).n.e.value)/\(q6/\y=0)/\True)/\q7/\Tr 1 ((18:Int)=(fst x.1.ws x.2).e)/\True)/\True)/\q2/\devB x.1.ws=devB x.1.ws/\zaB x.1.a=zaB x.1.a/\true=true/\(y=0/\q6)/\True)/\(fst x.1.ws x.2).n.kids.length <= y/\y <= 9223372036854775807) (Exx Nat fun y=>((((Tr 1 (q24=(fst x.1.ws x.2).n.e.slot)/\Tr 1 (q25=(fst x.1.ws x.2).n.e.gen)/\Tr 1 (q26=(fst x.1.ws x.2).n.e.key)/\Tr 1 (q27=(fst x.1.ws x.2).n.e.value)/\(true=true/\zaC/\0=0/\1=1/\0=0/\q29=(fst x.1.ws x.2).n.kids.length/\q30=y)/\True)/\Tr 1 (q19=(fst x.1.ws x.2).p)/\Tr 1 ((0:Int)=(fst x.1.ws x.2).e)/\True)/\True)/\q2/\devB x.1.ws=devB x.1.ws/\zaB x.1.a=zaB x.1.a/\true=true/\(q4/\1=1/\q30=y/\(fst x.1.ws x.2).n.kids.length <= q29/\∀(i:Nat),i<(fst x.1.ws x.2).n.kids.length->[AV.int .i64 (q28.getD i 0)]=[AV.int .i64 ((fst x.1.ws x.2).n.kids.getD i 0)])/\True)/\(fst x.1.ws x.2).n.kids.length <= y/\y <= 9223372036854775807)))=(zcA tb [(50,zaA zpZ),(66,zaA zmS)] Tryz.f53 zv9 (fun x=>{ loops:=[(5,qqH x)] }) (fun _ av _=>qrS av) (fun _=>[]) (fun _ _ _ _=>[])):=by kernel_rfl

theorem ql4:SpecOk Tryz.prog 53 (zaA zv9):=by
 refine za0 zaM zaL (SPok.cons zo2 (SPok.cons zn7 SPok.nil)) Tryz.func53 (by decide) qg6 (Eq.mp firstFV ?_)
 simp (maxSteps:=10000000) only [std,stdU,stdV,Exx,I64,Nat.reduceMul,Nat.reduceDiv,Nat.reduceAdd,Int.reduceToNat,↓and_self,and_self,and_self_left,and_self_right,zaQ,zaI,zc8,zcS,zrS]
 rintro s r ⟨h,hr⟩
 have bad:∀e:Int,fst s.ws r=⟨nodeZ,0,e⟩->(0=(fst s.ws r).n.e.slot/\0=(fst s.ws r).n.e.gen/\0=(fst s.ws r).n.e.key/\0=(fst s.ws r).n.e.value/\(fst s.ws r).n.kids.length=0/\0=(fst s.ws r).p/\e=(fst s.ws r).e/\(fst s.ws r).n.kids.length=0/\(fst s.ws r).n.kids.length <= 0/\0 <= 9223372036854775807):=fun e he=>by
  rw [he]; exact ⟨rfl,rfl,rfl,rfl,rfl,rfl,rfl,rfl,Nat.le_refl _,by omega⟩
 refine ⟨fun z=>z.1 <= 12/\zd1 z.2.1.1/\z.2.1.1.kids.length <= z.2.1.2/\z.2.1.2 <= 9223372036854775807/\fst s.ws r=fstF s.ws r (12-z.1) z.1 z.2.1.1 z.2.2.1 z.2.2.2,⟨0,nodeZ,0,0,false,⟨Nat.zero_le _,qkM,Nat.le_refl _,by simp,rfl⟩,rfl,rfl,rfl,rfl,rfl,rfl,rfl,rfl,rfl,rfl⟩,fun z=>12-z.1,fun i n c p f hJ=>?_⟩
 obtain ⟨j1,j2,j3,j4,j5⟩:=hJ
 simp only at j1 j2 j3 j4 j5
 refine ⟨fun hlt=>?_,fun hge=>?_⟩
 ·have hi:i<12:=by omega
  rw [show 12-i=(11-i)+1 by omega,fstF] at j5
  have e11:12-(i+1)=11-i:=by omega
  refine ⟨by omega,by omega,fun hz=>?_,fun hz=>?_⟩
  ·rw [if_pos hz] at j5
   exact ⟨by omega,by omega,i+1,n,c,p,f,⟨by simp only; omega,j2,j3,j4,by simp only; rw [e11]; exact j5⟩,by simp only; omega,rfl,rfl,by omega,rfl,rfl,rfl,rfl,rfl,rfl,Nat.le_refl _,fun _ _=>rfl⟩
  ·rw [if_neg hz] at j5
   have hri:=hr i hi
   have hn:=zqP s.ws (r i)
   refine ⟨h,hri.1,hri.2,fun y hy=>⟨fun hne=>?_,fun he=>?_⟩⟩
   ·rw [if_neg hne] at j5
    exact bad _ j5
   ·rw [if_pos he] at j5
    refine ⟨fun hf=>?_,fun hf=>⟨hn.1,j2.1,fun hc=>?_,fun hc=>?_⟩⟩
    ·rw [if_pos (.inl hf)] at j5
     exact ⟨by omega,by omega,i+1,readT s.ws (r i),y,(i:Nat),true,⟨by simp only; omega,hn,hy.1,hy.2,by simp only; rw [e11]; exact j5⟩,by simp only; omega,rfl,rfl,by omega,rfl,rfl,rfl,rfl,rfl,rfl,Nat.le_refl _,fun _ _=>rfl⟩
    ·rw [if_pos (.inr hc)] at j5
     exact ⟨by omega,by omega,i+1,readT s.ws (r i),y,(i:Nat),true,⟨by simp only; omega,hn,hy.1,hy.2,by simp only; rw [e11]; exact j5⟩,by simp only; omega,rfl,rfl,by omega,rfl,rfl,rfl,rfl,rfl,rfl,Nat.le_refl _,fun _ _=>rfl⟩
    ·rw [if_neg (by rintro (k | k); rw [hf] at k; cases k; exact hc k)] at j5
     exact ⟨by omega,by omega,i+1,n,c,p,f,⟨by simp only; omega,j2,j3,j4,by simp only; rw [e11]; exact j5⟩,by simp only; omega,rfl,rfl,by omega,rfl,rfl,rfl,rfl,rfl,rfl,Nat.le_refl _,fun _ _=>rfl⟩
 ·have hi:i=12:=by omega
  subst hi
  rw [show 12-12=0 from rfl,fstF] at j5
  refine ⟨fun hf=>?_,fun hf=>?_⟩
  ·rw [if_neg (by rw [hf]; decide)] at j5
   exact bad _ j5
  ·rw [if_pos hf] at j5
   rw [j5]
   exact ⟨rfl,rfl,rfl,rfl,rfl,rfl,rfl,Nat.le_refl _,fun _ _=>rfl,j3,j4⟩

def qcC:Ctr:=zbN (Nat->Int) zaT (fun r=>[.nilp,zd4 r]) (fun _ => .tup [.agg [i64 0,i64 0,i64 0,i64 0,.nils],i64 0,i64 1])
theorem firstNV:(∀(x:Nat->Int),zaT x->Exx Unit fun y=>((((Tr 1 ((0:Int)=0)/\Tr 1 ((0:Int)=0)/\Tr 1 ((0:Int)=0)/\Tr 1 ((0:Int)=0)
 /\ Tr 1 True)/\Tr 1 ((0:Int)=0)/\Tr 1 ((1:Int)=1)/\True)/\True)/\true=true/\True)/\True)=(fnVC tb [(50,zaA zpZ),(66,zaA zmS)]
 Tryz.f53 qcC (fun _=>{}) (fun _=>none)):=by kernel_rfl

theorem ql3:SpecOk Tryz.prog 53 (zaA qcC):=by
 refine zaK zaM zaL (SPok.cons zo2 (SPok.cons zn7 SPok.nil)) Tryz.func53 (by decide) (zaO fun _=>⟨⟨rfl,rfl,rfl,rfl,rfl,trivial⟩,rfl,rfl,trivial⟩) (Eq.mp firstNV ?_)
 simp (maxSteps:=10000000) only [std,stdU,stdV,Exx,I64,Nat.reduceMul,Nat.reduceDiv,Nat.reduceAdd,Int.reduceToNat]

def ql6:Sx.Spec:=ze5 (qeU 0) (zaA qcC) (zaA zv9)
theorem ql5:SpecOk Tryz.prog 53 ql6:=zdG ql3 ql4

end Yard
