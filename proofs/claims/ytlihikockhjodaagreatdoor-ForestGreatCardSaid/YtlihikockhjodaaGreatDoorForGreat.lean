import Derived.Test.YtlihikockhjodaaGreatDoorForStart
import Derived.Test.YtlihikockhjodaaGreatDoorRefPage

namespace Yard
open Go Go.Sx Go.Proofs
set_option linter.unusedVariables false
set_option linter.unusedSimpArgs false
set_option maxRecDepth 4000
set_option maxHeartbeats 4000000

abbrev intR (cap:Nat) (l:List Int):Sx.Item:=rowI 3 .i64 cap l
def gkN (b:Bool):Nat:=if b then 12 else 11
def gL (n:Nat):List Int:=(List.range n).map fun i:Nat=>20+(i:Int)
theorem zz5 (k:Nat):(gL k).length=k:=by unfold gL; rw [List.length_map,List.length_range]
theorem gL_succ (k:Nat):gL (k+1)=gL k++[20+(k:Int)]:=by unfold gL; rw [List.range_succ,List.map_append]; rfl
def gN (key:Int) (k:Nat):NodeT:=⟨⟨0,1,key,0⟩,gL k⟩
theorem qs3 {k:Nat} {c:Int} (h:c∈gL k):20 <= c/\c<20+(k:Int):=by
 unfold gL at h
 obtain ⟨i,hi,rfl⟩:=List.mem_map.1 h
 have:=List.mem_range.1 hi
 omega
theorem gN_ok (key:Int) {k:Nat} (h:k <= 12):zbJ (gN key k):=by
 refine ⟨by simp [gN],by simp [gN],by simp [gN],by simp [gN],by simp only [gN]; rw [zz5]; exact h,fun c hc=>?_⟩
 have:=qs3 hc
 unfold zd8
 omega
theorem gN_I {key:Int} (hk:I64 key) {k:Nat} (h:k <= 12):zd1 (gN key k):=by
 refine ⟨⟨I64_0,⟨by simp [gN],by simp [gN]⟩,hk,I64_0⟩,fun c hc=>?_,by simp only [gN]; rw [zz5]; omega⟩
 have:=qs3 hc
 exact ⟨by omega,by omega⟩

structure Gr (s:StoreT) (t:TickT) (a:Int) (k:Nat):Prop where
 W:zaF s
 tI:zaR t
 aI:I64 a
 rd:readE s.ws a=0
 kl:(readT s.ws a).kids.length=k
theorem gr_made {s:StoreT} {t:TickT} (h:FR1 9 s t zpQ zbI [] [] [] 0) {key:Int} (hk:I64 key) {k:Nat} (hk2:k <= 12) :
  (makeR s (zaH (gN key k))).e=0/\Gr (makeR s (zaH (gN key k))).s t (makeR s (zaH (gN key k))).at_ k:=by
 have hok:=gN_ok key hk2
 have hf:=zkB h.yd.gr.inv h.yd.roomy
 rcases make_step h.yd.gr.inv.inv.good (putNodeL_oct (gN key k)) (putNodeL_64 hok) with S | N
 ·have hl:=S.lt
  have hg:=S.ge
  have hn:=h.W.2.1
  have hlines:=h.yd.gr.inv.inv.good.lines
  obtain ⟨r1,r2⟩:=zpX S.ge (by rw [S.lns]; omega) S.at' hok (gN_I hk hk2).1
  exact ⟨S.e,S.good.W,h.tI,⟨by omega,by omega⟩,r1,by rw [r2]; exact zz5 k⟩
 ·obtain ⟨_,_,q,_⟩:=N
  omega
theorem qmY {s:StoreT} {t:TickT} {a:Int} {k:Nat} (h:Gr s t a k) (r:Nat->Int) (hk:k=12\/(k=11/\r 11≠0)):addR s t r a=⟨s,tickZ,zbI,2⟩:=by
 rw [addR,if_pos h.rd,h.kl]
 rcases hk with rfl | ⟨rfl,hr⟩
 ·rfl
 ·show addF 1 11 s t r a=_
  rw [addF,if_neg hr,if_pos rfl]
theorem gr_add0 {s:StoreT} {t:TickT} {a:Int} (h:Gr s t a 11) (r:Nat->Int) (hr:r 11=0):addR s t r a=⟨s,t,updR r 11 a,0⟩:=by
 rw [addR,if_pos h.rd,h.kl]
 show addF 1 11 s t r a=_
 rw [addF,if_pos hr]
def forestGreatC:Ctr:=zbL (Int×Bool) (fun x=>I64 x.1) (fun x=>[i64 x.1,.bool x.2]) (fun _ => .bool true)
def fgF (x:Int×Bool) (l:List (Nat×AV)):Fr:=frm 108 ((0,i64 x.1) :: (1,.bool x.2) :: (5,.ptr 1 [] 0) :: l)
def fgJ6 (x:Int×Bool):LA:={ T:=StoreT×TickT,F:=fun t=>fgF x [],H:=fun t=>zdD t.1 t.2,ρ₁:=stRen 5 [],ρ₂:=stRen 5 [] }
def fgJ9 (x:Int×Bool):LA:={ T:=StoreT×TickT,F:=fun t=>fgF x [(6,i64 (gkN x.2:Nat))],H:=fun t=>zdD t.1 t.2,ρ₁:=zbR 5 [],ρ₂:=zbR 5 [] }
def fgLA (x:Int×Bool):LA:={ T:=(StoreT×TickT)×Nat×Nat,F:=fun t=>fgF x [(6,i64 (gkN x.2:Nat)),(7,.sl 5 [] 0 1 0 (gL t.2.1).length t.2.2),(8,i64 (t.2.1:Nat))],H:=fun t=>zdD t.1.1 t.1.2++[intR t.2.2 (gL t.2.1)],ρ₁:=zbR 5 [7],ρ₂:=zbR 5 [7] }
def fgJ16 (x:Int×Bool):LA:={ T:=(StoreT×TickT)×Int×Int,F:=fun t=>fgF x [(10,i64 t.2.1),(11,i64 t.2.2)],H:=fun t=>zdD t.1.1 t.1.2,ρ₁:=zbR 5 [],ρ₂:=zbR 5 [] }
def fgJ21 (x:Int×Bool):LA:={ T:=(StoreT×TickT)×Int×(Nat->Int)×Int,F:=fun t=>fgF x [(10,i64 t.2.1),(14,.ptr 5 [] 0),(15,i64 t.2.2.2)],H:=fun t=>zdD t.1.1 t.1.2++[zbE t.2.2.1],ρ₁:=zbR 5 [14],ρ₂:=zbR 5 [14] }
def fgJ22 (x:Int×Bool):LA:={ T:=(StoreT×TickT)×Int×((Nat->Int)×Int)×(Nat->Int)×Int,F:=fun t=>fgF x [(10,i64 t.2.1),(14,.ptr 5 [] 0),(15,i64 t.2.2.1.2),(17,.ptr 6 [] 0),(18,i64 t.2.2.2.2)],H:=fun t=>zdD t.1.1 t.1.2++[zbE t.2.2.1.1,zbE t.2.2.2.1],ρ₁:=zbR 5 [14,17],ρ₂:=zbR 5 [14,17] }
theorem qaB:(
 let q1:Prop:=true=true/\zaC/\(0:Nat)=0;
 let q2:Prop:=(42:TypeId)=42;
 let q3:Prop:=(107:TypeId)=107/\q1/\q1/\True;
 let q4:Nat:=(TI.mk (TK.int IntKind.i64) 1 8 (ZL.cons (Value.int IntKind.i64 0) ZL.nil) false).size;
 let q5:Prop:=Exx Unit fun y=>((false=true/\True)/\true=true/\True)/\True;
 let q6:Prop:=(0:Int) <= (11:Int)/\(11:Int)<(↑(12:Nat):Int);
 let q7:Prop:=(11:Int).toNat<(12:Nat); ∀(x:Int×Bool),
 let q8:Prop:=Tr 1 ((↑(gkN x.2):Int)=(↑(gkN x.2):Int)); -9223372036854775808 <= x.1/\x.1 <= (9223372036854775807:Int)->Exx Unit fun x_1=>Tr 1 (true=true/\True)/\Tr 1 (∀(y:Unit),True->Exx (Nat×Int) fun x_2 =>
 let q9:TickT:=ziV (x_2.1:Int) x_2.2 100; ((Tr 1 ((40:Int)=(x_2.1:Int))/\Tr 1 ((9:Int)=x_2.2)/\True)/\true=true/\True)/\(x_2.1 <= 3072/\I64 x_2.2)/\∀(y:Unit),True->Exx (StoreT×TickT->Prop) fun I=>(Exx (StoreT×TickT) fun t=>I t/\(Tr 1 (x.1=x.1)/\x.2=x.2/\Tr 3 (q1/\Tr 102 True))/\true=true/\(q2/\q1/\q1/\q1/\Tr 1 (q9.blocks=t.2.blocks)/\Tr 1 (q9.slots=t.2.slots)/\Tr 1 (q9.gens=t.2.gens)/\Tr 1 (q9.top=t.2.top)/\Tr 1 (q9.high=t.2.high)/\Tr 1 (q9.free=t.2.free)/\True)/\q3/\devB (zc1 x_2.1 0).ws=devB t.1.ws/\zaA (zc1 x_2.1 0).a=zaA t.1.a/\True)/\∀(t:StoreT×TickT),I t->Exx (StoreT×TickT->Prop) fun I=>BC x.2 (Exx (StoreT×TickT) fun t_1=>I t_1/\(Tr 1 (x.1=x.1)/\x.2=x.2/\Tr 3 (q1/\Tr 1 ((12:Int)=(↑(gkN x.2):Int))/\Tr 101 True))/\true=true/\(q2/\q1/\q1/\q1/\Tr 1 (t.2.blocks=t_1.2.blocks)/\Tr 1 (t.2.slots=t_1.2.slots)/\Tr 1 (t.2.gens=t_1.2.gens)/\Tr 1 (t.2.top=t_1.2.top)/\Tr 1 (t.2.high=t_1.2.high)/\Tr 1 (t.2.free=t_1.2.free)/\True)/\q3/\devB t.1.ws=devB t_1.1.ws/\zaA t.1.a=zaA t_1.1.a/\True) (Exx (StoreT×TickT) fun t_1=>I t_1/\(Tr 1 (x.1=x.1)/\x.2=x.2/\Tr 3 (q1/\Tr 1 ((11:Int)=(↑(gkN x.2):Int))/\Tr 101 True))/\true=true/\(q2/\q1/\q1/\q1/\Tr 1 (t.2.blocks=t_1.2.blocks)/\Tr 1 (t.2.slots=t_1.2.slots)/\Tr 1 (t.2.gens=t_1.2.gens)/\Tr 1 (t.2.top=t_1.2.top)/\Tr 1 (t.2.high=t_1.2.high)/\Tr 1 (t.2.free=t_1.2.free)/\True)/\q3/\devB t.1.ws=devB t_1.1.ws/\zaA t.1.a=zaA t_1.1.a/\True)/\∀(t:StoreT×TickT),I t->Exx ((StoreT×TickT)×Nat×Nat->Prop) fun I=>Exx ((StoreT×TickT)×Nat×Nat->Nat) fun m=>(Exx ((StoreT×TickT)×Nat×Nat) fun t_1 =>
 let q10:Prop:=(gL t_1.2.1).length=0;
 let q11:Prop:=t_1.2.2=0; I t_1/\(Tr 1 (x.1=x.1)/\x.2=x.2/\Tr 3 (q1/\q8/\(q10/\q11)/\Tr 1 ((0:Int)=(t_1.2.1:Int))/\Tr 99 True))/\true=true/\(q2/\q1/\q1/\q1/\Tr 1 (t.2.blocks=t_1.1.2.blocks)/\Tr 1 (t.2.slots=t_1.1.2.slots)/\Tr 1 (t.2.gens=t_1.1.2.gens)/\Tr 1 (t.2.top=t_1.1.2.top)/\Tr 1 (t.2.high=t_1.1.2.high)/\Tr 1 (t.2.free=t_1.1.2.free)/\True)/\q3/\devB t.1.ws=devB t_1.1.1.ws/\zaA t.1.a=zaA t_1.1.1.a/\(q11/\q10)/\True)/\∀(t:(StoreT×TickT)×Nat×Nat),
 let q12:Int:=(t.2.1:Int);
 let q13:Int:=20+q12;
 let q14:Nat:=(gL t.2.1).length+1;
 let q15:Int:=q12+1; I t->BC (decide (q12<(↑(gkN x.2):Int))) (I64 q13/\(0:Nat)+(1:Nat) <= (1:Nat)/\true=true/\((gL t.2.1).length <= (gL t.2.1).length/\t.2.2=t.2.2)/\(q14 <= 9223372036854775807/\q14*8 <= 140737488355328)/\∀(cap:Nat),q14 <= cap/\cap <= 9223372036854775807->I64 q15/\Exx ((StoreT×TickT)×Nat×Nat) fun t'=>(I t'/\m t'<m t)/\(Tr 1 (x.1=x.1)/\x.2=x.2/\Tr 3 (q1/\q8/\(true=true/\zaC/\(0:Nat)=0/\(1:Nat)=1/\(0:Nat)=0/\q14=(gL t'.snd.1).length/\cap=t'.snd.2)/\Tr 1 (q15=(↑t'.snd.1:Int))/\Tr 99 True))/\true=true/\(q2/\q1/\q1/\q1/\Tr 1 (t.1.2.blocks=t'.fst.2.blocks)/\Tr 1 (t.1.2.slots=t'.fst.2.slots)/\Tr 1 (t.1.2.gens=t'.fst.2.gens)/\Tr 1 (t.1.2.top=t'.fst.2.top)/\Tr 1 (t.1.2.high=t'.fst.2.high)/\Tr 1 (t.1.2.free=t'.fst.2.free)/\True)/\q3/\devB t.1.1.ws=devB t'.fst.1.ws/\zaA t.1.1.a=zaA t'.fst.1.a/\((3:TypeId)=3/\(1:Nat)=1/\cap=t'.snd.2/\(gL t'.snd.1).length <= q14/\∀(i:Nat),
 let q16:Nat:=0+(i-(gL t.2.1).length); i<(gL t'.snd.1).length->(if i<(gL t.2.1).length then [AV.int .i64 ((gL t.2.1).getD i 0)] else [AV.int .i64 (if q16=0*1 / 1 then q13 else 0)])=[AV.int .i64 ((gL t'.snd.1).getD i 0)])/\True) (Exx ((StoreT×TickT)×Int×Int->Prop) fun I=>(Exx NodeT fun x_3=>(((Tr 1 ((0:Int)=x_3.e.slot)/\Tr 1 ((1:Int)=x_3.e.gen)/\Tr 1 (x.1=x_3.e.key)/\Tr 1 ((0:Int)=x_3.e.value)/\(0+(gL t.2.1).length <= (gL t.2.1).length/\(gL t.2.1).length=x_3.kids.length/\∀(i:Nat),i<x_3.kids.length->[AV.int .i64 ((gL t.2.1).getD (0+i) 0)]=[AV.int .i64 (x_3.kids.getD i 0)])/\True)/\True)/\true=true/\True)/\(zbJ x_3/\zd1 x_3)/\∀(y:Unit),True->(cstr (zaH x_3)).length <= 9223372036854775807/\∀(cap:Nat),(cstr (zaH x_3)).length <= cap/\cap <= 9223372036854775807->Exx (StoreT×List Nat) fun x_4=>((q1/\(0+(cstr (zaH x_3)).length <= (cstr (zaH x_3)).length/\(cstr (zaH x_3)).length=x_4.2.length/\∀(i:Nat),i<x_4.2.length->[AV.int .u8 ((cstr (zaH x_3)).getD (0+i) 0)]=[AV.int .u8 (↑(x_4.2.getD i 0):Int)])/\True)/\true=true/\q3/\devB t.1.1.ws=devB x_4.1.ws/\zaA t.1.1.a=zaA x_4.1.a/\True)/\(zaF x_4.1/\Oct x_4.2)/\∀(y:Unit),True->Exx ((StoreT×TickT)×Int×Int) fun t_1=>I t_1/\(Tr 1 (x.1=x.1)/\x.2=x.2/\Tr 3 (q1/\Tr 4 (Tr 1 ((makeR x_4.1 x_4.2).at_=t_1.2.1)/\Tr 1 ((makeR x_4.1 x_4.2).e=t_1.2.2)/\Tr 96 True)))/\true=true/\(q2/\q1/\q1/\q1/\Tr 1 (t.1.2.blocks=t_1.1.2.blocks)/\Tr 1 (t.1.2.slots=t_1.1.2.slots)/\Tr 1 (t.1.2.gens=t_1.1.2.gens)/\Tr 1 (t.1.2.top=t_1.1.2.top)/\Tr 1 (t.1.2.high=t_1.1.2.high)/\Tr 1 (t.1.2.free=t_1.1.2.free)/\True)/\q3/\devB (makeR x_4.1 x_4.2).s.ws=devB t_1.1.1.ws/\zaA (makeR x_4.1 x_4.2).s.a=zaA t_1.1.1.a/\True)/\∀(t:(StoreT×TickT)×Int×Int),I t->BC (!decide (t.2.2=(0:Int))) q5 (q6/\q7/\Exx ((StoreT×TickT)×Int×(Nat->Int)×Int->Prop) fun I =>
 let q20:Prop:=Exx (StoreT×TickT×(Nat->Int)×Int) fun x_3 =>
 let q17:Int:=x_3.2.2.2;
 let q18:FR:=addR x_3.1 x_3.2.1 x_3.2.2.1 q17;
 let q19:StoreT:=q18.s; ((q1/\(Tr 1 (t.1.2.blocks=x_3.2.1.blocks)/\Tr 1 (t.1.2.slots=x_3.2.1.slots)/\Tr 1 (t.1.2.gens=x_3.2.1.gens)/\Tr 1 (t.1.2.top=x_3.2.1.top)/\Tr 1 (t.1.2.high=x_3.2.1.high)/\Tr 1 (t.1.2.free=x_3.2.1.free)/\True)/\((1:Nat)=1/\(12:Nat)=12/\(∀(i:Nat),i<12->[AV.int .i64 (if i=Int.toNat 11 then 30 else 0)]=[AV.int .i64 (x_3.2.2.1 i)])/\True)/\Tr 1 (t.2.1=q17)/\True)/\true=true/\q3/\devB t.1.1.ws=devB x_3.1.ws/\zaA t.1.1.a=zaA x_3.1.a/\True)/\(zaF x_3.1/\zaR x_3.2.1/\zaN x_3.2.2.1/\I64 q17)/\∀(y:Unit),True->Exx ((StoreT×TickT)×Int×(Nat->Int)×Int) fun t_1=>I t_1/\(Tr 1 (x.1=x.1)/\x.2=x.2/\Tr 3 (q1/\Tr 4 (Tr 1 (t.2.1=t_1.2.1)/\Tr 3 (q1/\Tr 1 (q18.e=t_1.2.2.2)/\Tr 92 True))))/\true=true/\(q2/\q1/\q1/\q1/\Tr 1 (t.1.2.blocks=t_1.1.2.blocks)/\Tr 1 (t.1.2.slots=t_1.1.2.slots)/\Tr 1 (t.1.2.gens=t_1.1.2.gens)/\Tr 1 (t.1.2.top=t_1.1.2.top)/\Tr 1 (t.1.2.high=t_1.1.2.high)/\Tr 1 (t.1.2.free=t_1.1.2.free)/\True)/\q3/\devB q19.ws=devB t_1.1.1.ws/\zaA q19.a=zaA t_1.1.1.a/\((47:Nat)=(47:TypeId)/\(1:Nat)=1/\(12:Nat)=12/\(∀(i:Nat),i<12->[AV.int .i64 (q18.r i)]=[AV.int .i64 (t_1.2.2.1 i)])/\True)/\True;
 let q21:Prop:=q20/\q20; ((Exx (StoreT×TickT×(Nat->Int)×Int) fun x_3 =>
 let q22:Int:=x_3.2.2.2;
 let q23:FR:=addR x_3.1 x_3.2.1 x_3.2.2.1 q22;
 let q24:StoreT:=q23.s;
 let q25:Prop:=Exx ((StoreT×TickT)×Int×(Nat->Int)×Int) fun t_1=>I t_1/\(Tr 1 (x.1=x.1)/\x.2=x.2/\Tr 3 (q1/\Tr 4 (Tr 1 (t.2.1=t_1.2.1)/\Tr 3 (q1/\Tr 1 (q23.e=t_1.2.2.2)/\Tr 92 True))))/\true=true/\(q2/\q1/\q1/\q1/\Tr 1 (t.1.2.blocks=t_1.1.2.blocks)/\Tr 1 (t.1.2.slots=t_1.1.2.slots)/\Tr 1 (t.1.2.gens=t_1.1.2.gens)/\Tr 1 (t.1.2.top=t_1.1.2.top)/\Tr 1 (t.1.2.high=t_1.1.2.high)/\Tr 1 (t.1.2.free=t_1.1.2.free)/\True)/\q3/\devB q24.ws=devB t_1.1.1.ws/\zaA q24.a=zaA t_1.1.1.a/\((47:Nat)=(47:TypeId)/\(1:Nat)=1/\(12:Nat)=12/\(∀(i:Nat),i<12->[AV.int .i64 (q23.r i)]=[AV.int .i64 (t_1.2.2.1 i)])/\True)/\True; ((q1/\(Tr 1 (t.1.2.blocks=x_3.2.1.blocks)/\Tr 1 (t.1.2.slots=x_3.2.1.slots)/\Tr 1 (t.1.2.gens=x_3.2.1.gens)/\Tr 1 (t.1.2.top=x_3.2.1.top)/\Tr 1 (t.1.2.high=x_3.2.1.high)/\Tr 1 (t.1.2.free=x_3.2.1.free)/\True)/\((1:Nat)=1/\(12:Nat)=12/\(∀(i:Nat),i<12->[AV.int .i64 (if i=Int.toNat 11 then 30 else 0)]=[AV.int .i64 (x_3.2.2.1 i)])/\True)/\Tr 1 (t.2.1=q22)/\True)/\true=true/\q3/\devB t.1.1.ws=devB x_3.1.ws/\zaA t.1.1.a=zaA x_3.1.a/\True)/\(zaF x_3.1/\zaR x_3.2.1/\zaN x_3.2.2.1/\I64 q22)/\∀(y:Unit),True->q25/\q25)/\q21/\q21)/\∀(t:(StoreT×TickT)×Int×(Nat->Int)×Int),
 let q26:Int:=t.1.2.blocks; I t->Exx ((StoreT×TickT)×Int×((Nat->Int)×Int)×(Nat->Int)×Int->Prop) fun I =>
 let q35:Prop:=Exx (StoreT×TickT×(Nat->Int)×Int) fun x_3 =>
 let q27:Int:=x_3.2.2.2;
 let q28:FR:=addR x_3.1 x_3.2.1 x_3.2.2.1 q27;
 let q29:StoreT:=q28.s; ((q1/\(Tr 1 (q26=x_3.2.1.blocks)/\Tr 1 (t.1.2.slots=x_3.2.1.slots)/\Tr 1 (t.1.2.gens=x_3.2.1.gens)/\Tr 1 (t.1.2.top=x_3.2.1.top)/\Tr 1 (t.1.2.high=x_3.2.1.high)/\Tr 1 (t.1.2.free=x_3.2.1.free)/\True)/\((1:Nat)=1/\(12:Nat)=12/\(∀(i:Nat),i<12->[AV.int .i64 0]=[AV.int .i64 (x_3.2.2.1 i)])/\True)/\Tr 1 (t.2.1=q27)/\True)/\true=true/\q3/\devB t.1.1.ws=devB x_3.1.ws/\zaA t.1.1.a=zaA x_3.1.a/\True)/\(zaF x_3.1/\zaR x_3.2.1/\zaN x_3.2.2.1/\I64 q27)/\∀(y:Unit),True->Exx ((StoreT×TickT)×Int×((Nat->Int)×Int)×(Nat->Int)×Int) fun t_1 =>
 let q30:((Nat->Int)×Int)×(Nat->Int)×Int:=t_1.2.2;
 let q31:(Nat->Int)×Int:=q30.1;
 let q32:(Nat->Int)×Int:=q30.2;
 let q33:TickT:=t_1.1.2;
 let q34:StoreT:=t_1.1.1; I t_1/\(Tr 1 (x.1=x.1)/\x.2=x.2/\Tr 3 (q1/\Tr 4 (Tr 1 (t.2.1=t_1.2.1)/\Tr 3 (q1/\Tr 1 (t.2.2.2=q31.2)/\Tr 1 (q1/\Tr 1 (q28.e=q32.2)/\Tr 89 True)))))/\true=true/\(q2/\q1/\q1/\q1/\Tr 1 (q26=q33.blocks)/\Tr 1 (t.1.2.slots=q33.slots)/\Tr 1 (t.1.2.gens=q33.gens)/\Tr 1 (t.1.2.top=q33.top)/\Tr 1 (t.1.2.high=q33.high)/\Tr 1 (t.1.2.free=q33.free)/\True)/\q3/\devB q29.ws=devB q34.ws/\zaA q29.a=zaA q34.a/\((47:TypeId)=47/\(1:Nat)=1/\(12:Nat)=12/\(∀(i:Nat),i<12->[AV.int .i64 (t.2.2.1 i)]=[AV.int .i64 (q31.1 i)])/\True)/\((47:Nat)=(47:TypeId)/\(1:Nat)=1/\(12:Nat)=12/\(∀(i:Nat),i<12->[AV.int .i64 (q28.r i)]=[AV.int .i64 (q32.1 i)])/\True)/\True;
 let q36:Prop:=q35/\q35; ((Exx (StoreT×TickT×(Nat->Int)×Int) fun x_3 =>
 let q37:Int:=x_3.2.2.2;
 let q38:FR:=addR x_3.1 x_3.2.1 x_3.2.2.1 q37;
 let q39:StoreT:=q38.s;
 let q45:Prop:=Exx ((StoreT×TickT)×Int×((Nat->Int)×Int)×(Nat->Int)×Int) fun t_1 =>
 let q40:((Nat->Int)×Int)×(Nat->Int)×Int:=t_1.2.2;
 let q41:(Nat->Int)×Int:=q40.1;
 let q42:(Nat->Int)×Int:=q40.2;
 let q43:TickT:=t_1.1.2;
 let q44:StoreT:=t_1.1.1; I t_1/\(Tr 1 (x.1=x.1)/\x.2=x.2/\Tr 3 (q1/\Tr 4 (Tr 1 (t.2.1=t_1.2.1)/\Tr 3 (q1/\Tr 1 (t.2.2.2=q41.2)/\Tr 1 (q1/\Tr 1 (q38.e=q42.2)/\Tr 89 True)))))/\true=true/\(q2/\q1/\q1/\q1/\Tr 1 (q26=q43.blocks)/\Tr 1 (t.1.2.slots=q43.slots)/\Tr 1 (t.1.2.gens=q43.gens)/\Tr 1 (t.1.2.top=q43.top)/\Tr 1 (t.1.2.high=q43.high)/\Tr 1 (t.1.2.free=q43.free)/\True)/\q3/\devB q39.ws=devB q44.ws/\zaA q39.a=zaA q44.a/\((47:TypeId)=47/\(1:Nat)=1/\(12:Nat)=12/\(∀(i:Nat),i<12->[AV.int .i64 (t.2.2.1 i)]=[AV.int .i64 (q41.1 i)])/\True)/\((47:Nat)=(47:TypeId)/\(1:Nat)=1/\(12:Nat)=12/\(∀(i:Nat),i<12->[AV.int .i64 (q38.r i)]=[AV.int .i64 (q42.1 i)])/\True)/\True; ((q1/\(Tr 1 (q26=x_3.2.1.blocks)/\Tr 1 (t.1.2.slots=x_3.2.1.slots)/\Tr 1 (t.1.2.gens=x_3.2.1.gens)/\Tr 1 (t.1.2.top=x_3.2.1.top)/\Tr 1 (t.1.2.high=x_3.2.1.high)/\Tr 1 (t.1.2.free=x_3.2.1.free)/\True)/\((1:Nat)=1/\(12:Nat)=12/\(∀(i:Nat),i<12->[AV.int .i64 0]=[AV.int .i64 (x_3.2.2.1 i)])/\True)/\Tr 1 (t.2.1=q37)/\True)/\true=true/\q3/\devB t.1.1.ws=devB x_3.1.ws/\zaA t.1.1.a=zaA x_3.1.a/\True)/\(zaF x_3.1/\zaR x_3.2.1/\zaN x_3.2.2.1/\I64 q37)/\∀(y:Unit),True->q45/\q45)/\q36/\q36)/\∀(t:(StoreT×TickT)×Int×((Nat->Int)×Int)×(Nat->Int)×Int),
 let q46:((Nat->Int)×Int)×(Nat->Int)×Int:=t.2.2;
 let q47:(Nat->Int)×Int:=q46.1;
 let q48:Int:=q47.2;
 let q49:(Nat->Int)×Int:=q46.2;
 let q50:Int:=q49.2;
 let q51:Int:=q49.1 (Int.toNat 11);
 let q52:Int:=t.2.1; I t->BC (!decide (q48=(2:Int))) q5 ((∀(i:Nat),i<12->True)/\(∀(i:Nat),i<12->True)/\∀(b:Bool),(b=true ↔ ∀(i:Nat),i<12->q47.1 i=(0:Int))->BC (!b) q5 (BC x.2 (BC (decide (q50=(2:Int))) ((∀(i:Nat),i<12->True)/\(∀(i:Nat),i<12->True)/\∀(b:Bool),(b=true ↔ ∀(i:Nat),i<12->q49.1 i=(0:Int))->Exx Unit fun y=>((b=true/\True)/\true=true/\True)/\True) q5) (BC (decide (q50=(0:Int))) (q6/\q7/\Exx Unit fun y=>((decide (q51=q52)=true/\True)/\true=true/\True)/\True) q5)))))))=(fnVC tb [(14,zaB zkX),(15,zaB zo9),(16,zaB zf0),(17,zaB zvX),(18,zaB zhV)] Tryz.f3 forestGreatC (fun x=>{ loops:=[(11,fgLA x)],loose:=[(15,[1000,2,3,4,5]),(20,[1000,2,3,4]),(21,[1000,2,3,4])],joins:=[(6,fgJ6 x),(9,fgJ9 x),(16,fgJ16 x),(21,fgJ21 x),(22,fgJ22 x)] }) (fun _=>none)):=by kernel_rfl

theorem forestGreat_ok:SpecOk Tryz.prog 3 (zaB forestGreatC):=by
 refine zaK zaL zaM (SPok.cons zkW (SPok.cons zmC (SPok.cons zgY (SPok.cons zyR (SPok.cons zjP SPok.nil))))) Tryz.func3 (by decide) (zaO fun _=>rfl) (Eq.mp qaB ?_)
 simp (maxSteps:=10000000) only [std,stdU,stdV,Exx,I64,Nat.reduceMul,Nat.reduceDiv,Nat.reduceAdd,Int.reduceToNat,↓and_self,and_self,and_self_left,and_self_right,zaQ,zaJ,zaZ,zeG,zb8,zgR,zc8,zbP,zeY,zlB,zwH]
 rintro key other hk
 have S0:=znF (n:=40) (sl:=9) (by omega) (by omega) (by decide) (by omega)
 refine ⟨40,rfl,by omega,by omega,by omega,fun z=>FR1 9 z.1 z.2 zpQ zbI [] [] [] 0,⟨zc1 40 0,ziV ((40:Nat):Int) 9 100,S0,rfl,rfl,rfl,rfl,rfl,rfl,rfl,rfl⟩,fun s t h=>?_⟩
 simp only at h
 have hg:gkN other <= 12:=by unfold gkN; split <;> omega
 refine ⟨fun z=>FR1 9 z.1 z.2 zpQ zbI [] [] [] 0,fun e=>⟨s,t,h,by rw [e]; rfl,rfl,rfl,rfl,rfl,rfl,rfl,rfl,rfl⟩,fun e=>⟨s,t,h,by rw [e]; rfl,rfl,rfl,rfl,rfl,rfl,rfl,rfl,rfl⟩,fun s t h=>?_⟩
 simp only at h
 refine ⟨fun z=>FR1 9 z.1.1 z.1.2 zpQ zbI [] [] [] 0/\z.2.1 <= gkN other,⟨s,t,0,0,⟨h,Nat.zero_le _⟩,rfl,rfl,rfl,rfl,rfl,rfl,rfl,rfl,rfl,rfl,rfl,rfl,rfl⟩,fun z=>gkN other-z.2.1,fun s t i c hJ=>?_⟩
 obtain ⟨h,hi⟩:=hJ
 simp only at h hi
 simp only [zz5]
 refine ⟨fun hlt=>⟨by omega,by omega,by omega,by omega,fun cap hc=>⟨by omega,by omega,s,t,i+1,cap,⟨h,by omega⟩,by omega,rfl,rfl,by omega,rfl,rfl,rfl,rfl,rfl,rfl,rfl,rfl,rfl,Nat.le_refl _,fun j hj=>?_⟩⟩,fun hge=>?_⟩
 ·rw [gL_succ,zaI,zz5]
  by_cases e:j<i
  ·rw [if_pos e,if_pos e]
  ·have e0:j-i=0:=by omega
   rw [if_neg e,if_neg e,if_pos e0,e0]; rfl
 have ei:i=gkN other:=by omega
 have hi12:i <= 12:=by omega
 obtain ⟨m1,m2⟩:=gr_made h hk hi12
 have h64:=putNodeL_64 (gN_ok key hi12)
 refine ⟨gN_ok key hi12,gN_I hk hi12,by rw [show NodeT.mk ⟨0,1,key,0⟩ (gL i)=gN key i from rfl,h64]; omega,fun z=>Gr z.1.1 z.1.2 z.2.1 i/\z.2.2=0,fun cap hc=>⟨h.W,putNodeL_oct _,(makeR s (zaH (gN key i))).s,t,(makeR s (zaH (gN key i))).at_,0,⟨m2,rfl⟩,rfl,m1,rfl,rfl,rfl,rfl,rfl,rfl,rfl,rfl⟩,fun s t a e hz=>?_⟩
 obtain ⟨m,e0⟩:=hz
 simp only at m e0
 subst e0
 let r1:Nat->Int:=updR zbI 11 30
 have r1I:zaN r1:=zxY (fun _ _=>I64_0) ⟨by omega,by omega⟩
 have hadd1:addR s t r1 a=⟨s,tickZ,zbI,2⟩:=qmY m r1 (by
  rw [ei]; unfold gkN
  cases other
  ·exact .inr ⟨rfl,by decide⟩
  ·exact .inl rfl)
 refine ⟨fun q=>q rfl,fun _=>⟨by omega,by omega,by omega,fun z=>Gr z.1.1 z.1.2 z.2.1 i/\z.2.2.2=2/\∀j,j<12->z.2.2.1 j=0,⟨s,r1,fun j hj=>?_,rfl,rfl,m.W,m.tI,r1I,m.aI.1,m.aI.2,s,t,a,zbI,2,⟨m,rfl,fun _ _=>rfl⟩,rfl,by rw [hadd1],rfl,rfl,rfl,rfl,rfl,rfl,by rw [hadd1],by rw [hadd1],fun _ _=>by rw [hadd1]⟩,fun s t a q f hz=>?_⟩⟩
 ·show _=[AV.int .i64 (if j=11 then 30 else 0)]
  split <;> rfl
 obtain ⟨m,e1,q0⟩:=hz
 simp only at m e1 q0
 subst e1
 have hadd2:other=true->addR s t zbI a=⟨s,tickZ,zbI,2⟩:=fun eo=>qmY m zbI (.inl (by rw [ei,eo]; rfl))
 have hadd3:other=false->addR s t zbI a=⟨s,t,updR zbI 11 a,0⟩:=fun eo=>gr_add0 (by rw [ei,eo] at m; exact m) zbI rfl
 have hs:(addR s t zbI a).s=s:=by
  cases other with
  | true=>rw [hadd2 rfl]
  | false=>rw [hadd3 rfl]
 refine ⟨fun z=>z.2.2.1.2=2/\(∀j,j<12->z.2.2.1.1 j=0)/\(other=true->z.2.2.2.2=2/\∀j,j<12->z.2.2.2.1 j=0)/\(other=false->z.2.2.2.2=0/\z.2.2.2.1 11=z.2.1),⟨s,zbI,fun _ _=>rfl,rfl,rfl,m.W,m.tI,fun _ _=>I64_0,m.aI.1,m.aI.2,s,t,a,q,2,(addR s t zbI a).r,(addR s t zbI a).e,⟨rfl,q0,fun eo=>?_,fun eo=>?_⟩,rfl,rfl,rfl,rfl,rfl,rfl,rfl,rfl,rfl,by rw [hs],by rw [hs],fun _ _=>rfl,fun _ _=>rfl⟩,fun s t a q f p g hz=>?_⟩
 ·simp only; rw [hadd2 eo]; exact ⟨rfl,fun _ _=>rfl⟩
 ·simp only; rw [hadd3 eo]; exact ⟨rfl,rfl⟩
 obtain ⟨z1,z2,z3,z4⟩:=hz
 simp only at z1 z2 z3 z4
 refine ⟨fun n=>n z1,fun _ b hb=>⟨fun ef=>?_,fun _=>⟨fun eo=>⟨fun _ b2 hb2=>hb2.2 (z3 eo).2,fun n=>n (z3 eo).1⟩,fun eo=>⟨fun _=>⟨by omega,by omega,by omega,(z4 eo).2⟩,fun n=>n (z4 eo).1⟩⟩⟩⟩
 rw [hb.2 z2] at ef; cases ef

end Yard
