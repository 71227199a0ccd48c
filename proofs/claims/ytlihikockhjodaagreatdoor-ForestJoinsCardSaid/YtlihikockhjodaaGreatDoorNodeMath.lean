import Derived.Test.YtlihikockhjodaaGreatDoorSlots
import Derived.Test.YtlihikockhjodaaGreatDoorPutMath

namespace Yard
open Go Go.Sx Go.Proofs
set_option linter.unusedVariables false
set_option linter.unusedSimpArgs false
set_option maxRecDepth 4000
set_option maxHeartbeats 4000000

structure EntT where
 slot:Int
 gen:Int
 key:Int
 value:Int
deriving DecidableEq
structure NodeT where
 e:EntT
 kids:List Int
abbrev entV (e:EntT):List AV:=[i64 e.slot,i64 e.gen,i64 e.key,i64 e.value]
abbrev entA (e:EntT):AV := .agg (entV e)
abbrev zrA (l:List Int):AV := .ro 1 l.length (fun i=>[i64 (l.getD i 0)])
abbrev qpV (n:NodeT):List AV:=[i64 n.e.slot,i64 n.e.gen,i64 n.e.key,i64 n.e.value,zrA n.kids]
abbrev qpW (n:NodeT):AV := .agg (qpV n)
def entZ:EntT:=⟨0,0,0,0⟩
def EntI (e:EntT):Prop:=I64 e.slot/\I64 e.gen/\I64 e.key/\I64 e.value
def zg5 (l:List Int):Prop:=(∀x∈l,I64 x)/\l.length <= 9223372036854775807
def zd1 (n:NodeT):Prop:=EntI n.e/\zg5 n.kids
def zd6 (k:Int):Prop:=k<2\/3072 <= k
instance (k:Int):Decidable (zd6 k):=by unfold zd6; infer_instance
def zsT:List Int->Int->Int
 | [],_=>-1
 | k :: r,i=>if zd6 k then i else zsT r (i+1)
theorem zzR:∀(l:List Int) (i:Int),0 <= i->(0 <= zsT l i ↔ ∃k∈l,zd6 k)
 | [],i,h=>⟨fun k=>absurd k (show ¬(0:Int) <= -1 by decide),fun ⟨k,hk,_⟩=>by cases hk⟩
 | k :: r,i,h=>by
   unfold zsT
   by_cases hb:zd6 k
   ·rw [if_pos hb]; exact ⟨fun _=>⟨k,List.mem_cons_self ..,hb⟩,fun _=>h⟩
   ·rw [if_neg hb,zzR r (i+1) (by omega)]
    exact ⟨fun ⟨q,h1,h2⟩=>⟨q,List.mem_cons_of_mem _ h1,h2⟩,fun ⟨q,h1,h2⟩=>(List.mem_cons.1 h1).elim (fun e=>absurd (e ▸ h2) hb) fun h1=>⟨q,h1,h2⟩⟩
def zbJ (n:NodeT):Prop:=0 <= n.e.slot/\n.e.slot<1792/\1 <= n.e.gen/\n.e.gen <= 4294967295/\n.kids.length <= 12/\∀k∈n.kids,¬zd6 k
instance (n:NodeT):Decidable (zbJ n):=by unfold zbJ; infer_instance

theorem zvU {l:List Int} (h:zg5 l) (i:Nat):I64 (l.getD i 0):=getD_mem (p:=I64) h.1 ⟨by omega,by omega⟩ i

def zvV:Ctr:=zbN Int I64 (fun k=>[i64 k]) (fun k => .bool (decide (zd6 k)))
theorem kidBadV:(∀(x:Int),-9223372036854775808 <= x/\x <= (9223372036854775807:Int)->BC (decide (x<(2:Int))) (Exx Unit fun y=>((true=decide
 (zd6 x)/\True)/\true=true/\True)/\True) (Exx Unit fun y=>((decide ((3072:Int) <= x)=decide (zd6 x)/\True)/\true=true/\True)/\True))=(fnVC tb [] Tryz.f164 zvV (fun _=>{}) (fun _=>none)):=by kernel_rfl

theorem zyR:SpecOk Tryz.prog 164 (zaA zvV):=by
 refine zaK zaM zaL SPok.nil Tryz.func164 (by decide) (zaO fun _=>rfl) (Eq.mp kidBadV ?_)
 simp (maxSteps:=10000000) only [std,stdU,stdV,Exx,I64,Nat.reduceMul,Nat.reduceDiv,Nat.reduceAdd,Int.reduceToNat]
 rintro x ⟨h1,h2⟩
 refine ⟨fun h=>(decide_eq_true (.inl h)).symm,fun h=>?_⟩
 rw [decide_eq_decide]
 exact ⟨fun k => .inr k,fun k=>k.resolve_left h⟩

def qlF:Ctr:=zbN (List Int) zg5 (fun l=>[zrA l,.fn 164]) (fun l=>i64 (zsT l 0))
def indexLA (l:List Int):LA:={ T:=Nat,F:=fun i=>frm 19 [(0,zrA l),(1,.fn 164),(7,i64 (l.length:Nat)),(8,i64 (i:Nat))],H:=fun _=>[.fence] }
theorem indexV:(∀(x:List Int),
 let q1:Prop:=1=1/\x.length=x.length/\∀(i:Nat),i<x.length->[AV.int .i64 (x.getD i 0)]=[AV.int .i64 (x.getD i 0)];
 let q2:Prop:=Tr 1 ((x.length:Int)=(x.length:Int)); zg5 x->Exx (Nat->Prop) fun I=>Exx (Nat->Nat) fun m=>(Exx Nat fun t=>I t/\(q1/\164=164/\Tr 5 (q2/\Tr 1 (0=(t:Int))/\Tr 10 True))/\true=true/\True)/\∀(t:Nat),
 let q3:Prop:=(t:Int)<(x.length:Int);
 let q4:Int:=(t:Int)+1; I t->BC (decide q3) (((0:Int) <= (t:Int)/\q3)/\Exx Int fun x_1=>((Tr 1 (x.getD (t:Int).toNat 0=x_1)/\True)/\true=true/\True)/\(-9223372036854775808 <= x_1/\x_1 <= (9223372036854775807:Int))/\∀(y:Unit),True->BC (decide (zd6 x_1)) (Exx Unit fun y=>((Tr 1 ((t:Int)=zsT x 0)/\True)/\true=true/\True)/\True) (I64 q4/\Exx Nat fun t'=>(I t'/\m t'<m t)/\(q1/\164=164/\Tr 5 (q2/\Tr 1 (q4=(↑t':Int))/\Tr 10 True))/\true=true/\True)) (Exx Unit fun y=>((Tr 1 (-1=zsT x 0)/\True)/\true=true/\True)/\True))=(fnVC tb [(164,zaA zvV)] Tryz.f141 qlF (fun l=>{ loops:=[(2,indexLA l)] }) (fun _=>none)):=by kernel_rfl

theorem qp4:SpecOk Tryz.prog 141 (zaA qlF):=by
 refine zaK zaM zaL (SPok.cons zyR SPok.nil) Tryz.func141 (by decide) (zaO fun _=>rfl) (Eq.mp indexV ?_)
 simp (maxSteps:=10000000) only [std,stdU,stdV,Exx,I64,Nat.reduceMul,Nat.reduceDiv,Nat.reduceAdd,Int.reduceToNat]
 intro l h
 have hl:=h.2
 refine ⟨fun t=>t <= l.length/\zsT l 0=zsT (l.drop t) t,⟨0,⟨Nat.zero_le _,by rw [List.drop_zero]; rfl⟩,rfl⟩,fun t=>l.length-t,fun t ⟨ht,he⟩=>⟨fun hlt=>?_,fun hge=>?_⟩⟩
 ·have hlt':t<l.length:=by omega
  have hd:l.drop t=l.getD t 0 :: l.drop (t+1):=by
   rw [List.drop_eq_getElem_cons hlt',List.getD_eq_getElem?_getD,List.getElem?_eq_getElem hlt']; rfl
  rw [hd,zsT] at he
  have hg:=zvU h t
  refine ⟨by omega,hlt,hg.1,hg.2,fun hb=>?_,fun hb=>?_⟩
  ·rw [he,if_pos hb]
  ·rw [if_neg hb] at he
   exact ⟨by omega,by omega,t+1,⟨by omega,by rw [he]; rfl⟩,by simp only; omega,by omega⟩
 ·have:t=l.length:=by omega
  rw [he,this,List.drop_length]; rfl

def zr0:Ctr:=zbN (List Int) zg5 (fun l=>[zrA l,.fn 164]) (fun l => .bool (decide (∃k∈l,zd6 k)))
theorem qmN:(∀(x:List Int),zg5 x->Exx (List Int) fun x_1=>(((x.length=x_1.length/\∀(i:Nat),i<x_1.length->[AV.int .i64 (x.getD i 0)] =
 [AV.int .i64 (x_1.getD i 0)])/\164=164/\True)/\true=true/\True)/\zg5 x_1/\∀(y:Unit),True->Exx Unit fun y=>((decide ((0:Int) <= zsT
 x_1 0)=decide (∃k,k∈x/\zd6 k)/\True)/\true=true/\True)/\True)=(fnVC tb [(141,zaA qlF)] Tryz.f163 zr0 (fun _=>{}) (fun _ =>
 none)):=by kernel_rfl

theorem qcM:SpecOk Tryz.prog 163 (zaA zr0):=by
 refine zaK zaM zaL (SPok.cons qp4 SPok.nil) Tryz.func163 (by decide) (zaO fun _=>rfl) (Eq.mp qmN ?_)
 simp (maxSteps:=10000000) only [std,stdU,stdV,Exx,I64,Nat.reduceMul,Nat.reduceDiv,Nat.reduceAdd,Int.reduceToNat]
 intro l h
 refine ⟨h,?_⟩
 rw [decide_eq_decide]
 exact zzR l 0 (Int.le_refl _)

def zhH:Ctr:=zbN NodeT zd1 (fun n=>[qpW n]) (fun n => .bool (decide (zbJ n)))
theorem qgJ:(∀(x:NodeT),
 let q1:Prop:=Exx Unit fun y=>((false=decide (zbJ x)/\True)/\true=true/\True)/\True; zd1 x->BC (decide (x.e.slot<(0:Int))) q1 (BC (decide ((1792:Int) <= x.e.slot)) q1 (BC (decide (x.e.gen<(1:Int))) q1 (BC (decide ((4294967295:Int)<x.e.gen)) q1 (BC (decide (12<(x.kids.length:Int))) q1 (Exx (List Int) fun x_1=>(((x.kids.length=x_1.length/\∀(i:Nat),i<x_1.length->[AV.int .i64 (x.kids.getD i 0)]=[AV.int .i64 (x_1.getD i 0)])/\164=164/\True)/\true=true/\True)/\zg5 x_1/\∀(y:Unit),True->Exx Unit fun y=>(((!decide (∃k,k∈x_1/\zd6 k))=decide (zbJ x)/\True)/\true=true/\True)/\True))))))=(fnVC tb [(163,zaA zr0),(164,zaA zvV)] Tryz.f123 zhH (fun _=>{}) (fun _=>none)):=by kernel_rfl

theorem zoR:SpecOk Tryz.prog 123 (zaA zhH):=by
 refine zaK zaM zaL (SPok.cons qcM (SPok.cons zyR SPok.nil)) Tryz.func123 (by decide) (zaO fun _=>rfl) (Eq.mp qgJ ?_)
 simp (maxSteps:=10000000) only [std,stdU,stdV,Exx,I64,Nat.reduceMul,Nat.reduceDiv,Nat.reduceAdd,Int.reduceToNat]
 intro x h
 have no:∀{p:Prop},(zbJ x->¬p)->p->false=decide (zbJ x):=fun h hp=>(decide_eq_false fun k=>h k hp).symm
 refine ⟨no fun k=>by have:=k.1; omega,fun h1=>⟨no fun k=>by have:=k.2.1; omega,fun h2=>⟨no fun k=>by have:=k.2.2.1; omega,fun h3=>⟨no fun k=>by have:=k.2.2.2.1; omega,fun h4=>⟨no fun k=>by have:=k.2.2.2.2.1; omega,fun h5=>⟨h.2,?_⟩⟩⟩⟩⟩⟩
 rw [Bool.eq_iff_iff,Bool.not_eq_true',decide_eq_false_iff_not,decide_eq_true_eq]
 exact ⟨fun k=>⟨by omega,by omega,by omega,by omega,by omega,fun q hq hb=>k ⟨q,hq,hb⟩⟩,fun k ⟨q,hq,hb⟩=>k.2.2.2.2.2 q hq hb⟩

def u64N (k:Int):Nat:=(k % 18446744073709551616).toNat
def zrH (n:NodeT):List Nat:=zaD [u64N n.e.key,u64N n.e.value]++layN n.e.slot.toNat 4++layN n.e.gen.toNat 4
def zq9 (n:NodeT) (k:Nat):List Nat:=(List.range k).flatMap fun i=>layN (n.kids.getD i 0).toNat 2
def zdD (n:NodeT) (k:Nat):List Nat:=zrH n++zq9 n k
def zaJ (n:NodeT):List Nat:=if zbJ n then zcD 1 n.kids.length (zdD n n.kids.length) else []
theorem zfW (n:NodeT) (k:Nat):zq9 n (k+1)=zq9 n k++layN (n.kids.getD k 0).toNat 2:=by
 simp only [zq9]
 rw [List.range_succ,List.flatMap_append]; simp
theorem zi3 (n:NodeT):∀k,(zq9 n k).length=2*k
 | 0=>rfl
 | k+1=>by rw [zfW,List.length_append,zi3 n k,zaE]; omega
theorem qd8 (n:NodeT):∀k,∀c∈zq9 n k,c<256
 | 0=>fun c hc=>(by simp [zq9] at hc)
 | k+1=>fun c hc=>by
   rw [zfW] at hc
   rcases List.mem_append.1 hc with h | h
   ·exact qd8 n k c h
   ·exact zgY _ _ c h
theorem zk4 (a b:Nat):(zaD [a,b]).length=16:=by rw [zbW]; rfl
theorem oct2_lt (a b:Nat):∀c∈zaD [a,b],c<256:=fun c hc=>by
 rw [zaD,List.mem_flatMap] at hc
 obtain ⟨w,_,h⟩:=hc
 exact zgY _ _ c h
theorem zi5 (n:NodeT):(zrH n).length=24:=by
 rw [zrH,List.length_append,List.length_append,zk4,zaE,zaE]
theorem zcZ (n:NodeT) (k:Nat):(zdD n k).length=24+2*k:=by rw [zdD,List.length_append,zi5,zi3]
theorem zmT (n:NodeT) (k:Nat):∀c∈zdD n k,c<256:=fun c hc=>by
 rcases List.mem_append.1 hc with h | h
 ·rcases List.mem_append.1 h with h | h
  ·rcases List.mem_append.1 h with h | h
   ·exact oct2_lt _ _ c h
   ·exact zgY _ _ c h
  ·exact zgY _ _ c h
 ·exact qd8 n k c h
theorem zlJ {k:Int}:IntKind.u64.wrap k=((u64N k:Nat):Int):=by
 unfold u64N
 have:0 <= k % 18446744073709551616:=Int.emod_nonneg _ (by decide)
 rw [Int.toNat_of_nonneg this]; rfl
theorem u64N_U (k:Int):U64 (u64N k):=by
 unfold u64N U64
 have h1:0 <= k % 18446744073709551616:=Int.emod_nonneg _ (by decide)
 have h2:=Int.emod_lt_of_pos k (show (0:Int)<18446744073709551616 by decide)
 omega
def zo7:Ctr:=rowC NodeT zd1 (fun n=>[qpW n]) 5 .u8 zaJ (fun n r => .tup [r,.bool (decide (zbJ n))])
def qjV (n:NodeT):LA:={ T:=Nat×Nat,F:=fun s=>frm 55 [(1,.ptr 1 [] 0),(4,.ptr 2 [] 0),(5,.sl 3 [] 0 1 0 (24+2*s.1) s.2),(36,zrA n.kids),(37,i64 (n.kids.length:Nat)),(38,i64 (s.1:Nat))],H:=fun s=>[.fence,.cells 31 (qpV n),.cells 29 (entV n.e),.row 5 1 s.2 (24+2*s.1) (fun i=>[.int .u8 (((zdD n s.1).getD i 0:Nat):Int)])],ρ₁:=zuY 5 3,ρ₂:=zuY 5 3 }

theorem qpG:(
 let q1:Nat:=(TI.mk (TK.int IntKind.u64) 1 8 (ZL.cons (Value.int IntKind.u64 0) ZL.nil) false).size;
 let q2:Prop:=true=true/\zaC/\0=0;
 let q3:Prop:=(5:TypeId)=5; ∀(x:NodeT),
 let q4:Prop:=1=1/\x.kids.length=x.kids.length/\∀(i:Nat),i<x.kids.length->[AV.int .i64 (x.kids.getD i 0)]=[AV.int .i64 (x.kids.getD i 0)];
 let q5:Prop:=Tr 1 ((x.kids.length:Int)=(x.kids.length:Int));
 let q6:Prop:=Tr 1 (x.e.slot=x.e.slot)/\Tr 1 (x.e.gen=x.e.gen)/\Tr 1 (x.e.key=x.e.key)/\Tr 1 (x.e.value=x.e.value)/\q4/\True;
 let q7:Prop:=Tr 1 (x.e.slot=x.e.slot)/\Tr 1 (x.e.gen=x.e.gen)/\Tr 1 (x.e.key=x.e.key)/\Tr 1 (x.e.value=x.e.value)/\True; zd1 x->Exx NodeT fun x_1=>(((Tr 1 (x.e.slot=x_1.e.slot)/\Tr 1 (x.e.gen=x_1.e.gen)/\Tr 1 (x.e.key=x_1.e.key)/\Tr 1 (x.e.value=x_1.e.value)/\(x.kids.length=x_1.kids.length/\∀(i:Nat),i<x_1.kids.length->[AV.int .i64 (x.kids.getD i 0)]=[AV.int .i64 (x_1.kids.getD i 0)])/\True)/\True)/\true=true/\True)/\zd1 x_1/\∀(y:Unit),True->BC (!decide (zbJ x_1)) (Exx Nat fun y=>(((((zaJ x).length=0/\y=0)/\false=decide (zbJ x)/\True)/\True)/\true=true/\(y=0/\(zaJ x).length=0)/\True)/\(zaJ x).length <= y) (∀(m:Int),m=IntKind.u64.wrap x.e.key->∀(m_1:Int),m_1=IntKind.u64.wrap x.e.value->Exx (List Nat) fun x_2=>(((0+2 <= 2/\2=x_2.length/\∀(i:Nat),
 let q8:Nat:=0+i; i<x_2.length->[AV.int .u64 (if q8=1*1 / 1 then m_1 else if q8=0*1 / 1 then m else 0)]=[AV.int .u64 (↑(x_2.getD i 0):Int)])/\True)/\true=true/\True)/\((∀(w:Nat),w∈x_2->U64 w)/\x_2.length <= 1000000)/\∀(y:Nat),(zaD x_2).length <= y->∀(m:Int),m=IntKind.u64.wrap x.e.slot->Exx (Nat×Int) fun x_3 =>
 let q9:Nat:=(zaD x_2).length+(layL x_3.1 x_3.2).length; ((Tr 1 (m=(x_3.1:Int))/\Tr 1 ((4:Int)=x_3.2)/\True)/\true=true/\True)/\(U64 x_3.1/\I64 x_3.2)/\∀(y_1:Nat),(layL x_3.1 x_3.2).length <= y_1->0+(layL x_3.1 x_3.2).length <= (layL x_3.1 x_3.2).length/\true=true/\((zaD x_2).length <= (zaD x_2).length/\y=y)/\(q9 <= 9223372036854775807/\q9*1 <= 140737488355328)/\∀(cap:Nat),q9 <= cap/\cap <= 9223372036854775807->∀(m:Int),m=IntKind.u64.wrap x.e.gen->Exx (Nat×Int) fun x_4 =>
 let q10:Nat:=q9+(layL x_4.1 x_4.2).length; ((Tr 1 (m=(x_4.1:Int))/\Tr 1 ((4:Int)=x_4.2)/\True)/\true=true/\True)/\(U64 x_4.1/\I64 x_4.2)/\∀(y:Nat),(layL x_4.1 x_4.2).length <= y->0+(layL x_4.1 x_4.2).length <= (layL x_4.1 x_4.2).length/\true=true/\(q9 <= q9/\cap=cap)/\(q10 <= 9223372036854775807/\q10*1 <= 140737488355328)/\∀(cap:Nat),q10 <= cap/\cap <= 9223372036854775807->Exx (Nat×Nat->Prop) fun I=>Exx (Nat×Nat->Nat) fun m=>(Exx (Nat×Nat) fun t =>
 let q11:Nat:=24+2*t.1; I t/\Tr 1 (q2/\Tr 2 (q2/\(true=true/\zaC/\0=0/\1=1/\0=0/\q10=q11/\cap=t.2)/\Tr 30 (q4/\q5/\Tr 1 (0=(t.1:Int))/\Tr 16 True)))/\true=true/\(31=(31:TypeId)/\q6)/\(29=(29:TypeId)/\q7)/\(q3/\1=1/\cap=t.2/\q11 <= q10/\∀(i:Nat),i<q11->(if i<q9 then if i<(zaD x_2).length then [AV.int .u8 (↑((zaD x_2).getD i 0):Int)] else [AV.int .u8 (↑((layL x_3.1 x_3.2).getD (0+(i-(zaD x_2).length)) 0):Int)] else [AV.int .u8 (↑((layL x_4.1 x_4.2).getD (0+(i-q9)) 0):Int)])=[AV.int .u8 (↑((zdD x t.1).getD i 0):Int)])/\True)/\∀(t:Nat×Nat),
 let q12:Prop:=(t.1:Int)<(x.kids.length:Int);
 let q13:Nat:=24+2*t.1;
 let q14:Int:=(t.1:Int)+1; I t->BC (decide q12) (((0:Int) <= (t.1:Int)/\q12)/\∀(m_2:Int),m_2=IntKind.u64.wrap (x.kids.getD (t.1:Int).toNat 0)->Exx (Nat×Int) fun x_5 =>
 let q15:Nat:=q13+(layL x_5.1 x_5.2).length; ((Tr 1 (m_2=(x_5.1:Int))/\Tr 1 ((2:Int)=x_5.2)/\True)/\true=true/\True)/\(U64 x_5.1/\I64 x_5.2)/\∀(y:Nat),(layL x_5.1 x_5.2).length <= y->0+(layL x_5.1 x_5.2).length <= (layL x_5.1 x_5.2).length/\true=true/\(q13 <= q13/\t.2=t.2)/\(q15 <= 9223372036854775807/\q15*1 <= 140737488355328)/\∀(cap:Nat),q15 <= cap/\cap <= 9223372036854775807->I64 q14/\Exx (Nat×Nat) fun t' =>
 let q16:Nat:=24+2*t'.fst; (I t'/\m t'<m t)/\Tr 1 (q2/\Tr 2 (q2/\(true=true/\zaC/\0=0/\1=1/\0=0/\q15=q16/\cap=t'.snd)/\Tr 30 (q4/\q5/\Tr 1 (q14=(↑t'.fst:Int))/\Tr 16 True)))/\true=true/\((31:TypeId)=31/\q6)/\((29:TypeId)=29/\q7)/\(q3/\1=1/\cap=t'.snd/\q16 <= q15/\∀(i:Nat),i<q16->(if i<q13 then [AV.int .u8 (↑((zdD x t.1).getD i 0):Int)] else [AV.int .u8 (↑((layL x_5.1 x_5.2).getD (0+(i-q13)) 0):Int)])=[AV.int .u8 (↑((zdD x t'.fst).getD i 0):Int)])/\True) (Exx (Int×Int×List Nat) fun x_5 =>
 let q17:List Nat:=zkI x_5.1 x_5.2.1 x_5.2.2;
 let q18:Nat:=q17.length; ((Tr 1 ((1:Int)=x_5.1)/\Tr 1 ((x.kids.length:Int)=x_5.2.1)/\(0+q13 <= q13/\q13=x_5.2.2.length/\∀(i:Nat),i<x_5.2.2.length->[AV.int .u8 (↑((zdD x t.1).getD (0+i) 0):Int)]=[AV.int .u8 (↑(x_5.2.2.getD i 0):Int)])/\True)/\true=true/\True)/\(I64 x_5.1/\I64 x_5.2.1/\Oct x_5.2.2)/\∀(y:Nat),q18 <= y->Exx Nat fun y_2=>((((true=true/\zaC/\0=0/\1=1/\0=0/\q18=(zaJ x).length/\y=y_2)/\decide (zgO x_5.1 x_5.2.1 x_5.2.2)=decide (zbJ x)/\True)/\True)/\true=true/\(q3/\1=1/\y=y_2/\(zaJ x).length <= q18/\∀(i:Nat),i<(zaJ x).length->[AV.int .u8 (↑(q17.getD i 0):Int)]=[AV.int .u8 (↑((zaJ x).getD i 0):Int)])/\True)/\(zaJ x).length <= y_2)))=(zcA tb [(123,zaA zhH),(128,zaA zq0),(129,zaA layC),(130,zaA qjC)] Tryz.f89 zo7 (fun x=>{ loops:=[(8,qjV x)] }) (fun _ av _=>qdB av) (fun _=>[]) (fun _ _ _ _=>[])):=by kernel_rfl

theorem ztE:SpecOk Tryz.prog 89 (zaA zo7):=by
 refine za0 zaM zaL (SPok.cons zoR (SPok.cons zqZ (SPok.cons zyM (SPok.cons qaM SPok.nil)))) Tryz.func89 (by decide) (zgW fun _ _ _=>⟨rfl,rfl,trivial⟩) (Eq.mp qpG ?_)
 simp (maxSteps:=10000000) only [std,stdU,stdV,Exx,I64,Nat.reduceMul,Nat.reduceDiv,Nat.reduceAdd,Int.reduceToNat]
 intro n hn
 have hK:=hn.2
 refine ⟨n,rfl,rfl,rfl,rfl,rfl,hn,fun h=>?_,fun h=>?_⟩
 ·rw [zaJ,if_neg h]; exact ⟨rfl,(decide_eq_false h).symm,rfl,Nat.le_refl _⟩
 obtain ⟨h1,h2,h3,h4,h5,h6⟩:=h
 have hok:zbJ n:=⟨h1,h2,h3,h4,h5,h6⟩
 refine ⟨[u64N n.e.key,u64N n.e.value],rfl,fun i hi=>?_,fun w hw=>?_,by simp,fun y hy=>?_⟩
 ·have:i=0\/i=1:=by simp at hi; omega
  rcases this with rfl | rfl
  ·rw [if_neg (by decide),if_pos rfl,zlJ]; rfl
  ·rw [if_pos rfl,zlJ]; rfl
 ·simp only [List.mem_cons,List.not_mem_nil,or_false] at hw
  rcases hw with rfl | rfl <;> exact u64N_U _
 rw [zk4]
 refine ⟨n.e.slot.toNat,zbK h1 (by omega),by unfold U64; omega,by omega,by omega,fun y1 _=>?_⟩
 rw [ztT,zaE]
 refine ⟨by omega,by omega,fun c1 hc1=>⟨n.e.gen.toNat,zbK (by omega) h4,by unfold U64; omega,by omega,by omega,fun y2 _=>?_⟩⟩
 rw [ztT,zaE]
 refine ⟨by omega,by omega,fun c2 hc2=>⟨fun s=>s.1 <= n.kids.length/\24+2*s.1 <= s.2/\s.2 <= 9223372036854775807,⟨0,c2,⟨Nat.zero_le _,by simp only; omega,hc2.2⟩,by omega,rfl,rfl,rfl,by omega,fun i hi=>?_⟩,fun s=>n.kids.length-s.1,fun a b hab=>⟨fun hlt=>?_,fun hge=>?_⟩⟩⟩
 ·have e:zdD n 0=zaD [u64N n.e.key,u64N n.e.value]++layN n.e.slot.toNat 4++layN n.e.gen.toNat 4:=by rw [zdD,zrH]; simp [zq9]
  rw [e,zaH,zaH,List.length_append,zk4,zaE]
  split
  ·split <;> rfl
  ·rfl
 ·obtain ⟨q1,q2,q3⟩:=hab
  simp only at q1 q2 q3
  have ha:a<n.kids.length:=by omega
  have hm:n.kids.getD a 0∈n.kids:=by rw [List.getD_eq_getElem?_getD,List.getElem?_eq_getElem ha]; exact List.getElem_mem ha
  have hb:=h6 _ hm
  have hk:2 <= n.kids.getD a 0/\n.kids.getD a 0<3072:=⟨by unfold zd6 at hb; omega,by unfold zd6 at hb; omega⟩
  refine ⟨by omega,hlt,(n.kids.getD a 0).toNat,zbK (by omega) (by omega),by unfold U64; omega,by omega,by omega,fun y hy=>?_⟩
  rw [qk8,zaE]
  refine ⟨by omega,by omega,fun cap hcap=>⟨by omega,by omega,a+1,cap,⟨by simp only; omega,by simp only; omega,hcap.2⟩,by simp only; omega,by omega,rfl,by omega,rfl,by omega,fun i hi=>?_⟩⟩
  have e:zdD n (a+1)=zdD n a++layN (n.kids.getD a 0).toNat 2:=by rw [zdD,zfW,<- List.append_assoc]; rfl
  rw [e]
  exact snoc1 (c:=fun v=>[AV.int IntKind.u8 ((v:Nat):Int)]) (zcZ n a)
 ·obtain ⟨q1,q2,q3⟩:=hab
  simp only at q1 q2 q3
  have ha:a=n.kids.length:=by omega
  subst ha
  have hbl:=zcZ n n.kids.length
  have hse:zgO 1 (n.kids.length:Int) (zdD n n.kids.length):=⟨by omega,by omega,by omega,by omega,by omega⟩
  refine ⟨zdD n n.kids.length,hbl.symm,fun _ _=>rfl,by omega,by omega,by omega,by omega,⟨zmT n _,by omega⟩,fun y hy=>?_⟩
  have e:zkI 1 (n.kids.length:Int) (zdD n n.kids.length)=zaJ n:=by rw [zkI,if_pos hse,zaJ,if_pos hok]; rfl
  rw [e] at hy ⊢
  exact ⟨rfl,decide_eq_decide.2 ⟨fun _=>hok,fun _=>hse⟩,Nat.le_refl _,fun _ _=>rfl,hy⟩

def nanC:Ctr:=zbN Int I64 (fun k=>[i64 k]) (fun _ => .bool false)
theorem nanV:(∀(x:Int),-9223372036854775808 <= x/\x <= (9223372036854775807:Int)->Exx Unit fun y=>(((!decide (x=x))=false/\True)/\true=true /\
 True)/\True)=(fnVC tb [] Tryz.f152 nanC (fun _=>{}) (fun _=>none)):=by kernel_rfl

theorem nan_ok:SpecOk Tryz.prog 152 (zaA nanC):=by
 refine zaK zaM zaL SPok.nil Tryz.func152 (by decide) (zaO fun _=>rfl) (Eq.mp nanV ?_)
 simp (maxSteps:=10000000) only [std,stdU,stdV,Exx,I64,Nat.reduceMul,Nat.reduceDiv,Nat.reduceAdd,Int.reduceToNat]

def cmpI (a b:Int):Int:=if a<b then -1 else if b<a then 1 else 0
def cmpC:Ctr:=zbN (Int×Int) (fun x=>I64 x.1/\I64 x.2) (fun x=>[i64 x.1,i64 x.2]) (fun x=>i64 (cmpI x.1 x.2))
theorem cmpV:(∀(x:Int×Int),I64 x.1/\I64 x.2->Exx Int fun x_1=>((Tr 1 (x.1=x_1)/\True)/\true=true/\True)/\(-9223372036854775808 <= x_1/\x_1 <=
 (9223372036854775807:Int))/\∀(y:Unit),True->Exx Int fun x_2=>((Tr 1 (x.2=x_2)/\True)/\true=true/\True)/\(-9223372036854775808 <= x_2/\x_2 <=
 (9223372036854775807:Int))/\∀(y:Unit),True->BC (decide (x.1<x.2)) (Exx Unit fun y=>((Tr 1 (-1=cmpI x.1 x.2)/\True)/\true=true/\True)/\True)
 (BC (decide (x.2<x.1)) (Exx Unit fun y=>((Tr 1 ((1:Int)=cmpI x.1 x.2)/\True)/\true=true/\True)/\True) (Exx Unit fun y=>((Tr 1 ((0:Int)=cmpI
 x.1 x.2)/\True)/\true=true/\True)/\True)))=(fnVC tb [(152,zaA nanC)] Tryz.f106 cmpC (fun _=>{}) (fun _=>none)):=by kernel_rfl

theorem cmp_ok:SpecOk Tryz.prog 106 (zaA cmpC):=by
 refine zaK zaM zaL (SPok.cons nan_ok SPok.nil) Tryz.func106 (by decide) (zaO fun _=>rfl) (Eq.mp cmpV ?_)
 simp (maxSteps:=10000000) only [std,stdU,stdV,Exx,I64,Nat.reduceMul,Nat.reduceDiv,Nat.reduceAdd,Int.reduceToNat]
 rintro a b ⟨h1,h2,h3,h4⟩
 unfold cmpI
 exact ⟨h1,h2,h3,h4,fun h=>by rw [if_pos h],fun h=>⟨fun k=>by rw [if_neg h,if_pos k],fun k=>by rw [if_neg h,if_neg k]⟩⟩

def orL:List Int->Int
 | []=>0
 | a :: r=>if a=0 then orL r else a
def qmO:Ctr:=zbN (List Int) zg5 (fun l=>[zrA l]) (fun l=>i64 (orL l))
def cmpOrLA (l:List Int):LA:={ T:=Nat,F:=fun i=>frm 18 [(3,i64 0),(6,zrA l),(7,i64 (l.length:Nat)),(8,i64 (i:Nat))],H:=fun _=>[.fence] }
theorem cmpOrV:(∀(x:List Int),
 let q1:Prop:=1=1/\x.length=x.length/\∀(i:Nat),i<x.length->[AV.int .i64 (x.getD i 0)]=[AV.int .i64 (x.getD i 0)];
 let q2:Prop:=Tr 1 ((x.length:Int)=(x.length:Int)); zg5 x->Exx (Nat->Prop) fun I=>Exx (Nat->Nat) fun m=>(Exx Nat fun t=>I t/\Tr 3 (Tr 1 ((0:Int)=0)/\Tr 2 (q1/\q2/\Tr 1 (0=(t:Int))/\Tr 9 True))/\true=true/\True)/\∀(t:Nat),
 let q3:Prop:=(t:Int)<(x.length:Int);
 let q4:Int:=(t:Int)+1; I t->BC (decide q3) (((0:Int) <= (t:Int)/\q3)/\BC (!decide (x.getD (t:Int).toNat 0=(0:Int))) (Exx Unit fun y=>((Tr 1 (x.getD (t:Int).toNat 0=orL x)/\True)/\true=true/\True)/\True) (I64 q4/\Exx Nat fun t'=>(I t'/\m t'<m t)/\Tr 3 (Tr 1 ((0:Int)=0)/\Tr 2 (q1/\q2/\Tr 1 (q4=(↑t':Int))/\Tr 9 True))/\true=true/\True)) (Exx Unit fun y=>((Tr 1 ((0:Int)=orL x)/\True)/\true=true/\True)/\True))=(fnVC tb [] Tryz.f105 qmO (fun l=>{ loops:=[(3,cmpOrLA l)] }) (fun _=>none)):=by kernel_rfl

theorem qqR:SpecOk Tryz.prog 105 (zaA qmO):=by
 refine zaK zaM zaL SPok.nil Tryz.func105 (by decide) (zaO fun _=>rfl) (Eq.mp cmpOrV ?_)
 simp (maxSteps:=10000000) only [std,stdU,stdV,Exx,I64,Nat.reduceMul,Nat.reduceDiv,Nat.reduceAdd,Int.reduceToNat]
 intro l h
 have hl:=h.2
 refine ⟨fun t=>t <= l.length/\orL l=orL (l.drop t),⟨0,⟨Nat.zero_le _,by rw [List.drop_zero]⟩,rfl⟩,fun t=>l.length-t,fun t ⟨ht,he⟩=>⟨fun hlt=>?_,fun hge=>?_⟩⟩
 ·have hlt':t<l.length:=by omega
  have hd:l.drop t=l.getD t 0 :: l.drop (t+1):=by
   rw [List.drop_eq_getElem_cons hlt',List.getD_eq_getElem?_getD,List.getElem?_eq_getElem hlt']; rfl
  rw [hd,orL] at he
  refine ⟨by omega,hlt,fun hb=>?_,fun hb=>?_⟩
  ·rw [he,if_neg hb]
  ·rw [if_pos hb] at he
   exact ⟨by omega,by omega,t+1,⟨by omega,he⟩,by simp only; omega,by omega⟩
 ·have:t=l.length:=by omega
  rw [he,this,List.drop_length]; rfl

def zgT (a b:EntT):Int:=orL [cmpI a.key b.key,cmpI a.slot b.slot,cmpI a.gen b.gen]
def zmS:Ctr:=zbN (EntT×EntT) (fun x=>EntI x.1/\EntI x.2) (fun x=>[entA x.1,entA x.2]) (fun x=>i64 (zgT x.1 x.2))
theorem cmpI_I (a b:Int):I64 (cmpI a b):=by
 unfold cmpI
 split
 ·exact ⟨by omega,by omega⟩
 ·split <;> exact ⟨by omega,by omega⟩
theorem qqP:(
 let q1:Nat:=(TI.mk (TK.int IntKind.i64) 1 8 (ZL.cons (Value.int IntKind.i64 0) ZL.nil) false).size; ∀(x:EntT×EntT),EntI x.1/\EntI x.2->Exx (Int×Int) fun x_1=>((Tr 1 (x.1.key=x_1.1)/\Tr 1 (x.2.key=x_1.2)/\True)/\true=true/\True)/\(I64 x_1.1/\I64 x_1.2)/\∀(y:Unit),True->Exx (Int×Int) fun x_2=>((Tr 1 (x.1.slot=x_2.1)/\Tr 1 (x.2.slot=x_2.2)/\True)/\true=true/\True)/\(I64 x_2.1/\I64 x_2.2)/\∀(y:Unit),True->Exx (Int×Int) fun x_3=>((Tr 1 (x.1.gen=x_3.1)/\Tr 1 (x.2.gen=x_3.2)/\True)/\true=true/\True)/\(I64 x_3.1/\I64 x_3.2)/\∀(y:Unit),True->Exx (List Int) fun x_4=>(((0+3 <= 3/\3=x_4.length/\∀(i:Nat),
 let q2:Nat:=0+i; i<x_4.length->[AV.int .i64 (if q2=2*1 / 1 then cmpI x_3.1 x_3.2 else if q2=1*1 / 1 then cmpI x_2.1 x_2.2 else if q2=0*1 / 1 then cmpI x_1.1 x_1.2 else 0)]=[AV.int .i64 (x_4.getD i 0)])/\True)/\true=true/\True)/\zg5 x_4/\∀(y:Unit),True->Exx Unit fun y=>((Tr 1 (orL x_4=zgT x.1 x.2)/\True)/\true=true/\True)/\True)=(fnVC tb [(105,zaA qmO),(106,zaA cmpC)] Tryz.f66 zmS (fun _=>{}) (fun _=>none)):=by kernel_rfl

theorem zn7:SpecOk Tryz.prog 66 (zaA zmS):=by
 refine zaK zaM zaL (SPok.cons qqR (SPok.cons cmp_ok SPok.nil)) Tryz.func66 (by decide) (zaO fun _=>rfl) (Eq.mp qqP ?_)
 simp (maxSteps:=10000000) only [std,stdU,stdV,Exx,I64,Nat.reduceMul,Nat.reduceDiv,Nat.reduceAdd,Int.reduceToNat]
 rintro a b ⟨⟨h1,h2,h3,h4⟩,⟨k1,k2,k3,k4⟩⟩
 refine ⟨h3.1,h3.2,k3.1,k3.2,h1.1,h1.2,k1.1,k1.2,h2.1,h2.2,k2.1,k2.2,[cmpI a.key b.key,cmpI a.slot b.slot,cmpI a.gen b.gen],rfl,fun i hi=>?_,⟨fun x hx=>?_,by simp⟩,rfl⟩
 ·have hi:i<3:=hi
  have:i=0\/i=1\/i=2:=by omega
  rcases this with rfl | rfl | rfl <;> rfl
 ·simp only [List.mem_cons,List.not_mem_nil,or_false] at hx
  rcases hx with rfl | rfl | rfl <;> exact cmpI_I _ _

def ahead (a b:EntT):Prop:=if a.key=b.key then (if a.slot=b.slot then a.gen<b.gen else a.slot<b.slot) else a.key<b.key
instance (a b:EntT):Decidable (ahead a b):=by unfold ahead; infer_instance
theorem zgJ {a b:EntT}:zgT a b<0 ↔ ahead a b:=by
 unfold zgT orL orL orL orL ahead cmpI
 by_cases h1:a.key=b.key
 ·by_cases h2:a.slot=b.slot
  ·by_cases h3:a.gen<b.gen
   ·simp [h1,h2,h3]
   ·by_cases h4:b.gen<a.gen <;> simp [h1,h2,h3,h4]
  ·by_cases h3:a.slot<b.slot
   ·simp [h1,h2,h3]
   ·have h4:b.slot<a.slot:=by omega
    simp [h1,h2,h3,h4]
 ·by_cases h3:a.key<b.key
  ·simp [h1,h3]
  ·have h4:b.key<a.key:=by omega
   simp [h1,h3,h4]

def qbJ:Ctr:=zbN (List Nat×Int×Int) (fun x=>Oct x.1/\I64 x.2.1/\I64 x.2.2) (fun x=>[octA x.1,i64 x.2.1,i64 x.2.2]) (fun x=>i64 (IntKind.i64.wrap ((getN x.1 x.2.1 x.2.2:Nat):Int)))
theorem numberV:(∀(x:List Nat×Int×Int),Oct x.1/\I64 x.2.1/\I64 x.2.2->Exx (List Nat×Int×Int) fun x_1=>(((x.1.length=x_1.1.length/\∀(i :
 Nat),i<x_1.1.length->[AV.int .u8 (↑(x.1.getD i 0):Int)]=[AV.int .u8 (↑(x_1.1.getD i 0):Int)])/\Tr 1 (x.2.1=x_1.2.1)/\Tr 1 (x.2.2=x_1.2.2) /\
 True)/\true=true/\True)/\(Oct x_1.1/\I64 x_1.2.1/\I64 x_1.2.2)/\∀(y:Unit),True->∀(m:Int),m=IntKind.i64.wrap (↑(getN x_1.1 x_1.2.1 x_1.2.2) :
 Int)->Exx Unit fun y=>((Tr 1 (m=IntKind.i64.wrap (↑(getN x.1 x.2.1 x.2.2):Int))/\True)/\true=true/\True)/\True)=(fnVC tb [(162,zaA getC)]
 Tryz.f122 qbJ (fun _=>{}) (fun _=>none)):=by kernel_rfl

theorem qkJ:SpecOk Tryz.prog 122 (zaA qbJ):=by
 refine zaK zaM zaL (SPok.cons get_ok SPok.nil) Tryz.func122 (by decide) (zaO fun _=>rfl) (Eq.mp numberV ?_)
 simp (maxSteps:=10000000) only [std,stdU,stdV,Exx,I64,Nat.reduceMul,Nat.reduceDiv,Nat.reduceAdd,Int.reduceToNat]
 exact fun l a n h=>h


def numA (b:List Nat) (a n:Int):Int:=IntKind.i64.wrap ((getN (b.drop 8) a n:Nat):Int)
def ztX (b:List Nat) (k:Nat):List Int:=(List.range k).map fun i=>numA b (24+2*(i:Nat)) 2
def nodeB (b:List Nat):NodeT:=⟨⟨numA b 16 4,numA b 20 4,numA b 0 8,numA b 8 8⟩,ztX b (b.getD 5 0)⟩
def zcI (b:List Nat):Prop:=zb0 b/\b.getD 4 0=1/\b.getD 5 0 <= 12/\zbJ (nodeB b)/\zdP (b.drop 8) (24+2*((b.getD 5 0:Nat):Int)) (32-2*((b.getD 5 0:Nat):Int))=true
instance (b:List Nat):Decidable (zcI b):=by unfold zcI; infer_instance
def nodeZ:NodeT:=⟨entZ,[]⟩
def getNodeT (b:List Nat):NodeT:=if zcI b then nodeB b else nodeZ
def qd3 (n:NodeT) (r:AV):AV := .agg [i64 n.e.slot,i64 n.e.gen,i64 n.e.key,i64 n.e.value,r]
def zmI:Ctr:=qo0 (List Nat) Oct (fun b=>[octA b]) 3 .i64 (fun b=>(getNodeT b).kids) (fun b r => .tup [qd3 (getNodeT b) r,.bool (decide (zcI b))])
def qm9 (av:AV):Option Ren:=match av with
 | .tup (.agg (_ :: _ :: _ :: _ :: .sl q _ _ _ _ _ _ :: _) :: _)=>some [some 0,some q]
 | _=>some [some 0,none]
def qrJ (F:Fr) (H:AH):Option Ren:=match H[(3:Nat)]? with
 | some (.cells _ (_ :: _ :: _ :: _ :: .sl q _ _ _ _ _ _ :: _))=>some [some 0,some 1,some 2,some 3,some q]
 | _=>some [some 0,some 1,some 2,some 3,none]
def qlP (b:List Nat):LA:={ T:=Nat×Nat×Nat,F:=fun s=>frm 73 [(2,.ptr 1 [] 0),(5,i64 (b.getD 5 0:Nat)),(6,.sl 2 [] 0 1 0 56 s.2.1),(8,.ptr 3 [] 0),(40,i64 (b.getD 5 0:Nat)),(41,i64 (s.1:Nat))],H:=fun s=>[.fence,.cells 31 [i64 0,i64 0,i64 0,i64 0,.nils],.row 5 1 s.2.1 56 (fun i=>[.int .u8 (((b.drop 8).getD i 0:Nat):Int)]),.cells 31 [i64 (nodeB b).e.slot,i64 (nodeB b).e.gen,i64 (nodeB b).e.key,i64 (nodeB b).e.value,.sl 4 [] 0 1 0 s.1 s.2.2],.row 3 1 s.2.2 s.1 (fun i=>[i64 (numA b (24+2*(i:Nat)) 2)])],ρ₁:=qrJ,ρ₂:=qrJ }

theorem qlL (x:Int):I64 (IntKind.i64.wrap x):=by
 rw [IntKind.wrap_i64]; unfold I64; omega
theorem zdU (b:List Nat) (k:Nat):(ztX b k).length=k:=by simp [ztX]
theorem zhL (b:List Nat) {k i:Nat} (h:i<k):(ztX b k).getD i 0=numA b (24+2*(i:Nat)) 2:=by
 rw [ztX,zfO,if_pos h]
theorem zyC (b:List Nat) (a n:Int):I64 (numA b a n):=qlL _
theorem znQ (b:List Nat):zd1 (nodeB b) ↔ (b.getD 5 0 <= 9223372036854775807):=by
 refine ⟨fun h=>?_,fun h=>⟨⟨zyC _ _ _,zyC _ _ _,zyC _ _ _,zyC _ _ _⟩,fun x hx=>?_,?_⟩⟩
 ·have:=h.2.2; simp only [nodeB,zdU] at this; exact this
 ·obtain ⟨i,_,rfl⟩:=List.mem_map.1 hx; exact zyC _ _ _
 ·simp only [nodeB,zdU]; exact h

theorem qqC:(
 let q1:Prop:=true=true/\zaC/\(0:Nat)=0;
 let q2:Prop:=Tr 1 ((0:Int)=0)/\Tr 1 ((0:Int)=0)/\Tr 1 ((0:Int)=0)/\Tr 1 ((0:Int)=0)/\Tr 1 True;
 let q3:Prop:=(5:TypeId)=5;
 let q4:Prop:=(0:Nat)+(56:Nat) <= (56:Nat);
 let q5:Prop:=(31:TypeId)=31;
 let q6:Prop:=(3:TypeId)=3;
 let q7:Nat:=(TI.mk (TK.int IntKind.i64) 1 8 (ZL.cons (Value.int IntKind.i64 0) ZL.nil) false).size; ∀(x:List Nat),
 let q8:Prop:=Exx Nat fun y=>((((Tr 1 ((0:Int)=(getNodeT x).e.slot)/\Tr 1 ((0:Int)=(getNodeT x).e.gen)/\Tr 1 ((0:Int)=(getNodeT x).e.key)/\Tr 1 ((0:Int)=(getNodeT x).e.value)/\((getNodeT x).kids.length=0/\y=0)/\True)/\false=decide (zcI x)/\True)/\True)/\true=true/\(y=0/\(getNodeT x).kids.length=0)/\True)/\(getNodeT x).kids.length <= y/\y <= 9223372036854775807;
 let q9:Int:=(↑(x.getD 5 0):Int);
 let q10:Prop:=Tr 1 (q9=q9);
 let q11:Int:=2*q9;
 let q12:Int:=24+q11;
 let q13:Int:=(↑(56:Nat):Int)-q12; Oct x->Exx (List Nat) fun x_1=>(((x.length=x_1.length/\∀(i:Nat),i<x_1.length->[AV.int .u8 (↑(x.getD i 0):Int)]=[AV.int .u8 (↑(x_1.getD i 0):Int)])/\True)/\true=true/\True)/\Oct x_1/\∀(y:Nat),(zbC x_1).length <= y->BC (!decide (zb0 x_1)) q8 (BC (!decide ((↑(ze0 x_1):Int)=(1:Int))) q8 (BC (decide ((12:Int)<(↑(tagN x_1):Int))) q8 (Exx (List Nat×Int×Int) fun x_2 =>
 let q14:Prop:=0+(zbC x_1).length <= (zbC x_1).length; (((q14/\(zbC x_1).length=x_2.1.length/\∀(i:Nat),i<x_2.1.length->[AV.int .u8 (↑((zbC x_1).getD (0+i) 0):Int)]=[AV.int .u8 (↑(x_2.1.getD i 0):Int)])/\Tr 1 ((16:Int)=x_2.2.1)/\Tr 1 ((4:Int)=x_2.2.2)/\True)/\true=true/\True)/\(Oct x_2.1/\I64 x_2.2.1/\I64 x_2.2.2)/\∀(y_1:Unit),True->Exx (List Nat×Int×Int) fun x_3=>(((q14/\(zbC x_1).length=x_3.1.length/\∀(i:Nat),i<x_3.1.length->[AV.int .u8 (↑((zbC x_1).getD (0+i) 0):Int)]=[AV.int .u8 (↑(x_3.1.getD i 0):Int)])/\Tr 1 ((20:Int)=x_3.2.1)/\Tr 1 ((4:Int)=x_3.2.2)/\True)/\true=true/\True)/\(Oct x_3.1/\I64 x_3.2.1/\I64 x_3.2.2)/\∀(y_2:Unit),True->Exx (List Nat×Int×Int) fun x_4=>(((q14/\(zbC x_1).length=x_4.1.length/\∀(i:Nat),i<x_4.1.length->[AV.int .u8 (↑((zbC x_1).getD (0+i) 0):Int)]=[AV.int .u8 (↑(x_4.1.getD i 0):Int)])/\Tr 1 ((0:Int)=x_4.2.1)/\Tr 1 ((8:Int)=x_4.2.2)/\True)/\true=true/\True)/\(Oct x_4.1/\I64 x_4.2.1/\I64 x_4.2.2)/\∀(y_3:Unit),True->Exx (List Nat×Int×Int) fun x_5=>(((q14/\(zbC x_1).length=x_5.1.length/\∀(i:Nat),i<x_5.1.length->[AV.int .u8 (↑((zbC x_1).getD (0+i) 0):Int)]=[AV.int .u8 (↑(x_5.1.getD i 0):Int)])/\Tr 1 ((8:Int)=x_5.2.1)/\Tr 1 ((8:Int)=x_5.2.2)/\True)/\true=true/\True)/\(Oct x_5.1/\I64 x_5.2.1/\I64 x_5.2.2)/\∀(y_4:Unit),True->Exx (Nat×Nat×Nat->Prop) fun I=>Exx (Nat×Nat×Nat->Nat) fun m=>(Exx (Nat×Nat×Nat) fun t=>I t/\Tr 2 (q1/\Tr 2 (Tr 1 ((↑(tagN x_1):Int)=q9)/\(true=true/\zaC/\(0:Nat)=0/\(1:Nat)=1/\(0:Nat)=0/\(zbC x_1).length=56/\y=t.2.1)/\Tr 1 (q1/\Tr 31 (Tr 1 ((↑(tagN x_1):Int)=q9)/\Tr 1 ((0:Int)=(t.1:Int))/\Tr 31 True))))/\true=true/\((31:Nat)=(31:TypeId)/\q2)/\(q3/\(1:Nat)=1/\y=t.2.1/\56 <= (zbC x_1).length/\∀(i:Nat),i<56->[AV.int .u8 (↑((zbC x_1).getD i 0):Int)]=[AV.int .u8 (↑((List.drop 8 x).getD i 0):Int)])/\((31:Nat)=(31:TypeId)/\Tr 1 (IntKind.i64.wrap (↑(getN x_2.1 x_2.2.1 x_2.2.2):Int)=(nodeB x).e.slot)/\Tr 1 (IntKind.i64.wrap (↑(getN x_3.1 x_3.2.1 x_3.2.2):Int)=(nodeB x).e.gen)/\Tr 1 (IntKind.i64.wrap (↑(getN x_4.1 x_4.2.1 x_4.2.2):Int)=(nodeB x).e.key)/\Tr 1 (IntKind.i64.wrap (↑(getN x_5.1 x_5.2.1 x_5.2.2):Int)=(nodeB x).e.value)/\(t.1=0/\t.2.2=0)/\True)/\(t.2.2=0/\t.1=0)/\True)/\∀(t:Nat×Nat×Nat),
 let q15:Int:=2*(t.1:Int);
 let q16:Int:=24+q15;
 let q17:Nat:=t.1+1;
 let q18:Int:=(t.1:Int)+1; I t->BC (decide ((t.1:Int)<q9)) (I64 q15/\I64 q16/\(Exx (List Nat×Int×Int) fun x_6=>(((q4/\56=x_6.1.length/\∀(i:Nat),i<x_6.1.length->[AV.int .u8 (↑((List.drop 8 x).getD (0+i) 0):Int)]=[AV.int .u8 (↑(x_6.1.getD i 0):Int)])/\Tr 1 (q16=x_6.2.1)/\Tr 1 ((2:Int)=x_6.2.2)/\True)/\true=true/\True)/\(Oct x_6.1/\I64 x_6.2.1/\I64 x_6.2.2)/\∀(y:Unit),True->(0:Nat)+(1:Nat) <= (1:Nat)/\true=true/\(t.1 <= t.1/\t.2.2=t.2.2)/\(q17 <= 9223372036854775807/\q17*8 <= 140737488355328)/\∀(cap:Nat),q17 <= cap/\cap <= 9223372036854775807->I64 q18/\Exx (Nat×Nat×Nat) fun t'=>(I t'/\m t'<m t)/\Tr 2 (q1/\Tr 2 (q10/\(true=true/\zaC/\(0:Nat)=0/\(1:Nat)=1/\(0:Nat)=0/\(56:Nat)=56/\t.2.1=t'.snd.1)/\Tr 1 (q1/\Tr 31 (q10/\Tr 1 (q18=(↑t'.fst:Int))/\Tr 31 True))))/\true=true/\(q5/\q2)/\(q3/\(1:Nat)=1/\t.2.1=t'.snd.1/\(56:Nat) <= (56:Nat)/\∀(i:Nat),
 let q19:List AV:=[AV.int .u8 (↑((List.drop 8 x).getD i 0):Int)]; i<56->q19=q19)/\(q5/\Tr 1 ((nodeB x).e.slot=(nodeB x).e.slot)/\Tr 1 ((nodeB x).e.gen=(nodeB x).e.gen)/\Tr 1 ((nodeB x).e.key=(nodeB x).e.key)/\Tr 1 ((nodeB x).e.value=(nodeB x).e.value)/\(true=true/\zaC/\(0:Nat)=0/\(1:Nat)=1/\(0:Nat)=0/\q17=t'.fst/\cap=t'.snd.2)/\True)/\(q6/\(1:Nat)=1/\cap=t'.snd.2/\t'.fst <= q17/\∀(i:Nat),
 let q20:List AV:=[AV.int .i64 (numA x (24+2*(i:Int)) 2)];
 let q21:Nat:=0+(i-t.1); i<t'.fst->(if i<t.1 then q20 else [AV.int .i64 (if q21=0*1 / 1 then IntKind.i64.wrap (↑(getN x_6.1 x_6.2.1 x_6.2.2):Int) else 0)])=q20)/\True)/\Exx (List Nat×Int×Int) fun x_6 =>
 let q25:Prop:=(0:Nat)+(1:Nat) <= (1:Nat)/\true=true/\(t.1 <= t.1/\t.2.2=t.2.2)/\(q17 <= 9223372036854775807/\q17*8 <= 140737488355328)/\∀(cap:Nat),q17 <= cap/\cap <= 9223372036854775807->I64 q18/\Exx (Nat×Nat×Nat) fun t'=>(I t'/\m t'<m t)/\Tr 2 (q1/\Tr 2 (q10/\(true=true/\zaC/\(0:Nat)=0/\(1:Nat)=1/\(0:Nat)=0/\(56:Nat)=56/\t.2.1=t'.snd.1)/\Tr 1 (q1/\Tr 31 (q10/\Tr 1 (q18=(↑t'.fst:Int))/\Tr 31 True))))/\true=true/\(q5/\q2)/\(q3/\(1:Nat)=1/\t.2.1=t'.snd.1/\(56:Nat) <= (56:Nat)/\∀(i:Nat),
 let q22:List AV:=[AV.int .u8 (↑((List.drop 8 x).getD i 0):Int)]; i<56->q22=q22)/\(q5/\Tr 1 ((nodeB x).e.slot=(nodeB x).e.slot)/\Tr 1 ((nodeB x).e.gen=(nodeB x).e.gen)/\Tr 1 ((nodeB x).e.key=(nodeB x).e.key)/\Tr 1 ((nodeB x).e.value=(nodeB x).e.value)/\(true=true/\zaC/\(0:Nat)=0/\(1:Nat)=1/\(0:Nat)=0/\q17=t'.fst/\cap=t'.snd.2)/\True)/\(q6/\(1:Nat)=1/\cap=t'.snd.2/\t'.fst <= q17/\∀(i:Nat),
 let q23:List AV:=[AV.int .i64 (numA x (24+2*(i:Int)) 2)];
 let q24:Nat:=0+(i-t.1); i<t'.fst->(if i<t.1 then q23 else [AV.int .i64 (if q24=0*1 / 1 then IntKind.i64.wrap (↑(getN x_6.1 x_6.2.1 x_6.2.2):Int) else 0)])=q23)/\True; (((q4/\56=x_6.1.length/\∀(i:Nat),i<x_6.1.length->[AV.int .u8 (↑((List.drop 8 x).getD (0+i) 0):Int)]=[AV.int .u8 (↑(x_6.1.getD i 0):Int)])/\Tr 1 (q16=x_6.2.1)/\Tr 1 ((2:Int)=x_6.2.2)/\True)/\true=true/\True)/\(Oct x_6.1/\I64 x_6.2.1/\I64 x_6.2.2)/\∀(y:Unit),True->q25/\q25) (I64 q11/\I64 q12/\Exx NodeT fun x_6=>(((Tr 1 ((nodeB x).e.slot=x_6.e.slot)/\Tr 1 ((nodeB x).e.gen=x_6.e.gen)/\Tr 1 ((nodeB x).e.key=x_6.e.key)/\Tr 1 ((nodeB x).e.value=x_6.e.value)/\(0+t.1 <= t.1/\t.1=x_6.kids.length/\∀(i:Nat),i<x_6.kids.length->[AV.int .i64 (numA x (24+2*(↑(0+i):Int)) 2)]=[AV.int .i64 (x_6.kids.getD i 0)])/\True)/\True)/\true=true/\True)/\zd1 x_6/\∀(y:Unit),True->BC (!decide (zbJ x_6)) q8 (I64 q13/\Exx (List Nat×Int×Int) fun x_7=>(((q4/\56=x_7.1.length/\∀(i:Nat),i<x_7.1.length->[AV.int .u8 (↑((List.drop 8 x).getD (0+i) 0):Int)]=[AV.int .u8 (↑(x_7.1.getD i 0):Int)])/\Tr 1 (q12=x_7.2.1)/\Tr 1 (q13=x_7.2.2)/\True)/\true=true/\True)/\(Oct x_7.1/\I64 x_7.2.1/\I64 x_7.2.2)/\∀(y:Unit),True->BC (!zdP x_7.1 x_7.2.1 x_7.2.2) q8 (Exx Nat fun y=>((((Tr 1 ((nodeB x).e.slot=(getNodeT x).e.slot)/\Tr 1 ((nodeB x).e.gen=(getNodeT x).e.gen)/\Tr 1 ((nodeB x).e.key=(getNodeT x).e.key)/\Tr 1 ((nodeB x).e.value=(getNodeT x).e.value)/\(true=true/\zaC/\(0:Nat)=0/\(1:Nat)=1/\(0:Nat)=0/\t.1=(getNodeT x).kids.length/\t.2.2=y)/\True)/\true=decide (zcI x)/\True)/\True)/\true=true/\(q6/\(1:Nat)=1/\t.2.2=y/\(getNodeT x).kids.length <= t.1/\∀(i:Nat),i<(getNodeT x).kids.length->[AV.int .i64 (numA x (24+2*(i:Int)) 2)]=[AV.int .i64 ((getNodeT x).kids.getD i 0)])/\True)/\(getNodeT x).kids.length <= y/\y <= 9223372036854775807)))))))=(zcA tb [(121,zaA qkF),(122,zaA qbJ),(123,zaA zhH),(124,zaA zmA)] Tryz.f86 zmI (fun x=>{ loops:=[(6,qlP x)],loose:=[(8,[2,3,4])] }) (fun _ av _=>qm9 av) (fun _=>[]) (fun _ _ _ _=>[])):=by kernel_rfl

theorem qgX:SpecOk Tryz.prog 86 (zaA zmI):=by
 refine za0 zaM zaL (SPok.cons qbG (SPok.cons qkJ (SPok.cons zoR (SPok.cons znP SPok.nil)))) Tryz.func86 (by decide) (zo6 fun _ _ _=>⟨⟨rfl,rfl,rfl,rfl,rfl,trivial⟩,rfl,trivial⟩) (Eq.mp qqC ?_)
 simp (maxSteps:=10000000) only [std,stdU,stdV,Exx,I64,Nat.reduceMul,Nat.reduceDiv,Nat.reduceAdd,Int.reduceToNat]
 rintro b ⟨hb,hl⟩
 refine ⟨⟨hb,hl⟩,fun y hy=>?_⟩
 have hno:¬zcI b->(0=(getNodeT b).e.slot/\0=(getNodeT b).e.gen/\0=(getNodeT b).e.key/\0=(getNodeT b).e.value/\(getNodeT b).kids.length=0/\false=decide (zcI b)/\(getNodeT b).kids.length=0/\(getNodeT b).kids.length <= 0/\(0:Nat) <= 9223372036854775807):=fun h=>by
  rw [getNodeT,if_neg h]; exact ⟨rfl,rfl,rfl,rfl,rfl,(decide_eq_false h).symm,rfl,Nat.le_refl _,by omega⟩
 refine ⟨fun h=>hno (fun k=>h k.1),fun hr=>⟨fun h=>hno (fun k=>h (by rw [ze0,if_pos hr,k.2.1]; rfl)),fun hk=>⟨fun h=>hno (fun k=>by have:=k.2.2.1; rw [tagN,if_pos hr] at h; omega),fun ht=>?_⟩⟩⟩
 have h64:=hr.1
 have hB:zbC b=b.drop 8:=if_pos hr
 have hK:b.getD 4 0=1:=by rw [ze0,if_pos hr] at hk; omega
 have hT:tagN b=b.getD 5 0:=if_pos hr
 have hT2:b.getD 5 0 <= 12:=by rw [hT] at ht; omega
 have hlen:(b.drop 8).length=56:=by rw [List.length_drop]; omega
 have hob:Oct (b.drop 8):=⟨fun x hx=>hb x (List.mem_of_mem_drop hx),by omega⟩
 rw [hB] at hy ⊢
 rw [hT]
 refine ⟨hob,by omega,by omega,by omega,by omega,hob,by omega,by omega,by omega,by omega,hob,by omega,by omega,by omega,by omega,hob,by omega,by omega,by omega,by omega,?_⟩
 refine ⟨fun s=>s.1 <= b.getD 5 0/\s.1 <= s.2.2/\s.2.2 <= 9223372036854775807,⟨0,y,0,⟨by omega,by omega,by simp⟩,rfl,hlen,rfl,rfl,rfl,rfl,by omega,fun _ _=>rfl,rfl,rfl,rfl,rfl,rfl,rfl,rfl,rfl⟩,fun s=>b.getD 5 0-s.1,fun a c d hac=>⟨fun hlt=>?_,fun hge=>?_⟩⟩
 ·obtain ⟨q1,q2,q3⟩:=hac
  simp only at q1 q2 q3
  have hcap:∀cap:Nat,a+1 <= cap/\cap <= 9223372036854775807->-9223372036854775808 <= (a:Int)+1/\(a:Int)+1 <= 9223372036854775807/\∃a_6 a_7 b_1,(fun s:Nat×Nat×Nat=>s.1 <= b.getD 5 0/\s.1 <= s.2.2/\s.2.2 <= 9223372036854775807) (a_6,a_7,b_1)/\(fun s:Nat×Nat×Nat=>b.getD 5 0-s.1) (a_6,a_7,b_1)<(fun s:Nat×Nat×Nat=>b.getD 5 0-s.1) (a,c,d)/\c=a_7/\(a:Int)+1=(a_6:Int)/\c=a_7/\a+1=a_6/\cap=b_1/\cap=b_1/\a_6 <= a+1/\∀(i:Nat),i<a_6->(if i<a then [i64 (numA b (24+2*(i:Nat)) 2)] else if i-a=0 then [i64 (IntKind.i64.wrap ((getN (b.drop 8) (24+2*(a:Nat)) 2:Nat):Int))] else [i64 0])=[i64 (numA b (24+2*(i:Nat)) 2)]:=fun cap hc =>
   ⟨by omega,by omega,a+1,c,cap,⟨by simp only; omega,hc.1,hc.2⟩,by simp only; omega,rfl,by omega,rfl,rfl,rfl,rfl,Nat.le_refl _,fun i hi=>by
    by_cases e:i<a
    ·rw [if_pos e]
    ·have e2:i=a:=by omega
     subst e2
     rw [if_neg e,if_pos (by omega)]; rfl⟩
  refine ⟨by omega,by omega,by omega,by omega,⟨b.drop 8,hlen.symm,fun _ _=>rfl,hob,by omega,by omega,by omega,by omega,by omega,by omega,hcap⟩,b.drop 8,hlen.symm,fun _ _=>rfl,hob,by omega,by omega,by omega,by omega,by omega,by omega,hcap,by omega,by omega,hcap⟩
 ·obtain ⟨q1,q2,q3⟩:=hac
  simp only at q1 q2 q3
  have ha:a=b.getD 5 0:=by omega
  have hkl:(nodeB b).kids.length=b.getD 5 0:=by simp only [nodeB,zdU]
  refine ⟨by omega,by omega,by omega,by omega,nodeB b,rfl,rfl,rfl,rfl,by rw [hkl,ha],fun i hi=>?_,(znQ b).2 (by omega),fun h=>hno (fun k=>h k.2.2.2.1),fun hok=>?_⟩
  ·rw [hkl] at hi
   simp only [nodeB]; rw [zhL b hi]
  ·have e56:((56:Nat):Int)-(24+2*((b.getD 5 0:Nat):Int))=32-2*((b.getD 5 0:Nat):Int):=by omega
   rw [e56]
   refine ⟨by omega,by omega,b.drop 8,hlen.symm,fun _ _=>rfl,hob,by omega,by omega,by omega,by omega,fun h=>hno (fun k=>by rw [k.2.2.2.2] at h; cases h),fun h=>?_⟩
   have hN:zcI b:=⟨hr,hK,hT2,hok,h⟩
   rw [getNodeT,if_pos hN,hkl]
   exact ⟨rfl,rfl,rfl,rfl,ha,(decide_eq_true hN).symm,by omega,fun i hi=>by simp only [nodeB]; rw [zhL b hi],by omega,q3⟩


theorem qbM {a b c d:Int} {k:List Int} {p:NodeT->Prop}:(∃n:NodeT,a=n.e.slot/\b=n.e.gen/\c=n.e.key/\d=n.e.value/\k=n.kids/\p n) ↔ p ⟨⟨a,b,c,d⟩,k⟩ :=
 ⟨fun ⟨n,h1,h2,h3,h4,h5,q⟩=>by
  obtain ⟨⟨_,_,_,_⟩,_⟩:=n
  simp only at h1 h2 h3 h4 h5
  subst h1; subst h2; subst h3; subst h4; subst h5; exact q,fun q=>⟨_,rfl,rfl,rfl,rfl,rfl,q⟩⟩
theorem zvN {n:NodeT}:(⟨⟨n.e.slot,n.e.gen,n.e.key,n.e.value⟩,n.kids⟩:NodeT)=n:=rfl
theorem zdX {l:List Nat} {a n m:Nat}:(l.drop a).take n++(l.drop (a+n)).take m=(l.drop a).take (n+m):=by
 rw [<- List.drop_drop,List.take_add]
theorem qdF {l:List Nat} {n m:Nat}:l.take n++(l.drop n).take m=l.take (n+m):=by rw [List.take_add]
theorem qf0 {b:List Nat} (h:zb0 b):zbS (b.getD 4 0) (b.getD 5 0) (b.drop 8)=b.drop 4:=by
 have h64:=h.1
 have hn:=h.2.2.1
 have hh:hasB b.length 6 2:=⟨by omega,by omega,by omega⟩
 rw [zdP,decide_eq_true hh,Bool.true_and,List.all_eq_true] at hn
 have hc:∀i,i<2->b.getD (6+i) 0=0:=fun i hi=>by
  have e:=zpL (l:=b) (a:=6) (n:=2) (i:=i) (by omega)
  have hlen:=zfZ hh
  have hm:(cut b 6 2).getD i 0∈cut b 6 2:=by
   rw [List.getD_eq_getElem?_getD,List.getElem?_eq_getElem (by rw [hlen]; omega)]; exact List.getElem_mem _
  have:=hn _ hm
  rw [e] at this
  simpa using this
 refine zbF 0 (by simp only [zbS,List.length_append,List.length_replicate,List.length_cons,List.length_nil,List.length_drop]; omega) fun i hi=>?_
 rw [List.length_drop] at hi
 rw [zbS,zaH,zaH,za4]
 by_cases e:i<4
 ·rw [if_pos (by simp only [List.length_append,List.length_cons,List.length_nil]; omega),if_pos (by simp only [List.length_cons,List.length_nil]; omega)]
  have:i=0\/i=1\/i=2\/i=3:=by omega
  rw [za4]
  rcases this with rfl | rfl | rfl | rfl
  ·rfl
  ·rfl
  ·exact (hc 0 (by omega)).symm
  ·exact (hc 1 (by omega)).symm
 ·rw [if_pos (by simp only [List.length_append,List.length_cons,List.length_nil,List.length_drop]; omega),if_neg (by simp only [List.length_cons,List.length_nil]; omega),za4]
  congr 1
  simp only [List.length_cons,List.length_nil]; omega
theorem zlT {b:List Nat} (hb:∀c∈b,c<256) (h:zb0 b):zcD (b.getD 4 0) (b.getD 5 0) (b.drop 8)=b:=by
 have hr:=qf0 h
 have hs:=h.2.2.2
 have h64:=h.1
 have h4:(b.take 4).length=4:=by rw [List.length_take]; omega
 rw [zcD,hr,hs,za8,List.take_of_length_le (by omega)]
 have:=zvT (b.take 4) fun c hc=>hb c (List.mem_of_mem_take hc)
 rw [h4] at this
 rw [this,List.take_append_drop]
theorem zuX {k t:Nat} {l b:List Nat} (h:l++List.replicate (56-l.length) 0=b) (hb:b.length=56):zcD k t l=zcD k t b:=by
 have:zbS k t l=zbS k t b:=by
  rw [zbS,zbS,List.append_assoc,h,hb]; simp
 rw [zcD,zcD,this]
theorem qfS {b:List Nat} (hb:∀c∈b,c<256) (h64:b.length=64) (h4:b.getD 4 0≠0) (h:zcD (b.getD 4 0) (b.getD 5 0) (b.drop 8)=b):zb0 b:=by
 have g4:b.getD 4 0<256:=getD_mem (p:=fun c=>c<256) hb (by decide) 4
 have g5:b.getD 5 0<256:=getD_mem (p:=fun c=>c<256) hb (by decide) 5
 have:=zhZ (k:=b.getD 4 0) (t:=b.getD 5 0) (b:=b.drop 8) (by omega) g4 g5 (fun c hc=>hb c (List.mem_of_mem_drop hc)) (by rw [List.length_drop]; omega)
 rwa [h] at this

theorem zeM {l:List Nat} {a n:Nat} (hn:1 <= n) (h8:n <= 8) (h:a+n <= l.length):getN l (a:Int) (n:Int)=numN ((l.drop a).take n):=by
 have hok:zrJ l.length (a:Int) (n:Int):=⟨by omega,by omega,by omega,by omega,by omega⟩
 rw [getN,if_pos hok]
 rfl
theorem qe3 {x:Nat} (h:x<18446744073709551616):u64N (IntKind.i64.wrap (x:Int))=x:=by
 rw [IntKind.wrap_i64,u64N]; omega
theorem zwU {k:Int} (h:I64 k):IntKind.i64.wrap ((u64N k:Nat):Int)=k:=by
 unfold I64 at h
 rw [IntKind.wrap_i64,u64N]; omega
theorem zfE {l:List Nat} {a n:Nat} (hl:∀c∈l,c<256) (h:a+n <= l.length):layN (numN ((l.drop a).take n)) n=(l.drop a).take n:=by
 have hlen:((l.drop a).take n).length=n:=by rw [List.length_take,List.length_drop]; omega
 have:=zvT ((l.drop a).take n) fun c hc=>hl c (List.mem_of_mem_drop (List.mem_of_mem_take hc))
 rwa [hlen] at this
theorem zl7 {l:List Nat} {a n:Nat} (hl:∀c∈l,c<256) (h:a+n <= l.length):numN ((l.drop a).take n)<256 ^ n:=by
 have hlen:((l.drop a).take n).length=n:=by rw [List.length_take,List.length_drop]; omega
 have:=zk5 ((l.drop a).take n) fun c hc=>hl c (List.mem_of_mem_drop (List.mem_of_mem_take hc))
 rwa [hlen] at this
theorem zfU {b:List Nat} {a n:Nat} (hb:∀c∈b,c<256) (hn:1 <= n) (h4:n <= 4) (h:a+n <= (b.drop 8).length):numA b (a:Int) (n:Int)=((numN (((b.drop 8).drop a).take n):Nat):Int):=by
 have h1:=zl7 (l:=b.drop 8) (fun c hc=>hb c (List.mem_of_mem_drop hc)) h
 have h2:256 ^ n <= 256 ^ 4:=Nat.pow_le_pow_right (by decide) h4
 rw [numA,zeM hn (by omega) h]
 exact zbP ⟨by omega,by omega⟩
theorem qrH {b:List Nat} {a:Nat} (hb:∀c∈b,c<256) (h:a+8 <= (b.drop 8).length):u64N (numA b (a:Int) 8)=numN (((b.drop 8).drop a).take 8):=by
 have h1:=zl7 (l:=b.drop 8) (fun c hc=>hb c (List.mem_of_mem_drop hc)) h
 have e:=zeM (n:=8) (by decide) (by decide) h
 rw [numA,show ((8:Int))=((8:Nat):Int) from rfl,e]
 exact qe3 h1

theorem qkL {b:List Nat} (hb:∀c∈b,c<256) (h:zcI b):zaJ (nodeB b)=b:=by
 obtain ⟨hr,h4,h5,hok,hz⟩:=h
 have h64:=hr.1
 have hlen:(b.drop 8).length=56:=by rw [List.length_drop]; omega
 have hbd:∀c∈b.drop 8,c<256:=fun c hc=>hb c (List.mem_of_mem_drop hc)
 have hk:(nodeB b).kids.length=b.getD 5 0:=zdU _ _
 have e1:u64N (nodeB b).e.key=numN (((b.drop 8).drop 0).take 8):=qrH (a:=0) hb (by omega)
 have e2:u64N (nodeB b).e.value=numN (((b.drop 8).drop 8).take 8):=qrH (a:=8) hb (by omega)
 have e3:(nodeB b).e.slot=((numN (((b.drop 8).drop 16).take 4):Nat):Int):=zfU (a:=16) (n:=4) hb (by decide) (by decide) (by omega)
 have e4:(nodeB b).e.gen=((numN (((b.drop 8).drop 20).take 4):Nat):Int):=zfU (a:=20) (n:=4) hb (by decide) (by decide) (by omega)
 have hH:zrH (nodeB b)=(b.drop 8).take 24:=by
  rw [zrH,e1,e2,e3,e4,zaD]
  simp only [List.flatMap_cons,List.flatMap_nil,List.append_nil,Int.toNat_natCast]
  rw [zfE hbd (by omega),zfE hbd (by omega),zfE hbd (by omega),zfE hbd (by omega),zdX (a:=0),List.append_assoc,zdX (a:=16)]
  exact zdX (a:=0) (n:=16)
 have hK:∀k,k <= b.getD 5 0->zq9 (nodeB b) k=((b.drop 8).drop 24).take (2*k):=fun k=>by
  induction k with
  | zero=>intro _; rfl
  | succ k ih =>
    intro hk1
    rw [zfW,ih (by omega)]
    have e5:(nodeB b).kids.getD k 0=((numN (((b.drop 8).drop (24+2*k)).take 2):Nat):Int):=by
     have:=zfU (a:=24+2*k) (n:=2) hb (by decide) (by decide) (by omega)
     rw [<- this]
     exact zhL b (by omega)
    rw [e5,Int.toNat_natCast,zfE hbd (by omega),zdX]
    rfl
 have hB:zdD (nodeB b) (b.getD 5 0)=(b.drop 8).take (24+2*b.getD 5 0):=by
  rw [zdD,hH,hK _ (Nat.le_refl _)]
  exact zdX (a:=0)
 rw [zaJ,if_pos hok,hk]
 have hp:zdD (nodeB b) (b.getD 5 0)++List.replicate (56-(zdD (nodeB b) (b.getD 5 0)).length) 0=b.drop 8:=by
  have hh:hasB (b.drop 8).length (24+2*((b.getD 5 0:Nat):Int)) (32-2*((b.getD 5 0:Nat):Int)):=⟨by omega,by omega,by omega⟩
  rw [zdP,decide_eq_true hh,Bool.true_and,List.all_eq_true] at hz
  have e:List.replicate (56-(zdD (nodeB b) (b.getD 5 0)).length) 0=(b.drop 8).drop (24+2*b.getD 5 0):=by
   rw [zcZ]
   refine (List.eq_replicate_iff.2 ⟨by rw [List.length_drop]; omega,fun c hc=>?_⟩).symm
   have:c∈cut (b.drop 8) (24+2*((b.getD 5 0:Nat):Int)) (32-2*((b.getD 5 0:Nat):Int)):=by
    rw [cut,List.take_of_length_le (by rw [List.length_drop]; omega)]
    rwa [show (24+2*((b.getD 5 0:Nat):Int)).toNat=24+2*b.getD 5 0 by omega]
   have:=hz c this
   simpa using this
  rw [e,hB,List.take_append_drop]
 rw [zuX hp hlen]
 have:=zlT hb hr
 rwa [h4] at this

theorem ztL {n:NodeT} (h:zbJ n) (hI:EntI n.e):zcI (zaJ n)/\nodeB (zaJ n)=n:=by
 obtain ⟨h1,h2,h3,h4,h5,h6⟩:=h
 have hl:=zcZ n n.kids.length
 have e0:zaJ n=zcD 1 n.kids.length (zdD n n.kids.length):=by rw [zaJ,if_pos ⟨h1,h2,h3,h4,h5,h6⟩]
 have hr:zb0 (zaJ n):=by rw [e0]; exact zhZ (by decide) (by decide) (by omega) (zmT n _) (by omega)
 have h4':(zaJ n).getD 4 0=1:=by rw [e0,znC]
 have h5':(zaJ n).getD 5 0=n.kids.length:=by rw [e0,zlU]
 have h8:(zaJ n).drop 8=zdD n n.kids.length++List.replicate (56-(zdD n n.kids.length).length) 0:=by rw [e0,zf8]
 have hlen:((zaJ n).drop 8).length=56:=by rw [h8,List.length_append,List.length_replicate]; omega
 have hlt:∀c∈zaJ n,c<256:=by rw [e0]; exact zo5 (by decide) (by omega) (zmT n _)
 have hget:∀i,i<24->((zaJ n).drop 8).getD i 0=(zrH n).getD i 0:=fun i hi=>by
  rw [h8,zaH,if_pos (by omega),zdD,zaH,if_pos (by rw [zi5]; exact hi)]
 have piece:∀(a m v:Nat),a+m <= 24->(∀j,j<m->(zrH n).getD (a+j) 0=(layN v m).getD j 0)->(((zaJ n).drop 8).drop a).take m=layN v m:=fun a m v ha hj=>by
  refine zbF 0 (by rw [List.length_take,List.length_drop,zaE]; omega) fun j hj'=>?_
  rw [zaE] at hj'
  rw [za9,if_pos hj',za4,hget _ (by omega),hj j hj']
 have o2:zaD [u64N n.e.key,u64N n.e.value]=layN (u64N n.e.key) 8++layN (u64N n.e.value) 8:=by simp [zaD]
 have hd:zrH n=layN (u64N n.e.key) 8++(layN (u64N n.e.value) 8++(layN n.e.slot.toNat 4++layN n.e.gen.toNat 4)):=by rw [zrH,o2]; simp [List.append_assoc]
 have p1:(((zaJ n).drop 8).drop 0).take 8=layN (u64N n.e.key) 8:=piece 0 8 _ (by omega) fun j hj=>by
  rw [hd,zaH,if_pos (by rw [zaE]; omega),Nat.zero_add]
 have p2:(((zaJ n).drop 8).drop 8).take 8=layN (u64N n.e.value) 8:=piece 8 8 _ (by omega) fun j hj=>by
  rw [hd,zaH,if_neg (by rw [zaE]; omega),zaE,zaH,if_pos (by rw [zaE]; omega)]; congr 1; omega
 have p3:(((zaJ n).drop 8).drop 16).take 4=layN n.e.slot.toNat 4:=piece 16 4 _ (by omega) fun j hj=>by
  rw [hd,zaH,if_neg (by rw [zaE]; omega),zaE,zaH,if_neg (by rw [zaE]; omega),zaE,zaH,if_pos (by rw [zaE]; omega)]; congr 1; omega
 have p4:(((zaJ n).drop 8).drop 20).take 4=layN n.e.gen.toNat 4:=piece 20 4 _ (by omega) fun j hj=>by
  rw [hd,zaH,if_neg (by rw [zaE]; omega),zaE,zaH,if_neg (by rw [zaE]; omega),zaE,zaH,if_neg (by rw [zaE]; omega),zaE]; congr 1; omega
 have i1:numA (zaJ n) 0 8=n.e.key:=by
  have e:=zeM (l:=(zaJ n).drop 8) (a:=0) (n:=8) (by decide) (by decide) (by omega)
  rw [numA,show (0:Int)=((0:Nat):Int) from rfl,show (8:Int)=((8:Nat):Int) from rfl,e,p1,ze7 _ _ (u64N_U _)]
  exact zwU hI.2.2.1
 have i2:numA (zaJ n) 8 8=n.e.value:=by
  have e:=zeM (l:=(zaJ n).drop 8) (a:=8) (n:=8) (by decide) (by decide) (by omega)
  rw [numA,show (8:Int)=((8:Nat):Int) from rfl,e,p2,ze7 _ _ (u64N_U _)]
  exact zwU hI.2.2.2
 have i3:numA (zaJ n) 16 4=n.e.slot:=by
  have e:=zfU (b:=zaJ n) (a:=16) (n:=4) hlt (by decide) (by decide) (by omega)
  rw [show (16:Int)=((16:Nat):Int) from rfl,show (4:Int)=((4:Nat):Int) from rfl,e,p3,ze7 _ _ (by omega)]; omega
 have i4:numA (zaJ n) 20 4=n.e.gen:=by
  have e:=zfU (b:=zaJ n) (a:=20) (n:=4) hlt (by decide) (by decide) (by omega)
  rw [show (20:Int)=((20:Nat):Int) from rfl,show (4:Int)=((4:Nat):Int) from rfl,e,p4,ze7 _ _ (by omega)]; omega
 have hkb:∀(k i j:Nat),i<k->j<2->(zq9 n k).getD (2*i+j) 0=(layN (n.kids.getD i 0).toNat 2).getD j 0:=fun k=>by
  induction k with
  | zero=>intro i j h; exact absurd h (Nat.not_lt_zero _)
  | succ k ih =>
    intro i j hi hj
    rw [zfW,zaH,zi3]
    by_cases e:i=k
    ·subst e; rw [if_neg (by omega)]; congr 1; omega
    ·rw [if_pos (by omega),ih i j (by omega) hj]
 have i5:∀i,i<n.kids.length->numA (zaJ n) (24+2*(i:Nat)) 2=n.kids.getD i 0:=fun i hi=>by
  have e:=zfU (b:=zaJ n) (a:=24+2*i) (n:=2) hlt (by decide) (by decide) (by omega)
  have ec:(24+2*(i:Int))=((24+2*i:Nat):Int):=by omega
  have hm:n.kids.getD i 0∈n.kids:=by rw [List.getD_eq_getElem?_getD,List.getElem?_eq_getElem hi]; exact List.getElem_mem hi
  have hb:=h6 _ hm
  unfold zd6 at hb
  have p5:(((zaJ n).drop 8).drop (24+2*i)).take 2=layN (n.kids.getD i 0).toNat 2:=by
   refine zbF 0 (by rw [List.length_take,List.length_drop,zaE]; omega) fun j hj'=>?_
   rw [zaE] at hj'
   rw [za9,if_pos hj',za4,h8,zaH,if_pos (by omega),zdD,zaH,zi5,if_neg (by omega),show 24+2*i+j-24=2*i+j by omega,hkb _ _ _ hi hj']
  rw [ec,show (2:Int)=((2:Nat):Int) from rfl,e,p5,ze7 _ _ (by omega)]
  omega
 have hn:nodeB (zaJ n)=n:=by
  have hkids:ztX (zaJ n) n.kids.length=n.kids:=zbF 0 (zdU _ _) fun i hi=>by
   rw [zhL _ hi,i5 i hi]
  rw [nodeB,h5',hkids,i1,i2,i3,i4]
 refine ⟨⟨hr,h4',by omega,by rw [hn]; exact ⟨h1,h2,h3,h4,h5,h6⟩,?_⟩,hn⟩
 rw [h5',zdP,decide_eq_true (show hasB _ _ _ from ⟨by omega,by omega,by omega⟩),Bool.true_and,List.all_eq_true]
 intro c hc
 have e:cut ((zaJ n).drop 8) (24+2*(n.kids.length:Int)) (32-2*(n.kids.length:Int))=List.replicate (32-2*n.kids.length) 0:=by
  rw [cut,h8,show (24+2*(n.kids.length:Int)).toNat=24+2*n.kids.length by omega,List.drop_append_of_le_length (by omega),List.drop_of_length_le (by omega),List.nil_append,List.take_of_length_le (by rw [List.length_replicate]; omega)]
  congr 1; omega
 rw [e] at hc
 have:=(List.mem_replicate.1 hc).2
 simp [this]
theorem zcW (n:NodeT):Oct (zaJ n):=by
 unfold zaJ
 split
 ·rename_i h
  have hl:=zcZ n n.kids.length
  have h5:=h.2.2.2.2.1
  exact ⟨zo5 (by decide) (by omega) (zmT n _),by rw [zdL (by omega)]; omega⟩
 ·exact ⟨by simp,by simp⟩

theorem qqJ {b:List Nat} (hb:∀c∈b,c<256) (h:zgF b):putFanL (zd0 b)=b:=by
 obtain ⟨hr,h4,h5,hz,hok⟩:=h
 have h64:=hr.1
 have hlen:(b.drop 8).length=56:=by rw [List.length_drop]; omega
 have hbd:∀c∈b.drop 8,c<256:=fun c hc=>hb c (List.mem_of_mem_drop hc)
 have hK:∀k,k <= 16->kidsL (zd0 b) k=(b.drop 8).take (2*k):=fun k=>by
  induction k with
  | zero=>intro _; rfl
  | succ k ih =>
    intro hk1
    have e5:(zd0 b k).toNat=numN (((b.drop 8).drop (2*k)).take 2):=by rw [zd0,List.drop_drop,Int.toNat_natCast]
    rw [ze1,ih (by omega),e5,zfE hbd (by omega),qdF]; rfl
 have hp:kidsL (zd0 b) 16++List.replicate (56-(kidsL (zd0 b) 16).length) 0=b.drop 8:=by
  have hh:hasB (b.drop 8).length 32 24:=⟨by omega,by omega,by omega⟩
  rw [zdP,decide_eq_true hh,Bool.true_and,List.all_eq_true] at hz
  have e:List.replicate (56-(kidsL (zd0 b) 16).length) 0=(b.drop 8).drop 32:=by
   rw [zb1]
   refine (List.eq_replicate_iff.2 ⟨by rw [List.length_drop]; omega,fun c hc=>?_⟩).symm
   have:c∈cut (b.drop 8) 32 24:=by
    rw [cut,List.take_of_length_le (by rw [List.length_drop]; omega)]; exact hc
   simpa using hz c this
  rw [e,hK 16 (Nat.le_refl _),List.take_append_drop]
 rw [putFanL,if_pos hok,zuX hp hlen]
 have:=zlT hb hr
 rwa [h4,h5] at this
theorem zyI (t:Nat):∀(k:Nat) (l:Nat->SeatT),(∀i,i<k->(l i).live=(t / 2 ^ i % 2 == 1))->zcM l k=t % 2 ^ k
 | 0,_,_=>by rw [zcM]; omega
 | k+1,l,h=>by
   rw [zcM,zyI t k l fun i hi=>h i (by omega),h k (by omega),Nat.pow_succ,Nat.mod_mul]
   have:t / 2 ^ k % 2<2:=Nat.mod_lt _ (by decide)
   by_cases e:t / 2 ^ k % 2=1
   ·rw [if_pos (by simp [e]),e]; omega
   ·rw [if_neg (by simp [e]),show t / 2 ^ k % 2=0 by omega]; omega
theorem qk4 {b:List Nat} (hb:∀c∈b,c<256) (h:zdB b):zaU (za1 b)=b:=by
 obtain ⟨hr,h4,h5,hok⟩:=h
 have h64:=hr.1
 have hlen:(b.drop 8).length=56:=by rw [List.length_drop]; omega
 have hbd:∀c∈b.drop 8,c<256:=fun c hc=>hb c (List.mem_of_mem_drop hc)
 have hK:∀k,k <= 7->zbT (za1 b) k=(b.drop 8).take (8*k):=fun k=>by
  induction k with
  | zero=>intro _; rfl
  | succ k ih =>
    intro hk1
    have e5:(za1 b k).gen.toNat=numN (((b.drop 8).drop (8*k)).take 4):=by simp only [za1]; rw [List.drop_drop,Int.toNat_natCast]
    have e6:(za1 b k).next.toNat=numN (((b.drop 8).drop (8*k+4)).take 4):=by simp only [za1]; rw [List.drop_drop,Int.toNat_natCast,show 8+(8*k+4)=12+8*k by omega]
    rw [zdK,ih (by omega),e5,e6,zfE hbd (by omega),zfE hbd (by omega),zdX,qdF]; rfl
 have hp:zbT (za1 b) 7++List.replicate (56-(zbT (za1 b) 7).length) 0=b.drop 8:=by
  rw [hK 7 (Nat.le_refl _),List.take_of_length_le (by omega),hlen]; simp
 have hlv:zcM (za1 b) 7=b.getD 5 0:=by
  rw [zyI (b.getD 5 0) 7 (za1 b) fun i _=>rfl]; omega
 rw [zaU,if_pos hok,hlv,zuX hp hlen]
 have:=zlT hb hr
 rwa [h4] at this

end Yard
