import Derived.Test.YtlihikockhjodaaGreatDoorShadow
import Derived.Test.YtlihikockhjodaaGreatDoorCrc

namespace Yard
open Go Go.Sx Go.Proofs
set_option linter.unusedVariables false
set_option linter.unusedSimpArgs false
set_option maxRecDepth 4000

def zbS (kind tag:Nat) (body:List Nat):List Nat:=[kind,tag,0,0]++body++List.replicate (56-body.length) 0
def zgO (kind tag:Int) (body:List Nat):Prop:=1 <= kind/\kind<256/\0 <= tag/\tag<256/\body.length <= 56
instance (kind tag:Int) (body:List Nat):Decidable (zgO kind tag body):=by unfold zgO; infer_instance
def zcD (kind tag:Nat) (body:List Nat):List Nat:=layN (sumN [zbS kind tag body]) 4++zbS kind tag body
def zkI (kind tag:Int) (body:List Nat):List Nat:=if zgO kind tag body then zcD kind.toNat tag.toNat body else []
def qjC:Ctr:=rowC (Int×Int×List Nat) (fun x=>I64 x.1/\I64 x.2.1/\Oct x.2.2) (fun x=>[i64 x.1,i64 x.2.1,octA x.2.2]) 5 .u8 (fun x=>zkI x.1 x.2.1 x.2.2) (fun x r => .tup [r,.bool (decide (zgO x.1 x.2.1 x.2.2))])
def zb0 (b:List Nat):Prop:=b.length=64/\b.getD 4 0≠0/\zdP b 6 2=true/\sumN [b.drop 4]=za8 (b.take 4)
instance (b:List Nat):Decidable (zb0 b):=by unfold zb0; infer_instance
def qjH:Ctr:=zbN (List Nat) Oct (fun b=>[octA b]) (fun b => .bool (decide (zb0 b)))
def ze0 (b:List Nat):Nat:=if zb0 b then b.getD 4 0 else 0
def tagN (b:List Nat):Nat:=if zb0 b then b.getD 5 0 else 0
def zbC (b:List Nat):List Nat:=if zb0 b then b.drop 8 else []
def qkF:Ctr:=rowC (List Nat) Oct (fun b=>[octA b]) 5 .u8 zbC (fun b r => .tup [i64 (ze0 b:Nat),i64 (tagN b:Nat),r,.bool (decide (zb0 b))])
def qcV:Ctr:=rowC (List Nat) Oct (fun b=>[octA b]) 5 .u8 (fun b=>b) (fun _ r=>r)

theorem bcloneV:(∀(x:List Nat),
 let q1:Nat:=0+x.length; Oct x->∀(b:Bool),(x.length≠0->b=false)->BC b (Exx Nat fun y=>(((x.length=0/\y=0)/\True)/\true=true/\(y=0/\x.length=0)/\True)/\x.length <= y) (true=true/\(0 <= 0/\0=0)/\(q1 <= 9223372036854775807/\q1*1 <= 140737488355328)/\∀(cap:Nat),q1 <= cap/\cap <= 9223372036854775807->Exx Nat fun y=>(((true=true/\zaC/\0=0/\1=1/\0=0/\q1=x.length/\cap=y)/\True)/\true=true/\((5:TypeId)=5/\1=1/\cap=y/\x.length <= q1/\∀(i:Nat),i<x.length->(if i<0 then [] else [AV.int .u8 (↑(x.getD (i-0) 0):Int)])=[AV.int .u8 (↑(x.getD i 0):Int)])/\True)/\x.length <= y))=(fnVC tb [] Tryz.f161 qcV (fun _=>{}) (fun _=>none)):=by kernel_rfl

theorem qm4:SpecOk Tryz.prog 161 (zaA qcV):=by
 refine zaK zaM zaL SPok.nil Tryz.func161 (by decide) (zgW fun _ _ _=>rfl) (Eq.mp bcloneV ?_)
 simp (maxSteps:=10000000) only [std,stdU,stdV,Exx,I64,Nat.reduceMul,Nat.reduceDiv,Nat.reduceAdd,Int.reduceToNat]
 rintro b ⟨hb,hl⟩ c
 exact fun h=>⟨fun k=>by have:=h; cases c <;> simp_all,fun k=>⟨by omega,by omega,fun cap hc=>hc.1⟩⟩

theorem zjZ {l:List Nat} {n:Nat} (h:n <= 8):za8 (l.take n)=numN (l.take n):=by
 rw [za8,List.take_take,Nat.min_eq_right h]
theorem numN4 {l:List Nat} (h:∀c∈l,c<256):numN (l.take 4)<4294967296:=by
 have h1:=zk5 (l.take 4) fun c hc=>h c (List.mem_of_mem_take hc)
 have h2:256 ^ (l.take 4).length <= 256 ^ 4:=Nat.pow_le_pow_right (by decide) (by rw [List.length_take]; omega)
 omega

theorem rightV:(
 let q1:Nat:=0*1 / 1; ∀(x:List Nat),
 let q2:Int:=(↑(x.getD (Int.toNat 4) 0):Int);
 let q3:List AV:=[AV.ro 1 (x.length-Int.toNat 4) fun i=>[AV.int .u8 (↑(x.getD (Int.toNat 4+i) 0):Int)]];
 let q5:Prop:=Exx (List Nat) fun x_1=>(((Int.toNat 4-0=x_1.length/\∀(i:Nat),i<x_1.length->[AV.int .u8 (↑(x.getD (0+i) 0):Int)]=[AV.int .u8 (↑(x_1.getD i 0):Int)])/\True)/\true=true/\True)/\Oct x_1/\∀(y:Unit),True->∀(m:Int),m=IntKind.u32.wrap (↑(za8 x_1):Int)->Exx (Nat×List (List Nat)) fun x_2=>((Tr 1 (m=(x_2.1:Int))/\(0+1 <= 1/\1=x_2.2.length/\∀(i:Nat),
 let q4:Nat:=0+i; i<x_2.2.length->zq4 q4 q1 q3 [AV.nils] (zoS q4 q1 q3 [AV.nils])=[AV.ro 1 (x_2.2.getD i []).length fun i_1=>[AV.int .u8 (↑((x_2.2.getD i []).getD i_1 0):Int)]])/\True)/\true=true/\True)/\(x_2.1<4294967296/\zjM x_2.2)/\∀(y:Unit),True->Exx Unit fun y=>((decide (sumN x_2.2=x_2.1)=decide (zb0 x)/\True)/\true=true/\True)/\True;
 let q6:Prop:=Exx Unit fun y=>((false=decide (zb0 x)/\True)/\true=true/\True)/\True; Oct x->BC (decide ((x.length:Int)=(64:Int))) (((0:Int) <= (4:Int)/\4<(x.length:Int))/\BC (!decide (q2=(0:Int))) (Exx (List Nat×Int×Int) fun x_1=>(((x.length=x_1.1.length/\∀(i:Nat),i<x_1.1.length->[AV.int .u8 (↑(x.getD i 0):Int)]=[AV.int .u8 (↑(x_1.1.getD i 0):Int)])/\Tr 1 ((6:Int)=x_1.2.1)/\Tr 1 ((2:Int)=x_1.2.2)/\True)/\true=true/\True)/\(Oct x_1.1/\I64 x_1.2.1/\I64 x_1.2.2)/\∀(y:Unit),True->BC (zdP x_1.1 x_1.2.1 x_1.2.2) ((0:Int) <= (4:Int)/\(0 <= (4:Int).toNat/\Int.toNat 4 <= x.length)/\(0:Int) <= (4:Int)/\(Int.toNat 4 <= x.length/\x.length <= x.length)/\q5/\q5) q6) q6) q6)=(fnVC tb [(124,zaA zmA),(157,zaA qa3),(188,zaA zuM)] Tryz.f160 qjH (fun _=>{}) (fun _=>none)):=by kernel_rfl

theorem qo2:SpecOk Tryz.prog 160 (zaA qjH):=by
 refine zaK zaM zaL (SPok.cons znP (SPok.cons zqO (SPok.cons qfF SPok.nil))) Tryz.func160 (by decide) (zaO fun _=>rfl) (Eq.mp rightV ?_)
 simp (maxSteps:=10000000) only [std,stdU,stdV,Exx,I64,Nat.reduceMul,Nat.reduceDiv,Nat.reduceAdd,Int.reduceToNat]
 rintro b ⟨hb,hl⟩
 have hno:¬zb0 b->false=decide (zb0 b):=fun h=>(decide_eq_false h).symm
 refine ⟨fun h64=>⟨by omega,by omega,fun h4=>⟨⟨hb,hl⟩,by omega,by omega,by omega,by omega,fun h6=>?_,fun h6=>hno fun k=>by rw [k.2.2.1] at h6; cases h6⟩,fun h4=>hno fun k=>k.2.1 (by omega)⟩,fun h64=>hno fun k=>h64 (by rw [k.1]; rfl)⟩
 have hp:∃x:List Nat,4=x.length/\(∀i,i<x.length->[AV.int IntKind.u8 ((b.getD i 0:Nat):Int)]=[AV.int IntKind.u8 ((x.getD i 0:Nat):Int)])/\Oct x/\∃a:Nat,IntKind.u32.wrap ((za8 x:Nat):Int)=(a:Int)/\∃x:List (List Nat),1=x.length/\(∀i,i<x.length->(if i=0 then [AV.ro 1 (b.length-4) fun i=>[AV.int IntKind.u8 ((b.getD (4+i) 0:Nat):Int)]] else [AV.nils])=[AV.ro 1 (x.getD i []).length fun j=>[AV.int IntKind.u8 (((x.getD i []).getD j 0:Nat):Int)]])/\a<4294967296/\zjM x/\decide (sumN x=a)=decide (zb0 b):=by
  have hn:za8 (b.take 4)<4294967296:=by rw [zjZ (by decide)]; exact numN4 hb
  refine ⟨b.take 4,by rw [List.length_take]; omega,fun i hi=>by rw [za9,if_pos (by rw [List.length_take] at hi; omega)],⟨fun x hx=>hb x (List.mem_of_mem_take hx),by rw [List.length_take]; omega⟩,za8 (b.take 4),zsX (by omega),[b.drop 4],rfl,fun i hi=>?_,hn,⟨fun l hl'=>?_,(show 1 <= 1000 by decide)⟩,?_⟩
  ·have:i=0:=by have:i<1:=hi; omega
   subst this
   show [AV.ro 1 (b.length-4) _]=[AV.ro 1 (b.drop 4).length fun j=>[AV.int IntKind.u8 (((b.drop 4).getD j 0:Nat):Int)]]
   rw [List.length_drop]
   congr 2
   funext j
   rw [za4]
  ·rw [List.mem_singleton] at hl'
   subst hl'
   exact ⟨fun c hc=>hb c (List.mem_of_mem_drop hc),by rw [List.length_drop]; omega⟩
  ·exact decide_eq_decide.2 ⟨fun e=>⟨by omega,by omega,h6,e⟩,fun k=>k.2.2.2⟩
 exact ⟨by omega,by omega,by omega,by omega,by omega,hp,hp⟩

theorem openV:(∀(x:List Nat),Oct x->Exx (List Nat) fun x_1=>(((x.length=x_1.length/\∀(i:Nat),i<x_1.length->[AV.int .u8 (↑(x.getD i 0):Int)]
 = [AV.int .u8 (↑(x_1.getD i 0):Int)])/\True)/\true=true/\True)/\Oct x_1/\∀(y:Unit),True->BC (!decide (zb0 x_1)) (Exx Nat fun y=>(((Tr 1 ((0 :
 Int)=(↑(ze0 x):Int))/\Tr 1 (0=(↑(tagN x):Int))/\((zbC x).length=0/\y=0)/\false=decide (zb0 x)/\True)/\True)/\true=true /\
 (y=0/\(zbC x).length=0)/\True)/\(zbC x).length <= y) (((0:Int) <= (4:Int)/\4<(x.length:Int))/\∀(m:Int),m=IntKind.i64.wrap
 (↑(x.getD (Int.toNat 4) 0):Int)->((0:Int) <= (5:Int)/\5<(x.length:Int))/\∀(m_1:Int),m_1=IntKind.i64.wrap (↑(x.getD (Int.toNat 5) 0) :
 Int)->(0:Int) <= (8:Int)/\(Int.toNat 8 <= x.length/\x.length <= x.length)/\Exx (List Nat) fun x_2=>(((x.length-Int.toNat 8=x_2.length/\∀(i:Nat),
 i<x_2.length->[AV.int .u8 (↑(x.getD (Int.toNat 8+i) 0):Int)]=[AV.int .u8 (↑(x_2.getD i 0):Int)])/\True)/\true=true/\True)/\Oct x_2/\∀(y :
 Nat),x_2.length <= y->Exx Nat fun y_1=>(((Tr 1 (m=(↑(ze0 x):Int))/\Tr 1 (m_1=(↑(tagN x):Int))/\(true=true/\zaC/\0=0/\1
 = 1/\0=0/\x_2.length=(zbC x).length/\y=y_1)/\true=decide (zb0 x)/\True)/\True)/\true=true/\((5:TypeId)=5/\1=1/\y
 = y_1/\(zbC x).length <= x_2.length/\∀(i:Nat),i<(zbC x).length->[AV.int .u8 (↑(x_2.getD i 0):Int)]=[AV.int .u8 (↑((zbC x).getD i 0):Int)]) /\
 True)/\(zbC x).length <= y_1))=(fnVC tb [(160,zaA qjH),(161,zaA qcV)] Tryz.f121 qkF (fun x=>{ loose:=[(3,[1])] }) (fun _=>none)):=by kernel_rfl

theorem qbG:SpecOk Tryz.prog 121 (zaA qkF):=by
 refine zaK zaM zaL (SPok.cons qo2 (SPok.cons qm4 SPok.nil)) Tryz.func121 (by decide) (zgW fun _ _ _=>⟨rfl,rfl,rfl,rfl,trivial⟩) (Eq.mp openV ?_)
 simp (maxSteps:=10000000) only [std,stdU,stdV,Exx,I64,Nat.reduceMul,Nat.reduceDiv,Nat.reduceAdd,Int.reduceToNat]
 rintro b ⟨hb,hl⟩
 refine ⟨⟨hb,hl⟩,fun hn=>?_,fun hr=>?_⟩
 ·rw [ze0,if_neg hn,tagN,if_neg hn,zbC,if_neg hn]
  exact ⟨rfl,rfl,rfl,(decide_eq_false hn).symm,rfl,Nat.le_refl _⟩
 ·have h64:=hr.1
  refine ⟨by omega,by omega,by omega,by omega,by omega,by omega,b.drop 8,by rw [List.length_drop],fun i hi=>by rw [za4],⟨fun x hx=>hb x (List.mem_of_mem_drop hx),by rw [List.length_drop]; omega⟩,fun y hy=>?_⟩
  have h4:b.getD 4 0<256:=getD_mem (p:=fun c=>c<256) hb (by decide) 4
  have h5:b.getD 5 0<256:=getD_mem (p:=fun c=>c<256) hb (by decide) 5
  rw [ze0,if_pos hr,tagN,if_pos hr,zbC,if_pos hr,zbP ⟨by omega,by omega⟩,zbP ⟨by omega,by omega⟩]
  exact ⟨rfl,rfl,rfl,(decide_eq_true hr).symm,Nat.le_refl _,fun _ _=>rfl,hy⟩

theorem sealV:(
 let q1:Nat:=0+Int.toNat 4;
 let q2:Nat:=0+Int.toNat 5;
 let q3:Prop:=(64:Int).toNat <= (64:Int).toNat;
 let q4:Nat:=0+Int.toNat 8;
 let q5:Nat:=Int.toNat 64-Int.toNat 8;
 let q6:Nat:=Int.toNat 64-Int.toNat 4; ∀(x:Int×Int×List Nat),
 let q7:List Nat:=zkI x.1 x.2.1 x.2.2;
 let q8:Nat:=q7.length;
 let q9:Prop:=q8=0;
 let q10:Bool:=decide (zgO x.1 x.2.1 x.2.2);
 let q11:Prop:=Exx Nat fun y=>((((q9/\y=0)/\false=q10/\True)/\True)/\true=true/\(y=0/\q9)/\True)/\q8 <= y;
 let q12:Int:=(x.2.2.length:Int);
 let q13:Nat:=q4+min x.2.2.length q5; I64 x.1/\I64 x.2.1/\Oct x.2.2->BC (decide (x.1<(1:Int))) q11 (BC (decide ((256:Int) <= x.1)) q11 (BC (decide (x.2.1<(0:Int))) q11 (BC (decide ((256:Int) <= x.2.1)) q11 (BC (decide ((56:Int)<q12)) q11 (((0:Int) <= (64:Int)/\(64:Int) <= (64:Int)/\(↑(1:Nat):Int)*(64:Int) <= (281474976710656:Int)/\(64:Int) <= (9223372036854775807:Int))/\∀(m:Int),m=IntKind.u8.wrap x.1->∀(m_1:Int),m_1=IntKind.u8.wrap x.2.1->((0:Int) <= (4:Int)/\4<(↑(64:Int).toNat:Int))/\q1<Int.toNat 64/\(64:Int).toNat=(64:Int).toNat/\((0:Int) <= (5:Int)/\5<(↑(64:Int).toNat:Int))/\q2<Int.toNat 64/\(64:Int).toNat=(64:Int).toNat/\(0:Int) <= (8:Int)/\((8:Int).toNat <= (64:Int).toNat/\q3)/\q13 <= Int.toNat 64/\(0:Int) <= (4:Int)/\((4:Int).toNat <= (64:Int).toNat/\q3)/\Exx (List (List Nat)) fun x_1=>(((1=1/\1=x_1.length/\1 <= [AV.sl (0+1) [] 0 1 q1 q6 q6].length/\(q1+q6 <= Int.toNat 64/\q6=(x_1.getD 0 []).length/\∀(j:Nat),j<(x_1.getD 0 []).length->(if q4 <= q1+j/\q1+j<q13 then [AV.int .u8 (↑(x.2.2.getD (q1+j-q4) 0):Int)] else [AV.int .u8 (if q1+j=q2 then m_1 else if q1+j=q1 then m else 0)])=[AV.int .u8 (↑((x_1.getD 0 []).getD j 0):Int)])/\True)/\True)/\true=true/\True)/\zjM x_1/\∀(y:Unit),True->∀(m_2:Int),m_2=IntKind.u64.wrap (↑(sumN x_1):Int)->Exx (Nat×Int) fun x_2 =>
 let q14:Nat:=0+min (layL x_2.1 x_2.2).length (Int.toNat 64);
 let q15:Nat:=0+min ((fun x=>layL x.1 x.2) x_2).length (Int.toNat 64); ((Tr 1 (m_2=(x_2.1:Int))/\Tr 1 ((4:Int)=x_2.2)/\True)/\true=true/\True)/\(U64 x_2.1/\I64 x_2.2)/\∀(y:Nat),(layL x_2.1 x_2.2).length <= y->0+(layL x_2.1 x_2.2).length <= (layL x_2.1 x_2.2).length/\q14 <= Int.toNat 64/\Exx Nat fun y=>((((true=true/\zaC/\0=0/\1=1/\0=0/\Int.toNat 64=q8/\Int.toNat 64=y)/\true=q10/\True)/\True)/\true=true/\((5:TypeId)=5/\1=1/\Int.toNat 64=y/\q8 <= Int.toNat 64/\∀(i:Nat),i<q8->(if 0 <= i/\i<q14 then [AV.int .u8 (↑((layL x_2.1 x_2.2).getD (0+(i-0)) 0):Int)] else if q4 <= i/\i<q13 then [AV.int .u8 (↑(x.2.2.getD (i-q4) 0):Int)] else [AV.int .u8 (if i=q2 then m_1 else if i=q1 then m else 0)])=[AV.int .u8 (↑(q7.getD i 0):Int)])/\True)/\q8 <= y))))))=(fnVC tb [(129,zaA layC),(167,zaA sumC)] Tryz.f130 qjC (fun _=>{}) (fun _=>none)):=by kernel_rfl

theorem qaM:SpecOk Tryz.prog 130 (zaA qjC):=by
 refine zaK zaM zaL (SPok.cons zyM (SPok.cons qq9 SPok.nil)) Tryz.func130 (by decide) (zgW fun _ _ _=>⟨rfl,rfl,trivial⟩) (Eq.mp sealV ?_)
 simp (maxSteps:=10000000) only [std,stdU,stdV,Exx,I64,Nat.reduceMul,Nat.reduceDiv,Nat.reduceAdd,Int.reduceToNat]
 rintro k t b ⟨h1,h2,h3,h4,hb,hl⟩
 have hno:¬zgO k t b->((zkI k t b).length=0/\false=decide (zgO k t b)/\(zkI k t b).length=0/\(zkI k t b).length <= 0):=fun h=>by
  rw [zkI,if_neg h]; exact ⟨rfl,(decide_eq_false h).symm,rfl,Nat.le_refl _⟩
 refine ⟨fun h=>hno (fun g=>by have:=g.1; omega),fun g1=>⟨fun h=>hno (fun g=>by have:=g.2.1; omega),fun g2=>⟨fun h=>hno (fun g=>by have:=g.2.2.1; omega),fun g3=>⟨fun h=>hno (fun g=>by have:=g.2.2.2.1; omega),fun g4=>⟨fun h=>hno (fun g=>by have:=g.2.2.2.2; omega),fun g5=>?_⟩⟩⟩⟩⟩
 have hok:zgO k t b:=⟨by omega,by omega,by omega,by omega,by omega⟩
 rw [zkI,if_pos hok,decide_eq_true hok]
 have hw:∀z:Int,0 <= z->z<256->IntKind.u8.wrap z=z:=fun z h h'=>by
  rw [show z=((z.toNat:Nat):Int) by omega,qhT]; omega
 have hlb:b.length <= 56:=by omega
 have hlen:(zbS k.toNat t.toNat b).length=60:=by simp only [zbS,List.length_append,List.length_replicate,List.length_cons,List.length_nil]; omega
 have hget:∀j,j<60->(zbS k.toNat t.toNat b).getD j 0=if 8 <= 4+j/\4+j<8+b.length then b.getD (4+j-8) 0 else if 4+j=5 then t.toNat else if 4+j=4 then k.toNat else 0:=fun j hj=>by
  rw [zbS,zaH,zaH]
  by_cases e:j<4
  ·rw [if_pos (by simp only [List.length_append,List.length_cons,List.length_nil]; omega),if_pos (by simp only [List.length_cons,List.length_nil]; omega),if_neg (by omega)]
   have:j=0\/j=1\/j=2\/j=3:=by omega
   rcases this with rfl | rfl | rfl | rfl <;> rfl
  ·by_cases e2:j<4+b.length
   ·rw [if_pos (by simp only [List.length_append,List.length_cons,List.length_nil]; omega),if_neg (by simp only [List.length_cons,List.length_nil]; omega),if_pos (by omega)]
    congr 1
    simp only [List.length_cons,List.length_nil]; omega
   ·rw [if_neg (by simp only [List.length_append,List.length_cons,List.length_nil]; omega),if_neg (by omega),if_neg (by omega),if_neg (by omega),zg2]
    split <;> rfl
 have hoct:∀c∈zbS k.toNat t.toNat b,c<256:=fun c hc=>by
  rcases List.mem_append.1 hc with h | h
  ·rcases List.mem_append.1 h with h | h
   ·simp only [List.mem_cons,List.not_mem_nil,or_false] at h; omega
   ·exact hb c h
  ·have:=(List.mem_replicate.1 h).2; omega
 have hby:zjM [zbS k.toNat t.toNat b]:=⟨fun l hl'=>by rw [List.mem_singleton] at hl'; subst hl'; exact ⟨hoct,by omega⟩,(show 1 <= 1000 by decide)⟩
 have hs:sumN [zbS k.toNat t.toNat b]<4294967296:=zkQ (zsG fun l hl'=>(hby.1 l hl').1)
 have hmin:min b.length (64-8)=b.length:=by omega
 have hl4:layL (sumN [zbS k.toNat t.toNat b]) 4=layN (sumN [zbS k.toNat t.toNat b]) 4:=znV (by omega)
 have hsl:(zcD k.toNat t.toNat b).length=64:=by rw [zcD,List.length_append,hlen,zaE]
 rw [hmin]
 refine ⟨by omega,by omega,by omega,by omega,by omega,by omega,by omega,by omega,by omega,by omega,by omega,by omega,by omega,by omega,by omega,[zbS k.toNat t.toNat b],rfl,hlen.symm,fun j hj=>?_,hby,sumN [zbS k.toNat t.toNat b],zoG (by unfold U64; omega),by unfold U64; omega,by omega,by omega,fun y hy=>?_⟩
 ·have hj':j<60:=by rw [<- hlen]; exact hj
  show _=[AV.int IntKind.u8 (((zbS k.toNat t.toNat b).getD j 0:Nat):Int)]
  rw [hget j hj',hw k (by omega) (by omega),hw t (by omega) (by omega)]
  split
  ·rfl
  ·split
   ·rw [Int.toNat_of_nonneg (by omega)]
   ·split
    ·rw [Int.toNat_of_nonneg (by omega)]
    ·rfl
 ·rw [hl4,zaE,hsl]
  refine ⟨by omega,rfl,rfl,Nat.le_refl _,fun i hi=>?_,Nat.le_refl _⟩
  rw [zcD,zaH,zaE,hw k (by omega) (by omega),hw t (by omega) (by omega)]
  by_cases e:i<4
  ·rw [if_pos (by omega),if_pos e]
  ·rw [if_neg (by omega),if_neg e,hget (i-4) (by omega),show 4+(i-4)=i by omega]
   split
   ·rfl
   ·split
    ·rw [Int.toNat_of_nonneg (by omega)]
    ·split
     ·rw [Int.toNat_of_nonneg (by omega)]
     ·rfl


structure SeatT where
 live:Bool
 gen:Int
 next:Int
deriving DecidableEq
abbrev qfQ (x:SeatT):List AV:=[.bool x.live,i64 x.gen,i64 x.next]
abbrev zxL (x:SeatT):AV := .agg (qfQ x)
def seatZ:SeatT:=⟨false,0,0⟩
def zdE (x:SeatT):Prop:=I64 x.gen/\I64 x.next
abbrev fanV (f:Nat->Int):List AV:=[.arr 1 16 (fun i=>[i64 (f i)])]
abbrev fanA (f:Nat->Int):AV := .agg (fanV f)
abbrev qgN (l:Nat->SeatT):List AV:=[.arr 3 7 (fun i=>qfQ (l i))]
abbrev qbV (l:Nat->SeatT):AV := .agg (qgN l)
def za6 (x:SeatT):Prop:=if x.live=true then 1 <= x.gen/\x.gen <= 4294967295/\2 <= x.next/\x.next <= 3071 else 0 <= x.gen/\x.gen <= 4294967295/\0 <= x.next/\x.next <= 1792/\(0<x.gen\/x.next=0)
instance (x:SeatT):Decidable (za6 x):=by unfold za6; infer_instance
def zgZ (k:Int):Prop:=k=0\/2 <= k/\k <= 3071
instance (k:Int):Decidable (zgZ k):=by unfold zgZ; infer_instance
def zeT (f:Nat->Int):Prop:=∀i,i<16->zgZ (f i)
instance (f:Nat->Int):Decidable (zeT f):=by unfold zeT; infer_instance
def zdR (l:Nat->SeatT):Prop:=∀i,i<7->za6 (l i)
instance (l:Nat->SeatT):Decidable (zdR l):=by unfold zdR; infer_instance
theorem zlS {x:SeatT} (h:za6 x):zdE x:=by
 unfold za6 at h
 split at h <;> exact ⟨⟨by omega,by omega⟩,⟨by omega,by omega⟩⟩
theorem kidOk_I {k:Int} (h:zgZ k):I64 k:=by unfold zgZ at h; exact ⟨by omega,by omega⟩

def zuI:Ctr:=zbN (Int×Int×Int) (fun x=>I64 x.1/\I64 x.2.1/\I64 x.2.2) (fun x=>[i64 x.1,i64 x.2.1,i64 x.2.2]) (fun x => .bool (decide (x.2.1 <= x.1/\x.1 <= x.2.2)))
def zhC:Ctr:=zbN SeatT zdE (fun x=>[zxL x]) (fun x => .bool (decide (za6 x)))
def zlX:Ctr:=zbN (Nat->Int) (fun f=>∀i,i<16->I64 (f i)) (fun f=>[fanA f]) (fun f => .bool (decide (zeT f)))
def zcM (l:Nat->SeatT):Nat->Nat
 | 0=>0
 | k+1=>zcM l k+if (l k).live then 2 ^ k else 0
def zbT (l:Nat->SeatT) (k:Nat):List Nat:=(List.range k).flatMap fun i=>layN (l i).gen.toNat 4++layN (l i).next.toNat 4
def zaU (l:Nat->SeatT):List Nat:=if zdR l then zcD 2 (zcM l 7) (zbT l 7) else []
def zvC:Ctr:=rowC (Nat->SeatT) (fun l=>∀i,i<7->zdE (l i)) (fun l=>[qbV l]) 5 .u8 zaU (fun l r => .tup [r,.bool (decide (zdR l))])
def kidsL (f:Nat->Int) (k:Nat):List Nat:=(List.range k).flatMap fun i=>layN (f i).toNat 2
def putFanL (f:Nat->Int):List Nat:=if zeT f then zcD 3 0 (kidsL f 16) else []
def qa7:Ctr:=rowC (Nat->Int) (fun f=>∀i,i<16->I64 (f i)) (fun f=>[fanA f]) 5 .u8 putFanL (fun f r => .tup [r,.bool (decide (zeT f))])
def za1 (b:List Nat) (i:Nat):SeatT:=⟨b.getD 5 0 / 2 ^ i % 2 == 1,(numN ((b.drop (8+8*i)).take 4):Nat),(numN ((b.drop (12+8*i)).take 4):Nat)⟩
def zd0 (b:List Nat) (i:Nat):Int:=(numN ((b.drop (8+2*i)).take 2):Nat)
def zdB (b:List Nat):Prop:=zb0 b/\b.getD 4 0=2/\b.getD 5 0<128/\zdR (za1 b)
instance (b:List Nat):Decidable (zdB b):=by unfold zdB; infer_instance
def zgF (b:List Nat):Prop:=zb0 b/\b.getD 4 0=3/\b.getD 5 0=0/\zdP (b.drop 8) 32 24=true/\zeT (zd0 b)
instance (b:List Nat):Decidable (zgF b):=by unfold zgF; infer_instance
def zaW (b:List Nat) (i:Nat):SeatT:=if zdB b then za1 b i else seatZ
def zcE (b:List Nat) (i:Nat):Int:=if zgF b then zd0 b i else 0
def zmJ:Ctr:=zbN (List Nat) Oct (fun b=>[octA b]) (fun b => .tup [qbV (zaW b),.bool (decide (zdB b))])
def zrK:Ctr:=zbN (List Nat) Oct (fun b=>[octA b]) (fun b => .tup [fanA (zcE b),.bool (decide (zgF b))])

theorem withinV:(∀(x:Int×Int×Int),
 let q1:Bool:=decide (x.2.1 <= x.1/\x.1 <= x.2.2); I64 x.1/\I64 x.2.1/\I64 x.2.2->BC (decide (x.2.1 <= x.1)) (Exx Unit fun y=>((decide (x.1 <= x.2.2)=q1/\True)/\true=true/\True)/\True) (Exx Unit fun y=>((false=q1/\True)/\true=true/\True)/\True))=(fnVC tb [] Tryz.f195 zuI (fun _=>{}) (fun _=>none)):=by kernel_rfl

theorem zwW:SpecOk Tryz.prog 195 (zaA zuI):=by
 refine zaK zaM zaL SPok.nil Tryz.func195 (by decide) (zaO fun _=>rfl) (Eq.mp withinV ?_)
 simp (maxSteps:=10000000) only [std,stdU,stdV,Exx,I64,Nat.reduceMul,Nat.reduceDiv,Nat.reduceAdd,Int.reduceToNat]
 rintro n a b ⟨h1,h2,h3⟩
 exact ⟨fun h=>decide_eq_decide.2 (by omega),fun h=>(decide_eq_false (by omega)).symm⟩

theorem qfX:(∀(x:SeatT),
 let q1:Prop:=Exx Unit fun y=>((false=decide (za6 x)/\True)/\true=true/\True)/\True; zdE x->BC x.live (Exx (Int×Int×Int) fun x_1=>((Tr 1 (x.gen=x_1.1)/\Tr 1 ((1:Int)=x_1.2.1)/\Tr 1 ((4294967295:Int)=x_1.2.2)/\True)/\true=true/\True)/\(I64 x_1.1/\I64 x_1.2.1/\I64 x_1.2.2)/\∀(y:Unit),True->BC (decide (x_1.2.1 <= x_1.1/\x_1.1 <= x_1.2.2)) (Exx (Int×Int×Int) fun x_2=>((Tr 1 (x.next=x_2.1)/\Tr 1 ((2:Int)=x_2.2.1)/\Tr 1 ((3071:Int)=x_2.2.2)/\True)/\true=true/\True)/\(I64 x_2.1/\I64 x_2.2.1/\I64 x_2.2.2)/\∀(y:Unit),True->Exx Unit fun y=>((decide (x_2.2.1 <= x_2.1/\x_2.1 <= x_2.2.2)=decide (za6 x)/\True)/\true=true/\True)/\True) q1) (Exx (Int×Int×Int) fun x_1=>((Tr 1 (x.gen=x_1.1)/\Tr 1 ((0:Int)=x_1.2.1)/\Tr 1 ((4294967295:Int)=x_1.2.2)/\True)/\true=true/\True)/\(I64 x_1.1/\I64 x_1.2.1/\I64 x_1.2.2)/\∀(y:Unit),True->BC (decide (x_1.2.1 <= x_1.1/\x_1.1 <= x_1.2.2)) (Exx (Int×Int×Int) fun x_2=>((Tr 1 (x.next=x_2.1)/\Tr 1 ((0:Int)=x_2.2.1)/\Tr 1 ((1792:Int)=x_2.2.2)/\True)/\true=true/\True)/\(I64 x_2.1/\I64 x_2.2.1/\I64 x_2.2.2)/\∀(y:Unit),True->BC (decide (x_2.2.1 <= x_2.1/\x_2.1 <= x_2.2.2)) (BC (decide ((0:Int)<x.gen)) (Exx Unit fun y=>((true=decide (za6 x)/\True)/\true=true/\True)/\True) (Exx Unit fun y=>((decide (x.next=(0:Int))=decide (za6 x)/\True)/\true=true/\True)/\True)) q1) q1))=(fnVC tb [(195,zaA zuI)] Tryz.f170 zhC (fun _=>{}) (fun _=>none)):=by kernel_rfl

theorem ziU:SpecOk Tryz.prog 170 (zaA zhC):=by
 refine zaK zaM zaL (SPok.cons zwW SPok.nil) Tryz.func170 (by decide) (zaO fun _=>rfl) (Eq.mp qfX ?_)
 simp (maxSteps:=10000000) only [std,stdU,stdV,Exx,I64,Nat.reduceMul,Nat.reduceDiv,Nat.reduceAdd,Int.reduceToNat]
 rintro ⟨l,g,n⟩ ⟨⟨h1,h2⟩,h3,h4⟩
 dsimp only at *
 cases l
 ·have e:za6 ⟨false,g,n⟩ ↔ (0 <= g/\g <= 4294967295/\0 <= n/\n <= 1792/\(0<g\/n=0)):=by simp [za6]
  exact ⟨fun h=>(by cases h),fun _=>⟨h1,h2,by omega,by omega,by omega,by omega,fun hg=>⟨h3,h4,by omega,by omega,by omega,by omega,fun hn=>⟨fun hp=>(decide_eq_true (e.2 (by omega))).symm,fun hp=>decide_eq_decide.2 (by rw [e]; omega)⟩,fun hn=>(decide_eq_false (fun k=>by have:=e.1 k; omega)).symm⟩,fun hg=>(decide_eq_false (fun k=>by have:=e.1 k; omega)).symm⟩⟩
 ·have e:za6 ⟨true,g,n⟩ ↔ (1 <= g/\g <= 4294967295/\2 <= n/\n <= 3071):=by simp [za6]
  exact ⟨fun _=>⟨h1,h2,by omega,by omega,by omega,by omega,fun hg=>⟨h3,h4,by omega,by omega,by omega,by omega,decide_eq_decide.2 (by rw [e]; omega)⟩,fun hg=>(decide_eq_false (fun k=>by have:=e.1 k; omega)).symm⟩,fun h=>(by cases h)⟩

def qfY (f:Nat->Int):LA:={ T:=Nat,F:=fun i=>frm 18 [(6,fanA f),(7,i64 (i:Nat))],H:=fun i=>[.fence,.cells 184 (fanV f)] }

theorem qjG:(
 let q1:Prop:=(184:TypeId)=184; ∀(x:Nat->Int),
 let q2:Prop:=1=1/\16=16/\(∀(i:Nat),i<16->[AV.int .i64 (x i)]=[AV.int .i64 (x i)])/\True;
 let q3:Prop:=true=true/\(q1/\q2)/\True; (∀(i:Nat),i<16->I64 (x i))->Exx (Nat->Prop) fun I=>Exx (Nat->Nat) fun m=>(Exx Nat fun t=>I t/\Tr 6 (q2/\Tr 1 (0=(t:Int))/\Tr 10 True)/\true=true/\(184=(184:TypeId)/\q2)/\True)/\∀(t:Nat),
 let q4:Prop:=(t:Int)<(↑(16:Nat):Int);
 let q5:Int:=(t:Int)+1;
 let q6:Prop:=I64 q5/\Exx Nat fun t'=>(I t'/\m t'<m t)/\Tr 6 (q2/\Tr 1 (q5=(↑t':Int))/\Tr 10 True)/\q3; I t->BC (decide ((t:Int)<(16:Int))) (((0:Int) <= (t:Int)/\q4/\q4)/\BC (!decide (x (t:Int).toNat=(0:Int))) (Exx (Int×Int×Int) fun x_1=>((Tr 1 (x (t:Int).toNat=x_1.1)/\Tr 1 ((2:Int)=x_1.2.1)/\Tr 1 ((3071:Int)=x_1.2.2)/\True)/\true=true/\True)/\(I64 x_1.1/\I64 x_1.2.1/\I64 x_1.2.2)/\∀(y:Unit),True->BC (!decide (x_1.2.1 <= x_1.1/\x_1.1 <= x_1.2.2)) (Exx Unit fun y=>((false=decide (zeT x)/\True)/\true=true/\True)/\True) q6) q6) (Exx Unit fun y=>((true=decide (zeT x)/\True)/\true=true/\True)/\True))=(fnVC tb [(195,zaA zuI)] Tryz.f196 zlX (fun x=>{ loops:=[(2,qfY x)] }) (fun _=>none)):=by kernel_rfl

theorem zqG:SpecOk Tryz.prog 196 (zaA zlX):=by
 refine zaK zaM zaL (SPok.cons zwW SPok.nil) Tryz.func196 (by decide) (zaO fun _=>rfl) (Eq.mp qjG ?_)
 simp (maxSteps:=10000000) only [std,stdU,stdV,Exx,I64,Nat.reduceMul,Nat.reduceDiv,Nat.reduceAdd,Int.reduceToNat]
 rintro f hf
 refine ⟨fun i=>i <= 16/\∀j,j<i->zgZ (f j),⟨0,⟨by omega,fun j hj=>absurd hj (Nat.not_lt_zero _)⟩,rfl⟩,fun i=>16-i,fun i hi=>⟨fun hlt=>?_,fun hge=>(decide_eq_true fun j hj=>hi.2 j (by omega)).symm⟩⟩
 have hnx:zgZ (f i)->∃x,(x <= 16/\∀j,j<x->zgZ (f j))/\16-x<16-i/\(i:Int)+1=(x:Int):=fun hk=>⟨i+1,⟨by omega,fun j hj=>by
  by_cases e:j=i
  ·rw [e]; exact hk
  ·exact hi.2 j (by omega)⟩,by omega,by omega⟩
 exact ⟨by omega,by omega,by omega,fun h0=>⟨(hf i (by omega)).1,(hf i (by omega)).2,by omega,by omega,by omega,by omega,fun hn=>(decide_eq_false fun k=>by
  have:=k i (by omega); unfold zgZ at this; omega).symm,fun hy=>⟨by omega,by omega,hnx (.inr hy)⟩⟩,fun h0=>⟨by omega,by omega,hnx (.inl h0)⟩⟩

theorem or_i64 {a b:Nat} (ha:a<2 ^ 62) (hb:b<2 ^ 62):bits .or .i64 (a:Int) (b:Int)=((a ||| b:Nat):Int):=by
 unfold bits
 have e1:(BitVec.ofInt IntKind.i64.bits (a:Int)).toNat=a:=zc3 (show a<2 ^ 64 by omega)
 have e2:(BitVec.ofInt IntKind.i64.bits (b:Int)).toNat=b:=zc3 (show b<2 ^ 64 by omega)
 simp only [BitVec.toNat_or,e1,e2]
 have:=Nat.or_lt_two_pow ha hb
 exact zbP ⟨by omega,by omega⟩
theorem and_i64 {a b:Nat} (ha:a<2 ^ 62) (hb:b<2 ^ 62):bits .and .i64 (a:Int) (b:Int)=((a &&& b:Nat):Int):=by
 unfold bits
 have e1:(BitVec.ofInt IntKind.i64.bits (a:Int)).toNat=a:=zc3 (show a<2 ^ 64 by omega)
 have e2:(BitVec.ofInt IntKind.i64.bits (b:Int)).toNat=b:=zc3 (show b<2 ^ 64 by omega)
 simp only [BitVec.toNat_and,e1,e2]
 have:=Nat.and_lt_two_pow a hb
 exact zbP ⟨by omega,by omega⟩
theorem zgQ (l:Nat->SeatT):∀k,zcM l k<2 ^ k
 | 0=>Nat.one_pos
 | k+1=>by
   have:=zgQ l k
   rw [zcM,Nat.pow_succ]
   split <;> omega
theorem qk0 {l:Nat->SeatT} {a:Nat} (ha:a<7) (h:(l a).live=true):bits BinOp.or IntKind.i64 (zcM l a:Nat) (IntKind.i64.wrap (1*2 ^ min a IntKind.i64.bits))=((zcM l (a+1):Nat):Int):=by
 have h1:=zgQ l a
 have hp:(2:Nat) ^ a <= 64:=Nat.pow_le_pow_right (n:=2) (by decide) (show a <= 6 by omega)
 have hw:IntKind.i64.wrap (1*2 ^ min a IntKind.i64.bits)=((2 ^ a:Nat):Int):=by
  rw [Nat.min_eq_left (show a <= IntKind.i64.bits from (show a <= 64 by omega)),Int.one_mul,show ((2:Int) ^ a)=((2 ^ a:Nat):Int) by norm_cast]
  exact zbP ⟨by omega,by omega⟩
 rw [hw,or_i64 (by omega) (by omega)]
 have:=znL (a:=zcM l a) (b:=1) (i:=a) h1
 rw [Nat.one_mul] at this
 rw [this,zcM,if_pos h]
theorem zdK (l:Nat->SeatT) (k:Nat):zbT l (k+1)=zbT l k++(layN (l k).gen.toNat 4++layN (l k).next.toNat 4):=by
 simp only [zbT]
 rw [List.range_succ,List.flatMap_append]; simp
theorem zbE (l:Nat->SeatT):∀k,(zbT l k).length=8*k
 | 0=>rfl
 | k+1=>by rw [zdK,List.length_append,zbE l k,List.length_append,zaE,zaE]; omega
theorem ziS (l:Nat->SeatT):∀k,∀c∈zbT l k,c<256
 | 0=>fun c hc=>(by simp [zbT] at hc)
 | k+1=>fun c hc=>by
   rw [zdK] at hc
   rcases List.mem_append.1 hc with h | h
   ·exact ziS l k c h
   ·rcases List.mem_append.1 h with h | h
    ·exact zgY _ _ c h
    ·exact zgY _ _ c h
theorem ze1 (l:Nat->Int) (k:Nat):kidsL l (k+1)=kidsL l k++layN (l k).toNat 2:=by
 simp only [kidsL]
 rw [List.range_succ,List.flatMap_append]; simp
theorem zb1 (l:Nat->Int):∀k,(kidsL l k).length=2*k
 | 0=>rfl
 | k+1=>by rw [ze1,List.length_append,zb1 l k,zaE]; omega
theorem zmE (l:Nat->Int):∀k,∀c∈kidsL l k,c<256
 | 0=>fun c hc=>(by simp [kidsL] at hc)
 | k+1=>fun c hc=>by
   rw [ze1] at hc
   rcases List.mem_append.1 hc with h | h
   ·exact zmE l k c h
   ·exact zgY _ _ c h
theorem snoc1 {α:Type} {q m:List Nat} {n i:Nat} {c:Nat->α} (hn:q.length=n):(if i<n then c (q.getD i 0) else c (m.getD (i-n) 0))=c ((q++m).getD i 0):=by
 rw [zaH,hn]; split <;> rfl
theorem snoc2 {α:Type} {q m1 m2:List Nat} {n i:Nat} {c:Nat->α} (hn:q.length=n):(if i<n+m1.length then (if i<n then c (q.getD i 0) else c (m1.getD (i-n) 0)) else c (m2.getD (i-(n+m1.length)) 0))=c ((q++(m1++m2)).getD i 0):=by
 rw [<- List.append_assoc,zaH,zaH,List.length_append,hn]
 split
 ·split <;> rfl
 ·rfl
theorem zo4 {x:SeatT} (h:za6 x):0 <= x.gen/\x.gen <= 4294967295/\0 <= x.next/\x.next <= 3071:=by
 unfold za6 at h
 split at h <;> omega
theorem ztT (v:Nat):layL v 4=layN v 4:=znV (by omega)
theorem qk8 (v:Nat):layL v 2=layN v 2:=znV (by omega)
theorem zbK {z:Int} (h:0 <= z) (h2:z <= 4294967295):IntKind.u64.wrap z=((z.toNat:Nat):Int):=by
 conv=>lhs; rw [show z=((z.toNat:Nat):Int) by omega]
 exact zoG (by unfold U64; omega)

def qjX (l:Nat->SeatT):LA:={ T:=Unit,F:=fun _=>frm 41 [(1,.ptr 1 [] 0),(4,.nils),(5,i64 0),(9,qbV l),(10,i64 0)],H:=fun i=>[.fence,.cells 189 (qgN l)] }
def zuY (t n:Nat) (F:Fr) (_:AH):Option Ren:=match F.getD t .any with
 | .sl q _ _ _ _ _ _=>some (qp7 n n++[some q])
 | _=>none
def qjW (l:Nat->SeatT):LA:={ T:=Nat×Nat,F:=fun s=>frm 41 [(1,.ptr 1 [] 0),(4,.sl 2 [] 0 1 0 (8*s.1) s.2),(5,i64 (zcM l s.1:Nat)),(9,qbV l),(10,i64 (s.1:Nat))],H:=fun s=>[.fence,.cells 189 (qgN l),.row 5 1 s.2 (8*s.1) (fun i=>[.int .u8 (((zbT l s.1).getD i 0:Nat):Int)])],ρ₂:=zuY 4 2 }

def qdB (av:AV):Option Ren:=match av with
 | .tup (.sl q _ _ _ _ _ _ :: _)=>some [some 0,some q]
 | _=>some [some 0,none]

theorem qpH:(
 let q1:Prop:=true=true/\zaC/\0=0;
 let q2:Prop:=(0:Int)<(↑(7:Nat):Int);
 let q3:Int:=0+1;
 let q4:Prop:=I64 q3;
 let q5:Prop:=Tr 1 (q3=(0:Int))/\Tr 30 True;
 let q6:Prop:=(189:TypeId)=189;
 let q7:Prop:=(5:TypeId)=5; ∀(x:Nat->SeatT),
 let q9:Prop:=3=3/\7=7/\(∀(i:Nat),
 let q8:List AV:=[AV.bool (x i).live,AV.int .i64 (x i).gen,AV.int .i64 (x i).next]; i<7->q8=q8)/\True;
 let q10:Prop:=189=(189:TypeId)/\q9;
 let q11:Prop:=Exx Nat fun y=>(((((zaU x).length=0/\y=0)/\false=decide (zdR x)/\True)/\True)/\true=true/\(y=0/\(zaU x).length=0)/\True)/\(zaU x).length <= y;
 let q12:Prop:=Tr 3 (q9/\q5);
 let q13:Prop:=q6/\q9;
 let q14:Prop:=true=true/\q13/\True; (∀(i:Nat),i<7->zdE (x i))->Exx (Unit->Prop) fun I=>Exx (Nat×Nat->Prop) fun J=>Exx (Unit->Nat) fun m=>Exx (Nat×Nat->Nat) fun n=>((Exx Unit fun t=>I t/\Tr 1 (q1/\Tr 3 (Tr 1 ((0:Int)=0)/\Tr 3 (q9/\Tr 1 ((0:Int)=0)/\Tr 30 True)))/\true=true/\q10/\True)\/Exx (Nat×Nat) fun t =>
 let q15:Prop:=8*t.1=0; J t/\Tr 1 (q1/\Tr 2 ((q15/\t.2=0)/\Tr 1 (0=(↑(zcM x t.1):Int))/\Tr 3 (q9/\Tr 1 (0=(t.1:Int))/\Tr 30 True)))/\true=true/\q10/\(t.2=0/\q15)/\True)/\(∀(t:Unit),I t->((0:Int) <= (0:Int)/\q2/\q2)/\Exx SeatT fun x_1=>((((x (Int.toNat 0)).live=x_1.live/\Tr 1 ((x (Int.toNat 0)).gen=x_1.gen)/\Tr 1 ((x (Int.toNat 0)).next=x_1.next)/\True)/\True)/\true=true/\True)/\zdE x_1/\∀(y:Unit),True->BC (!decide (za6 x_1)) q11 (BC (x (Int.toNat 0)).live ((0:Int) <= (0:Int)/\∀(n_1:Int),n_1=IntKind.i64.wrap (1*2 ^ min (Int.toNat 0) IntKind.i64.bits)->∀(n_2:Int),n_2=bits BinOp.or IntKind.i64 0 n_1->∀(m_1:Int),m_1=IntKind.u64.wrap (x (Int.toNat 0)).gen->Exx (Nat×Int) fun x_2=>((Tr 1 (m_1=(x_2.1:Int))/\Tr 1 ((4:Int)=x_2.2)/\True)/\true=true/\True)/\(U64 x_2.1/\I64 x_2.2)/\∀(y:Nat),(layL x_2.1 x_2.2).length <= y->0+(layL x_2.1 x_2.2).length <= (layL x_2.1 x_2.2).length/\((layL x_2.1 x_2.2).length <= 9223372036854775807/\(layL x_2.1 x_2.2).length*1 <= 140737488355328)/\∀(cap:Nat),(layL x_2.1 x_2.2).length <= cap/\cap <= 9223372036854775807->∀(m_2:Int),m_2=IntKind.u64.wrap (x (Int.toNat 0)).next->Exx (Nat×Int) fun x_3 =>
 let q16:Nat:=(layL x_2.1 x_2.2).length+(layL x_3.1 x_3.2).length; ((Tr 1 (m_2=(x_3.1:Int))/\Tr 1 ((4:Int)=x_3.2)/\True)/\true=true/\True)/\(U64 x_3.1/\I64 x_3.2)/\∀(y:Nat),(layL x_3.1 x_3.2).length <= y->0+(layL x_3.1 x_3.2).length <= (layL x_3.1 x_3.2).length/\true=true/\((layL x_2.1 x_2.2).length <= (layL x_2.1 x_2.2).length/\cap=cap)/\(q16 <= 9223372036854775807/\q16*1 <= 140737488355328)/\∀(cap:Nat),q16 <= cap/\cap <= 9223372036854775807->q4/\((Exx Unit fun t'=>(I t'/\m t'<m t)/\Tr 1 (q1/\Tr 2 (False/\Tr 1 (n_2=(0:Int))/\q12))/\q14)\/Exx (Nat×Nat) fun t' =>
 let q17:Nat:=8*t'.fst; (J t'/\n t'<m t)/\Tr 1 (q1/\Tr 2 ((true=true/\zaC/\0=0/\1=1/\0=0/\q16=q17/\cap=t'.snd)/\Tr 1 (n_2=(↑(zcM x t'.fst):Int))/\Tr 3 (q9/\Tr 1 (q3=(↑t'.fst:Int))/\Tr 30 True)))/\true=true/\q13/\(q7/\1=1/\cap=t'.snd/\q17 <= q16/\∀(i:Nat),i<q17->(if i<(layL x_2.1 x_2.2).length then [AV.int .u8 (↑((layL x_2.1 x_2.2).getD (0+i) 0):Int)] else [AV.int .u8 (↑((layL x_3.1 x_3.2).getD (0+(i-(layL x_2.1 x_2.2).length)) 0):Int)])=[AV.int .u8 (↑((zbT x t'.fst).getD i 0):Int)])/\True)) (∀(m_1:Int),m_1=IntKind.u64.wrap (x (Int.toNat 0)).gen->Exx (Nat×Int) fun x_2=>((Tr 1 (m_1=(x_2.1:Int))/\Tr 1 ((4:Int)=x_2.2)/\True)/\true=true/\True)/\(U64 x_2.1/\I64 x_2.2)/\∀(y:Nat),(layL x_2.1 x_2.2).length <= y->0+(layL x_2.1 x_2.2).length <= (layL x_2.1 x_2.2).length/\((layL x_2.1 x_2.2).length <= 9223372036854775807/\(layL x_2.1 x_2.2).length*1 <= 140737488355328)/\∀(cap:Nat),(layL x_2.1 x_2.2).length <= cap/\cap <= 9223372036854775807->∀(m_2:Int),m_2=IntKind.u64.wrap (x (Int.toNat 0)).next->Exx (Nat×Int) fun x_3 =>
 let q18:Nat:=(layL x_2.1 x_2.2).length+(layL x_3.1 x_3.2).length; ((Tr 1 (m_2=(x_3.1:Int))/\Tr 1 ((4:Int)=x_3.2)/\True)/\true=true/\True)/\(U64 x_3.1/\I64 x_3.2)/\∀(y:Nat),(layL x_3.1 x_3.2).length <= y->0+(layL x_3.1 x_3.2).length <= (layL x_3.1 x_3.2).length/\true=true/\((layL x_2.1 x_2.2).length <= (layL x_2.1 x_2.2).length/\cap=cap)/\(q18 <= 9223372036854775807/\q18*1 <= 140737488355328)/\∀(cap:Nat),q18 <= cap/\cap <= 9223372036854775807->q4/\((Exx Unit fun t'=>(I t'/\m t'<m t)/\Tr 1 (q1/\Tr 2 (False/\Tr 1 ((0:Int)=0)/\q12))/\q14)\/Exx (Nat×Nat) fun t' =>
 let q19:Nat:=8*t'.fst; (J t'/\n t'<m t)/\Tr 1 (q1/\Tr 2 ((true=true/\zaC/\0=0/\1=1/\0=0/\q18=q19/\cap=t'.snd)/\Tr 1 (0=(↑(zcM x t'.fst):Int))/\Tr 3 (q9/\Tr 1 (q3=(↑t'.fst:Int))/\Tr 30 True)))/\true=true/\q13/\(q7/\1=1/\cap=t'.snd/\q19 <= q18/\∀(i:Nat),i<q19->(if i<(layL x_2.1 x_2.2).length then [AV.int .u8 (↑((layL x_2.1 x_2.2).getD (0+i) 0):Int)] else [AV.int .u8 (↑((layL x_3.1 x_3.2).getD (0+(i-(layL x_2.1 x_2.2).length)) 0):Int)])=[AV.int .u8 (↑((zbT x t'.fst).getD i 0):Int)])/\True))))/\∀(t:Nat×Nat),
 let q20:Prop:=(0:Int) <= (t.1:Int);
 let q21:Prop:=(t.1:Int)<(↑(7:Nat):Int);
 let q22:Nat:=8*t.1;
 let q23:Prop:=q22 <= q22/\t.2=t.2;
 let q24:Int:=(t.1:Int)+1;
 let q25:Prop:=I64 q24;
 let q26:Prop:=Tr 3 (q9/\Tr 1 (q24=(0:Int))/\Tr 30 True); J t->BC (decide ((t.1:Int)<(7:Int))) ((q20/\q21/\q21)/\Exx SeatT fun x_1=>((((x (t.1:Int).toNat).live=x_1.live/\Tr 1 ((x (t.1:Int).toNat).gen=x_1.gen)/\Tr 1 ((x (t.1:Int).toNat).next=x_1.next)/\True)/\True)/\true=true/\True)/\zdE x_1/\∀(y:Unit),True->BC (!decide (za6 x_1)) q11 (BC (x (t.1:Int).toNat).live (q20/\∀(n_1:Int),n_1=IntKind.i64.wrap (1*2 ^ min (t.1:Int).toNat IntKind.i64.bits)->∀(n_2:Int),n_2=bits BinOp.or IntKind.i64 (↑(zcM x t.1):Int) n_1->∀(m_1:Int),m_1=IntKind.u64.wrap (x (t.1:Int).toNat).gen->Exx (Nat×Int) fun x_2 =>
 let q27:Nat:=q22+(layL x_2.1 x_2.2).length; ((Tr 1 (m_1=(x_2.1:Int))/\Tr 1 ((4:Int)=x_2.2)/\True)/\true=true/\True)/\(U64 x_2.1/\I64 x_2.2)/\∀(y:Nat),(layL x_2.1 x_2.2).length <= y->0+(layL x_2.1 x_2.2).length <= (layL x_2.1 x_2.2).length/\true=true/\q23/\(q27 <= 9223372036854775807/\q27*1 <= 140737488355328)/\∀(cap:Nat),q27 <= cap/\cap <= 9223372036854775807->∀(m_2:Int),m_2=IntKind.u64.wrap (x (t.1:Int).toNat).next->Exx (Nat×Int) fun x_3 =>
 let q28:Nat:=q27+(layL x_3.1 x_3.2).length; ((Tr 1 (m_2=(x_3.1:Int))/\Tr 1 ((4:Int)=x_3.2)/\True)/\true=true/\True)/\(U64 x_3.1/\I64 x_3.2)/\∀(y:Nat),(layL x_3.1 x_3.2).length <= y->0+(layL x_3.1 x_3.2).length <= (layL x_3.1 x_3.2).length/\true=true/\(q27 <= q27/\cap=cap)/\(q28 <= 9223372036854775807/\q28*1 <= 140737488355328)/\∀(cap:Nat),q28 <= cap/\cap <= 9223372036854775807->q25/\((Exx Unit fun t'=>(I t'/\m t'<n t)/\Tr 1 (q1/\Tr 2 (False/\Tr 1 (n_2=(0:Int))/\q26))/\q14)\/Exx (Nat×Nat) fun t' =>
 let q29:Nat:=8*t'.fst; (J t'/\n t'<n t)/\Tr 1 (q1/\Tr 2 ((true=true/\zaC/\0=0/\1=1/\0=0/\q28=q29/\cap=t'.snd)/\Tr 1 (n_2=(↑(zcM x t'.fst):Int))/\Tr 3 (q9/\Tr 1 (q24=(↑t'.fst:Int))/\Tr 30 True)))/\true=true/\q13/\(q7/\1=1/\cap=t'.snd/\q29 <= q28/\∀(i:Nat),i<q29->(if i<q27 then if i<q22 then [AV.int .u8 (↑((zbT x t.1).getD i 0):Int)] else [AV.int .u8 (↑((layL x_2.1 x_2.2).getD (0+(i-q22)) 0):Int)] else [AV.int .u8 (↑((layL x_3.1 x_3.2).getD (0+(i-q27)) 0):Int)])=[AV.int .u8 (↑((zbT x t'.fst).getD i 0):Int)])/\True)) (∀(m_1:Int),m_1=IntKind.u64.wrap (x (t.1:Int).toNat).gen->Exx (Nat×Int) fun x_2 =>
 let q30:Nat:=q22+(layL x_2.1 x_2.2).length; ((Tr 1 (m_1=(x_2.1:Int))/\Tr 1 ((4:Int)=x_2.2)/\True)/\true=true/\True)/\(U64 x_2.1/\I64 x_2.2)/\∀(y:Nat),(layL x_2.1 x_2.2).length <= y->0+(layL x_2.1 x_2.2).length <= (layL x_2.1 x_2.2).length/\true=true/\q23/\(q30 <= 9223372036854775807/\q30*1 <= 140737488355328)/\∀(cap:Nat),q30 <= cap/\cap <= 9223372036854775807->∀(m_2:Int),m_2=IntKind.u64.wrap (x (t.1:Int).toNat).next->Exx (Nat×Int) fun x_3 =>
 let q31:Nat:=q30+(layL x_3.1 x_3.2).length; ((Tr 1 (m_2=(x_3.1:Int))/\Tr 1 ((4:Int)=x_3.2)/\True)/\true=true/\True)/\(U64 x_3.1/\I64 x_3.2)/\∀(y:Nat),(layL x_3.1 x_3.2).length <= y->0+(layL x_3.1 x_3.2).length <= (layL x_3.1 x_3.2).length/\true=true/\(q30 <= q30/\cap=cap)/\(q31 <= 9223372036854775807/\q31*1 <= 140737488355328)/\∀(cap:Nat),q31 <= cap/\cap <= 9223372036854775807->q25/\((Exx Unit fun t'=>(I t'/\m t'<n t)/\Tr 1 (q1/\Tr 2 (False/\Tr 1 ((↑(zcM x t.1):Int)=(0:Int))/\q26))/\q14)\/Exx (Nat×Nat) fun t' =>
 let q32:Nat:=8*t'.fst; (J t'/\n t'<n t)/\Tr 1 (q1/\Tr 2 ((true=true/\zaC/\0=0/\1=1/\0=0/\q31=q32/\cap=t'.snd)/\Tr 1 ((↑(zcM x t.1):Int)=(↑(zcM x t'.fst):Int))/\Tr 3 (q9/\Tr 1 (q24=(↑t'.fst:Int))/\Tr 30 True)))/\true=true/\q13/\(q7/\1=1/\cap=t'.snd/\q32 <= q31/\∀(i:Nat),i<q32->(if i<q30 then if i<q22 then [AV.int .u8 (↑((zbT x t.1).getD i 0):Int)] else [AV.int .u8 (↑((layL x_2.1 x_2.2).getD (0+(i-q22)) 0):Int)] else [AV.int .u8 (↑((layL x_3.1 x_3.2).getD (0+(i-q30)) 0):Int)])=[AV.int .u8 (↑((zbT x t'.fst).getD i 0):Int)])/\True)))) (Exx (Int×Int×List Nat) fun x_1 =>
 let q33:List Nat:=zkI x_1.1 x_1.2.1 x_1.2.2;
 let q34:Nat:=q33.length; ((Tr 1 ((2:Int)=x_1.1)/\Tr 1 ((↑(zcM x t.1):Int)=x_1.2.1)/\(0+q22 <= q22/\q22=x_1.2.2.length/\∀(i:Nat),i<x_1.2.2.length->[AV.int .u8 (↑((zbT x t.1).getD (0+i) 0):Int)]=[AV.int .u8 (↑(x_1.2.2.getD i 0):Int)])/\True)/\true=true/\True)/\(I64 x_1.1/\I64 x_1.2.1/\Oct x_1.2.2)/\∀(y:Nat),q34 <= y->Exx Nat fun y_1=>((((true=true/\zaC/\0=0/\1=1/\0=0/\q34=(zaU x).length/\y=y_1)/\decide (zgO x_1.1 x_1.2.1 x_1.2.2)=decide (zdR x)/\True)/\True)/\true=true/\(q7/\1=1/\y=y_1/\(zaU x).length <= q34/\∀(i:Nat),i<(zaU x).length->[AV.int .u8 (↑(q33.getD i 0):Int)]=[AV.int .u8 (↑((zaU x).getD i 0):Int)])/\True)/\(zaU x).length <= y_1))=(zcA tb [(129,zaA layC),(130,zaA qjC),(170,zaA zhC)] Tryz.f171 zvC (fun x=>{ loops2:=[(4,qjX x,qjW x)] }) (fun _ av _=>qdB av) (fun _=>[]) (fun _ _ _ _=>[])):=by kernel_rfl

theorem qgC:SpecOk Tryz.prog 171 (zaA zvC):=by
 refine za0 zaM zaL (SPok.cons zyM (SPok.cons qaM (SPok.cons ziU SPok.nil))) Tryz.func171 (by decide) (zgW fun _ _ _=>⟨rfl,rfl,trivial⟩) (Eq.mp qpH ?_)
 simp (maxSteps:=10000000) only [std,stdU,stdV,Exx,I64,Nat.reduceMul,Nat.reduceDiv,Nat.reduceAdd,Int.reduceToNat]
 rintro l hl
 have hbad:∀i,i<7->¬za6 (l i)->((zaU l).length=0/\false=decide (zdR l)/\(zaU l).length=0/\(zaU l).length <= 0):=fun i hi hs=>by
  have hn:¬zdR l:=fun k=>hs (k i hi)
  rw [zaU,if_neg hn]; exact ⟨rfl,(decide_eq_false hn).symm,rfl,Nat.le_refl _⟩
 have hone:zbT l 1=layN (l 0).gen.toNat 4++layN (l 0).next.toNat 4:=by rw [zdK]; rfl
 refine ⟨fun _=>True,fun s=>1 <= s.1/\s.1 <= 7/\∀j,j<s.1->za6 (l j),.inl ⟨(),trivial⟩,fun _=>8,fun s=>7-s.1,fun _ _=>?_,fun a b hab=>⟨fun hlt=>?_,fun hge=>?_⟩⟩
 ·refine ⟨by omega,by omega,by omega,l 0,rfl,rfl,rfl,hl 0 (by omega),hbad 0 (by omega),fun hs=>?_⟩
  have hr:=zo4 hs
  have hinv:1 <= 1/\1 <= 7/\∀j,j<1->za6 (l j):=⟨by omega,by omega,fun j hj=>by rw [show j=0 by omega]; exact hs⟩
  refine ⟨fun hlive=>⟨by omega,(l 0).gen.toNat,zbK hr.1 hr.2.1,by unfold U64; omega,by omega,by omega,fun y hy=>?_⟩,fun hlive=>⟨(l 0).gen.toNat,zbK hr.1 hr.2.1,by unfold U64; omega,by omega,by omega,fun y hy=>?_⟩⟩
  all_goals
   rw [ztT,zaE]
   refine ⟨by omega,by omega,fun cap hcap=>⟨(l 0).next.toNat,zbK hr.2.2.1 (by omega),by unfold U64; omega,by omega,by omega,fun y hy=>?_⟩⟩
   rw [ztT,zaE]
   refine ⟨by omega,by omega,fun cap2 hcap2=>⟨by omega,by omega,1,cap2,hinv,by simp only; omega,rfl,rfl,?_,rfl,rfl,by omega,fun i hi=>?_⟩⟩
   rotate_left
   ·rw [hone,zaH,zaE]
    split <;> rfl
  ·exact qk0 (l:=l) (a:=0) (by omega) hlive
  ·simp [zcM,hlive]
 ·obtain ⟨h1,h7,hall⟩:=hab
  refine ⟨by omega,by omega,by omega,l a,rfl,rfl,rfl,hl a (by omega),hbad a (by omega),fun hs=>?_⟩
  have hr:=zo4 hs
  have hinv:1 <= a+1/\a+1 <= 7/\∀j,j<a+1->za6 (l j):=⟨by omega,by omega,fun j hj=>by
   by_cases e:j=a
   ·rw [e]; exact hs
   ·exact hall j (by omega)⟩
  refine ⟨fun hlive=>⟨by omega,(l a).gen.toNat,zbK hr.1 hr.2.1,by unfold U64; omega,by omega,by omega,fun y hy=>?_⟩,fun hlive=>⟨(l a).gen.toNat,zbK hr.1 hr.2.1,by unfold U64; omega,by omega,by omega,fun y hy=>?_⟩⟩
  all_goals
   rw [ztT,zaE]
   refine ⟨by omega,by omega,fun cap hcap=>⟨(l a).next.toNat,zbK hr.2.2.1 (by omega),by unfold U64; omega,by omega,by omega,fun y hy=>?_⟩⟩
   rw [ztT,zaE]
   refine ⟨by omega,by omega,fun cap2 hcap2=>⟨by omega,by omega,a+1,cap2,hinv,by simp only; omega,by omega,rfl,?_,by omega,rfl,by omega,fun i hi=>?_⟩⟩
   rotate_left
   ·have:=snoc2 (q:=zbT l a) (m1:=layN (l a).gen.toNat 4) (m2:=layN (l a).next.toNat 4) (n:=8*a) (i:=i) (c:=fun v=>[AV.int IntKind.u8 ((v:Nat):Int)]) (zbE l a)
    rw [zaE] at this
    rw [zdK]; exact this
  ·exact qk0 (by omega) hlive
  ·simp [zcM,hlive]
 ·obtain ⟨h1,h7,hall⟩:=hab
  have ha:a=7:=by omega
  subst ha
  have hok:zdR l:=fun j hj=>hall j hj
  have hlv:=zgQ l 7
  have hsl:=zbE l 7
  have hse:zgO 2 (zcM l 7:Nat) (zbT l 7):=⟨by omega,by omega,by omega,by omega,by omega⟩
  refine ⟨zbT l 7,hsl.symm,fun _ _=>rfl,by omega,by omega,by omega,by omega,⟨ziS l 7,by omega⟩,fun y hy=>?_⟩
  have e:zkI 2 (zcM l 7:Nat) (zbT l 7)=zaU l:=by rw [zkI,if_pos hse,zaU,if_pos hok]; rfl
  rw [e] at hy ⊢
  exact ⟨rfl,decide_eq_decide.2 ⟨fun _=>hok,fun _=>hse⟩,Nat.le_refl _,fun _ _=>rfl,hy⟩

def qlQ (b:List Nat):LA:={ T:=Nat×Nat,F:=fun s=>frm 64 [(2,.ptr 1 [] 0),(5,i64 (tagN b:Nat)),(6,.sl 2 [] 0 1 0 56 s.2),(8,.ptr 3 [] 0),(30,i64 (s.1:Nat))],H:=fun s=>[.fence,.cells 189 (qgN fun _=>seatZ),.row 5 1 s.2 56 (fun i=>[.int .u8 (((b.drop 8).getD i 0:Nat):Int)]),.cells 189 [.arr 3 7 (fun i=>qfQ (if i<s.1 then za1 b i else seatZ))]] }

theorem live_at {t a:Nat} (ht:t<256) (ha:a<7):decide (bits BinOp.and IntKind.i64 ((t:Int).fdiv (2 ^ min a IntKind.i64.bits)) 1=1)=(t / 2 ^ a % 2 == 1):=by
 rw [zuR (n:=IntKind.i64.bits) (show a <= 64 by omega)]
 have h1:t / 2 ^ a <= t:=Nat.div_le_self _ _
 rw [show 1=(1:Int) from rfl,and_i64 (by omega) (by omega),Nat.and_one_is_mod]
 have h2:t / 2 ^ a % 2<2:=Nat.mod_lt _ (by decide)
 rw [Bool.eq_iff_iff,decide_eq_true_iff,beq_iff_eq]
 omega
theorem ztK {l:List Nat} {k:Nat} (h:∀c∈l,c<256) (hk:k <= 4):numN (l.take k)<4294967296:=by
 have h1:=zk5 (l.take k) fun c hc=>h c (List.mem_of_mem_take hc)
 have h2:256 ^ (l.take k).length <= 256 ^ 4:=Nat.pow_le_pow_right (by decide) (by rw [List.length_take]; omega)
 omega
theorem zuW {b:List Nat} (h:∀c∈b,c<256) (i:Nat):zdE (za1 b i):=by
 have h1:=ztK (l:=b.drop (8+8*i)) (k:=4) (fun c hc=>h c (List.mem_of_mem_drop hc)) (by omega)
 have h2:=ztK (l:=b.drop (12+8*i)) (k:=4) (fun c hc=>h c (List.mem_of_mem_drop hc)) (by omega)
 exact ⟨⟨by simp only [za1]; omega,by simp only [za1]; omega⟩,⟨by simp only [za1]; omega,by simp only [za1]; omega⟩⟩
theorem qbX {b:List Nat} (h:∀c∈b,c<256) (i:Nat):I64 (zd0 b i):=by
 have h1:=ztK (l:=b.drop (8+2*i)) (k:=2) (fun c hc=>h c (List.mem_of_mem_drop hc)) (by omega)
 exact ⟨by simp only [zd0]; omega,by simp only [zd0]; omega⟩

theorem qqD:(
 let q1:List AV:=[AV.bool false,AV.int .i64 0,AV.int .i64 0];
 let q2:Prop:=true=true/\zaC/\0=0;
 let q3:List AV:=[AV.bool seatZ.live,AV.int .i64 seatZ.gen,AV.int .i64 seatZ.next];
 let q4:Prop:=(5:TypeId)=5;
 let q5:Nat:=Int.toNat 4-0;
 let q6:Prop:=(189:TypeId)=189; ∀(x:List Nat),
 let q7:Prop:=Exx Unit fun y=>((((3=3/\7=7/\(∀(i:Nat),i<7->q1=[AV.bool (zaW x i).live,AV.int .i64 (zaW x i).gen,AV.int .i64 (zaW x i).next])/\True)/\false=decide (zdB x)/\True)/\True)/\true=true/\True)/\True; Oct x->Exx (List Nat) fun x_1=>(((x.length=x_1.length/\∀(i:Nat),i<x_1.length->[AV.int .u8 (↑(x.getD i 0):Int)]=[AV.int .u8 (↑(x_1.getD i 0):Int)])/\True)/\true=true/\True)/\Oct x_1/\∀(y:Nat),(zbC x_1).length <= y->BC (!decide (zb0 x_1)) q7 (BC (!decide ((↑(ze0 x_1):Int)=(2:Int))) q7 (BC (decide ((128:Int) <= (↑(tagN x_1):Int))) q7 (Exx (Nat×Nat->Prop) fun I=>Exx (Nat×Nat->Nat) fun m=>(Exx (Nat×Nat) fun t=>I t/\Tr 2 (q2/\Tr 2 (Tr 1 ((↑(tagN x_1):Int)=(↑(tagN x):Int))/\(true=true/\zaC/\0=0/\1=1/\0=0/\(zbC x_1).length=56/\y=t.2)/\Tr 1 (q2/\Tr 21 (Tr 1 (0=(t.1:Int))/\Tr 33 True))))/\true=true/\(189=(189:TypeId)/\3=3/\7=7/\(∀(i:Nat),i<7->q1=q3)/\True)/\(q4/\1=1/\y=t.2/\56 <= (zbC x_1).length/\∀(i:Nat),i<56->[AV.int .u8 (↑((zbC x_1).getD i 0):Int)]=[AV.int .u8 (↑((List.drop 8 x).getD i 0):Int)])/\(189=(189:TypeId)/\3=3/\7=7/\(∀(i:Nat),
 let q8:SeatT:=if i<t.1 then za1 x i else seatZ; i<7->q1=[AV.bool q8.live,AV.int .i64 q8.gen,AV.int .i64 q8.next])/\True)/\True)/\∀(t:Nat×Nat),
 let q9:Int:=8*(t.1:Int);
 let q10:Int:=(t.1:Int)+1;
 let q11:Prop:=I64 q10;
 let q12:Int:=8*q10;
 let q13:Nat:=q9.toNat;
 let q14:Nat:=q12.toNat;
 let q15:Prop:=(0:Int) <= (t.1:Int);
 let q16:Nat:=t.2-q13;
 let q17:Nat:=q14-q13;
 let q18:Nat:=0+q13;
 let q19:Nat:=q18+0;
 let q20:Nat:=q18+Int.toNat 4;
 let q21:Nat:=q17-Int.toNat 4; I t->BC (decide ((t.1:Int)<(7:Int))) (I64 q9/\q11/\I64 q12/\(0:Int) <= q12/\(0:Int) <= q9/\(q13 <= q14/\q14 <= t.2)/\q15/\∀(n:Int),n=(↑(tagN x):Int).fdiv (2 ^ min (t.1:Int).toNat IntKind.i64.bits)->∀(n_1:Int),
 let q22:Bool:=decide (n_1=(1:Int)); n_1=bits BinOp.and IntKind.i64 n 1->(0:Int) <= (4:Int)/\(0 <= (4:Int).toNat/\Int.toNat 4 <= q16)/\(0:Int) <= (4:Int)/\(Int.toNat 4 <= q17/\q17 <= q16)/\(Exx (List Nat) fun x_2=>(((q19+q5 <= 56/\q5=x_2.length/\∀(i:Nat),i<x_2.length->[AV.int .u8 (↑((List.drop 8 x).getD (q19+i) 0):Int)]=[AV.int .u8 (↑(x_2.getD i 0):Int)])/\True)/\true=true/\True)/\Oct x_2/\∀(y:Unit),True->∀(m_1:Int),
 let q26:Prop:=Exx (List Nat) fun x_3=>(((q20+q21 <= 56/\q21=x_3.length/\∀(i:Nat),i<x_3.length->[AV.int .u8 (↑((List.drop 8 x).getD (q20+i) 0):Int)]=[AV.int .u8 (↑(x_3.getD i 0):Int)])/\True)/\true=true/\True)/\Oct x_3/\∀(y:Unit),True->∀(m_2:Int),m_2=IntKind.i64.wrap (↑(za8 x_3):Int)->Exx SeatT fun x_4=>(((q22=x_4.live/\Tr 1 (m_1=x_4.gen)/\Tr 1 (m_2=x_4.next)/\True)/\True)/\true=true/\True)/\zdE x_4/\∀(y:Unit),True->BC (!decide (za6 x_4)) q7 ((q15/\(t.1:Int)<(↑(7:Nat):Int))/\(t.1:Int).toNat<7/\q11/\Exx (Nat×Nat) fun t'=>(I t'/\m t'<m t)/\Tr 2 (q2/\Tr 2 (Tr 1 ((↑(tagN x):Int)=(↑(tagN x):Int))/\(true=true/\zaC/\0=0/\1=1/\0=0/\56=56/\t.2=t'.snd)/\Tr 1 (q2/\Tr 21 (Tr 1 (q10=(↑t'.fst:Int))/\Tr 33 True))))/\true=true/\(q6/\3=3/\7=7/\(∀(i:Nat),i<7->q3=q3)/\True)/\(q4/\1=1/\t.2=t'.snd/\56 <= 56/\∀(i:Nat),
 let q23:List AV:=[AV.int .u8 (↑((List.drop 8 x).getD i 0):Int)]; i<56->q23=q23)/\(q6/\3=3/\7=7/\(∀(i:Nat),
 let q24:SeatT:=if i<t.1 then za1 x i else seatZ;
 let q25:SeatT:=if i<t'.fst then za1 x i else seatZ; i<7->[AV.bool (if i=(t.1:Int).toNat then q22 else q24.live),AV.int .i64 (if i=(t.1:Int).toNat then m_1 else q24.gen),AV.int .i64 (if i=(t.1:Int).toNat then m_2 else q24.next)]=[AV.bool q25.live,AV.int .i64 q25.gen,AV.int .i64 q25.next])/\True)/\True); m_1=IntKind.i64.wrap (↑(za8 x_2):Int)->q26/\q26)/\Exx (List Nat) fun x_2=>(((q19+q5 <= 56/\q5=x_2.length/\∀(i:Nat),i<x_2.length->[AV.int .u8 (↑((List.drop 8 x).getD (q19+i) 0):Int)]=[AV.int .u8 (↑(x_2.getD i 0):Int)])/\True)/\true=true/\True)/\Oct x_2/\∀(y:Unit),True->∀(m_1:Int),m_1=IntKind.i64.wrap (↑(za8 x_2):Int)->Exx (List Nat) fun x_3=>(((q20+q21 <= 56/\q21=x_3.length/\∀(i:Nat),i<x_3.length->[AV.int .u8 (↑((List.drop 8 x).getD (q20+i) 0):Int)]=[AV.int .u8 (↑(x_3.getD i 0):Int)])/\True)/\true=true/\True)/\Oct x_3/\∀(y:Unit),True->∀(m_2:Int),m_2=IntKind.i64.wrap (↑(za8 x_3):Int)->Exx SeatT fun x_4=>(((q22=x_4.live/\Tr 1 (m_1=x_4.gen)/\Tr 1 (m_2=x_4.next)/\True)/\True)/\true=true/\True)/\zdE x_4/\∀(y:Unit),True->BC (!decide (za6 x_4)) q7 ((q15/\(t.1:Int)<(↑(7:Nat):Int))/\(t.1:Int).toNat<7/\q11/\Exx (Nat×Nat) fun t'=>(I t'/\m t'<m t)/\Tr 2 (q2/\Tr 2 (Tr 1 ((↑(tagN x):Int)=(↑(tagN x):Int))/\(true=true/\zaC/\0=0/\1=1/\0=0/\56=56/\t.2=t'.snd)/\Tr 1 (q2/\Tr 21 (Tr 1 (q10=(↑t'.fst:Int))/\Tr 33 True))))/\true=true/\(q6/\3=3/\7=7/\(∀(i:Nat),i<7->q3=q3)/\True)/\(q4/\1=1/\t.2=t'.snd/\56 <= 56/\∀(i:Nat),
 let q27:List AV:=[AV.int .u8 (↑((List.drop 8 x).getD i 0):Int)]; i<56->q27=q27)/\(q6/\3=3/\7=7/\(∀(i:Nat),
 let q28:SeatT:=if i<t.1 then za1 x i else seatZ;
 let q29:SeatT:=if i<t'.fst then za1 x i else seatZ; i<7->[AV.bool (if i=(t.1:Int).toNat then q22 else q28.live),AV.int .i64 (if i=(t.1:Int).toNat then m_1 else q28.gen),AV.int .i64 (if i=(t.1:Int).toNat then m_2 else q28.next)]=[AV.bool q29.live,AV.int .i64 q29.gen,AV.int .i64 q29.next])/\True)/\True)) (Exx Unit fun y=>((((3=3/\7=7/\(∀(i:Nat),
 let q30:SeatT:=if i<t.1 then za1 x i else seatZ; i<7->[AV.bool q30.live,AV.int .i64 q30.gen,AV.int .i64 q30.next]=[AV.bool (zaW x i).live,AV.int .i64 (zaW x i).gen,AV.int .i64 (zaW x i).next])/\True)/\true=decide (zdB x)/\True)/\True)/\true=true/\True)/\True)))))=(fnVC tb [(121,zaA qkF),(157,zaA qa3),(170,zaA zhC)] Tryz.f207 zmJ (fun x=>{ loops:=[(6,qlQ x)],loose:=[(9,[2])] }) (fun _=>none)):=by kernel_rfl

theorem qgY:SpecOk Tryz.prog 207 (zaA zmJ):=by
 refine zaK zaM zaL (SPok.cons qbG (SPok.cons zqO (SPok.cons ziU SPok.nil))) Tryz.func207 (by decide) (zaO fun _=>⟨⟨fun _ _=>⟨rfl,rfl,rfl,trivial⟩,trivial⟩,rfl,trivial⟩) (Eq.mp qqD ?_)
 simp (maxSteps:=10000000) only [std,stdU,stdV,Exx,I64,Nat.reduceMul,Nat.reduceDiv,Nat.reduceAdd,Int.reduceToNat]
 rintro b ⟨hb,hl⟩
 refine ⟨⟨hb,hl⟩,fun y hy=>?_⟩
 have hno:¬zdB b->((∀i,i<7->[AV.bool false,AV.int IntKind.i64 0,AV.int IntKind.i64 0]=[AV.bool (zaW b i).live,AV.int IntKind.i64 (zaW b i).gen,AV.int IntKind.i64 (zaW b i).next])/\false=decide (zdB b)):=fun h =>
  ⟨fun i _=>by rw [zaW,if_neg h]; rfl,(decide_eq_false h).symm⟩
 refine ⟨fun h=>hno (fun k=>h k.1),fun hr=>⟨fun h=>hno (fun k=>h (by rw [ze0,if_pos hr,k.2.1]; rfl)),fun hk=>⟨fun h=>hno (fun k=>by have:=k.2.2.1; rw [tagN,if_pos hr] at h; omega),fun ht=>?_⟩⟩⟩
 have h64:=hr.1
 have hB:zbC b=b.drop 8:=if_pos hr
 have hK:b.getD 4 0=2:=by rw [ze0,if_pos hr] at hk; omega
 have hT:tagN b=b.getD 5 0:=if_pos hr
 have hT2:b.getD 5 0<128:=by rw [hT] at ht; omega
 have hlen:(b.drop 8).length=56:=by rw [List.length_drop]; omega
 rw [hB] at hy ⊢
 rw [hT]
 refine ⟨fun s=>s.1 <= 7/\56 <= s.2/\∀j,j<s.1->za6 (za1 b j),⟨0,y,⟨by omega,by omega,fun j hj=>absurd hj (Nat.not_lt_zero _)⟩,hlen,rfl,rfl,fun _ _=>rfl,rfl,by omega,fun _ _=>rfl,fun i _=>rfl⟩,fun s=>7-s.1,fun a c hac=>⟨fun hlt=>?_,fun hge=>?_⟩⟩
 ·obtain ⟨ha7,hc,hall⟩:=hac
  have e8:(8*(a:Int)).toNat=8*a:=by omega
  have e9:(8*((a:Int)+1)).toNat=8*a+8:=by omega
  rw [e8,e9]
  simp only at ha7 hc hall
  have hd1:((b.drop (8+8*a)).take 4).length=4:=by rw [List.length_take,List.length_drop]; omega
  have hd2:((b.drop (12+8*a)).take 4).length=4:=by rw [List.length_take,List.length_drop]; omega
  have g1:4=((b.drop (8+8*a)).take 4).length:=hd1.symm
  have g2:8*a+8-8*a-4=((b.drop (12+8*a)).take 4).length:=by rw [hd2]; omega
  have hg1:∀i,i<((b.drop (8+8*a)).take 4).length->[AV.int IntKind.u8 (((b.drop 8).getD (8*a+0+i) 0:Nat):Int)]=[AV.int IntKind.u8 ((((b.drop (8+8*a)).take 4).getD i 0:Nat):Int)]:=fun i hi=>by
   rw [hd1] at hi
   rw [za9,if_pos hi,za4,za4,show 8+(8*a+0+i)=8+8*a+i by omega]
  have hg2:∀i,i<((b.drop (12+8*a)).take 4).length->[AV.int IntKind.u8 (((b.drop 8).getD (8*a+4+i) 0:Nat):Int)]=[AV.int IntKind.u8 ((((b.drop (12+8*a)).take 4).getD i 0:Nat):Int)]:=fun i hi=>by
   rw [hd2] at hi
   rw [za9,if_pos hi,za4,za4,show 8+(8*a+4+i)=12+8*a+i by omega]
  have ho1:Oct ((b.drop (8+8*a)).take 4):=⟨fun x hx=>hb x (List.mem_of_mem_drop (List.mem_of_mem_take hx)),by omega⟩
  have ho2:Oct ((b.drop (12+8*a)).take 4):=⟨fun x hx=>hb x (List.mem_of_mem_drop (List.mem_of_mem_take hx)),by omega⟩
  have hn1:=ztK (l:=b.drop (8+8*a)) (k:=4) (fun c hc=>hb c (List.mem_of_mem_drop hc)) (by omega)
  have hn2:=ztK (l:=b.drop (12+8*a)) (k:=4) (fun c hc=>hb c (List.mem_of_mem_drop hc)) (by omega)
  have hr1:za8 ((b.drop (8+8*a)).take 4)=numN ((b.drop (8+8*a)).take 4):=zjZ (by omega)
  have hr2:za8 ((b.drop (12+8*a)).take 4)=numN ((b.drop (12+8*a)).take 4):=zjZ (by omega)
  have hw1:IntKind.i64.wrap ((za8 ((b.drop (8+8*a)).take 4):Nat):Int)=(za1 b a).gen:=by rw [hr1]; exact zbP ⟨by omega,by omega⟩
  have hw2:IntKind.i64.wrap ((za8 ((b.drop (12+8*a)).take 4):Nat):Int)=(za1 b a).next:=by rw [hr2]; exact zbP ⟨by omega,by omega⟩
  have hlv:decide (bits BinOp.and IntKind.i64 (((b.getD 5 0:Nat):Int).fdiv (2 ^ min a IntKind.i64.bits)) 1=1)=(za1 b a).live:=live_at (by omega) (by omega)
  have hend:∃x:SeatT,decide (bits BinOp.and IntKind.i64 (((b.getD 5 0:Nat):Int).fdiv (2 ^ min a IntKind.i64.bits)) 1=1)=x.live/\IntKind.i64.wrap ((za8 ((b.drop (8+8*a)).take 4):Nat):Int)=x.gen/\IntKind.i64.wrap ((za8 ((b.drop (12+8*a)).take 4):Nat):Int)=x.next/\zdE x/\(¬za6 x->(∀i,i<7->[AV.bool false,AV.int IntKind.i64 0,AV.int IntKind.i64 0]=[AV.bool (zaW b i).live,AV.int IntKind.i64 (zaW b i).gen,AV.int IntKind.i64 (zaW b i).next])/\false=decide (zdB b))/\(za6 x->0 <= (a:Int)/\(a:Int)<((7:Nat):Int)/\a<7/\-9223372036854775808 <= (a:Int)+1/\(a:Int)+1 <= 9223372036854775807/\∃(a_4:Nat) (b_2:Nat),(a_4 <= 7/\56 <= b_2/\∀j,j<a_4->za6 (za1 b j))/\7-a_4<7-a/\c=b_2/\(a:Int)+1=(a_4:Int)/\c=b_2/\∀i,i<7->(AV.bool (if i=a then decide (bits BinOp.and IntKind.i64 (((b.getD 5 0:Nat):Int).fdiv (2 ^ min a IntKind.i64.bits)) 1=1) else (if i<a then za1 b i else seatZ).live) :: AV.int IntKind.i64 (if i=a then IntKind.i64.wrap ((za8 ((b.drop (8+8*a)).take 4):Nat):Int) else (if i<a then za1 b i else seatZ).gen) :: if i=a then [AV.int IntKind.i64 (IntKind.i64.wrap ((za8 ((b.drop (12+8*a)).take 4):Nat):Int))] else [AV.int IntKind.i64 (if i<a then za1 b i else seatZ).next])=[AV.bool (if i<a_4 then za1 b i else seatZ).live,AV.int IntKind.i64 (if i<a_4 then za1 b i else seatZ).gen,AV.int IntKind.i64 (if i<a_4 then za1 b i else seatZ).next]):=by
   refine ⟨za1 b a,hlv,hw1,hw2,zuW hb a,fun hs=>hno (fun k=>hs (k.2.2.2 a (by omega))),fun hs=>⟨by omega,by omega,by omega,by omega,by omega,a+1,c,⟨by omega,hc,fun j hj=>?_⟩,by omega,rfl,by omega,rfl,fun i hi=>?_⟩⟩
   ·by_cases e:j=a
    ·rw [e]; exact hs
    ·exact hall j (by omega)
   ·rw [hlv,hw1,hw2]
    by_cases e:i=a
    ·subst e; rw [if_pos rfl,if_pos rfl,if_pos rfl,if_pos (by omega)]
    ·rw [if_neg e,if_neg e,if_neg e]
     by_cases e2:i<a
     ·rw [if_pos e2,if_pos (by omega)]
     ·rw [if_neg e2,if_neg (by omega)]
  have hin:8*a+0+4 <= 56:=by omega
  have hin2:8*a+4+(8*a+8-8*a-4) <= 56:=by omega
  refine ⟨by omega,by omega,by omega,by omega,by omega,by omega,by omega,by omega,by omega,by omega,by omega,by omega,by omega,by omega,by omega,by omega,by omega,hin,?_⟩
  exact ⟨⟨_,g1,hg1,ho1,hin2,⟨_,g2,hg2,ho2,hend⟩,hin2,⟨_,g2,hg2,ho2,hend⟩⟩,hin,⟨_,g1,hg1,ho1,hin2,⟨_,g2,hg2,ho2,hend⟩⟩⟩
 ·obtain ⟨ha7,hc,hall⟩:=hac
  simp only at ha7 hc hall
  have ha:a=7:=by omega
  subst ha
  have hok:zdB b:=⟨hr,hK,hT2,hall⟩
  exact ⟨fun i hi=>by rw [if_pos hi,zaW,if_pos hok],(decide_eq_true hok).symm⟩

def qpJ (f:Nat->Int):LA:={ T:=Unit,F:=fun _=>frm 25 [(4,.nils),(11,fanA f),(12,i64 0)],H:=fun i=>[.fence,.cells 184 (fanV f)] }
def qpI (f:Nat->Int):LA:={ T:=Nat×Nat,F:=fun s=>frm 25 [(4,.sl 2 [] 0 1 0 (2*s.1) s.2),(11,fanA f),(12,i64 (s.1:Nat))],H:=fun s=>[.fence,.cells 184 (fanV f),.row 5 1 s.2 (2*s.1) (fun i=>[.int .u8 (((kidsL f s.1).getD i 0:Nat):Int)])],ρ₂:=zuY 4 2 }

theorem putFanV:(
 let q1:Prop:=(0:Int)<(↑(16:Nat):Int);
 let q2:Int:=0+1;
 let q3:Prop:=(5:TypeId)=5; ∀(x:Nat->Int),
 let q4:Prop:=1=1/\16=16/\(∀(i:Nat),i<16->[AV.int .i64 (x i)]=[AV.int .i64 (x i)])/\True;
 let q5:Prop:=184=(184:TypeId)/\q4;
 let q6:Prop:=(184:TypeId)=184/\q4;
 let q7:Prop:=true=true/\q6/\True; (∀(i:Nat),i<16->I64 (x i))->Exx (Nat->Int) fun x_1=>(((1=1/\16=16/\(∀(i:Nat),i<16->[AV.int .i64 (x i)]=[AV.int .i64 (x_1 i)])/\True)/\True)/\true=true/\True)/\(∀(i:Nat),i<16->I64 (x_1 i))/\∀(y:Unit),True->BC (!decide (zeT x_1)) (Exx Nat fun y=>(((((putFanL x).length=0/\y=0)/\false=decide (zeT x)/\True)/\True)/\true=true/\(y=0/\(putFanL x).length=0)/\True)/\(putFanL x).length <= y) (Exx (Unit->Prop) fun I=>Exx (Nat×Nat->Prop) fun J=>Exx (Unit->Nat) fun m=>Exx (Nat×Nat->Nat) fun n=>((Exx Unit fun t=>I t/\Tr 11 (q4/\Tr 1 ((0:Int)=0)/\Tr 12 True)/\true=true/\q5/\True)\/Exx (Nat×Nat) fun t =>
 let q8:Prop:=2*t.1=0; J t/\Tr 4 ((q8/\t.2=0)/\Tr 6 (q4/\Tr 1 (0=(t.1:Int))/\Tr 12 True))/\true=true/\q5/\(t.2=0/\q8)/\True)/\(∀(t:Unit),I t->((0:Int) <= (0:Int)/\q1/\q1)/\∀(m_1:Int),m_1=IntKind.u64.wrap (x (Int.toNat 0))->Exx (Nat×Int) fun x_2=>((Tr 1 (m_1=(x_2.1:Int))/\Tr 1 ((2:Int)=x_2.2)/\True)/\true=true/\True)/\(U64 x_2.1/\I64 x_2.2)/\∀(y:Nat),(layL x_2.1 x_2.2).length <= y->0+(layL x_2.1 x_2.2).length <= (layL x_2.1 x_2.2).length/\((layL x_2.1 x_2.2).length <= 9223372036854775807/\(layL x_2.1 x_2.2).length*1 <= 140737488355328)/\∀(cap:Nat),(layL x_2.1 x_2.2).length <= cap/\cap <= 9223372036854775807->I64 q2/\((Exx Unit fun t'=>(I t'/\m t'<m t)/\Tr 4 (False/\Tr 6 (q4/\Tr 1 (q2=(0:Int))/\Tr 12 True))/\q7)\/Exx (Nat×Nat) fun t' =>
 let q9:Nat:=2*t'.fst; (J t'/\n t'<m t)/\Tr 4 ((true=true/\zaC/\0=0/\1=1/\0=0/\(layL x_2.1 x_2.2).length=q9/\cap=t'.snd)/\Tr 6 (q4/\Tr 1 (q2=(↑t'.fst:Int))/\Tr 12 True))/\true=true/\q6/\(q3/\1=1/\cap=t'.snd/\q9 <= (layL x_2.1 x_2.2).length/\∀(i:Nat),i<q9->[AV.int .u8 (↑((layL x_2.1 x_2.2).getD (0+i) 0):Int)]=[AV.int .u8 (↑((kidsL x t'.fst).getD i 0):Int)])/\True))/\∀(t:Nat×Nat),
 let q10:Prop:=(t.1:Int)<(↑(16:Nat):Int);
 let q11:Nat:=2*t.1;
 let q12:Int:=(t.1:Int)+1; J t->BC (decide ((t.1:Int)<(16:Int))) (((0:Int) <= (t.1:Int)/\q10/\q10)/\∀(m_1:Int),m_1=IntKind.u64.wrap (x (t.1:Int).toNat)->Exx (Nat×Int) fun x_2 =>
 let q13:Nat:=q11+(layL x_2.1 x_2.2).length; ((Tr 1 (m_1=(x_2.1:Int))/\Tr 1 ((2:Int)=x_2.2)/\True)/\true=true/\True)/\(U64 x_2.1/\I64 x_2.2)/\∀(y:Nat),(layL x_2.1 x_2.2).length <= y->0+(layL x_2.1 x_2.2).length <= (layL x_2.1 x_2.2).length/\true=true/\(q11 <= q11/\t.2=t.2)/\(q13 <= 9223372036854775807/\q13*1 <= 140737488355328)/\∀(cap:Nat),q13 <= cap/\cap <= 9223372036854775807->I64 q12/\((Exx Unit fun t'=>(I t'/\m t'<n t)/\Tr 4 (False/\Tr 6 (q4/\Tr 1 (q12=(0:Int))/\Tr 12 True))/\q7)\/Exx (Nat×Nat) fun t' =>
 let q14:Nat:=2*t'.fst; (J t'/\n t'<n t)/\Tr 4 ((true=true/\zaC/\0=0/\1=1/\0=0/\q13=q14/\cap=t'.snd)/\Tr 6 (q4/\Tr 1 (q12=(↑t'.fst:Int))/\Tr 12 True))/\true=true/\q6/\(q3/\1=1/\cap=t'.snd/\q14 <= q13/\∀(i:Nat),i<q14->(if i<q11 then [AV.int .u8 (↑((kidsL x t.1).getD i 0):Int)] else [AV.int .u8 (↑((layL x_2.1 x_2.2).getD (0+(i-q11)) 0):Int)])=[AV.int .u8 (↑((kidsL x t'.fst).getD i 0):Int)])/\True)) (Exx (Int×Int×List Nat) fun x_2 =>
 let q15:List Nat:=zkI x_2.1 x_2.2.1 x_2.2.2;
 let q16:Nat:=q15.length; ((Tr 1 ((3:Int)=x_2.1)/\Tr 1 ((0:Int)=x_2.2.1)/\(0+q11 <= q11/\q11=x_2.2.2.length/\∀(i:Nat),i<x_2.2.2.length->[AV.int .u8 (↑((kidsL x t.1).getD (0+i) 0):Int)]=[AV.int .u8 (↑(x_2.2.2.getD i 0):Int)])/\True)/\true=true/\True)/\(I64 x_2.1/\I64 x_2.2.1/\Oct x_2.2.2)/\∀(y:Nat),q16 <= y->Exx Nat fun y_1=>((((true=true/\zaC/\0=0/\1=1/\0=0/\q16=(putFanL x).length/\y=y_1)/\decide (zgO x_2.1 x_2.2.1 x_2.2.2)=decide (zeT x)/\True)/\True)/\true=true/\(q3/\1=1/\y=y_1/\(putFanL x).length <= q16/\∀(i:Nat),i<(putFanL x).length->[AV.int .u8 (↑(q15.getD i 0):Int)]=[AV.int .u8 (↑((putFanL x).getD i 0):Int)])/\True)/\(putFanL x).length <= y_1)))=(zcA tb [(129,zaA layC),(130,zaA qjC),(196,zaA zlX)] Tryz.f173 qa7 (fun x=>{ loops2:=[(5,qpJ x,qpI x)] }) (fun _ av _=>qdB av) (fun _=>[]) (fun _ _ _ _=>[])):=by kernel_rfl

theorem qjY:SpecOk Tryz.prog 173 (zaA qa7):=by
 refine za0 zaM zaL (SPok.cons zyM (SPok.cons qaM (SPok.cons zqG SPok.nil))) Tryz.func173 (by decide) (zgW fun _ _ _=>⟨rfl,rfl,trivial⟩) (Eq.mp putFanV ?_)
 simp (maxSteps:=10000000) only [std,stdU,stdV,Exx,I64,Nat.reduceMul,Nat.reduceDiv,Nat.reduceAdd,Int.reduceToNat]
 rintro f hf
 refine ⟨f,fun _ _=>rfl,hf,fun hn=>?_,fun hok=>?_⟩
 ·rw [putFanL,if_neg hn]; exact ⟨rfl,(decide_eq_false hn).symm,rfl,Nat.le_refl _⟩
 have hk:∀i,i<16->0 <= f i/\f i <= 3071:=fun i hi=>by have:=hok i hi; unfold zgZ at this; omega
 have hone:kidsL f 1=layN (f 0).toNat 2:=by rw [ze1]; rfl
 refine ⟨fun _=>True,fun s=>1 <= s.1/\s.1 <= 16,.inl ⟨(),trivial⟩,fun _=>17,fun s=>16-s.1,fun _ _=>?_,fun a b hab=>⟨fun hlt=>?_,fun hge=>?_⟩⟩
 ·have h0:=hk 0 (by omega)
  refine ⟨by omega,by omega,by omega,(f 0).toNat,zbK h0.1 (by omega),by unfold U64; omega,by omega,by omega,fun y hy=>?_⟩
  rw [qk8,zaE]
  exact ⟨by omega,by omega,fun cap hcap=>⟨by omega,by omega,1,cap,⟨by omega,by omega⟩,by simp only; omega,rfl,rfl,rfl,rfl,by omega,fun i hi=>by rw [hone]⟩⟩
 ·obtain ⟨h1,h16⟩:=hab
  have h0:=hk a (by omega)
  refine ⟨by omega,by omega,by omega,(f a).toNat,zbK h0.1 (by omega),by unfold U64; omega,by omega,by omega,fun y hy=>?_⟩
  rw [qk8,zaE]
  exact ⟨by omega,by omega,fun cap hcap=>⟨by omega,by omega,a+1,cap,⟨by simp only; omega,by simp only; omega⟩,by simp only; omega,by omega,rfl,by omega,rfl,by omega,fun i hi=>by
   rw [ze1]; exact snoc1 (c:=fun v=>[AV.int IntKind.u8 ((v:Nat):Int)]) (zb1 f a)⟩⟩
 ·obtain ⟨h1,h16⟩:=hab
  have ha:a=16:=by simp only at h16; omega
  subst ha
  have hsl:=zb1 f 16
  have hse:zgO 3 0 (kidsL f 16):=⟨by omega,by omega,by omega,by omega,by omega⟩
  refine ⟨kidsL f 16,hsl.symm,fun _ _=>rfl,by omega,by omega,by omega,by omega,⟨zmE f 16,by omega⟩,fun y hy=>?_⟩
  have e:zkI 3 0 (kidsL f 16)=putFanL f:=by rw [zkI,if_pos hse,putFanL,if_pos hok]; rfl
  rw [e] at hy ⊢
  exact ⟨rfl,decide_eq_decide.2 ⟨fun _=>hok,fun _=>hse⟩,Nat.le_refl _,fun _ _=>rfl,hy⟩

def qqE (b:List Nat):LA:={ T:=Nat×Nat,F:=fun s=>frm 57 [(2,.ptr 1 [] 0),(6,.sl 2 [] 0 1 0 56 s.2),(8,.ptr 3 [] 0),(36,i64 (s.1:Nat))],H:=fun s=>[.fence,.cells 184 (fanV fun _=>0),.row 5 1 s.2 56 (fun i=>[.int .u8 (((b.drop 8).getD i 0:Nat):Int)]),.cells 184 [.arr 1 16 (fun i=>[i64 (if i<s.1 then zd0 b i else 0)])]] }

theorem getFanV:(
 let q1:Prop:=true=true/\zaC/\0=0;
 let q2:Prop:=1=1/\16=16/\(∀(i:Nat),i<16->[AV.int .i64 (0:Int)]=[AV.int .i64 (0:Int)])/\True;
 let q3:Prop:=(5:TypeId)=5;
 let q4:Prop:=(184:TypeId)=184; ∀(x:List Nat),
 let q5:Prop:=Exx Unit fun y=>((((1=1/\16=16/\(∀(i:Nat),i<16->[AV.int .i64 0]=[AV.int .i64 (zcE x i)])/\True)/\false=decide (zgF x)/\True)/\True)/\true=true/\True)/\True; Oct x->Exx (List Nat) fun x_1 =>
 let q6:Int:=(↑(zbC x_1).length:Int)-32; (((x.length=x_1.length/\∀(i:Nat),i<x_1.length->[AV.int .u8 (↑(x.getD i 0):Int)]=[AV.int .u8 (↑(x_1.getD i 0):Int)])/\True)/\true=true/\True)/\Oct x_1/\∀(y:Nat),(zbC x_1).length <= y->BC (!decide (zb0 x_1)) q5 (BC (!decide ((↑(ze0 x_1):Int)=(3:Int))) q5 (BC (!decide ((↑(tagN x_1):Int)=(0:Int))) q5 (I64 q6/\Exx (List Nat×Int×Int) fun x_2=>(((0+(zbC x_1).length <= (zbC x_1).length/\(zbC x_1).length=x_2.1.length/\∀(i:Nat),i<x_2.1.length->[AV.int .u8 (↑((zbC x_1).getD (0+i) 0):Int)]=[AV.int .u8 (↑(x_2.1.getD i 0):Int)])/\Tr 1 ((32:Int)=x_2.2.1)/\Tr 1 (q6=x_2.2.2)/\True)/\true=true/\True)/\(Oct x_2.1/\I64 x_2.2.1/\I64 x_2.2.2)/\∀(y_1:Unit),True->BC (!zdP x_2.1 x_2.2.1 x_2.2.2) q5 (Exx (Nat×Nat->Prop) fun I=>Exx (Nat×Nat->Nat) fun m=>(Exx (Nat×Nat) fun t=>I t/\Tr 2 (q1/\Tr 3 ((true=true/\zaC/\0=0/\1=1/\0=0/\(zbC x_1).length=56/\y=t.2)/\Tr 1 (q1/\Tr 27 (Tr 1 (0=(t.1:Int))/\Tr 20 True))))/\true=true/\(184=(184:TypeId)/\q2)/\(q3/\1=1/\y=t.2/\56 <= (zbC x_1).length/\∀(i:Nat),i<56->[AV.int .u8 (↑((zbC x_1).getD i 0):Int)]=[AV.int .u8 (↑((List.drop 8 x).getD i 0):Int)])/\(184=(184:TypeId)/\1=1/\16=16/\(∀(i:Nat),i<16->[AV.int .i64 0]=[AV.int .i64 (if i<t.1 then zd0 x i else 0)])/\True)/\True)/\∀(t:Nat×Nat),
 let q7:Int:=2*(t.1:Int);
 let q8:Int:=(t.1:Int)+1;
 let q9:Prop:=I64 q8;
 let q10:Int:=2*q8;
 let q11:Nat:=q7.toNat;
 let q12:Nat:=q10.toNat;
 let q13:Nat:=0+q11;
 let q14:Nat:=q12-q11; I t->BC (decide ((t.1:Int)<(16:Int))) (I64 q7/\q9/\I64 q10/\(0:Int) <= q10/\(0:Int) <= q7/\(q11 <= q12/\q12 <= t.2)/\Exx (List Nat) fun x_3=>(((q13+q14 <= 56/\q14=x_3.length/\∀(i:Nat),i<x_3.length->[AV.int .u8 (↑((List.drop 8 x).getD (q13+i) 0):Int)]=[AV.int .u8 (↑(x_3.getD i 0):Int)])/\True)/\true=true/\True)/\Oct x_3/\∀(y:Unit),True->∀(m_1:Int),m_1=IntKind.i64.wrap (↑(za8 x_3):Int)->((0:Int) <= (t.1:Int)/\(t.1:Int)<(↑(16:Nat):Int))/\(t.1:Int).toNat<16/\q9/\Exx (Nat×Nat) fun t'=>(I t'/\m t'<m t)/\Tr 2 (q1/\Tr 3 ((true=true/\zaC/\0=0/\1=1/\0=0/\56=56/\t.2=t'.snd)/\Tr 1 (q1/\Tr 27 (Tr 1 (q8=(↑t'.fst:Int))/\Tr 20 True))))/\true=true/\(q4/\q2)/\(q3/\1=1/\t.2=t'.snd/\56 <= 56/\∀(i:Nat),
 let q15:List AV:=[AV.int .u8 (↑((List.drop 8 x).getD i 0):Int)]; i<56->q15=q15)/\(q4/\1=1/\16=16/\(∀(i:Nat),i<16->[AV.int .i64 (if i=(t.1:Int).toNat then m_1 else if i<t.1 then zd0 x i else 0)]=[AV.int .i64 (if i<t'.fst then zd0 x i else 0)])/\True)/\True) (Exx (Nat->Int) fun x_3=>(((1=1/\16=16/\(∀(i:Nat),i<16->[AV.int .i64 (if i<t.1 then zd0 x i else 0)]=[AV.int .i64 (x_3 i)])/\True)/\True)/\true=true/\True)/\(∀(i:Nat),i<16->I64 (x_3 i))/\∀(y:Unit),True->BC (!decide (zeT x_3)) q5 (Exx Unit fun y=>((((1=1/\16=16/\(∀(i:Nat),i<16->[AV.int .i64 (if i<t.1 then zd0 x i else 0)]=[AV.int .i64 (zcE x i)])/\True)/\true=decide (zgF x)/\True)/\True)/\true=true/\True)/\True)))))))=(fnVC tb [(121,zaA qkF),(124,zaA zmA),(157,zaA qa3),(196,zaA zlX)] Tryz.f206 zrK (fun x=>{ loops:=[(6,qqE x)] }) (fun _=>none)):=by kernel_rfl

theorem qlR:SpecOk Tryz.prog 206 (zaA zrK):=by
 refine zaK zaM zaL (SPok.cons qbG (SPok.cons znP (SPok.cons zqO (SPok.cons zqG SPok.nil)))) Tryz.func206 (by decide) (zaO fun _=>⟨⟨fun _ _=>⟨rfl,trivial⟩,trivial⟩,rfl,trivial⟩) (Eq.mp getFanV ?_)
 simp (maxSteps:=10000000) only [std,stdU,stdV,Exx,I64,Nat.reduceMul,Nat.reduceDiv,Nat.reduceAdd,Int.reduceToNat]
 rintro b ⟨hb,hl⟩
 refine ⟨⟨hb,hl⟩,fun y hy=>?_⟩
 have hno:¬zgF b->((∀i,i<16->[AV.int IntKind.i64 0]=[AV.int IntKind.i64 (zcE b i)])/\false=decide (zgF b)):=fun h =>
  ⟨fun i _=>by rw [zcE,if_neg h],(decide_eq_false h).symm⟩
 refine ⟨fun h=>hno (fun k=>h k.1),fun hr=>⟨fun h=>hno (fun k=>h (by rw [ze0,if_pos hr,k.2.1]; rfl)),fun hk=>⟨fun h=>hno (fun k=>h (by rw [tagN,if_pos hr,k.2.2.1]; rfl)),fun ht=>?_⟩⟩⟩
 have h64:=hr.1
 have hB:zbC b=b.drop 8:=if_pos hr
 have hK:b.getD 4 0=3:=by rw [ze0,if_pos hr] at hk; omega
 have hT:b.getD 5 0=0:=by rw [tagN,if_pos hr] at ht; omega
 have hlen:(b.drop 8).length=56:=by rw [List.length_drop]; omega
 rw [hB] at hy ⊢
 have hob:Oct (b.drop 8):=⟨fun x hx=>hb x (List.mem_of_mem_drop hx),by omega⟩
 rw [hlen,show ((56:Nat):Int)-32=24 by rfl]
 rw [hlen] at hy
 refine ⟨by omega,by omega,hob,by omega,by omega,by omega,by omega,fun hn=>hno (fun k=>by rw [k.2.2.2.1] at hn; cases hn),fun hz=>?_⟩
 refine ⟨fun s=>s.1 <= 16/\56 <= s.2,⟨0,y,⟨by omega,by simpa using hy⟩,rfl,rfl,rfl,rfl,by omega,fun _ _=>rfl,fun i _=>rfl⟩,fun s=>16-s.1,fun a c hac=>⟨fun hlt=>?_,fun hge=>?_⟩⟩
 ·obtain ⟨ha7,hc⟩:=hac
  simp only at ha7 hc
  have e8:(2*(a:Int)).toNat=2*a:=by omega
  have e9:(2*((a:Int)+1)).toNat=2*a+2:=by omega
  rw [e8,e9,show 2*a+2-2*a=2 by omega]
  have hd1:((b.drop (8+2*a)).take 2).length=2:=by rw [List.length_take,List.length_drop]; omega
  have hn1:=ztK (l:=b.drop (8+2*a)) (k:=2) (fun c hc=>hb c (List.mem_of_mem_drop hc)) (by omega)
  have hr1:za8 ((b.drop (8+2*a)).take 2)=numN ((b.drop (8+2*a)).take 2):=zjZ (by omega)
  have hw1:IntKind.i64.wrap ((za8 ((b.drop (8+2*a)).take 2):Nat):Int)=zd0 b a:=by rw [hr1]; exact zbP ⟨by omega,by omega⟩
  refine ⟨by omega,by omega,by omega,by omega,by omega,by omega,by omega,by omega,by omega,by omega,by omega,(b.drop (8+2*a)).take 2,hd1.symm,fun i hi=>?_,⟨fun x hx=>hb x (List.mem_of_mem_drop (List.mem_of_mem_take hx)),by omega⟩,by omega,by omega,by omega,by omega,by omega,a+1,c,⟨by simp only; omega,hc⟩,by simp only; omega,rfl,by omega,rfl,fun i hi=>?_⟩
  ·rw [hd1] at hi
   rw [za9,if_pos hi,za4,za4,show 8+(2*a+i)=8+2*a+i by omega]
  ·rw [hw1]
   by_cases e:i=a
   ·subst e; rw [if_pos rfl,if_pos (by omega)]
   ·rw [if_neg e]
    by_cases e2:i<a
    ·rw [if_pos e2,if_pos (by omega)]
    ·rw [if_neg e2,if_neg (by omega)]
 ·obtain ⟨ha7,hc⟩:=hac
  simp only at ha7 hc
  have ha:a=16:=by omega
  subst ha
  refine ⟨zd0 b,fun i hi=>by rw [if_pos hi],fun i hi=>qbX hb i,fun hn=>hno (fun k=>hn k.2.2.2.2),fun hok=>?_⟩
  have hok2:zgF b:=⟨hr,hK,hT,hz,hok⟩
  exact ⟨fun i hi=>by rw [if_pos hi,zcE,if_pos hok2],(decide_eq_true hok2).symm⟩


def zbH (slot:Int):Prop:=0 <= slot/\slot<1792
instance (slot:Int):Decidable (zbH slot):=by unfold zbH; infer_instance
def placeK (slot:Int) (j:Nat):Nat:=if zbH slot then (if j=0 then slot.toNat / 7 / 16 else if j=1 then slot.toNat / 7 % 16 else slot.toNat % 7) else 0
def qkA:Ctr:=zbN Int (fun x=>I64 x) (fun x=>[i64 x]) (fun x => .tup [i64 (placeK x 0:Nat),i64 (placeK x 1:Nat),i64 (placeK x 2:Nat),.bool (decide (zbH x))])

theorem placeV:(∀(x:Int),
 let q1:Prop:=Exx Unit fun y=>(((Tr 1 (0=(↑(placeK x 0):Int))/\Tr 1 (0=(↑(placeK x 1):Int))/\Tr 1 (0=(↑(placeK x 2):Int))/\false=decide (zbH x)/\True)/\True)/\true=true/\True)/\True; -9223372036854775808 <= x/\x <= (9223372036854775807:Int)->BC (decide (x<(0:Int))) q1 (BC (decide ((1792:Int) <= x)) q1 (7≠(0:Int)/\I64 (x.tdiv 7)/\16≠(0:Int)/\I64 ((x.tdiv 7).tdiv 16)/\16≠(0:Int)/\∀(n:Int),n=(x.tdiv 7).tmod 16->7≠(0:Int)/\∀(n_1:Int),n_1=x.tmod 7->Exx Unit fun y=>(((Tr 1 ((x.tdiv 7).tdiv 16=(↑(placeK x 0):Int))/\Tr 1 (n=(↑(placeK x 1):Int))/\Tr 1 (n_1=(↑(placeK x 2):Int))/\true=decide (zbH x)/\True)/\True)/\true=true/\True)/\True)))=(fnVC tb [] Tryz.f192 qkA (fun _=>{}) (fun _=>none)):=by kernel_rfl

theorem qpQ:SpecOk Tryz.prog 192 (zaA qkA):=by
 refine zaK zaM zaL SPok.nil Tryz.func192 (by decide) (zaO fun _=>⟨rfl,rfl,rfl,rfl,trivial⟩) (Eq.mp placeV ?_)
 simp (maxSteps:=10000000) only [std,stdU,stdV,Exx,I64,Nat.reduceMul,Nat.reduceDiv,Nat.reduceAdd,Int.reduceToNat]
 rintro x ⟨h1,h2⟩
 have hno:¬zbH x->((0:Int)=(placeK x 0:Nat)/\(0:Int)=(placeK x 1:Nat)/\(0:Int)=(placeK x 2:Nat)/\false=decide (zbH x)):=fun h=>by
  rw [placeK,if_neg h,placeK,if_neg h,placeK,if_neg h]; exact ⟨rfl,rfl,rfl,(decide_eq_false h).symm⟩
 refine ⟨fun h=>hno (fun k=>by have:=k.1; omega),fun h0=>⟨fun h=>hno (fun k=>by have:=k.2; omega),fun h3=>?_⟩⟩
 obtain ⟨n,rfl⟩:∃n:Nat,x=(n:Int):=⟨x.toNat,by omega⟩
 have hp:zbH (n:Int):=⟨by omega,by omega⟩
 have e1:(n:Int).tdiv 7=((n / 7:Nat):Int):=rfl
 have e2:((n / 7:Nat):Int).tdiv 16=((n / 7 / 16:Nat):Int):=rfl
 have e3:((n / 7:Nat):Int).tmod 16=((n / 7 % 16:Nat):Int):=rfl
 have e4:(n:Int).tmod 7=((n % 7:Nat):Int):=rfl
 have k0:placeK (n:Int) 0=n / 7 / 16:=by simp [placeK,hp]
 have k1:placeK (n:Int) 1=n / 7 % 16:=by simp [placeK,hp]
 have k2:placeK (n:Int) 2=n % 7:=by simp [placeK,hp]
 rw [e1,e2,e3,e4,k0,k1,k2]
 exact ⟨by omega,by omega,by omega,by omega,by omega,by omega,by omega,by omega,rfl,rfl,rfl,(decide_eq_true hp).symm⟩

def fanErr (ws:List Nat) (a:Int):Int:=if a=0 then 0 else if za3 ws a=0 then (if zgF (zaV ws a) then 0 else 31) else za3 ws a
def fanF (ws:List Nat) (a:Int) (i:Nat):Int:=if a=0 then 0 else zcE (zaV ws a) i
def zbI (ws:List Nat) (a:Int):Int:=if a=0 then 0 else if za3 ws a=0 then (if zdB (zaV ws a) then 0 else 31) else za3 ws a
def zc6 (ws:List Nat) (a:Int) (i:Nat):SeatT:=if a=0 then seatZ else zaW (zaV ws a) i
def zp4:Ctr:=za5 Int (fun x=>I64 x.2) (fun x=>[i64 x.2]) (fun x=>x.1) (fun x => .tup [fanA (fanF x.1.ws x.2),i64 (fanErr x.1.ws x.2)])
def zm6:Ctr:=za5 Int (fun x=>I64 x.2) (fun x=>[i64 x.2]) (fun x=>x.1) (fun x => .tup [qbV (zc6 x.1.ws x.2),i64 (zbI x.1.ws x.2)])

theorem zi2 (ws:List Nat) (a:Int):Oct (zaV ws a):=by
 unfold zaV
 split
 ·refine ⟨zj4 _,?_⟩
  rw [zbW,zhI,List.length_take]; omega
 ·exact ⟨by simp,by simp⟩
theorem zyJ {ws:List Nat} {a:Int} (h:¬za3 ws a=0):zaV ws a=[]:=by rw [zaV,if_neg (fun k=>h (zcH.2 k))]
theorem qbK:¬zgF []:=fun k=>by have:=k.1.1; simp at this
theorem zyD:¬zdB []:=fun k=>by have:=k.1.1; simp at this
theorem zt7 (ws:List Nat) (a:Int) (i:Nat):I64 (fanF ws a i):=by
 unfold fanF zcE
 split
 ·exact ⟨by omega,by omega⟩
 ·split
  ·exact qbX (zi2 ws a).1 i
  ·exact ⟨by omega,by omega⟩
theorem qbU (ws:List Nat) (a:Int) (i:Nat):zdE (zc6 ws a i):=by
 have hz:zdE seatZ:=⟨⟨by simp only [seatZ]; omega,by simp only [seatZ]; omega⟩,⟨by simp only [seatZ]; omega,by simp only [seatZ]; omega⟩⟩
 unfold zc6 zaW
 split
 ·exact hz
 ·split
  ·exact zuW (zi2 ws a).1 i
  ·exact hz

theorem qiN:(
 let q1:Prop:=true=true/\zaC/\0=0;
 let q2:Prop:=(107:TypeId)=107/\q1/\q1/\True; ∀(x:StoreT×Int),
 let q3:Prop:=1=1/\16=16/\(∀(i:Nat),i<16->[AV.int .i64 0]=[AV.int .i64 (fanF x.1.ws x.2 i)])/\True;
 let q4:Prop:=Tr 1 ((0:Int)=fanErr x.1.ws x.2)/\True; zaG x.1/\I64 x.2->BC (decide (x.2=(0:Int))) (Exx Unit fun y=>(((q3/\q4)/\True)/\q2/\devB x.1.ws=devB x.1.ws/\zaB x.1.a=zaB x.1.a/\true=true/\True)/\True) (Exx (StoreT×Int) fun x_1 =>
 let q5:Prop:=q2/\devB x_1.1.ws=devB x.1.ws/\zaB x_1.1.a=zaB x.1.a/\true=true/\True; ((q1/\Tr 1 (x.2=x_1.2)/\True)/\true=true/\q2/\devB x.1.ws=devB x_1.1.ws/\zaB x.1.a=zaB x_1.1.a/\True)/\(zaG x_1.1/\I64 x_1.2)/\∀(y:Nat),(zaV x_1.1.ws x_1.2).length <= y->BC (!decide (za3 x_1.1.ws x_1.2=(0:Int))) (Exx Unit fun y=>(((q3/\Tr 1 (za3 x_1.1.ws x_1.2=fanErr x.1.ws x.2)/\True)/\True)/\q5)/\True) (Exx (List Nat) fun x_2=>(((0+(zaV x_1.1.ws x_1.2).length <= (zaV x_1.1.ws x_1.2).length/\(zaV x_1.1.ws x_1.2).length=x_2.length/\∀(i:Nat),i<x_2.length->[AV.int .u8 (↑((zaV x_1.1.ws x_1.2).getD (0+i) 0):Int)]=[AV.int .u8 (↑(x_2.getD i 0):Int)])/\True)/\true=true/\True)/\Oct x_2/\∀(y:Unit),True->BC (!decide (zgF x_2)) (Exx Unit fun y=>(((q3/\Tr 1 ((31:Int)=fanErr x.1.ws x.2)/\True)/\True)/\q5)/\True) (Exx Unit fun y=>((((1=1/\16=16/\(∀(i:Nat),i<16->[AV.int .i64 (zcE x_2 i)]=[AV.int .i64 (fanF x.1.ws x.2 i)])/\True)/\q4)/\True)/\q5)/\True))))=(fnVC tb [(85,zaA zg8),(206,zaA zrK)] Tryz.f193 zp4 (fun _=>{}) (fun _=>none)):=by kernel_rfl

theorem qaB:SpecOk Tryz.prog 193 (zaA zp4):=by
 refine zaK zaM zaL (SPok.cons zkT (SPok.cons qlR SPok.nil)) Tryz.func193 (by decide) (zaR fun _=>⟨⟨fun _ _=>⟨rfl,trivial⟩,trivial⟩,rfl,trivial⟩) (Eq.mp qiN ?_)
 simp (maxSteps:=10000000) only [std,stdU,stdV,Exx,I64,Nat.reduceMul,Nat.reduceDiv,Nat.reduceAdd,Int.reduceToNat,zaQ,zaI]
 rintro s a ⟨h,h1,h2⟩
 refine ⟨fun h0=>⟨fun i _=>by rw [fanF,if_pos h0],by rw [fanErr,if_pos h0]⟩,fun hne=>⟨s,rfl,rfl,h,h1,h2,fun y hy=>⟨fun hl=>⟨fun i _=>?_,?_,rfl,rfl⟩,fun hl=>⟨zi2 _ _,fun hn=>⟨fun i _=>?_,?_,rfl,rfl⟩,fun hf=>⟨fun i _=>by rw [fanF,if_neg hne],?_,rfl,rfl⟩⟩⟩⟩⟩
 ·rw [fanF,if_neg hne,zyJ hl,zcE,if_neg qbK]
 ·rw [fanErr,if_neg hne,if_neg hl]
 ·rw [fanF,if_neg hne,zcE,if_neg hn]
 ·rw [fanErr,if_neg hne,if_pos hl,if_neg hn]
 ·rw [fanErr,if_neg hne,if_pos hl,if_pos hf]

theorem qfI:(
 let q1:List AV:=[AV.bool false,AV.int .i64 0,AV.int .i64 0];
 let q2:Prop:=true=true/\zaC/\0=0;
 let q3:Prop:=(107:TypeId)=107/\q2/\q2/\True; ∀(x:StoreT×Int),
 let q4:Prop:=3=3/\7=7/\(∀(i:Nat),i<7->q1=[AV.bool (zc6 x.1.ws x.2 i).live,AV.int .i64 (zc6 x.1.ws x.2 i).gen,AV.int .i64 (zc6 x.1.ws x.2 i).next])/\True;
 let q5:Prop:=Tr 1 ((0:Int)=zbI x.1.ws x.2)/\True; zaG x.1/\I64 x.2->BC (decide (x.2=(0:Int))) (Exx Unit fun y=>(((q4/\q5)/\True)/\q3/\devB x.1.ws=devB x.1.ws/\zaB x.1.a=zaB x.1.a/\true=true/\True)/\True) (Exx (StoreT×Int) fun x_1 =>
 let q6:Prop:=q3/\devB x_1.1.ws=devB x.1.ws/\zaB x_1.1.a=zaB x.1.a/\true=true/\True; ((q2/\Tr 1 (x.2=x_1.2)/\True)/\true=true/\q3/\devB x.1.ws=devB x_1.1.ws/\zaB x.1.a=zaB x_1.1.a/\True)/\(zaG x_1.1/\I64 x_1.2)/\∀(y:Nat),(zaV x_1.1.ws x_1.2).length <= y->BC (!decide (za3 x_1.1.ws x_1.2=(0:Int))) (Exx Unit fun y=>(((q4/\Tr 1 (za3 x_1.1.ws x_1.2=zbI x.1.ws x.2)/\True)/\True)/\q6)/\True) (Exx (List Nat) fun x_2=>(((0+(zaV x_1.1.ws x_1.2).length <= (zaV x_1.1.ws x_1.2).length/\(zaV x_1.1.ws x_1.2).length=x_2.length/\∀(i:Nat),i<x_2.length->[AV.int .u8 (↑((zaV x_1.1.ws x_1.2).getD (0+i) 0):Int)]=[AV.int .u8 (↑(x_2.getD i 0):Int)])/\True)/\true=true/\True)/\Oct x_2/\∀(y:Unit),True->BC (!decide (zdB x_2)) (Exx Unit fun y=>(((q4/\Tr 1 ((31:Int)=zbI x.1.ws x.2)/\True)/\True)/\q6)/\True) (Exx Unit fun y=>((((3=3/\7=7/\(∀(i:Nat),i<7->[AV.bool (zaW x_2 i).live,AV.int .i64 (zaW x_2 i).gen,AV.int .i64 (zaW x_2 i).next]=[AV.bool (zc6 x.1.ws x.2 i).live,AV.int .i64 (zc6 x.1.ws x.2 i).gen,AV.int .i64 (zc6 x.1.ws x.2 i).next])/\True)/\q5)/\True)/\q6)/\True))))=(fnVC tb [(85,zaA zg8),(207,zaA zmJ)] Tryz.f194 zm6 (fun _=>{}) (fun _=>none)):=by kernel_rfl

theorem zw8:SpecOk Tryz.prog 194 (zaA zm6):=by
 refine zaK zaM zaL (SPok.cons zkT (SPok.cons qgY SPok.nil)) Tryz.func194 (by decide) (zaR fun _=>⟨⟨fun _ _=>⟨rfl,rfl,rfl,trivial⟩,trivial⟩,rfl,trivial⟩) (Eq.mp qfI ?_)
 simp (maxSteps:=10000000) only [std,stdU,stdV,Exx,I64,Nat.reduceMul,Nat.reduceDiv,Nat.reduceAdd,Int.reduceToNat,zaQ,zaI]
 rintro s a ⟨h,h1,h2⟩
 refine ⟨fun h0=>⟨fun i _=>by rw [zc6,if_pos h0]; rfl,by rw [zbI,if_pos h0]⟩,fun hne=>⟨s,rfl,rfl,h,h1,h2,fun y hy=>⟨fun hl=>⟨fun i _=>?_,?_,rfl,rfl⟩,fun hl=>⟨zi2 _ _,fun hn=>⟨fun i _=>?_,?_,rfl,rfl⟩,fun hf=>⟨fun i _=>by rw [zc6,if_neg hne],?_,rfl,rfl⟩⟩⟩⟩⟩
 ·rw [zc6,if_neg hne,zyJ hl,zaW,if_neg zyD]; rfl
 ·rw [zbI,if_neg hne,if_neg hl]
 ·rw [zc6,if_neg hne,zaW,if_neg hn]; rfl
 ·rw [zbI,if_neg hne,if_pos hl,if_neg hn]
 ·rw [zbI,if_neg hne,if_pos hl,if_pos hf]

def wb1 (ws:List Nat) (top slot:Int):Int:=fanF ws top (placeK slot 0)
def wb2 (ws:List Nat) (top slot:Int):Int:=fanF ws (wb1 ws top slot) (placeK slot 1)
def zbA (ws:List Nat) (top slot:Int):Int :=
 if zbH slot then if fanErr ws top=0 then if fanErr ws (wb1 ws top slot)=0 then zbI ws (wb2 ws top slot) else fanErr ws (wb1 ws top slot) else fanErr ws top else 2
def wayB (ws:List Nat) (top slot:Int) (i:Nat):Int:=if zbA ws top slot=0 then (if i=0 then top else if i=1 then wb1 ws top slot else wb2 ws top slot) else 0
def wayK (ws:List Nat) (top slot:Int) (i:Nat):Nat:=if zbA ws top slot=0 then placeK slot i else 0
def wayT (ws:List Nat) (top slot:Int) (i:Nat):Int:=if zbA ws top slot=0 then fanF ws top i else 0
def wayF (ws:List Nat) (top slot:Int) (i:Nat):Int:=if zbA ws top slot=0 then fanF ws (wb1 ws top slot) i else 0
def wayL (ws:List Nat) (top slot:Int) (i:Nat):SeatT:=if zbA ws top slot=0 then zc6 ws (wb2 ws top slot) i else seatZ
def wayA (ws:List Nat) (top slot:Int):AV := .agg [.arr 1 3 (fun i=>[i64 (wayB ws top slot i)]),.arr 1 3 (fun i=>[i64 (wayK ws top slot i:Nat)]),.arr 1 16 (fun i=>[i64 (wayT ws top slot i)]),.arr 1 16 (fun i=>[i64 (wayF ws top slot i)]),.arr 3 7 (fun i=>qfQ (wayL ws top slot i))]
def qn7:Ctr:=za5 (Int×Int) (fun x=>I64 x.2.1/\I64 x.2.2) (fun x=>[i64 x.2.1,i64 x.2.2]) (fun x=>x.1) (fun x => .tup [wayA x.1.ws x.2.1 x.2.2,i64 (zbA x.1.ws x.2.1 x.2.2)])

theorem walkV:(
 let q1:Prop:=(0:Int) <= (0:Int)/\(0:Int)<(↑(3:Nat):Int);
 let q2:Prop:=(0:Int).toNat<3;
 let q3:Prop:=(0:Int) <= (1:Int)/\(1:Int)<(↑(3:Nat):Int);
 let q4:Prop:=(1:Int).toNat<3;
 let q5:Prop:=(0:Int) <= (2:Int)/\(2:Int)<(↑(3:Nat):Int);
 let q6:Prop:=(2:Int).toNat<3;
 let q7:List AV:=[AV.bool false,AV.int .i64 0,AV.int .i64 0];
 let q8:Prop:=true=true/\zaC/\0=0;
 let q9:Prop:=(107:TypeId)=107/\q8/\q8/\True; ∀(x:StoreT×Int×Int),
 let q11:Prop:=1=1/\3=3/\(∀(i:Nat),i<3->[AV.int .i64 0]=[AV.int .i64 (wayB x.1.ws x.2.1 x.2.2 i)])/\1=1/\3=3/\(∀(i:Nat),i<3->[AV.int .i64 0]=[AV.int .i64 (↑(wayK x.1.ws x.2.1 x.2.2 i):Int)])/\1=1/\16=16/\(∀(i:Nat),i<16->[AV.int .i64 0]=[AV.int .i64 (wayT x.1.ws x.2.1 x.2.2 i)])/\1=1/\16=16/\(∀(i:Nat),i<16->[AV.int .i64 0]=[AV.int .i64 (wayF x.1.ws x.2.1 x.2.2 i)])/\3=3/\7=7/\(∀(i:Nat),
 let q10:SeatT:=wayL x.1.ws x.2.1 x.2.2 i; i<7->q7=[AV.bool q10.live,AV.int .i64 q10.gen,AV.int .i64 q10.next])/\True;
 let q12:Int:=zbA x.1.ws x.2.1 x.2.2; zaG x.1/\I64 x.2.1/\I64 x.2.2->Exx Int fun x_1 =>
 let q13:Int:=if (0:Int).toNat=(2:Int).toNat then (↑(placeK x_1 2):Int) else if (0:Int).toNat=(1:Int).toNat then (↑(placeK x_1 1):Int) else if (0:Int).toNat=(0:Int).toNat then (↑(placeK x_1 0):Int) else 0;
 let q14:Nat:=q13.toNat;
 let q15:Int:=if (1:Int).toNat=(2:Int).toNat then (↑(placeK x_1 2):Int) else if (1:Int).toNat=(1:Int).toNat then (↑(placeK x_1 1):Int) else if (1:Int).toNat=(0:Int).toNat then (↑(placeK x_1 0):Int) else 0;
 let q16:Nat:=q15.toNat; ((Tr 1 (x.2.2=x_1)/\True)/\true=true/\True)/\(-9223372036854775808 <= x_1/\x_1 <= (9223372036854775807:Int))/\∀(y:Unit),True->q1/\q2/\q3/\q4/\q5/\q6/\BC (!decide (zbH x_1)) (Exx Unit fun y=>(((q11/\Tr 1 ((2:Int)=q12)/\True)/\True)/\q9/\devB x.1.ws=devB x.1.ws/\zaB x.1.a=zaB x.1.a/\true=true/\True)/\True) (q1/\q2/\q1/\q2/\Exx (StoreT×Int) fun x_2=>((q8/\Tr 1 ((if (0:Int).toNat=(0:Int).toNat then x.2.1 else 0)=x_2.2)/\True)/\true=true/\q9/\devB x.1.ws=devB x_2.1.ws/\zaB x.1.a=zaB x_2.1.a/\True)/\(zaG x_2.1/\I64 x_2.2)/\∀(y:Unit),True->BC (!decide (fanErr x_2.1.ws x_2.2=(0:Int))) (Exx Unit fun y=>(((q11/\Tr 1 (fanErr x_2.1.ws x_2.2=q12)/\True)/\True)/\q9/\devB x_2.1.ws=devB x.1.ws/\zaB x_2.1.a=zaB x.1.a/\true=true/\True)/\True) (q1/\q2/\((0:Int) <= q13/\q13<(↑(16:Nat):Int))/\q14<16/\q3/\q4/\q3/\q4/\Exx (StoreT×Int) fun x_3=>((q8/\Tr 1 ((if (1:Int).toNat=(1:Int).toNat then fanF x_2.1.ws x_2.2 q14 else if (1:Int).toNat=(0:Int).toNat then x.2.1 else 0)=x_3.2)/\True)/\true=true/\q9/\devB x_2.1.ws=devB x_3.1.ws/\zaB x_2.1.a=zaB x_3.1.a/\True)/\(zaG x_3.1/\I64 x_3.2)/\∀(y:Unit),True->BC (!decide (fanErr x_3.1.ws x_3.2=(0:Int))) (Exx Unit fun y=>(((q11/\Tr 1 (fanErr x_3.1.ws x_3.2=q12)/\True)/\True)/\q9/\devB x_3.1.ws=devB x.1.ws/\zaB x_3.1.a=zaB x.1.a/\true=true/\True)/\True) (q3/\q4/\((0:Int) <= q15/\q15<(↑(16:Nat):Int))/\q16<16/\q5/\q6/\q5/\q6/\Exx (StoreT×Int) fun x_4 =>
 let q17:Prop:=q9/\devB x_4.1.ws=devB x.1.ws/\zaB x_4.1.a=zaB x.1.a/\true=true/\True; ((q8/\Tr 1 ((if (2:Int).toNat=(2:Int).toNat then fanF x_3.1.ws x_3.2 q16 else if (2:Int).toNat=(1:Int).toNat then fanF x_2.1.ws x_2.2 q14 else if (2:Int).toNat=(0:Int).toNat then x.2.1 else 0)=x_4.2)/\True)/\true=true/\q9/\devB x_3.1.ws=devB x_4.1.ws/\zaB x_3.1.a=zaB x_4.1.a/\True)/\(zaG x_4.1/\I64 x_4.2)/\∀(y:Unit),True->BC (!decide (zbI x_4.1.ws x_4.2=(0:Int))) (Exx Unit fun y=>(((q11/\Tr 1 (zbI x_4.1.ws x_4.2=q12)/\True)/\True)/\q17)/\True) (Exx Unit fun y=>((((1=1/\3=3/\(∀(i:Nat),i<3->[AV.int .i64 (if i=Int.toNat 2 then fanF x_3.1.ws x_3.2 q16 else if i=Int.toNat 1 then fanF x_2.1.ws x_2.2 q14 else if i=Int.toNat 0 then x.2.1 else 0)]=[AV.int .i64 (wayB x.1.ws x.2.1 x.2.2 i)])/\1=1/\3=3/\(∀(i:Nat),i<3->[AV.int .i64 (if i=Int.toNat 2 then (↑(placeK x_1 2):Int) else if i=Int.toNat 1 then (↑(placeK x_1 1):Int) else if i=Int.toNat 0 then (↑(placeK x_1 0):Int) else 0)]=[AV.int .i64 (↑(wayK x.1.ws x.2.1 x.2.2 i):Int)])/\1=1/\16=16/\(∀(i:Nat),i<16->[AV.int .i64 (fanF x_2.1.ws x_2.2 i)]=[AV.int .i64 (wayT x.1.ws x.2.1 x.2.2 i)])/\1=1/\16=16/\(∀(i:Nat),i<16->[AV.int .i64 (fanF x_3.1.ws x_3.2 i)]=[AV.int .i64 (wayF x.1.ws x.2.1 x.2.2 i)])/\3=3/\7=7/\(∀(i:Nat),
 let q18:SeatT:=wayL x.1.ws x.2.1 x.2.2 i; i<7->[AV.bool (zc6 x_4.1.ws x_4.2 i).live,AV.int .i64 (zc6 x_4.1.ws x_4.2 i).gen,AV.int .i64 (zc6 x_4.1.ws x_4.2 i).next]=[AV.bool q18.live,AV.int .i64 q18.gen,AV.int .i64 q18.next])/\True)/\Tr 1 ((0:Int)=q12)/\True)/\True)/\q17)/\True)))))=(fnVC tb [(192,zaA qkA),(193,zaA zp4),(194,zaA zm6)] Tryz.f169 qn7 (fun _=>{}) (fun _=>none)):=by kernel_rfl

theorem qhY:SpecOk Tryz.prog 169 (zaA qn7):=by
 refine zaK zaM zaL (SPok.cons qpQ (SPok.cons qaB (SPok.cons zw8 SPok.nil))) Tryz.func169 (by decide) (zaR fun _=>⟨⟨fun _ _=>⟨rfl,trivial⟩,fun _ _=>⟨rfl,trivial⟩,fun _ _=>⟨rfl,trivial⟩,fun _ _=>⟨rfl,trivial⟩,fun _ _=>⟨rfl,rfl,rfl,trivial⟩,trivial⟩,rfl,trivial⟩) (Eq.mp walkV ?_)
 simp (maxSteps:=10000000) only [std,stdU,stdV,Exx,I64,Nat.reduceMul,Nat.reduceDiv,Nat.reduceAdd,Int.reduceToNat,zaQ,zaI]
 rintro s top slot ⟨h,h1,h2⟩
 have hb:¬zbA s.ws top slot=0->((∀i,i<3->[AV.int IntKind.i64 0]=[AV.int IntKind.i64 (wayB s.ws top slot i)])/\(∀i,i<3->[AV.int IntKind.i64 0]=[AV.int IntKind.i64 (wayK s.ws top slot i:Nat)])/\(∀i,i<16->[AV.int IntKind.i64 0]=[AV.int IntKind.i64 (wayT s.ws top slot i)])/\(∀i,i<16->[AV.int IntKind.i64 0]=[AV.int IntKind.i64 (wayF s.ws top slot i)])/\(∀i,i<7->[AV.bool false,AV.int IntKind.i64 0,AV.int IntKind.i64 0]=[AV.bool (wayL s.ws top slot i).live,AV.int IntKind.i64 (wayL s.ws top slot i).gen,AV.int IntKind.i64 (wayL s.ws top slot i).next])):=fun hn =>
  ⟨fun i _=>by rw [wayB,if_neg hn],fun i _=>by rw [wayK,if_neg hn]; rfl,fun i _=>by rw [wayT,if_neg hn],fun i _=>by rw [wayF,if_neg hn],fun i _=>by rw [wayL,if_neg hn]; rfl⟩
 have hf1:=zt7 s.ws top (placeK slot 0)
 have hf2:=zt7 s.ws (wb1 s.ws top slot) (placeK slot 1)
 have hk:zbH slot->placeK slot 0<16/\placeK slot 1<16:=fun hp=>by
  have:=hp.2
  have e0:placeK slot 0=slot.toNat / 7 / 16:=by simp [placeK,hp]
  have e1:placeK slot 1=slot.toNat / 7 % 16:=by simp [placeK,hp]
  omega
 refine ⟨h2.2.1,h2.2.2,by omega,by omega,by omega,by omega,by omega,by omega,by omega,by omega,by omega,fun hn=>?_,fun hp=>⟨by omega,by omega,by omega,by omega,by omega,by omega,s,rfl,rfl,h,h1,h2.1,fun hn=>?_,fun hz=>⟨by omega,by omega,by omega,(show (0:Int) <= (placeK slot 0:Nat) by omega),(show ((placeK slot 0:Nat):Int)<((16:Nat):Int) by have:=hk hp; omega),(show placeK slot 0<16 from (hk hp).1),by omega,by omega,by omega,by omega,by omega,by omega,s,rfl,rfl,h,hf1.1,hf1.2,fun hn=>?_,fun hz2=>⟨by omega,by omega,by omega,(show (0:Int) <= (placeK slot 1:Nat) by omega),(show ((placeK slot 1:Nat):Int)<((16:Nat):Int) by have:=hk hp; omega),(show placeK slot 1<16 from (hk hp).2),by omega,by omega,by omega,by omega,by omega,by omega,s,rfl,rfl,h,hf2.1,hf2.2,fun hn=>?_,fun hz3=>?_⟩⟩⟩⟩
 ·have e:zbA s.ws top slot=2:=by rw [zbA,if_neg hn]
  have g:=hb (by rw [e]; decide)
  exact ⟨g.1,g.2.1,g.2.2.1,g.2.2.2.1,g.2.2.2.2,e.symm⟩
 ·have e:zbA s.ws top slot=fanErr s.ws top:=by rw [zbA,if_pos hp,if_neg hn]
  have g:=hb (by rw [e]; exact hn)
  exact ⟨g.1,g.2.1,g.2.2.1,g.2.2.2.1,g.2.2.2.2,e.symm,rfl,rfl⟩
 ·have hn':¬fanErr s.ws (wb1 s.ws top slot)=0:=hn
  have e:zbA s.ws top slot=fanErr s.ws (wb1 s.ws top slot):=by rw [zbA,if_pos hp,if_pos hz,if_neg hn']
  have g:=hb (by rw [e]; exact hn')
  exact ⟨g.1,g.2.1,g.2.2.1,g.2.2.2.1,g.2.2.2.2,e.symm,rfl,rfl⟩
 ·have hz2':fanErr s.ws (wb1 s.ws top slot)=0:=hz2
  have hn':¬zbI s.ws (wb2 s.ws top slot)=0:=hn
  have e:zbA s.ws top slot=zbI s.ws (wb2 s.ws top slot):=by rw [zbA,if_pos hp,if_pos hz,if_pos hz2']
  have g:=hb (by rw [e]; exact hn')
  exact ⟨g.1,g.2.1,g.2.2.1,g.2.2.2.1,g.2.2.2.2,e.symm,rfl,rfl⟩
 ·have hz2':fanErr s.ws (wb1 s.ws top slot)=0:=hz2
  have hz3':zbI s.ws (wb2 s.ws top slot)=0:=hz3
  have e:zbA s.ws top slot=0:=by rw [zbA,if_pos hp,if_pos hz,if_pos hz2',hz3']
  refine ⟨fun i hi=>?_,fun i hi=>?_,fun i _=>by rw [wayT,if_pos e],fun i _=>by rw [wayF,if_pos e]; rfl,fun i _=>by rw [wayL,if_pos e]; rfl,e.symm,rfl,rfl⟩
  ·have:i=0\/i=1\/i=2:=by omega
   rw [wayB,if_pos e]
   rcases this with rfl | rfl | rfl <;> rfl
  ·have:i=0\/i=1\/i=2:=by omega
   rw [wayK,if_pos e]
   rcases this with rfl | rfl | rfl <;> rfl

def zfQ (ws:List Nat) (top slot:Int):SeatT:=if zbA ws top slot=0 then zc6 ws (wb2 ws top slot) (placeK slot 2) else seatZ
def qqI:Ctr:=za5 (Int×Int) (fun x=>I64 x.2.1/\I64 x.2.2) (fun x=>[i64 x.2.1,i64 x.2.2]) (fun x=>x.1) (fun x => .tup [zxL (zfQ x.1.ws x.2.1 x.2.2),i64 (zbA x.1.ws x.2.1 x.2.2)])

theorem findV:(
 let q1:Prop:=true=true/\zaC/\0=0;
 let q2:Prop:=(107:TypeId)=107/\q1/\q1/\True; ∀(x:StoreT×Int×Int),
 let q3:SeatT:=zfQ x.1.ws x.2.1 x.2.2;
 let q4:Bool:=q3.live;
 let q5:Int:=q3.gen;
 let q6:Int:=q3.next;
 let q7:Int:=zbA x.1.ws x.2.1 x.2.2; zaG x.1/\I64 x.2.1/\I64 x.2.2->Exx (StoreT×Int×Int) fun x_1 =>
 let q8:Int:=zbA x_1.1.ws x_1.2.1 x_1.2.2;
 let q9:Prop:=q2/\devB x_1.1.ws=devB x.1.ws/\zaB x_1.1.a=zaB x.1.a/\true=true/\True;
 let q10:Int:=(↑(wayK x_1.1.ws x_1.2.1 x_1.2.2 (Int.toNat 2)):Int);
 let q11:Nat:=q10.toNat;
 let q12:SeatT:=wayL x_1.1.ws x_1.2.1 x_1.2.2 q11; ((q1/\Tr 1 (x.2.1=x_1.2.1)/\Tr 1 (x.2.2=x_1.2.2)/\True)/\true=true/\q2/\devB x.1.ws=devB x_1.1.ws/\zaB x.1.a=zaB x_1.1.a/\True)/\(zaG x_1.1/\I64 x_1.2.1/\I64 x_1.2.2)/\∀(y:Unit),True->BC (!decide (q8=(0:Int))) (Exx Unit fun y=>((((false=q4/\Tr 1 ((0:Int)=q5)/\Tr 1 ((0:Int)=q6)/\True)/\Tr 1 (q8=q7)/\True)/\True)/\q9)/\True) (((0:Int) <= (2:Int)/\2<(↑(3:Nat):Int))/\(2:Int).toNat<3/\((0:Int) <= q10/\q10<(↑(7:Nat):Int))/\q11<7/\Exx Unit fun y=>((((q12.live=q4/\Tr 1 (q12.gen=q5)/\Tr 1 (q12.next=q6)/\True)/\Tr 1 ((0:Int)=q7)/\True)/\True)/\q9)/\True))=(fnVC tb [(169,zaA qn7)] Tryz.f133 qqI (fun _=>{}) (fun _=>none)):=by kernel_rfl

theorem ql7:SpecOk Tryz.prog 133 (zaA qqI):=by
 refine zaK zaM zaL (SPok.cons qhY SPok.nil) Tryz.func133 (by decide) (zaR fun _=>⟨⟨rfl,rfl,rfl,trivial⟩,rfl,trivial⟩) (Eq.mp findV ?_)
 simp (maxSteps:=10000000) only [std,stdU,stdV,Exx,I64,Nat.reduceMul,Nat.reduceDiv,Nat.reduceAdd,Int.reduceToNat,zaQ,zaI]
 rintro s top slot ⟨h,h1,h2⟩
 refine ⟨s,rfl,rfl,h,h1,h2.1,h2.2.1,h2.2.2,fun hn=>?_,fun hz=>?_⟩
 ·rw [zfQ,if_neg hn]; exact ⟨rfl,rfl,rfl,rfl,rfl,rfl⟩
 ·have hp:zbH slot:=by
   by_cases hp:zbH slot
   ·exact hp
   ·rw [zbA,if_neg hp] at hz; cases hz
  have e2:placeK slot 2=slot.toNat % 7:=by simp [placeK,hp]
  rw [zfQ,if_pos hz,wayK,if_pos hz,wayL,if_pos hz]
  exact ⟨by omega,by omega,by omega,by omega,by omega,by omega,rfl,rfl,rfl,hz.symm,rfl,rfl⟩

def layR (s:StoreT) (a:Int) (b:List Nat) (ok:Bool):Wr:=if ok=true then (if a=0 then makeR s b else ziG s a b) else { s:=s,at_:=0,e:=31 }
def zp3:Ctr:=za5 (Int×List Nat×Bool) (fun x=>I64 x.2.1/\Oct x.2.2.1) (fun x=>[i64 x.2.1,octA x.2.2.1,.bool x.2.2.2]) (fun x=>(layR x.1 x.2.1 x.2.2.1 x.2.2.2).s) (fun x=>wrA (layR x.1 x.2.1 x.2.2.1 x.2.2.2))

theorem qiL:(
 let q1:Prop:=true=true/\zaC/\0=0;
 let q2:Prop:=(107:TypeId)=107/\q1/\q1/\True; ∀(x:StoreT×Int×List Nat×Bool),
 let q3:List Nat:=x.2.2.1;
 let q4:Bool:=x.2.2.2;
 let q5:Wr:=layR x.1 x.2.1 q3 q4;
 let q6:Int:=q5.at_;
 let q7:Int:=q5.e;
 let q8:StoreT:=q5.s;
 let q9:Ob:=devB q8.ws;
 let q10:Ob:=zaB q8.a;
 let q11:Nat:=q3.length; zaG x.1/\I64 x.2.1/\Oct q3->BC (!q4) (Exx Unit fun y=>(((Tr 1 ((0:Int)=q6)/\Tr 1 ((31:Int)=q7)/\True)/\True)/\q2/\devB x.1.ws=q9/\zaB x.1.a=q10/\true=true/\True)/\True) (BC (decide (x.2.1=(0:Int))) (Exx (StoreT×List Nat) fun x_1=>((q1/\(q11=x_1.2.length/\∀(i:Nat),i<x_1.2.length->[AV.int .u8 (↑(q3.getD i 0):Int)]=[AV.int .u8 (↑(x_1.2.getD i 0):Int)])/\True)/\true=true/\q2/\devB x.1.ws=devB x_1.1.ws/\zaB x.1.a=zaB x_1.1.a/\True)/\(zaG x_1.1/\Oct x_1.2)/\∀(y:Unit),True->Exx Unit fun y=>(((Tr 1 ((makeR x_1.1 x_1.2).at_=q6)/\Tr 1 ((makeR x_1.1 x_1.2).e=q7)/\True)/\True)/\q2/\devB (makeR x_1.1 x_1.2).s.ws=q9/\zaB (makeR x_1.1 x_1.2).s.a=q10/\true=true/\True)/\True) (Exx (StoreT×Int×List Nat) fun x_1 =>
 let q12:Wr:=ziG x_1.1 x_1.2.1 x_1.2.2;
 let q13:StoreT:=q12.s; ((q1/\Tr 1 (x.2.1=x_1.2.1)/\(q11=x_1.2.2.length/\∀(i:Nat),i<x_1.2.2.length->[AV.int .u8 (↑(q3.getD i 0):Int)]=[AV.int .u8 (↑(x_1.2.2.getD i 0):Int)])/\True)/\true=true/\q2/\devB x.1.ws=devB x_1.1.ws/\zaB x.1.a=zaB x_1.1.a/\True)/\(zaG x_1.1/\I64 x_1.2.1/\Oct x_1.2.2)/\∀(y:Unit),True->Exx Unit fun y=>(((Tr 1 (q12.at_=q6)/\Tr 1 (q12.e=q7)/\True)/\True)/\q2/\devB q13.ws=q9/\zaB q13.a=q10/\true=true/\True)/\True)))=(fnVC tb [(16,zaA zg7),(125,zaA zjO)] Tryz.f172 zp3 (fun _=>{}) (fun _=>none)):=by kernel_rfl

theorem qaA:SpecOk Tryz.prog 172 (zaA zp3):=by
 refine zaK zaM zaL (SPok.cons ziK (SPok.cons zoI SPok.nil)) Tryz.func172 (by decide) (zaR fun _=>⟨rfl,rfl,trivial⟩) (Eq.mp qiL ?_)
 simp (maxSteps:=10000000) only [std,stdU,stdV,Exx,I64,Nat.reduceMul,Nat.reduceDiv,Nat.reduceAdd,Int.reduceToNat,zaQ,zaI]
 rintro s a b ok ⟨h,h1,h2,hb⟩
 refine ⟨fun hn=>?_,fun hy=>⟨fun h0=>⟨s,rfl,rfl,h,hb,?_⟩,fun hne=>⟨s,rfl,rfl,h,h1,h2,hb,?_⟩⟩⟩
 ·subst hn; exact ⟨rfl,rfl,rfl,rfl⟩
 ·subst hy; rw [layR,if_pos rfl,if_pos h0]; exact ⟨rfl,rfl,rfl,rfl⟩
 ·subst hy; rw [layR,if_pos rfl,if_neg hne]; exact ⟨rfl,rfl,rfl,rfl⟩

def zf6 (ws:List Nat) (top slot:Int) (x:SeatT) (i:Nat):SeatT:=if i=placeK slot 2 then x else zc6 ws (wb2 ws top slot) i
def ziD (ws:List Nat) (top slot:Int) (a:Int) (i:Nat):Int:=if i=placeK slot 1 then a else fanF ws (wb1 ws top slot) i
def setTop (ws:List Nat) (top slot:Int) (a:Int) (i:Nat):Int:=if i=placeK slot 0 then a else fanF ws top i
def zgB (ws:List Nat) (top slot:Int) (s:StoreT) (a:Int):Wr :=
 if a=wb1 ws top slot then { s:=s,at_:=top,e:=0 } else layR s top (putFanL (setTop ws top slot a)) (decide (zeT (setTop ws top slot a)))
def put1 (s:StoreT) (top slot:Int) (x:SeatT):Wr:=layR s (wb2 s.ws top slot) (zaU (zf6 s.ws top slot x)) (decide (zdR (zf6 s.ws top slot x)))
def put2 (s:StoreT) (top slot:Int) (r:Wr):Wr:=layR r.s (wb1 s.ws top slot) (putFanL (ziD s.ws top slot r.at_)) (decide (zeT (ziD s.ws top slot r.at_)))
def putR (s:StoreT) (top slot:Int) (x:SeatT):Wr :=
 if za6 x then
  if zbA s.ws top slot=0 then
   if (put1 s top slot x).e=0 then
    if (put1 s top slot x).at_=wb2 s.ws top slot then zgB s.ws top slot (put1 s top slot x).s (wb1 s.ws top slot)
    else if (put2 s top slot (put1 s top slot x)).e=0 then zgB s.ws top slot (put2 s top slot (put1 s top slot x)).s (put2 s top slot (put1 s top slot x)).at_
    else { s:=(put2 s top slot (put1 s top slot x)).s,at_:=0,e:=(put2 s top slot (put1 s top slot x)).e }
   else { s:=(put1 s top slot x).s,at_:=0,e:=(put1 s top slot x).e }
  else { s:=s,at_:=0,e:=zbA s.ws top slot }
 else { s:=s,at_:=0,e:=2 }
def zuQ:Ctr:=za5 (Int×Int×SeatT) (fun x=>I64 x.2.1/\I64 x.2.2.1/\zdE x.2.2.2) (fun x=>[i64 x.2.1,i64 x.2.2.1,zxL x.2.2.2]) (fun x=>(putR x.1 x.2.1 x.2.2.1 x.2.2.2).s) (fun x=>wrA (putR x.1 x.2.1 x.2.2.1 x.2.2.2))

theorem zdL {k t:Nat} {b:List Nat} (hb:b.length <= 56):(zcD k t b).length=64:=by
 rw [zcD,List.length_append,zaE,zbS]
 simp only [List.length_append,List.length_replicate,List.length_cons,List.length_nil]; omega
theorem zo5 {k t:Nat} {b:List Nat} (hk:k<256) (ht:t<256) (hb:∀c∈b,c<256):∀c∈zcD k t b,c<256:=fun c hc=>by
 rcases List.mem_append.1 hc with h | h
 ·exact zgY _ _ c h
 ·rcases List.mem_append.1 h with h | h
  ·rcases List.mem_append.1 h with h | h
   ·simp only [List.mem_cons,List.not_mem_nil,or_false] at h; omega
   ·exact hb c h
  ·have:=(List.mem_replicate.1 h).2; omega
theorem ziW (l:Nat->SeatT):Oct (zaU l):=by
 unfold zaU
 split
 ·have h7:=zgQ l 7
  have hs:=zbE l 7
  exact ⟨zo5 (by omega) (by omega) (ziS l 7),by rw [zdL (by omega)]; omega⟩
 ·exact ⟨by simp,by simp⟩
theorem zeW (f:Nat->Int):Oct (putFanL f):=by
 unfold putFanL
 split
 ·have hs:=zb1 f 16
  exact ⟨zo5 (by omega) (by omega) (zmE f 16),by rw [zdL (by omega)]; omega⟩
 ·exact ⟨by simp,by simp⟩
theorem I64_0:I64 0:=⟨by omega,by omega⟩
theorem zpP {s:StoreT} {a:Int} {b:List Nat} (h:I64 a):I64 (zcO s a b).at_:=by
 unfold zcO
 simp only
 split
 ·exact h
 ·exact I64_0
theorem zpC {s:StoreT} (h:zaG s) (b:List Nat):I64 (makeR s b).at_:=by
 unfold makeR
 split
 ·split
  ·exact zpP (zm5 h.2 _)
  ·exact I64_0
 ·exact I64_0
theorem zuK {s:StoreT} (h:zaG s) {a:Int} (ha:I64 a) (b:List Nat):I64 (ziG s a b).at_:=by
 unfold ziG
 split
 ·split
  ·exact zpP ha
  ·split
   ·exact zpC h b
   ·exact I64_0
 ·exact I64_0
theorem qbW {s:StoreT} (h:zaG s) {a:Int} (ha:I64 a) (b:List Nat) (ok:Bool):I64 (layR s a b ok).at_:=by
 unfold layR
 split
 ·split
  ·exact zpC h b
  ·exact zuK h ha b
 ·exact I64_0
theorem qk6 {s:StoreT} (h:zaG s) (a:Int) {b:List Nat} (hb:Oct b) (ok:Bool):zaG (layR s a b ok).s:=by
 unfold layR
 split
 ·split
  ·exact znT h hb
  ·exact zz4 h a hb
 ·exact h
theorem qj0 {s:StoreT} (h:zaG s) (top slot:Int) (x:SeatT):zaG (put1 s top slot x).s:=qk6 h _ (ziW _) _
theorem qjZ {r:Wr} (h:zaG r.s) (s:StoreT) (top slot:Int):zaG (put2 s top slot r).s:=qk6 h _ (zeW _) _
theorem qdW {s:StoreT} (h:zaG s) (ws:List Nat) (top slot:Int) (a:Int):zaG (zgB ws top slot s a).s:=by
 unfold zgB
 split
 ·exact h
 ·exact qk6 h _ (zeW _) _
theorem qjU {s:StoreT} (h:zaG s) (top slot:Int) (x:SeatT):zaG (putR s top slot x).s:=by
 have h1:=qj0 h top slot x
 have h2:=qjZ h1 s top slot
 unfold putR
 repeat' split
 all_goals first | exact h | exact h1 | exact h2 | exact qdW h1 _ _ _ _ | exact qdW h2 _ _ _ _
theorem zx1 {s:StoreT} (h:zaG s) (ws:List Nat) {top:Int} (ht:I64 top) (slot:Int) (a:Int):I64 (zgB ws top slot s a).at_:=by
 unfold zgB
 split
 ·exact ht
 ·exact qbW h ht _ _
theorem zvB {s:StoreT} (h:zaG s) {top:Int} (ht:I64 top) (slot:Int) (x:SeatT):I64 (putR s top slot x).at_:=by
 have h1:=qj0 h top slot x
 have h2:=qjZ h1 s top slot
 unfold putR
 repeat' split
 all_goals first | exact I64_0 | exact zx1 h1 _ ht _ _ | exact zx1 h2 _ ht _ _

theorem qoN:(
 let q1:Prop:=true=true/\zaC/\0=0;
 let q2:Prop:=(107:TypeId)=107/\q1/\q1/\True;
 let q3:Prop:=(0:Int) <= (2:Int)/\(2:Int)<(↑(3:Nat):Int);
 let q4:Prop:=(2:Int).toNat<3;
 let q5:Prop:=(0:Int) <= (1:Int)/\(1:Int)<(↑(3:Nat):Int);
 let q6:Prop:=(1:Int).toNat<3;
 let q7:Prop:=(0:Int) <= (0:Int)/\(0:Int)<(↑(3:Nat):Int);
 let q8:Prop:=(0:Int).toNat<3; ∀(x:StoreT×Int×Int×SeatT),
 let q9:Bool:=x.2.2.2.live;
 let q10:Int:=x.2.2.2.gen;
 let q11:Int:=x.2.2.2.next;
 let q12:Wr:=putR x.1 x.2.1 x.2.2.1 x.2.2.2;
 let q13:Int:=q12.at_;
 let q14:Prop:=Tr 1 ((0:Int)=q13);
 let q15:Int:=q12.e;
 let q16:StoreT:=q12.s;
 let q17:Ob:=devB q16.ws;
 let q18:Ob:=zaB q16.a; zaG x.1/\I64 x.2.1/\I64 x.2.2.1/\zdE x.2.2.2->Exx SeatT fun x_1=>(((q9=x_1.live/\Tr 1 (q10=x_1.gen)/\Tr 1 (q11=x_1.next)/\True)/\True)/\true=true/\True)/\zdE x_1/\∀(y:Unit),True->BC (!decide (za6 x_1)) (Exx Unit fun y=>(((q14/\Tr 1 ((2:Int)=q15)/\True)/\True)/\q2/\devB x.1.ws=q17/\zaB x.1.a=q18/\true=true/\True)/\True) (Exx (StoreT×Int×Int) fun x_2 =>
 let q19:Int:=zbA x_2.1.ws x_2.2.1 x_2.2.2;
 let q20:Int:=(↑(wayK x_2.1.ws x_2.2.1 x_2.2.2 (Int.toNat 2)):Int);
 let q21:Nat:=q20.toNat;
 let q22:Int:=wayB x_2.1.ws x_2.2.1 x_2.2.2 (Int.toNat 2);
 let q23:Int:=(↑(wayK x_2.1.ws x_2.2.1 x_2.2.2 (Int.toNat 1)):Int);
 let q24:Nat:=q23.toNat;
 let q25:Int:=wayB x_2.1.ws x_2.2.1 x_2.2.2 (Int.toNat 1);
 let q26:Int:=(↑(wayK x_2.1.ws x_2.2.1 x_2.2.2 (Int.toNat 0)):Int);
 let q27:Prop:=(0:Int) <= q26/\q26<(↑(16:Nat):Int);
 let q28:Nat:=q26.toNat;
 let q29:Prop:=q28<16; ((q1/\Tr 1 (x.2.1=x_2.2.1)/\Tr 1 (x.2.2.1=x_2.2.2)/\True)/\true=true/\q2/\devB x.1.ws=devB x_2.1.ws/\zaB x.1.a=zaB x_2.1.a/\True)/\(zaG x_2.1/\I64 x_2.2.1/\I64 x_2.2.2)/\∀(y:Unit),True->BC (!decide (q19=(0:Int))) (Exx Unit fun y=>(((q14/\Tr 1 (q19=q15)/\True)/\True)/\q2/\devB x_2.1.ws=q17/\zaB x_2.1.a=q18/\true=true/\True)/\True) (q3/\q4/\((0:Int) <= q20/\q20<(↑(7:Nat):Int))/\q21<7/\Exx (Nat->SeatT) fun x_3=>(((3=3/\7=7/\(∀(i:Nat),
 let q30:SeatT:=wayL x_2.1.ws x_2.2.1 x_2.2.2 i; i<7->[AV.bool (if i=q21 then q9 else q30.live),AV.int .i64 (if i=q21 then q10 else q30.gen),AV.int .i64 (if i=q21 then q11 else q30.next)]=[AV.bool (x_3 i).live,AV.int .i64 (x_3 i).gen,AV.int .i64 (x_3 i).next])/\True)/\True)/\true=true/\True)/\(∀(i:Nat),i<7->zdE (x_3 i))/\∀(y:Nat),(zaU x_3).length <= y->q3/\q4/\Exx (StoreT×Int×List Nat×Bool) fun x_4 =>
 let q31:List Nat:=x_4.2.2.1;
 let q32:Nat:=q31.length;
 let q33:Bool:=x_4.2.2.2;
 let q34:Wr:=layR x_4.1 x_4.2.1 q31 q33;
 let q35:Int:=q34.e;
 let q36:StoreT:=q34.s;
 let q37:Ob:=devB q36.ws;
 let q38:Ob:=zaB q36.a;
 let q39:Prop:=q2/\q37=q17/\q38=q18/\true=true/\True;
 let q40:Int:=q34.at_;
 let q41:Prop:=(Tr 1 (x.2.1=q13)/\Tr 1 ((0:Int)=q15)/\True)/\True; ((q1/\Tr 1 (q22=x_4.2.1)/\(0+(zaU x_3).length <= (zaU x_3).length/\(zaU x_3).length=q32/\∀(i:Nat),i<q32->[AV.int .u8 (↑((zaU x_3).getD (0+i) 0):Int)]=[AV.int .u8 (↑(q31.getD i 0):Int)])/\decide (zdR x_3)=q33/\True)/\true=true/\q2/\devB x_2.1.ws=devB x_4.1.ws/\zaB x_2.1.a=zaB x_4.1.a/\True)/\(zaG x_4.1/\I64 x_4.2.1/\Oct q31)/\∀(y:Unit),True->BC (!decide (q35=(0:Int))) (Exx Unit fun y=>(((q14/\Tr 1 (q35=q15)/\True)/\True)/\q39)/\True) (q3/\q4/\BC (!decide (q40=q22)) (q5/\q6/\((0:Int) <= q23/\q23<(↑(16:Nat):Int))/\q24<16/\Exx (Nat->Int) fun x_5=>(((1=1/\16=16/\(∀(i:Nat),i<16->[AV.int .i64 (if i=q24 then q40 else wayF x_2.1.ws x_2.2.1 x_2.2.2 i)]=[AV.int .i64 (x_5 i)])/\True)/\True)/\true=true/\True)/\(∀(i:Nat),i<16->I64 (x_5 i))/\∀(y:Nat),(putFanL x_5).length <= y->q5/\q6/\Exx (StoreT×Int×List Nat×Bool) fun x_6 =>
 let q42:List Nat:=x_6.2.2.1;
 let q43:Nat:=q42.length;
 let q44:Bool:=x_6.2.2.2;
 let q45:Wr:=layR x_6.1 x_6.2.1 q42 q44;
 let q46:Int:=q45.e;
 let q47:StoreT:=q45.s;
 let q48:Ob:=devB q47.ws;
 let q49:Ob:=zaB q47.a;
 let q50:Prop:=q2/\q48=q17/\q49=q18/\true=true/\True;
 let q51:Int:=q45.at_; ((q1/\Tr 1 (q25=x_6.2.1)/\(0+(putFanL x_5).length <= (putFanL x_5).length/\(putFanL x_5).length=q43/\∀(i:Nat),i<q43->[AV.int .u8 (↑((putFanL x_5).getD (0+i) 0):Int)]=[AV.int .u8 (↑(q42.getD i 0):Int)])/\decide (zeT x_5)=q44/\True)/\true=true/\q2/\q37=devB x_6.1.ws/\q38=zaB x_6.1.a/\True)/\(zaG x_6.1/\I64 x_6.2.1/\Oct q42)/\∀(y:Unit),True->BC (!decide (q46=(0:Int))) (Exx Unit fun y=>(((q14/\Tr 1 (q46=q15)/\True)/\True)/\q50)/\True) (q5/\q6/\BC (decide (q51=q25)) (Exx Unit fun y=>(q41/\q50)/\True) (q7/\q8/\q27/\q29/\Exx (Nat->Int) fun x_7=>(((1=1/\16=16/\(∀(i:Nat),i<16->[AV.int .i64 (if i=q28 then q51 else wayT x_2.1.ws x_2.2.1 x_2.2.2 i)]=[AV.int .i64 (x_7 i)])/\True)/\True)/\true=true/\True)/\(∀(i:Nat),i<16->I64 (x_7 i))/\∀(y:Nat),(putFanL x_7).length <= y->Exx (StoreT×Int×List Nat×Bool) fun x_8 =>
 let q52:List Nat:=x_8.2.2.1;
 let q53:Nat:=q52.length;
 let q54:Bool:=x_8.2.2.2;
 let q55:Wr:=layR x_8.1 x_8.2.1 q52 q54;
 let q56:StoreT:=q55.s; ((q1/\Tr 1 (x.2.1=x_8.2.1)/\(0+(putFanL x_7).length <= (putFanL x_7).length/\(putFanL x_7).length=q53/\∀(i:Nat),i<q53->[AV.int .u8 (↑((putFanL x_7).getD (0+i) 0):Int)]=[AV.int .u8 (↑(q52.getD i 0):Int)])/\decide (zeT x_7)=q54/\True)/\true=true/\q2/\q48=devB x_8.1.ws/\q49=zaB x_8.1.a/\True)/\(zaG x_8.1/\I64 x_8.2.1/\Oct q52)/\∀(y:Unit),True->Exx Unit fun y=>(((Tr 1 (q55.at_=q13)/\Tr 1 (q55.e=q15)/\True)/\True)/\q2/\devB q56.ws=q17/\zaB q56.a=q18/\true=true/\True)/\True))) (q5/\q6/\q5/\q6/\BC (decide (q25=q25)) (Exx Unit fun y=>(q41/\q39)/\True) (q7/\q8/\q27/\q29/\Exx (Nat->Int) fun x_5=>(((1=1/\16=16/\(∀(i:Nat),i<16->[AV.int .i64 (if i=q28 then q25 else wayT x_2.1.ws x_2.2.1 x_2.2.2 i)]=[AV.int .i64 (x_5 i)])/\True)/\True)/\true=true/\True)/\(∀(i:Nat),i<16->I64 (x_5 i))/\∀(y:Nat),(putFanL x_5).length <= y->Exx (StoreT×Int×List Nat×Bool) fun x_6 =>
 let q57:List Nat:=x_6.2.2.1;
 let q58:Nat:=q57.length;
 let q59:Bool:=x_6.2.2.2;
 let q60:Wr:=layR x_6.1 x_6.2.1 q57 q59;
 let q61:StoreT:=q60.s; ((q1/\Tr 1 (x.2.1=x_6.2.1)/\(0+(putFanL x_5).length <= (putFanL x_5).length/\(putFanL x_5).length=q58/\∀(i:Nat),i<q58->[AV.int .u8 (↑((putFanL x_5).getD (0+i) 0):Int)]=[AV.int .u8 (↑(q57.getD i 0):Int)])/\decide (zeT x_5)=q59/\True)/\true=true/\q2/\q37=devB x_6.1.ws/\q38=zaB x_6.1.a/\True)/\(zaG x_6.1/\I64 x_6.2.1/\Oct q57)/\∀(y:Unit),True->Exx Unit fun y=>(((Tr 1 (q60.at_=q13)/\Tr 1 (q60.e=q15)/\True)/\True)/\q2/\devB q61.ws=q17/\zaB q61.a=q18/\true=true/\True)/\True))))))=(fnVC tb [(169,zaA qn7),(170,zaA zhC),(171,zaA zvC),(172,zaA zp3),(173,zaA qa7)] Tryz.f134 zuQ (fun _=>{}) (fun _=>none)):=by kernel_rfl

theorem qfM:SpecOk Tryz.prog 134 (zaA zuQ):=by
 refine zaK zaM zaL (SPok.cons qhY (SPok.cons ziU (SPok.cons qgC (SPok.cons qaA (SPok.cons qjY SPok.nil))))) Tryz.func134 (by decide) (zaR fun _=>⟨rfl,rfl,trivial⟩) (Eq.mp qoN ?_)
 simp (maxSteps:=10000000) only [std,stdU,stdV,Exx,I64,Nat.reduceMul,Nat.reduceDiv,Nat.reduceAdd,Int.reduceToNat,zaQ,zaI]
 rintro s top slot x ⟨h,h1,h2,hx⟩
 have ht:I64 top:=⟨h1,h2⟩
 refine ⟨x,rfl,rfl,rfl,hx.2.2,fun hn=>?_,fun hs=>⟨s,rfl,rfl,h,h1,h2,hx.1,hx.2.1,fun hn=>?_,fun hz=>?_⟩⟩
 ·rw [putR,if_neg hn]; exact ⟨rfl,rfl,rfl,rfl⟩
 ·rw [putR,if_pos hs,if_neg hn]; exact ⟨rfl,rfl,rfl,rfl⟩
 have hp:zbH slot:=by
  by_cases hp:zbH slot
  ·exact hp
  ·rw [zbA,if_neg hp] at hz; cases hz
 have hp2:=hp.2
 have e0:placeK slot 0=slot.toNat / 7 / 16:=by simp [placeK,hp]
 have e1:placeK slot 1=slot.toNat / 7 % 16:=by simp [placeK,hp]
 have e2:placeK slot 2=slot.toNat % 7:=by simp [placeK,hp]
 have hK:∀j,wayK s.ws top slot j=placeK slot j:=fun j=>by rw [wayK,if_pos hz]
 have hB1:wayB s.ws top slot 1=wb1 s.ws top slot:=by rw [wayB,if_pos hz]; rfl
 have hB2:wayB s.ws top slot 2=wb2 s.ws top slot:=by rw [wayB,if_pos hz]; rfl
 have hT:∀i,wayT s.ws top slot i=fanF s.ws top i:=fun i=>by rw [wayT,if_pos hz]
 have hF:∀i,wayF s.ws top slot i=fanF s.ws (wb1 s.ws top slot) i:=fun i=>by rw [wayF,if_pos hz]
 have hL:∀i,wayL s.ws top slot i=zc6 s.ws (wb2 s.ws top slot) i:=fun i=>by rw [wayL,if_pos hz]
 simp only [hK,hB1,hB2,hT,hF,hL]
 have hb2:I64 (wb2 s.ws top slot):=zt7 _ _ _
 have hb1:I64 (wb1 s.ws top slot):=zt7 _ _ _
 have hW1:=qj0 h top slot x
 have hW2:=qjZ hW1 s top slot
 have ha1:I64 (put1 s top slot x).at_:=qbW h hb2 _ _
 have ha2:I64 (put2 s top slot (put1 s top slot x)).at_:=qbW hW1 hb1 _ _
 refine ⟨by omega,by omega,by omega,by omega,by omega,by omega,zf6 s.ws top slot x,fun i hi=>?_,fun i hi=>?_,fun y hy=>⟨by omega,by omega,by omega,s,rfl,rfl,h,hb2.1,hb2.2,ziW _,fun hne=>?_,fun he=>⟨by omega,by omega,by omega,fun hd=>⟨by omega,by omega,by omega,by omega,by omega,by omega,ziD s.ws top slot (put1 s top slot x).at_,fun i hi=>?_,fun i hi=>?_,fun y hy=>⟨by omega,by omega,by omega,(put1 s top slot x).s,rfl,rfl,hW1,hb1.1,hb1.2,zeW _,fun hne=>?_,fun he2=>⟨by omega,by omega,by omega,fun hq=>?_,fun hq=>⟨by omega,by omega,by omega,by omega,by omega,by omega,setTop s.ws top slot (put2 s top slot (put1 s top slot x)).at_,fun i hi=>?_,fun i hi=>?_,fun y hy=>⟨(put2 s top slot (put1 s top slot x)).s,rfl,rfl,hW2,h1,h2,zeW _,?_⟩⟩⟩⟩⟩,fun hd=>⟨by omega,by omega,by omega,by omega,by omega,by omega,?_⟩⟩⟩⟩
 ·unfold zf6
  by_cases e:i=placeK slot 2
  ·rw [if_pos e,if_pos e,if_pos e,if_pos e]
  ·rw [if_neg e,if_neg e,if_neg e,if_neg e]
 ·unfold zf6
  split
  ·exact hx.2.2
  ·exact qbU _ _ _
 ·have hne':¬(put1 s top slot x).e=0:=hne
  rw [putR,if_pos hs,if_pos hz,if_neg hne']
  exact ⟨rfl,rfl,rfl,rfl⟩
 ·unfold ziD
  by_cases e:i=placeK slot 1
  ·rw [if_pos e,if_pos e]; rfl
  ·rw [if_neg e,if_neg e]
 ·unfold ziD
  split
  ·exact ha1
  ·exact zt7 _ _ _
 ·have he':(put1 s top slot x).e=0:=he
  have hd':¬(put1 s top slot x).at_=wb2 s.ws top slot:=hd
  have hne':¬(put2 s top slot (put1 s top slot x)).e=0:=hne
  rw [putR,if_pos hs,if_pos hz,if_pos he',if_neg hd',if_neg hne']
  exact ⟨rfl,rfl,rfl,rfl⟩
 ·have he':(put1 s top slot x).e=0:=he
  have hd':¬(put1 s top slot x).at_=wb2 s.ws top slot:=hd
  have he2':(put2 s top slot (put1 s top slot x)).e=0:=he2
  have hq':(put2 s top slot (put1 s top slot x)).at_=wb1 s.ws top slot:=hq
  rw [putR,if_pos hs,if_pos hz,if_pos he',if_neg hd',if_pos he2',zgB,if_pos hq']
  exact ⟨rfl,rfl,rfl,rfl⟩
 ·unfold setTop
  by_cases e:i=placeK slot 0
  ·rw [if_pos e,if_pos e]; rfl
  ·rw [if_neg e,if_neg e]
 ·unfold setTop
  split
  ·exact ha2
  ·exact zt7 _ _ _
 ·have he':(put1 s top slot x).e=0:=he
  have hd':¬(put1 s top slot x).at_=wb2 s.ws top slot:=hd
  have he2':(put2 s top slot (put1 s top slot x)).e=0:=he2
  have hq':¬(put2 s top slot (put1 s top slot x)).at_=wb1 s.ws top slot:=hq
  rw [putR,if_pos hs,if_pos hz,if_pos he',if_neg hd',if_pos he2',zgB,if_neg hq']
  exact ⟨rfl,rfl,rfl,rfl⟩
 ·have he':(put1 s top slot x).e=0:=he
  have hd':(put1 s top slot x).at_=wb2 s.ws top slot:=hd
  rw [putR,if_pos hs,if_pos hz,if_pos he',if_pos hd',zgB,if_pos rfl]
  exact ⟨rfl,rfl,rfl,rfl⟩

end Yard
