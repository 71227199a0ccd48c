import Derived.Test.YtlihikockhjodaaGreatDoorSlotInv

namespace Yard
open Go Go.Sx Go.Proofs
set_option linter.unusedVariables false
set_option linter.unusedSimpArgs false
set_option maxRecDepth 4000

structure TickT where
 blocks:Int
 slots:Int
 gens:Int
 top:Int
 high:Int
 free:Int
deriving DecidableEq
abbrev zeQ (t:TickT):AV := .agg [i64 t.blocks,i64 t.slots,i64 t.gens,i64 t.top,i64 t.high,i64 t.free]
def tickZ:TickT:=⟨0,0,0,0,0,0⟩
def zaS (t:TickT):Prop:=I64 t.blocks/\I64 t.slots/\I64 t.gens/\I64 t.top/\I64 t.high/\I64 t.free

structure HandT where
 slot:Int
 gen:Int
deriving DecidableEq
abbrev zy1 (h:HandT):AV := .agg [i64 h.slot,i64 h.gen]
def zvZ:HandT:=⟨0,0⟩
def zhT (h:HandT):Prop:=I64 h.slot/\I64 h.gen
def zi8 (b s g:Int):Prop:=16 <= b/\b <= 3072/\1 <= s/\s <= 1792/\1 <= g/\g <= 4294967295
instance (b s g:Int):Decidable (zi8 b s g):=by unfold zi8; infer_instance
def zb3 (t:TickT):Prop:=zi8 t.blocks t.slots t.gens/\0 <= t.high/\t.high <= t.slots/\0 <= t.free/\t.free <= t.high
instance (t:TickT):Decidable (zb3 t):=by unfold zb3; infer_instance
def znX:Ctr:=zbN (Int×Int×Int) (fun x=>I64 x.1/\I64 x.2.1/\I64 x.2.2) (fun x=>[.agg [i64 x.1,i64 x.2.1,i64 x.2.2]]) (fun x => .bool (decide (zi8 x.1 x.2.1 x.2.2)))
def zm0:Ctr:=zbN TickT zaS (fun t=>[zeQ t]) (fun t => .bool (decide (zb3 t)))
def zjN:Ctr:=zbN Int (fun x=>I64 x) (fun x=>[i64 x]) (fun x => .bool (decide (2 <= x/\x<3072)))
def zlL:Ctr:=za5 TickT (fun x=>zaS x.2) (fun x=>[zeQ x.2]) (fun x=>x.1) (fun x=>i64 (if zb3 x.2 then 0 else 2))

def zeP (s:StoreT) (t:TickT) (slot:Int) (x:SeatT):TickT:=if (putR s t.top slot x).e=0 then { t with top:=(putR s t.top slot x).at_ } else tickZ
def ziH:Ctr:=za5 (TickT×Int×SeatT) (fun x=>zaS x.2.1/\I64 x.2.2.1/\zdE x.2.2.2) (fun x=>[zeQ x.2.1,i64 x.2.2.1,zxL x.2.2.2]) (fun x=>(putR x.1 x.2.1.top x.2.2.1 x.2.2.2).s) (fun x => .tup [zeQ (zeP x.1 x.2.1 x.2.2.1 x.2.2.2),i64 (putR x.1 x.2.1.top x.2.2.1 x.2.2.2).e])

theorem qgZ:(∀(x:Int×Int×Int),
 let q1:Bool:=decide (zi8 x.1 x.2.1 x.2.2);
 let q2:Prop:=Exx Unit fun y=>((false=q1/\True)/\true=true/\True)/\True; I64 x.1/\I64 x.2.1/\I64 x.2.2->BC (decide ((16:Int) <= x.1)) (BC (decide (x.1 <= (3072:Int))) (BC (decide ((1:Int) <= x.2.1)) (BC (decide (x.2.1 <= (1792:Int))) (BC (decide ((1:Int) <= x.2.2)) (Exx Unit fun y=>((decide (x.2.2 <= (4294967295:Int))=q1/\True)/\true=true/\True)/\True) q2) q2) q2) q2) q2)=(fnVC tb [] Tryz.f191 znX (fun _=>{}) (fun _=>none)):=by kernel_rfl

theorem zy2:SpecOk Tryz.prog 191 (zaA znX):=by
 refine zaK zaM zaL SPok.nil Tryz.func191 (by decide) (zaO fun _=>rfl) (Eq.mp qgZ ?_)
 simp (maxSteps:=10000000) only [std,stdU,stdV,Exx,I64,Nat.reduceMul,Nat.reduceDiv,Nat.reduceAdd,Int.reduceToNat]
 intro a b c _
 have hno:¬zi8 a b c->false=decide (zi8 a b c):=fun h=>(decide_eq_false h).symm
 unfold zi8 at hno ⊢
 exact ⟨fun h1=>⟨fun h2=>⟨fun h3=>⟨fun h4=>⟨fun h5=>decide_eq_decide.2 (by omega),fun h=>hno (by omega)⟩,fun h=>hno (by omega)⟩,fun h=>hno (by omega)⟩,fun h=>hno (by omega)⟩,fun h=>hno (by omega)⟩

theorem qe7:(∀(x:TickT),
 let q1:Prop:=Exx Unit fun y=>((false=decide (zb3 x)/\True)/\true=true/\True)/\True; zaS x->Exx (Int×Int×Int) fun x_1=>(((Tr 1 (x.blocks=x_1.1)/\Tr 1 (x.slots=x_1.2.1)/\Tr 1 (x.gens=x_1.2.2)/\True)/\True)/\true=true/\True)/\(I64 x_1.1/\I64 x_1.2.1/\I64 x_1.2.2)/\∀(y:Unit),True->BC (decide (zi8 x_1.1 x_1.2.1 x_1.2.2)) (BC (decide ((0:Int) <= x.high)) (BC (decide (x.high <= x.slots)) (BC (decide ((0:Int) <= x.free)) (Exx Unit fun y=>((decide (x.free <= x.high)=decide (zb3 x)/\True)/\true=true/\True)/\True) q1) q1) q1) q1)=(fnVC tb [(191,zaA znX)] Tryz.f168 zm0 (fun _=>{}) (fun _=>none)):=by kernel_rfl

theorem zw1:SpecOk Tryz.prog 168 (zaA zm0):=by
 refine zaK zaM zaL (SPok.cons zy2 SPok.nil) Tryz.func168 (by decide) (zaO fun _=>rfl) (Eq.mp qe7 ?_)
 simp (maxSteps:=10000000) only [std,stdU,stdV,Exx,I64,Nat.reduceMul,Nat.reduceDiv,Nat.reduceAdd,Int.reduceToNat]
 rintro t ⟨h1,h2,h3,h4,h5,h6⟩
 have hno:¬zb3 t->false=decide (zb3 t):=fun h=>(decide_eq_false h).symm
 exact ⟨h1.1,h1.2,h2.1,h2.2,h3.1,h3.2,fun g=>⟨fun g1=>⟨fun g2=>⟨fun g3=>decide_eq_decide.2 ⟨fun k=>⟨g,g1,g2,g3,k⟩,fun k=>k.2.2.2.2⟩,fun h=>hno fun k=>h k.2.2.2.1⟩,fun h=>hno fun k=>h k.2.2.1⟩,fun h=>hno fun k=>h k.2.1⟩,fun h=>hno fun k=>h k.1⟩

theorem qfB:(∀(x:Int),
 let q1:Bool:=decide ((2:Int) <= x/\x<(3072:Int)); -9223372036854775808 <= x/\x <= (9223372036854775807:Int)->BC (decide ((2:Int) <= x)) (Exx Unit fun y=>((decide (x<(3072:Int))=q1/\True)/\true=true/\True)/\True) (Exx Unit fun y=>((false=q1/\True)/\true=true/\True)/\True))=(fnVC tb [] Tryz.f132 zjN (fun _=>{}) (fun _=>none)):=by kernel_rfl

theorem zoH:SpecOk Tryz.prog 132 (zaA zjN):=by
 refine zaK zaM zaL SPok.nil Tryz.func132 (by decide) (zaO fun _=>rfl) (Eq.mp qfB ?_)
 simp (maxSteps:=10000000) only [std,stdU,stdV,Exx,I64,Nat.reduceMul,Nat.reduceDiv,Nat.reduceAdd,Int.reduceToNat]
 exact fun x _=>⟨fun h=>decide_eq_decide.2 (by omega),fun h=>(decide_eq_false (by omega)).symm⟩

theorem qoA:(
 let q1:Prop:=true=true/\zaC/\0=0; ∀(x:StoreT×TickT),
 let q2:Int:=if zb3 x.2 then 0 else 2;
 let q3:Prop:=((107:TypeId)=107/\q1/\q1/\True)/\devB x.1.ws=devB x.1.ws/\zaB x.1.a=zaB x.1.a/\true=true/\True; zaG x.1/\zaS x.2->Exx TickT fun x_1=>(((Tr 1 (x.2.blocks=x_1.blocks)/\Tr 1 (x.2.slots=x_1.slots)/\Tr 1 (x.2.gens=x_1.gens)/\Tr 1 (x.2.top=x_1.top)/\Tr 1 (x.2.high=x_1.high)/\Tr 1 (x.2.free=x_1.free)/\True)/\True)/\true=true/\True)/\zaS x_1/\∀(y:Unit),True->BC (!decide (zb3 x_1)) (Exx Unit fun y=>((Tr 1 ((2:Int)=q2)/\True)/\q3)/\True) (Exx Unit fun y=>((Tr 1 ((0:Int)=q2)/\True)/\q3)/\True))=(fnVC tb [(168,zaA zm0)] Tryz.f131 zlL (fun _=>{}) (fun _=>none)):=by kernel_rfl

theorem zm3:SpecOk Tryz.prog 131 (zaA zlL):=by
 refine zaK zaM zaL (SPok.cons zw1 SPok.nil) Tryz.func131 (by decide) (zaR fun _=>rfl) (Eq.mp qoA ?_)
 simp (maxSteps:=10000000) only [std,stdU,stdV,Exx,I64,Nat.reduceMul,Nat.reduceDiv,Nat.reduceAdd,Int.reduceToNat,zaQ,zaI]
 rintro s t ⟨_,h⟩
 exact ⟨t,rfl,rfl,rfl,rfl,rfl,rfl,h,fun g=>by rw [if_neg g],fun g=>by rw [if_pos g]⟩

theorem qh8:(
 let q1:Prop:=true=true/\zaC/\0=0;
 let q2:Prop:=(107:TypeId)=107/\q1/\q1/\True; ∀(x:StoreT×TickT×Int×SeatT),
 let q3:Int:=x.2.2.1;
 let q4:SeatT:=x.2.2.2;
 let q5:TickT:=zeP x.1 x.2.1 q3 q4;
 let q6:Int:=q5.blocks;
 let q7:Int:=q5.slots;
 let q8:Int:=q5.gens;
 let q9:Int:=q5.top;
 let q10:Int:=q5.high;
 let q11:Int:=q5.free;
 let q12:Wr:=putR x.1 x.2.1.top q3 q4;
 let q13:Int:=q12.e;
 let q14:StoreT:=q12.s; zaG x.1/\zaS x.2.1/\I64 q3/\zdE q4->Exx (StoreT×Int×Int×SeatT) fun x_1 =>
 let q15:Wr:=putR x_1.1 x_1.2.1 x_1.2.2.1 x_1.2.2.2;
 let q16:Int:=q15.e;
 let q17:StoreT:=q15.s;
 let q18:Prop:=q2/\devB q17.ws=devB q14.ws/\zaB q17.a=zaB q14.a/\true=true/\True; ((q1/\Tr 1 (x.2.1.top=x_1.2.1)/\Tr 1 (q3=x_1.2.2.1)/\(q4.live=x_1.2.2.2.live/\Tr 1 (q4.gen=x_1.2.2.2.gen)/\Tr 1 (q4.next=x_1.2.2.2.next)/\True)/\True)/\true=true/\q2/\devB x.1.ws=devB x_1.1.ws/\zaB x.1.a=zaB x_1.1.a/\True)/\(zaG x_1.1/\I64 x_1.2.1/\I64 x_1.2.2.1/\zdE x_1.2.2.2)/\∀(y:Unit),True->BC (!decide (q16=(0:Int))) (Exx Unit fun y=>((((Tr 1 ((0:Int)=q6)/\Tr 1 ((0:Int)=q7)/\Tr 1 ((0:Int)=q8)/\Tr 1 ((0:Int)=q9)/\Tr 1 ((0:Int)=q10)/\Tr 1 ((0:Int)=q11)/\True)/\Tr 1 (q16=q13)/\True)/\True)/\q18)/\True) (Exx Unit fun y=>((((Tr 1 (x.2.1.blocks=q6)/\Tr 1 (x.2.1.slots=q7)/\Tr 1 (x.2.1.gens=q8)/\Tr 1 (q15.at_=q9)/\Tr 1 (x.2.1.high=q10)/\Tr 1 (x.2.1.free=q11)/\True)/\Tr 1 ((0:Int)=q13)/\True)/\True)/\q18)/\True))=(fnVC tb [(134,zaA zuQ)] Tryz.f92 ziH (fun _=>{}) (fun _=>none)):=by kernel_rfl

theorem zkR:SpecOk Tryz.prog 92 (zaA ziH):=by
 refine zaK zaM zaL (SPok.cons qfM SPok.nil) Tryz.func92 (by decide) (zaR fun _=>⟨⟨rfl,rfl,rfl,rfl,rfl,rfl,trivial⟩,rfl,trivial⟩) (Eq.mp qh8 ?_)
 simp (maxSteps:=10000000) only [std,stdU,stdV,Exx,I64,Nat.reduceMul,Nat.reduceDiv,Nat.reduceAdd,Int.reduceToNat,zaQ,zaI]
 rintro s t slot x ⟨h,ht,h1,h2,hx⟩
 refine ⟨s,x,rfl,rfl,rfl,rfl,rfl,h,ht.2.2.2.1.1,ht.2.2.2.1.2,h1,h2,hx,fun hn=>?_,fun hz=>?_⟩
 ·rw [zeP,if_neg hn]; exact ⟨rfl,rfl,rfl,rfl,rfl,rfl,rfl,rfl,rfl⟩
 ·rw [zeP,if_pos hz]; exact ⟨rfl,rfl,rfl,rfl,rfl,rfl,hz.symm,rfl,rfl⟩

def zcG (ws:List Nat) (t:TickT):Int :=
 if zb3 t then if t.free=0 then (if t.high=t.slots then 10 else 0) else
  if zbA ws t.top (t.free-1)=0 then (if (zfQ ws t.top (t.free-1)).live=true\/(zfQ ws t.top (t.free-1)).gen<1\/t.gens <= (zfQ ws t.top (t.free-1)).gen then 31 else 0) else zbA ws t.top (t.free-1) else 2
def zfN (ws:List Nat) (t:TickT):Int:=if zcG ws t=0 then (if t.free=0 then t.high else t.free-1) else 0
def nextX (ws:List Nat) (t:TickT):SeatT:=if zcG ws t=0 then (if t.free=0 then seatZ else zfQ ws t.top (t.free-1)) else seatZ
def zlK:Ctr:=za5 TickT (fun x=>zaS x.2) (fun x=>[zeQ x.2]) (fun x=>x.1) (fun x => .tup [i64 (zfN x.1.ws x.2),zxL (nextX x.1.ws x.2),i64 (zcG x.1.ws x.2)])

theorem qiA:(
 let q1:Prop:=true=true/\zaC/\0=0;
 let q2:Prop:=(107:TypeId)=107/\q1/\q1/\True; ∀(x:StoreT×TickT),
 let q3:Prop:=Tr 1 ((0:Int)=zfN x.1.ws x.2);
 let q4:Prop:=false=(nextX x.1.ws x.2).live/\Tr 1 ((0:Int)=(nextX x.1.ws x.2).gen)/\Tr 1 ((0:Int)=(nextX x.1.ws x.2).next)/\True;
 let q5:Prop:=Tr 1 ((0:Int)=zcG x.1.ws x.2)/\True;
 let q6:Int:=x.2.free-1;
 let q7:Prop:=I64 q6; zaG x.1/\zaS x.2->Exx (StoreT×TickT) fun x_1 =>
 let q8:Int:=if zb3 x_1.2 then 0 else 2;
 let q9:Prop:=q2/\devB x_1.1.ws=devB x.1.ws/\zaB x_1.1.a=zaB x.1.a/\true=true/\True; ((q1/\(Tr 1 (x.2.blocks=x_1.2.blocks)/\Tr 1 (x.2.slots=x_1.2.slots)/\Tr 1 (x.2.gens=x_1.2.gens)/\Tr 1 (x.2.top=x_1.2.top)/\Tr 1 (x.2.high=x_1.2.high)/\Tr 1 (x.2.free=x_1.2.free)/\True)/\True)/\true=true/\q2/\devB x.1.ws=devB x_1.1.ws/\zaB x.1.a=zaB x_1.1.a/\True)/\(zaG x_1.1/\zaS x_1.2)/\∀(y:Unit),True->BC (!decide (q8=(0:Int))) (Exx Unit fun y=>(((q3/\q4/\Tr 1 (q8=zcG x.1.ws x.2)/\True)/\True)/\q9)/\True) (BC (decide (x.2.free=(0:Int))) (BC (decide (x.2.high=x.2.slots)) (Exx Unit fun y=>(((q3/\q4/\Tr 1 ((10:Int)=zcG x.1.ws x.2)/\True)/\True)/\q9)/\True) (Exx Unit fun y=>(((Tr 1 (x.2.high=zfN x.1.ws x.2)/\q4/\q5)/\True)/\q9)/\True)) (q7/\Exx (StoreT×Int×Int) fun x_2 =>
 let q10:Int:=zbA x_2.1.ws x_2.2.1 x_2.2.2;
 let q11:Bool:=decide (q10=(0:Int));
 let q12:SeatT:=zfQ x_2.1.ws x_2.2.1 x_2.2.2;
 let q13:Bool:=q12.live;
 let q14:Prop:=q2/\devB x_2.1.ws=devB x.1.ws/\zaB x_2.1.a=zaB x.1.a/\true=true/\True;
 let q15:Prop:=Exx Unit fun y=>(((q3/\q4/\Tr 1 ((31:Int)=zcG x.1.ws x.2)/\True)/\True)/\q14)/\True;
 let q16:Int:=q12.gen;
 let q17:Prop:=BC (!q11) (Exx Unit fun y=>(((q3/\q4/\Tr 1 (q10=zcG x.1.ws x.2)/\True)/\True)/\q14)/\True) (q7/\Exx Unit fun y=>(((Tr 1 (q6=zfN x.1.ws x.2)/\(q13=(nextX x.1.ws x.2).live/\Tr 1 (q16=(nextX x.1.ws x.2).gen)/\Tr 1 (q12.next=(nextX x.1.ws x.2).next)/\True)/\q5)/\True)/\q14)/\True); ((q1/\Tr 1 (x.2.top=x_2.2.1)/\Tr 1 (q6=x_2.2.2)/\True)/\true=true/\q2/\devB x_1.1.ws=devB x_2.1.ws/\zaB x_1.1.a=zaB x_2.1.a/\True)/\(zaG x_2.1/\I64 x_2.2.1/\I64 x_2.2.2)/\∀(y:Unit),True->BC q11 (BC q13 q15 (BC (decide (q16<(1:Int))) q15 (BC (decide (x.2.gens <= q16)) q15 q17))) q17)))=(fnVC tb [(131,zaA zlL),(133,zaA qqI)] Tryz.f127 zlK (fun _=>{}) (fun _=>none)):=by kernel_rfl

theorem zp0:SpecOk Tryz.prog 127 (zaA zlK):=by
 refine zaK zaM zaL (SPok.cons zm3 (SPok.cons ql7 SPok.nil)) Tryz.func127 (by decide) (zaR fun _=>⟨rfl,⟨rfl,rfl,rfl,trivial⟩,rfl,trivial⟩) (Eq.mp qiA ?_)
 simp (maxSteps:=10000000) only [std,stdU,stdV,Exx,I64,Nat.reduceMul,Nat.reduceDiv,Nat.reduceAdd,Int.reduceToNat,zaQ,zaI]
 rintro s t ⟨h,ht⟩
 have bad:∀e:Int,e≠0->zcG s.ws t=e->(0=zfN s.ws t/\false=(nextX s.ws t).live/\0=(nextX s.ws t).gen/\0=(nextX s.ws t).next/\e=zcG s.ws t/\s.ws=s.ws/\s.a=s.a):=fun e he h=>by
  have hn:¬zcG s.ws t=0:=by rw [h]; exact he
  rw [zfN,if_neg hn,nextX,if_neg hn]; exact ⟨rfl,rfl,rfl,rfl,h.symm,rfl,rfl⟩
 obtain ⟨h1,h2,h3,h4,h5,h6⟩:=ht
 refine ⟨s,t,rfl,rfl,rfl,rfl,rfl,rfl,rfl,rfl,h,⟨h1,h2,h3,h4,h5,h6⟩,fun hn=>?_,fun hz=>?_⟩
 ·have hno:¬zb3 t:=fun k=>hn (by rw [if_pos k])
  rw [if_neg hno]
  exact bad 2 (by decide) (by rw [zcG,if_neg hno])
 ·have hok:zb3 t:=by
   by_cases k:zb3 t
   ·exact k
   ·rw [if_neg k] at hz; cases hz
  have hf:=hok.2.2.2
  have h5':=hok.2.2.1
  have hs:=hok.1.2.2.2.1
  refine ⟨fun h0=>⟨fun hh=>bad 10 (by decide) (by rw [zcG,if_pos hok,if_pos h0,if_pos hh]),fun hh=>?_⟩,fun h0=>⟨by omega,by omega,s,rfl,rfl,h,h4.1,h4.2,by omega,by omega,fun hw=>⟨fun hl=>bad 31 (by decide) ?_,fun hl=>⟨fun hg=>bad 31 (by decide) ?_,fun hg=>⟨fun hg2=>bad 31 (by decide) ?_,fun hg2=>⟨fun q=>absurd hw q,fun _=>?_⟩⟩⟩⟩,fun hw=>⟨fun _=>bad _ hw ?_,fun q=>absurd q hw⟩⟩⟩
  ·have e:zcG s.ws t=0:=by rw [zcG,if_pos hok,if_pos h0,if_neg hh]
   rw [zfN,if_pos e,if_pos h0,nextX,if_pos e,if_pos h0]; exact ⟨rfl,rfl,rfl,rfl,e.symm,rfl,rfl⟩
  ·rw [zcG,if_pos hok,if_neg h0,if_pos hw,if_pos (.inl hl)]
  ·rw [zcG,if_pos hok,if_neg h0,if_pos hw,if_pos (.inr (.inl hg))]
  ·rw [zcG,if_pos hok,if_neg h0,if_pos hw,if_pos (.inr (.inr hg2))]
  ·have e:zcG s.ws t=0:=by rw [zcG,if_pos hok,if_neg h0,if_pos hw,if_neg (by rw [hl]; simp [hg,hg2])]
   rw [zfN,if_pos e,if_neg h0,nextX,if_pos e,if_neg h0]; exact ⟨by omega,by omega,rfl,rfl,rfl,rfl,e.symm,rfl,rfl⟩
  ·rw [zcG,if_pos hok,if_neg h0,if_neg hw]

def zgX (ws:List Nat) (t:TickT):HandT:=if zcG ws t=0 then ⟨zfN ws t,(nextX ws t).gen+1⟩ else zvZ
theorem ziZ {ws:List Nat} {t:TickT} (h:zcG ws t=0):0 <= (nextX ws t).gen/\(nextX ws t).gen<t.gens/\t.gens <= 4294967295:=by
 have hok:zb3 t:=by
  by_cases k:zb3 t
  ·exact k
  ·rw [zcG,if_neg k] at h; cases h
 have hg:=hok.1.2.2.2.2
 rw [nextX,if_pos h]
 by_cases h0:t.free=0
 ·rw [if_pos h0]; exact ⟨by decide,by show (0:Int)<_; omega,hg.2⟩
 ·rw [if_neg h0]
  rw [zcG,if_pos hok,if_neg h0] at h
  by_cases hw:zbA ws t.top (t.free-1)=0
  ·rw [if_pos hw] at h
   by_cases hb:(zfQ ws t.top (t.free-1)).live=true\/(zfQ ws t.top (t.free-1)).gen<1\/t.gens <= (zfQ ws t.top (t.free-1)).gen
   ·rw [if_pos hb] at h; cases h
   ·have h1:¬(zfQ ws t.top (t.free-1)).gen<1:=fun k=>hb (.inr (.inl k))
    have h2:¬t.gens <= (zfQ ws t.top (t.free-1)).gen:=fun k=>hb (.inr (.inr k))
    omega
  ·rw [if_neg hw] at h; exact absurd h hw
def zm2:Ctr:=za5 TickT (fun x=>zaS x.2) (fun x=>[zeQ x.2]) (fun x=>x.1) (fun x => .tup [zy1 (zgX x.1.ws x.2),i64 (zcG x.1.ws x.2)])

theorem qe9:(
 let q1:Prop:=true=true/\zaC/\0=0;
 let q2:Prop:=(107:TypeId)=107/\q1/\q1/\True; ∀(x:StoreT×TickT),zaG x.1/\zaS x.2->Exx (StoreT×TickT) fun x_1 =>
 let q3:Prop:=q2/\devB x_1.1.ws=devB x.1.ws/\zaB x_1.1.a=zaB x.1.a/\true=true/\True;
 let q4:Int:=(nextX x_1.1.ws x_1.2).gen+1; ((q1/\(Tr 1 (x.2.blocks=x_1.2.blocks)/\Tr 1 (x.2.slots=x_1.2.slots)/\Tr 1 (x.2.gens=x_1.2.gens)/\Tr 1 (x.2.top=x_1.2.top)/\Tr 1 (x.2.high=x_1.2.high)/\Tr 1 (x.2.free=x_1.2.free)/\True)/\True)/\true=true/\q2/\devB x.1.ws=devB x_1.1.ws/\zaB x.1.a=zaB x_1.1.a/\True)/\(zaG x_1.1/\zaS x_1.2)/\∀(y:Unit),True->BC (!decide (zcG x_1.1.ws x_1.2=(0:Int))) (Exx Unit fun y=>((((Tr 1 ((0:Int)=(zgX x.1.ws x.2).slot)/\Tr 1 ((0:Int)=(zgX x.1.ws x.2).gen)/\True)/\Tr 1 (zcG x_1.1.ws x_1.2=zcG x.1.ws x.2)/\True)/\True)/\q3)/\True) (I64 q4/\Exx Unit fun y=>((((Tr 1 (zfN x_1.1.ws x_1.2=(zgX x.1.ws x.2).slot)/\Tr 1 (q4=(zgX x.1.ws x.2).gen)/\True)/\Tr 1 ((0:Int)=zcG x.1.ws x.2)/\True)/\True)/\q3)/\True))=(fnVC tb [(127,zaA zlK)] Tryz.f88 zm2 (fun _=>{}) (fun _=>none)):=by kernel_rfl

theorem zw5:SpecOk Tryz.prog 88 (zaA zm2):=by
 refine zaK zaM zaL (SPok.cons zp0 SPok.nil) Tryz.func88 (by decide) (zaR fun _=>⟨⟨rfl,rfl,trivial⟩,rfl,trivial⟩) (Eq.mp qe9 ?_)
 simp (maxSteps:=10000000) only [std,stdU,stdV,Exx,I64,Nat.reduceMul,Nat.reduceDiv,Nat.reduceAdd,Int.reduceToNat,zaQ,zaI]
 rintro s t ⟨h,ht⟩
 refine ⟨s,t,rfl,rfl,rfl,rfl,rfl,rfl,rfl,rfl,h,ht,fun hn=>?_,fun hz=>?_⟩
 ·rw [zgX,if_neg hn]; exact ⟨rfl,rfl,rfl,rfl,rfl⟩
 ·have g:=ziZ hz
  rw [zgX,if_pos hz]; exact ⟨by omega,by omega,rfl,rfl,hz.symm,rfl,rfl⟩

def issW (s:StoreT) (t:TickT) (at_:Int):Wr:=putR s t.top (zfN s.ws t) ⟨true,(nextX s.ws t).gen+1,at_⟩
def qgR (s:StoreT) (t:TickT) (at_:Int):Prop:=zb3 t/\(2 <= at_/\at_<3072)/\zcG s.ws t=0
instance (s:StoreT) (t:TickT) (at_:Int):Decidable (qgR s t at_):=by unfold qgR; infer_instance
def issE (s:StoreT) (t:TickT) (at_:Int):Int:=if qgR s t at_ then (issW s t at_).e else if zb3 t/\(2 <= at_/\at_<3072) then zcG s.ws t else 2
def issS (s:StoreT) (t:TickT) (at_:Int):StoreT:=if qgR s t at_ then (issW s t at_).s else s
def issT (s:StoreT) (t:TickT) (at_:Int):TickT:=if issE s t at_=0 then { t with top:=(issW s t at_).at_,high:=if 0<t.free then t.high else t.high+1,free:=if 0<t.free then (nextX s.ws t).next else t.free } else tickZ
def issH (s:StoreT) (t:TickT) (at_:Int):HandT:=if issE s t at_=0 then ⟨zfN s.ws t,(nextX s.ws t).gen+1⟩ else zvZ
def zm4:Ctr:=za5 (TickT×Int) (fun x=>zaS x.2.1/\I64 x.2.2) (fun x=>[zeQ x.2.1,i64 x.2.2]) (fun x=>issS x.1 x.2.1 x.2.2) (fun x => .tup [zeQ (issT x.1 x.2.1 x.2.2),zy1 (issH x.1 x.2.1 x.2.2),i64 (issE x.1 x.2.1 x.2.2)])
theorem zxK:za6 seatZ:=zjT
theorem qbO (ws:List Nat) (t:TickT):zdE (nextX ws t):=by
 unfold nextX
 split
 ·split
  ·exact zlS zjT
  ·unfold zfQ
   split
   ·exact qbU _ _ _
   ·exact zlS zjT
 ·exact zlS zjT
theorem qkP (ws:List Nat) {t:TickT} (h:I64 t.high) (hf:I64 t.free):I64 (zfN ws t):=by
 unfold zfN
 split
 ·rename_i hz
  split
  ·exact h
  ·rename_i h0
   have hok:zb3 t:=by
    by_cases k:zb3 t
    ·exact k
    ·rw [zcG,if_neg k] at hz; cases hz
   have:=hok.2.2.2
   have h1:=hf.1
   have h2:=hf.2
   exact ⟨by omega,by omega⟩
 ·exact I64_0

theorem qfA:(
 let q1:Prop:=true=true/\zaC/\0=0;
 let q2:Prop:=(107:TypeId)=107/\q1/\q1/\True; ∀(x:StoreT×TickT×Int),
 let q3:TickT:=issT x.1 x.2.1 x.2.2;
 let q4:Int:=q3.blocks;
 let q5:Int:=q3.slots;
 let q6:Int:=q3.gens;
 let q7:Int:=q3.top;
 let q8:Int:=q3.high;
 let q9:Int:=q3.free;
 let q10:Prop:=Tr 1 ((0:Int)=q4)/\Tr 1 ((0:Int)=q5)/\Tr 1 ((0:Int)=q6)/\Tr 1 ((0:Int)=q7)/\Tr 1 ((0:Int)=q8)/\Tr 1 ((0:Int)=q9)/\True;
 let q11:HandT:=issH x.1 x.2.1 x.2.2;
 let q12:Int:=q11.slot;
 let q13:Int:=q11.gen;
 let q14:Prop:=Tr 1 ((0:Int)=q12)/\Tr 1 ((0:Int)=q13)/\True;
 let q15:Int:=issE x.1 x.2.1 x.2.2;
 let q16:StoreT:=issS x.1 x.2.1 x.2.2;
 let q17:Ob:=devB q16.ws;
 let q18:Ob:=zaB q16.a;
 let q19:Int:=x.2.1.high+1; zaG x.1/\zaS x.2.1/\I64 x.2.2->Exx (StoreT×TickT) fun x_1 =>
 let q20:Int:=if zb3 x_1.2 then 0 else 2;
 let q21:Prop:=q2/\devB x_1.1.ws=q17/\zaB x_1.1.a=q18/\true=true/\True; ((q1/\(Tr 1 (x.2.1.blocks=x_1.2.blocks)/\Tr 1 (x.2.1.slots=x_1.2.slots)/\Tr 1 (x.2.1.gens=x_1.2.gens)/\Tr 1 (x.2.1.top=x_1.2.top)/\Tr 1 (x.2.1.high=x_1.2.high)/\Tr 1 (x.2.1.free=x_1.2.free)/\True)/\True)/\true=true/\q2/\devB x.1.ws=devB x_1.1.ws/\zaB x.1.a=zaB x_1.1.a/\True)/\(zaG x_1.1/\zaS x_1.2)/\∀(y:Unit),True->BC (!decide (q20=(0:Int))) (Exx Unit fun y=>(((q10/\q14/\Tr 1 (q20=q15)/\True)/\True)/\q21)/\True) (Exx Int fun x_2=>((Tr 1 (x.2.2=x_2)/\True)/\true=true/\True)/\(-9223372036854775808 <= x_2/\x_2 <= (9223372036854775807:Int))/\∀(y:Unit),True->BC (!decide ((2:Int) <= x_2/\x_2<(3072:Int))) (Exx Unit fun y=>(((q10/\q14/\Tr 1 ((2:Int)=q15)/\True)/\True)/\q21)/\True) (Exx (StoreT×TickT) fun x_3 =>
 let q22:Int:=(nextX x_3.1.ws x_3.2).gen+1;
 let q23:Prop:=I64 q22; ((q1/\(Tr 1 (x.2.1.blocks=x_3.2.blocks)/\Tr 1 (x.2.1.slots=x_3.2.slots)/\Tr 1 (x.2.1.gens=x_3.2.gens)/\Tr 1 (x.2.1.top=x_3.2.top)/\Tr 1 (x.2.1.high=x_3.2.high)/\Tr 1 (x.2.1.free=x_3.2.free)/\True)/\True)/\true=true/\q2/\devB x_1.1.ws=devB x_3.1.ws/\zaB x_1.1.a=zaB x_3.1.a/\True)/\(zaG x_3.1/\zaS x_3.2)/\∀(y:Unit),True->BC (!decide (zcG x_3.1.ws x_3.2=(0:Int))) (Exx Unit fun y=>(((q10/\q14/\Tr 1 (zcG x_3.1.ws x_3.2=q15)/\True)/\True)/\q2/\devB x_3.1.ws=q17/\zaB x_3.1.a=q18/\true=true/\True)/\True) (BC (decide ((0:Int)<x.2.1.free)) (q23/\Exx (StoreT×TickT×Int×SeatT) fun x_4 =>
 let q24:Int:=x_4.2.2.1;
 let q25:SeatT:=x_4.2.2.2;
 let q26:Wr:=putR x_4.1 x_4.2.1.top q24 q25;
 let q27:Int:=q26.e;
 let q28:StoreT:=q26.s;
 let q29:Prop:=q2/\devB q28.ws=q17/\zaB q28.a=q18/\true=true/\True;
 let q30:TickT:=zeP x_4.1 x_4.2.1 q24 q25; ((q1/\(Tr 1 (x.2.1.blocks=x_4.2.1.blocks)/\Tr 1 (x.2.1.slots=x_4.2.1.slots)/\Tr 1 (x.2.1.gens=x_4.2.1.gens)/\Tr 1 (x.2.1.top=x_4.2.1.top)/\Tr 1 (x.2.1.high=x_4.2.1.high)/\Tr 1 ((nextX x_3.1.ws x_3.2).next=x_4.2.1.free)/\True)/\Tr 1 (zfN x_3.1.ws x_3.2=q24)/\(true=q25.live/\Tr 1 (q22=q25.gen)/\Tr 1 (x.2.2=q25.next)/\True)/\True)/\true=true/\q2/\devB x_3.1.ws=devB x_4.1.ws/\zaB x_3.1.a=zaB x_4.1.a/\True)/\(zaG x_4.1/\zaS x_4.2.1/\I64 q24/\zdE q25)/\∀(y:Unit),True->BC (!decide (q27=(0:Int))) (Exx Unit fun y=>(((q10/\q14/\Tr 1 (q27=q15)/\True)/\True)/\q29)/\True) (Exx Unit fun y=>((((Tr 1 (q30.blocks=q4)/\Tr 1 (q30.slots=q5)/\Tr 1 (q30.gens=q6)/\Tr 1 (q30.top=q7)/\Tr 1 (q30.high=q8)/\Tr 1 (q30.free=q9)/\True)/\(Tr 1 (zfN x_3.1.ws x_3.2=q12)/\Tr 1 (q22=q13)/\True)/\Tr 1 ((0:Int)=q15)/\True)/\True)/\q29)/\True)) (I64 q19/\q23/\Exx (StoreT×TickT×Int×SeatT) fun x_4 =>
 let q31:Int:=x_4.2.2.1;
 let q32:SeatT:=x_4.2.2.2;
 let q33:Wr:=putR x_4.1 x_4.2.1.top q31 q32;
 let q34:Int:=q33.e;
 let q35:StoreT:=q33.s;
 let q36:Prop:=q2/\devB q35.ws=q17/\zaB q35.a=q18/\true=true/\True;
 let q37:TickT:=zeP x_4.1 x_4.2.1 q31 q32; ((q1/\(Tr 1 (x.2.1.blocks=x_4.2.1.blocks)/\Tr 1 (x.2.1.slots=x_4.2.1.slots)/\Tr 1 (x.2.1.gens=x_4.2.1.gens)/\Tr 1 (x.2.1.top=x_4.2.1.top)/\Tr 1 (q19=x_4.2.1.high)/\Tr 1 (x.2.1.free=x_4.2.1.free)/\True)/\Tr 1 (zfN x_3.1.ws x_3.2=q31)/\(true=q32.live/\Tr 1 (q22=q32.gen)/\Tr 1 (x.2.2=q32.next)/\True)/\True)/\true=true/\q2/\devB x_3.1.ws=devB x_4.1.ws/\zaB x_3.1.a=zaB x_4.1.a/\True)/\(zaG x_4.1/\zaS x_4.2.1/\I64 q31/\zdE q32)/\∀(y:Unit),True->BC (!decide (q34=(0:Int))) (Exx Unit fun y=>(((q10/\q14/\Tr 1 (q34=q15)/\True)/\True)/\q36)/\True) (Exx Unit fun y=>((((Tr 1 (q37.blocks=q4)/\Tr 1 (q37.slots=q5)/\Tr 1 (q37.gens=q6)/\Tr 1 (q37.top=q7)/\Tr 1 (q37.high=q8)/\Tr 1 (q37.free=q9)/\True)/\(Tr 1 (zfN x_3.1.ws x_3.2=q12)/\Tr 1 (q22=q13)/\True)/\Tr 1 ((0:Int)=q15)/\True)/\True)/\q36)/\True))))))=(fnVC tb [(92,zaA ziH),(127,zaA zlK),(131,zaA zlL),(132,zaA zjN)] Tryz.f90 zm4 (fun x=>{ loose:=[(16,[5,6])] }) (fun _=>none)):=by kernel_rfl

theorem zw6:SpecOk Tryz.prog 90 (zaA zm4):=by
 refine zaK zaM zaL (SPok.cons zkR (SPok.cons zp0 (SPok.cons zm3 (SPok.cons zoH SPok.nil)))) Tryz.func90 (by decide) (zaR fun _=>⟨⟨rfl,rfl,rfl,rfl,rfl,rfl,trivial⟩,⟨rfl,rfl,trivial⟩,rfl,trivial⟩) (Eq.mp qfA ?_)
 simp (maxSteps:=10000000) only [std,stdU,stdV,Exx,I64,Nat.reduceMul,Nat.reduceDiv,Nat.reduceAdd,Int.reduceToNat,zaQ,zaI]
 rintro s t at_ ⟨h,ht,hb1,hb2⟩
 have hb:I64 at_:=⟨hb1,hb2⟩
 have bad:∀e:Int,∀s':StoreT,e≠0->issE s t at_=e->issS s t at_=s'->(0=(issT s t at_).blocks/\0=(issT s t at_).slots/\0=(issT s t at_).gens/\0=(issT s t at_).top/\0=(issT s t at_).high/\0=(issT s t at_).free/\0=(issH s t at_).slot/\0=(issH s t at_).gen/\e=issE s t at_/\s'.ws=(issS s t at_).ws/\s'.a=(issS s t at_).a):=fun e s' he h1 h2=>by
  have hn:¬issE s t at_=0:=by rw [h1]; exact he
  rw [issT,if_neg hn,issH,if_neg hn,h2]; exact ⟨rfl,rfl,rfl,rfl,rfl,rfl,rfl,rfl,h1.symm,rfl,rfl⟩
 obtain ⟨i1,i2,i3,i4,i5,i6⟩:=ht
 refine ⟨s,t,rfl,rfl,rfl,rfl,rfl,rfl,rfl,rfl,h,⟨i1,i2,i3,i4,i5,i6⟩,fun hn=>?_,fun hz=>⟨hb1,hb2,fun hnb=>?_,fun hbk=>⟨s,t,rfl,rfl,rfl,rfl,rfl,rfl,rfl,rfl,h,⟨i1,i2,i3,i4,i5,i6⟩,fun hne=>?_,fun hez=>?_⟩⟩⟩
 ·have hno:¬zb3 t:=fun k=>hn (by rw [if_pos k])
  rw [if_neg hno]
  exact bad 2 s (by decide) (by rw [issE,if_neg (fun k=>hno k.1),if_neg (fun k=>hno k.1)]) (by rw [issS,if_neg (fun k=>hno k.1)])
 ·exact bad 2 s (by decide) (by rw [issE,if_neg (fun k=>hnb k.2.1),if_neg (fun k=>hnb k.2)]) (by rw [issS,if_neg (fun k=>hnb k.2.1)])
 ·have hok:zb3 t:=by
   by_cases k:zb3 t
   ·exact k
   ·rw [if_neg k] at hz; cases hz
  exact bad _ s hne (by rw [issE,if_neg (fun k=>hne k.2.2),if_pos ⟨hok,hbk⟩]) (by rw [issS,if_neg (fun k=>hne k.2.2)])
 ·have hok:zb3 t:=by
   by_cases k:zb3 t
   ·exact k
   ·rw [if_neg k] at hz; cases hz
  have hi:qgR s t at_:=⟨hok,hbk,hez⟩
  have eE:issE s t at_=(issW s t at_).e:=by rw [issE,if_pos hi]
  have eS:issS s t at_=(issW s t at_).s:=by rw [issS,if_pos hi]
  have hg:=ziZ hez
  have hgI:I64 (nextX s.ws t).gen:=qbO s.ws t |>.1
  have hnI:I64 (nextX s.ws t).next:=qbO s.ws t |>.2
  have hS:=qkP s.ws i5 i6
  have hx:zdE ⟨true,(nextX s.ws t).gen+1,at_⟩:=⟨⟨by simp only; omega,by simp only; omega⟩,hb⟩
  have hhi:=hok.2.2.1
  have hsl:=hok.1.2.2.2.1
  have hh0:=hok.2.1
  have good:∀t':TickT,(issW s t at_).e=0->t'.blocks=t.blocks->t'.slots=t.slots->t'.gens=t.gens->t'.top=(issW s t at_).at_->t'.high=(if 0<t.free then t.high else t.high+1)->t'.free=(if 0<t.free then (nextX s.ws t).next else t.free) ->
    t'.blocks=(issT s t at_).blocks/\t'.slots=(issT s t at_).slots/\t'.gens=(issT s t at_).gens/\t'.top=(issT s t at_).top/\t'.high=(issT s t at_).high/\t'.free=(issT s t at_).free/\zfN s.ws t=(issH s t at_).slot/\(nextX s.ws t).gen+1=(issH s t at_).gen/\0=issE s t at_/\(issW s t at_).s.ws=(issS s t at_).ws/\(issW s t at_).s.a=(issS s t at_).a:=fun t' he k1 k2 k3 k4 k5 k6=>by
   have e0:issE s t at_=0:=by rw [eE,he]
   rw [issT,if_pos e0,issH,if_pos e0,eS]
   exact ⟨k1,k2,k3,k4,k5,k6,rfl,rfl,e0.symm,rfl,rfl⟩
  refine ⟨fun hf=>⟨by omega,by omega,s,{ t with free:=(nextX s.ws t).next },rfl,rfl,rfl,rfl,rfl,rfl,⟨true,(nextX s.ws t).gen+1,at_⟩,rfl,rfl,rfl,rfl,rfl,h,⟨i1,i2,i3,i4,i5,hnI⟩,hS.1,hS.2,hx,fun hq=>bad _ _ hq eE eS,fun hq=>?_⟩,fun hf=>⟨by omega,by omega,by omega,by omega,s,{ t with high:=t.high+1 },rfl,rfl,rfl,rfl,rfl,rfl,⟨true,(nextX s.ws t).gen+1,at_⟩,rfl,rfl,rfl,rfl,rfl,h,⟨i1,i2,i3,i4,⟨by simp only; omega,by simp only; omega⟩,i6⟩,hS.1,hS.2,hx,fun hq=>bad _ _ hq eE eS,fun hq=>?_⟩⟩
  ·exact good (zeP s { t with free:=(nextX s.ws t).next } (zfN s.ws t) ⟨true,(nextX s.ws t).gen+1,at_⟩) hq (by rw [zeP,if_pos hq]) (by rw [zeP,if_pos hq]) (by rw [zeP,if_pos hq]) (by rw [zeP,if_pos hq]; rfl) (by rw [zeP,if_pos hq,if_pos hf]) (by rw [zeP,if_pos hq,if_pos hf])
  ·exact good (zeP s { t with high:=t.high+1 } (zfN s.ws t) ⟨true,(nextX s.ws t).gen+1,at_⟩) hq (by rw [zeP,if_pos hq]) (by rw [zeP,if_pos hq]) (by rw [zeP,if_pos hq]) (by rw [zeP,if_pos hq]; rfl) (by rw [zeP,if_pos hq,if_neg hf]) (by rw [zeP,if_pos hq,if_neg hf])

def zcL (ws:List Nat) (t:TickT) (h:HandT):Int :=
 if zb3 t then if h.slot<0\/t.high <= h.slot then 11 else if zbA ws t.top h.slot=0 then (if (zfQ ws t.top h.slot).live=true/\(zfQ ws t.top h.slot).gen=h.gen then 0 else 11) else zbA ws t.top h.slot else 2
def seatX (ws:List Nat) (t:TickT) (h:HandT):SeatT:=if zcL ws t h=0 then zfQ ws t.top h.slot else seatZ
def ziI:Ctr:=za5 (TickT×HandT) (fun x=>zaS x.2.1/\zhT x.2.2) (fun x=>[zeQ x.2.1,zy1 x.2.2]) (fun x=>x.1) (fun x => .tup [zxL (seatX x.1.ws x.2.1 x.2.2),i64 (zcL x.1.ws x.2.1 x.2.2)])

theorem qh9:(
 let q1:Prop:=true=true/\zaC/\0=0;
 let q2:Prop:=(107:TypeId)=107/\q1/\q1/\True; ∀(x:StoreT×TickT×HandT),
 let q3:SeatT:=seatX x.1.ws x.2.1 x.2.2;
 let q4:Bool:=q3.live;
 let q5:Int:=q3.gen;
 let q6:Int:=q3.next;
 let q7:Prop:=false=q4/\Tr 1 ((0:Int)=q5)/\Tr 1 ((0:Int)=q6)/\True;
 let q8:Int:=zcL x.1.ws x.2.1 x.2.2;
 let q9:Prop:=(q7/\Tr 1 ((11:Int)=q8)/\True)/\True; zaG x.1/\zaS x.2.1/\zhT x.2.2->Exx (StoreT×TickT) fun x_1 =>
 let q10:Int:=if zb3 x_1.2 then 0 else 2;
 let q11:Prop:=q2/\devB x_1.1.ws=devB x.1.ws/\zaB x_1.1.a=zaB x.1.a/\true=true/\True;
 let q12:Prop:=Exx Unit fun y=>(q9/\q11)/\True; ((q1/\(Tr 1 (x.2.1.blocks=x_1.2.blocks)/\Tr 1 (x.2.1.slots=x_1.2.slots)/\Tr 1 (x.2.1.gens=x_1.2.gens)/\Tr 1 (x.2.1.top=x_1.2.top)/\Tr 1 (x.2.1.high=x_1.2.high)/\Tr 1 (x.2.1.free=x_1.2.free)/\True)/\True)/\true=true/\q2/\devB x.1.ws=devB x_1.1.ws/\zaB x.1.a=zaB x_1.1.a/\True)/\(zaG x_1.1/\zaS x_1.2)/\∀(y:Unit),True->BC (!decide (q10=(0:Int))) (Exx Unit fun y=>(((q7/\Tr 1 (q10=q8)/\True)/\True)/\q11)/\True) (BC (decide (x.2.2.slot<(0:Int))) q12 (BC (decide (x.2.1.high <= x.2.2.slot)) q12 (Exx (StoreT×Int×Int) fun x_2 =>
 let q13:Int:=zbA x_2.1.ws x_2.2.1 x_2.2.2;
 let q14:Bool:=decide (q13=(0:Int));
 let q15:SeatT:=zfQ x_2.1.ws x_2.2.1 x_2.2.2;
 let q16:Bool:=q15.live;
 let q17:Prop:=q2/\devB x_2.1.ws=devB x.1.ws/\zaB x_2.1.a=zaB x.1.a/\true=true/\True;
 let q18:Prop:=Exx Unit fun y=>(q9/\q17)/\True;
 let q19:Int:=q15.gen;
 let q20:Prop:=BC (!q14) (Exx Unit fun y=>(((q7/\Tr 1 (q13=q8)/\True)/\True)/\q17)/\True) (Exx Unit fun y=>((((q16=q4/\Tr 1 (q19=q5)/\Tr 1 (q15.next=q6)/\True)/\Tr 1 ((0:Int)=q8)/\True)/\True)/\q17)/\True); ((q1/\Tr 1 (x.2.1.top=x_2.2.1)/\Tr 1 (x.2.2.slot=x_2.2.2)/\True)/\true=true/\q2/\devB x_1.1.ws=devB x_2.1.ws/\zaB x_1.1.a=zaB x_2.1.a/\True)/\(zaG x_2.1/\I64 x_2.2.1/\I64 x_2.2.2)/\∀(y:Unit),True->BC q14 (BC (!q16) q18 (BC (!decide (q19=x.2.2.gen)) q18 q20)) q20))))=(fnVC tb [(131,zaA zlL),(133,zaA qqI)] Tryz.f91 ziI (fun _=>{}) (fun _=>none)):=by kernel_rfl

theorem zkS:SpecOk Tryz.prog 91 (zaA ziI):=by
 refine zaK zaM zaL (SPok.cons zm3 (SPok.cons ql7 SPok.nil)) Tryz.func91 (by decide) (zaR fun _=>⟨⟨rfl,rfl,rfl,trivial⟩,rfl,trivial⟩) (Eq.mp qh9 ?_)
 simp (maxSteps:=10000000) only [std,stdU,stdV,Exx,I64,Nat.reduceMul,Nat.reduceDiv,Nat.reduceAdd,Int.reduceToNat,zaQ,zaI]
 rintro s t d ⟨h,ht,hd⟩
 have bad:∀e:Int,e≠0->zcL s.ws t d=e->(false=(seatX s.ws t d).live/\0=(seatX s.ws t d).gen/\0=(seatX s.ws t d).next/\e=zcL s.ws t d/\s.ws=s.ws/\s.a=s.a):=fun e he h1=>by
  have hn:¬zcL s.ws t d=0:=by rw [h1]; exact he
  rw [seatX,if_neg hn]; exact ⟨rfl,rfl,rfl,h1.symm,rfl,rfl⟩
 refine ⟨s,t,rfl,rfl,rfl,rfl,rfl,rfl,rfl,rfl,h,ht,fun hn=>?_,fun hz=>?_⟩
 ·have hno:¬zb3 t:=fun k=>hn (by rw [if_pos k])
  rw [if_neg hno]
  exact bad 2 (by decide) (by rw [zcL,if_neg hno])
 ·have hok:zb3 t:=by
   by_cases k:zb3 t
   ·exact k
   ·rw [if_neg k] at hz; cases hz
  refine ⟨fun h1=>bad 11 (by decide) (by rw [zcL,if_pos hok,if_pos (.inl h1)]),fun h1=>⟨fun h2=>bad 11 (by decide) (by rw [zcL,if_pos hok,if_pos (.inr h2)]),fun h2=>⟨s,rfl,rfl,h,ht.2.2.2.1.1,ht.2.2.2.1.2,hd.1.1,hd.1.2,fun hw=>⟨fun hl=>bad 11 (by decide) ?_,fun hl=>⟨fun hg=>bad 11 (by decide) ?_,fun hg=>⟨fun q=>absurd hw q,fun _=>?_⟩⟩⟩,fun hw=>⟨fun _=>bad _ hw ?_,fun q=>absurd q hw⟩⟩⟩⟩
  ·rw [zcL,if_pos hok,if_neg (fun k=>by omega),if_pos hw,if_neg (fun k=>by rw [k.1] at hl; cases hl)]
  ·rw [zcL,if_pos hok,if_neg (fun k=>by omega),if_pos hw,if_neg (fun k=>hg k.2)]
  ·have e:zcL s.ws t d=0:=by rw [zcL,if_pos hok,if_neg (fun k=>by omega),if_pos hw,if_pos ⟨hl,hg⟩]
   rw [seatX,if_pos e]; exact ⟨rfl,rfl,rfl,e.symm,rfl,rfl⟩
  ·rw [zcL,if_pos hok,if_neg (fun k=>by omega),if_neg hw]
theorem findS_I (ws:List Nat) (top slot:Int):zdE (zfQ ws top slot):=by
 unfold zfQ
 split
 ·exact qbU _ _ _
 ·exact zlS zxK
theorem qjA (ws:List Nat) (t:TickT) (h:HandT):zdE (seatX ws t h):=by
 unfold seatX
 split
 ·exact findS_I _ _ _
 ·exact zlS zxK

theorem qfR {ws:List Nat} {t:TickT} {h:HandT} (hz:zcL ws t h=0):0 <= h.slot/\h.slot<t.high:=by
 unfold zcL at hz
 split at hz
 ·split at hz
  ·cases hz
  ·omega
 ·cases hz
def zgM:Ctr:=za5 (TickT×HandT) (fun x=>zaS x.2.1/\zhT x.2.2) (fun x=>[zeQ x.2.1,zy1 x.2.2]) (fun x=>x.1) (fun x => .tup [i64 (seatX x.1.ws x.2.1 x.2.2).next,i64 (zcL x.1.ws x.2.1 x.2.2)])

theorem zw2:(
 let q1:Prop:=true=true/\zaC/\0=0;
 let q2:Prop:=(107:TypeId)=107/\q1/\q1/\True; ∀(x:StoreT×TickT×HandT),zaG x.1/\zaS x.2.1/\zhT x.2.2->Exx (StoreT×TickT×HandT) fun x_1=>((q1/\(Tr 1 (x.2.1.blocks=x_1.2.1.blocks)/\Tr 1 (x.2.1.slots=x_1.2.1.slots)/\Tr 1 (x.2.1.gens=x_1.2.1.gens)/\Tr 1 (x.2.1.top=x_1.2.1.top)/\Tr 1 (x.2.1.high=x_1.2.1.high)/\Tr 1 (x.2.1.free=x_1.2.1.free)/\True)/\(Tr 1 (x.2.2.slot=x_1.2.2.slot)/\Tr 1 (x.2.2.gen=x_1.2.2.gen)/\True)/\True)/\true=true/\q2/\devB x.1.ws=devB x_1.1.ws/\zaB x.1.a=zaB x_1.1.a/\True)/\(zaG x_1.1/\zaS x_1.2.1/\zhT x_1.2.2)/\∀(y:Unit),True->Exx Unit fun y=>(((Tr 1 ((seatX x_1.1.ws x_1.2.1 x_1.2.2).next=(seatX x.1.ws x.2.1 x.2.2).next)/\Tr 1 (zcL x_1.1.ws x_1.2.1 x_1.2.2=zcL x.1.ws x.2.1 x.2.2)/\True)/\True)/\q2/\devB x_1.1.ws=devB x.1.ws/\zaB x_1.1.a=zaB x.1.a/\true=true/\True)/\True)=(fnVC tb [(91,zaA ziI)] Tryz.f96 zgM (fun _=>{}) (fun _=>none)):=by kernel_rfl

theorem zkJ:SpecOk Tryz.prog 96 (zaA zgM):=by
 refine zaK zaM zaL (SPok.cons zkS SPok.nil) Tryz.func96 (by decide) (zaR fun _=>⟨rfl,rfl,trivial⟩) (Eq.mp zw2 ?_)
 simp (maxSteps:=10000000) only [std,stdU,stdV,Exx,I64,Nat.reduceMul,Nat.reduceDiv,Nat.reduceAdd,Int.reduceToNat,zaQ,zaI]
 rintro s t d ⟨h,ht,hd⟩
 exact ⟨s,t,rfl,rfl,rfl,rfl,rfl,rfl,d,rfl,rfl,rfl,rfl,h,ht,hd,rfl,rfl,rfl,rfl⟩

def poiW (s:StoreT) (t:TickT) (h:HandT) (at_:Int):Wr:=putR s t.top h.slot ⟨(seatX s.ws t h).live,(seatX s.ws t h).gen,at_⟩
def qgF (s:StoreT) (t:TickT) (h:HandT) (at_:Int):Prop:=zcL s.ws t h=0/\(2 <= at_/\at_<3072)
instance (s:StoreT) (t:TickT) (h:HandT) (at_:Int):Decidable (qgF s t h at_):=by unfold qgF; infer_instance
def poiE (s:StoreT) (t:TickT) (h:HandT) (at_:Int):Int:=if qgF s t h at_ then (poiW s t h at_).e else if zcL s.ws t h=0 then 2 else zcL s.ws t h
def poiS (s:StoreT) (t:TickT) (h:HandT) (at_:Int):StoreT:=if qgF s t h at_ then (poiW s t h at_).s else s
def poiT (s:StoreT) (t:TickT) (h:HandT) (at_:Int):TickT:=if poiE s t h at_=0 then { t with top:=(poiW s t h at_).at_ } else tickZ
def zm1:Ctr:=za5 (TickT×HandT×Int) (fun x=>zaS x.2.1/\zhT x.2.2.1/\I64 x.2.2.2) (fun x=>[zeQ x.2.1,zy1 x.2.2.1,i64 x.2.2.2]) (fun x=>poiS x.1 x.2.1 x.2.2.1 x.2.2.2) (fun x => .tup [zeQ (poiT x.1 x.2.1 x.2.2.1 x.2.2.2),i64 (poiE x.1 x.2.1 x.2.2.1 x.2.2.2)])

theorem qe8:(
 let q1:Prop:=true=true/\zaC/\0=0;
 let q2:Prop:=(107:TypeId)=107/\q1/\q1/\True; ∀(x:StoreT×TickT×HandT×Int),
 let q3:HandT:=x.2.2.1;
 let q4:Int:=x.2.2.2;
 let q5:Int:=q3.slot;
 let q6:TickT:=poiT x.1 x.2.1 q3 q4;
 let q7:Int:=q6.blocks;
 let q8:Int:=q6.slots;
 let q9:Int:=q6.gens;
 let q10:Int:=q6.top;
 let q11:Int:=q6.high;
 let q12:Int:=q6.free;
 let q13:Prop:=Tr 1 ((0:Int)=q7)/\Tr 1 ((0:Int)=q8)/\Tr 1 ((0:Int)=q9)/\Tr 1 ((0:Int)=q10)/\Tr 1 ((0:Int)=q11)/\Tr 1 ((0:Int)=q12)/\True;
 let q14:Int:=poiE x.1 x.2.1 q3 q4;
 let q15:StoreT:=poiS x.1 x.2.1 q3 q4;
 let q16:Ob:=devB q15.ws;
 let q17:Ob:=zaB q15.a; zaG x.1/\zaS x.2.1/\zhT q3/\I64 q4->Exx (StoreT×TickT×HandT) fun x_1 =>
 let q18:Int:=zcL x_1.1.ws x_1.2.1 x_1.2.2;
 let q19:Prop:=q2/\devB x_1.1.ws=q16/\zaB x_1.1.a=q17/\true=true/\True;
 let q20:SeatT:=seatX x_1.1.ws x_1.2.1 x_1.2.2; ((q1/\(Tr 1 (x.2.1.blocks=x_1.2.1.blocks)/\Tr 1 (x.2.1.slots=x_1.2.1.slots)/\Tr 1 (x.2.1.gens=x_1.2.1.gens)/\Tr 1 (x.2.1.top=x_1.2.1.top)/\Tr 1 (x.2.1.high=x_1.2.1.high)/\Tr 1 (x.2.1.free=x_1.2.1.free)/\True)/\(Tr 1 (q5=x_1.2.2.slot)/\Tr 1 (q3.gen=x_1.2.2.gen)/\True)/\True)/\true=true/\q2/\devB x.1.ws=devB x_1.1.ws/\zaB x.1.a=zaB x_1.1.a/\True)/\(zaG x_1.1/\zaS x_1.2.1/\zhT x_1.2.2)/\∀(y:Unit),True->BC (!decide (q18=(0:Int))) (Exx Unit fun y=>(((q13/\Tr 1 (q18=q14)/\True)/\True)/\q19)/\True) (Exx Int fun x_2=>((Tr 1 (q4=x_2)/\True)/\true=true/\True)/\(-9223372036854775808 <= x_2/\x_2 <= (9223372036854775807:Int))/\∀(y:Unit),True->BC (!decide ((2:Int) <= x_2/\x_2<(3072:Int))) (Exx Unit fun y=>(((q13/\Tr 1 ((2:Int)=q14)/\True)/\True)/\q19)/\True) (Exx (StoreT×TickT×Int×SeatT) fun x_3 =>
 let q21:Int:=x_3.2.2.1;
 let q22:SeatT:=x_3.2.2.2;
 let q23:TickT:=zeP x_3.1 x_3.2.1 q21 q22;
 let q24:Wr:=putR x_3.1 x_3.2.1.top q21 q22;
 let q25:StoreT:=q24.s; ((q1/\(Tr 1 (x.2.1.blocks=x_3.2.1.blocks)/\Tr 1 (x.2.1.slots=x_3.2.1.slots)/\Tr 1 (x.2.1.gens=x_3.2.1.gens)/\Tr 1 (x.2.1.top=x_3.2.1.top)/\Tr 1 (x.2.1.high=x_3.2.1.high)/\Tr 1 (x.2.1.free=x_3.2.1.free)/\True)/\Tr 1 (q5=q21)/\(q20.live=q22.live/\Tr 1 (q20.gen=q22.gen)/\Tr 1 (q4=q22.next)/\True)/\True)/\true=true/\q2/\devB x_1.1.ws=devB x_3.1.ws/\zaB x_1.1.a=zaB x_3.1.a/\True)/\(zaG x_3.1/\zaS x_3.2.1/\I64 q21/\zdE q22)/\∀(y:Unit),True->Exx Unit fun y=>((((Tr 1 (q23.blocks=q7)/\Tr 1 (q23.slots=q8)/\Tr 1 (q23.gens=q9)/\Tr 1 (q23.top=q10)/\Tr 1 (q23.high=q11)/\Tr 1 (q23.free=q12)/\True)/\Tr 1 (q24.e=q14)/\True)/\True)/\q2/\devB q25.ws=q16/\zaB q25.a=q17/\true=true/\True)/\True)))=(fnVC tb [(91,zaA ziI),(92,zaA ziH),(132,zaA zjN)] Tryz.f126 zm1 (fun _=>{}) (fun _=>none)):=by kernel_rfl

theorem zw4:SpecOk Tryz.prog 126 (zaA zm1):=by
 refine zaK zaM zaL (SPok.cons zkS (SPok.cons zkR (SPok.cons zoH SPok.nil))) Tryz.func126 (by decide) (zaR fun _=>⟨⟨rfl,rfl,rfl,rfl,rfl,rfl,trivial⟩,rfl,trivial⟩) (Eq.mp qe8 ?_)
 simp (maxSteps:=10000000) only [std,stdU,stdV,Exx,I64,Nat.reduceMul,Nat.reduceDiv,Nat.reduceAdd,Int.reduceToNat,zaQ,zaI]
 rintro s t d at_ ⟨h,ht,hd,hb1,hb2⟩
 have bad:∀e:Int,e≠0->poiE s t d at_=e->poiS s t d at_=s->(0=(poiT s t d at_).blocks/\0=(poiT s t d at_).slots/\0=(poiT s t d at_).gens/\0=(poiT s t d at_).top/\0=(poiT s t d at_).high/\0=(poiT s t d at_).free/\e=poiE s t d at_/\s.ws=(poiS s t d at_).ws/\s.a=(poiS s t d at_).a):=fun e he h1 h2=>by
  have hn:¬poiE s t d at_=0:=by rw [h1]; exact he
  rw [poiT,if_neg hn,h2]; exact ⟨rfl,rfl,rfl,rfl,rfl,rfl,h1.symm,rfl,rfl⟩
 refine ⟨s,t,rfl,rfl,rfl,rfl,rfl,rfl,d,rfl,rfl,rfl,rfl,h,ht,hd,fun hn=>bad _ hn ?_ ?_,fun hz=>⟨hb1,hb2,fun hnb=>bad 2 (by decide) ?_ ?_,fun hbk=>⟨s,t,rfl,rfl,rfl,rfl,rfl,rfl,⟨(seatX s.ws t d).live,(seatX s.ws t d).gen,at_⟩,rfl,rfl,rfl,rfl,rfl,h,ht,hd.1.1,hd.1.2,⟨(qjA _ _ _).1,hb1,hb2⟩,?_⟩⟩⟩
 ·rw [poiE,if_neg (fun k=>hn k.1),if_neg hn]
 ·rw [poiS,if_neg (fun k=>hn k.1)]
 ·rw [poiE,if_neg (fun k=>hnb k.2),if_pos hz]
 ·rw [poiS,if_neg (fun k=>hnb k.2)]
 ·have hp:qgF s t d at_:=⟨hz,hbk⟩
  have eE:poiE s t d at_=(poiW s t d at_).e:=by rw [poiE,if_pos hp]
  have eS:poiS s t d at_=(poiW s t d at_).s:=by rw [poiS,if_pos hp]
  have eT:zeP s t d.slot ⟨(seatX s.ws t d).live,(seatX s.ws t d).gen,at_⟩=poiT s t d at_:=by rw [zeP,poiT,eE]; rfl
  rw [eT,eE,eS]; exact ⟨rfl,rfl,rfl,rfl,rfl,rfl,rfl,rfl,rfl⟩

def relX (ws:List Nat) (t:TickT) (h:HandT):SeatT:=⟨false,(seatX ws t h).gen,if (seatX ws t h).gen<t.gens then t.free else 0⟩
def relW (s:StoreT) (t:TickT) (h:HandT):Wr:=putR s t.top h.slot (relX s.ws t h)
def relE (s:StoreT) (t:TickT) (h:HandT):Int:=if zcL s.ws t h=0 then (relW s t h).e else zcL s.ws t h
def relS (s:StoreT) (t:TickT) (h:HandT):StoreT:=if zcL s.ws t h=0 then (relW s t h).s else s
def relT (s:StoreT) (t:TickT) (h:HandT):TickT:=if relE s t h=0 then { t with top:=(relW s t h).at_,free:=if (seatX s.ws t h).gen<t.gens then h.slot+1 else t.free } else tickZ
def ziJ:Ctr:=za5 (TickT×HandT) (fun x=>zaS x.2.1/\zhT x.2.2) (fun x=>[zeQ x.2.1,zy1 x.2.2]) (fun x=>relS x.1 x.2.1 x.2.2) (fun x => .tup [zeQ (relT x.1 x.2.1 x.2.2),i64 (relE x.1 x.2.1 x.2.2)])

theorem zw3:(
 let q1:Prop:=true=true/\zaC/\0=0;
 let q2:Prop:=(107:TypeId)=107/\q1/\q1/\True; ∀(x:StoreT×TickT×HandT),
 let q3:TickT:=relT x.1 x.2.1 x.2.2;
 let q4:Int:=q3.blocks;
 let q5:Int:=q3.slots;
 let q6:Int:=q3.gens;
 let q7:Int:=q3.top;
 let q8:Int:=q3.high;
 let q9:Int:=q3.free;
 let q10:Int:=relE x.1 x.2.1 x.2.2;
 let q11:StoreT:=relS x.1 x.2.1 x.2.2;
 let q12:Ob:=devB q11.ws;
 let q13:Ob:=zaB q11.a;
 let q14:Int:=x.2.2.slot+1; zaG x.1/\zaS x.2.1/\zhT x.2.2->Exx (StoreT×TickT×HandT) fun x_1 =>
 let q15:Int:=zcL x_1.1.ws x_1.2.1 x_1.2.2;
 let q16:Int:=(seatX x_1.1.ws x_1.2.1 x_1.2.2).gen; ((q1/\(Tr 1 (x.2.1.blocks=x_1.2.1.blocks)/\Tr 1 (x.2.1.slots=x_1.2.1.slots)/\Tr 1 (x.2.1.gens=x_1.2.1.gens)/\Tr 1 (x.2.1.top=x_1.2.1.top)/\Tr 1 (x.2.1.high=x_1.2.1.high)/\Tr 1 (x.2.1.free=x_1.2.1.free)/\True)/\(Tr 1 (x.2.2.slot=x_1.2.2.slot)/\Tr 1 (x.2.2.gen=x_1.2.2.gen)/\True)/\True)/\true=true/\q2/\devB x.1.ws=devB x_1.1.ws/\zaB x.1.a=zaB x_1.1.a/\True)/\(zaG x_1.1/\zaS x_1.2.1/\zhT x_1.2.2)/\∀(y:Unit),True->BC (!decide (q15=(0:Int))) (Exx Unit fun y=>((((Tr 1 ((0:Int)=q4)/\Tr 1 ((0:Int)=q5)/\Tr 1 ((0:Int)=q6)/\Tr 1 ((0:Int)=q7)/\Tr 1 ((0:Int)=q8)/\Tr 1 ((0:Int)=q9)/\True)/\Tr 1 (q15=q10)/\True)/\True)/\q2/\devB x_1.1.ws=q12/\zaB x_1.1.a=q13/\true=true/\True)/\True) (BC (decide (q16<x.2.1.gens)) (I64 q14/\Exx (StoreT×TickT×Int×SeatT) fun x_2 =>
 let q17:Int:=x_2.2.2.1;
 let q18:SeatT:=x_2.2.2.2;
 let q19:TickT:=zeP x_2.1 x_2.2.1 q17 q18;
 let q20:Wr:=putR x_2.1 x_2.2.1.top q17 q18;
 let q21:StoreT:=q20.s; ((q1/\(Tr 1 (x.2.1.blocks=x_2.2.1.blocks)/\Tr 1 (x.2.1.slots=x_2.2.1.slots)/\Tr 1 (x.2.1.gens=x_2.2.1.gens)/\Tr 1 (x.2.1.top=x_2.2.1.top)/\Tr 1 (x.2.1.high=x_2.2.1.high)/\Tr 1 (q14=x_2.2.1.free)/\True)/\Tr 1 (x.2.2.slot=q17)/\(false=q18.live/\Tr 1 (q16=q18.gen)/\Tr 1 (x.2.1.free=q18.next)/\True)/\True)/\true=true/\q2/\devB x_1.1.ws=devB x_2.1.ws/\zaB x_1.1.a=zaB x_2.1.a/\True)/\(zaG x_2.1/\zaS x_2.2.1/\I64 q17/\zdE q18)/\∀(y:Unit),True->Exx Unit fun y=>((((Tr 1 (q19.blocks=q4)/\Tr 1 (q19.slots=q5)/\Tr 1 (q19.gens=q6)/\Tr 1 (q19.top=q7)/\Tr 1 (q19.high=q8)/\Tr 1 (q19.free=q9)/\True)/\Tr 1 (q20.e=q10)/\True)/\True)/\q2/\devB q21.ws=q12/\zaB q21.a=q13/\true=true/\True)/\True) (Exx (StoreT×TickT×Int×SeatT) fun x_2 =>
 let q22:Int:=x_2.2.2.1;
 let q23:SeatT:=x_2.2.2.2;
 let q24:TickT:=zeP x_2.1 x_2.2.1 q22 q23;
 let q25:Wr:=putR x_2.1 x_2.2.1.top q22 q23;
 let q26:StoreT:=q25.s; ((q1/\(Tr 1 (x.2.1.blocks=x_2.2.1.blocks)/\Tr 1 (x.2.1.slots=x_2.2.1.slots)/\Tr 1 (x.2.1.gens=x_2.2.1.gens)/\Tr 1 (x.2.1.top=x_2.2.1.top)/\Tr 1 (x.2.1.high=x_2.2.1.high)/\Tr 1 (x.2.1.free=x_2.2.1.free)/\True)/\Tr 1 (x.2.2.slot=q22)/\(false=q23.live/\Tr 1 (q16=q23.gen)/\Tr 1 ((0:Int)=q23.next)/\True)/\True)/\true=true/\q2/\devB x_1.1.ws=devB x_2.1.ws/\zaB x_1.1.a=zaB x_2.1.a/\True)/\(zaG x_2.1/\zaS x_2.2.1/\I64 q22/\zdE q23)/\∀(y:Unit),True->Exx Unit fun y=>((((Tr 1 (q24.blocks=q4)/\Tr 1 (q24.slots=q5)/\Tr 1 (q24.gens=q6)/\Tr 1 (q24.top=q7)/\Tr 1 (q24.high=q8)/\Tr 1 (q24.free=q9)/\True)/\Tr 1 (q25.e=q10)/\True)/\True)/\q2/\devB q26.ws=q12/\zaB q26.a=q13/\true=true/\True)/\True)))=(fnVC tb [(91,zaA ziI),(92,zaA ziH)] Tryz.f54 ziJ (fun x=>{ loose:=[(6,[4,7])] }) (fun _=>none)):=by kernel_rfl

theorem zsK:SpecOk Tryz.prog 54 (zaA ziJ):=by
 refine zaK zaM zaL (SPok.cons zkS (SPok.cons zkR SPok.nil)) Tryz.func54 (by decide) (zaR fun _=>⟨⟨rfl,rfl,rfl,rfl,rfl,rfl,trivial⟩,rfl,trivial⟩) (Eq.mp zw3 ?_)
 simp (maxSteps:=10000000) only [std,stdU,stdV,Exx,I64,Nat.reduceMul,Nat.reduceDiv,Nat.reduceAdd,Int.reduceToNat,zaQ,zaI]
 rintro s t d ⟨h,ht,hd⟩
 have bad:∀e:Int,e≠0->relE s t d=e->relS s t d=s->(0=(relT s t d).blocks/\0=(relT s t d).slots/\0=(relT s t d).gens/\0=(relT s t d).top/\0=(relT s t d).high/\0=(relT s t d).free/\e=relE s t d/\s.ws=(relS s t d).ws/\s.a=(relS s t d).a):=fun e he h1 h2=>by
  have hn:¬relE s t d=0:=by rw [h1]; exact he
  rw [relT,if_neg hn,h2]; exact ⟨rfl,rfl,rfl,rfl,rfl,rfl,h1.symm,rfl,rfl⟩
 have ht0:=ht
 obtain ⟨i1,i2,i3,i4,i5,i6⟩:=ht
 refine ⟨s,t,rfl,rfl,rfl,rfl,rfl,rfl,d,rfl,rfl,rfl,rfl,h,ht0,hd,fun hn=>bad _ hn (by rw [relE,if_neg hn]) (by rw [relS,if_neg hn]),fun hz=>?_⟩
 have hsl:=qfR hz
 have hsx:=qjA s.ws t d
 have eE:relE s t d=(relW s t d).e:=by rw [relE,if_pos hz]
 have eS:relS s t d=(relW s t d).s:=by rw [relS,if_pos hz]
 have h51:=i5.1
 have h52:=i5.2
 refine ⟨fun hg=>⟨by omega,by omega,s,{ t with free:=d.slot+1 },rfl,rfl,rfl,rfl,rfl,rfl,relX s.ws t d,rfl,rfl,by rw [relX,if_pos hg],rfl,rfl,h,⟨i1,i2,i3,i4,i5,⟨by simp only; omega,by simp only; omega⟩⟩,hd.1.1,hd.1.2,⟨hsx.1,by rw [relX,if_pos hg]; exact i6⟩,?_⟩,fun hg=>⟨s,t,rfl,rfl,rfl,rfl,rfl,rfl,relX s.ws t d,rfl,rfl,by rw [relX,if_neg hg],rfl,rfl,h,ht0,hd.1.1,hd.1.2,⟨hsx.1,by rw [relX,if_neg hg]; exact I64_0⟩,?_⟩⟩
 ·have eT:zeP s { t with free:=d.slot+1 } d.slot (relX s.ws t d)=relT s t d:=by rw [zeP,relT,eE,if_pos hg]; rfl
  rw [eT,eE,eS]; exact ⟨rfl,rfl,rfl,rfl,rfl,rfl,rfl,rfl,rfl⟩
 ·have eT:zeP s t d.slot (relX s.ws t d)=relT s t d:=by rw [zeP,relT,eE,if_neg hg]; rfl
  rw [eT,eE,eS]; exact ⟨rfl,rfl,rfl,rfl,rfl,rfl,rfl,rfl,rfl⟩


structure DeskT where
 gens:List Int
 blocks:List Int
 free:List Nat
def gAt (d:DeskT) (i:Nat):Int:=d.gens.getD i 0
def bAt (d:DeskT) (i:Nat):Int:=d.blocks.getD i 0
def znW:List Nat->Int
 | []=>0
 | a :: _=>(a:Int)+1
def zsN:List Nat->Nat->Int
 | [],_=>0
 | a :: r,i=>if a=i then znW r else zsN r i
def zf7 (d:DeskT) (i:Nat):SeatT:=if bAt d i=0 then ⟨false,gAt d i,zsN d.free i⟩ else ⟨true,gAt d i,bAt d i⟩

theorem qeG {l:List Nat} {n:Nat} (h:∀a∈l,a<n):0 <= znW l/\znW l <= (n:Int):=by
 cases l with
 | nil=>exact ⟨Int.le_refl _,show (0:Int) <= (n:Int) by omega⟩
 | cons a r =>
   have:=h a (List.mem_cons_self ..)
   have e:znW (a :: r)=(a:Int)+1:=rfl
   omega
theorem qkQ {l:List Nat} {i:Nat} (h:i∉l):zsN l i=0:=by
 induction l with
 | nil=>rfl
 | cons a r ih =>
   rw [List.mem_cons,not_or] at h
   unfold zsN
   rw [if_neg (fun e=>h.1 e.symm)]; exact ih h.2

structure TInvX (X:Int->Prop) (s:StoreT) (t:TickT) (d:DeskT):Prop where
 ok:zb3 t
 htop:I64 t.top
 good:GoodS s
 tree:TreeX X s t.top
 high:t.high=(d.gens.length:Int)
 lenb:d.blocks.length=d.gens.length
 free:t.free=znW d.free
 seats:∀i:Nat,i<d.gens.length->tS s.ws t.top (placeK (i:Int) 0) (placeK (i:Int) 1) (placeK (i:Int) 2)=zf7 d i
 fnd:d.free.Nodup
 fok:∀a∈d.free,a<d.gens.length/\bAt d a=0/\gAt d a<t.gens
 gok:∀i,i<d.gens.length->1 <= gAt d i/\gAt d i <= t.gens
 bok:∀i,i<d.gens.length->bAt d i=0\/(2 <= bAt d i/\bAt d i<3072)
 zK:∀i:Nat,i<16->fanF s.ws t.top i≠0->112*(i:Int)<t.high
 zF:∀i j:Nat,i<16->j<16->tF s.ws t.top i j≠0->112*(i:Int)+7*(j:Int)<t.high

abbrev TInv (s:StoreT) (t:TickT) (d:DeskT):Prop:=TInvX noX s t d
theorem TInvX.tI {X:Int->Prop} {s:StoreT} {t:TickT} {d:DeskT} (h:TInvX X s t d):zaS t:=by
 obtain ⟨⟨h1,h2,h3,h4,h5,h6⟩,h7,h8,h9,h10⟩:=h.ok
 exact ⟨⟨by omega,by omega⟩,⟨by omega,by omega⟩,⟨by omega,by omega⟩,h.htop,⟨by omega,by omega⟩,⟨by omega,by omega⟩⟩
theorem TInvX.len {X:Int->Prop} {s:StoreT} {t:TickT} {d:DeskT} (h:TInvX X s t d):(d.gens.length:Int) <= t.slots/\t.slots <= 1792:=by
 have:=h.high
 have h2:=h.ok.2.2.1
 have h3:=h.ok.1.2.2.2.1
 omega
theorem TInvX.place {X:Int->Prop} {s:StoreT} {t:TickT} {d:DeskT} (h:TInvX X s t d) {i:Nat} (hi:i<d.gens.length):zbH (i:Int):=by
 have:=h.len
 exact ⟨by omega,by omega⟩
theorem TInvX.find {X:Int->Prop} {s:StoreT} {t:TickT} {d:DeskT} (h:TInvX X s t d) {i:Nat} (hi:i<d.gens.length):zbA s.ws t.top (i:Int)=0/\zfQ s.ws t.top (i:Int)=zf7 d i :=
 ⟨zpT (h.place hi) h.tree,by rw [qh2 h.tree (h.place hi)]; exact h.seats i hi⟩

def zeU (slots:Int) (d:DeskT):Option (Nat×Int):=match d.free with
 | a :: _=>some (a,gAt d a+1)
 | []=>if (d.gens.length:Int)=slots then none else some (d.gens.length,1)
theorem zyE {X:Int->Prop} {s:StoreT} {t:TickT} {d:DeskT} (h:TInvX X s t d) {a:Nat} {g:Int} (hn:zeU t.slots d=some (a,g)):zcG s.ws t=0/\zfN s.ws t=(a:Int)/\(nextX s.ws t).gen=g-1/\(0<t.free->(nextX s.ws t).next=znW d.free.tail):=by
 have hfr:=h.free
 unfold zeU at hn
 cases hd:d.free with
 | nil =>
   rw [hd] at hn hfr
   simp only at hn
   split at hn
   ·cases hn
   ·rename_i hne
    cases hn
    have hz:t.free=0:=hfr
    have e:zcG s.ws t=0:=by rw [zcG,if_pos h.ok,if_pos hz,if_neg (by have:=h.high; omega)]
    refine ⟨e,?_,?_,fun hp=>by omega⟩
    ·rw [zfN,if_pos e,if_pos hz]; exact h.high
    ·rw [nextX,if_pos e,if_pos hz]; rfl
 | cons b r =>
   rw [hd] at hn hfr
   simp only [Option.some.injEq,Prod.mk.injEq] at hn
   obtain ⟨rfl,rfl⟩:=hn
   have hz:t.free=(b:Int)+1:=hfr
   have hb:=h.fok b (by rw [hd]; exact List.mem_cons_self ..)
   have hz1:t.free-1=(b:Int):=by omega
   have hF:=h.find hb.1
   have hg:=h.gok b hb.1
   have eX:zf7 d b=⟨false,gAt d b,znW r⟩:=by rw [zf7,if_pos hb.2.1,hd,zsN,if_pos rfl]
   have e:zcG s.ws t=0:=by
    rw [zcG,if_pos h.ok,if_neg (by omega),hz1,if_pos hF.1,if_neg]
    rw [hF.2,eX]; simp only; intro k
    rcases k with k | k | k
    ·cases k
    ·omega
    ·omega
   refine ⟨e,?_,?_,fun _=>?_⟩
   ·rw [zfN,if_pos e,if_neg (by omega),hz1]
   ·rw [nextX,if_pos e,if_neg (by omega),hz1,hF.2,eX]; simp only; omega
   ·rw [nextX,if_pos e,if_neg (by omega),hz1,hF.2,eX]; rfl
theorem zfF {l:List Int} {j i:Nat} {v:Int} (hj:j<l.length):(l.set j v).getD i 0=if i=j then v else l.getD i 0:=zv2 hj
theorem zmK {l:List Int} {i:Nat} {v:Int}:(l++[v]).getD i 0=if i=l.length then v else l.getD i 0:=by
 rw [zaH]
 by_cases h:i<l.length
 ·rw [if_pos h,if_neg (by omega)]
 ·rw [if_neg h]
  by_cases e:i=l.length
  ·rw [if_pos e,e,Nat.sub_self]; rfl
  ·rw [if_neg e,List.getD_eq_getElem?_getD,List.getD_eq_getElem?_getD,List.getElem?_eq_none (by simp; omega),List.getElem?_eq_none (by omega)]
theorem getD_ge {l:List Int} {i:Nat} (h:l.length <= i):l.getD i 0=0:=by
 rw [List.getD_eq_getElem?_getD,List.getElem?_eq_none h]; rfl

def zb6 (d:DeskT) (at_:Int):DeskT:=match d.free with
 | a :: r=>{ gens:=d.gens.set a (gAt d a+1),blocks:=d.blocks.set a at_,free:=r }
 | []=>{ gens:=d.gens++[1],blocks:=d.blocks++[at_],free:=[] }
def zeC (gens:Int) (d:DeskT) (a:Nat):DeskT:={ d with blocks:=d.blocks.set a 0,free:=if gAt d a<gens then a :: d.free else d.free }
def zh8 (d:DeskT) (a:Nat) (at_:Int):DeskT:={ d with blocks:=d.blocks.set a at_ }

theorem ztI {i j:Nat} (hi:i<1792) (hj:j<1792):(placeK (i:Int) 0=placeK (j:Int) 0/\placeK (i:Int) 1=placeK (j:Int) 1/\placeK (i:Int) 2=placeK (j:Int) 2) ↔ i=j:=by
 refine ⟨fun h=>?_,fun h=>by subst h; exact ⟨rfl,rfl,rfl⟩⟩
 have:=qj9 (a:=(i:Int)) (b:=(j:Int)) ⟨by omega,by omega⟩ ⟨by omega,by omega⟩ h
 omega
theorem qdX {a i j:Nat} (ha:a<1792):(i=placeK (a:Int) 0->112*(i:Int) <= (a:Int))/\(i=placeK (a:Int) 0/\j=placeK (a:Int) 1->112*(i:Int)+7*(j:Int) <= (a:Int)):=by
 have hp:zbH (a:Int):=⟨by omega,by omega⟩
 have e0:placeK (a:Int) 0=a / 7 / 16:=by simp [placeK,hp]
 have e1:placeK (a:Int) 1=a / 7 % 16:=by simp [placeK,hp]
 rw [e0,e1]
 constructor
 ·intro h; omega
 ·rintro ⟨h,k⟩; omega

theorem zpE {X:Int->Prop} {s:StoreT} {t:TickT} {d d':DeskT} (h:TInvX X s t d) (hf:3 <= freeN s.a) {a:Nat} {x:SeatT} {t':TickT} (ha:(a:Int)<t.slots) (hx:za6 x)
  (e1:t'.blocks=t.blocks) (e2:t'.slots=t.slots) (e3:t'.gens=t.gens) (e4:t'.top=(putR s t.top (a:Int) x).at_)
  (len:d'.blocks.length=d'.gens.length) (hlen:d.gens.length <= d'.gens.length) (hal:a<d'.gens.length) (hsl:(d'.gens.length:Int) <= t.slots) (hnew:∀i,d.gens.length <= i->i<d'.gens.length->i=a)
  (hhigh:t'.high=(d'.gens.length:Int)) (hfree:t'.free=znW d'.free) (hs:zf7 d' a=x) (ho:∀i,i<d.gens.length->i≠a->zf7 d' i=zf7 d i)
  (fnd:d'.free.Nodup) (fok:∀b∈d'.free,b<d'.gens.length/\bAt d' b=0/\gAt d' b<t.gens) (gok:∀i,i<d'.gens.length->1 <= gAt d' i/\gAt d' i <= t.gens) (bok:∀i,i<d'.gens.length->bAt d' i=0\/(2 <= bAt d' i/\bAt d' i<3072)) :
  PutX X s t.top (a:Int) x (putR s t.top (a:Int) x)/\TInvX X (putR s t.top (a:Int) x).s t' d':=by
 have hsl2:=h.len.2
 have hp:zbH (a:Int):=⟨by omega,by omega⟩
 rcases tree_put h.good h.tree hp hx with S | N
 ·refine ⟨S,?_,by rw [e4]; exact zvB h.good.W h.htop _ _,S.good,by rw [e4]; exact S.tree,hhigh,len,hfree,fun i hi=>?_,fnd,by rw [e3]; exact fok,by rw [e3]; exact gok,bok,fun i hi hn=>?_,fun i j hi hj hn=>?_⟩
  ·have hk:=h.ok
   have hb:=qeG (l:=d'.free) (n:=d'.gens.length) fun b hb=>(fok b hb).1
   exact ⟨by rw [e1,e2,e3]; exact hk.1,by omega,by omega,by omega,by omega⟩
  ·have hil:i<1792:=by omega
   have hip:zbH (i:Int):=⟨by omega,by omega⟩
   obtain ⟨p0,p1,p2⟩:=zj2 hip
   rw [e4,S.seats _ _ _ p0 p1 p2]
   by_cases e:i=a
   ·rw [if_pos ((ztI hil (by omega)).2 e),e,hs]
   ·rw [if_neg (fun k=>e ((ztI hil (by omega)).1 k))]
    by_cases hid:i<d.gens.length
    ·rw [h.seats i hid,ho i hid e]
    ·exact absurd (hnew i (by omega) hi) e
  ·rw [e4] at hn
   rcases (S.nzK i hi).1 hn with k | k
   ·have:=(qdX (a:=a) (i:=i) (j:=0) (by omega)).1 k; omega
   ·have:=h.zK i hi k; have:=h.high; omega
  ·rw [e4] at hn
   rcases (S.nzF i j hi hj).1 hn with k | k
   ·have:=(qdX (a:=a) (i:=i) (j:=j) (by omega)).2 k; omega
   ·have:=h.zF i j hi hj k; have:=h.high; omega
 ·have:=N.free; omega

theorem qgQ {X:Int->Prop} {s:StoreT} {t:TickT} {d:DeskT} (h:TInvX X s t d) (hf:3 <= freeN s.a) {at_:Int} (hb:2 <= at_/\at_<3072) {a:Nat} {g:Int} (hn:zeU t.slots d=some (a,g)) :
  issE s t at_=0/\issH s t at_=⟨(a:Int),g⟩/\issS s t at_=(issW s t at_).s/\PutX X s t.top (a:Int) ⟨true,g,at_⟩ (issW s t at_)/\TInvX X (issS s t at_) (issT s t at_) (zb6 d at_):=by
 obtain ⟨n1,n2,n3,n4⟩:=zyE h hn
 have hg:=ziZ n1
 have hi:qgR s t at_:=⟨h.ok,hb,n1⟩
 have eW:issW s t at_=putR s t.top (a:Int) ⟨true,g,at_⟩:=by
  rw [issW,n2,n3]; congr 2; omega
 have hx:za6 ⟨true,g,at_⟩:=by
  have:1 <= g/\g <= 4294967295/\2 <= at_/\at_ <= 3071:=by omega
  simpa [za6] using this
 have hlen:=h.len
 have hfr:=h.free
 have hlb:=h.lenb
 have hhi:=h.high
 have key:∀t':TickT,t'.blocks=t.blocks->t'.slots=t.slots->t'.gens=t.gens->t'.top=(putR s t.top (a:Int) ⟨true,g,at_⟩).at_->t'.high=(if 0<t.free then t.high else t.high+1)->t'.free=(if 0<t.free then (nextX s.ws t).next else t.free) ->
   PutX X s t.top (a:Int) ⟨true,g,at_⟩ (putR s t.top (a:Int) ⟨true,g,at_⟩)/\TInvX X (putR s t.top (a:Int) ⟨true,g,at_⟩).s t' (zb6 d at_):=fun t' k1 k2 k3 k4 k5 k6=>by
  unfold zeU at hn
  unfold zb6
  cases hd:d.free with
  | nil =>
    rw [hd] at hn hfr
    simp only at hn
    have hz:t.free=0:=hfr
    rw [if_neg (by omega)] at k5 k6
    split at hn
    ·cases hn
    ·rename_i hne
     cases hn
     have eb:∀i,bAt { gens:=d.gens++[1],blocks:=d.blocks++[at_],free:=[] } i=if i=d.gens.length then at_ else bAt d i:=fun i=>by rw [bAt,zmK,hlb]; rfl
     have eg:∀i,gAt { gens:=d.gens++[1],blocks:=d.blocks++[at_],free:=[] } i=if i=d.gens.length then 1 else gAt d i:=fun i=>by rw [gAt,zmK]; rfl
     have el:(d.gens++[(1:Int)]).length=d.gens.length+1:=by simp
     refine zpE h hf (by omega) hx k1 k2 k3 k4 (by simp [hlb]) (by rw [el]; omega) (by rw [el]; omega) (by rw [el]; omega) (fun i h1 h2=>by rw [el] at h2; omega) (by rw [el,k5,hhi]; omega) (by rw [k6,hz]; rfl) ?_ (fun i hi1 hne1=>?_) List.nodup_nil (fun b hb=>(by cases hb)) (fun i hi1=>?_) (fun i hi1=>?_)
     ·rw [zf7,eb,eg,if_pos rfl,if_pos rfl,if_neg (by omega)]
     ·rw [zf7,zf7,eb,eg,if_neg hne1,if_neg hne1,hd]
     ·rw [eg]
      split
      ·omega
      ·exact h.gok i (by rw [el] at hi1; omega)
     ·rw [eb]
      split
      ·exact .inr hb
      ·exact h.bok i (by rw [el] at hi1; omega)
  | cons b r =>
    rw [hd] at hn hfr
    simp only [Option.some.injEq,Prod.mk.injEq] at hn
    obtain ⟨rfl,rfl⟩:=hn
    have hz:t.free=(b:Int)+1:=hfr
    have hbf:=h.fok b (by rw [hd]; exact List.mem_cons_self ..)
    have hnd:=h.fnd
    rw [hd,List.nodup_cons] at hnd
    rw [if_pos (by omega)] at k5 k6
    rw [n4 (by omega),hd] at k6
    have eb:∀i,bAt { gens:=d.gens.set b (gAt d b+1),blocks:=d.blocks.set b at_,free:=r } i=if i=b then at_ else bAt d i:=fun i=>by rw [bAt,zfF (by omega)]; rfl
    have eg:∀i,gAt { gens:=d.gens.set b (gAt d b+1),blocks:=d.blocks.set b at_,free:=r } i=if i=b then gAt d b+1 else gAt d i:=fun i=>by rw [gAt,zfF hbf.1]; rfl
    have el:(d.gens.set b (gAt d b+1)).length=d.gens.length:=List.length_set ..
    have hin:∀c∈r,c∈d.free:=fun c hc=>by rw [hd]; exact List.mem_cons_of_mem _ hc
    refine zpE h hf (by omega) hx k1 k2 k3 k4 (by simp only [List.length_set]; exact hlb) (by rw [el]; omega) (by rw [el]; omega) (by rw [el]; omega) (fun i h1 h2=>by rw [el] at h2; omega) (by rw [el,k5,hhi]) k6 ?_ (fun i hi1 hne1=>?_) hnd.2 (fun c hc=>?_) (fun i hi1=>?_) (fun i hi1=>?_)
    ·rw [zf7,eb,eg,if_pos rfl,if_pos rfl,if_neg (by omega)]
    ·have en:zsN (b :: r) i=zsN r i:=by rw [zsN,if_neg (fun e=>hne1 e.symm)]
     rw [zf7,zf7,eb,eg,if_neg hne1,if_neg hne1,hd,en]
    ·have hcb:c≠b:=fun e=>hnd.1 (e ▸ hc)
     rw [eb,eg,if_neg hcb,if_neg hcb,el]; exact h.fok c (hin c hc)
    ·rw [eg]
     split
     ·have:=h.gok b hbf.1; omega
     ·exact h.gok i (by rw [el] at hi1; omega)
    ·rw [eb]
     split
     ·exact .inr hb
     ·exact h.bok i (by rw [el] at hi1; omega)
 have kk:=key { t with top:=(issW s t at_).at_,high:=if 0<t.free then t.high else t.high+1,free:=if 0<t.free then (nextX s.ws t).next else t.free } rfl rfl rfl (by rw [eW]) rfl rfl
 have e0:issE s t at_=0:=by rw [issE,if_pos hi,eW]; exact kk.1.e
 have eS:issS s t at_=(issW s t at_).s:=by rw [issS,if_pos hi]
 refine ⟨e0,?_,eS,by rw [eW]; exact kk.1,?_⟩
 ·rw [issH,if_pos e0,n2,n3]; congr 1; omega
 ·rw [eS,issT,if_pos e0]
  have:=kk.2
  rwa [<- eW] at this
def liveD (d:DeskT) (h:HandT):Prop:=0 <= h.slot/\h.slot<(d.gens.length:Int)/\gAt d h.slot.toNat=h.gen/\bAt d h.slot.toNat≠0
instance (d:DeskT) (h:HandT):Decidable (liveD d h):=by unfold liveD; infer_instance
theorem zlR {X:Int->Prop} {s:StoreT} {t:TickT} {d:DeskT} (h:TInvX X s t d) {x:HandT} (hl:liveD d x):zcL s.ws t x=0/\seatX s.ws t x=⟨true,x.gen,bAt d x.slot.toNat⟩:=by
 obtain ⟨l1,l2,l3,l4⟩:=hl
 obtain ⟨n,hn⟩:∃n:Nat,x.slot=(n:Int):=⟨x.slot.toNat,by omega⟩
 have hnl:n<d.gens.length:=by omega
 rw [hn,Int.toNat_natCast] at l3 l4
 obtain ⟨f1,f2⟩:=h.find hnl
 have eX:zf7 d n=⟨true,x.gen,bAt d n⟩:=by rw [zf7,if_neg l4,l3]
 have e:zcL s.ws t x=0:=by
  rw [zcL,if_pos h.ok,if_neg (by rw [h.high]; omega),hn,if_pos f1,if_pos]
  rw [f2,eX]; exact ⟨rfl,rfl⟩
 exact ⟨e,by rw [seatX,if_pos e,hn,f2,eX,Int.toNat_natCast]⟩
theorem qgE {X:Int->Prop} {s:StoreT} {t:TickT} {d:DeskT} (h:TInvX X s t d) (hf:3 <= freeN s.a) {x:HandT} (hl:liveD d x) {at_:Int} (hb:2 <= at_/\at_<3072) :
  poiE s t x at_=0/\poiS s t x at_=(poiW s t x at_).s/\PutX X s t.top x.slot ⟨true,x.gen,at_⟩ (poiW s t x at_)/\TInvX X (poiS s t x at_) (poiT s t x at_) (zh8 d x.slot.toNat at_):=by
 obtain ⟨e1,e2⟩:=zlR h hl
 obtain ⟨l1,l2,l3,l4⟩:=hl
 obtain ⟨n,hn⟩:∃n:Nat,x.slot=(n:Int):=⟨x.slot.toNat,by omega⟩
 have hnl:n<d.gens.length:=by omega
 rw [hn,Int.toNat_natCast] at l3 l4
 have hp:qgF s t x at_:=⟨e1,hb⟩
 have eW:poiW s t x at_=putR s t.top (n:Int) ⟨true,x.gen,at_⟩:=by rw [poiW,e2,hn]
 have hg:=h.gok n hnl
 have hgm:=h.ok.1.2.2.2.2.2
 have hx:za6 ⟨true,x.gen,at_⟩:=by
  have:1 <= x.gen/\x.gen <= 4294967295/\2 <= at_/\at_ <= 3071:=by omega
  simpa [za6] using this
 have hlb:=h.lenb
 have hlen:=h.len
 have eb:∀i,bAt (zh8 d n at_) i=if i=n then at_ else bAt d i:=fun i=>by rw [bAt,zh8,zfF (by omega)]; rfl
 have eg:∀i,gAt (zh8 d n at_) i=gAt d i:=fun i=>rfl
 have kk:=zpE (t':={ t with top:=(poiW s t x at_).at_ }) (d':=zh8 d n at_) h hf (a:=n) (by omega) hx rfl rfl rfl (by rw [eW]) (by simp only [zh8,List.length_set]; exact hlb) (Nat.le_refl _) hnl hlen.1 (fun i h1 h2=>by
   have:i<d.gens.length:=h2
   omega) h.high h.free
  (by rw [zf7,eb,eg,if_pos rfl,if_neg (by omega),l3]) (fun i hi hne=>by rw [zf7,zf7,eb,eg,if_neg hne]; rfl) h.fnd
  (fun b hb'=>by
   have hbf:=h.fok b hb'
   have hne:b≠n:=fun e=>l4 (by rw [<- e]; exact hbf.2.1)
   rw [eb,eg,if_neg hne]; exact hbf)
  (fun i hi=>h.gok i hi) (fun i hi=>by
   rw [eb]
   split
   ·exact .inr hb
   ·exact h.bok i hi)
 have e0:poiE s t x at_=0:=by rw [poiE,if_pos hp,eW]; exact kk.1.e
 have eS:poiS s t x at_=(poiW s t x at_).s:=by rw [poiS,if_pos hp]
 refine ⟨e0,eS,by rw [eW,hn]; exact kk.1,?_⟩
 rw [eS,poiT,if_pos e0,hn,Int.toNat_natCast]
 have:=kk.2
 rwa [<- eW] at this

theorem zxN {X:Int->Prop} {s:StoreT} {t:TickT} {d:DeskT} (h:TInvX X s t d) (hf:3 <= freeN s.a) {x:HandT} (hl:liveD d x) :
  relE s t x=0/\relS s t x=(relW s t x).s/\PutX X s t.top x.slot (relX s.ws t x) (relW s t x)/\TInvX X (relS s t x) (relT s t x) (zeC t.gens d x.slot.toNat):=by
 obtain ⟨e1,e2⟩:=zlR h hl
 obtain ⟨l1,l2,l3,l4⟩:=hl
 obtain ⟨n,hn⟩:∃n:Nat,x.slot=(n:Int):=⟨x.slot.toNat,by omega⟩
 have hnl:n<d.gens.length:=by omega
 rw [hn,Int.toNat_natCast] at l3 l4
 have hg:=h.gok n hnl
 have hgm:=h.ok.1.2.2.2.2.2
 have hlb:=h.lenb
 have hlen:=h.len
 have hfb:=qeG (l:=d.free) (n:=d.gens.length) fun b hb=>(h.fok b hb).1
 have eX:relX s.ws t x=⟨false,x.gen,if x.gen<t.gens then znW d.free else 0⟩:=by rw [relX,e2,h.free]
 have hx:za6 (relX s.ws t x):=by
  rw [eX]
  by_cases hgt:x.gen<t.gens
  ·rw [if_pos hgt]
   have:0 <= x.gen/\x.gen <= 4294967295/\0 <= znW d.free/\znW d.free <= 1792/\(0<x.gen\/znW d.free=0):=by omega
   simpa [za6] using this
  ·rw [if_neg hgt]
   have:0 <= x.gen/\x.gen <= 4294967295:=by omega
   simpa [za6] using this
 have eW:relW s t x=putR s t.top (n:Int) (relX s.ws t x):=by rw [relW,hn]
 have eb:∀i,bAt (zeC t.gens d n) i=if i=n then 0 else bAt d i:=fun i=>by rw [bAt,zeC,zfF (by omega)]; rfl
 have eg:∀i,gAt (zeC t.gens d n) i=gAt d i:=fun i=>rfl
 have hnf:n∉d.free:=fun k=>l4 (h.fok n k).2.1
 have ef:(zeC t.gens d n).free=if x.gen<t.gens then n :: d.free else d.free:=by rw [zeC,l3]
 have kk:=zpE (t':={ t with top:=(relW s t x).at_,free:=if (seatX s.ws t x).gen<t.gens then x.slot+1 else t.free }) (d':=zeC t.gens d n) h hf (a:=n) (by omega) hx rfl rfl rfl (by rw [eW]) (by simp only [zeC,List.length_set]; exact hlb) (Nat.le_refl _) hnl hlen.1 (fun i h1 h2=>by
   have:i<d.gens.length:=h2
   omega) h.high
  (by
   rw [ef,e2]; simp only
   split
   ·rw [znW,hn]
   ·exact h.free)
  (by
   rw [zf7,eb,eg,if_pos rfl,if_pos rfl,ef,l3,eX]
   split
   ·rw [zsN,if_pos rfl]
   ·rw [qkQ hnf])
  (fun i hi hne=>by
   rw [zf7,zf7,eb,eg,if_neg hne,ef]
   split
   ·congr 1
    split
    ·rw [zsN,if_neg (fun e=>hne e.symm)]
    ·rfl
   ·rfl)
  (by
   rw [ef]
   split
   ·exact List.nodup_cons.2 ⟨hnf,h.fnd⟩
   ·exact h.fnd)
  (fun b hb'=>by
   rw [ef] at hb'
   rw [eb,eg]
   by_cases hbn:b=n
   ·rw [if_pos hbn]
    refine ⟨by rw [hbn]; exact hnl,rfl,?_⟩
    split at hb'
    ·rw [hbn,l3]; assumption
    ·exact absurd (hbn ▸ hb') hnf
   ·rw [if_neg hbn]
    split at hb'
    ·rcases List.mem_cons.1 hb' with k | k
     ·exact absurd k hbn
     ·exact h.fok b k
    ·exact h.fok b hb')
  (fun i hi=>h.gok i hi) (fun i hi=>by
   rw [eb]
   split
   ·exact .inl rfl
   ·exact h.bok i hi)
 have e0:relE s t x=0:=by rw [relE,if_pos e1,eW]; exact kk.1.e
 have eS:relS s t x=(relW s t x).s:=by rw [relS,if_pos e1]
 refine ⟨e0,eS,by rw [eW,hn]; exact kk.1,?_⟩
 rw [eS,relT,if_pos e0,hn,Int.toNat_natCast]
 have:=kk.2
 rw [<- eW] at this
 rw [hn] at this
 exact this
theorem zyS {X:Int->Prop} {s:StoreT} {t:TickT} {d:DeskT} (h:TInvX X s t d):TInvX X (znS s) t d :=
 ⟨h.ok,h.htop,qkV h.good,qkU h.tree,h.high,h.lenb,h.free,h.seats,h.fnd,h.fok,h.gok,h.bok,h.zK,h.zF⟩

theorem zmB {l:List Int}:∀{m:List Int},l.Nodup->(∀a∈l,a∈m)->l.length <= m.length:=by
 induction l with
 | nil=>intro m _ _; exact Nat.zero_le _
 | cons a r ih =>
   intro m hn hs
   rw [List.nodup_cons] at hn
   have ha:=hs a (List.mem_cons_self ..)
   have:=ih (m:=m.erase a) hn.2 fun b hb=>(List.mem_erase_of_ne (show b≠a from fun e=>hn.1 (e ▸ hb))).2 (hs b (List.mem_cons_of_mem _ hb))
   rw [List.length_erase_of_mem ha] at this
   have hp:=List.length_pos_of_mem ha
   rw [List.length_cons]; omega
theorem zf0 (n p q:Nat):(bitsL n (p ||| q)).length <= (bitsL n p).length+(bitsL n q).length:=by
 induction n with
 | zero=>simp [bitsL]
 | succ n ih =>
   rw [zhR,zhR,zhR,Nat.testBit_or]
   cases p.testBit n <;> cases q.testBit n <;> simp <;> omega
theorem w_len {s:StoreT} {t:TickT} {d:DeskT} (h:TInv s t d) (h42:t.high <= 42):(bitsL s.a.n s.a.w).length <= 10:=by
 have hl:(zcU (s.a.n,s.a.w)).Nodup:=by
  rw [zcU,List.Nodup,List.pairwise_map]
  refine List.Pairwise.imp (R:=(· < ·)) (fun {a b} hab e=>?_) (List.Pairwise.filter _ List.pairwise_lt_range)
  omega
 have:=zmB (l:=zcU (s.a.n,s.a.w)) (m:=0 :: 1 :: t.top :: fanF s.ws t.top 0 :: (List.range 6).map (tF s.ws t.top 0)) hl fun a ha=>by
  have hz:∀c:Int,c=0->c∈((0:Int) :: 1 :: t.top :: fanF s.ws t.top 0 :: (List.range 6).map (tF s.ws t.top 0)):=fun c hc=>by rw [hc]; exact List.mem_cons_self ..
  rcases h.tree.sh.ex a (inS_iff.2 (listN_mem.1 ha)) with z | z | z | ⟨i,hi,z⟩ | ⟨i,j,hi,hj,z⟩
  ·exact hz a z
  ·rw [z]; simp
  ·rw [z]; simp
  ·by_cases e:fanF s.ws t.top i=0
   ·exact hz a (z.trans e)
   ·have:=h.zK i hi e
    have e0:i=0:=by omega
    subst e0
    rw [z]; simp
  ·by_cases e:tF s.ws t.top i j=0
   ·exact hz a (z.trans e)
   ·have:=h.zF i j hi hj e
    have e0:i=0:=by omega
    subst e0
    rw [z]
    simp only [List.mem_cons,List.mem_map,List.mem_range]
    exact .inr (.inr (.inr (.inr ⟨j,by omega,rfl⟩)))
 simpa [zcU] using this

structure Room (n:Nat) (s:StoreT):Prop where
 hn:s.a.n=n
 c:(bitsL n s.a.c).length <= 2
 e:s.a.e=0
 m:(bitsL n s.a.m).length <= 10
theorem qjF {n:Nat} {s:StoreT} {t:TickT} {d:DeskT} (h:TInv s t d) (hr:Room n s) (h42:t.high <= 42):(n:Int)-22 <= freeN s.a:=by
 have h1:=w_len h h42
 have hc:=hr.c
 have hm:=hr.m
 have hn:=hr.hn
 rw [hn] at h1
 have e1:zbY s.a=((s.a.w ||| s.a.c) ||| 0) ||| s.a.m:=by rw [zbY,hr.e]
 have k1:=zf0 n ((s.a.w ||| s.a.c) ||| 0) s.a.m
 have k2:=zf0 n (s.a.w ||| s.a.c) 0
 have k3:=zf0 n s.a.w s.a.c
 rw [zn9] at k2
 rw [freeN,e1,hn]
 simp only [List.length_nil] at k2
 omega
theorem qjE {n:Nat} {s:StoreT} {t:TickT} {d:DeskT} (h:TInv s t d) (hr:Room n s) (h42:t.high <= 42):Room n (znS s):=by
 have:=w_len h h42
 rw [hr.hn] at this
 exact ⟨hr.hn,hr.c,hr.e,this⟩
theorem qmT (n:Nat):(bitsL n (addL n 0 [0,1])).length <= 2:=by
 have:=zmB (l:=zcU (n,addL n 0 [0,1])) (m:=[0,1]) (by
  rw [zcU,List.Nodup,List.pairwise_map]
  refine List.Pairwise.imp (R:=(· < ·)) (fun {a b} hab e=>?_) (List.Pairwise.filter _ List.pairwise_lt_range)
  omega) fun a ha=>by
   have:=zj7.1 (inS_iff.2 (listN_mem.1 ha))
   rcases this.1 with k | k <;> simp [k]
 simpa [zcU] using this
def qhD:DeskT:=⟨[],[],[]⟩
def zp1 (b s g:Int):TickT:=⟨b,s,g,0,0,0⟩
theorem qlD {n:Nat} (h2:2 <= n) (h:n <= 3072) {b s g:Int} (hk:zi8 b s g):TInv (zd5 n 0) (zp1 b s g) qhD :=
 ⟨⟨hk,Int.le_refl _,by have:=hk.2.2.1; show (0:Int) <= s; omega,Int.le_refl _,Int.le_refl _⟩,I64_0,qkX h2 h,qkW n 0,rfl,rfl,rfl,fun i hi=>absurd hi (Nat.not_lt_zero _),List.nodup_nil,fun a ha=>(by cases ha),fun i hi=>absurd hi (Nat.not_lt_zero _),fun i hi=>absurd hi (Nat.not_lt_zero _),fun i hi hn=>absurd rfl hn,fun i j hi hj hn=>absurd rfl hn⟩

structure Desk (n:Nat) (s:StoreT) (t:TickT) (d:DeskT):Prop where
 inv:TInv s t d
 room:Room n s
theorem Desk.free {n:Nat} {s:StoreT} {t:TickT} {d:DeskT} (h:Desk n s t d) (hn:25 <= n) (h42:t.slots <= 42):3 <= freeN s.a:=by
 have:=qjF h.inv h.room (by have:=h.inv.ok.2.2.1; omega)
 omega
theorem Desk.mark {n:Nat} {s:StoreT} {t:TickT} {d:DeskT} (h:Desk n s t d) (h42:t.slots <= 42):Desk n (znS s) t d :=
 ⟨zyS h.inv,qjE h.inv h.room (by have:=h.inv.ok.2.2.1; omega)⟩
theorem qp1 {s:StoreT} {t:TickT} {a:Int} (h:issE s t a=0):(issT s t a).slots=t.slots/\(issT s t a).gens=t.gens/\(issT s t a).blocks=t.blocks:=by
 rw [issT,if_pos h]; exact ⟨rfl,rfl,rfl⟩
theorem qo3 {s:StoreT} {t:TickT} {x:HandT} (h:relE s t x=0):(relT s t x).slots=t.slots/\(relT s t x).gens=t.gens/\(relT s t x).blocks=t.blocks:=by
 rw [relT,if_pos h]; exact ⟨rfl,rfl,rfl⟩
theorem qpP {s:StoreT} {t:TickT} {x:HandT} {a:Int} (h:poiE s t x a=0):(poiT s t x a).slots=t.slots/\(poiT s t x a).gens=t.gens/\(poiT s t x a).blocks=t.blocks:=by
 rw [poiT,if_pos h]; exact ⟨rfl,rfl,rfl⟩

abbrev tickV (t:TickT):List AV:=[i64 t.blocks,i64 t.slots,i64 t.gens,i64 t.top,i64 t.high,i64 t.free]
abbrev zz8 (t:TickT):Sx.Item := .cells 40 (tickV t)
theorem zfH {b s g t h f:Int} {p:TickT->Prop}:(∃a:TickT,b=a.blocks/\s=a.slots/\g=a.gens/\t=a.top/\h=a.high/\f=a.free/\p a) ↔ p ⟨b,s,g,t,h,f⟩ :=
 ⟨fun ⟨a,h1,h2,h3,h4,h5,h6,k⟩=>by subst h1; subst h2; subst h3; subst h4; subst h5; subst h6; exact k,fun k=>⟨_,rfl,rfl,rfl,rfl,rfl,rfl,k⟩⟩
theorem zc8 {w:List Nat} {z:AllocT} {p:StoreT->Prop}:(∃a:StoreT,w=a.ws/\z=a.a/\p a) ↔ p ⟨w,z⟩ :=
 ⟨fun ⟨a,h1,h2,k⟩=>by subst h1; subst h2; exact k,fun k=>⟨_,rfl,rfl,k⟩⟩
theorem zi6 {i g:Int} {p:HandT->Prop}:(∃a:HandT,i=a.slot/\g=a.gen/\p a) ↔ p ⟨i,g⟩ :=
 ⟨fun ⟨a,h1,h2,k⟩=>by subst h1; subst h2; exact k,fun k=>⟨_,rfl,rfl,k⟩⟩
theorem zd9 {t:TickT}:(⟨t.blocks,t.slots,t.gens,t.top,t.high,t.free⟩:TickT)=t:=rfl
theorem zcS {s:StoreT}:(⟨s.ws,s.a⟩:StoreT)=s:=rfl
theorem zgR {s:HandT}:(⟨s.slot,s.gen⟩:HandT)=s:=rfl
theorem Desk.W {n:Nat} {s:StoreT} {t:TickT} {d:DeskT} (h:Desk n s t d):zaG s:=h.inv.good.W
theorem Desk.tI {n:Nat} {s:StoreT} {t:TickT} {d:DeskT} (h:Desk n s t d):zaS t:=h.inv.tI
structure Act21 where
 kind:Int
 block:Int
 h:HandT
 live:Bool
end Yard
