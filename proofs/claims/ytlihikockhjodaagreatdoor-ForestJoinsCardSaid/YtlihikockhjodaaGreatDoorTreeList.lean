import Derived.Test.YtlihikockhjodaaGreatDoorNodeMath
import Derived.Test.YtlihikockhjodaaGreatDoorLaw21

namespace Yard
open Go Go.Sx Go.Proofs
set_option linter.unusedVariables false
set_option linter.unusedSimpArgs false
set_option maxRecDepth 4000
set_option maxHeartbeats 4000000

theorem zrS {a b c d:Int} {p:EntT->Prop}:(∃e:EntT,a=e.slot/\b=e.gen/\c=e.key/\d=e.value/\p e) ↔ p ⟨a,b,c,d⟩ :=
 ⟨fun ⟨e,h1,h2,h3,h4,k⟩=>by subst h1; subst h2; subst h3; subst h4; exact k,fun k=>⟨_,rfl,rfl,rfl,rfl,k⟩⟩
abbrev entH (e:EntT):HandT:=⟨e.slot,e.gen⟩

def readE (ws:List Nat) (a:Int):Int:=if za3 ws a=0 then (if zcI (zaV ws a) then 0 else 31) else za3 ws a
def readT (ws:List Nat) (a:Int):NodeT:=if readE ws a=0 then nodeB (zaV ws a) else nodeZ
theorem zeH {ws:List Nat} {a:Int}:readE ws a=0 ↔ za3 ws a=0/\zcI (zaV ws a):=by
 unfold readE
 refine ⟨fun h=>?_,fun h=>by rw [if_pos h.1,if_pos h.2]⟩
 split at h
 ·rename_i h1
  split at h
  ·rename_i h2; exact ⟨h1,h2⟩
  ·cases h
 ·rename_i h1; exact absurd h h1
theorem qkM:zd1 nodeZ:=⟨⟨I64_0,I64_0,I64_0,I64_0⟩,fun x hx=>(by cases hx),by simp [nodeZ]⟩
theorem zqP (ws:List Nat) (a:Int):zd1 (readT ws a):=by
 unfold readT
 split
 ·rename_i h
  have h:=zeH.1 h
  exact (znQ _).2 (by have:=h.2.2.2.1; omega)
 ·exact qkM
theorem zl5 (ws:List Nat) (a:Int):(readT ws a).kids.length <= 12:=by
 unfold readT
 split
 ·rename_i h
  have h:=zeH.1 h
  exact h.2.2.2.2.1.2.2.2.2.1
 ·exact Nat.zero_le _
def zpZ:Ctr where
 X:=StoreT×Int
 Y:=Nat
 conv:=true
 tau:=zo3
 pre:=fun x=>zaG x.1/\I64 x.2
 args:=fun x=>[.ptr 0 [] 0,i64 x.2]
 heap:=fun x=>zeA x.1
 Q:=fun x cap=>(readT x.1.ws x.2).kids.length <= cap/\cap <= 9223372036854775807
 res:=fun x cap => .tup [qd3 (readT x.1.ws x.2) (.sl 4 [] 0 1 0 (readT x.1.ws x.2).kids.length cap),i64 (readE x.1.ws x.2)]
 its:=fun x _=>zeA x.1
 new:=fun x cap=>[rowI 3 .i64 cap (readT x.1.ws x.2).kids]
theorem qh7:CtrOk zpZ :=
 ⟨fun _ _ _ _=>(rfl:3=3),fun _ _ _ _=>⟨rfl,rfl⟩,fun x _ _ _ _=>⟨⟨zuN _,⟨⟨fun _ _=>⟨rfl,trivial⟩,trivial⟩,trivial⟩⟩,⟨rfl,rfl,rfl,rfl,rfl,trivial⟩,rfl,trivial⟩⟩
def qrS (av:AV):Option Ren:=match av with
 | .tup (.agg (_ :: _ :: _ :: _ :: .sl q _ _ _ _ _ _ :: _) :: _)=>some [some 0,some 1,some 2,some 3,some q]
 | _=>some [some 0,some 1,some 2,some 3,none]

theorem treadV:(
 let q1:Prop:=true=true/\zaC/\0=0;
 let q2:Prop:=(107:TypeId)=107/\q1/\q1/\True; ∀(x:StoreT×Int),
 let q3:Prop:=(readT x.1.ws x.2).kids.length=0; zaG x.1/\I64 x.2->Exx (StoreT×Int) fun x_1=>((q1/\Tr 1 (x.2=x_1.2)/\True)/\true=true/\q2/\devB x.1.ws=devB x_1.1.ws/\zaB x.1.a=zaB x_1.1.a/\True)/\(zaG x_1.1/\I64 x_1.2)/\∀(y:Nat),(zaV x_1.1.ws x_1.2).length <= y->BC (!decide (za3 x_1.1.ws x_1.2=(0:Int))) (Exx Nat fun y=>((((Tr 1 ((0:Int)=(readT x.1.ws x.2).e.slot)/\Tr 1 ((0:Int)=(readT x.1.ws x.2).e.gen)/\Tr 1 ((0:Int)=(readT x.1.ws x.2).e.key)/\Tr 1 ((0:Int)=(readT x.1.ws x.2).e.value)/\(q3/\y=0)/\True)/\Tr 1 (za3 x_1.1.ws x_1.2=readE x.1.ws x.2)/\True)/\True)/\q2/\devB x_1.1.ws=devB x.1.ws/\zaB x_1.1.a=zaB x.1.a/\true=true/\(y=0/\q3)/\True)/\(readT x.1.ws x.2).kids.length <= y/\y <= 9223372036854775807) (Exx (List Nat) fun x_2=>(((0+(zaV x_1.1.ws x_1.2).length <= (zaV x_1.1.ws x_1.2).length/\(zaV x_1.1.ws x_1.2).length=x_2.length/\∀(i:Nat),i<x_2.length->[AV.int .u8 (↑((zaV x_1.1.ws x_1.2).getD (0+i) 0):Int)]=[AV.int .u8 (↑(x_2.getD i 0):Int)])/\True)/\true=true/\True)/\Oct x_2/\∀(y:Nat),(getNodeT x_2).kids.length <= y/\y <= 9223372036854775807->BC (!decide (zcI x_2)) (Exx Nat fun y=>((((Tr 1 ((0:Int)=(readT x.1.ws x.2).e.slot)/\Tr 1 ((0:Int)=(readT x.1.ws x.2).e.gen)/\Tr 1 ((0:Int)=(readT x.1.ws x.2).e.key)/\Tr 1 ((0:Int)=(readT x.1.ws x.2).e.value)/\(q3/\y=0)/\True)/\Tr 1 ((31:Int)=readE x.1.ws x.2)/\True)/\True)/\q2/\devB x_1.1.ws=devB x.1.ws/\zaB x_1.1.a=zaB x.1.a/\true=true/\(y=0/\q3)/\True)/\(readT x.1.ws x.2).kids.length <= y/\y <= 9223372036854775807) (Exx Nat fun y_1=>((((Tr 1 ((getNodeT x_2).e.slot=(readT x.1.ws x.2).e.slot)/\Tr 1 ((getNodeT x_2).e.gen=(readT x.1.ws x.2).e.gen)/\Tr 1 ((getNodeT x_2).e.key=(readT x.1.ws x.2).e.key)/\Tr 1 ((getNodeT x_2).e.value=(readT x.1.ws x.2).e.value)/\(true=true/\zaC/\0=0/\1=1/\0=0/\(getNodeT x_2).kids.length=(readT x.1.ws x.2).kids.length/\y=y_1)/\True)/\Tr 1 ((0:Int)=readE x.1.ws x.2)/\True)/\True)/\q2/\devB x_1.1.ws=devB x.1.ws/\zaB x_1.1.a=zaB x.1.a/\true=true/\((3:TypeId)=3/\1=1/\y=y_1/\(readT x.1.ws x.2).kids.length <= (getNodeT x_2).kids.length/\∀(i:Nat),i<(readT x.1.ws x.2).kids.length->[AV.int .i64 ((getNodeT x_2).kids.getD i 0)]=[AV.int .i64 ((readT x.1.ws x.2).kids.getD i 0)])/\True)/\(readT x.1.ws x.2).kids.length <= y_1/\y_1 <= 9223372036854775807)))=(zcA tb [(85,zaA zg8),(86,zaA zmI)] Tryz.f50 zpZ (fun _=>{}) (fun _ av _=>qrS av) (fun _=>[]) (fun _ _ _ _=>[])):=by kernel_rfl

theorem zo2:SpecOk Tryz.prog 50 (zaA zpZ):=by
 refine za0 zaM zaL (SPok.cons zkT (SPok.cons qgX SPok.nil)) Tryz.func50 (by decide) qh7 (Eq.mp treadV ?_)
 simp (maxSteps:=10000000) only [std,stdU,stdV,Exx,I64,Nat.reduceMul,Nat.reduceDiv,Nat.reduceAdd,Int.reduceToNat,zaQ,zaI,zc8]
 rintro s a ⟨h,h1,h2⟩
 have hno:readE s.ws a≠0->(0=(readT s.ws a).e.slot/\0=(readT s.ws a).e.gen/\0=(readT s.ws a).e.key/\0=(readT s.ws a).e.value/\(readT s.ws a).kids.length=0/\readE s.ws a=readE s.ws a/\(readT s.ws a).kids.length=0/\(readT s.ws a).kids.length <= 0/\0 <= 9223372036854775807):=fun h=>by
  rw [readT,if_neg h]; exact ⟨rfl,rfl,rfl,rfl,rfl,rfl,rfl,Nat.le_refl _,by omega⟩
 refine ⟨h,h1,h2,fun y hy=>⟨fun hn=>?_,fun hz=>⟨zi2 _ _,fun y2 hy2=>⟨fun hn=>?_,fun hN=>?_⟩⟩⟩⟩
 ·have e:za3 s.ws a=readE s.ws a:=by rw [readE,if_neg hn]
  rw [e]; exact hno (by rw [<- e]; exact hn)
 ·have e:31=readE s.ws a:=by rw [readE,if_pos hz,if_neg hn]
  rw [e]; exact hno (by rw [<- e]; decide)
 ·have e:=zeH.2 ⟨hz,hN⟩
  rw [getNodeT,if_pos hN] at hy2 ⊢
  rw [readT,if_pos e]
  exact ⟨rfl,rfl,rfl,rfl,rfl,e.symm,Nat.le_refl _,fun _ _=>rfl,hy2.1,hy2.2⟩

structure TR where
 s:StoreT
 t:TickT
 a:Int
 e:Int
def trA (r:TR):AV := .tup [zeQ r.t,i64 r.a,i64 r.e]
theorem qq8 (r:TR):plV 2 (trA r):=⟨⟨rfl,rfl,rfl,rfl,rfl,rfl,trivial⟩,rfl,rfl,trivial⟩
theorem qq7 {b sl g tp h f a e:Int} {w:List Nat} {z:AllocT} {r:TR}:(b=r.t.blocks/\sl=r.t.slots/\g=r.t.gens/\tp=r.t.top/\h=r.t.high/\f=r.t.free/\a=r.a/\e=r.e/\w=r.s.ws/\z=r.s.a) ↔ r=⟨⟨w,z⟩,⟨b,sl,g,tp,h,f⟩,a,e⟩ :=
 ⟨fun ⟨h1,h2,h3,h4,h5,h6,h7,h8,h9,h10⟩=>by
  obtain ⟨⟨_,_⟩,⟨_,_,_,_,_,_⟩,_,_⟩:=r
  simp only at h1 h2 h3 h4 h5 h6 h7 h8 h9 h10
  subst h1; subst h2; subst h3; subst h4; subst h5; subst h6; subst h7; subst h8; subst h9; subst h10; rfl,fun k=>by subst k; exact ⟨rfl,rfl,rfl,rfl,rfl,rfl,rfl,rfl,rfl,rfl⟩⟩
theorem zfL:(⟨0,0,0,0,0,0⟩:TickT)=tickZ:=rfl
def tuW (s:StoreT) (a:Int) (n:NodeT):Wr:=ziG s a (zaJ n)
def zf3 (s:StoreT) (t:TickT) (a:Int) (n:NodeT):TR :=
 if zbJ n then
  if (tuW s a n).e=0 then
   if zcL (tuW s a n).s.ws t (entH n.e)=0 then
    if (seatX (tuW s a n).s.ws t (entH n.e)).next=(tuW s a n).at_ then ⟨(tuW s a n).s,t,(tuW s a n).at_,0⟩
    else if poiE (tuW s a n).s t (entH n.e) (tuW s a n).at_=0 then ⟨poiS (tuW s a n).s t (entH n.e) (tuW s a n).at_,poiT (tuW s a n).s t (entH n.e) (tuW s a n).at_,(tuW s a n).at_,0⟩
    else ⟨poiS (tuW s a n).s t (entH n.e) (tuW s a n).at_,tickZ,0,poiE (tuW s a n).s t (entH n.e) (tuW s a n).at_⟩
   else ⟨(tuW s a n).s,tickZ,0,zcL (tuW s a n).s.ws t (entH n.e)⟩
  else ⟨(tuW s a n).s,tickZ,0,(tuW s a n).e⟩
 else ⟨s,tickZ,0,2⟩
def zpU:Ctr:=za5 (TickT×Int×NodeT) (fun x=>zaS x.2.1/\I64 x.2.2.1/\zd1 x.2.2.2) (fun x=>[zeQ x.2.1,i64 x.2.2.1,qpW x.2.2.2]) (fun x=>(zf3 x.1 x.2.1 x.2.2.1 x.2.2.2).s) (fun x=>trA (zf3 x.1 x.2.1 x.2.2.1 x.2.2.2))

theorem qh3:(
 let q1:Prop:=true=true/\zaC/\0=0;
 let q2:Prop:=(107:TypeId)=107/\q1/\q1/\True; ∀(x:StoreT×TickT×Int×NodeT),
 let q3:Int:=x.2.2.1;
 let q4:NodeT:=x.2.2.2;
 let q5:EntT:=q4.e;
 let q6:Int:=q5.slot;
 let q7:Int:=q5.gen;
 let q8:List Int:=q4.kids;
 let q9:TR:=zf3 x.1 x.2.1 q3 q4;
 let q10:TickT:=q9.t;
 let q11:Int:=q10.blocks;
 let q12:Int:=q10.slots;
 let q13:Int:=q10.gens;
 let q14:Int:=q10.top;
 let q15:Int:=q10.high;
 let q16:Int:=q10.free;
 let q17:Prop:=Tr 1 ((0:Int)=q11)/\Tr 1 ((0:Int)=q12)/\Tr 1 ((0:Int)=q13)/\Tr 1 ((0:Int)=q14)/\Tr 1 ((0:Int)=q15)/\Tr 1 ((0:Int)=q16)/\True;
 let q18:Int:=q9.a;
 let q19:Prop:=Tr 1 ((0:Int)=q18);
 let q20:Int:=q9.e;
 let q21:StoreT:=q9.s;
 let q22:Ob:=devB q21.ws;
 let q23:Ob:=zaB q21.a;
 let q24:Prop:=Tr 1 ((0:Int)=q20)/\True; zaG x.1/\zaS x.2.1/\I64 q3/\zd1 q4->Exx NodeT fun x_1=>(((Tr 1 (q6=x_1.e.slot)/\Tr 1 (q7=x_1.e.gen)/\Tr 1 (q5.key=x_1.e.key)/\Tr 1 (q5.value=x_1.e.value)/\(q8.length=x_1.kids.length/\∀(i:Nat),i<x_1.kids.length->[AV.int .i64 (q8.getD i 0)]=[AV.int .i64 (x_1.kids.getD i 0)])/\True)/\True)/\true=true/\True)/\zd1 x_1/\∀(y:Nat),(zaJ x_1).length <= y->BC (!decide (zbJ x_1)) (Exx Unit fun y=>(((q17/\q19/\Tr 1 ((2:Int)=q20)/\True)/\True)/\q2/\devB x.1.ws=q22/\zaB x.1.a=q23/\true=true/\True)/\True) (Exx (StoreT×Int×List Nat) fun x_2 =>
 let q25:Wr:=ziG x_2.1 x_2.2.1 x_2.2.2;
 let q26:Int:=q25.e;
 let q27:StoreT:=q25.s;
 let q28:Ob:=devB q27.ws;
 let q29:Ob:=zaB q27.a;
 let q30:Int:=q25.at_;
 let q31:Prop:=Tr 1 (q30=q18)/\q24; ((q1/\Tr 1 (q3=x_2.2.1)/\(0+(zaJ x_1).length <= (zaJ x_1).length/\(zaJ x_1).length=x_2.2.2.length/\∀(i:Nat),i<x_2.2.2.length->[AV.int .u8 (↑((zaJ x_1).getD (0+i) 0):Int)]=[AV.int .u8 (↑(x_2.2.2.getD i 0):Int)])/\True)/\true=true/\q2/\devB x.1.ws=devB x_2.1.ws/\zaB x.1.a=zaB x_2.1.a/\True)/\(zaG x_2.1/\I64 x_2.2.1/\Oct x_2.2.2)/\∀(y:Unit),True->BC (!decide (q26=(0:Int))) (Exx Unit fun y=>(((q17/\q19/\Tr 1 (q26=q20)/\True)/\True)/\q2/\q28=q22/\q29=q23/\true=true/\True)/\True) (Exx (StoreT×TickT×HandT) fun x_3 =>
 let q32:Int:=zcL x_3.1.ws x_3.2.1 x_3.2.2;
 let q33:Bool:=decide (q32=(0:Int));
 let q34:Int:=(seatX x_3.1.ws x_3.2.1 x_3.2.2).next;
 let q35:Prop:=q2/\devB x_3.1.ws=q22/\zaB x_3.1.a=q23/\true=true/\True;
 let q36:Prop:=BC (!q33) (Exx Unit fun y=>(((q17/\q19/\Tr 1 (q32=q20)/\True)/\True)/\q35)/\True) (Exx Unit fun y=>((((Tr 1 (x.2.1.blocks=q11)/\Tr 1 (x.2.1.slots=q12)/\Tr 1 (x.2.1.gens=q13)/\Tr 1 (x.2.1.top=q14)/\Tr 1 (x.2.1.high=q15)/\Tr 1 (x.2.1.free=q16)/\True)/\q31)/\True)/\q35)/\True); ((q1/\(Tr 1 (x.2.1.blocks=x_3.2.1.blocks)/\Tr 1 (x.2.1.slots=x_3.2.1.slots)/\Tr 1 (x.2.1.gens=x_3.2.1.gens)/\Tr 1 (x.2.1.top=x_3.2.1.top)/\Tr 1 (x.2.1.high=x_3.2.1.high)/\Tr 1 (x.2.1.free=x_3.2.1.free)/\True)/\(Tr 1 (q6=x_3.2.2.slot)/\Tr 1 (q7=x_3.2.2.gen)/\True)/\True)/\true=true/\q2/\q28=devB x_3.1.ws/\q29=zaB x_3.1.a/\True)/\(zaG x_3.1/\zaS x_3.2.1/\zhT x_3.2.2)/\∀(y:Unit),True->BC q33 (BC (!decide (q34=q30)) (Exx (StoreT×TickT×HandT×Int) fun x_4 =>
 let q37:HandT:=x_4.2.2.1;
 let q38:Int:=x_4.2.2.2;
 let q39:Int:=poiE x_4.1 x_4.2.1 q37 q38;
 let q40:StoreT:=poiS x_4.1 x_4.2.1 q37 q38;
 let q41:Prop:=q2/\devB q40.ws=q22/\zaB q40.a=q23/\true=true/\True;
 let q42:TickT:=poiT x_4.1 x_4.2.1 q37 q38; ((q1/\(Tr 1 (x.2.1.blocks=x_4.2.1.blocks)/\Tr 1 (x.2.1.slots=x_4.2.1.slots)/\Tr 1 (x.2.1.gens=x_4.2.1.gens)/\Tr 1 (x.2.1.top=x_4.2.1.top)/\Tr 1 (x.2.1.high=x_4.2.1.high)/\Tr 1 (x.2.1.free=x_4.2.1.free)/\True)/\(Tr 1 (q6=q37.slot)/\Tr 1 (q7=q37.gen)/\True)/\Tr 1 (q30=q38)/\True)/\true=true/\q2/\devB x_3.1.ws=devB x_4.1.ws/\zaB x_3.1.a=zaB x_4.1.a/\True)/\(zaG x_4.1/\zaS x_4.2.1/\zhT q37/\I64 q38)/\∀(y:Unit),True->BC (!decide (q39=(0:Int))) (Exx Unit fun y=>(((q17/\q19/\Tr 1 (q39=q20)/\True)/\True)/\q41)/\True) (Exx Unit fun y=>((((Tr 1 (q42.blocks=q11)/\Tr 1 (q42.slots=q12)/\Tr 1 (q42.gens=q13)/\Tr 1 (q42.top=q14)/\Tr 1 (q42.high=q15)/\Tr 1 (q42.free=q16)/\True)/\q31)/\True)/\q41)/\True)) q36) q36)))=(fnVC tb [(89,zaA zo7),(96,zaA zgM),(125,zaA zjO),(126,zaA zm1)] Tryz.f87 zpU (fun _=>{}) (fun _=>none)):=by kernel_rfl

theorem zz5:SpecOk Tryz.prog 87 (zaA zpU):=by
 refine zaK zaM zaL (SPok.cons ztE (SPok.cons zkJ (SPok.cons zoI (SPok.cons zw4 SPok.nil)))) Tryz.func87 (by decide) (zaR fun _=>qq8 _) (Eq.mp qh3 ?_)
 simp (maxSteps:=10000000) only [std,stdU,stdV,Exx,I64,Nat.reduceMul,Nat.reduceDiv,Nat.reduceAdd,Int.reduceToNat,zaQ,zaI,zfH,zc8,zi6,qbM,qq7,zd9,zcS,zgR,zvN,zfL]
 rintro s t a n ⟨h,ht,h1,h2,hn⟩
 have hW:=zz4 h a (zcW n)
 have hA:=zuK h ⟨h1,h2⟩ (zaJ n)
 have hH:zhT (entH n.e):=⟨hn.1.1,hn.1.2.1⟩
 refine ⟨hn,fun y hy=>⟨fun h1=>?_,fun h1'=>⟨h,h1,h2,zcW n,fun h3=>?_,fun h3=>⟨hW,ht,hH,fun h4=>⟨fun h5=>⟨hW,ht,hH,hA.1,hA.2,fun h6=>?_,fun h6=>?_⟩,fun h5=>⟨fun q=>absurd h4 q,fun _=>?_⟩⟩,fun h4=>⟨fun _=>?_,fun q=>absurd q h4⟩⟩⟩⟩⟩
 ·rw [zf3,if_neg h1]
 ·rw [zf3,if_pos h1',tuW,if_neg h3]
 ·rw [zf3,if_pos h1',tuW,if_pos h3,if_pos h4,if_neg h5,if_neg h6]
 ·rw [zf3,if_pos h1',tuW,if_pos h3,if_pos h4,if_neg h5,if_pos h6]
 ·rw [zf3,if_pos h1',tuW,if_pos h3,if_pos h4,if_pos h5]
 ·rw [zf3,if_pos h1',tuW,if_pos h3,if_neg h4]

structure MR where
 s:StoreT
 t:TickT
 a:Int
 h:HandT
 e:Int
def mrA (r:MR):AV := .tup [zeQ r.t,i64 r.a,zy1 r.h,i64 r.e]
theorem mrA_pl (r:MR):plV 2 (mrA r):=⟨⟨rfl,rfl,rfl,rfl,rfl,rfl,trivial⟩,rfl,⟨rfl,rfl,trivial⟩,rfl,trivial⟩
theorem mr_iff {b sl g tp h f a hs hg e:Int} {w:List Nat} {z:AllocT} {r:MR}:(b=r.t.blocks/\sl=r.t.slots/\g=r.t.gens/\tp=r.t.top/\h=r.t.high/\f=r.t.free/\a=r.a/\hs=r.h.slot/\hg=r.h.gen/\e=r.e/\w=r.s.ws/\z=r.s.a) ↔ r=⟨⟨w,z⟩,⟨b,sl,g,tp,h,f⟩,a,⟨hs,hg⟩,e⟩ :=
 ⟨fun ⟨h1,h2,h3,h4,h5,h6,h7,h8,h9,h10,h11,h12⟩=>by
  obtain ⟨⟨_,_⟩,⟨_,_,_,_,_,_⟩,_,⟨_,_⟩,_⟩:=r
  simp only at h1 h2 h3 h4 h5 h6 h7 h8 h9 h10 h11 h12
  subst h1; subst h2; subst h3; subst h4; subst h5; subst h6; subst h7; subst h8; subst h9; subst h10; subst h11; subst h12; rfl,fun k=>by subst k; exact ⟨rfl,rfl,rfl,rfl,rfl,rfl,rfl,rfl,rfl,rfl,rfl,rfl⟩⟩
theorem qqB:(⟨0,0⟩:HandT)=zvZ:=rfl
def mkN (h:HandT) (k v:Int):NodeT:=⟨⟨h.slot,h.gen,k,v⟩,[]⟩
def mkW (s:StoreT) (t:TickT) (k v:Int):Wr:=makeR s (zaJ (mkN (zgX s.ws t) k v))
def zb7 (s:StoreT) (t:TickT) (k v:Int):MR :=
 if zcG s.ws t=0 then
  if zbJ (mkN (zgX s.ws t) k v) then
   if (mkW s t k v).e=0 then
    if issE (mkW s t k v).s t (mkW s t k v).at_=0 then ⟨issS (mkW s t k v).s t (mkW s t k v).at_,issT (mkW s t k v).s t (mkW s t k v).at_,(mkW s t k v).at_,issH (mkW s t k v).s t (mkW s t k v).at_,0⟩
    else ⟨issS (mkW s t k v).s t (mkW s t k v).at_,tickZ,0,zvZ,issE (mkW s t k v).s t (mkW s t k v).at_⟩
   else ⟨(mkW s t k v).s,tickZ,0,zvZ,(mkW s t k v).e⟩
  else ⟨s,tickZ,0,zvZ,31⟩
 else ⟨s,tickZ,0,zvZ,zcG s.ws t⟩
theorem nextH_I (ws:List Nat) {t:TickT} (h:zaS t):zhT (zgX ws t):=by
 unfold zgX
 split
 ·rename_i hz
  have g:=ziZ hz
  exact ⟨qkP ws h.2.2.2.2.1 h.2.2.2.2.2,by show I64 ((nextX ws t).gen+1); exact ⟨by omega,by omega⟩⟩
 ·exact ⟨I64_0,I64_0⟩
def zpV:Ctr:=za5 (TickT×Int×Int) (fun x=>zaS x.2.1/\I64 x.2.2.1/\I64 x.2.2.2) (fun x=>[zeQ x.2.1,i64 x.2.2.1,i64 x.2.2.2]) (fun x=>(zb7 x.1 x.2.1 x.2.2.1 x.2.2.2).s) (fun x=>mrA (zb7 x.1 x.2.1 x.2.2.1 x.2.2.2))

theorem qh5:(
 let q1:Prop:=true=true/\zaC/\0=0;
 let q2:Prop:=(107:TypeId)=107/\q1/\q1/\True; ∀(x:StoreT×TickT×Int×Int),
 let q3:MR:=zb7 x.1 x.2.1 x.2.2.1 x.2.2.2;
 let q4:TickT:=q3.t;
 let q5:Int:=q4.blocks;
 let q6:Int:=q4.slots;
 let q7:Int:=q4.gens;
 let q8:Int:=q4.top;
 let q9:Int:=q4.high;
 let q10:Int:=q4.free;
 let q11:Prop:=Tr 1 ((0:Int)=q5)/\Tr 1 ((0:Int)=q6)/\Tr 1 ((0:Int)=q7)/\Tr 1 ((0:Int)=q8)/\Tr 1 ((0:Int)=q9)/\Tr 1 ((0:Int)=q10)/\True;
 let q12:Int:=q3.a;
 let q13:Prop:=Tr 1 ((0:Int)=q12);
 let q14:HandT:=q3.h;
 let q15:Int:=q14.slot;
 let q16:Int:=q14.gen;
 let q17:Prop:=Tr 1 ((0:Int)=q15)/\Tr 1 ((0:Int)=q16)/\True;
 let q18:Int:=q3.e;
 let q19:StoreT:=q3.s;
 let q20:Ob:=devB q19.ws;
 let q21:Ob:=zaB q19.a; zaG x.1/\zaS x.2.1/\I64 x.2.2.1/\I64 x.2.2.2->Exx (StoreT×TickT) fun x_1 =>
 let q22:Prop:=q2/\devB x_1.1.ws=q20/\zaB x_1.1.a=q21/\true=true/\True; ((q1/\(Tr 1 (x.2.1.blocks=x_1.2.blocks)/\Tr 1 (x.2.1.slots=x_1.2.slots)/\Tr 1 (x.2.1.gens=x_1.2.gens)/\Tr 1 (x.2.1.top=x_1.2.top)/\Tr 1 (x.2.1.high=x_1.2.high)/\Tr 1 (x.2.1.free=x_1.2.free)/\True)/\True)/\true=true/\q2/\devB x.1.ws=devB x_1.1.ws/\zaB x.1.a=zaB x_1.1.a/\True)/\(zaG x_1.1/\zaS x_1.2)/\∀(y:Unit),True->BC (!decide (zcG x_1.1.ws x_1.2=(0:Int))) (Exx Unit fun y=>(((q11/\q13/\q17/\Tr 1 (zcG x_1.1.ws x_1.2=q18)/\True)/\True)/\q22)/\True) (Exx NodeT fun x_2=>(((Tr 1 ((zgX x_1.1.ws x_1.2).slot=x_2.e.slot)/\Tr 1 ((zgX x_1.1.ws x_1.2).gen=x_2.e.gen)/\Tr 1 (x.2.2.1=x_2.e.key)/\Tr 1 (x.2.2.2=x_2.e.value)/\(0=x_2.kids.length/\∀(i:Nat),i<x_2.kids.length->[]=[AV.int .i64 (x_2.kids.getD i 0)])/\True)/\True)/\true=true/\True)/\zd1 x_2/\∀(y:Nat),(zaJ x_2).length <= y->BC (!decide (zbJ x_2)) (Exx Unit fun y=>(((q11/\q13/\q17/\Tr 1 ((31:Int)=q18)/\True)/\True)/\q22)/\True) (Exx (StoreT×List Nat) fun x_3=>((q1/\(0+(zaJ x_2).length <= (zaJ x_2).length/\(zaJ x_2).length=x_3.2.length/\∀(i:Nat),i<x_3.2.length->[AV.int .u8 (↑((zaJ x_2).getD (0+i) 0):Int)]=[AV.int .u8 (↑(x_3.2.getD i 0):Int)])/\True)/\true=true/\q2/\devB x_1.1.ws=devB x_3.1.ws/\zaB x_1.1.a=zaB x_3.1.a/\True)/\(zaG x_3.1/\Oct x_3.2)/\∀(y:Unit),True->BC (!decide ((makeR x_3.1 x_3.2).e=(0:Int))) (Exx Unit fun y=>(((q11/\q13/\q17/\Tr 1 ((makeR x_3.1 x_3.2).e=q18)/\True)/\True)/\q2/\devB (makeR x_3.1 x_3.2).s.ws=q20/\zaB (makeR x_3.1 x_3.2).s.a=q21/\true=true/\True)/\True) (Exx (StoreT×TickT×Int) fun x_4 =>
 let q23:Int:=issE x_4.1 x_4.2.1 x_4.2.2;
 let q24:StoreT:=issS x_4.1 x_4.2.1 x_4.2.2;
 let q25:Prop:=q2/\devB q24.ws=q20/\zaB q24.a=q21/\true=true/\True;
 let q26:TickT:=issT x_4.1 x_4.2.1 x_4.2.2;
 let q27:HandT:=issH x_4.1 x_4.2.1 x_4.2.2; ((q1/\(Tr 1 (x.2.1.blocks=x_4.2.1.blocks)/\Tr 1 (x.2.1.slots=x_4.2.1.slots)/\Tr 1 (x.2.1.gens=x_4.2.1.gens)/\Tr 1 (x.2.1.top=x_4.2.1.top)/\Tr 1 (x.2.1.high=x_4.2.1.high)/\Tr 1 (x.2.1.free=x_4.2.1.free)/\True)/\Tr 1 ((makeR x_3.1 x_3.2).at_=x_4.2.2)/\True)/\true=true/\q2/\devB (makeR x_3.1 x_3.2).s.ws=devB x_4.1.ws/\zaB (makeR x_3.1 x_3.2).s.a=zaB x_4.1.a/\True)/\(zaG x_4.1/\zaS x_4.2.1/\I64 x_4.2.2)/\∀(y:Unit),True->BC (!decide (q23=(0:Int))) (Exx Unit fun y=>(((q11/\q13/\q17/\Tr 1 (q23=q18)/\True)/\True)/\q25)/\True) (Exx Unit fun y=>((((Tr 1 (q26.blocks=q5)/\Tr 1 (q26.slots=q6)/\Tr 1 (q26.gens=q7)/\Tr 1 (q26.top=q8)/\Tr 1 (q26.high=q9)/\Tr 1 (q26.free=q10)/\True)/\Tr 1 ((makeR x_3.1 x_3.2).at_=q12)/\(Tr 1 (q27.slot=q15)/\Tr 1 (q27.gen=q16)/\True)/\Tr 1 ((0:Int)=q18)/\True)/\True)/\q25)/\True)))))=(fnVC tb [(16,zaA zg7),(88,zaA zm2),(89,zaA zo7),(90,zaA zm4)] Tryz.f52 zpV (fun x=>{ loose:=[(13,[5,6])] }) (fun _=>none)):=by kernel_rfl

theorem zz6:SpecOk Tryz.prog 52 (zaA zpV):=by
 refine zaK zaM zaL (SPok.cons ziK (SPok.cons zw5 (SPok.cons ztE (SPok.cons zw6 SPok.nil)))) Tryz.func52 (by decide) (zaR fun _=>mrA_pl _) (Eq.mp qh5 ?_)
 simp (maxSteps:=10000000) only [std,stdU,stdV,Exx,I64,Nat.reduceMul,Nat.reduceDiv,Nat.reduceAdd,Int.reduceToNat,zaQ,zaI,zfH,zc8,zi6,qbM,mr_iff,zd9,zcS,zgR,zvN,zfL,qqB]
 rintro s t k v ⟨h,ht,h1,h2,h3,h4⟩
 have hH:=nextH_I s.ws ht
 have hn:zd1 (mkN (zgX s.ws t) k v):=⟨⟨hH.1,hH.2,⟨h1,h2⟩,⟨h3,h4⟩⟩,fun x hx=>(by cases hx),by simp [mkN]⟩
 have hW:=znT h (zcW (mkN (zgX s.ws t) k v))
 have hA:=zpC h (zaJ (mkN (zgX s.ws t) k v))
 refine ⟨h,ht,fun q1=>?_,fun q1=>⟨mkN (zgX s.ws t) k v,rfl,rfl,rfl,rfl,rfl,fun i hi=>absurd hi (Nat.not_lt_zero _),hn,fun y hy=>⟨fun q2=>?_,fun q2=>⟨h,zcW _,fun q3=>?_,fun q3=>⟨hW,ht,hA.1,hA.2,fun q4=>?_,fun q4=>?_⟩⟩⟩⟩⟩
 ·rw [zb7,if_neg q1]
 ·rw [zb7,if_pos q1,if_neg q2]
 ·rw [zb7,if_pos q1,if_pos q2,mkW,if_neg q3]
 ·rw [zb7,if_pos q1,if_pos q2,mkW,if_pos q3,if_neg q4]
 ·rw [zb7,if_pos q1,if_pos q2,mkW,if_pos q3,if_pos q4]

def lkRes (s:StoreT) (t:TickT) (a b:Int):TR :=
 if readE s.ws a=0 then
  if readE s.ws b=0 then
   if a=b\/(readT s.ws a).kids.length≠(readT s.ws b).kids.length\/(readT s.ws a).kids.length=12 then ⟨s,tickZ,0,2⟩
   else if zgT (readT s.ws b).e (readT s.ws a).e<0 then zf3 s t b ⟨(readT s.ws b).e,(readT s.ws b).kids++[a]⟩
   else zf3 s t a ⟨(readT s.ws a).e,(readT s.ws a).kids++[b]⟩
  else ⟨s,tickZ,0,readE s.ws b⟩
 else ⟨s,tickZ,0,readE s.ws a⟩
def zpW:Ctr:=za5 (TickT×Int×Int) (fun x=>zaS x.2.1/\I64 x.2.2.1/\I64 x.2.2.2) (fun x=>[zeQ x.2.1,i64 x.2.2.1,i64 x.2.2.2]) (fun x=>(lkRes x.1 x.2.1 x.2.2.1 x.2.2.2).s) (fun x=>trA (lkRes x.1 x.2.1 x.2.2.1 x.2.2.2))

theorem qh6:(
 let q1:Prop:=true=true/\zaC/\0=0;
 let q2:Prop:=(107:TypeId)=107/\q1/\q1/\True;
 let q3:Prop:=0+1 <= 1;
 let q4:Nat:=0*1 / 1;
 let q5:Nat:=(TI.mk (TK.int IntKind.i64) 1 8 (ZL.cons (Value.int IntKind.i64 0) ZL.nil) false).size;
 let q6:Nat:=(0,Operand.tmp 64).1*q5 / q5; ∀(x:StoreT×TickT×Int×Int),
 let q7:TR:=lkRes x.1 x.2.1 x.2.2.1 x.2.2.2;
 let q8:TickT:=q7.t;
 let q9:Int:=q8.blocks;
 let q10:Int:=q8.slots;
 let q11:Int:=q8.gens;
 let q12:Int:=q8.top;
 let q13:Int:=q8.high;
 let q14:Int:=q8.free;
 let q15:Prop:=Tr 1 ((0:Int)=q9)/\Tr 1 ((0:Int)=q10)/\Tr 1 ((0:Int)=q11)/\Tr 1 ((0:Int)=q12)/\Tr 1 ((0:Int)=q13)/\Tr 1 ((0:Int)=q14)/\True;
 let q16:Int:=q7.a;
 let q17:Prop:=Tr 1 ((0:Int)=q16);
 let q18:Int:=q7.e;
 let q19:StoreT:=q7.s;
 let q20:Ob:=devB q19.ws;
 let q21:Ob:=zaB q19.a; zaG x.1/\zaS x.2.1/\I64 x.2.2.1/\I64 x.2.2.2->Exx (StoreT×Int) fun x_1 =>
 let q22:Int:=(↑(readT x_1.1.ws x_1.2).kids.length:Int);
 let q23:Nat:=(readT x_1.1.ws x_1.2).kids.length+1; ((q1/\Tr 1 (x.2.2.1=x_1.2)/\True)/\true=true/\q2/\devB x.1.ws=devB x_1.1.ws/\zaB x.1.a=zaB x_1.1.a/\True)/\(zaG x_1.1/\I64 x_1.2)/\∀(y:Nat),(readT x_1.1.ws x_1.2).kids.length <= y/\y <= 9223372036854775807->BC (!decide (readE x_1.1.ws x_1.2=(0:Int))) (Exx Unit fun y=>(((q15/\q17/\Tr 1 (readE x_1.1.ws x_1.2=q18)/\True)/\True)/\q2/\devB x_1.1.ws=q20/\zaB x_1.1.a=q21/\true=true/\True)/\True) (Exx (StoreT×Int) fun x_2 =>
 let q24:Prop:=q2/\devB x_2.1.ws=q20/\zaB x_2.1.a=q21/\true=true/\True;
 let q25:Prop:=Exx Unit fun y=>(((q15/\q17/\Tr 1 ((2:Int)=q18)/\True)/\True)/\q24)/\True;
 let q26:Int:=(↑(readT x_2.1.ws x_2.2).kids.length:Int);
 let q27:Nat:=(readT x_2.1.ws x_2.2).kids.length+1; ((q1/\Tr 1 (x.2.2.2=x_2.2)/\True)/\true=true/\q2/\devB x_1.1.ws=devB x_2.1.ws/\zaB x_1.1.a=zaB x_2.1.a/\True)/\(zaG x_2.1/\I64 x_2.2)/\∀(y_1:Nat),(readT x_2.1.ws x_2.2).kids.length <= y_1/\y_1 <= 9223372036854775807->BC (!decide (readE x_2.1.ws x_2.2=(0:Int))) (Exx Unit fun y=>(((q15/\q17/\Tr 1 (readE x_2.1.ws x_2.2=q18)/\True)/\True)/\q24)/\True) (BC (decide (x.2.2.1=x.2.2.2)) q25 (BC (!decide (q22=q26)) q25 (BC (decide (q22=(12:Int))) q25 (Exx (EntT×EntT) fun x_3=>(((Tr 1 ((readT x_2.1.ws x_2.2).e.slot=x_3.1.slot)/\Tr 1 ((readT x_2.1.ws x_2.2).e.gen=x_3.1.gen)/\Tr 1 ((readT x_2.1.ws x_2.2).e.key=x_3.1.key)/\Tr 1 ((readT x_2.1.ws x_2.2).e.value=x_3.1.value)/\True)/\(Tr 1 ((readT x_1.1.ws x_1.2).e.slot=x_3.2.slot)/\Tr 1 ((readT x_1.1.ws x_1.2).e.gen=x_3.2.gen)/\Tr 1 ((readT x_1.1.ws x_1.2).e.key=x_3.2.key)/\Tr 1 ((readT x_1.1.ws x_1.2).e.value=x_3.2.value)/\True)/\True)/\true=true/\True)/\(EntI x_3.1/\EntI x_3.2)/\∀(y_2:Unit),True->BC (decide (zgT x_3.1 x_3.2<(0:Int))) (q3/\true=true/\((readT x_2.1.ws x_2.2).kids.length <= (readT x_2.1.ws x_2.2).kids.length/\y_1=y_1)/\(q27 <= 9223372036854775807/\q27*8 <= 140737488355328)/\∀(cap:Nat),q27 <= cap/\cap <= 9223372036854775807->Exx (StoreT×TickT×Int×NodeT) fun x_4 =>
 let q28:Int:=x_4.2.2.1;
 let q29:NodeT:=x_4.2.2.2;
 let q30:EntT:=q29.e;
 let q31:List Int:=q29.kids;
 let q32:Nat:=q31.length;
 let q33:TR:=zf3 x_4.1 x_4.2.1 q28 q29;
 let q34:TickT:=q33.t;
 let q35:StoreT:=q33.s; ((q1/\(Tr 1 (x.2.1.blocks=x_4.2.1.blocks)/\Tr 1 (x.2.1.slots=x_4.2.1.slots)/\Tr 1 (x.2.1.gens=x_4.2.1.gens)/\Tr 1 (x.2.1.top=x_4.2.1.top)/\Tr 1 (x.2.1.high=x_4.2.1.high)/\Tr 1 (x.2.1.free=x_4.2.1.free)/\True)/\Tr 1 (x.2.2.2=q28)/\(Tr 1 ((readT x_2.1.ws x_2.2).e.slot=q30.slot)/\Tr 1 ((readT x_2.1.ws x_2.2).e.gen=q30.gen)/\Tr 1 ((readT x_2.1.ws x_2.2).e.key=q30.key)/\Tr 1 ((readT x_2.1.ws x_2.2).e.value=q30.value)/\(0+q27 <= q27/\q27=q32/\∀(i:Nat),
 let q36:Nat:=0+i;
 let q37:Nat:=0+(q36-(readT x_2.1.ws x_2.2).kids.length); i<q32->(if q36<(readT x_2.1.ws x_2.2).kids.length then [AV.int .i64 ((readT x_2.1.ws x_2.2).kids.getD q36 0)] else [AV.int .i64 (if q37=q4 then x.2.2.1 else 0)])=[AV.int .i64 (q31.getD i 0)])/\True)/\True)/\true=true/\q2/\devB x_2.1.ws=devB x_4.1.ws/\zaB x_2.1.a=zaB x_4.1.a/\True)/\(zaG x_4.1/\zaS x_4.2.1/\I64 q28/\zd1 q29)/\∀(y:Unit),True->Exx Unit fun y=>((((Tr 1 (q34.blocks=q9)/\Tr 1 (q34.slots=q10)/\Tr 1 (q34.gens=q11)/\Tr 1 (q34.top=q12)/\Tr 1 (q34.high=q13)/\Tr 1 (q34.free=q14)/\True)/\Tr 1 (q33.a=q16)/\Tr 1 (q33.e=q18)/\True)/\True)/\q2/\devB q35.ws=q20/\zaB q35.a=q21/\true=true/\True)/\True) (q3/\true=true/\((readT x_1.1.ws x_1.2).kids.length <= (readT x_1.1.ws x_1.2).kids.length/\y=y)/\(q23 <= 9223372036854775807/\q23*8 <= 140737488355328)/\∀(cap:Nat),q23 <= cap/\cap <= 9223372036854775807->Exx (StoreT×TickT×Int×NodeT) fun x_4 =>
 let q38:Int:=x_4.2.2.1;
 let q39:NodeT:=x_4.2.2.2;
 let q40:EntT:=q39.e;
 let q41:List Int:=q39.kids;
 let q42:Nat:=q41.length;
 let q43:TR:=zf3 x_4.1 x_4.2.1 q38 q39;
 let q44:TickT:=q43.t;
 let q45:StoreT:=q43.s; ((q1/\(Tr 1 (x.2.1.blocks=x_4.2.1.blocks)/\Tr 1 (x.2.1.slots=x_4.2.1.slots)/\Tr 1 (x.2.1.gens=x_4.2.1.gens)/\Tr 1 (x.2.1.top=x_4.2.1.top)/\Tr 1 (x.2.1.high=x_4.2.1.high)/\Tr 1 (x.2.1.free=x_4.2.1.free)/\True)/\Tr 1 (x.2.2.1=q38)/\(Tr 1 ((readT x_1.1.ws x_1.2).e.slot=q40.slot)/\Tr 1 ((readT x_1.1.ws x_1.2).e.gen=q40.gen)/\Tr 1 ((readT x_1.1.ws x_1.2).e.key=q40.key)/\Tr 1 ((readT x_1.1.ws x_1.2).e.value=q40.value)/\(0+q23 <= q23/\q23=q42/\∀(i:Nat),
 let q46:Nat:=0+i;
 let q47:Nat:=0+(q46-(readT x_1.1.ws x_1.2).kids.length); i<q42->(if q46<(readT x_1.1.ws x_1.2).kids.length then [AV.int .i64 ((readT x_1.1.ws x_1.2).kids.getD q46 0)] else [AV.int .i64 (if q47=q4 then x.2.2.2 else 0)])=[AV.int .i64 (q41.getD i 0)])/\True)/\True)/\true=true/\q2/\devB x_2.1.ws=devB x_4.1.ws/\zaB x_2.1.a=zaB x_4.1.a/\True)/\(zaG x_4.1/\zaS x_4.2.1/\I64 q38/\zd1 q39)/\∀(y:Unit),True->Exx Unit fun y=>((((Tr 1 (q44.blocks=q9)/\Tr 1 (q44.slots=q10)/\Tr 1 (q44.gens=q11)/\Tr 1 (q44.top=q12)/\Tr 1 (q44.high=q13)/\Tr 1 (q44.free=q14)/\True)/\Tr 1 (q43.a=q16)/\Tr 1 (q43.e=q18)/\True)/\True)/\q2/\devB q45.ws=q20/\zaB q45.a=q21/\true=true/\True)/\True)))))))=(fnVC tb [(50,zaA zpZ),(66,zaA zmS),(87,zaA zpU)] Tryz.f51 zpW (fun x=>{ loose:=[(10,[7])] }) (fun _=>none)):=by kernel_rfl

theorem zz7:SpecOk Tryz.prog 51 (zaA zpW):=by
 refine zaK zaM zaL (SPok.cons zo2 (SPok.cons zn7 (SPok.cons zz5 SPok.nil))) Tryz.func51 (by decide) (zaR fun _=>qq8 _) (Eq.mp qh6 ?_)
 simp (maxSteps:=10000000) only [std,stdU,stdV,Exx,I64,Nat.reduceMul,Nat.reduceDiv,Nat.reduceAdd,Int.reduceToNat,zaQ,zaI,zfH,zc8,zi6,zrS,qq7,zd9,zcS,zgR,zfL]
 rintro s t a b ⟨h,ht,h1,h2,h3,h4⟩
 have ha:=zqP s.ws a
 have hb:=zqP s.ws b
 have la:=zl5 s.ws a
 have lb:=zl5 s.ws b
 have hs:∀(n:NodeT) (c:Int),zd1 n->I64 c->n.kids.length <= 12->zd1 ⟨n.e,n.kids++[c]⟩:=fun n c hn hc hl=>⟨hn.1,fun x hx=>(List.mem_append.1 hx).elim (hn.2.1 x) fun hx=>(List.mem_singleton.1 hx) ▸ hc,by rw [List.length_append]; simp only [List.length_cons,List.length_nil]; omega⟩
 have hg:∀(l:List Int) (c:Int),∀i,i<(l++[c]).length->(if i<l.length then [i64 (l.getD i 0)] else if i-l.length=0 then [i64 c] else [i64 0])=[i64 ((l++[c]).getD i 0)]:=fun l c i hi=>by
  rw [zaH]
  rw [List.length_append] at hi
  simp only [List.length_cons,List.length_nil] at hi
  by_cases e:i<l.length
  ·rw [if_pos e,if_pos e]
  ·have e2:i-l.length=0:=by omega
   rw [if_neg e,if_neg e,if_pos e2,e2]; rfl
 refine ⟨h,h1,h2,fun y hy=>⟨fun q1=>?_,fun q1=>⟨h,h3,h4,fun y2 hy2=>⟨fun q2=>?_,fun q2=>⟨fun q3=>?_,fun q3=>⟨fun q4=>?_,fun q4=>⟨fun q5=>?_,fun q5=>⟨hb.1,ha.1,fun q6=>?_,fun q6=>?_⟩⟩⟩⟩⟩⟩⟩⟩
 ·rw [lkRes,if_neg q1]
 ·rw [lkRes,if_pos q1,if_neg q2]
 ·rw [lkRes,if_pos q1,if_pos q2,if_pos (.inl q3)]
 ·rw [lkRes,if_pos q1,if_pos q2,if_pos (.inr (.inl q4))]
 ·rw [lkRes,if_pos q1,if_pos q2,if_pos (.inr (.inr (by omega)))]
 ·refine ⟨by omega,by omega,fun cap hc=>⟨s,⟨(readT s.ws b).e,(readT s.ws b).kids++[a]⟩,rfl,rfl,rfl,rfl,by simp,hg _ _,rfl,rfl,h,ht,h3,h4,hs _ _ hb ⟨h1,h2⟩ lb,?_⟩⟩
  rw [lkRes,if_pos q1,if_pos q2,if_neg (by rintro (k | k | k); exact q3 k; exact k q4; exact q5 (by omega)),if_pos q6]
 ·refine ⟨by omega,by omega,fun cap hc=>⟨s,⟨(readT s.ws a).e,(readT s.ws a).kids++[b]⟩,rfl,rfl,rfl,rfl,by simp,hg _ _,rfl,rfl,h,ht,h1,h2,hs _ _ ha ⟨h3,h4⟩ la,?_⟩⟩
  rw [lkRes,if_pos q1,if_pos q2,if_neg (by rintro (k | k | k); exact q3 k; exact k q4; exact q5 (by omega)),if_neg q6]


def listG (ws:List Nat):Nat->List EntT->List Int->List EntT×Int
 | 0,out,[]=>(out,0)
 | _+1,out,[]=>(out,0)
 | 0,_,_ :: _=>([],31)
 | n+1,out,a :: r=>if readE ws a=0 then listG ws n (out++[(readT ws a).e]) ((readT ws a).kids++r) else ([],readE ws a)
def listE (ws:List Nat) (a:Int):List EntT×Int:=listG ws 1792 [] [a]
abbrev entF (l:List EntT) (i:Nat):List AV:=entV (l.getD i entZ)
abbrev entR (cap:Nat) (l:List EntT):Sx.Item := .row 29 4 cap l.length (entF l)
end Yard
