import Derived.Test.YtlihikockhjodaaGreatDoorNodeMath
import Derived.Test.YtlihikockhjodaaGreatDoorLaw21

namespace Yard
open Go Go.Sx Go.Proofs
set_option linter.unusedVariables false
set_option linter.unusedSimpArgs false
set_option maxRecDepth 4000
set_option maxHeartbeats 4000000

theorem zv0 {a b c d:Int} {p:EntT->Prop}:(∃e:EntT,a=e.slot/\b=e.gen/\c=e.key/\d=e.value/\p e) ↔ p ⟨a,b,c,d⟩ :=
 ⟨fun ⟨e,h1,h2,h3,h4,k⟩=>by subst h1; subst h2; subst h3; subst h4; exact k,fun k=>⟨_,rfl,rfl,rfl,rfl,k⟩⟩
abbrev entH (e:EntT):HandT:=⟨e.slot,e.gen⟩

def readE (ws:List Nat) (a:Int):Int:=if zaX ws a=0 then (if zeW (zaQ ws a) then 0 else 31) else zaX ws a
def readT (ws:List Nat) (a:Int):NodeT:=if readE ws a=0 then zbU (zaQ ws a) else nodeZ
theorem zdT {ws:List Nat} {a:Int}:readE ws a=0 ↔ zaX ws a=0/\zeW (zaQ ws a):=by
 unfold readE
 refine ⟨fun h=>?_,fun h=>by rw [if_pos h.1,if_pos h.2]⟩
 split at h
 ·rename_i h1
  split at h
  ·rename_i h2; exact ⟨h1,h2⟩
  ·cases h
 ·rename_i h1; exact absurd h h1
theorem qfJ:zfZ nodeZ:=⟨⟨I64_0,I64_0,I64_0,I64_0⟩,fun x hx=>(by cases hx),by simp [nodeZ]⟩
theorem zj2 (ws:List Nat) (a:Int):zfZ (readT ws a):=by
 unfold readT
 split
 ·rename_i h
  have h:=zdT.1 h
  exact (zxO _).2 (by have:=h.2.2.2.1; omega)
 ·exact qfJ
theorem zhW (ws:List Nat) (a:Int):(readT ws a).kids.length <= 12:=by
 unfold readT
 split
 ·rename_i h
  have h:=zdT.1 h
  exact h.2.2.2.2.1.2.2.2.2.1
 ·exact Nat.zero_le _
def zmT:Ctr where
 X:=StoreT×Int
 Y:=Nat
 conv:=true
 tau:=ziU
 pre:=fun x=>zaF x.1/\I64 x.2
 args:=fun x=>[.ptr 0 [] 0,i64 x.2]
 heap:=fun x=>zbW x.1
 Q:=fun x cap=>(readT x.1.ws x.2).kids.length <= cap/\cap <= 9223372036854775807
 res:=fun x cap => .tup [qfL (readT x.1.ws x.2) (.sl 4 [] 0 1 0 (readT x.1.ws x.2).kids.length cap),i64 (readE x.1.ws x.2)]
 its:=fun x _=>zbW x.1
 new:=fun x cap=>[rowI 3 .i64 cap (readT x.1.ws x.2).kids]
theorem qdK:CtrOk zmT :=
 ⟨fun _ _ _ _=>(rfl:3=3),fun _ _ _ _=>⟨rfl,rfl⟩,fun x _ _ _ _=>⟨⟨zlU _,⟨⟨fun _ _=>⟨rfl,trivial⟩,trivial⟩,trivial⟩⟩,⟨rfl,rfl,rfl,rfl,rfl,trivial⟩,rfl,trivial⟩⟩
def qmO (av:AV):Option Ren:=match av with
 | .tup (.agg (_ :: _ :: _ :: _ :: .sl q _ _ _ _ _ _ :: _) :: _)=>some [some 0,some 1,some 2,some 3,some q]
 | _=>some [some 0,some 1,some 2,some 3,none]

theorem treadV:(
 let q1:Prop:=true=true/\zaC/\(0:Nat)=0;
 let q2:Prop:=(107:TypeId)=107/\q1/\q1/\True; ∀(x:StoreT×Int),
 let q3:Prop:=(readT x.1.ws x.2).kids.length=0; zaF x.1/\I64 x.2->Exx (StoreT×Int) fun x_1=>((q1/\Tr 1 (x.2=x_1.2)/\True)/\true=true/\q2/\devB x.1.ws=devB x_1.1.ws/\zaA x.1.a=zaA x_1.1.a/\True)/\(zaF x_1.1/\I64 x_1.2)/\∀(y:Nat),(zaQ x_1.1.ws x_1.2).length <= y->BC (!decide (zaX x_1.1.ws x_1.2=(0:Int))) (Exx Nat fun y=>((((Tr 1 ((0:Int)=(readT x.1.ws x.2).e.slot)/\Tr 1 ((0:Int)=(readT x.1.ws x.2).e.gen)/\Tr 1 ((0:Int)=(readT x.1.ws x.2).e.key)/\Tr 1 ((0:Int)=(readT x.1.ws x.2).e.value)/\(q3/\y=0)/\True)/\Tr 1 (zaX x_1.1.ws x_1.2=readE x.1.ws x.2)/\True)/\True)/\q2/\devB x_1.1.ws=devB x.1.ws/\zaA x_1.1.a=zaA x.1.a/\true=true/\(y=0/\q3)/\True)/\(readT x.1.ws x.2).kids.length <= y/\y <= 9223372036854775807) (Exx (List Nat) fun x_2=>(((0+(zaQ x_1.1.ws x_1.2).length <= (zaQ x_1.1.ws x_1.2).length/\(zaQ x_1.1.ws x_1.2).length=x_2.length/\∀(i:Nat),i<x_2.length->[AV.int .u8 (↑((zaQ x_1.1.ws x_1.2).getD (0+i) 0):Int)]=[AV.int .u8 (↑(x_2.getD i 0):Int)])/\True)/\true=true/\True)/\Oct x_2/\∀(y:Nat),(zaU x_2).kids.length <= y/\y <= 9223372036854775807->BC (!decide (zeW x_2)) (Exx Nat fun y=>((((Tr 1 ((0:Int)=(readT x.1.ws x.2).e.slot)/\Tr 1 ((0:Int)=(readT x.1.ws x.2).e.gen)/\Tr 1 ((0:Int)=(readT x.1.ws x.2).e.key)/\Tr 1 ((0:Int)=(readT x.1.ws x.2).e.value)/\(q3/\y=0)/\True)/\Tr 1 ((31:Int)=readE x.1.ws x.2)/\True)/\True)/\q2/\devB x_1.1.ws=devB x.1.ws/\zaA x_1.1.a=zaA x.1.a/\true=true/\(y=0/\q3)/\True)/\(readT x.1.ws x.2).kids.length <= y/\y <= 9223372036854775807) (Exx Nat fun y_1=>((((Tr 1 ((zaU x_2).e.slot=(readT x.1.ws x.2).e.slot)/\Tr 1 ((zaU x_2).e.gen=(readT x.1.ws x.2).e.gen)/\Tr 1 ((zaU x_2).e.key=(readT x.1.ws x.2).e.key)/\Tr 1 ((zaU x_2).e.value=(readT x.1.ws x.2).e.value)/\(true=true/\zaC/\(0:Nat)=0/\(1:Nat)=1/\(0:Nat)=0/\(zaU x_2).kids.length=(readT x.1.ws x.2).kids.length/\y=y_1)/\True)/\Tr 1 ((0:Int)=readE x.1.ws x.2)/\True)/\True)/\q2/\devB x_1.1.ws=devB x.1.ws/\zaA x_1.1.a=zaA x.1.a/\true=true/\((3:TypeId)=3/\(1:Nat)=1/\y=y_1/\(readT x.1.ws x.2).kids.length <= (zaU x_2).kids.length/\∀(i:Nat),i<(readT x.1.ws x.2).kids.length->[AV.int .i64 ((zaU x_2).kids.getD i 0)]=[AV.int .i64 ((readT x.1.ws x.2).kids.getD i 0)])/\True)/\(readT x.1.ws x.2).kids.length <= y_1/\y_1 <= 9223372036854775807)))=(zcE tb [(85,zaB zgG),(86,zaB zsZ)] Tryz.f50 zmT (fun _=>{}) (fun _ av _=>qmO av) (fun _=>[]) (fun _ _ _ _=>[])):=by kernel_rfl

theorem zkM:SpecOk Tryz.prog 50 (zaB zmT):=by
 refine za2 zaL zaN (SPok.cons zjX (SPok.cons qb7 SPok.nil)) Tryz.func50 (by decide) qdK (Eq.mp treadV ?_)
 simp (maxSteps:=10000000) only [std,stdU,stdV,Exx,I64,Nat.reduceMul,Nat.reduceDiv,Nat.reduceAdd,Int.reduceToNat,zaP,zaH,zdB]
 rintro s a ⟨h,h1,h2⟩
 have hno:readE s.ws a≠0->(0=(readT s.ws a).e.slot/\0=(readT s.ws a).e.gen/\0=(readT s.ws a).e.key/\0=(readT s.ws a).e.value/\(readT s.ws a).kids.length=0/\readE s.ws a=readE s.ws a/\(readT s.ws a).kids.length=0/\(readT s.ws a).kids.length <= 0/\(0:Nat) <= 9223372036854775807):=fun h=>by
  rw [readT,if_neg h]; exact ⟨rfl,rfl,rfl,rfl,rfl,rfl,rfl,Nat.le_refl _,by omega⟩
 refine ⟨h,h1,h2,fun y hy=>⟨fun hn=>?_,fun hz=>⟨zh3 _ _,fun y2 hy2=>⟨fun hn=>?_,fun hN=>?_⟩⟩⟩⟩
 ·have e:zaX s.ws a=readE s.ws a:=by rw [readE,if_neg hn]
  rw [e]; exact hno (by rw [<- e]; exact hn)
 ·have e:31=readE s.ws a:=by rw [readE,if_pos hz,if_neg hn]
  rw [e]; exact hno (by rw [<- e]; decide)
 ·have e:=zdT.2 ⟨hz,hN⟩
  rw [zaU,if_pos hN] at hy2 ⊢
  rw [readT,if_pos e]
  exact ⟨rfl,rfl,rfl,rfl,rfl,e.symm,Nat.le_refl _,fun _ _=>rfl,hy2.1,hy2.2⟩

structure TR where
 s:StoreT
 t:TickT
 a:Int
 e:Int
def trA (r:TR):AV := .tup [zeH r.t,i64 r.a,i64 r.e]
theorem ql1 (r:TR):plV 2 (trA r):=⟨⟨rfl,rfl,rfl,rfl,rfl,rfl,trivial⟩,rfl,rfl,trivial⟩
theorem ql0 {b sl g tp h f a e:Int} {w:List Nat} {z:AllocT} {r:TR}:(b=r.t.blocks/\sl=r.t.slots/\g=r.t.gens/\tp=r.t.top/\h=r.t.high/\f=r.t.free/\a=r.a/\e=r.e/\w=r.s.ws/\z=r.s.a) ↔ r=⟨⟨w,z⟩,⟨b,sl,g,tp,h,f⟩,a,e⟩ :=
 ⟨fun ⟨h1,h2,h3,h4,h5,h6,h7,h8,h9,h10⟩=>by
  obtain ⟨⟨_,_⟩,⟨_,_,_,_,_,_⟩,_,_⟩:=r
  simp only at h1 h2 h3 h4 h5 h6 h7 h8 h9 h10
  subst h1; subst h2; subst h3; subst h4; subst h5; subst h6; subst h7; subst h8; subst h9; subst h10; rfl,fun k=>by subst k; exact ⟨rfl,rfl,rfl,rfl,rfl,rfl,rfl,rfl,rfl,rfl⟩⟩
theorem zgZ:(⟨0,0,0,0,0,0⟩:TickT)=tickZ:=rfl
def tuW (s:StoreT) (a:Int) (n:NodeT):Wr:=zhK s a (zaJ n)
def zfF (s:StoreT) (t:TickT) (a:Int) (n:NodeT):TR :=
 if zcI n then
  if (tuW s a n).e=0 then
   if zcQ (tuW s a n).s.ws t (entH n.e)=0 then
    if (seatX (tuW s a n).s.ws t (entH n.e)).next=(tuW s a n).at_ then ⟨(tuW s a n).s,t,(tuW s a n).at_,0⟩
    else if poiE (tuW s a n).s t (entH n.e) (tuW s a n).at_=0 then ⟨poiS (tuW s a n).s t (entH n.e) (tuW s a n).at_,poiT (tuW s a n).s t (entH n.e) (tuW s a n).at_,(tuW s a n).at_,0⟩
    else ⟨poiS (tuW s a n).s t (entH n.e) (tuW s a n).at_,tickZ,0,poiE (tuW s a n).s t (entH n.e) (tuW s a n).at_⟩
   else ⟨(tuW s a n).s,tickZ,0,zcQ (tuW s a n).s.ws t (entH n.e)⟩
  else ⟨(tuW s a n).s,tickZ,0,(tuW s a n).e⟩
 else ⟨s,tickZ,0,2⟩
def znY:Ctr:=za0 (TickT×Int×NodeT) (fun x=>zaR x.2.1/\I64 x.2.2.1/\zfZ x.2.2.2) (fun x=>[zeH x.2.1,i64 x.2.2.1,nodeA x.2.2.2]) (fun x=>(zfF x.1 x.2.1 x.2.2.1 x.2.2.2).s) (fun x=>trA (zfF x.1 x.2.1 x.2.2.1 x.2.2.2))

theorem qdE:(
 let q1:Prop:=true=true/\zaC/\(0:Nat)=0;
 let q2:Prop:=(107:TypeId)=107/\q1/\q1/\True; ∀(x:StoreT×TickT×Int×NodeT),
 let q3:Int:=x.2.2.1;
 let q4:NodeT:=x.2.2.2;
 let q5:EntT:=q4.e;
 let q6:Int:=q5.slot;
 let q7:Int:=q5.gen;
 let q8:List Int:=q4.kids;
 let q9:TR:=zfF x.1 x.2.1 q3 q4;
 let q10:TickT:=q9.t;
 let q11:Int:=q10.blocks;
 let q12:Int:=q10.slots;
 let q13:Int:=q10.gens;
 let q14:Int:=q10.top;
 let q15:Int:=q10.high;
 let q16:Int:=q10.free;
 let q17:Prop:=Tr 1 ((0:Int)=q11)/\Tr 1 ((0:Int)=q12)/\Tr 1 ((0:Int)=q13)/\Tr 1 ((0:Int)=q14)/\Tr 1 ((0:Int)=q15)/\Tr 1 ((0:Int)=q16)/\True;
 let q18:Int:=q9.a;
 let q19:Prop:=Tr 1 ((0:Int)=q18);
 let q20:Int:=q9.e;
 let q21:StoreT:=q9.s;
 let q22:Ob:=devB q21.ws;
 let q23:Ob:=zaA q21.a;
 let q24:Prop:=Tr 1 ((0:Int)=q20)/\True; zaF x.1/\zaR x.2.1/\I64 q3/\zfZ q4->Exx NodeT fun x_1=>(((Tr 1 (q6=x_1.e.slot)/\Tr 1 (q7=x_1.e.gen)/\Tr 1 (q5.key=x_1.e.key)/\Tr 1 (q5.value=x_1.e.value)/\(q8.length=x_1.kids.length/\∀(i:Nat),i<x_1.kids.length->[AV.int .i64 (q8.getD i 0)]=[AV.int .i64 (x_1.kids.getD i 0)])/\True)/\True)/\true=true/\True)/\zfZ x_1/\∀(y:Nat),(zaJ x_1).length <= y->BC (!decide (zcI x_1)) (Exx Unit fun y=>(((q17/\q19/\Tr 1 ((2:Int)=q20)/\True)/\True)/\q2/\devB x.1.ws=q22/\zaA x.1.a=q23/\true=true/\True)/\True) (Exx (StoreT×Int×List Nat) fun x_2 =>
 let q25:Wr:=zhK x_2.1 x_2.2.1 x_2.2.2;
 let q26:Int:=q25.e;
 let q27:StoreT:=q25.s;
 let q28:Ob:=devB q27.ws;
 let q29:Ob:=zaA q27.a;
 let q30:Int:=q25.at_;
 let q31:Prop:=Tr 1 (q30=q18)/\q24; ((q1/\Tr 1 (q3=x_2.2.1)/\(0+(zaJ x_1).length <= (zaJ x_1).length/\(zaJ x_1).length=x_2.2.2.length/\∀(i:Nat),i<x_2.2.2.length->[AV.int .u8 (↑((zaJ x_1).getD (0+i) 0):Int)]=[AV.int .u8 (↑(x_2.2.2.getD i 0):Int)])/\True)/\true=true/\q2/\devB x.1.ws=devB x_2.1.ws/\zaA x.1.a=zaA x_2.1.a/\True)/\(zaF x_2.1/\I64 x_2.2.1/\Oct x_2.2.2)/\∀(y:Unit),True->BC (!decide (q26=(0:Int))) (Exx Unit fun y=>(((q17/\q19/\Tr 1 (q26=q20)/\True)/\True)/\q2/\q28=q22/\q29=q23/\true=true/\True)/\True) (Exx (StoreT×TickT×HandT) fun x_3 =>
 let q32:Int:=zcQ x_3.1.ws x_3.2.1 x_3.2.2;
 let q33:Bool:=decide (q32=(0:Int));
 let q34:Int:=(seatX x_3.1.ws x_3.2.1 x_3.2.2).next;
 let q35:Prop:=q2/\devB x_3.1.ws=q22/\zaA x_3.1.a=q23/\true=true/\True;
 let q36:Prop:=BC (!q33) (Exx Unit fun y=>(((q17/\q19/\Tr 1 (q32=q20)/\True)/\True)/\q35)/\True) (Exx Unit fun y=>((((Tr 1 (x.2.1.blocks=q11)/\Tr 1 (x.2.1.slots=q12)/\Tr 1 (x.2.1.gens=q13)/\Tr 1 (x.2.1.top=q14)/\Tr 1 (x.2.1.high=q15)/\Tr 1 (x.2.1.free=q16)/\True)/\q31)/\True)/\q35)/\True); ((q1/\(Tr 1 (x.2.1.blocks=x_3.2.1.blocks)/\Tr 1 (x.2.1.slots=x_3.2.1.slots)/\Tr 1 (x.2.1.gens=x_3.2.1.gens)/\Tr 1 (x.2.1.top=x_3.2.1.top)/\Tr 1 (x.2.1.high=x_3.2.1.high)/\Tr 1 (x.2.1.free=x_3.2.1.free)/\True)/\(Tr 1 (q6=x_3.2.2.slot)/\Tr 1 (q7=x_3.2.2.gen)/\True)/\True)/\true=true/\q2/\q28=devB x_3.1.ws/\q29=zaA x_3.1.a/\True)/\(zaF x_3.1/\zaR x_3.2.1/\zhJ x_3.2.2)/\∀(y:Unit),True->BC q33 (BC (!decide (q34=q30)) (Exx (StoreT×TickT×HandT×Int) fun x_4 =>
 let q37:HandT:=x_4.2.2.1;
 let q38:Int:=x_4.2.2.2;
 let q39:Int:=poiE x_4.1 x_4.2.1 q37 q38;
 let q40:StoreT:=poiS x_4.1 x_4.2.1 q37 q38;
 let q41:Prop:=q2/\devB q40.ws=q22/\zaA q40.a=q23/\true=true/\True;
 let q42:TickT:=poiT x_4.1 x_4.2.1 q37 q38; ((q1/\(Tr 1 (x.2.1.blocks=x_4.2.1.blocks)/\Tr 1 (x.2.1.slots=x_4.2.1.slots)/\Tr 1 (x.2.1.gens=x_4.2.1.gens)/\Tr 1 (x.2.1.top=x_4.2.1.top)/\Tr 1 (x.2.1.high=x_4.2.1.high)/\Tr 1 (x.2.1.free=x_4.2.1.free)/\True)/\(Tr 1 (q6=q37.slot)/\Tr 1 (q7=q37.gen)/\True)/\Tr 1 (q30=q38)/\True)/\true=true/\q2/\devB x_3.1.ws=devB x_4.1.ws/\zaA x_3.1.a=zaA x_4.1.a/\True)/\(zaF x_4.1/\zaR x_4.2.1/\zhJ q37/\I64 q38)/\∀(y:Unit),True->BC (!decide (q39=(0:Int))) (Exx Unit fun y=>(((q17/\q19/\Tr 1 (q39=q20)/\True)/\True)/\q41)/\True) (Exx Unit fun y=>((((Tr 1 (q42.blocks=q11)/\Tr 1 (q42.slots=q12)/\Tr 1 (q42.gens=q13)/\Tr 1 (q42.top=q14)/\Tr 1 (q42.high=q15)/\Tr 1 (q42.free=q16)/\True)/\q31)/\True)/\q41)/\True)) q36) q36)))=(fnVC tb [(89,zaB znG),(96,zaB zhN),(125,zaB ziT),(126,zaB zlP)] Tryz.f87 znY (fun _=>{}) (fun _=>none)):=by kernel_rfl

theorem zwK:SpecOk Tryz.prog 87 (zaB znY):=by
 refine zaK zaL zaN (SPok.cons zqR (SPok.cons zp3 (SPok.cons zmV (SPok.cons zt2 SPok.nil)))) Tryz.func87 (by decide) (zaO fun _=>ql1 _) (Eq.mp qdE ?_)
 simp (maxSteps:=10000000) only [std,stdU,stdV,Exx,I64,Nat.reduceMul,Nat.reduceDiv,Nat.reduceAdd,Int.reduceToNat,zaP,zaH,zgY,zdB,zkA,qfI,ql0,ze0,zcN,zg8,zzU,zgZ]
 rintro s t a n ⟨h,ht,h1,h2,hn⟩
 have hW:=zwJ h a (zcH n)
 have hA:=zrQ h ⟨h1,h2⟩ (zaJ n)
 have hH:zhJ (entH n.e):=⟨hn.1.1,hn.1.2.1⟩
 refine ⟨hn,fun y hy=>⟨fun h1=>?_,fun h1'=>⟨h,h1,h2,zcH n,fun h3=>?_,fun h3=>⟨hW,ht,hH,fun h4=>⟨fun h5=>⟨hW,ht,hH,hA.1,hA.2,fun h6=>?_,fun h6=>?_⟩,fun h5=>⟨fun q=>absurd h4 q,fun _=>?_⟩⟩,fun h4=>⟨fun _=>?_,fun q=>absurd q h4⟩⟩⟩⟩⟩
 ·rw [zfF,if_neg h1]
 ·rw [zfF,if_pos h1',tuW,if_neg h3]
 ·rw [zfF,if_pos h1',tuW,if_pos h3,if_pos h4,if_neg h5,if_neg h6]
 ·rw [zfF,if_pos h1',tuW,if_pos h3,if_pos h4,if_neg h5,if_pos h6]
 ·rw [zfF,if_pos h1',tuW,if_pos h3,if_pos h4,if_pos h5]
 ·rw [zfF,if_pos h1',tuW,if_pos h3,if_neg h4]

structure MR where
 s:StoreT
 t:TickT
 a:Int
 h:HandT
 e:Int
def mrA (r:MR):AV := .tup [zeH r.t,i64 r.a,zvJ r.h,i64 r.e]
theorem mrA_pl (r:MR):plV 2 (mrA r):=⟨⟨rfl,rfl,rfl,rfl,rfl,rfl,trivial⟩,rfl,⟨rfl,rfl,trivial⟩,rfl,trivial⟩
theorem mr_iff {b sl g tp h f a hs hg e:Int} {w:List Nat} {z:AllocT} {r:MR}:(b=r.t.blocks/\sl=r.t.slots/\g=r.t.gens/\tp=r.t.top/\h=r.t.high/\f=r.t.free/\a=r.a/\hs=r.h.slot/\hg=r.h.gen/\e=r.e/\w=r.s.ws/\z=r.s.a) ↔ r=⟨⟨w,z⟩,⟨b,sl,g,tp,h,f⟩,a,⟨hs,hg⟩,e⟩ :=
 ⟨fun ⟨h1,h2,h3,h4,h5,h6,h7,h8,h9,h10,h11,h12⟩=>by
  obtain ⟨⟨_,_⟩,⟨_,_,_,_,_,_⟩,_,⟨_,_⟩,_⟩:=r
  simp only at h1 h2 h3 h4 h5 h6 h7 h8 h9 h10 h11 h12
  subst h1; subst h2; subst h3; subst h4; subst h5; subst h6; subst h7; subst h8; subst h9; subst h10; subst h11; subst h12; rfl,fun k=>by subst k; exact ⟨rfl,rfl,rfl,rfl,rfl,rfl,rfl,rfl,rfl,rfl,rfl,rfl⟩⟩
theorem qk3:(⟨0,0⟩:HandT)=zsW:=rfl
def mkN (h:HandT) (k v:Int):NodeT:=⟨⟨h.slot,h.gen,k,v⟩,[]⟩
def mkW (s:StoreT) (t:TickT) (k v:Int):Wr:=makeR s (zaJ (mkN (zf7 s.ws t) k v))
def zbS (s:StoreT) (t:TickT) (k v:Int):MR :=
 if zb4 s.ws t=0 then
  if zcI (mkN (zf7 s.ws t) k v) then
   if (mkW s t k v).e=0 then
    if issE (mkW s t k v).s t (mkW s t k v).at_=0 then ⟨issS (mkW s t k v).s t (mkW s t k v).at_,issT (mkW s t k v).s t (mkW s t k v).at_,(mkW s t k v).at_,issH (mkW s t k v).s t (mkW s t k v).at_,0⟩
    else ⟨issS (mkW s t k v).s t (mkW s t k v).at_,tickZ,0,zsW,issE (mkW s t k v).s t (mkW s t k v).at_⟩
   else ⟨(mkW s t k v).s,tickZ,0,zsW,(mkW s t k v).e⟩
  else ⟨s,tickZ,0,zsW,31⟩
 else ⟨s,tickZ,0,zsW,zb4 s.ws t⟩
theorem nextH_I (ws:List Nat) {t:TickT} (h:zaR t):zhJ (zf7 ws t):=by
 unfold zf7
 split
 ·rename_i hz
  have g:=zh0 hz
  exact ⟨qfN ws h.2.2.2.2.1 h.2.2.2.2.2,by show I64 ((nextX ws t).gen+1); exact ⟨by omega,by omega⟩⟩
 ·exact ⟨I64_0,I64_0⟩
def znZ:Ctr:=za0 (TickT×Int×Int) (fun x=>zaR x.2.1/\I64 x.2.2.1/\I64 x.2.2.2) (fun x=>[zeH x.2.1,i64 x.2.2.1,i64 x.2.2.2]) (fun x=>(zbS x.1 x.2.1 x.2.2.1 x.2.2.2).s) (fun x=>mrA (zbS x.1 x.2.1 x.2.2.1 x.2.2.2))

theorem qdF:(
 let q1:Prop:=true=true/\zaC/\(0:Nat)=0;
 let q2:Prop:=(107:TypeId)=107/\q1/\q1/\True; ∀(x:StoreT×TickT×Int×Int),
 let q3:MR:=zbS x.1 x.2.1 x.2.2.1 x.2.2.2;
 let q4:TickT:=q3.t;
 let q5:Int:=q4.blocks;
 let q6:Int:=q4.slots;
 let q7:Int:=q4.gens;
 let q8:Int:=q4.top;
 let q9:Int:=q4.high;
 let q10:Int:=q4.free;
 let q11:Prop:=Tr 1 ((0:Int)=q5)/\Tr 1 ((0:Int)=q6)/\Tr 1 ((0:Int)=q7)/\Tr 1 ((0:Int)=q8)/\Tr 1 ((0:Int)=q9)/\Tr 1 ((0:Int)=q10)/\True;
 let q12:Int:=q3.a;
 let q13:Prop:=Tr 1 ((0:Int)=q12);
 let q14:HandT:=q3.h;
 let q15:Int:=q14.slot;
 let q16:Int:=q14.gen;
 let q17:Prop:=Tr 1 ((0:Int)=q15)/\Tr 1 ((0:Int)=q16)/\True;
 let q18:Int:=q3.e;
 let q19:StoreT:=q3.s;
 let q20:Ob:=devB q19.ws;
 let q21:Ob:=zaA q19.a; zaF x.1/\zaR x.2.1/\I64 x.2.2.1/\I64 x.2.2.2->Exx (StoreT×TickT) fun x_1 =>
 let q22:Prop:=q2/\devB x_1.1.ws=q20/\zaA x_1.1.a=q21/\true=true/\True; ((q1/\(Tr 1 (x.2.1.blocks=x_1.2.blocks)/\Tr 1 (x.2.1.slots=x_1.2.slots)/\Tr 1 (x.2.1.gens=x_1.2.gens)/\Tr 1 (x.2.1.top=x_1.2.top)/\Tr 1 (x.2.1.high=x_1.2.high)/\Tr 1 (x.2.1.free=x_1.2.free)/\True)/\True)/\true=true/\q2/\devB x.1.ws=devB x_1.1.ws/\zaA x.1.a=zaA x_1.1.a/\True)/\(zaF x_1.1/\zaR x_1.2)/\∀(y:Unit),True->BC (!decide (zb4 x_1.1.ws x_1.2=(0:Int))) (Exx Unit fun y=>(((q11/\q13/\q17/\Tr 1 (zb4 x_1.1.ws x_1.2=q18)/\True)/\True)/\q22)/\True) (Exx NodeT fun x_2=>(((Tr 1 ((zf7 x_1.1.ws x_1.2).slot=x_2.e.slot)/\Tr 1 ((zf7 x_1.1.ws x_1.2).gen=x_2.e.gen)/\Tr 1 (x.2.2.1=x_2.e.key)/\Tr 1 (x.2.2.2=x_2.e.value)/\(0=x_2.kids.length/\∀(i:Nat),i<x_2.kids.length->[]=[AV.int .i64 (x_2.kids.getD i 0)])/\True)/\True)/\true=true/\True)/\zfZ x_2/\∀(y:Nat),(zaJ x_2).length <= y->BC (!decide (zcI x_2)) (Exx Unit fun y=>(((q11/\q13/\q17/\Tr 1 ((31:Int)=q18)/\True)/\True)/\q22)/\True) (Exx (StoreT×List Nat) fun x_3=>((q1/\(0+(zaJ x_2).length <= (zaJ x_2).length/\(zaJ x_2).length=x_3.2.length/\∀(i:Nat),i<x_3.2.length->[AV.int .u8 (↑((zaJ x_2).getD (0+i) 0):Int)]=[AV.int .u8 (↑(x_3.2.getD i 0):Int)])/\True)/\true=true/\q2/\devB x_1.1.ws=devB x_3.1.ws/\zaA x_1.1.a=zaA x_3.1.a/\True)/\(zaF x_3.1/\Oct x_3.2)/\∀(y:Unit),True->BC (!decide ((makeR x_3.1 x_3.2).e=(0:Int))) (Exx Unit fun y=>(((q11/\q13/\q17/\Tr 1 ((makeR x_3.1 x_3.2).e=q18)/\True)/\True)/\q2/\devB (makeR x_3.1 x_3.2).s.ws=q20/\zaA (makeR x_3.1 x_3.2).s.a=q21/\true=true/\True)/\True) (Exx (StoreT×TickT×Int) fun x_4 =>
 let q23:Int:=issE x_4.1 x_4.2.1 x_4.2.2;
 let q24:StoreT:=issS x_4.1 x_4.2.1 x_4.2.2;
 let q25:Prop:=q2/\devB q24.ws=q20/\zaA q24.a=q21/\true=true/\True;
 let q26:TickT:=issT x_4.1 x_4.2.1 x_4.2.2;
 let q27:HandT:=issH x_4.1 x_4.2.1 x_4.2.2; ((q1/\(Tr 1 (x.2.1.blocks=x_4.2.1.blocks)/\Tr 1 (x.2.1.slots=x_4.2.1.slots)/\Tr 1 (x.2.1.gens=x_4.2.1.gens)/\Tr 1 (x.2.1.top=x_4.2.1.top)/\Tr 1 (x.2.1.high=x_4.2.1.high)/\Tr 1 (x.2.1.free=x_4.2.1.free)/\True)/\Tr 1 ((makeR x_3.1 x_3.2).at_=x_4.2.2)/\True)/\true=true/\q2/\devB (makeR x_3.1 x_3.2).s.ws=devB x_4.1.ws/\zaA (makeR x_3.1 x_3.2).s.a=zaA x_4.1.a/\True)/\(zaF x_4.1/\zaR x_4.2.1/\I64 x_4.2.2)/\∀(y:Unit),True->BC (!decide (q23=(0:Int))) (Exx Unit fun y=>(((q11/\q13/\q17/\Tr 1 (q23=q18)/\True)/\True)/\q25)/\True) (Exx Unit fun y=>((((Tr 1 (q26.blocks=q5)/\Tr 1 (q26.slots=q6)/\Tr 1 (q26.gens=q7)/\Tr 1 (q26.top=q8)/\Tr 1 (q26.high=q9)/\Tr 1 (q26.free=q10)/\True)/\Tr 1 ((makeR x_3.1 x_3.2).at_=q12)/\(Tr 1 (q27.slot=q15)/\Tr 1 (q27.gen=q16)/\True)/\Tr 1 ((0:Int)=q18)/\True)/\True)/\q25)/\True)))))=(fnVC tb [(16,zaB zgF),(88,zaB zlQ),(89,zaB znG),(90,zaB zlS)] Tryz.f52 znZ (fun x=>{ loose:=[(13,[5,6])] }) (fun _=>none)):=by kernel_rfl

theorem zwL:SpecOk Tryz.prog 52 (zaB znZ):=by
 refine zaK zaL zaN (SPok.cons zhP (SPok.cons zt3 (SPok.cons zqR (SPok.cons zt4 SPok.nil)))) Tryz.func52 (by decide) (zaO fun _=>mrA_pl _) (Eq.mp qdF ?_)
 simp (maxSteps:=10000000) only [std,stdU,stdV,Exx,I64,Nat.reduceMul,Nat.reduceDiv,Nat.reduceAdd,Int.reduceToNat,zaP,zaH,zgY,zdB,zkA,qfI,mr_iff,ze0,zcN,zg8,zzU,zgZ,qk3]
 rintro s t k v ⟨h,ht,h1,h2,h3,h4⟩
 have hH:=nextH_I s.ws ht
 have hn:zfZ (mkN (zf7 s.ws t) k v):=⟨⟨hH.1,hH.2,⟨h1,h2⟩,⟨h3,h4⟩⟩,fun x hx=>(by cases hx),by simp [mkN]⟩
 have hW:=zmB h (zcH (mkN (zf7 s.ws t) k v))
 have hA:=znL h (zaJ (mkN (zf7 s.ws t) k v))
 refine ⟨h,ht,fun q1=>?_,fun q1=>⟨mkN (zf7 s.ws t) k v,rfl,rfl,rfl,rfl,rfl,fun i hi=>absurd hi (Nat.not_lt_zero _),hn,fun y hy=>⟨fun q2=>?_,fun q2=>⟨h,zcH _,fun q3=>?_,fun q3=>⟨hW,ht,hA.1,hA.2,fun q4=>?_,fun q4=>?_⟩⟩⟩⟩⟩
 ·rw [zbS,if_neg q1]
 ·rw [zbS,if_pos q1,if_neg q2]
 ·rw [zbS,if_pos q1,if_pos q2,mkW,if_neg q3]
 ·rw [zbS,if_pos q1,if_pos q2,mkW,if_pos q3,if_neg q4]
 ·rw [zbS,if_pos q1,if_pos q2,mkW,if_pos q3,if_pos q4]

def lkRes (s:StoreT) (t:TickT) (a b:Int):TR :=
 if readE s.ws a=0 then
  if readE s.ws b=0 then
   if a=b\/(readT s.ws a).kids.length≠(readT s.ws b).kids.length\/(readT s.ws a).kids.length=12 then ⟨s,tickZ,0,2⟩
   else if zd7 (readT s.ws b).e (readT s.ws a).e<0 then zfF s t b ⟨(readT s.ws b).e,(readT s.ws b).kids++[a]⟩
   else zfF s t a ⟨(readT s.ws a).e,(readT s.ws a).kids++[b]⟩
  else ⟨s,tickZ,0,readE s.ws b⟩
 else ⟨s,tickZ,0,readE s.ws a⟩
def zn0:Ctr:=za0 (TickT×Int×Int) (fun x=>zaR x.2.1/\I64 x.2.2.1/\I64 x.2.2.2) (fun x=>[zeH x.2.1,i64 x.2.2.1,i64 x.2.2.2]) (fun x=>(lkRes x.1 x.2.1 x.2.2.1 x.2.2.2).s) (fun x=>trA (lkRes x.1 x.2.1 x.2.2.1 x.2.2.2))

theorem qdH:(
 let q1:Prop:=true=true/\zaC/\(0:Nat)=0;
 let q2:Prop:=(107:TypeId)=107/\q1/\q1/\True;
 let q3:Prop:=(0:Nat)+(1:Nat) <= (1:Nat);
 let q4:Nat:=0*1 / 1;
 let q5:Nat:=(TI.mk (TK.int IntKind.i64) 1 8 (ZL.cons (Value.int IntKind.i64 0) ZL.nil) false).size;
 let q6:Nat:=(0,Operand.tmp 64).1*q5 / q5; ∀(x:StoreT×TickT×Int×Int),
 let q7:TR:=lkRes x.1 x.2.1 x.2.2.1 x.2.2.2;
 let q8:TickT:=q7.t;
 let q9:Int:=q8.blocks;
 let q10:Int:=q8.slots;
 let q11:Int:=q8.gens;
 let q12:Int:=q8.top;
 let q13:Int:=q8.high;
 let q14:Int:=q8.free;
 let q15:Prop:=Tr 1 ((0:Int)=q9)/\Tr 1 ((0:Int)=q10)/\Tr 1 ((0:Int)=q11)/\Tr 1 ((0:Int)=q12)/\Tr 1 ((0:Int)=q13)/\Tr 1 ((0:Int)=q14)/\True;
 let q16:Int:=q7.a;
 let q17:Prop:=Tr 1 ((0:Int)=q16);
 let q18:Int:=q7.e;
 let q19:StoreT:=q7.s;
 let q20:Ob:=devB q19.ws;
 let q21:Ob:=zaA q19.a; zaF x.1/\zaR x.2.1/\I64 x.2.2.1/\I64 x.2.2.2->Exx (StoreT×Int) fun x_1 =>
 let q22:Int:=(↑(readT x_1.1.ws x_1.2).kids.length:Int);
 let q23:Nat:=(readT x_1.1.ws x_1.2).kids.length+1; ((q1/\Tr 1 (x.2.2.1=x_1.2)/\True)/\true=true/\q2/\devB x.1.ws=devB x_1.1.ws/\zaA x.1.a=zaA x_1.1.a/\True)/\(zaF x_1.1/\I64 x_1.2)/\∀(y:Nat),(readT x_1.1.ws x_1.2).kids.length <= y/\y <= 9223372036854775807->BC (!decide (readE x_1.1.ws x_1.2=(0:Int))) (Exx Unit fun y=>(((q15/\q17/\Tr 1 (readE x_1.1.ws x_1.2=q18)/\True)/\True)/\q2/\devB x_1.1.ws=q20/\zaA x_1.1.a=q21/\true=true/\True)/\True) (Exx (StoreT×Int) fun x_2 =>
 let q24:Prop:=q2/\devB x_2.1.ws=q20/\zaA x_2.1.a=q21/\true=true/\True;
 let q25:Prop:=Exx Unit fun y=>(((q15/\q17/\Tr 1 ((2:Int)=q18)/\True)/\True)/\q24)/\True;
 let q26:Int:=(↑(readT x_2.1.ws x_2.2).kids.length:Int);
 let q27:Nat:=(readT x_2.1.ws x_2.2).kids.length+1; ((q1/\Tr 1 (x.2.2.2=x_2.2)/\True)/\true=true/\q2/\devB x_1.1.ws=devB x_2.1.ws/\zaA x_1.1.a=zaA x_2.1.a/\True)/\(zaF x_2.1/\I64 x_2.2)/\∀(y_1:Nat),(readT x_2.1.ws x_2.2).kids.length <= y_1/\y_1 <= 9223372036854775807->BC (!decide (readE x_2.1.ws x_2.2=(0:Int))) (Exx Unit fun y=>(((q15/\q17/\Tr 1 (readE x_2.1.ws x_2.2=q18)/\True)/\True)/\q24)/\True) (BC (decide (x.2.2.1=x.2.2.2)) q25 (BC (!decide (q22=q26)) q25 (BC (decide (q22=(12:Int))) q25 (Exx (EntT×EntT) fun x_3=>(((Tr 1 ((readT x_2.1.ws x_2.2).e.slot=x_3.1.slot)/\Tr 1 ((readT x_2.1.ws x_2.2).e.gen=x_3.1.gen)/\Tr 1 ((readT x_2.1.ws x_2.2).e.key=x_3.1.key)/\Tr 1 ((readT x_2.1.ws x_2.2).e.value=x_3.1.value)/\True)/\(Tr 1 ((readT x_1.1.ws x_1.2).e.slot=x_3.2.slot)/\Tr 1 ((readT x_1.1.ws x_1.2).e.gen=x_3.2.gen)/\Tr 1 ((readT x_1.1.ws x_1.2).e.key=x_3.2.key)/\Tr 1 ((readT x_1.1.ws x_1.2).e.value=x_3.2.value)/\True)/\True)/\true=true/\True)/\(EntI x_3.1/\EntI x_3.2)/\∀(y_2:Unit),True->BC (decide (zd7 x_3.1 x_3.2<(0:Int))) (q3/\true=true/\((readT x_2.1.ws x_2.2).kids.length <= (readT x_2.1.ws x_2.2).kids.length/\y_1=y_1)/\(q27 <= 9223372036854775807/\q27*8 <= 140737488355328)/\∀(cap:Nat),q27 <= cap/\cap <= 9223372036854775807->Exx (StoreT×TickT×Int×NodeT) fun x_4 =>
 let q28:Int:=x_4.2.2.1;
 let q29:NodeT:=x_4.2.2.2;
 let q30:EntT:=q29.e;
 let q31:List Int:=q29.kids;
 let q32:Nat:=q31.length;
 let q33:TR:=zfF x_4.1 x_4.2.1 q28 q29;
 let q34:TickT:=q33.t;
 let q35:StoreT:=q33.s; ((q1/\(Tr 1 (x.2.1.blocks=x_4.2.1.blocks)/\Tr 1 (x.2.1.slots=x_4.2.1.slots)/\Tr 1 (x.2.1.gens=x_4.2.1.gens)/\Tr 1 (x.2.1.top=x_4.2.1.top)/\Tr 1 (x.2.1.high=x_4.2.1.high)/\Tr 1 (x.2.1.free=x_4.2.1.free)/\True)/\Tr 1 (x.2.2.2=q28)/\(Tr 1 ((readT x_2.1.ws x_2.2).e.slot=q30.slot)/\Tr 1 ((readT x_2.1.ws x_2.2).e.gen=q30.gen)/\Tr 1 ((readT x_2.1.ws x_2.2).e.key=q30.key)/\Tr 1 ((readT x_2.1.ws x_2.2).e.value=q30.value)/\(0+q27 <= q27/\q27=q32/\∀(i:Nat),
 let q36:Nat:=0+i;
 let q37:Nat:=0+(q36-(readT x_2.1.ws x_2.2).kids.length); i<q32->(if q36<(readT x_2.1.ws x_2.2).kids.length then [AV.int .i64 ((readT x_2.1.ws x_2.2).kids.getD q36 0)] else [AV.int .i64 (if q37=q4 then x.2.2.1 else 0)])=[AV.int .i64 (q31.getD i 0)])/\True)/\True)/\true=true/\q2/\devB x_2.1.ws=devB x_4.1.ws/\zaA x_2.1.a=zaA x_4.1.a/\True)/\(zaF x_4.1/\zaR x_4.2.1/\I64 q28/\zfZ q29)/\∀(y:Unit),True->Exx Unit fun y=>((((Tr 1 (q34.blocks=q9)/\Tr 1 (q34.slots=q10)/\Tr 1 (q34.gens=q11)/\Tr 1 (q34.top=q12)/\Tr 1 (q34.high=q13)/\Tr 1 (q34.free=q14)/\True)/\Tr 1 (q33.a=q16)/\Tr 1 (q33.e=q18)/\True)/\True)/\q2/\devB q35.ws=q20/\zaA q35.a=q21/\true=true/\True)/\True) (q3/\true=true/\((readT x_1.1.ws x_1.2).kids.length <= (readT x_1.1.ws x_1.2).kids.length/\y=y)/\(q23 <= 9223372036854775807/\q23*8 <= 140737488355328)/\∀(cap:Nat),q23 <= cap/\cap <= 9223372036854775807->Exx (StoreT×TickT×Int×NodeT) fun x_4 =>
 let q38:Int:=x_4.2.2.1;
 let q39:NodeT:=x_4.2.2.2;
 let q40:EntT:=q39.e;
 let q41:List Int:=q39.kids;
 let q42:Nat:=q41.length;
 let q43:TR:=zfF x_4.1 x_4.2.1 q38 q39;
 let q44:TickT:=q43.t;
 let q45:StoreT:=q43.s; ((q1/\(Tr 1 (x.2.1.blocks=x_4.2.1.blocks)/\Tr 1 (x.2.1.slots=x_4.2.1.slots)/\Tr 1 (x.2.1.gens=x_4.2.1.gens)/\Tr 1 (x.2.1.top=x_4.2.1.top)/\Tr 1 (x.2.1.high=x_4.2.1.high)/\Tr 1 (x.2.1.free=x_4.2.1.free)/\True)/\Tr 1 (x.2.2.1=q38)/\(Tr 1 ((readT x_1.1.ws x_1.2).e.slot=q40.slot)/\Tr 1 ((readT x_1.1.ws x_1.2).e.gen=q40.gen)/\Tr 1 ((readT x_1.1.ws x_1.2).e.key=q40.key)/\Tr 1 ((readT x_1.1.ws x_1.2).e.value=q40.value)/\(0+q23 <= q23/\q23=q42/\∀(i:Nat),
 let q46:Nat:=0+i;
 let q47:Nat:=0+(q46-(readT x_1.1.ws x_1.2).kids.length); i<q42->(if q46<(readT x_1.1.ws x_1.2).kids.length then [AV.int .i64 ((readT x_1.1.ws x_1.2).kids.getD q46 0)] else [AV.int .i64 (if q47=q4 then x.2.2.2 else 0)])=[AV.int .i64 (q41.getD i 0)])/\True)/\True)/\true=true/\q2/\devB x_2.1.ws=devB x_4.1.ws/\zaA x_2.1.a=zaA x_4.1.a/\True)/\(zaF x_4.1/\zaR x_4.2.1/\I64 q38/\zfZ q39)/\∀(y:Unit),True->Exx Unit fun y=>((((Tr 1 (q44.blocks=q9)/\Tr 1 (q44.slots=q10)/\Tr 1 (q44.gens=q11)/\Tr 1 (q44.top=q12)/\Tr 1 (q44.high=q13)/\Tr 1 (q44.free=q14)/\True)/\Tr 1 (q43.a=q16)/\Tr 1 (q43.e=q18)/\True)/\True)/\q2/\devB q45.ws=q20/\zaA q45.a=q21/\true=true/\True)/\True)))))))=(fnVC tb [(50,zaB zmT),(66,zaB zjI),(87,zaB znY)] Tryz.f51 zn0 (fun x=>{ loose:=[(10,[7])] }) (fun _=>none)):=by kernel_rfl

theorem zwN:SpecOk Tryz.prog 51 (zaB zn0):=by
 refine zaK zaL zaN (SPok.cons zkM (SPok.cons zjH (SPok.cons zwK SPok.nil))) Tryz.func51 (by decide) (zaO fun _=>ql1 _) (Eq.mp qdH ?_)
 simp (maxSteps:=10000000) only [std,stdU,stdV,Exx,I64,Nat.reduceMul,Nat.reduceDiv,Nat.reduceAdd,Int.reduceToNat,zaP,zaH,zgY,zdB,zkA,zv0,ql0,ze0,zcN,zg8,zgZ]
 rintro s t a b ⟨h,ht,h1,h2,h3,h4⟩
 have ha:=zj2 s.ws a
 have hb:=zj2 s.ws b
 have la:=zhW s.ws a
 have lb:=zhW s.ws b
 have hs:∀(n:NodeT) (c:Int),zfZ n->I64 c->n.kids.length <= 12->zfZ ⟨n.e,n.kids++[c]⟩:=fun n c hn hc hl=>⟨hn.1,fun x hx=>(List.mem_append.1 hx).elim (hn.2.1 x) fun hx=>(List.mem_singleton.1 hx) ▸ hc,by rw [List.length_append]; simp only [List.length_cons,List.length_nil]; omega⟩
 have hg:∀(l:List Int) (c:Int),∀i,i<(l++[c]).length->(if i<l.length then [i64 (l.getD i 0)] else if i-l.length=0 then [i64 c] else [i64 0])=[i64 ((l++[c]).getD i 0)]:=fun l c i hi=>by
  rw [zaI]
  rw [List.length_append] at hi
  simp only [List.length_cons,List.length_nil] at hi
  by_cases e:i<l.length
  ·rw [if_pos e,if_pos e]
  ·have e2:i-l.length=0:=by omega
   rw [if_neg e,if_neg e,if_pos e2,e2]; rfl
 refine ⟨h,h1,h2,fun y hy=>⟨fun q1=>?_,fun q1=>⟨h,h3,h4,fun y2 hy2=>⟨fun q2=>?_,fun q2=>⟨fun q3=>?_,fun q3=>⟨fun q4=>?_,fun q4=>⟨fun q5=>?_,fun q5=>⟨hb.1,ha.1,fun q6=>?_,fun q6=>?_⟩⟩⟩⟩⟩⟩⟩⟩
 ·rw [lkRes,if_neg q1]
 ·rw [lkRes,if_pos q1,if_neg q2]
 ·rw [lkRes,if_pos q1,if_pos q2,if_pos (.inl q3)]
 ·rw [lkRes,if_pos q1,if_pos q2,if_pos (.inr (.inl q4))]
 ·rw [lkRes,if_pos q1,if_pos q2,if_pos (.inr (.inr (by omega)))]
 ·refine ⟨by omega,by omega,fun cap hc=>⟨s,⟨(readT s.ws b).e,(readT s.ws b).kids++[a]⟩,rfl,rfl,rfl,rfl,by simp,hg _ _,rfl,rfl,h,ht,h3,h4,hs _ _ hb ⟨h1,h2⟩ lb,?_⟩⟩
  rw [lkRes,if_pos q1,if_pos q2,if_neg (by rintro (k | k | k); exact q3 k; exact k q4; exact q5 (by omega)),if_pos q6]
 ·refine ⟨by omega,by omega,fun cap hc=>⟨s,⟨(readT s.ws a).e,(readT s.ws a).kids++[b]⟩,rfl,rfl,rfl,rfl,by simp,hg _ _,rfl,rfl,h,ht,h1,h2,hs _ _ ha ⟨h3,h4⟩ la,?_⟩⟩
  rw [lkRes,if_pos q1,if_pos q2,if_neg (by rintro (k | k | k); exact q3 k; exact k q4; exact q5 (by omega)),if_neg q6]


def zeJ (l:List Int) (t i:Nat):Int:=if i<t\/l.length <= i+t then l.getD (l.length-1-i) 0 else l.getD i 0
def slTau (args:List AV) (_:AH):List Nat:=match args with
 | .sl p _ _ _ _ _ _ :: _=>[p]
 | _=>[]
def znF:Ctr where
 X:=List Int×Nat
 Y:=Unit
 conv:=false
 tau:=slTau
 pre:=fun x=>x.1.length <= 1000000/\∀c∈x.1,I64 c
 args:=fun x=>[.sl 0 [] 0 1 0 x.1.length x.2]
 heap:=fun x=>[rowI 3 .i64 x.2 x.1]
 Q:=fun _ _=>True
 res:=fun _ _ => .tup []
 its:=fun x _=>[rowI 3 .i64 x.2 x.1.reverse]
 new:=fun _ _=>[]
theorem zw2:CtrOk znF :=
 ⟨fun _ _ _ _=>rfl,fun _ _ _ _=>⟨rfl,rfl⟩,fun x _ _ _ _=>⟨⟨⟨⟨fun _ _=>⟨rfl,trivial⟩,trivial⟩,trivial⟩,trivial⟩,trivial⟩⟩
def qeL (x:List Int×Nat):LA:={ T:=Nat,F:=fun t=>frm 28 [(0,.sl 0 [] 0 1 0 x.1.length x.2),(2,i64 (t:Nat)),(3,i64 ((x.1.length:Int)-1-(t:Nat)))],H:=fun t=>[.row 3 1 x.2 x.1.length (fun i=>[i64 (zeJ x.1 t i)]),.fence] }

theorem qj3:(
 let q1:Prop:=(3:TypeId)=3; ∀(x:List Int×Nat),
 let q2:Int:=(x.1.length:Int)-1;
 let q3:Prop:=true=true/\zaC/\(0:Nat)=0/\(1:Nat)=1/\(0:Nat)=0/\x.1.length=x.1.length/\x.2=x.2;
 let q4:Prop:=x.1.length <= x.1.length; (x.1.length <= 1000000/\∀(c:Int),c∈x.1->I64 c)->I64 q2/\Exx (Nat->Prop) fun I=>Exx (Nat->Nat) fun m=>(Exx Nat fun t=>I t/\(q3/\Tr 1 (Tr 1 ((0:Int)=(t:Int))/\Tr 1 (q2=q2-(t:Int))/\Tr 24 True))/\(q1/\(1:Nat)=1/\x.2=x.2/\q4/\∀(i:Nat),i<x.1.length->[AV.int .i64 (x.1.getD i 0)]=[AV.int .i64 (zeJ x.1 t i)])/\true=true/\True)/\∀(t:Nat),
 let q5:Prop:=(0:Int) <= q2-(t:Int)/\q2-(t:Int)<(x.1.length:Int);
 let q6:Prop:=(0:Int) <= (t:Int)/\(t:Int)<(x.1.length:Int);
 let q7:Nat:=0+(q2-(t:Int)).toNat;
 let q8:Prop:=q7<x.1.length;
 let q9:Nat:=0+(t:Int).toNat;
 let q10:Prop:=q9<x.1.length;
 let q11:Int:=(t:Int)+1;
 let q12:Int:=q2-(t:Int)-1;
 let q13:Prop:=q6/\q10/\x.1.length=x.1.length/\q5/\q8/\x.1.length=x.1.length/\I64 q11/\I64 q12/\Exx Nat fun t'=>(I t'/\m t'<m t)/\(q3/\Tr 1 (Tr 1 (q11=(↑t':Int))/\Tr 1 (q12=q2-(↑t':Int))/\Tr 24 True))/\(q1/\(1:Nat)=1/\x.2=x.2/\q4/\∀(i:Nat),i<x.1.length->[AV.int .i64 (if i=q7 then zeJ x.1 t q9 else if i=q9 then zeJ x.1 t q7 else zeJ x.1 t i)]=[AV.int .i64 (zeJ x.1 t' i)])/\true=true/\True; I t->BC (decide ((t:Int)<q2-(t:Int))) (q5/\q6/\(q8/\q10/\q13)/\q10/\q8/\q13) (Exx Unit fun y=>(Tr 1 True/\(q1/\(1:Nat)=1/\x.2=x.2/\x.1.reverse.length <= x.1.length/\∀(i:Nat),i<x.1.reverse.length->[AV.int .i64 (zeJ x.1 t i)]=[AV.int .i64 (x.1.reverse.getD i 0)])/\true=true/\True)/\True))=(fnVC tb [] Tryz.f102 znF (fun x=>{ loops:=[(1,qeL x)],loose:=[(3,[0])] }) (fun _=>none)):=by kernel_rfl

theorem qbJ:SpecOk Tryz.prog 102 (zaB znF):=by
 refine zaK zaL zaN SPok.nil Tryz.func102 (by decide) zw2 (Eq.mp qj3 ?_)
 simp (maxSteps:=10000000) only [std,stdU,stdV,Exx,I64,Nat.reduceMul,Nat.reduceDiv,Nat.reduceAdd,Int.reduceToNat]
 rintro l ⟨hl,hc⟩
 have step:∀t:Nat,(t:Int)<(l.length:Int)-1-(t:Nat)->∀i,i<l.length->(if i=((l.length:Int)-1-(t:Nat)).toNat then [i64 (zeJ l t t)] else if i=t then [i64 (zeJ l t ((l.length:Int)-1-(t:Nat)).toNat)] else [i64 (zeJ l t i)])=[i64 (zeJ l (t+1) i)]:=fun t ht i hi=>by
  have e:((l.length:Int)-1-(t:Nat)).toNat=l.length-1-t:=by omega
  rw [e]
  have e1:zeJ l t t=l.getD t 0:=by rw [zeJ,if_neg (by omega)]
  have e2:zeJ l t (l.length-1-t)=l.getD (l.length-1-t) 0:=by rw [zeJ,if_neg (by omega)]
  by_cases h1:i=l.length-1-t
  ·rw [if_pos h1,e1,zeJ,if_pos (by omega),h1]
   congr 3; omega
  ·rw [if_neg h1]
   by_cases h2:i=t
   ·rw [if_pos h2,e2,zeJ,if_pos (by omega),h2]
   ·rw [if_neg h2,zeJ,zeJ]
    by_cases h3:i<t\/l.length <= i+t
    ·rw [if_pos h3,if_pos (by omega)]
    ·rw [if_neg h3,if_neg (by omega)]
 have fin:∀t:Nat,¬(t:Int)<(l.length:Int)-1-(t:Nat)->t <= l.length->∀i,i<l.reverse.length->[i64 (zeJ l t i)]=[i64 (l.reverse.getD i 0)]:=fun t ht ht2 i hi=>by
  rw [List.length_reverse] at hi
  have:l.reverse.getD i 0=l.getD (l.length-1-i) 0:=by
   rw [List.getD_eq_getElem?_getD,List.getElem?_reverse hi,List.getD_eq_getElem?_getD]
  rw [this,zeJ]
  by_cases h3:i<t\/l.length <= i+t
  ·rw [if_pos h3]
  ·rw [if_neg h3]; congr 3; omega
 have fin2:∀t:Nat,(t:Int)<(l.length:Int)-1-(t:Nat)->(∃x:Nat,(fun t:Nat=>2*t <= l.length) x/\(fun t:Nat=>l.length-t) x<(fun t:Nat=>l.length-t) t/\(t:Int)+1=(x:Int)/\(l.length:Int)-1-(t:Nat)-1=(l.length:Int)-1-(x:Nat)/\∀i,i<l.length->(if i=((l.length:Int)-1-(t:Nat)).toNat then [i64 (zeJ l t t)] else if i=t then [i64 (zeJ l t ((l.length:Int)-1-(t:Nat)).toNat)] else [i64 (zeJ l t i)])=[i64 (zeJ l x i)]):=fun t ht =>
  ⟨t+1,by simp only; omega,by simp only; omega,by omega,by omega,step t ht⟩
 refine ⟨by omega,by omega,fun t=>2*t <= l.length,⟨0,by omega,rfl,by omega,fun i hi=>by rw [zeJ,if_neg (by omega)]⟩,fun t=>l.length-t,fun t ht=>⟨fun hlt=>?_,fun hge=>⟨by rw [List.length_reverse]; omega,fin t hge (by omega)⟩⟩⟩
 have g:=fin2 t hlt
 exact ⟨by omega,by omega,by omega,by omega,by omega,by omega,by omega,by omega,by omega,by omega,by omega,by omega,by omega,by omega,by omega,by omega,g,by omega,by omega,by omega,by omega,by omega,by omega,by omega,by omega,by omega,by omega,by omega,by omega,g⟩

def zmC (ws:List Nat):Nat->List EntT->List Int->List EntT×Int
 | 0,out,[]=>(out,0)
 | _+1,out,[]=>(out,0)
 | 0,_,_ :: _=>([],31)
 | n+1,out,a :: r=>if readE ws a=0 then zmC ws n (out++[(readT ws a).e]) ((readT ws a).kids++r) else ([],readE ws a)
def zcG (ws:List Nat) (a:Int):List EntT×Int:=zmC ws 1792 [] [a]
abbrev entF (l:List EntT) (i:Nat):List AV:=entV (l.getD i entZ)
abbrev entR (cap:Nat) (l:List EntT):Sx.Item := .row 29 4 cap l.length (entF l)
def zkL:Ctr where
 X:=StoreT×Int
 Y:=Nat
 conv:=true
 tau:=ziU
 pre:=fun x=>zaF x.1/\I64 x.2
 args:=fun x=>[.ptr 0 [] 0,i64 x.2]
 heap:=fun x=>zbW x.1
 Q:=fun x cap=>(zcG x.1.ws x.2).1.length <= cap/\cap <= 9223372036854775807
 res:=fun x cap => .tup [.sl 4 [] 0 4 0 (zcG x.1.ws x.2).1.length cap,i64 (zcG x.1.ws x.2).2]
 its:=fun x _=>zbW x.1
 new:=fun x cap=>[entR cap (zcG x.1.ws x.2).1]
theorem ztX:CtrOk zkL :=
 ⟨fun _ _ _ _=>(rfl:3=3),fun _ _ _ _=>⟨rfl,rfl⟩,fun x _ _ _ _=>⟨⟨zlU _,⟨⟨fun _ _=>⟨rfl,rfl,rfl,rfl,trivial⟩,trivial⟩,trivial⟩⟩,rfl,rfl,trivial⟩⟩
def qfZ (F:Fr) (_:AH):Option Ren:=match F.getD 6 .any,F.getD 7 .any with
 | .sl q _ _ _ _ _ _,.sl r _ _ _ _ _ _=>some [some 0,some 1,some 2,some 3,some q,some r]
 | _,.sl r _ _ _ _ _ _=>some [some 0,some 1,some 2,some 3,none,some r]
 | .sl q _ _ _ _ _ _,_=>some [some 0,some 1,some 2,some 3,some q,none]
 | _,_=>none
def qaP (x:StoreT×Int):LA:={ T:=(List EntT×Nat)×(List Int×Nat),F:=fun t=>frm 49 [(0,.ptr 0 [] 0),(6,.sl 4 [] 0 4 0 t.1.1.length t.1.2),(7,.sl 5 [] 0 1 0 t.2.1.length t.2.2)],H:=fun t=>zbW x.1++[.fence,entR t.1.2 t.1.1,rowI 3 .i64 t.2.2 t.2.1],ρ₁:=qfZ,ρ₂:=qfZ }

theorem qdG:(
 let q1:Prop:=true=true/\zaC/\(0:Nat)=0;
 let q2:Prop:=(107:TypeId)=107/\q1/\q1/\True;
 let q3:Prop:=(3:TypeId)=3;
 let q4:Nat:=(TI.mk (TK.int IntKind.i64) 1 8 (ZL.cons (Value.int IntKind.i64 0) ZL.nil) false).size;
 let q5:Prop:=(29:TypeId)=29;
 let q6:Nat:=(TI.mk (TK.struct [(0,27),(2,3),(3,3)]) 4 32 (ZL.cons (Value.int IntKind.i64 0) (ZL.cons (Value.int IntKind.i64 0) (ZL.cons (Value.int IntKind.i64 0) (ZL.cons (Value.int IntKind.i64 0) ZL.nil)))) true).size; ∀(x:StoreT×Int),
 let q7:Prop:=(zcG x.1.ws x.2).1.length=0; zaF x.1/\I64 x.2->Exx ((List EntT×Nat)×List Int×Nat->Prop) fun I=>Exx ((List EntT×Nat)×List Int×Nat->Nat) fun m=>(Exx ((List EntT×Nat)×List Int×Nat) fun t =>
 let q8:Prop:=t.1.1.length=0;
 let q9:Prop:=t.1.2=0;
 let q10:Prop:=1=t.2.2; I t/\(q1/\Tr 5 ((q8/\q9)/\(true=true/\zaC/\(0:Nat)=0/\(1:Nat)=1/\(0:Nat)=0/\1=t.2.1.length/\q10)/\Tr 41 True))/\q2/\devB x.1.ws=devB x.1.ws/\zaA x.1.a=zaA x.1.a/\true=true/\(q9/\q8)/\(q3/\(1:Nat)=1/\q10/\t.2.1.length <= 1/\∀(i:Nat),i<t.2.1.length->[AV.int .i64 (if i=0*1 / 1 then x.2 else 0)]=[AV.int .i64 (t.2.1.getD i 0)])/\True)/\∀(t:(List EntT×Nat)×List Int×Nat),
 let q11:Int:=(t.2.1.length:Int);
 let q12:Int:=(t.1.1.length:Int);
 let q13:Int:=q11-1;
 let q14:Prop:=(0:Int) <= q13;
 let q15:Nat:=q13.toNat;
 let q16:Nat:=0+q15;
 let q17:Nat:=t.1.1.length+1;
 let q18:Nat:=q15-0; I t->BC (decide ((0:Int)<q11)) (BC (decide (q12=(1792:Int))) (Exx Nat fun y=>((((q7/\y=0)/\Tr 1 ((31:Int)=(zcG x.1.ws x.2).2)/\True)/\True)/\q2/\devB x.1.ws=devB x.1.ws/\zaA x.1.a=zaA x.1.a/\true=true/\(y=0/\q7)/\True)/\(zcG x.1.ws x.2).1.length <= y/\y <= 9223372036854775807) (I64 q13/\(q14/\q13<q11)/\q16<t.2.1.length/\Exx (StoreT×Int) fun x_1 =>
 let q19:Nat:=q18+(readT x_1.1.ws x_1.2).kids.length; ((q1/\Tr 1 (t.2.1.getD q16 0=x_1.2)/\True)/\true=true/\q2/\devB x.1.ws=devB x_1.1.ws/\zaA x.1.a=zaA x_1.1.a/\True)/\(zaF x_1.1/\I64 x_1.2)/\∀(y:Nat),(readT x_1.1.ws x_1.2).kids.length <= y/\y <= 9223372036854775807->BC (!decide (readE x_1.1.ws x_1.2=(0:Int))) (Exx Nat fun y=>((((q7/\y=0)/\Tr 1 (readE x_1.1.ws x_1.2=(zcG x.1.ws x.2).2)/\True)/\True)/\q2/\devB x_1.1.ws=devB x.1.ws/\zaA x_1.1.a=zaA x.1.a/\true=true/\(y=0/\q7)/\True)/\(zcG x.1.ws x.2).1.length <= y/\y <= 9223372036854775807) ((0:Nat)+(1:Nat) <= (1:Nat)/\true=true/\(t.1.1.length <= t.1.1.length/\t.1.2=t.1.2)/\(q17 <= 9223372036854775807/\q17*32 <= 140737488355328)/\∀(cap:Nat),q17 <= cap/\cap <= 9223372036854775807->Exx (List Int×Nat) fun x_2=>(((true=true/\zaC/\(0:Nat)=0/\(1:Nat)=1/\(0:Nat)=0/\(readT x_1.1.ws x_1.2).kids.length=x_2.1.length/\y=x_2.2)/\True)/\true=true/\(q3/\(1:Nat)=1/\y=x_2.2/\x_2.1.length <= (readT x_1.1.ws x_1.2).kids.length/\∀(i:Nat),i<x_2.1.length->[AV.int .i64 ((readT x_1.1.ws x_1.2).kids.getD i 0)]=[AV.int .i64 (x_2.1.getD i 0)])/\True)/\(x_2.1.length <= 1000000/\∀(c:Int),c∈x_2.1->I64 c)/\∀(y:Unit),True->q14/\(0 <= q15/\q15 <= t.2.2)/\0+(readT x_1.1.ws x_1.2).kids.length <= x_2.1.reverse.length/\true=true/\(q18 <= t.2.1.length/\t.2.2-0=t.2.2)/\(q19 <= 9223372036854775807/\q19*8 <= 140737488355328)/\∀(cap_1:Nat),q19 <= cap_1/\cap_1 <= 9223372036854775807->Exx ((List EntT×Nat)×List Int×Nat) fun t'=>(I t'/\m t'<m t)/\(q1/\Tr 5 ((true=true/\zaC/\(0:Nat)=0/\(4:Nat)=4/\(0:Nat)=0/\q17=t'.fst.1.length/\cap=t'.fst.2)/\(true=true/\zaC/\(0:Nat)=0/\(1:Nat)=1/\(0:Nat)=0/\q19=t'.snd.1.length/\cap_1=t'.snd.2)/\Tr 41 True))/\q2/\devB x_1.1.ws=devB x.1.ws/\zaA x_1.1.a=zaA x.1.a/\true=true/\(q5/\(4:Nat)=4/\cap=t'.fst.2/\t'.fst.1.length <= q17/\∀(i:Nat),
 let q20:EntT:=t.1.1.getD i entZ;
 let q21:Nat:=0+(i-t.1.1.length);
 let q22:Prop:=q21=0*4 / 4;
 let q23:EntT:=t'.fst.1.getD i entZ; i<t'.fst.1.length->(if i<t.1.1.length then [AV.int .i64 q20.slot,AV.int .i64 q20.gen,AV.int .i64 q20.key,AV.int .i64 q20.value] else [AV.int .i64 (if q22 then (readT x_1.1.ws x_1.2).e.slot else 0),AV.int .i64 (if q22 then (readT x_1.1.ws x_1.2).e.gen else 0),AV.int .i64 (if q22 then (readT x_1.1.ws x_1.2).e.key else 0),AV.int .i64 (if q22 then (readT x_1.1.ws x_1.2).e.value else 0)])=[AV.int .i64 q23.slot,AV.int .i64 q23.gen,AV.int .i64 q23.key,AV.int .i64 q23.value])/\(q3/\(1:Nat)=1/\cap_1=t'.snd.2/\t'.snd.1.length <= q19/\∀(i:Nat),i<t'.snd.1.length->(if i<q18 then [AV.int .i64 (t.2.1.getD i 0)] else [AV.int .i64 (x_2.1.reverse.getD (0+(i-q18)) 0)])=[AV.int .i64 (t'.snd.1.getD i 0)])/\True))) (Exx Nat fun y=>((((true=true/\zaC/\(0:Nat)=0/\(4:Nat)=4/\(0:Nat)=0/\t.1.1.length=(zcG x.1.ws x.2).1.length/\t.1.2=y)/\Tr 1 ((0:Int)=(zcG x.1.ws x.2).2)/\True)/\True)/\q2/\devB x.1.ws=devB x.1.ws/\zaA x.1.a=zaA x.1.a/\true=true/\(q5/\(4:Nat)=4/\t.1.2=y/\(zcG x.1.ws x.2).1.length <= t.1.1.length/\∀(i:Nat),
 let q24:EntT:=t.1.1.getD i entZ;
 let q25:EntT:=(zcG x.1.ws x.2).1.getD i entZ; i<(zcG x.1.ws x.2).1.length->[AV.int .i64 q24.slot,AV.int .i64 q24.gen,AV.int .i64 q24.key,AV.int .i64 q24.value]=[AV.int .i64 q25.slot,AV.int .i64 q25.gen,AV.int .i64 q25.key,AV.int .i64 q25.value])/\True)/\(zcG x.1.ws x.2).1.length <= y/\y <= 9223372036854775807))=(zcE tb [(50,zaB zmT),(102,zaB znF)] Tryz.f64 zkL (fun x=>{ loops:=[(3,qaP x)],loose:=[(12,[5,7,8])] }) (fun _ av _=>qdA av) (fun _=>[]) (fun _ _ _ _=>[])):=by kernel_rfl

theorem zwM:SpecOk Tryz.prog 64 (zaB zkL):=by
 refine za2 zaL zaN (SPok.cons zkM (SPok.cons qbJ SPok.nil)) Tryz.func64 (by decide) ztX (Eq.mp qdG ?_)
 simp (maxSteps:=10000000) only [std,stdU,stdV,Exx,I64,Nat.reduceMul,Nat.reduceDiv,Nat.reduceAdd,Int.reduceToNat,zaP,zaH,zdB,zcN]
 rintro s a ⟨h,h1,h2⟩
 refine ⟨fun t=>t.1.1.length <= t.1.2/\t.1.2 <= 9223372036854775807/\t.2.1.length <= t.2.2/\(∀c∈t.2.1,I64 c)/\t.1.1.length <= 1792/\t.2.1.length <= 1+12*t.1.1.length/\zcG s.ws a=zmC s.ws (1792-t.1.1.length) t.1.1 t.2.1.reverse,
  ⟨[],0,[a],1,⟨Nat.le_refl _,by simp only; omega,Nat.le_refl _,fun c hc=>(List.mem_singleton.1 hc) ▸ ⟨h1,h2⟩,by simp,by simp,rfl⟩,rfl,rfl,rfl,rfl,rfl,rfl,rfl,Nat.le_refl _,fun i hi=>?_⟩,fun t=>1793-t.1.1.length,fun out b todo c hJ=>⟨fun hlt=>?_,fun hge=>?_⟩⟩
 ·have:i=0:=by simp at hi; exact hi
  subst this; rfl
 ·obtain ⟨q1,q2,q3,q4,q5,q6,q7⟩:=hJ
  simp only at q1 q2 q3 q4 q5 q6 q7
  have hpos:0<todo.length:=by omega
  have et:((todo.length:Int)-1).toNat=todo.length-1:=by omega
  rw [et]
  have hb:I64 (todo.getD (todo.length-1) 0):=getD_mem (p:=I64) q4 I64_0 _
  have hsp:todo=todo.take (todo.length-1)++[todo.getD (todo.length-1) 0]:=by
   have:=zb6 (l:=todo) (i:=todo.length-1) 0 (by omega)
   rw [show todo.length-1+1=todo.length by omega,List.take_length] at this
   exact this
  have hrev:todo.reverse=todo.getD (todo.length-1) 0 :: (todo.take (todo.length-1)).reverse:=by
   conv=>lhs; rw [hsp]
   rw [List.reverse_append]; rfl
  rw [hrev] at q7
  have bad:∀e:Int,zcG s.ws a=([],e)->((zcG s.ws a).1.length=0/\e=(zcG s.ws a).2/\(zcG s.ws a).1.length=0/\(zcG s.ws a).1.length <= 0/\(0:Nat) <= 9223372036854775807):=fun e he=>by
   rw [he]; exact ⟨rfl,rfl,rfl,Nat.le_refl _,by omega⟩
  refine ⟨fun h3=>?_,fun h3=>?_⟩
  ·refine bad 31 ?_
   rw [q7,show 1792-out.length=0 by omega]; rfl
  ·have hn:1792-out.length=(1791-out.length)+1:=by omega
   rw [hn,zmC] at q7
   have hk:=zhW s.ws (todo.getD (todo.length-1) 0)
   have hkI:=zj2 s.ws (todo.getD (todo.length-1) 0)
   refine ⟨by omega,by omega,by omega,by omega,by omega,h,hb.1,hb.2,fun y hy=>⟨fun h4=>?_,fun h4=>⟨by omega,by omega,fun cap hcap=>⟨(readT s.ws (todo.getD (todo.length-1) 0)).kids,rfl,Nat.le_refl _,fun _ _=>rfl,by omega,hkI.2.1,by omega,by omega,by omega,by rw [List.length_reverse]; omega,by omega,by omega,by omega,fun cap2 hcap2=>?_⟩⟩⟩⟩
   ·refine bad _ ?_
    rw [q7,if_neg h4]
   ·rw [if_pos h4] at q7
    have hl:(todo.take (todo.length-1)++(readT s.ws (todo.getD (todo.length-1) 0)).kids.reverse).length=todo.length-1+(readT s.ws (todo.getD (todo.length-1) 0)).kids.length:=by
     rw [List.length_append,List.length_take,List.length_reverse]; omega
    have hlo:(out++[(readT s.ws (todo.getD (todo.length-1) 0)).e]).length=out.length+1:=by simp
    refine ⟨out++[(readT s.ws (todo.getD (todo.length-1) 0)).e],cap,todo.take (todo.length-1)++(readT s.ws (todo.getD (todo.length-1) 0)).kids.reverse,cap2,⟨by simp only; omega,hcap.2,by simp only; omega,fun c hc=>?_,by simp only; omega,by simp only; omega,?_⟩,by simp only; omega,by omega,rfl,by omega,rfl,rfl,by omega,fun i hi=>?_,rfl,by omega,fun i hi=>?_⟩
    ·rcases List.mem_append.1 hc with k | k
     ·exact q4 c (List.mem_of_mem_take k)
     ·exact hkI.2.1 c (List.mem_reverse.1 k)
    ·simp only
     rw [q7,hlo,show 1791-out.length=1792-(out.length+1) by omega,List.reverse_append,List.reverse_reverse]
    ·rw [hlo] at hi
     rw [zaI]
     by_cases e:i<out.length
     ·rw [if_pos e,if_pos e]
     ·have e2:i-out.length=0:=by omega
      rw [if_neg e,if_neg e,if_pos e2,if_pos e2,if_pos e2,if_pos e2,e2]; rfl
    ·rw [zaI,List.length_take,show min (todo.length-1) todo.length=todo.length-1 by omega,za3]
     by_cases e:i<todo.length-1
     ·rw [if_pos e,if_pos e,if_pos e]
     ·rw [if_neg e,if_neg e]
 ·obtain ⟨q1,q2,q3,q4,q5,q6,q7⟩:=hJ
  simp only at q1 q2 q3 q4 q5 q6 q7
  have h0:todo=[]:=List.eq_nil_of_length_eq_zero (by omega)
  have e:zcG s.ws a=(out,0):=by
   rw [q7,h0]
   cases 1792-out.length <;> rfl
  rw [e]
  exact ⟨rfl,rfl,Nat.le_refl _,fun _ _=>rfl,q1,q2⟩

end Yard
