import Derived.Test.YtlihikockhjodaaGreatDoorForest3

namespace Yard
open Go Go.Sx Go.Proofs
set_option linter.unusedVariables false
set_option linter.unusedSimpArgs false
set_option maxRecDepth 4000
set_option maxHeartbeats 4000000

def zcI (s:StoreT) (a:Int):StoreT:={ s with a:=zgT s.a a }
def zm2:Ctr:=za2 Int (fun x=>I64 x.2) (fun x=>[i64 x.2]) (fun x=>zcI x.1 x.2) (fun x=>i64 (zcY x.1.a x.2))
theorem qeL:(
 let q1:Prop:=true=true/\zaC/\(0:Nat)=0; ∀(x:StoreT×Int),zaG x.1/\I64 x.2->Exx (AllocT×Int) fun x_1=>((q1/\Tr 1 (x.2=x_1.2)/\True)/\true=true/\zaB x.1.a=zaB x_1.1/\True)/\(zbJ x_1.1/\I64 x_1.2)/\∀(y:Unit),True->Exx Unit fun y=>((Tr 1 (zcY x_1.1 x_1.2=zcY x.1.a x.2)/\True)/\((107:TypeId)=107/\q1/\q1/\True)/\devB x.1.ws=devB (zcI x.1 x.2).ws/\zaB (zgT x_1.1 x_1.2)=zaB (zcI x.1 x.2).a/\true=true/\True)/\True)=(fnVC tb [(93,zaA zj8)] Tryz.f55 zm2 (fun _=>{}) (fun _=>none)):=by kernel_rfl

theorem zwO:SpecOk Tryz.prog 55 (zaA zm2):=by
 refine zaJ zaM zaL (SPok.cons zoP SPok.nil) Tryz.func55 (by decide) (zaQ fun _=>rfl) (Eq.mp qeL ?_)
 simp (maxSteps:=10000000) only [std,stdU,stdV,Exx,I64,Nat.reduceMul,Nat.reduceDiv,Nat.reduceAdd,Int.reduceToNat,zaP,zaK]
 exact fun s a ⟨h,h1,h2⟩=>⟨h.2,h1,h2,rfl,rfl⟩

theorem qf8 {a b c:EntT} (h:zgM a b<0) (k:¬zgM c b<0):¬zgM c a<0:=fun q=>k (zgA.2 (zeX (zgA.1 q) (zgA.1 h)))

structure FstOk (ws:List Nat) (r:Nat->Int) (i:Nat) (b:NodeT) (p:Int) (k:Nat):Prop where
 lt:k<i
 at_:p=(k:Int)
 nz:r k≠0
 rd:readE ws (r k)=0
 nd:b=readT ws (r k)
 all:∀j,j<i->r j≠0->readE ws (r j)=0/\¬zgM (readT ws (r j)).e b.e<0
theorem qf9 (a:EntT):¬zgM a a<0:=fun h=>zy7 a (zgA.1 h)
theorem zmG {ws:List Nat} {r:Nat->Int}:∀(n i:Nat) (b:NodeT) (p:Int) (f:Bool),i+n=12->(f=true->∃k,FstOk ws r i b p k)->(f=false->∀j,j<i->r j=0) ->
  ((fstF ws r n i b p f).e=0->∃k,FstOk ws r 12 (fstF ws r n i b p f).n (fstF ws r n i b p f).p k)/\((fstF ws r n i b p f).e=18->(∀j,j<12->r j=0)\/∃j,j<12/\r j≠0/\readE ws (r j)=18)
 | 0,i,b,p,f,hi,ht,hf=>by
   rw [fstF]
   have e:i=12:=by omega
   subst e
   cases f with
   | true=>rw [if_pos rfl]; exact ⟨fun _=>ht rfl,fun h=>(by simp at h)⟩
   | false=>rw [if_neg (by decide)]; exact ⟨fun h=>(by simp at h),fun _ => .inl (hf rfl)⟩
 | n+1,i,b,p,f,hi,ht,hf=>by
   rw [fstF]
   split
   ·rename_i hz
    refine zmG n (i+1) b p f (by omega) (fun h=>?_) (fun h j hj=>?_)
    ·obtain ⟨k,F⟩:=ht h
     refine ⟨k,by have:=F.lt; omega,F.at_,F.nz,F.rd,F.nd,fun j hj hne=>?_⟩
     by_cases e:j=i
     ·subst e; exact absurd hz hne
     ·exact F.all j (by omega) hne
    ·by_cases e:j=i
     ·subst e; exact hz
     ·exact hf h j (by omega)
   ·rename_i hz
    split
    ·rename_i hr
     split
     ·rename_i hc
      refine zmG n (i+1) _ _ true (by omega) (fun _=>⟨i,by omega,rfl,hz,hr,rfl,fun j hj hne=>?_⟩) (fun h=>(by cases h))
      by_cases e:j=i
      ·subst e; exact ⟨hr,qf9 _⟩
      ·cases f with
       | false=>exact absurd (hf rfl j (by omega)) hne
       | true =>
         obtain ⟨k,F⟩:=ht rfl
         have q:=F.all j (by omega) hne
         exact ⟨q.1,qf8 (hc.resolve_left (by decide)) q.2⟩
     ·rename_i hc
      refine zmG n (i+1) b p f (by omega) (fun h=>?_) (fun h=>absurd (.inl h) hc)
      obtain ⟨k,F⟩:=ht h
      refine ⟨k,by have:=F.lt; omega,F.at_,F.nz,F.rd,F.nd,fun j hj hne=>?_⟩
      by_cases e:j=i
      ·subst e; exact ⟨hr,fun q=>hc (.inr q)⟩
      ·exact F.all j (by omega) hne
    ·rename_i hr
     exact ⟨fun h=>absurd h hr,fun h => .inr ⟨i,by omega,hz,h⟩⟩
theorem qdK {ws:List Nat} {r:Nat->Int} (h:(fst ws r).e=0):∃k,FstOk ws r 12 (fst ws r).n (fst ws r).p k :=
 (zmG 12 0 nodeZ 0 false rfl (fun h=>(by cases h)) (fun _ j hj=>absurd hj (Nat.not_lt_zero _))).1 h

structure PR where
 s:StoreT
 t:TickT
 r:Nat->Int
 x:EntT
 e:Int
def prA (q:PR):AV := .tup [ze0 q.t,ze2 q.r,entA q.x,i64 q.e]
theorem prA_pl (q:PR):plV 2 (prA q):=⟨⟨rfl,rfl,rfl,rfl,rfl,rfl,trivial⟩,⟨fun _ _=>⟨rfl,trivial⟩,trivial⟩,⟨rfl,rfl,rfl,rfl,trivial⟩,rfl,trivial⟩
def popQ (s:StoreT) (t:TickT) (r:Nat->Int) (f:Fst):FR :=
 zd8 f.n.kids (zcI (relS s t (entH f.n.e)) (r f.p.toNat)) (relT s t (entH f.n.e)) (updR r f.p.toNat 0)
def popR (s:StoreT) (t:TickT) (r:Nat->Int):PR :=
 if (fst s.ws r).e=0 then
  if relE s t (entH (fst s.ws r).n.e)=0 then
   if zcY (relS s t (entH (fst s.ws r).n.e)).a (r (fst s.ws r).p.toNat)=0 then
    if (popQ s t r (fst s.ws r)).e=0 then ⟨(popQ s t r (fst s.ws r)).s,(popQ s t r (fst s.ws r)).t,(popQ s t r (fst s.ws r)).r,(fst s.ws r).n.e,0⟩
    else ⟨(popQ s t r (fst s.ws r)).s,tickZ,zc6,entZ,(popQ s t r (fst s.ws r)).e⟩
   else ⟨zcI (relS s t (entH (fst s.ws r).n.e)) (r (fst s.ws r).p.toNat),tickZ,zc6,entZ,zcY (relS s t (entH (fst s.ws r).n.e)).a (r (fst s.ws r).p.toNat)⟩
  else ⟨relS s t (entH (fst s.ws r).n.e),tickZ,zc6,entZ,relE s t (entH (fst s.ws r).n.e)⟩
 else ⟨s,tickZ,zc6,entZ,(fst s.ws r).e⟩
def zj2:Ctr:=za2 (TickT×(Nat->Int)) (fun x=>zaR x.2.1/\za1 x.2.2) (fun x=>[ze0 x.2.1,ze2 x.2.2]) (fun x=>(popR x.1 x.2.1 x.2.2).s) (fun x=>prA (popR x.1 x.2.1 x.2.2))
theorem qf0:(
 let q1:Prop:=true=true/\zaC/\(0:Nat)=0;
 let q2:Prop:=(107:TypeId)=107/\q1/\q1/\True; ∀(x:StoreT×TickT×(Nat->Int)),
 let q3:PR:=popR x.1 x.2.1 x.2.2;
 let q4:TickT:=q3.t;
 let q5:Int:=q4.blocks;
 let q6:Int:=q4.slots;
 let q7:Int:=q4.gens;
 let q8:Int:=q4.top;
 let q9:Int:=q4.high;
 let q10:Int:=q4.free;
 let q11:Prop:=Tr 1 ((0:Int)=q5)/\Tr 1 ((0:Int)=q6)/\Tr 1 ((0:Int)=q7)/\Tr 1 ((0:Int)=q8)/\Tr 1 ((0:Int)=q9)/\Tr 1 ((0:Int)=q10)/\True;
 let q12:Prop:=(1:Nat)=1/\(12:Nat)=12/\(∀(i:Nat),i<12->[AV.int .i64 0]=[AV.int .i64 (q3.r i)])/\True;
 let q13:EntT:=q3.x;
 let q14:Int:=q13.slot;
 let q15:Int:=q13.gen;
 let q16:Int:=q13.key;
 let q17:Int:=q13.value;
 let q18:Prop:=Tr 1 ((0:Int)=q14)/\Tr 1 ((0:Int)=q15)/\Tr 1 ((0:Int)=q16)/\Tr 1 ((0:Int)=q17)/\True;
 let q19:Int:=q3.e;
 let q20:StoreT:=q3.s;
 let q21:Ob:=devB q20.ws;
 let q22:Ob:=zaB q20.a;
 let q23:Prop:=Tr 1 ((0:Int)=q19)/\True; zaG x.1/\zaR x.2.1/\za1 x.2.2->Exx (StoreT×(Nat->Int)) fun x_1 =>
 let q24:Prop:=(0:Int) <= (fst x_1.1.ws x_1.2).p/\(fst x_1.1.ws x_1.2).p<(↑(12:Nat):Int);
 let q25:Prop:=(fst x_1.1.ws x_1.2).p.toNat<12;
 let q26:Prop:=(Tr 1 ((fst x_1.1.ws x_1.2).n.e.slot=q14)/\Tr 1 ((fst x_1.1.ws x_1.2).n.e.gen=q15)/\Tr 1 ((fst x_1.1.ws x_1.2).n.e.key=q16)/\Tr 1 ((fst x_1.1.ws x_1.2).n.e.value=q17)/\True)/\q23;
 let q27:Prop:=((1:Nat)=1/\(12:Nat)=12/\(∀(i:Nat),i<12->[AV.int .i64 (if i=(fst x_1.1.ws x_1.2).p.toNat then 0 else x.2.2 i)]=[AV.int .i64 (q3.r i)])/\True)/\q26; ((q1/\((1:Nat)=1/\(12:Nat)=12/\(∀(i:Nat),i<12->[AV.int .i64 (x.2.2 i)]=[AV.int .i64 (x_1.2 i)])/\True)/\True)/\true=true/\q2/\devB x.1.ws=devB x_1.1.ws/\zaB x.1.a=zaB x_1.1.a/\True)/\(zaG x_1.1/\za1 x_1.2)/\∀(y:Nat),(fst x_1.1.ws x_1.2).n.kids.length <= y/\y <= 9223372036854775807->BC (!decide ((fst x_1.1.ws x_1.2).e=(0:Int))) (Exx Unit fun y=>(((q11/\q12/\q18/\Tr 1 ((fst x_1.1.ws x_1.2).e=q19)/\True)/\True)/\q2/\devB x_1.1.ws=q21/\zaB x_1.1.a=q22/\true=true/\True)/\True) (q24/\q25/\q24/\q25/\Exx (StoreT×TickT×HandT) fun x_2 =>
 let q28:Int:=relE x_2.1 x_2.2.1 x_2.2.2;
 let q29:Bool:=decide (q28=(0:Int));
 let q30:StoreT:=relS x_2.1 x_2.2.1 x_2.2.2;
 let q31:Ob:=devB q30.ws;
 let q32:Ob:=zaB q30.a;
 let q33:TickT:=relT x_2.1 x_2.2.1 x_2.2.2;
 let q34:Int:=q33.blocks;
 let q35:Int:=q33.slots;
 let q36:Int:=q33.gens;
 let q37:Int:=q33.top;
 let q38:Int:=q33.high;
 let q39:Int:=q33.free;
 let q40:Prop:=((Tr 1 (q34=q5)/\Tr 1 (q35=q6)/\Tr 1 (q36=q7)/\Tr 1 (q37=q8)/\Tr 1 (q38=q9)/\Tr 1 (q39=q10)/\True)/\q27)/\True;
 let q41:Prop:=q2/\q31=q21/\q32=q22/\true=true/\True; ((q1/\(Tr 1 (x.2.1.blocks=x_2.2.1.blocks)/\Tr 1 (x.2.1.slots=x_2.2.1.slots)/\Tr 1 (x.2.1.gens=x_2.2.1.gens)/\Tr 1 (x.2.1.top=x_2.2.1.top)/\Tr 1 (x.2.1.high=x_2.2.1.high)/\Tr 1 (x.2.1.free=x_2.2.1.free)/\True)/\(Tr 1 ((fst x_1.1.ws x_1.2).n.e.slot=x_2.2.2.slot)/\Tr 1 ((fst x_1.1.ws x_1.2).n.e.gen=x_2.2.2.gen)/\True)/\True)/\true=true/\q2/\devB x_1.1.ws=devB x_2.1.ws/\zaB x_1.1.a=zaB x_2.1.a/\True)/\(zaG x_2.1/\zaR x_2.2.1/\zhJ x_2.2.2)/\∀(y:Unit),True->BC q29 (Exx (StoreT×Int) fun x_3 =>
 let q42:Bool:=decide (zcY x_3.1.a x_3.2=(0:Int));
 let q43:Prop:=q2/\devB (zcI x_3.1 x_3.2).ws=q21/\zaB (zcI x_3.1 x_3.2).a=q22/\true=true/\True; ((q1/\Tr 1 (x.2.2 (fst x_1.1.ws x_1.2).p.toNat=x_3.2)/\True)/\true=true/\q2/\q31=devB x_3.1.ws/\q32=zaB x_3.1.a/\True)/\(zaG x_3.1/\I64 x_3.2)/\∀(y:Unit),True->BC q42 (Exx (StoreT×TickT×(Nat->Int)×List Int) fun x_4 =>
 let q44:TickT:=x_4.2.1;
 let q45:(Nat->Int)×List Int:=x_4.2.2;
 let q46:List Int:=q45.2;
 let q47:Nat:=q46.length;
 let q48:FR:=zd8 q46 x_4.1 q44 q45.1;
 let q49:Int:=q48.e;
 let q50:StoreT:=q48.s;
 let q51:Prop:=q2/\devB q50.ws=q21/\zaB q50.a=q22/\true=true/\True;
 let q52:TickT:=q48.t; ((q1/\(Tr 1 (q34=q44.blocks)/\Tr 1 (q35=q44.slots)/\Tr 1 (q36=q44.gens)/\Tr 1 (q37=q44.top)/\Tr 1 (q38=q44.high)/\Tr 1 (q39=q44.free)/\True)/\((1:Nat)=1/\(12:Nat)=12/\(∀(i:Nat),i<12->[AV.int .i64 (if i=(fst x_1.1.ws x_1.2).p.toNat then 0 else x.2.2 i)]=[AV.int .i64 (q45.1 i)])/\True)/\(0+(fst x_1.1.ws x_1.2).n.kids.length <= (fst x_1.1.ws x_1.2).n.kids.length/\(fst x_1.1.ws x_1.2).n.kids.length=q47/\∀(i:Nat),i<q47->[AV.int .i64 ((fst x_1.1.ws x_1.2).n.kids.getD (0+i) 0)]=[AV.int .i64 (q46.getD i 0)])/\True)/\true=true/\q2/\devB (zcI x_3.1 x_3.2).ws=devB x_4.1.ws/\zaB (zcI x_3.1 x_3.2).a=zaB x_4.1.a/\True)/\(zaG x_4.1/\zaR q44/\za1 q45.1/\zh3 q46)/\∀(y:Unit),True->BC (!decide (q49=(0:Int))) (Exx Unit fun y=>(((q11/\q12/\q18/\Tr 1 (q49=q19)/\True)/\True)/\q51)/\True) (Exx Unit fun y=>((((Tr 1 (q52.blocks=q5)/\Tr 1 (q52.slots=q6)/\Tr 1 (q52.gens=q7)/\Tr 1 (q52.top=q8)/\Tr 1 (q52.high=q9)/\Tr 1 (q52.free=q10)/\True)/\((1:Nat)=1/\(12:Nat)=12/\(∀(i:Nat),i<12->[AV.int .i64 (q48.r i)]=[AV.int .i64 (q3.r i)])/\True)/\q26)/\True)/\q51)/\True)) (BC (!q42) (Exx Unit fun y=>(((q11/\q12/\q18/\Tr 1 (zcY x_3.1.a x_3.2=q19)/\True)/\True)/\q43)/\True) (Exx Unit fun y=>(q40/\q43)/\True))) (BC q29 (Exx (StoreT×TickT×(Nat->Int)×List Int) fun x_3 =>
 let q53:TickT:=x_3.2.1;
 let q54:(Nat->Int)×List Int:=x_3.2.2;
 let q55:List Int:=q54.2;
 let q56:Nat:=q55.length;
 let q57:FR:=zd8 q55 x_3.1 q53 q54.1;
 let q58:Int:=q57.e;
 let q59:StoreT:=q57.s;
 let q60:Prop:=q2/\devB q59.ws=q21/\zaB q59.a=q22/\true=true/\True;
 let q61:TickT:=q57.t; ((q1/\(Tr 1 (q34=q53.blocks)/\Tr 1 (q35=q53.slots)/\Tr 1 (q36=q53.gens)/\Tr 1 (q37=q53.top)/\Tr 1 (q38=q53.high)/\Tr 1 (q39=q53.free)/\True)/\((1:Nat)=1/\(12:Nat)=12/\(∀(i:Nat),i<12->[AV.int .i64 (if i=(fst x_1.1.ws x_1.2).p.toNat then 0 else x.2.2 i)]=[AV.int .i64 (q54.1 i)])/\True)/\(0+(fst x_1.1.ws x_1.2).n.kids.length <= (fst x_1.1.ws x_1.2).n.kids.length/\(fst x_1.1.ws x_1.2).n.kids.length=q56/\∀(i:Nat),i<q56->[AV.int .i64 ((fst x_1.1.ws x_1.2).n.kids.getD (0+i) 0)]=[AV.int .i64 (q55.getD i 0)])/\True)/\true=true/\q2/\q31=devB x_3.1.ws/\q32=zaB x_3.1.a/\True)/\(zaG x_3.1/\zaR q53/\za1 q54.1/\zh3 q55)/\∀(y:Unit),True->BC (!decide (q58=(0:Int))) (Exx Unit fun y=>(((q11/\q12/\q18/\Tr 1 (q58=q19)/\True)/\True)/\q60)/\True) (Exx Unit fun y=>((((Tr 1 (q61.blocks=q5)/\Tr 1 (q61.slots=q6)/\Tr 1 (q61.gens=q7)/\Tr 1 (q61.top=q8)/\Tr 1 (q61.high=q9)/\Tr 1 (q61.free=q10)/\True)/\((1:Nat)=1/\(12:Nat)=12/\(∀(i:Nat),i<12->[AV.int .i64 (q57.r i)]=[AV.int .i64 (q3.r i)])/\True)/\q26)/\True)/\q60)/\True)) (BC (!q29) (Exx Unit fun y=>(((q11/\q12/\q18/\Tr 1 (q28=q19)/\True)/\True)/\q41)/\True) (Exx Unit fun y=>(q40/\q41)/\True)))))=(fnVC tb [(53,zvO),(54,zaA ziB),(55,zaA zm2),(56,zaA qb6)] Tryz.f20 zj2 (fun x=>{ loose:=[(13,[6,7,8])] }) (fun _=>none)):=by kernel_rfl

theorem zoK:SpecOk Tryz.prog 20 (zaA zj2):=by
 refine zaJ zaM zaL (SPok.cons zrE (SPok.cons zr2 (SPok.cons zwO (SPok.cons qlY SPok.nil)))) Tryz.func20 (by decide) (zaQ fun _=>prA_pl _) (Eq.mp qf0 ?_)
 simp (maxSteps:=10000000) only [std,stdU,stdV,Exx,I64,Nat.reduceMul,Nat.reduceDiv,Nat.reduceAdd,Int.reduceToNat,↓and_self,and_self,and_self_left,and_self_right,zaP,zaK,zfW,zc4,zeL,zcN,zhL,ziY,zgK,zrH]
 rintro s t r ⟨h,ht,hr⟩
 refine ⟨s,r,fun _ _=>rfl,rfl,rfl,h,hr,fun y hy=>⟨fun hn=>?_,fun hz=>?_⟩⟩
 ·rw [popR,if_neg hn]
  exact ⟨rfl,rfl,rfl,rfl,rfl,rfl,fun _ _=>rfl,rfl,rfl,rfl,rfl,rfl,rfl,rfl⟩
 obtain ⟨k,F⟩:=qdK hz
 have hp:=F.at_
 have hk:=F.lt
 have hN:zdV (fst s.ws r).n:=by rw [F.nd]; exact zqE _ _
 have hH:zhJ (entH (fst s.ws r).n.e):=⟨hN.1.1,hN.1.2.1⟩
 have hS:=relS_W h t (entH (fst s.ws r).n.e)
 have hT:=relT_I h ht hH
 have e:popR s t r=popR s t r:=rfl
 conv at e=>rhs; rw [popR,if_pos hz]
 have ek:(fst s.ws r).p.toNat=k:=by omega
 have hrk:=hr _ (show (fst s.ws r).p.toNat<12 by omega)
 refine ⟨by omega,by omega,by omega,by omega,by omega,by omega,h,ht,hH,fun h1=>?_,fun h1=>⟨fun q=>absurd q h1,fun _=>?_⟩⟩
 ·rw [if_pos h1] at e
  refine ⟨hS,hrk.1,hrk.2,fun h2=>?_,fun h2=>⟨fun _=>?_,fun q=>absurd q h2⟩⟩
  ·rw [if_pos h2] at e
   refine ⟨zcI (relS s t (entH (fst s.ws r).n.e)) (r (fst s.ws r).p.toNat),updR r (fst s.ws r).p.toNat 0,ztY r _ 0,rfl,rfl,⟨hS.1,zvD hS.2 _⟩,hT,qcE hr I64_0,hN.2,fun h3=>?_,fun h3=>?_⟩
   ·rw [if_neg (show ¬(popQ s t r (fst s.ws r)).e=0 from h3)] at e
    rw [e]
    exact ⟨rfl,rfl,rfl,rfl,rfl,rfl,fun _ _=>rfl,rfl,rfl,rfl,rfl,rfl,rfl,rfl⟩
   ·rw [if_pos (show (popQ s t r (fst s.ws r)).e=0 from h3)] at e
    rw [e]
    exact ⟨rfl,rfl,rfl,rfl,rfl,rfl,fun _ _=>rfl,rfl,rfl,rfl,rfl,rfl,rfl,rfl⟩
  ·rw [if_neg h2] at e
   rw [e]
   exact ⟨rfl,rfl,rfl,rfl,rfl,rfl,fun _ _=>rfl,rfl,rfl,rfl,rfl,rfl,rfl,rfl⟩
 ·rw [if_neg h1] at e
  rw [e]
  exact ⟨fun _=>⟨rfl,rfl,rfl,rfl,rfl,rfl,fun _ _=>rfl,rfl,rfl,rfl,rfl,rfl,rfl,rfl⟩,fun q=>absurd q h1⟩


def nzK (r:Nat->Int) (k:Nat):List Int:=((List.range k).map r).filter fun v=>decide (v≠0)
end Yard
