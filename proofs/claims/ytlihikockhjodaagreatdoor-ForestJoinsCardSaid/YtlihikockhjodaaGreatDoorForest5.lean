import Derived.Test.YtlihikockhjodaaGreatDoorForest3

namespace Yard
open Go Go.Sx Go.Proofs
set_option linter.unusedVariables false
set_option linter.unusedSimpArgs false
set_option maxRecDepth 4000
set_option maxHeartbeats 4000000

def zcN (s:StoreT) (a:Int):StoreT:={ s with a:=zg1 s.a a }
def zm7:Ctr:=za5 Int (fun x=>I64 x.2) (fun x=>[i64 x.2]) (fun x=>zcN x.1 x.2) (fun x=>i64 (zc2 x.1.a x.2))
theorem qfJ:(
 let q1:Prop:=true=true/\zaC/\0=0; ∀(x:StoreT×Int),zaG x.1/\I64 x.2->Exx (AllocT×Int) fun x_1=>((q1/\Tr 1 (x.2=x_1.2)/\True)/\true=true/\zaB x.1.a=zaB x_1.1/\True)/\(zbD x_1.1/\I64 x_1.2)/\∀(y:Unit),True->Exx Unit fun y=>((Tr 1 (zc2 x_1.1 x_1.2=zc2 x.1.a x.2)/\True)/\((107:TypeId)=107/\q1/\q1/\True)/\devB x.1.ws=devB (zcN x.1 x.2).ws/\zaB (zg1 x_1.1 x_1.2)=zaB (zcN x.1 x.2).a/\true=true/\True)/\True)=(fnVC tb [(93,zaA zkE)] Tryz.f55 zm7 (fun _=>{}) (fun _=>none)):=by kernel_rfl

theorem zxA:SpecOk Tryz.prog 55 (zaA zm7):=by
 refine zaK zaM zaL (SPok.cons zoY SPok.nil) Tryz.func55 (by decide) (zaR fun _=>rfl) (Eq.mp qfJ ?_)
 simp (maxSteps:=10000000) only [std,stdU,stdV,Exx,I64,Nat.reduceMul,Nat.reduceDiv,Nat.reduceAdd,Int.reduceToNat,zaQ,zaI]
 exact fun s a ⟨h,h1,h2⟩=>⟨h.2,h1,h2,rfl,rfl⟩

theorem qg7 {a b c:EntT} (h:zgT a b<0) (k:¬zgT c b<0):¬zgT c a<0:=fun q=>k (zgJ.2 (ze3 (zgJ.1 q) (zgJ.1 h)))

structure FstOk (ws:List Nat) (r:Nat->Int) (i:Nat) (b:NodeT) (p:Int) (k:Nat):Prop where
 lt:k<i
 at_:p=(k:Int)
 nz:r k≠0
 rd:readE ws (r k)=0
 nd:b=readT ws (r k)
 all:∀j,j<i->r j≠0->readE ws (r j)=0/\¬zgT (readT ws (r j)).e b.e<0
theorem qg8 (a:EntT):¬zgT a a<0:=fun h=>zzY a (zgJ.1 h)
theorem zmM {ws:List Nat} {r:Nat->Int}:∀(n i:Nat) (b:NodeT) (p:Int) (f:Bool),i+n=12->(f=true->∃k,FstOk ws r i b p k)->(f=false->∀j,j<i->r j=0) ->
  ((fstF ws r n i b p f).e=0->∃k,FstOk ws r 12 (fstF ws r n i b p f).n (fstF ws r n i b p f).p k)/\((fstF ws r n i b p f).e=18->(∀j,j<12->r j=0)\/∃j,j<12/\r j≠0/\readE ws (r j)=18)
 | 0,i,b,p,f,hi,ht,hf=>by
   rw [fstF]
   have e:i=12:=by omega
   subst e
   cases f with
   | true=>rw [if_pos rfl]; exact ⟨fun _=>ht rfl,fun h=>(by simp at h)⟩
   | false=>rw [if_neg (by decide)]; exact ⟨fun h=>(by simp at h),fun _ => .inl (hf rfl)⟩
 | n+1,i,b,p,f,hi,ht,hf=>by
   rw [fstF]
   split
   ·rename_i hz
    refine zmM n (i+1) b p f (by omega) (fun h=>?_) (fun h j hj=>?_)
    ·obtain ⟨k,F⟩:=ht h
     refine ⟨k,by have:=F.lt; omega,F.at_,F.nz,F.rd,F.nd,fun j hj hne=>?_⟩
     by_cases e:j=i
     ·subst e; exact absurd hz hne
     ·exact F.all j (by omega) hne
    ·by_cases e:j=i
     ·subst e; exact hz
     ·exact hf h j (by omega)
   ·rename_i hz
    split
    ·rename_i hr
     split
     ·rename_i hc
      refine zmM n (i+1) _ _ true (by omega) (fun _=>⟨i,by omega,rfl,hz,hr,rfl,fun j hj hne=>?_⟩) (fun h=>(by cases h))
      by_cases e:j=i
      ·subst e; exact ⟨hr,qg8 _⟩
      ·cases f with
       | false=>exact absurd (hf rfl j (by omega)) hne
       | true =>
         obtain ⟨k,F⟩:=ht rfl
         have q:=F.all j (by omega) hne
         exact ⟨q.1,qg7 (hc.resolve_left (by decide)) q.2⟩
     ·rename_i hc
      refine zmM n (i+1) b p f (by omega) (fun h=>?_) (fun h=>absurd (.inl h) hc)
      obtain ⟨k,F⟩:=ht h
      refine ⟨k,by have:=F.lt; omega,F.at_,F.nz,F.rd,F.nd,fun j hj hne=>?_⟩
      by_cases e:j=i
      ·subst e; exact ⟨hr,fun q=>hc (.inr q)⟩
      ·exact F.all j (by omega) hne
    ·rename_i hr
     exact ⟨fun h=>absurd h hr,fun h => .inr ⟨i,by omega,hz,h⟩⟩
theorem qeI {ws:List Nat} {r:Nat->Int} (h:(fst ws r).e=0):∃k,FstOk ws r 12 (fst ws r).n (fst ws r).p k :=
 (zmM 12 0 nodeZ 0 false rfl (fun h=>(by cases h)) (fun _ j hj=>absurd hj (Nat.not_lt_zero _))).1 h

structure PR where
 s:StoreT
 t:TickT
 r:Nat->Int
 x:EntT
 e:Int
def prA (q:PR):AV := .tup [zeQ q.t,zd4 q.r,entA q.x,i64 q.e]
theorem prA_pl (q:PR):plV 2 (prA q):=⟨⟨rfl,rfl,rfl,rfl,rfl,rfl,trivial⟩,⟨fun _ _=>⟨rfl,trivial⟩,trivial⟩,⟨rfl,rfl,rfl,rfl,trivial⟩,rfl,trivial⟩
def popQ (s:StoreT) (t:TickT) (r:Nat->Int) (f:Fst):FR :=
 zbO f.n.kids (zcN (relS s t (entH f.n.e)) (r f.p.toNat)) (relT s t (entH f.n.e)) (updR r f.p.toNat 0)
def popR (s:StoreT) (t:TickT) (r:Nat->Int):PR :=
 if (fst s.ws r).e=0 then
  if relE s t (entH (fst s.ws r).n.e)=0 then
   if zc2 (relS s t (entH (fst s.ws r).n.e)).a (r (fst s.ws r).p.toNat)=0 then
    if (popQ s t r (fst s.ws r)).e=0 then ⟨(popQ s t r (fst s.ws r)).s,(popQ s t r (fst s.ws r)).t,(popQ s t r (fst s.ws r)).r,(fst s.ws r).n.e,0⟩
    else ⟨(popQ s t r (fst s.ws r)).s,tickZ,zdM,entZ,(popQ s t r (fst s.ws r)).e⟩
   else ⟨zcN (relS s t (entH (fst s.ws r).n.e)) (r (fst s.ws r).p.toNat),tickZ,zdM,entZ,zc2 (relS s t (entH (fst s.ws r).n.e)).a (r (fst s.ws r).p.toNat)⟩
  else ⟨relS s t (entH (fst s.ws r).n.e),tickZ,zdM,entZ,relE s t (entH (fst s.ws r).n.e)⟩
 else ⟨s,tickZ,zdM,entZ,(fst s.ws r).e⟩
def znZ:Ctr:=za5 (TickT×(Nat->Int)) (fun x=>zaS x.2.1/\zaT x.2.2) (fun x=>[zeQ x.2.1,zd4 x.2.2]) (fun x=>(popR x.1 x.2.1 x.2.2).s) (fun x=>prA (popR x.1 x.2.1 x.2.2))
theorem qg0:(
 let q1:Prop:=true=true/\zaC/\0=0;
 let q2:Prop:=(107:TypeId)=107/\q1/\q1/\True; ∀(x:StoreT×TickT×(Nat->Int)),
 let q3:PR:=popR x.1 x.2.1 x.2.2;
 let q4:TickT:=q3.t;
 let q5:Int:=q4.blocks;
 let q6:Int:=q4.slots;
 let q7:Int:=q4.gens;
 let q8:Int:=q4.top;
 let q9:Int:=q4.high;
 let q10:Int:=q4.free;
 let q11:Prop:=Tr 1 ((0:Int)=q5)/\Tr 1 ((0:Int)=q6)/\Tr 1 ((0:Int)=q7)/\Tr 1 ((0:Int)=q8)/\Tr 1 ((0:Int)=q9)/\Tr 1 ((0:Int)=q10)/\True;
 let q12:Prop:=1=1/\12=12/\(∀(i:Nat),i<12->[AV.int .i64 0]=[AV.int .i64 (q3.r i)])/\True;
 let q13:EntT:=q3.x;
 let q14:Int:=q13.slot;
 let q15:Int:=q13.gen;
 let q16:Int:=q13.key;
 let q17:Int:=q13.value;
 let q18:Prop:=Tr 1 ((0:Int)=q14)/\Tr 1 ((0:Int)=q15)/\Tr 1 ((0:Int)=q16)/\Tr 1 ((0:Int)=q17)/\True;
 let q19:Int:=q3.e;
 let q20:StoreT:=q3.s;
 let q21:Ob:=devB q20.ws;
 let q22:Ob:=zaB q20.a;
 let q23:Prop:=Tr 1 ((0:Int)=q19)/\True; zaG x.1/\zaS x.2.1/\zaT x.2.2->Exx (StoreT×(Nat->Int)) fun x_1 =>
 let q24:Prop:=(0:Int) <= (fst x_1.1.ws x_1.2).p/\(fst x_1.1.ws x_1.2).p<(↑(12:Nat):Int);
 let q25:Prop:=(fst x_1.1.ws x_1.2).p.toNat<12;
 let q26:Prop:=(Tr 1 ((fst x_1.1.ws x_1.2).n.e.slot=q14)/\Tr 1 ((fst x_1.1.ws x_1.2).n.e.gen=q15)/\Tr 1 ((fst x_1.1.ws x_1.2).n.e.key=q16)/\Tr 1 ((fst x_1.1.ws x_1.2).n.e.value=q17)/\True)/\q23;
 let q27:Prop:=(1=1/\12=12/\(∀(i:Nat),i<12->[AV.int .i64 (if i=(fst x_1.1.ws x_1.2).p.toNat then 0 else x.2.2 i)]=[AV.int .i64 (q3.r i)])/\True)/\q26; ((q1/\(1=1/\12=12/\(∀(i:Nat),i<12->[AV.int .i64 (x.2.2 i)]=[AV.int .i64 (x_1.2 i)])/\True)/\True)/\true=true/\q2/\devB x.1.ws=devB x_1.1.ws/\zaB x.1.a=zaB x_1.1.a/\True)/\(zaG x_1.1/\zaT x_1.2)/\∀(y:Nat),(fst x_1.1.ws x_1.2).n.kids.length <= y/\y <= 9223372036854775807->BC (!decide ((fst x_1.1.ws x_1.2).e=(0:Int))) (Exx Unit fun y=>(((q11/\q12/\q18/\Tr 1 ((fst x_1.1.ws x_1.2).e=q19)/\True)/\True)/\q2/\devB x_1.1.ws=q21/\zaB x_1.1.a=q22/\true=true/\True)/\True) (q24/\q25/\q24/\q25/\Exx (StoreT×TickT×HandT) fun x_2 =>
 let q28:Int:=relE x_2.1 x_2.2.1 x_2.2.2;
 let q29:Bool:=decide (q28=(0:Int));
 let q30:StoreT:=relS x_2.1 x_2.2.1 x_2.2.2;
 let q31:Ob:=devB q30.ws;
 let q32:Ob:=zaB q30.a;
 let q33:TickT:=relT x_2.1 x_2.2.1 x_2.2.2;
 let q34:Int:=q33.blocks;
 let q35:Int:=q33.slots;
 let q36:Int:=q33.gens;
 let q37:Int:=q33.top;
 let q38:Int:=q33.high;
 let q39:Int:=q33.free;
 let q40:Prop:=((Tr 1 (q34=q5)/\Tr 1 (q35=q6)/\Tr 1 (q36=q7)/\Tr 1 (q37=q8)/\Tr 1 (q38=q9)/\Tr 1 (q39=q10)/\True)/\q27)/\True;
 let q41:Prop:=q2/\q31=q21/\q32=q22/\true=true/\True; ((q1/\(Tr 1 (x.2.1.blocks=x_2.2.1.blocks)/\Tr 1 (x.2.1.slots=x_2.2.1.slots)/\Tr 1 (x.2.1.gens=x_2.2.1.gens)/\Tr 1 (x.2.1.top=x_2.2.1.top)/\Tr 1 (x.2.1.high=x_2.2.1.high)/\Tr 1 (x.2.1.free=x_2.2.1.free)/\True)/\(Tr 1 ((fst x_1.1.ws x_1.2).n.e.slot=x_2.2.2.slot)/\Tr 1 ((fst x_1.1.ws x_1.2).n.e.gen=x_2.2.2.gen)/\True)/\True)/\true=true/\q2/\devB x_1.1.ws=devB x_2.1.ws/\zaB x_1.1.a=zaB x_2.1.a/\True)/\(zaG x_2.1/\zaS x_2.2.1/\zhT x_2.2.2)/\∀(y:Unit),True->BC q29 (Exx (StoreT×Int) fun x_3 =>
 let q42:Bool:=decide (zc2 x_3.1.a x_3.2=(0:Int));
 let q43:Prop:=q2/\devB (zcN x_3.1 x_3.2).ws=q21/\zaB (zcN x_3.1 x_3.2).a=q22/\true=true/\True; ((q1/\Tr 1 (x.2.2 (fst x_1.1.ws x_1.2).p.toNat=x_3.2)/\True)/\true=true/\q2/\q31=devB x_3.1.ws/\q32=zaB x_3.1.a/\True)/\(zaG x_3.1/\I64 x_3.2)/\∀(y:Unit),True->BC q42 (Exx (StoreT×TickT×(Nat->Int)×List Int) fun x_4 =>
 let q44:TickT:=x_4.2.1;
 let q45:(Nat->Int)×List Int:=x_4.2.2;
 let q46:List Int:=q45.2;
 let q47:Nat:=q46.length;
 let q48:FR:=zbO q46 x_4.1 q44 q45.1;
 let q49:Int:=q48.e;
 let q50:StoreT:=q48.s;
 let q51:Prop:=q2/\devB q50.ws=q21/\zaB q50.a=q22/\true=true/\True;
 let q52:TickT:=q48.t; ((q1/\(Tr 1 (q34=q44.blocks)/\Tr 1 (q35=q44.slots)/\Tr 1 (q36=q44.gens)/\Tr 1 (q37=q44.top)/\Tr 1 (q38=q44.high)/\Tr 1 (q39=q44.free)/\True)/\(1=1/\12=12/\(∀(i:Nat),i<12->[AV.int .i64 (if i=(fst x_1.1.ws x_1.2).p.toNat then 0 else x.2.2 i)]=[AV.int .i64 (q45.1 i)])/\True)/\(0+(fst x_1.1.ws x_1.2).n.kids.length <= (fst x_1.1.ws x_1.2).n.kids.length/\(fst x_1.1.ws x_1.2).n.kids.length=q47/\∀(i:Nat),i<q47->[AV.int .i64 ((fst x_1.1.ws x_1.2).n.kids.getD (0+i) 0)]=[AV.int .i64 (q46.getD i 0)])/\True)/\true=true/\q2/\devB (zcN x_3.1 x_3.2).ws=devB x_4.1.ws/\zaB (zcN x_3.1 x_3.2).a=zaB x_4.1.a/\True)/\(zaG x_4.1/\zaS q44/\zaT q45.1/\zg5 q46)/\∀(y:Unit),True->BC (!decide (q49=(0:Int))) (Exx Unit fun y=>(((q11/\q12/\q18/\Tr 1 (q49=q19)/\True)/\True)/\q51)/\True) (Exx Unit fun y=>((((Tr 1 (q52.blocks=q5)/\Tr 1 (q52.slots=q6)/\Tr 1 (q52.gens=q7)/\Tr 1 (q52.top=q8)/\Tr 1 (q52.high=q9)/\Tr 1 (q52.free=q10)/\True)/\(1=1/\12=12/\(∀(i:Nat),i<12->[AV.int .i64 (q48.r i)]=[AV.int .i64 (q3.r i)])/\True)/\q26)/\True)/\q51)/\True)) (BC (!q42) (Exx Unit fun y=>(((q11/\q12/\q18/\Tr 1 (zc2 x_3.1.a x_3.2=q19)/\True)/\True)/\q43)/\True) (Exx Unit fun y=>(q40/\q43)/\True))) (BC q29 (Exx (StoreT×TickT×(Nat->Int)×List Int) fun x_3 =>
 let q53:TickT:=x_3.2.1;
 let q54:(Nat->Int)×List Int:=x_3.2.2;
 let q55:List Int:=q54.2;
 let q56:Nat:=q55.length;
 let q57:FR:=zbO q55 x_3.1 q53 q54.1;
 let q58:Int:=q57.e;
 let q59:StoreT:=q57.s;
 let q60:Prop:=q2/\devB q59.ws=q21/\zaB q59.a=q22/\true=true/\True;
 let q61:TickT:=q57.t; ((q1/\(Tr 1 (q34=q53.blocks)/\Tr 1 (q35=q53.slots)/\Tr 1 (q36=q53.gens)/\Tr 1 (q37=q53.top)/\Tr 1 (q38=q53.high)/\Tr 1 (q39=q53.free)/\True)/\(1=1/\12=12/\(∀(i:Nat),i<12->[AV.int .i64 (if i=(fst x_1.1.ws x_1.2).p.toNat then 0 else x.2.2 i)]=[AV.int .i64 (q54.1 i)])/\True)/\(0+(fst x_1.1.ws x_1.2).n.kids.length <= (fst x_1.1.ws x_1.2).n.kids.length/\(fst x_1.1.ws x_1.2).n.kids.length=q56/\∀(i:Nat),i<q56->[AV.int .i64 ((fst x_1.1.ws x_1.2).n.kids.getD (0+i) 0)]=[AV.int .i64 (q55.getD i 0)])/\True)/\true=true/\q2/\q31=devB x_3.1.ws/\q32=zaB x_3.1.a/\True)/\(zaG x_3.1/\zaS q53/\zaT q54.1/\zg5 q55)/\∀(y:Unit),True->BC (!decide (q58=(0:Int))) (Exx Unit fun y=>(((q11/\q12/\q18/\Tr 1 (q58=q19)/\True)/\True)/\q60)/\True) (Exx Unit fun y=>((((Tr 1 (q61.blocks=q5)/\Tr 1 (q61.slots=q6)/\Tr 1 (q61.gens=q7)/\Tr 1 (q61.top=q8)/\Tr 1 (q61.high=q9)/\Tr 1 (q61.free=q10)/\True)/\(1=1/\12=12/\(∀(i:Nat),i<12->[AV.int .i64 (q57.r i)]=[AV.int .i64 (q3.r i)])/\True)/\q26)/\True)/\q60)/\True)) (BC (!q29) (Exx Unit fun y=>(((q11/\q12/\q18/\Tr 1 (q28=q19)/\True)/\True)/\q41)/\True) (Exx Unit fun y=>(q40/\q41)/\True)))))=(fnVC tb [(53,ql6),(54,zaA ziJ),(55,zaA zm7),(56,zaA zsF)] Tryz.f20 znZ (fun x=>{ loose:=[(13,[6,7,8])] }) (fun _=>none)):=by kernel_rfl

theorem zy5:SpecOk Tryz.prog 20 (zaA znZ):=by
 refine zaK zaM zaL (SPok.cons ql5 (SPok.cons zsK (SPok.cons zxA (SPok.cons zsE SPok.nil)))) Tryz.func20 (by decide) (zaR fun _=>prA_pl _) (Eq.mp qg0 ?_)
 simp (maxSteps:=10000000) only [std,stdU,stdV,Exx,I64,Nat.reduceMul,Nat.reduceDiv,Nat.reduceAdd,Int.reduceToNat,↓and_self,and_self,and_self_left,and_self_right,zaQ,zaI,zfH,zc8,zd9,zcS,zfL,zi6,zgR,zrS]
 rintro s t r ⟨h,ht,hr⟩
 refine ⟨s,r,fun _ _=>rfl,rfl,rfl,h,hr,fun y hy=>⟨fun hn=>?_,fun hz=>?_⟩⟩
 ·rw [popR,if_neg hn]
  exact ⟨rfl,rfl,rfl,rfl,rfl,rfl,fun _ _=>rfl,rfl,rfl,rfl,rfl,rfl,rfl,rfl⟩
 obtain ⟨k,F⟩:=qeI hz
 have hp:=F.at_
 have hk:=F.lt
 have hN:zd1 (fst s.ws r).n:=by rw [F.nd]; exact zqP _ _
 have hH:zhT (entH (fst s.ws r).n.e):=⟨hN.1.1,hN.1.2.1⟩
 have hS:=relS_W h t (entH (fst s.ws r).n.e)
 have hT:=relT_I h ht hH
 have e:popR s t r=popR s t r:=rfl
 conv at e=>rhs; rw [popR,if_pos hz]
 have ek:(fst s.ws r).p.toNat=k:=by omega
 have hrk:=hr _ (show (fst s.ws r).p.toNat<12 by omega)
 refine ⟨by omega,by omega,by omega,by omega,by omega,by omega,h,ht,hH,fun h1=>?_,fun h1=>⟨fun q=>absurd q h1,fun _=>?_⟩⟩
 ·rw [if_pos h1] at e
  refine ⟨hS,hrk.1,hrk.2,fun h2=>?_,fun h2=>⟨fun _=>?_,fun q=>absurd q h2⟩⟩
  ·rw [if_pos h2] at e
   refine ⟨zcN (relS s t (entH (fst s.ws r).n.e)) (r (fst s.ws r).p.toNat),updR r (fst s.ws r).p.toNat 0,zuJ r _ 0,rfl,rfl,⟨hS.1,zv1 hS.2 _⟩,hT,qdA hr I64_0,hN.2,fun h3=>?_,fun h3=>?_⟩
   ·rw [if_neg (show ¬(popQ s t r (fst s.ws r)).e=0 from h3)] at e
    rw [e]
    exact ⟨rfl,rfl,rfl,rfl,rfl,rfl,fun _ _=>rfl,rfl,rfl,rfl,rfl,rfl,rfl,rfl⟩
   ·rw [if_pos (show (popQ s t r (fst s.ws r)).e=0 from h3)] at e
    rw [e]
    exact ⟨rfl,rfl,rfl,rfl,rfl,rfl,fun _ _=>rfl,rfl,rfl,rfl,rfl,rfl,rfl,rfl⟩
  ·rw [if_neg h2] at e
   rw [e]
   exact ⟨rfl,rfl,rfl,rfl,rfl,rfl,fun _ _=>rfl,rfl,rfl,rfl,rfl,rfl,rfl,rfl⟩
 ·rw [if_neg h1] at e
  rw [e]
  exact ⟨fun _=>⟨rfl,rfl,rfl,rfl,rfl,rfl,fun _ _=>rfl,rfl,rfl,rfl,rfl,rfl,rfl,rfl⟩,fun q=>absurd q h1⟩


def zrD:Ctr:=zbN Int I64 (fun v=>[i64 v]) (fun v => .bool (decide (v=0)))
theorem isZeroV:(∀(x:Int),
 let q1:Bool:=decide (x=(0:Int)); -9223372036854775808 <= x/\x <= (9223372036854775807:Int)->Exx Unit fun y=>((q1=q1/\True)/\true=true/\True)/\True)=(fnVC tb [] Tryz.f101 zrD (fun _=>{}) (fun _=>none)):=by kernel_rfl

theorem zrC:SpecOk Tryz.prog 101 (zaA zrD):=by
 refine zaK zaM zaL SPok.nil Tryz.func101 (by decide) (zaO fun _=>rfl) (Eq.mp isZeroV ?_)
 simp (maxSteps:=10000000) only [std,stdU,stdV,Exx,I64,Nat.reduceMul,Nat.reduceDiv,Nat.reduceAdd,Int.reduceToNat]

def nzK (r:Nat->Int) (k:Nat):List Int:=((List.range k).map r).filter fun v=>decide (v≠0)
def nzL (r:Nat->Int):List Int:=nzK r 12
theorem ze6 (r:Nat->Int) (k:Nat):nzK r (k+1)=nzK r k++if r k=0 then [] else [r k]:=by
 unfold nzK
 rw [List.range_succ,List.map_append,List.filter_append]
 by_cases e:r k=0 <;> simp [e]
theorem zvL (r:Nat->Int):∀k,(nzK r k).length <= k
 | 0=>Nat.le_refl _
 | k+1=>by
   have:=zvL r k
   rw [ze6,List.length_append]
   split
   ·simp; omega
   ·simp; omega
theorem qkH (r:Nat->Int):∀(d k x:Nat),x<(nzK r k).length->(nzK r (k+d)).getD x 0=(nzK r k).getD x 0
 | 0,k,x,_=>rfl
 | d+1,k,x,h=>by
   have hm:(nzK r k).length <= (nzK r (k+d)).length:=by
    clear h
    induction d with
    | zero=>exact Nat.le_refl _
    | succ d ih=>rw [show k+(d+1)=(k+d)+1 by omega,ze6,List.length_append]; omega
   rw [show k+(d+1)=(k+d)+1 by omega,ze6,zaH,if_pos (by omega)]
   exact qkH r d k x h
theorem zvK (r:Nat->Int):∀k,(∀i,i<k->r i≠0)->(nzK r k).length=k/\∀i,i<k->(nzK r k).getD i 0=r i
 | 0,_=>⟨rfl,fun i hi=>absurd hi (Nat.not_lt_zero _)⟩
 | k+1,h=>by
   obtain ⟨h1,h2⟩:=zvK r k fun i hi=>h i (by omega)
   rw [ze6,if_neg (h k (by omega))]
   refine ⟨by simp [h1],fun i hi=>?_⟩
   rw [zaH,h1]
   by_cases e:i<k
   ·rw [if_pos e,h2 i e]
   ·have:i=k:=by omega
    subst this
    rw [if_neg e,Nat.sub_self]; rfl
theorem qd2 (r:Nat->Int):∀k,(∃i,i<k/\r i=0)->(nzK r k).length<k
 | 0,⟨i,hi,_⟩=>absurd hi (Nat.not_lt_zero _)
 | k+1,⟨i,hi,hz⟩=>by
   have hl:=zvL r k
   rw [ze6,List.length_append]
   by_cases e:i=k
   ·subst e
    rw [if_pos hz]; simp; omega
   ·have:=qd2 r k ⟨i,by omega,hz⟩
    split <;> simp <;> omega
def gR (r:Nat->Int) (x:Nat):Int:=(nzL r).getD x 0
def delF (r:Nat->Int) (i:Nat) (x:Nat):Int:=if x<i then (nzL r).getD x 0 else r x

def zAt (r:Nat->Int):Nat->Nat->Nat
 | 0,i=>i
 | n+1,i=>if r i=0 then i else zAt r n (i+1)
def zIdx (r:Nat->Int):Int:=if zAt r 12 0=12 then -1 else (zAt r 12 0:Nat)
def rtTau (args:List AV) (_:AH):List Nat:=match args with
 | .sl p _ _ _ _ _ _ :: _=>[p]
 | _=>[]
def zj6:Ctr where
 X:=Nat->Int
 Y:=Unit
 conv:=true
 tau:=rtTau
 pre:=zaT
 args:=fun _=>[.sl 0 [] 0 1 0 12 12,.fn 101]
 heap:=fun r=>[zdN r]
 Q:=fun _ _=>True
 res:=fun r _=>i64 (zIdx r)
 its:=fun r _=>[zdN r]
 new:=fun _ _=>[]
theorem zvX:CtrOk zj6 :=
 ⟨fun _ _ _ _=>rfl,fun _ _ _ _=>⟨rfl,rfl⟩,fun x _ _ _ _=>⟨⟨⟨⟨fun _ _=>⟨rfl,trivial⟩,trivial⟩,trivial⟩,trivial⟩,rfl⟩⟩
def qbY (r:Nat->Int):LA:={ T:=Nat,F:=fun i=>frm 19 [(0,.sl 0 [] 0 1 0 12 12),(1,.fn 101),(7,i64 12),(8,i64 (i:Nat))],H:=fun _=>[zdN r,.fence] }
theorem zo0 (r:Nat->Int):∀n i,i+n=12->(∀j,j<i->r j≠0)->zAt r n i <= 12/\(∀j,j<zAt r n i->r j≠0)/\(zAt r n i<12->r (zAt r n i)=0)
 | 0,i,h,hj=>⟨by unfold zAt; omega,by unfold zAt; exact hj,fun k=>by unfold zAt at k; omega⟩
 | n+1,i,h,hj=>by
   unfold zAt
   split
   ·rename_i hz; exact ⟨by omega,hj,fun _=>hz⟩
   ·rename_i hz
    exact zo0 r n (i+1) (by omega) fun j hj2=>by
     by_cases e:j=i
     ·subst e; exact hz
     ·exact hj j (by omega)
theorem zIdx_of (r:Nat->Int) {k:Nat} (hk:k<12) (hj:∀j,j<k->r j≠0) (hz:r k=0):zIdx r=(k:Int):=by
 obtain ⟨h1,h2,h3⟩:=zo0 r 12 0 rfl (fun j hj=>absurd hj (Nat.not_lt_zero _))
 have e:zAt r 12 0=k:=by
  rcases Nat.lt_trichotomy (zAt r 12 0) k with h | h | h
  ·exact absurd (h3 (by omega)) (hj _ h)
  ·exact h
  ·exact absurd hz (h2 k h)
 unfold zIdx
 rw [e,if_neg (by omega)]
theorem qhP (r:Nat->Int) (hj:∀j,j<12->r j≠0):zIdx r = -1:=by
 obtain ⟨h1,h2,h3⟩:=zo0 r 12 0 rfl (fun j hj=>absurd hj (Nat.not_lt_zero _))
 have e:zAt r 12 0=12:=by
  rcases Nat.lt_or_ge (zAt r 12 0) 12 with h | h
  ·exact absurd (h3 h) (hj _ h)
  ·omega
 unfold zIdx
 rw [e,if_pos rfl]
theorem zIdx_cases (r:Nat->Int):(zIdx r = -1/\∀j,j<12->r j≠0)\/∃k:Nat,zIdx r=(k:Int)/\k<12/\(∀j,j<k->r j≠0)/\r k=0:=by
 obtain ⟨h1,h2,h3⟩:=zo0 r 12 0 rfl (fun j hj=>absurd hj (Nat.not_lt_zero _))
 by_cases e:zAt r 12 0=12
 ·exact .inl ⟨by unfold zIdx; rw [if_pos e],fun j hj=>h2 j (by omega)⟩
 ·exact .inr ⟨zAt r 12 0,by unfold zIdx; rw [if_neg e],by omega,h2,h3 (by omega)⟩
theorem qgS:(
 let q1:Prop:=true=true/\zaC/\0=0/\1=1/\0=0/\12=12/\12=12;
 let q2:Prop:=(47:TypeId)=47; ∀(x:Nat->Int),
 let q3:Prop:=(q2/\1=1/\12=12/\(∀(i:Nat),i<12->[AV.int .i64 (x i)]=[AV.int .i64 (x i)])/\True)/\true=true/\True; zaT x->Exx (Nat->Prop) fun I=>Exx (Nat->Nat) fun m=>(Exx Nat fun t=>I t/\(q1/\101=101/\Tr 5 (Tr 1 ((↑(12:Nat):Int)=(12:Int))/\Tr 1 (0=(t:Int))/\Tr 10 True))/\q3)/\∀(t:Nat),
 let q4:Nat:=0+(t:Int).toNat;
 let q5:Int:=(t:Int)+1; I t->BC (decide ((t:Int)<(12:Int))) (((0:Int) <= (t:Int)/\(t:Int)<(↑(12:Nat):Int))/\q4<12/\Exx Int fun x_1=>((Tr 1 (x q4=x_1)/\True)/\true=true/\True)/\(-9223372036854775808 <= x_1/\x_1 <= (9223372036854775807:Int))/\∀(y:Unit),True->BC (decide (x_1=(0:Int))) (Exx Unit fun y=>((Tr 1 ((t:Int)=zIdx x)/\True)/\q3)/\True) (I64 q5/\Exx Nat fun t'=>(I t'/\m t'<m t)/\(q1/\101=101/\Tr 5 (Tr 1 ((12:Int)=12)/\Tr 1 (q5=(↑t':Int))/\Tr 10 True))/\q3)) (Exx Unit fun y=>((Tr 1 (-1=zIdx x)/\True)/\q3)/\True))=(fnVC tb [(101,zaA zrD)] Tryz.f141 zj6 (fun r=>{ loops:=[(2,qbY r)] }) (fun _=>none)):=by kernel_rfl

theorem zyV:SpecOk Tryz.prog 141 (zaA zj6):=by
 refine zaK zaM zaL (SPok.cons zrC SPok.nil) Tryz.func141 (by decide) zvX (Eq.mp qgS ?_)
 simp (maxSteps:=10000000) only [std,stdU,stdV,Exx,I64,Nat.reduceMul,Nat.reduceDiv,Nat.reduceAdd,Int.reduceToNat]
 intro r hr
 refine ⟨fun i=>i <= 12/\∀j,j<i->r j≠0,⟨0,⟨Nat.zero_le _,fun j hj=>absurd hj (Nat.not_lt_zero _)⟩,rfl,rfl⟩,fun i=>12-i,fun i ⟨hi,hj⟩=>⟨fun hlt=>?_,fun hge=>(qhP r fun j hj2=>hj j (by omega)).symm⟩⟩
 have h12:i<12:=by omega
 have hri:=hr i h12
 refine ⟨by omega,by omega,h12,hri.1,hri.2,fun hz=>(zIdx_of r h12 hj hz).symm,fun hz=>⟨by omega,by omega,i+1,⟨by omega,fun j hj2=>?_⟩,by simp only; omega,by omega⟩⟩
 by_cases e:j=i
 ·subst e; exact hz
 ·exact hj j (by omega)

def zh9:Ctr where
 X:=Nat->Int
 Y:=Unit
 conv:=false
 tau:=rtTau
 pre:=zaT
 args:=fun _=>[.sl 0 [] 0 1 0 12 12,.fn 101]
 heap:=fun r=>[zdN r]
 Q:=fun _ _=>True
 res:=fun r _ => .sl 0 [] 0 1 0 (nzL r).length 12
 its:=fun r _=>[zdN (gR r)]
 new:=fun _ _=>[]
theorem zsR:CtrOk zh9 :=
 ⟨fun _ _ _ _=>rfl,fun _ _ _ _=>⟨rfl,rfl⟩,fun x _ h _ _=>(by cases h)⟩
def zzL (r:Nat->Int):LA:={ T:=Nat×Nat,F:=fun t=>frm 42 [(0,.sl 0 [] 0 1 0 12 12),(1,.fn 101),(5,i64 (t.1:Nat)),(6,i64 (t.2:Nat))],H:=fun t=>[zdN (delF r t.1),.fence] }
theorem qcL:(
 let q1:Prop:=true=true/\zaC/\0=0/\1=1/\0=0/\12=12/\12=12;
 let q2:Prop:=(47:TypeId)=47; ∀(x:Nat->Int),zaT x->Exx (Nat->Int) fun x_1=>((q1/\101=101/\True)/\true=true/\(q2/\1=1/\12=12/\(∀(i:Nat),i<12->[AV.int .i64 (x i)]=[AV.int .i64 (x_1 i)])/\True)/\True)/\zaT x_1/\∀(y:Unit),True->BC (decide (zIdx x_1 = -1)) (Exx Unit fun y=>(((true=true/\zaC/\0=0/\1=1/\0=0/\12=(nzL x).length/\12=12)/\True)/\(q2/\1=1/\12=12/\(∀(i:Nat),i<12->[AV.int .i64 (x_1 i)]=[AV.int .i64 (gR x i)])/\True)/\true=true/\True)/\True) (I64 (zIdx x_1+1)/\Exx (Nat×Nat->Prop) fun I=>Exx (Nat×Nat->Nat) fun m=>(Exx (Nat×Nat) fun t=>I t/\(q1/\101=101/\Tr 3 (Tr 1 (zIdx x_1=(t.1:Int))/\Tr 1 (zIdx x_1+1=(t.2:Int))/\Tr 35 True))/\(q2/\1=1/\12=12/\(∀(i:Nat),i<12->[AV.int .i64 (x_1 i)]=[AV.int .i64 (delF x t.1 i)])/\True)/\true=true/\True)/\∀(t:Nat×Nat),
 let q3:Prop:=(t.2:Int)<(↑(12:Nat):Int);
 let q4:Nat:=0+(t.2:Int).toNat;
 let q5:Int:=delF x t.1 q4;
 let q6:Prop:=(0:Int) <= (t.1:Int);
 let q7:Nat:=0+(t.1:Int).toNat;
 let q8:Int:=(t.1:Int)+1;
 let q9:Int:=(t.2:Int)+1;
 let q10:Prop:=I64 q9;
 let q11:Prop:=(t.1:Int).toNat <= 12;
 let q12:Nat:=12-(t.1:Int).toNat;
 let q13:Nat:=q7+q12; I t->BC (decide q3) (((0:Int) <= (t.2:Int)/\q3)/\q4<12/\Exx Int fun x_2=>((Tr 1 (q5=x_2)/\True)/\true=true/\True)/\(-9223372036854775808 <= x_2/\x_2 <= (9223372036854775807:Int))/\∀(y:Unit),True->BC (!decide (x_2=(0:Int))) ((q6/\(t.1:Int)<(↑(12:Nat):Int))/\q7<12/\I64 q8/\q10/\Exx (Nat×Nat) fun t'=>(I t'/\m t'<m t)/\(q1/\101=101/\Tr 3 (Tr 1 (q8=(↑t'.fst:Int))/\Tr 1 (q9=(↑t'.snd:Int))/\Tr 35 True))/\(q2/\1=1/\12=12/\(∀(i:Nat),i<12->[AV.int .i64 (if i=q7 then q5 else delF x t.1 i)]=[AV.int .i64 (delF x t'.fst i)])/\True)/\true=true/\True) (q10/\Exx (Nat×Nat) fun t'=>(I t'/\m t'<m t)/\(q1/\101=101/\Tr 3 (Tr 1 ((t.1:Int)=(↑t'.fst:Int))/\Tr 1 (q9=(↑t'.snd:Int))/\Tr 35 True))/\(q2/\1=1/\12=12/\(∀(i:Nat),i<12->[AV.int .i64 (delF x t.1 i)]=[AV.int .i64 (delF x t'.fst i)])/\True)/\true=true/\True)) (q6/\(q11/\12 <= 12)/\0<q12/\q13 <= 12/\q6/\(0 <= (t.1:Int).toNat/\q11)/\Exx Unit fun y=>(((true=true/\zaC/\0=0/\1=1/\0+0=0/\(t.1:Int).toNat-0=(nzL x).length/\12-0=12)/\True)/\(q2/\1=1/\12=12/\(∀(i:Nat),i<12->(if q7 <= i/\i<q13 then [AV.int .i64 0] else [AV.int .i64 (delF x t.1 i)])=[AV.int .i64 (gR x i)])/\True)/\true=true/\True)/\True)))=(fnVC tb [(141,zaA zj6),(101,zaA zrD)] Tryz.f100 zh9 (fun r=>{ loops:=[(5,zzL r)] }) (fun _=>none)):=by kernel_rfl

theorem zwF:SpecOk Tryz.prog 100 (zaA zh9):=by
 refine zaK zaM zaL (SPok.cons zyV (SPok.cons zrC SPok.nil)) Tryz.func100 (by decide) zsR (Eq.mp qcL ?_)
 simp (maxSteps:=10000000) only [std,stdU,stdV,Exx,I64,Nat.reduceMul,Nat.reduceDiv,Nat.reduceAdd,Int.reduceToNat]
 intro r hr
 rcases zIdx_cases r with ⟨hz,hall⟩ | ⟨k,hz,hk,hj,hzk⟩
 ·obtain ⟨n1,n2⟩:=zvK r 12 hall
  exact ⟨r,fun _ _=>rfl,hr,fun _=>⟨n1.symm,fun i hi=>by rw [gR,nzL,n2 i hi]⟩,fun h=>absurd hz h⟩
 ·obtain ⟨n1,n2⟩:=zvK r k hj
  have pre:∀b x,b <= 12->x<(nzK r b).length->(nzL r).getD x 0=(nzK r b).getD x 0:=fun b x hb hx=>by
   have:=qkH r (12-b) b x hx
   rw [show b+(12-b)=12 by omega] at this
   exact this
  have en:(nzK r (k+1)).length=k:=by rw [ze6,if_pos hzk,List.append_nil,n1]
  refine ⟨r,fun _ _=>rfl,hr,fun h=>by omega,fun _=>⟨by omega,by omega,fun z=>z.1=(nzK r z.2).length/\k<z.2/\z.2 <= 12,⟨k,k+1,⟨en.symm,by simp only; omega,by simp only; omega⟩,hz,by omega,fun i hi=>?_⟩,fun z=>12-z.2,fun a b hJ=>?_⟩⟩
  ·unfold delF
   by_cases e:i<k
   ·rw [if_pos e,pre k i (by omega) (by omega),n2 i e]
   ·rw [if_neg e]
  obtain ⟨j1,j2,j3⟩:=hJ
  simp only at j1 j2 j3
  have hlt:=qd2 r b ⟨k,j2,hzk⟩
  have hd:delF r a b=r b:=if_neg (by omega)
  refine ⟨fun hb=>?_,fun hb=>?_⟩
  ·have hb12:b<12:=by omega
   have hrb:=hr b hb12
   rw [hd]
   refine ⟨by omega,by omega,hb12,hrb.1,hrb.2,fun hne=>?_,fun he=>?_⟩
   ·have e1:(nzK r (b+1)).length=a+1:=by rw [ze6,if_neg hne,List.length_append,<- j1]; rfl
    refine ⟨by omega,by omega,by omega,by omega,by omega,by omega,by omega,a+1,b+1,⟨e1.symm,by simp only; omega,by simp only; omega⟩,by simp only; omega,by omega,by omega,fun i hi=>?_⟩
    unfold delF
    by_cases e:i=a
    ·subst e
     rw [if_pos rfl,if_pos (by omega),pre (b+1) i (by omega) (by omega),ze6,if_neg hne,zaH,if_neg (by omega),<- j1,Nat.sub_self]; rfl
    ·rw [if_neg e]
     by_cases e2:i<a
     ·rw [if_pos e2,if_pos (by omega)]
     ·rw [if_neg e2,if_neg (by omega)]
   ·exact ⟨by omega,by omega,a,b+1,⟨by simp only; rw [ze6,if_pos he,List.append_nil]; exact j1,by simp only; omega,by simp only; omega⟩,by simp only; omega,rfl,by omega,fun _ _=>rfl⟩
  ·have e:b=12:=by omega
   subst e
   have ea:a=(nzL r).length:=j1
   refine ⟨by omega,by omega,by omega,by omega,by omega,by omega,by omega,ea,fun i hi=>?_⟩
   unfold delF gR
   by_cases e:i<a
   ·rw [if_neg (by omega),if_pos e]
   ·rw [if_pos ⟨by omega,by omega⟩,List.getD_eq_getElem?_getD,List.getElem?_eq_none (by omega)]; rfl

def zwY:Ctr where
 X:=Nat->Int
 Y:=Unit
 conv:=true
 tau:=fun _ _=>[]
 pre:=zaT
 args:=fun r=>[zd4 r]
 heap:=fun _=>[]
 Q:=fun _ _=>True
 res:=fun r _ => .sl 1 [] 0 1 0 (nzL r).length 12
 its:=fun _ _=>[]
 new:=fun r _=>[zdN (gR r)]
theorem qh1:CtrOk zwY :=
 ⟨fun _ _ _ _=>rfl,fun _ _ _ _=>⟨rfl,rfl⟩,fun x _ _ _ _=>⟨⟨trivial,⟨⟨fun _ _=>⟨rfl,trivial⟩,trivial⟩,trivial⟩⟩,rfl⟩⟩
theorem treesV:(
 let q1:Prop:=12-0=12; ∀(x:Nat->Int),zaT x->(0 <= 12/\12 <= 12)/\Exx (Nat->Int) fun x_1=>(((true=true/\zaC/\0=0/\1=1/\0=0/\q1/\q1)/\101=101/\True)/\true=true/\(47=(47:TypeId)/\1=1/\12=12/\(∀(i:Nat),i<12->[AV.int .i64 (x i)]=[AV.int .i64 (x_1 i)])/\True)/\True)/\zaT x_1/\∀(y:Unit),True->Exx Unit fun y=>(((true=true/\zaC/\0=0/\1=1/\0=0/\(nzL x_1).length=(nzL x).length/\12=12)/\True)/\true=true/\((47:TypeId)=47/\1=1/\12=12/\(∀(i:Nat),i<12->[AV.int .i64 (gR x_1 i)]=[AV.int .i64 (gR x i)])/\True)/\True)/\True)=(zcA tb [(100,zaA zh9),(101,zaA zrD)] Tryz.f63 zwY (fun _=>{}) (fun _ av _=>slSg av) (fun _=>[]) (fun _ _ _ _=>[])):=by kernel_rfl

theorem qdC:SpecOk Tryz.prog 63 (zaA zwY):=by
 refine za0 zaM zaL (SPok.cons zwF (SPok.cons zrC SPok.nil)) Tryz.func63 (by decide) qh1 (Eq.mp treesV ?_)
 simp (maxSteps:=10000000) only [std,stdU,stdV,Exx,I64,Nat.reduceMul,Nat.reduceDiv,Nat.reduceAdd,Int.reduceToNat]
 exact fun r h=>⟨by omega,r,fun _ _=>rfl,h,rfl,fun _ _=>rfl⟩
theorem nzL_I {r:Nat->Int} (h:zaT r):zg5 (nzL r):=by
 refine ⟨fun v hv=>?_,by have:=zvL r 12; unfold nzL; omega⟩
 obtain ⟨hm,_⟩:=List.mem_filter.1 hv
 obtain ⟨i,hi,rfl⟩:=List.mem_map.1 hm
 exact h i (List.mem_range.1 hi)

def zk8:Ctr:=za5 (TickT×(Nat->Int)×(Nat->Int)) (fun x=>zaS x.2.1/\zaT x.2.2.1/\zaT x.2.2.2) (fun x=>[zeQ x.2.1,zd4 x.2.2.1,zd4 x.2.2.2]) (fun x=>(zbO (nzL x.2.2.2) x.1 x.2.1 x.2.2.1).s) (fun x=>frA (zbO (nzL x.2.2.2) x.1 x.2.1 x.2.2.1))
theorem qb7:(
 let q1:Prop:=true=true/\zaC/\0=0;
 let q2:Prop:=(107:TypeId)=107/\q1/\q1/\True; ∀(x:StoreT×TickT×(Nat->Int)×(Nat->Int)),
 let q3:TickT:=x.2.1;
 let q4:(Nat->Int)×(Nat->Int):=x.2.2;
 let q5:FR:=zbO (nzL q4.2) x.1 q3 q4.1;
 let q6:TickT:=q5.t;
 let q7:StoreT:=q5.s; zaG x.1/\zaS q3/\zaT q4.1/\zaT q4.2->Exx (Nat->Int) fun x_1=>(((1=1/\12=12/\(∀(i:Nat),i<12->[AV.int .i64 (q4.2 i)]=[AV.int .i64 (x_1 i)])/\True)/\True)/\true=true/\True)/\zaT x_1/\∀(y:Unit),True->Exx (StoreT×TickT×(Nat->Int)×List Int) fun x_2 =>
 let q8:TickT:=x_2.2.1;
 let q9:(Nat->Int)×List Int:=x_2.2.2;
 let q10:List Int:=q9.2;
 let q11:Nat:=q10.length;
 let q12:FR:=zbO q10 x_2.1 q8 q9.1;
 let q13:TickT:=q12.t;
 let q14:StoreT:=q12.s; ((q1/\(Tr 1 (q3.blocks=q8.blocks)/\Tr 1 (q3.slots=q8.slots)/\Tr 1 (q3.gens=q8.gens)/\Tr 1 (q3.top=q8.top)/\Tr 1 (q3.high=q8.high)/\Tr 1 (q3.free=q8.free)/\True)/\(1=1/\12=12/\(∀(i:Nat),i<12->[AV.int .i64 (q4.1 i)]=[AV.int .i64 (q9.1 i)])/\True)/\(0+(nzL x_1).length <= 12/\(nzL x_1).length=q11/\∀(i:Nat),i<q11->[AV.int .i64 (gR x_1 (0+i))]=[AV.int .i64 (q10.getD i 0)])/\True)/\true=true/\q2/\devB x.1.ws=devB x_2.1.ws/\zaB x.1.a=zaB x_2.1.a/\True)/\(zaG x_2.1/\zaS q8/\zaT q9.1/\zg5 q10)/\∀(y:Unit),True->Exx Unit fun y=>((((Tr 1 (q13.blocks=q6.blocks)/\Tr 1 (q13.slots=q6.slots)/\Tr 1 (q13.gens=q6.gens)/\Tr 1 (q13.top=q6.top)/\Tr 1 (q13.high=q6.high)/\Tr 1 (q13.free=q6.free)/\True)/\(1=1/\12=12/\(∀(i:Nat),i<12->[AV.int .i64 (q12.r i)]=[AV.int .i64 (q5.r i)])/\True)/\Tr 1 (q12.e=q5.e)/\True)/\True)/\q2/\devB q14.ws=devB q7.ws/\zaB q14.a=zaB q7.a/\true=true/\True)/\True)=(fnVC tb [(56,zaA zsF),(63,zaA zwY)] Tryz.f24 zk8 (fun x=>{ loose:=[(3,[0,1,2,7,8,9])] }) (fun _=>none)):=by kernel_rfl

theorem zv6:SpecOk Tryz.prog 24 (zaA zk8):=by
 refine zaK zaM zaL (SPok.cons zsE (SPok.cons qdC SPok.nil)) Tryz.func24 (by decide) (zaR fun _=>qlV _) (Eq.mp qb7 ?_)
 simp (maxSteps:=10000000) only [std,stdU,stdV,Exx,I64,Nat.reduceMul,Nat.reduceDiv,Nat.reduceAdd,Int.reduceToNat,↓and_self,and_self,and_self_left,and_self_right,zaQ,zaI,zfH,zc8,zd9,zcS,zfL]
 rintro s t r q ⟨h,ht,hr,hq⟩
 exact ⟨q,fun _ _=>rfl,hq,s,r,fun _ _=>rfl,zvL q 12,nzL q,rfl,fun _ _=>rfl,rfl,rfl,h,ht,hr,nzL_I hq,rfl,rfl,rfl,rfl,rfl,rfl,fun _ _=>rfl,rfl,rfl,rfl⟩

def zjB:Ctr:=zbN (TickT×(Nat->Int)×(Nat->Int)) (fun x=>zaS x.1/\zaT x.2.1/\zaT x.2.2) (fun x=>[.nilp,zeQ x.1,zd4 x.2.1,zd4 x.2.2]) (fun x => .tup [zeQ tickZ,zd4 zdM,i64 1])
theorem zy7:(∀(x:TickT×(Nat->Int)×(Nat->Int)),zaS x.1/\zaT x.2.1/\zaT x.2.2->Exx Unit fun y=>((((Tr 1 ((0:Int) =
 tickZ.blocks)/\Tr 1 ((0:Int)=tickZ.slots)/\Tr 1 ((0:Int)=tickZ.gens)/\Tr 1 ((0:Int)=tickZ.top)/\Tr 1 ((0:Int)=tickZ.high)/\Tr 1 ((0:Int)
 = tickZ.free)/\True)/\((1:Nat)=1/\(12:Nat)=12/\(∀(i:Nat),i<12->[AV.int .i64 0]=[AV.int .i64 (zdM i)])/\True)/\Tr 1 ((1:Int)=1) /\
 True)/\True)/\true=true/\True)/\True)=(fnVC tb [(56,zaA zsF),(63,zaA zwY)] Tryz.f24 zjB (fun _=>{}) (fun _=>none)):=by
 kernel_rfl

theorem zsP:SpecOk Tryz.prog 24 (zaA zjB):=by
 refine zaK zaM zaL (SPok.cons zsE (SPok.cons qdC SPok.nil)) Tryz.func24 (by decide) (zaO fun _=>⟨⟨rfl,rfl,rfl,rfl,rfl,rfl,trivial⟩,⟨fun _ _=>⟨rfl,trivial⟩,trivial⟩,rfl,trivial⟩) (Eq.mp zy7 ?_)
 simp (maxSteps:=10000000) only [std,stdU,stdV,Exx,I64,Nat.reduceMul,Nat.reduceDiv,Nat.reduceAdd,Int.reduceToNat,zfL]
 exact fun t a b _=>⟨rfl,rfl,rfl,rfl,rfl,rfl,fun _ _=>rfl⟩

def zoT:Sx.Spec:=ze5 (qeU 0) (zaA zjB) (zaA zk8)
theorem zsQ:SpecOk Tryz.prog 24 zoT:=zdG zsP zv6

end Yard
