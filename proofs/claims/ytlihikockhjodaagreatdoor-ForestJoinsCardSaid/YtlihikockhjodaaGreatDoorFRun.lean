import Derived.Test.YtlihikockhjodaaGreatDoorYdOps
import Derived.Test.YtlihikockhjodaaGreatDoorRefList
import Derived.Test.YtlihikockhjodaaGreatDoorTlMath

namespace Yard
open Go Go.Sx Go.Proofs
set_option linter.unusedVariables false
set_option linter.unusedSimpArgs false
set_option maxRecDepth 4000
set_option maxHeartbeats 4000000

def ziN (r:Nat->Int):Nat->Nat->Int->Bool
 | 0,_,n=>decide (n=0)
 | k+1,i,n=>if (decide (n.tmod 2=1) == !decide (r i=0))=true then ziN r k (i+1) (n.tdiv 2) else false
def qiZ:Ctr:=zbN ((Nat->Int)×Int) (fun x=>zaT x.1/\I64 x.2) (fun x=>[zd4 x.1,i64 x.2]) (fun x => .bool (ziN x.1 12 0 x.2))
def shapeLA (x:(Nat->Int)×Int):LA:={ T:=Nat×Int,F:=fun t=>frm 22 [(1,i64 t.2),(2,.ptr 1 [] 0),(5,i64 (t.1:Nat))],H:=fun _=>[.fence,zdN x.1] }
theorem shapeV:(
 let q1:Prop:=true=true/\zaC/\0=0; ∀(x:(Nat->Int)×Int),
 let q2:Prop:=1=1/\12=12/\(∀(i:Nat),i<12->[AV.int .i64 (x.1 i)]=[AV.int .i64 (x.1 i)])/\True;
 let q3:Bool:=ziN x.1 12 0 x.2; zaT x.1/\I64 x.2->Exx (Nat×Int->Prop) fun I=>Exx (Nat×Int->Nat) fun m=>(Exx (Nat×Int) fun t=>I t/\Tr 1 (Tr 1 (x.2=t.2)/\q1/\Tr 2 (Tr 1 (0=(t.1:Int))/\Tr 16 True))/\true=true/\(47=(47:TypeId)/\q2)/\True)/\∀(t:Nat×Int),
 let q4:Int:=(t.1:Int)+1; I t->BC (decide ((t.1:Int)<(12:Int))) (2≠(0:Int)/\∀(n:Int),n=t.2.tmod 2->((0:Int) <= (t.1:Int)/\(t.1:Int)<(↑(12:Nat):Int))/\(t.1:Int).toNat<12/\BC (!decide (n=(1:Int)) == !decide (x.1 (t.1:Int).toNat=(0:Int))) (Exx Unit fun y=>((false=q3/\True)/\true=true/\True)/\True) (2≠(0:Int)/\I64 (t.2.tdiv 2)/\I64 q4/\Exx (Nat×Int) fun t'=>(I t'/\m t'<m t)/\Tr 1 (Tr 1 (t.2.tdiv 2=t'.snd)/\q1/\Tr 2 (Tr 1 (q4=(↑t'.fst:Int))/\Tr 16 True))/\true=true/\((47:TypeId)=47/\q2)/\True)) (Exx Unit fun y=>((decide (t.2=(0:Int))=q3/\True)/\true=true/\True)/\True))=(fnVC tb [] Tryz.f58 qiZ (fun x=>{ loops:=[(2,shapeLA x)] }) (fun _=>none)):=by kernel_rfl

theorem qoO:SpecOk Tryz.prog 58 (zaA qiZ):=by
 refine zaK zaM zaL SPok.nil Tryz.func58 (by decide) (zaO fun _=>rfl) (Eq.mp shapeV ?_)
 simp (maxSteps:=10000000) only [std,stdU,stdV,Exx,I64,Nat.reduceMul,Nat.reduceDiv,Nat.reduceAdd,Int.reduceToNat]
 rintro r n ⟨hr,hn1,hn2⟩
 refine ⟨fun t=>t.1 <= 12/\I64 t.2/\ziN r (12-t.1) t.1 t.2=ziN r 12 0 n,⟨0,n,⟨Nat.zero_le _,⟨hn1,hn2⟩,rfl⟩,rfl,rfl⟩,fun t=>12-t.1,?_⟩
 rintro i b ⟨h1,⟨h2,h3⟩,h4⟩
 simp only at h1 h2 h3 h4
 have hd:b.tdiv 2=if 0 <= b then b / 2 else -((-b) / 2):=by
  split
  ·exact Int.tdiv_eq_ediv_of_nonneg (by assumption)
  ·have:b = -(-b):=by omega
   rw [this,Int.neg_tdiv,Int.tdiv_eq_ediv_of_nonneg (by omega)]; simp
 refine ⟨fun hlt=>?_,fun hge=>?_⟩
 ·rw [show 12-i=(11-i)+1 by omega,ziN] at h4
  refine ⟨by omega,by omega,by omega,by omega,fun hf=>?_,fun ht=>?_⟩
  ·rw [if_neg (by rw [hf]; decide)] at h4; exact h4
  ·rw [if_pos ht] at h4
   have r1:-9223372036854775808 <= b.tdiv 2:=by rw [hd]; split <;> omega
   have r2:b.tdiv 2 <= 9223372036854775807:=by rw [hd]; split <;> omega
   refine ⟨by omega,r1,r2,by omega,by omega,i+1,b.tdiv 2,⟨by simp only; omega,⟨r1,r2⟩,?_⟩,by simp only; omega,rfl,by omega⟩
   rw [show 12-(i+1)=11-i by omega]; exact h4
 ·have e:i=12:=by omega
  subst e
  exact h4


def zb9 (N:Int->Option NodeT) (r:Nat->Int):Nat->Option EB
 | 0=>some ([],[])
 | i+1=>match zb9 N r i with
   | none=>none
   | some q=>if r i=0 then some q else match zbQ N i (r i) with
     | none=>none
     | some p=>some (q.1++p.1,q.2++p.2)
def zeK (img:List Nat) (r:Nat->Int):EB:=(zb9 (imgN img) r 12).getD ([],[])
theorem zrL {N:Int->Option NodeT} {r:Nat->Int}:∀{i:Nat} {q:EB},zb9 N r i=some q->q.1.length<2 ^ i/\q.2.length<2 ^ i
 | 0,q,h=>by cases h; exact ⟨by simp,by simp⟩
 | i+1,q,h=>by
   rw [zb9] at h
   cases hq:zb9 N r i with
   | none=>rw [hq] at h; cases h
   | some q0 =>
     rw [hq] at h
     simp only at h
     have h0:=zrL hq
     rw [Nat.pow_succ]
     split at h
     ·cases h; omega
     ·cases hT:zbQ N i (r i) with
      | none=>rw [hT] at h; cases h
      | some p =>
        rw [hT] at h
        cases h
        have:=zpX N i _ _ hT
        simp only [List.length_append]; omega
theorem zrG {img:List Nat} {r:Nat->Int} {p:EB} (h:zb9 (imgN img) r 12=some p):zeK img r=p:=by rw [zeK,h]; rfl
theorem qb2 {img:List Nat} {r:Nat->Int} (h:zb9 (imgN img) r 12=none):zeK img r=([],[]):=by rw [zeK,h]; rfl
theorem zy8 {N:Int->Option NodeT} {r:Nat->Int} {i n:Nat} (h:zb9 N r i=none) (hn:i <= n):zb9 N r n=none:=by
 obtain ⟨d,rfl⟩:=Nat.exists_eq_add_of_le hn
 induction d with
 | zero=>exact h
 | succ d ih=>rw [Nat.add_succ,zb9,ih (by omega)]
def zjX:Ctr where
 X:=List Nat×(Nat->Int)
 Y:=Nat×Nat
 conv:=true
 tau:=fun _ _=>[]
 pre:=fun x=>Oct x.1/\zaT x.2
 args:=fun x=>[strN x.1,zd4 x.2]
 heap:=fun _=>[]
 Q:=fun x c=>((zeK x.1 x.2).1.length <= c.1/\c.1 <= 9223372036854775807)/\(zeK x.1 x.2).2.length <= c.2/\c.2 <= 9223372036854775807
 res:=fun x c => .tup [.sl 1 [] 0 4 0 (zeK x.1 x.2).1.length c.1,.sl 2 [] 0 1 0 (zeK x.1 x.2).2.length c.2,.bool (zb9 (imgN x.1) x.2 12).isSome]
 its:=fun _ _=>[]
 new:=fun x c=>[entR c.1 (zeK x.1 x.2).1,rowI 3 .i64 c.2 (zeK x.1 x.2).2]
theorem zu6:CtrOk zjX :=
 ⟨fun _ _ _ _=>rfl,fun _ _ _ _=>⟨rfl,rfl⟩,fun x _ _ _ _=>⟨⟨trivial,⟨⟨fun _ _=>⟨rfl,rfl,rfl,rfl,trivial⟩,trivial⟩,⟨fun _ _=>⟨rfl,trivial⟩,trivial⟩,trivial⟩⟩,rfl,rfl,rfl,trivial⟩⟩
def slPos (a:AV):Option Nat:=match a with
 | .sl q _ _ _ _ _ _=>some q
 | _=>none
def zoM (F:Fr) (_:AH):Option Ren:=some [some 0,some 1,slPos (F.getD 7 .any),slPos (F.getD 8 .any)]
def qaZ (x:List Nat×(Nat->Int)):LA:={ T:=Nat×(List EntT×Nat)×(List Int×Nat),F:=fun t=>frm 41 [(0,strN x.1),(3,.ptr 1 [] 0),(7,.sl 2 [] 0 4 0 t.2.1.1.length t.2.1.2),(8,.sl 3 [] 0 1 0 t.2.2.1.length t.2.2.2),(9,i64 (t.1:Nat))],H:=fun t=>[.fence,zdN x.2,entR t.2.1.2 t.2.1.1,rowI 3 .i64 t.2.2.2 t.2.2.1],ρ₁:=zoM,ρ₂:=zoM }
theorem qf7:(
 let q1:Prop:=true=true/\zaC/\(0:Nat)=0;
 let q2:Prop:=(47:TypeId)=47;
 let q3:Prop:=(29:TypeId)=29;
 let q4:Prop:=(3:TypeId)=3; ∀(x:List Nat×(Nat->Int)),
 let q5:Prop:=(1:Nat)=1/\(12:Nat)=12/\(∀(i:Nat),i<12->[AV.int .i64 (x.2 i)]=[AV.int .i64 (x.2 i)])/\True;
 let q6:Prop:=q2/\q5;
 let q7:List EntT:=(zeK x.1 x.2).1;
 let q8:Nat:=q7.length;
 let q9:Prop:=q8=0;
 let q10:List Int:=(zeK x.1 x.2).2;
 let q11:Nat:=q10.length;
 let q12:Prop:=q11=0;
 let q13:Bool:=(zb9 (imgN x.1) x.2 12).isSome; Oct x.1/\zaT x.2->Exx (Nat×(List EntT×Nat)×List Int×Nat->Prop) fun I=>Exx (Nat×(List EntT×Nat)×List Int×Nat->Nat) fun m=>(Exx (Nat×(List EntT×Nat)×List Int×Nat) fun t =>
 let q14:List EntT×Nat:=t.2.1;
 let q15:Prop:=q14.1.length=0;
 let q16:Prop:=q14.2=0;
 let q17:List Int×Nat:=t.2.2;
 let q18:Prop:=q17.1.length=0;
 let q19:Prop:=q17.2=0; I t/\(cstr x.1=cstr x.1/\Tr 2 (q1/\Tr 3 ((q15/\q16)/\(q18/\q19)/\Tr 1 ((0:Int)=(t.1:Int))/\Tr 31 True)))/\true=true/\((47:Nat)=(47:TypeId)/\q5)/\(q16/\q15)/\(q19/\q18)/\True)/\∀(t:Nat×(List EntT×Nat)×List Int×Nat),
 let q20:Int:=(t.1:Int);
 let q21:Prop:=(0:Int) <= q20/\q20<(↑(12:Nat):Int);
 let q22:Nat:=q20.toNat;
 let q23:Prop:=q22<12;
 let q24:Int:=x.2 q22;
 let q25:Int:=q20+1;
 let q26:Prop:=I64 q25;
 let q27:List EntT×Nat:=t.2.1;
 let q28:List EntT:=q27.1;
 let q29:Nat:=q28.length;
 let q30:Nat:=q27.2;
 let q31:List Int×Nat:=t.2.2;
 let q32:List Int:=q31.1;
 let q33:Nat:=q32.length;
 let q34:Nat:=q31.2; I t->BC (decide (q20<(12:Int))) (q21/\q23/\BC (decide (q24=(0:Int))) (q26/\Exx (Nat×(List EntT×Nat)×List Int×Nat) fun t' =>
 let q35:List EntT×Nat:=t'.snd.1;
 let q36:List EntT:=q35.1;
 let q37:Nat:=q36.length;
 let q38:Prop:=q30=q35.2;
 let q39:List Int×Nat:=t'.snd.2;
 let q40:List Int:=q39.1;
 let q41:Nat:=q40.length;
 let q42:Prop:=q34=q39.2; (I t'/\m t'<m t)/\(cstr x.1=cstr x.1/\Tr 2 (q1/\Tr 3 ((true=true/\zaC/\(0:Nat)=0/\(4:Nat)=4/\(0:Nat)=0/\q29=q37/\q38)/\(true=true/\zaC/\(0:Nat)=0/\(1:Nat)=1/\(0:Nat)=0/\q33=q41/\q42)/\Tr 1 (q25=(↑t'.fst:Int))/\Tr 31 True)))/\true=true/\q6/\(q3/\(4:Nat)=4/\q38/\q37 <= q29/\∀(i:Nat),i<q37->[AV.int .i64 (q28.getD i entZ).slot,AV.int .i64 (q28.getD i entZ).gen,AV.int .i64 (q28.getD i entZ).key,AV.int .i64 (q28.getD i entZ).value]=[AV.int .i64 (q36.getD i entZ).slot,AV.int .i64 (q36.getD i entZ).gen,AV.int .i64 (q36.getD i entZ).key,AV.int .i64 (q36.getD i entZ).value])/\(q4/\(1:Nat)=1/\q42/\q41 <= q33/\∀(i:Nat),i<q41->[AV.int .i64 (q32.getD i 0)]=[AV.int .i64 (q40.getD i 0)])/\True) (q21/\q23/\Exx (List Nat×Int×Nat) fun x_1 =>
 let q43:EB:=imgT x_1.1 x_1.2.2 x_1.2.1;
 let q44:List EntT:=q43.1;
 let q45:Nat:=q44.length;
 let q46:List Int:=q43.2;
 let q47:Nat:=q46.length;
 let q48:Nat:=q29+q45;
 let q49:Nat:=q33+q47; ((cstr x.1=cstr x_1.1/\Tr 1 (q24=x_1.2.1)/\Tr 1 (q20=(x_1.2.2:Int))/\True)/\true=true/\True)/\(Oct x_1.1/\I64 x_1.2.1/\x_1.2.2<13)/\∀(y:Nat×Nat),(q45 <= y.1/\y.1 <= 9223372036854775807)/\q47 <= y.2/\y.2 <= 9223372036854775807->BC (!(zbQ (imgN x_1.1) x_1.2.2 x_1.2.1).isSome) (Exx (Nat×Nat) fun y=>((((q9/\y.1=0)/\(q12/\y.2=0)/\false=q13/\True)/\True)/\true=true/\(y.1=0/\q9)/\(y.2=0/\q12)/\True)/\(q8 <= y.1/\y.1 <= 9223372036854775807)/\q11 <= y.2/\y.2 <= 9223372036854775807) (0+q45 <= q45/\true=true/\(q29 <= q29/\q30=q30)/\(q48 <= 9223372036854775807/\q48*32 <= 140737488355328)/\∀(cap:Nat),q48 <= cap/\cap <= 9223372036854775807->0+q47 <= q47/\true=true/\(q33 <= q33/\q34=q34)/\(q49 <= 9223372036854775807/\q49*8 <= 140737488355328)/\∀(cap_1:Nat),q49 <= cap_1/\cap_1 <= 9223372036854775807->q26/\Exx (Nat×(List EntT×Nat)×List Int×Nat) fun t' =>
 let q50:List EntT×Nat:=t'.snd.1;
 let q51:List EntT:=q50.1;
 let q52:Nat:=q51.length;
 let q53:Prop:=cap=q50.2;
 let q54:List Int×Nat:=t'.snd.2;
 let q55:List Int:=q54.1;
 let q56:Nat:=q55.length;
 let q57:Prop:=cap_1=q54.2; (I t'/\m t'<m t)/\(cstr x.1=cstr x.1/\Tr 2 (q1/\Tr 3 ((true=true/\zaC/\(0:Nat)=0/\(4:Nat)=4/\(0:Nat)=0/\q48=q52/\q53)/\(true=true/\zaC/\(0:Nat)=0/\(1:Nat)=1/\(0:Nat)=0/\q49=q56/\q57)/\Tr 1 (q25=(↑t'.fst:Int))/\Tr 31 True)))/\true=true/\q6/\(q3/\(4:Nat)=4/\q53/\q52 <= q48/\∀(i:Nat),
 let q58:EntT:=q44.getD (0+(i-q29)) entZ; i<q52->(if i<q29 then [AV.int .i64 (q28.getD i entZ).slot,AV.int .i64 (q28.getD i entZ).gen,AV.int .i64 (q28.getD i entZ).key,AV.int .i64 (q28.getD i entZ).value] else [AV.int .i64 q58.slot,AV.int .i64 q58.gen,AV.int .i64 q58.key,AV.int .i64 q58.value])=[AV.int .i64 (q51.getD i entZ).slot,AV.int .i64 (q51.getD i entZ).gen,AV.int .i64 (q51.getD i entZ).key,AV.int .i64 (q51.getD i entZ).value])/\(q4/\(1:Nat)=1/\q57/\q56 <= q49/\∀(i:Nat),i<q56->(if i<q33 then [AV.int .i64 (q32.getD i 0)] else [AV.int .i64 (q46.getD (0+(i-q33)) 0)])=[AV.int .i64 (q55.getD i 0)])/\True))) (Exx (Nat×Nat) fun y=>((((true=true/\zaC/\(0:Nat)=0/\(4:Nat)=4/\(0:Nat)=0/\q29=q8/\q30=y.1)/\(true=true/\zaC/\(0:Nat)=0/\(1:Nat)=1/\(0:Nat)=0/\q33=q11/\q34=y.2)/\true=q13/\True)/\True)/\true=true/\(q3/\(4:Nat)=4/\q30=y.1/\q8 <= q29/\∀(i:Nat),i<q8->[AV.int .i64 (q28.getD i entZ).slot,AV.int .i64 (q28.getD i entZ).gen,AV.int .i64 (q28.getD i entZ).key,AV.int .i64 (q28.getD i entZ).value]=[AV.int .i64 (q7.getD i entZ).slot,AV.int .i64 (q7.getD i entZ).gen,AV.int .i64 (q7.getD i entZ).key,AV.int .i64 (q7.getD i entZ).value])/\(q4/\(1:Nat)=1/\q34=y.2/\q11 <= q33/\∀(i:Nat),i<q11->[AV.int .i64 (q32.getD i 0)]=[AV.int .i64 (q10.getD i 0)])/\True)/\(q8 <= y.1/\y.1 <= 9223372036854775807)/\q11 <= y.2/\y.2 <= 9223372036854775807))=(zcA tb [(73,qdU)] Tryz.f41 zjX (fun x=>{ loops:=[(4,qaZ x)] }) (fun _ av _=>qh4 av) (fun _=>[]) (fun _ _ _ _=>[])):=by kernel_rfl

theorem zxT:SpecOk Tryz.prog 41 (zaA zjX):=by
 refine za0 zaM zaL (SPok.cons qf1 SPok.nil) Tryz.func41 (by decide) zu6 (Eq.mp qf7 ?_)
 simp (maxSteps:=10000000) only [std,stdU,stdV,Exx,I64,Nat.reduceMul,Nat.reduceDiv,Nat.reduceAdd,Int.reduceToNat]
 rintro img r ⟨h,hr⟩
 have hno:zb9 (imgN img) r 12=none->((zeK img r).1.length=0/\(zeK img r).2.length=0/\false=(zb9 (imgN img) r 12).isSome/\(zeK img r).1.length=0/\(zeK img r).2.length=0/\(zeK img r).1.length <= 0/\(0:Nat) <= 9223372036854775807/\(zeK img r).2.length <= 0/\(0:Nat) <= 9223372036854775807):=fun hn=>by
  rw [qb2 hn,hn]; exact ⟨rfl,rfl,rfl,rfl,rfl,Nat.le_refl _,by omega,Nat.le_refl _,by omega⟩
 refine ⟨fun t=>t.1 <= 12/\zb9 (imgN img) r t.1=some (t.2.1.1,t.2.2.1)/\t.2.1.1.length <= t.2.1.2/\t.2.1.2 <= 9223372036854775807/\t.2.2.1.length <= t.2.2.2/\t.2.2.2 <= 9223372036854775807,⟨0,[],0,[],0,⟨Nat.zero_le _,rfl,Nat.le_refl _,by simp only; omega,Nat.le_refl _,by simp only; omega⟩,rfl,rfl,rfl,rfl,rfl,rfl,rfl,rfl,rfl⟩,fun t=>12-t.1,fun i es ec bs bc hJ=>⟨fun hlt=>?_,fun hge=>?_⟩⟩
 ·obtain ⟨q1,q2,q3,q4,q5,q6⟩:=hJ
  simp only at q1 q2 q3 q4 q5 q6
  have hi:i<12:=by omega
  have hl:=zrL q2
  simp only at hl
  have p1:2 ^ i <= 2 ^ 12:=Nat.pow_le_pow_right (by decide) (by omega)
  have e12:(2:Nat) ^ 12=4096:=rfl
  refine ⟨by omega,by omega,by omega,fun hz=>⟨by omega,by omega,i+1,es,ec,bs,bc,⟨by simp only; omega,by simp only; rw [zb9,q2]; simp only; rw [if_pos hz],q3,q4,q5,q6⟩,by simp only; omega,rfl,rfl,rfl,rfl,by omega,rfl,Nat.le_refl _,fun _ _=>rfl,rfl,Nat.le_refl _,fun _ _=>rfl⟩,fun hz=>⟨by omega,by omega,by omega,h,(hr i hi).1,(hr i hi).2,by omega,fun c1 c2 hc=>⟨fun hs=>hno (zy8 (i:=i+1) ?_ hi),fun hs=>?_⟩⟩⟩
  ·rw [zb9,q2]
   simp only
   rw [if_neg hz]
   cases hq:zbQ (imgN img) i (r i) with
   | none=>simp only [hq]
   | some q=>rw [hq] at hs; cases hs
  ·cases hq:zbQ (imgN img) i (r i) with
   | none=>rw [hq] at hs; cases hs
   | some q =>
     have hql:=zpX _ i _ _ hq
     rw [zrF hq] at hc ⊢
     refine ⟨by omega,by omega,fun cap hcap=>⟨by omega,by omega,fun cap2 hcap2=>⟨by omega,by omega,i+1,es++q.1,cap,bs++q.2,cap2,⟨by simp only; omega,?_,by simp only [List.length_append]; omega,hcap.2,by simp only [List.length_append]; omega,hcap2.2⟩,by simp only; omega,by simp,rfl,by simp,rfl,by omega,rfl,by simp,fun j hj=>?_,rfl,by simp,fun j hj=>?_⟩⟩⟩
     ·simp only
      rw [zb9,q2]; simp only; rw [if_neg hz,hq]
     ·rw [zaH]
      by_cases e:j<es.length
      ·rw [if_pos e,if_pos e]
      ·rw [if_neg e,if_neg e]
     ·rw [zaH]
      by_cases e:j<bs.length
      ·rw [if_pos e,if_pos e]
      ·rw [if_neg e,if_neg e]
 ·obtain ⟨q1,q2,q3,q4,q5,q6⟩:=hJ
  simp only at q1 q2 q3 q4 q5 q6
  have ei:i=12:=by omega
  subst ei
  rw [zrG q2,q2]
  exact ⟨rfl,rfl,rfl,Nat.le_refl _,fun _ _=>rfl,Nat.le_refl _,fun _ _=>rfl,q3,q4,q5,q6⟩


theorem zlW (r:Nat->Int):∀n i,i<n->(rootN r n / 2 ^ i % 2=1 ↔ r i≠0)
 | 0,i,h=>absurd h (Nat.not_lt_zero _)
 | n+1,i,h=>by
   rw [rootN]
   by_cases e:i=n
   ·subst e
    have hl:=zh1 r i
    by_cases hz:r i=0
    ·rw [if_pos hz,Nat.add_zero,Nat.div_eq_of_lt hl]
     simp [hz]
    ·rw [if_neg hz,Nat.add_div_right _ (Nat.pow_pos (by decide)),Nat.div_eq_of_lt hl]
     simp [hz]
   ·have ih:=zlW r n i (by omega)
    rw [<- ih]
    by_cases hz:r n=0
    ·rw [if_pos hz,Nat.add_zero]
    ·rw [if_neg hz]
     obtain ⟨d,rfl⟩:∃d,n=i+1+d:=⟨n-(i+1),by omega⟩
     rw [show (2:Nat) ^ (i+1+d)=2 ^ i*(2*2 ^ d) by rw [Nat.pow_add,Nat.pow_succ,Nat.mul_assoc],Nat.add_mul_div_left _ _ (Nat.pow_pos (by decide)),Nat.add_mul_mod_self_left]
theorem qdL (r:Nat->Int):∀k i,i+k=12->ziN r k i ((rootN r 12 / 2 ^ i:Nat):Int)=true
 | 0,i,h=>by
   have:i=12:=by omega
   subst this
   rw [Nat.div_eq_of_lt (zh1 r 12)]; rfl
 | k+1,i,h=>by
   have hb:=zlW r 12 i (by omega)
   have e1:((rootN r 12 / 2 ^ i:Nat):Int).tmod 2=((rootN r 12 / 2 ^ i % 2:Nat):Int):=rfl
   have e2:((rootN r 12 / 2 ^ i:Nat):Int).tdiv 2=((rootN r 12 / 2 ^ (i+1):Nat):Int):=by
    rw [Nat.pow_succ,<- Nat.div_div_eq_div_mul]; rfl
   rw [ziN,e1,e2,if_pos,qdL r k (i+1) (by omega)]
   by_cases hz:r i=0
   ·have:¬rootN r 12 / 2 ^ i % 2=1:=fun q=>hb.1 q hz
    rw [decide_eq_false (by omega),decide_eq_true hz]; rfl
   ·have:rootN r 12 / 2 ^ i % 2=1:=hb.2 hz
    rw [decide_eq_true (by omega),decide_eq_false hz]; rfl
theorem shape_n {r:Nat->Int} {n:Nat} (h:rootN r 12=n):ziN r 12 0 (n:Int)=true:=by
 have:=qdL r 12 0 rfl
 rw [Nat.pow_zero,Nat.div_one,h] at this
 exact this


theorem zn0 {N:Int->Option NodeT} {r:Nat->Int} {f:Int->EntT}:∀(n:Nat) (G:List GT),(∀g∈G,zbQ N g.1 g.2.1=some g.2.2/\g.2.2.1=g.2.2.2.map f)->(gK G).Perm (fKn r n)->∃q,zb9 N r n=some q/\q.1.Perm (gE G)/\q.2.Perm (gB G)/\q.1=q.2.map f
 | 0,G,hT,h=>by
   have e:G=[]:=by
    have:=h.length_eq
    simp [gK,fKn] at this
    exact this
   subst e
   exact ⟨([],[]),rfl,List.Perm.refl _,List.Perm.refl _,rfl⟩
 | n+1,G,hT,h=>by
   rw [fKn] at h
   rw [zb9]
   by_cases hz:r n=0
   ·rw [if_pos hz,List.append_nil] at h
    obtain ⟨q,h1,h2,h3,h4⟩:=zn0 n G hT h
    exact ⟨q,by rw [h1]; simp only; rw [if_pos hz],h2,h3,h4⟩
   ·rw [if_neg hz] at h
    obtain ⟨p,G',hp,hG'⟩:=zpI (h.trans (List.perm_append_singleton _ _))
    simp only at hp
    obtain ⟨q,h1,h2,h3,h4⟩:=zn0 n G' (fun g hg=>hT g (hp.mem_iff.2 (List.mem_cons_of_mem _ hg))) hG'
    obtain ⟨ht,hf⟩:=hT _ (hp.mem_iff.2 (List.mem_cons_self ..))
    simp only at ht hf
    refine ⟨(q.1++p.1,q.2++p.2),by rw [h1]; simp only; rw [if_neg hz,ht],?_,?_,by simp only; rw [h4,hf,List.map_append]⟩
    ·refine (List.perm_append_comm.trans (h2.append_left p.1)).trans ?_
     have:=zv4 hp
     rw [znY] at this
     exact this.symm
    ·refine (List.perm_append_comm.trans (h3.append_left p.2)).trans ?_
     have:=qb6 hp
     rw [zh6] at this
     exact this.symm

structure zd7 (s:StoreT) (t:TickT) (r:Nat->Int) (want:List EntT) (q:EB):Prop where
 img:zb9 (imgN (zaD s.ws)) r 12=some q
 leads:zhJ s t q.1 q.2
 shape:ziN r 12 0 (want.length:Nat)=true
 cnt:rootN r 12=want.length
 sort:zaY q.1=zaY want
 pok:zeY (zaD s.ws) t.top
 works:(bitsL s.a.n s.a.w).length=2+q.2.length+(zcX (zaD s.ws) t.top).length
 len:q.2.length=want.length/\q.1.length=want.length
 ents:EntsI q.1
 kids:zg5 q.2
theorem zv5 {s:StoreT} {t:TickT} {d:DeskT} {r:Nat->Int} {G:List GT} {want:List EntT} (h:Yd s t d G) (hG:(gK G).Perm (fK r)) (hw:(gE G).Perm want) (hc:rootN r 12=want.length):∃q,zd7 s t r want q:=by
 have he:∀g∈G,zbQ (imgN (zaD s.ws)) g.1 g.2.1=some g.2.2/\g.2.2.1=g.2.2.2.map fun c=>(readT s.ws c).e:=fun g hg=>⟨h.gr.img hg,(zw0 _ _ _ (h.gr.tr g hg) (fun c=>(readT s.ws c).e) fun c hc n hn=>by
  rw [h.gr.inv.nd' (zi9 hg hc)] at hn; cases hn; rfl).1⟩
 obtain ⟨q,h1,h2,h3,h4⟩:=zn0 12 G he hG
 have hn:HNodup (gE G):=h.gr.hnd
 have hl:=zh1 r 12
 have e12:(2:Nat) ^ 12=4096:=rfl
 have l1:q.1.length=want.length:=(h2.trans hw).length_eq
 have l2:q.2.length=want.length:=by rw [<- l1,h4,List.length_map]
 refine ⟨q,h1,qd6 h.gr.inv h3 h4,shape_n hc,hc,?_,(zx7 h.gr.inv.inv.tree).1,?_,⟨l2,l1⟩,⟨fun x hx=>?_,by omega⟩,⟨fun c hc2=>h.gr.inv.i64 (h3.mem_iff.1 hc2),by omega⟩⟩
 ·exact zuP (hn.perm h2.symm) (h2.trans hw)
 ·rw [(zx7 h.gr.inv.inv.tree).2,h3.length_eq]
  exact (zx8 h.gr.inv.inv.tree h.gr.inv.nd h.w01.1 h.w01.2).1
 ·obtain ⟨g,hg,hx2⟩:=List.mem_flatMap.1 (h2.mem_iff.1 hx)
  exact zpY (P:=EntI) (fun c m hc=>(qeC hc).1.1) _ _ _ (he g hg).1 x hx2


structure FR1 (sl:Int) (s:StoreT) (t:TickT) (d:DeskT) (r:Nat->Int) (G R:List GT) (l:List EntT) (i:Nat):Prop where
 yd:Yd s t d (G++R)
 roots:(gK G).Perm (fK r)
 es:(gE G).Perm l
 cnt:rootN r 12=l.length
 slots:t.slots=sl
 gens:d.gens.length <= i
theorem FR1.W {sl:Int} {s:StoreT} {t:TickT} {d:DeskT} {r:Nat->Int} {G R:List GT} {l:List EntT} {i:Nat} (h:FR1 sl s t d r G R l i):zaG s:=h.yd.gr.inv.W
theorem FR1.tI {sl:Int} {s:StoreT} {t:TickT} {d:DeskT} {r:Nat->Int} {G R:List GT} {l:List EntT} {i:Nat} (h:FR1 sl s t d r G R l i):zaS t:=h.yd.gr.inv.tI
theorem FR1.high {sl:Int} {s:StoreT} {t:TickT} {d:DeskT} {r:Nat->Int} {G R:List GT} {l:List EntT} {i:Nat} (h:FR1 sl s t d r G R l i):t.high <= 1792:=by
 have:=qbN h.yd.gr.inv
 have:=h.yd.roomy.lt
 omega
theorem yd_rI {s:StoreT} {t:TickT} {d:DeskT} {r:Nat->Int} {G R:List GT} (h:Yd s t d (G++R)) (hG:(gK G).Perm (fK r)):∀j,j<12->r j≠0->2 <= r j/\r j<3072:=fun j hj hn=>by
 have hm:(j,r j)∈gK G:=hG.mem_iff.2 (zn4.2 ⟨hj,rfl,hn⟩)
 obtain ⟨g,hg,e⟩:=List.mem_map.1 hm
 have hg':=List.mem_append.2 (.inl hg:g∈G\/g∈R)
 have ht:=h.gr.tr _ hg'
 obtain ⟨nd,ra,qa,n1,n2,n3,n4⟩:=zcR ht
 have hab:g.2.1∈gB (G++R):=zi9 hg' (by rw [n4]; exact List.mem_cons_self ..)
 have hr:=h.gr.inv.range hab
 have e2:g.2.1=r j:=congrArg Prod.snd e
 rw [e2] at hr
 exact ⟨hr.1,hr.2.2⟩
theorem FR1.rI {sl:Int} {s:StoreT} {t:TickT} {d:DeskT} {r:Nat->Int} {G R:List GT} {l:List EntT} {i:Nat} (h:FR1 sl s t d r G R l i):zaT r:=fun j hj=>by
 by_cases hn:r j=0
 ·rw [hn]; exact I64_0
 ·have:=yd_rI h.yd h.roots j hj hn
  exact ⟨by omega,by omega⟩
theorem FR1.hnd {sl:Int} {s:StoreT} {t:TickT} {d:DeskT} {r:Nat->Int} {G R:List GT} {l:List EntT} {i:Nat} (h:FR1 sl s t d r G R l i):HNodup l:=by
 have:=h.yd.gr.hnd
 rw [zhN] at this
 exact HNodup.perm (List.pairwise_append.1 this).1 h.es
theorem FR1.len {sl:Int} {s:StoreT} {t:TickT} {d:DeskT} {r:Nat->Int} {G R:List GT} {l:List EntT} {i:Nat} (h:FR1 sl s t d r G R l i):l.length<4096:=by
 rw [<- h.cnt]; exact zh1 r 12
theorem FR1.ents {sl:Int} {s:StoreT} {t:TickT} {d:DeskT} {r:Nat->Int} {G R:List GT} {l:List EntT} {i:Nat} (h:FR1 sl s t d r G R l i):EntsI l:=by
 refine ⟨fun x hx=>?_,by have:=h.len; omega⟩
 obtain ⟨g,hg,hx2⟩:=List.mem_flatMap.1 (h.es.mem_iff.2 hx)
 exact zpY (P:=EntI) (fun c m hc=>(qeC hc).1.1) _ _ _ (h.yd.gr.img (List.mem_append.2 (.inl hg))) x hx2
theorem FR1.perm {sl:Int} {s:StoreT} {t:TickT} {d:DeskT} {r:Nat->Int} {G R:List GT} {l m:List EntT} {i:Nat} (h:FR1 sl s t d r G R l i) (p:l.Perm m):FR1 sl s t d r G R m i :=
 ⟨h.yd,h.roots,h.es.trans p,by rw [h.cnt,p.length_eq],h.slots,h.gens⟩
theorem FR1.mark {sl:Int} {s:StoreT} {t:TickT} {d:DeskT} {r:Nat->Int} {G R:List GT} {l:List EntT} {i:Nat} (h:FR1 sl s t d r G R l i):FR1 sl (znS s) t d r G R l i :=
 ⟨h.yd.mark,h.roots,h.es,h.cnt,h.slots,h.gens⟩
theorem FR1.le {sl:Int} {s:StoreT} {t:TickT} {d:DeskT} {r:Nat->Int} {G R:List GT} {l:List EntT} {i j:Nat} (h:FR1 sl s t d r G R l i) (hj:i <= j):FR1 sl s t d r G R l j :=
 ⟨h.yd,h.roots,h.es,h.cnt,h.slots,Nat.le_trans h.gens hj⟩
theorem FR1.stands {sl:Int} {s:StoreT} {t:TickT} {d:DeskT} {r:Nat->Int} {G:List GT} {l:List EntT} {i:Nat} (h:FR1 sl s t d r G [] l i):∃q,zd7 s t r l q :=
 zv5 (by have:=h.yd; rwa [List.append_nil] at this) h.roots h.es h.cnt
theorem qeL {n:Nat} {sl:Int} (h1:1 <= sl) (h2:sl <= 112) (h3:14+2*((sl.toNat+6) / 7)+2*sl.toNat <= n) (h4:n <= 3072):FR1 sl (zd5 n 0) (zp1 (n:Int) sl 100) qhD zdM [] [] [] 0 :=
 ⟨yd_made h1 h2 h3 h4,List.Perm.refl _,List.Perm.refl _,rfl,rfl,Nat.le_refl _⟩
theorem iss_len (d:DeskT) (b:Int):(zb6 d b).gens.length <= d.gens.length+1:=by
 unfold zb6
 cases d.free with
 | nil=>simp
 | cons a l=>simp
theorem next_ex {slots:Int} {d:DeskT} (h:(d.gens.length:Int)<slots):∃a g,zeU slots d=some (a,g)/\(d.free=[]->a=d.gens.length/\g=1):=by
 unfold zeU
 cases d.free with
 | nil=>exact ⟨d.gens.length,1,by simp only; rw [if_neg (by omega)],fun _=>⟨rfl,rfl⟩⟩
 | cons a l=>exact ⟨a,_,rfl,fun q=>by cases q⟩
theorem qp0 {d:DeskT} (h:d.free=[]):(zb6 d 0).gens.length=d.gens.length+1/\(zb6 d 0).free=[]:=by
 unfold zb6
 rw [h]
 exact ⟨by simp,rfl⟩

structure Ins1 (sl:Int) (s:StoreT) (t:TickT) (d:DeskT) (r:Nat->Int) (G R:List GT) (l:List EntT) (i:Nat) (k v:Int) (x:EntT) (d':DeskT) (G':List GT) (q:IR):Prop where
 e:q.e=0
 h:q.h=entH x
 key:x.key=k
 value:x.value=v
 fr:FR1 sl q.s q.t d' q.r G' R (x :: l) (i+1)
 env:Env s q.s
 new:∀y∈gE (G++R),entH y≠entH x
 fresh:d.free=[]->x.slot=d.gens.length/\x.gen=1/\d'.free=[]/\d'.gens.length=d.gens.length+1
theorem FR1.insert {sl:Int} {s:StoreT} {t:TickT} {d:DeskT} {r:Nat->Int} {G R:List GT} {l:List EntT} {i:Nat} (h:FR1 sl s t d r G R l i) (hi:(i:Int)<sl) (h112:sl <= 112) {k v:Int} (hk:I64 k) (hv:I64 v) :
  ∃x d' G',Ins1 sl s t d r G R l i k v x d' G' (insR s t r k v):=by
 have hg:=h.gens
 have hlen:l.length <= d.gens.length:=by
  have h1:=h.yd.gr.inv.len
  have h2:=h.yd.gr.len
  rw [zhN,List.length_append,h.es.length_eq] at h2
  omega
 obtain ⟨a,g,hn,hf⟩:=next_ex (slots:=t.slots) (d:=d) (by rw [h.slots]; omega)
 have hc:rootN r 12+1<4096:=by rw [h.cnt]; omega
 obtain ⟨d',G',I⟩:=qhQ h.yd h.roots hc hn hk hv
 have hl:=iss_len d 0
 have hE:(gE (G'++R)).Perm (⟨(a:Int),g,k,v⟩ :: gE (G++R)):=by
  rw [zhN,zhN]
  exact I.es.append_right _
 have hnd:=HNodup.perm I.yd.gr.hnd hE
 refine ⟨⟨(a:Int),g,k,v⟩,d',G',I.e,I.h,rfl,rfl,⟨I.yd,I.roots,I.es.trans (List.Perm.cons _ h.es),by rw [I.cnt,h.cnt]; rfl,by rw [I.geo.1,h.slots],by rw [I.gens]; omega⟩,I.env,fun y hy=>?_,fun hq=>?_⟩
 ·exact fun e=>(List.pairwise_cons.1 hnd).1 y hy e.symm
 ·obtain ⟨e1,e2⟩:=hf hq
  obtain ⟨f1,f2⟩:=qp0 hq
  exact ⟨by rw [e1],e2,by rw [I.free,f2],by rw [I.gens,f1]⟩

structure Pop1 (sl:Int) (s:StoreT) (t:TickT) (d:DeskT) (r:Nat->Int) (R:List GT) (l:List EntT) (i:Nat) (d':DeskT) (G':List GT) (q:PR):Prop where
 e:q.e=0
 mem:q.x∈l
 min:∀y∈l,y=q.x\/ahead q.x y
 fr:∀m,l.Perm (q.x :: m)->FR1 sl q.s q.t d' q.r G' R m i
 env:Env s q.s
 gens:d'.gens=d.gens
 fst:(fst s.ws r).e=0/\(Yard.fst s.ws r).n.e=q.x
theorem FR1.pop {sl:Int} {s:StoreT} {t:TickT} {d:DeskT} {r:Nat->Int} {G R:List GT} {l:List EntT} {i:Nat} (h:FR1 sl s t d r G R l i) (hne:l≠[]):∃d' G',Pop1 sl s t d r R l i d' G' (popR s t r):=by
 obtain ⟨d',G',P⟩:=yd_popR h.yd h.roots (fun e=>hne (by have:=h.es.length_eq; rw [e] at this; exact List.length_eq_zero_iff.1 this.symm))
 refine ⟨d',G',P.e,?_,fun y hy=>P.min y (h.es.mem_iff.2 hy),fun m hm=>?_,P.env,P.gens,P.fst⟩
 ·exact h.es.mem_iff.1 (P.es.mem_iff.2 (List.mem_cons_self ..))
 ·have e1:(gE G').Perm m:=(List.perm_cons _).1 (P.es.symm.trans (h.es.trans hm))
  have hc:=P.cnt
  rw [h.cnt,hm.length_eq,List.length_cons] at hc
  exact ⟨P.yd,P.roots,e1,by omega,by rw [P.geo.1,h.slots],by rw [P.gens]; exact h.gens⟩
end Yard
