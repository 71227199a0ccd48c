import Derived.Test.YtlihikockhjodaaGreatDoorForWant
import Derived.Test.YtlihikockhjodaaGreatDoorStandsW

namespace Yard
open Go Go.Sx Go.Proofs
set_option linter.unusedVariables false
set_option linter.unusedSimpArgs false
set_option maxRecDepth 4000
set_option maxHeartbeats 4000000

abbrev boolR (n:Nat) (f:Nat->Bool):Sx.Item := .row 4 1 n n (fun j=>[.bool (f j)])

def Left (es:List (List Int)) (f:Nat->Bool) (m:List EntT):Prop:=∀y,y∈m ↔ ∃k,k<es.length/\y=wE es k/\f k=false
theorem qj0 {es:List (List Int)} {f:Nat->Bool} {m:List EntT} (h:Left es f m) (hn:HNodup m) {x:EntT} (hx:x∈m):∃k m',k<es.length/\x=wE es k/\f k=false/\m.Perm (x :: m')/\Left es (fun i=>if i=k then true else f i) m':=by
 obtain ⟨k,h1,h2,h3⟩:=(h x).1 hx
 obtain ⟨a,b,e⟩:=List.append_of_mem hx
 have hp:m.Perm (x :: (a++b)):=by rw [e]; exact List.perm_middle
 have hnd:=HNodup.perm hn hp
 refine ⟨k,a++b,h1,h2,h3,hp,fun y=>⟨fun hy=>?_,fun ⟨j,j1,j2,j3⟩=>?_⟩⟩
 ·obtain ⟨j,j1,j2,j3⟩:=(h y).1 (hp.mem_iff.2 (List.mem_cons_of_mem _ hy))
  refine ⟨j,j1,j2,?_⟩
  simp only
  rw [if_neg fun e=>?_]
  ·exact j3
  ·subst e
   exact (List.pairwise_cons.1 hnd).1 y hy (by rw [h2,j2])
 ·simp only at j3
  by_cases e:j=k
  ·rw [if_pos e] at j3; cases j3
  ·rw [if_neg e] at j3
   have hm:=hp.mem_iff.1 ((h y).2 ⟨j,j1,j2,j3⟩)
   rcases List.mem_cons.1 hm with q | q
   ·rw [j2,h2] at q; exact absurd (wE_inj q) e
   ·exact q
def forestDrainsC:Ctr:=zbL (List (List Int)) (fun es=>(∀e∈es,∀v∈e,I64 v)/\es.length <= maxLen) (fun es=>[esA es]) (fun _ => .bool true)
def fdLA (es:List (List Int)):LA:={ T:=Nat×(StoreT×TickT)×(Nat->Int),F:=fun t=>frm 192 [(0,esA es),(3,.ptr 1 [] 0),(4,.ptr 5 [] 0),(5,i64 (t.1:Nat))],H:=fun t=>zoA t.2.1.1 t.2.1.2++[zdY t.2.2],ρ₁:=zfG 5 [4],ρ₂:=zfG 5 [4] }
def fdJ11 (es:List (List Int)):LA:={ T:=Nat×(TickT×(Nat->Int))×IR,F:=fun t=>frm 192 [(0,esA es),(3,.ptr 1 [] 0),(4,.ptr 5 [] 0),(5,i64 (t.1:Nat)),(6,.ptr 6 [] 0),(7,.ptr 7 [] 0),(8,.ptr 8 [] 0),(9,i64 t.2.2.e)],H:=fun t=>zoA t.2.2.s t.2.1.1++[zdY t.2.1.2,zzH t.2.2.t,zdY t.2.2.r,handC t.2.2.h],ρ₁:=zfG 5 [4,6,7,8],ρ₂:=zfG 5 [4,6,7,8] }
def fdLB (es:List (List Int)):LA:={ T:=(Nat×(Nat->Bool)×EntT)×(StoreT×TickT)×(Nat->Int),F:=fun t=>frm 192 [(0,esA es),(3,.ptr 1 [] 0),(4,.ptr 5 [] 0),(10,.sl 6 [] 0 1 0 es.length es.length),(11,.ptr 7 [] 0),(12,i64 (t.1.1:Nat))],H:=fun t=>zoA t.2.1.1 t.2.1.2++[zdY t.2.2,boolR es.length t.1.2.1,entC t.1.2.2],ρ₁:=zfG 5 [4,10,11],ρ₂:=zfG 5 [4,10,11] }
def fdJ20 (es:List (List Int)):LA:={ T:=(Nat×(Nat->Bool)×EntT)×(TickT×(Nat->Int))×PR,F:=fun t=>frm 192 [(0,esA es),(3,.ptr 1 [] 0),(4,.ptr 5 [] 0),(10,.sl 6 [] 0 1 0 es.length es.length),(11,.ptr 7 [] 0),(12,i64 (t.1.1:Nat)),(13,.ptr 8 [] 0),(14,.ptr 9 [] 0),(15,.ptr 10 [] 0),(16,i64 t.2.2.e)],H:=fun t=>zoA t.2.2.s t.2.1.1++[zdY t.2.1.2,boolR es.length t.1.2.1,entC t.1.2.2,zzH t.2.2.t,zdY t.2.2.r,entC t.2.2.x],ρ₁:=zfG 5 [4,10,11,13,14,15],ρ₂:=zfG 5 [4,10,11,13,14,15] }
def fdJ29:LA:={ T:=((StoreT×TickT)×(Nat->Int))×Int,F:=fun t=>frm 192 [(3,.ptr 1 [] 0),(4,.ptr 5 [] 0),(20,i64 t.2)],H:=fun t=>zoA t.1.1.1 t.1.1.2++[zdY t.1.2],ρ₁:=zfG 5 [4],ρ₂:=zfG 5 [4] }
theorem zvK:(
 let q1:Prop:=∀(y:Unit),True->Exx Unit fun y=>((true=true/\True)/\true=true/\True)/\True;
 let q2:Prop:=true=true/\zaC/\(0:Nat)=0;
 let q3:Prop:=(42:TypeId)=42;
 let q4:Prop:=(107:TypeId)=107/\q2/\q2/\True;
 let q5:Prop:=(0:Int)<(↑(2:Nat):Int);
 let q6:Prop:=(0:Int) <= (0:Int)/\q5;
 let q7:Prop:=(1:Int)<(↑(2:Nat):Int);
 let q8:Prop:=(0:Int) <= (1:Int)/\q7;
 let q9:Prop:=(47:TypeId)=47;
 let q10:Prop:=Exx Unit fun y=>((false=true/\True)/\true=true/\True)/\True;
 let q11:Prop:=(4:TypeId)=4;
 let q12:Prop:=(29:TypeId)=29; ∀(x:List (List Int)),
 let q14:Prop:=(2:Nat)=2/\x.length=x.length/\∀(i:Nat),
 let q13:List AV:=[AV.arr 1 2 fun j=>[AV.int .i64 ((x.getD i []).getD j 0)]]; i<x.length->q13=q13;
 let q15:Prop:=(x.length:Int).toNat=x.length;
 let q16:Prop:=true=true/\zaC/\(0:Nat)=0/\(1:Nat)=1/\(0:Nat)=0/\x.length=x.length/\x.length=x.length; (∀(e:List Int),e∈x->∀(v:Int),v∈e->I64 v)/\x.length <= maxLen->Exx Unit fun x_1=>Tr 1 (true=true/\True)/\Tr 1 (∀(y:Unit),True->BC (decide ((25:Int)<(x.length:Int))) (Exx Unit fun x=>Tr 1 (true=true/\True)/\Tr 1 q1) (Exx (Nat×Int) fun x_2 =>
 let q17:TickT:=zpQ (x_2.1:Int) x_2.2 100; ((Tr 1 ((150:Int)=(x_2.1:Int))/\Tr 1 ((30:Int)=x_2.2)/\True)/\true=true/\True)/\(x_2.1 <= 3072/\I64 x_2.2)/\∀(y:Unit),True->Exx (Nat×(StoreT×TickT)×(Nat->Int)->Prop) fun I=>Exx (Nat×(StoreT×TickT)×(Nat->Int)->Nat) fun m=>(Exx (Nat×(StoreT×TickT)×(Nat->Int)) fun t =>
 let q18:TickT:=t.2.1.2;
 let q19:StoreT:=t.2.1.1; I t/\(q14/\Tr 2 (q2/\q2/\Tr 1 ((0:Int)=(t.1:Int))/\Tr 186 True))/\true=true/\(q3/\q2/\q2/\q2/\Tr 1 (q17.blocks=q18.blocks)/\Tr 1 (q17.slots=q18.slots)/\Tr 1 (q17.gens=q18.gens)/\Tr 1 (q17.top=q18.top)/\Tr 1 (q17.high=q18.high)/\Tr 1 (q17.free=q18.free)/\True)/\q4/\devB (zdZ x_2.1 0).ws=devB q19.ws/\zaB (zdZ x_2.1 0).a=zaB q19.a/\((47:Nat)=(47:TypeId)/\(1:Nat)=1/\(12:Nat)=12/\(∀(i:Nat),i<12->[AV.int .i64 0]=[AV.int .i64 (t.2.2 i)])/\True)/\True)/\∀(t:Nat×(StoreT×TickT)×(Nat->Int)),
 let q20:Prop:=(t.1:Int)<(x.length:Int);
 let q21:Prop:=(0:Int) <= (t.1:Int)/\q20;
 let q22:TickT:=t.2.1.2;
 let q23:Int:=q22.blocks;
 let q24:Int:=q22.slots;
 let q25:Int:=q22.gens;
 let q26:Int:=q22.top;
 let q27:Int:=q22.high;
 let q28:Int:=q22.free;
 let q29:List Int:=x.getD (t.1:Int).toNat [];
 let q30:StoreT:=t.2.1.1;
 let q31:Ob:=devB q30.ws;
 let q32:Ob:=zaB q30.a; I t->BC (decide q20) (Exx (Nat×(TickT×(Nat->Int))×IR->Prop) fun I_1 =>
 let q43:Prop:=Exx (StoreT×TickT×(Nat->Int)×Int×Int) fun x =>
 let q33:TickT:=x.2.1;
 let q34:(Nat->Int)×Int×Int:=x.2.2;
 let q35:Int×Int:=q34.2;
 let q36:Int:=q35.1;
 let q37:Int:=q35.2;
 let q38:IR:=insR x.1 q33 q34.1 q36 q37;
 let q39:StoreT:=q38.s;
 let q40:TickT:=q38.t;
 let q41:HandT:=q38.h; ((q2/\(Tr 1 (q23=q33.blocks)/\Tr 1 (q24=q33.slots)/\Tr 1 (q25=q33.gens)/\Tr 1 (q26=q33.top)/\Tr 1 (q27=q33.high)/\Tr 1 (q28=q33.free)/\True)/\((1:Nat)=1/\(12:Nat)=12/\(∀(i:Nat),i<12->[AV.int .i64 (t.2.2 i)]=[AV.int .i64 (q34.1 i)])/\True)/\Tr 1 (q29.getD (Int.toNat 0) 0=q36)/\Tr 1 (q29.getD (Int.toNat 1) 0=q37)/\True)/\true=true/\q4/\q31=devB x.1.ws/\q32=zaB x.1.a/\True)/\(zaG x.1/\zaR q33/\za1 q34.1/\I64 q36/\I64 q37)/\∀(y:Unit),True->Exx (Nat×(TickT×(Nat->Int))×IR) fun t_1 =>
 let q42:TickT:=t_1.2.1.1; I_1 t_1/\(q14/\Tr 2 (q2/\q2/\Tr 1 ((t.1:Int)=(t_1.1:Int))/\q2/\q2/\q2/\Tr 1 (q38.e=t_1.2.2.e)/\Tr 182 True))/\true=true/\(q3/\q2/\q2/\q2/\Tr 1 (q23=q42.blocks)/\Tr 1 (q24=q42.slots)/\Tr 1 (q25=q42.gens)/\Tr 1 (q26=q42.top)/\Tr 1 (q27=q42.high)/\Tr 1 (q28=q42.free)/\True)/\q4/\devB q39.ws=devB t_1.2.2.s.ws/\zaB q39.a=zaB t_1.2.2.s.a/\(q9/\(1:Nat)=1/\(12:Nat)=12/\(∀(i:Nat),i<12->[AV.int .i64 (t.2.2 i)]=[AV.int .i64 (t_1.2.1.2 i)])/\True)/\((40:Nat)=(40:TypeId)/\Tr 1 (q40.blocks=t_1.2.2.t.blocks)/\Tr 1 (q40.slots=t_1.2.2.t.slots)/\Tr 1 (q40.gens=t_1.2.2.t.gens)/\Tr 1 (q40.top=t_1.2.2.t.top)/\Tr 1 (q40.high=t_1.2.2.t.high)/\Tr 1 (q40.free=t_1.2.2.t.free)/\True)/\((47:Nat)=(47:TypeId)/\(1:Nat)=1/\(12:Nat)=12/\(∀(i:Nat),i<12->[AV.int .i64 (q38.r i)]=[AV.int .i64 (t_1.2.2.r i)])/\True)/\((27:Nat)=(27:TypeId)/\Tr 1 (q41.slot=t_1.2.2.h.slot)/\Tr 1 (q41.gen=t_1.2.2.h.gen)/\True)/\True;
 let q44:Prop:=q43/\q43;
 let q56:Prop:=(Exx (StoreT×TickT×(Nat->Int)×Int×Int) fun x =>
 let q45:TickT:=x.2.1;
 let q46:(Nat->Int)×Int×Int:=x.2.2;
 let q47:Int×Int:=q46.2;
 let q48:Int:=q47.1;
 let q49:Int:=q47.2;
 let q50:IR:=insR x.1 q45 q46.1 q48 q49;
 let q51:StoreT:=q50.s;
 let q52:TickT:=q50.t;
 let q53:HandT:=q50.h;
 let q55:Prop:=Exx (Nat×(TickT×(Nat->Int))×IR) fun t_1 =>
 let q54:TickT:=t_1.2.1.1; I_1 t_1/\(q14/\Tr 2 (q2/\q2/\Tr 1 ((t.1:Int)=(t_1.1:Int))/\q2/\q2/\q2/\Tr 1 (q50.e=t_1.2.2.e)/\Tr 182 True))/\true=true/\(q3/\q2/\q2/\q2/\Tr 1 (q23=q54.blocks)/\Tr 1 (q24=q54.slots)/\Tr 1 (q25=q54.gens)/\Tr 1 (q26=q54.top)/\Tr 1 (q27=q54.high)/\Tr 1 (q28=q54.free)/\True)/\q4/\devB q51.ws=devB t_1.2.2.s.ws/\zaB q51.a=zaB t_1.2.2.s.a/\(q9/\(1:Nat)=1/\(12:Nat)=12/\(∀(i:Nat),i<12->[AV.int .i64 (t.2.2 i)]=[AV.int .i64 (t_1.2.1.2 i)])/\True)/\((40:Nat)=(40:TypeId)/\Tr 1 (q52.blocks=t_1.2.2.t.blocks)/\Tr 1 (q52.slots=t_1.2.2.t.slots)/\Tr 1 (q52.gens=t_1.2.2.t.gens)/\Tr 1 (q52.top=t_1.2.2.t.top)/\Tr 1 (q52.high=t_1.2.2.t.high)/\Tr 1 (q52.free=t_1.2.2.t.free)/\True)/\((47:Nat)=(47:TypeId)/\(1:Nat)=1/\(12:Nat)=12/\(∀(i:Nat),i<12->[AV.int .i64 (q50.r i)]=[AV.int .i64 (t_1.2.2.r i)])/\True)/\((27:Nat)=(27:TypeId)/\Tr 1 (q53.slot=t_1.2.2.h.slot)/\Tr 1 (q53.gen=t_1.2.2.h.gen)/\True)/\True; ((q2/\(Tr 1 (q23=q45.blocks)/\Tr 1 (q24=q45.slots)/\Tr 1 (q25=q45.gens)/\Tr 1 (q26=q45.top)/\Tr 1 (q27=q45.high)/\Tr 1 (q28=q45.free)/\True)/\((1:Nat)=1/\(12:Nat)=12/\(∀(i:Nat),i<12->[AV.int .i64 (t.2.2 i)]=[AV.int .i64 (q46.1 i)])/\True)/\Tr 1 (q29.getD (Int.toNat 0) 0=q48)/\Tr 1 (q29.getD (Int.toNat 1) 0=q49)/\True)/\true=true/\q4/\q31=devB x.1.ws/\q32=zaB x.1.a/\True)/\(zaG x.1/\zaR q45/\za1 q46.1/\I64 q48/\I64 q49)/\∀(y:Unit),True->q55/\q55)/\q44/\q44; (q21/\q6/\q5/\q21/\q8/\q7/\(Exx (StoreT×TickT×(Nat->Int)×Int×Int) fun x =>
 let q57:TickT:=x.2.1;
 let q58:(Nat->Int)×Int×Int:=x.2.2;
 let q59:Int×Int:=q58.2;
 let q60:Int:=q59.1;
 let q61:Int:=q59.2;
 let q62:IR:=insR x.1 q57 q58.1 q60 q61;
 let q63:StoreT:=q62.s;
 let q64:TickT:=q62.t;
 let q65:HandT:=q62.h;
 let q67:Prop:=Exx (Nat×(TickT×(Nat->Int))×IR) fun t_1 =>
 let q66:TickT:=t_1.2.1.1; I_1 t_1/\(q14/\Tr 2 (q2/\q2/\Tr 1 ((t.1:Int)=(t_1.1:Int))/\q2/\q2/\q2/\Tr 1 (q62.e=t_1.2.2.e)/\Tr 182 True))/\true=true/\(q3/\q2/\q2/\q2/\Tr 1 (q23=q66.blocks)/\Tr 1 (q24=q66.slots)/\Tr 1 (q25=q66.gens)/\Tr 1 (q26=q66.top)/\Tr 1 (q27=q66.high)/\Tr 1 (q28=q66.free)/\True)/\q4/\devB q63.ws=devB t_1.2.2.s.ws/\zaB q63.a=zaB t_1.2.2.s.a/\(q9/\(1:Nat)=1/\(12:Nat)=12/\(∀(i:Nat),i<12->[AV.int .i64 (t.2.2 i)]=[AV.int .i64 (t_1.2.1.2 i)])/\True)/\((40:Nat)=(40:TypeId)/\Tr 1 (q64.blocks=t_1.2.2.t.blocks)/\Tr 1 (q64.slots=t_1.2.2.t.slots)/\Tr 1 (q64.gens=t_1.2.2.t.gens)/\Tr 1 (q64.top=t_1.2.2.t.top)/\Tr 1 (q64.high=t_1.2.2.t.high)/\Tr 1 (q64.free=t_1.2.2.t.free)/\True)/\((47:Nat)=(47:TypeId)/\(1:Nat)=1/\(12:Nat)=12/\(∀(i:Nat),i<12->[AV.int .i64 (q62.r i)]=[AV.int .i64 (t_1.2.2.r i)])/\True)/\((27:Nat)=(27:TypeId)/\Tr 1 (q65.slot=t_1.2.2.h.slot)/\Tr 1 (q65.gen=t_1.2.2.h.gen)/\True)/\True;
 let q68:Prop:=q67/\q67; ((q2/\(Tr 1 (q23=q57.blocks)/\Tr 1 (q24=q57.slots)/\Tr 1 (q25=q57.gens)/\Tr 1 (q26=q57.top)/\Tr 1 (q27=q57.high)/\Tr 1 (q28=q57.free)/\True)/\((1:Nat)=1/\(12:Nat)=12/\(∀(i:Nat),i<12->[AV.int .i64 (t.2.2 i)]=[AV.int .i64 (q58.1 i)])/\True)/\Tr 1 (q29.getD (Int.toNat 0) 0=q60)/\Tr 1 (q29.getD (Int.toNat 1) 0=q61)/\True)/\true=true/\q4/\q31=devB x.1.ws/\q32=zaB x.1.a/\True)/\(zaG x.1/\zaR q57/\za1 q58.1/\I64 q60/\I64 q61)/\∀(y:Unit),True->q68/\q68/\q68)/\q56/\q56/\q56)/\∀(t_1:Nat×(TickT×(Nat->Int))×IR),
 let q69:Int:=(t_1.1:Int)+1; I_1 t_1->BC (!decide (t_1.2.2.e=(0:Int))) q10 (Tr 2 True/\Tr 2 True/\∀(b:Bool),(b=true ↔ t_1.2.2.h.slot=(t_1.1:Int)/\t_1.2.2.h.gen=(1:Int)/\True)->BC (!b) q10 (I64 q69/\Exx (Nat×(StoreT×TickT)×(Nat->Int)) fun t' =>
 let q70:TickT:=t'.snd.1.2;
 let q71:StoreT:=t'.snd.1.1; (I t'/\m t'<m t)/\(q14/\Tr 2 (q2/\q2/\Tr 1 (q69=(↑t'.fst:Int))/\Tr 186 True))/\true=true/\(q3/\q2/\q2/\q2/\Tr 1 (t_1.2.2.t.blocks=q70.blocks)/\Tr 1 (t_1.2.2.t.slots=q70.slots)/\Tr 1 (t_1.2.2.t.gens=q70.gens)/\Tr 1 (t_1.2.2.t.top=q70.top)/\Tr 1 (t_1.2.2.t.high=q70.high)/\Tr 1 (t_1.2.2.t.free=q70.free)/\True)/\q4/\devB t_1.2.2.s.ws=devB q71.ws/\zaB t_1.2.2.s.a=zaB q71.a/\(q9/\(1:Nat)=1/\(12:Nat)=12/\(∀(i:Nat),i<12->[AV.int .i64 (t_1.2.2.r i)]=[AV.int .i64 (t'.snd.2 i)])/\True)/\True))) (((0:Int) <= (x.length:Int)/\(x.length:Int) <= (x.length:Int)/\(↑(1:Nat):Int)*(x.length:Int) <= (281474976710656:Int)/\(x.length:Int) <= (9223372036854775807:Int))/\Exx ((Nat×(Nat->Bool)×EntT)×(StoreT×TickT)×(Nat->Int)->Prop) fun I=>Exx ((Nat×(Nat->Bool)×EntT)×(StoreT×TickT)×(Nat->Int)->Nat) fun m=>(Exx ((Nat×(Nat->Bool)×EntT)×(StoreT×TickT)×(Nat->Int)) fun t_1 =>
 let q72:StoreT×TickT:=t_1.2.1;
 let q73:TickT:=q72.2;
 let q74:StoreT:=q72.1;
 let q75:(Nat->Bool)×EntT:=t_1.1.2;
 let q76:EntT:=q75.2; I t_1/\(q14/\Tr 2 (q2/\q2/\Tr 5 ((true=true/\zaC/\(0:Nat)=0/\(1:Nat)=1/\(0:Nat)=0/\q15/\q15)/\q2/\Tr 1 ((0:Int)=(t_1.1.1:Int))/\Tr 179 True)))/\true=true/\(q3/\q2/\q2/\q2/\Tr 1 (q23=q73.blocks)/\Tr 1 (q24=q73.slots)/\Tr 1 (q25=q73.gens)/\Tr 1 (q26=q73.top)/\Tr 1 (q27=q73.high)/\Tr 1 (q28=q73.free)/\True)/\q4/\q31=devB q74.ws/\q32=zaB q74.a/\(q9/\(1:Nat)=1/\(12:Nat)=12/\(∀(i:Nat),i<12->[AV.int .i64 (t.2.2 i)]=[AV.int .i64 (t_1.2.2 i)])/\True)/\(q11/\(1:Nat)=1/\q15/\x.length <= (x.length:Int).toNat/\∀(i:Nat),i<x.length->[AV.bool false]=[AV.bool (q75.1 i)])/\((29:Nat)=(29:TypeId)/\Tr 1 ((0:Int)=q76.slot)/\Tr 1 ((0:Int)=q76.gen)/\Tr 1 ((0:Int)=q76.key)/\Tr 1 ((0:Int)=q76.value)/\True)/\True)/\∀(t:(Nat×(Nat->Bool)×EntT)×(StoreT×TickT)×(Nat->Int)),
 let q77:Int:=(t.1.1:Int);
 let q78:StoreT×TickT:=t.2.1;
 let q79:TickT:=q78.2;
 let q80:Int:=q79.blocks;
 let q81:Int:=q79.slots;
 let q82:Int:=q79.gens;
 let q83:Int:=q79.top;
 let q84:Int:=q79.high;
 let q85:Int:=q79.free;
 let q86:StoreT:=q78.1;
 let q87:Ob:=devB q86.ws;
 let q88:Ob:=zaB q86.a;
 let q89:(Nat->Bool)×EntT:=t.1.2;
 let q90:EntT:=q89.2; I t->BC (decide (q77<(x.length:Int))) (Exx ((Nat×(Nat->Bool)×EntT)×(TickT×(Nat->Int))×PR->Prop) fun I_1 =>
 let q103:Prop:=Exx (StoreT×TickT×(Nat->Int)) fun x_3 =>
 let q91:PR:=popR x_3.1 x_3.2.1 x_3.2.2;
 let q92:StoreT:=q91.s;
 let q93:TickT:=q91.t;
 let q94:EntT:=q91.x; ((q2/\(Tr 1 (q80=x_3.2.1.blocks)/\Tr 1 (q81=x_3.2.1.slots)/\Tr 1 (q82=x_3.2.1.gens)/\Tr 1 (q83=x_3.2.1.top)/\Tr 1 (q84=x_3.2.1.high)/\Tr 1 (q85=x_3.2.1.free)/\True)/\((1:Nat)=1/\(12:Nat)=12/\(∀(i:Nat),i<12->[AV.int .i64 (t.2.2 i)]=[AV.int .i64 (x_3.2.2 i)])/\True)/\True)/\true=true/\q4/\q87=devB x_3.1.ws/\q88=zaB x_3.1.a/\True)/\(zaG x_3.1/\zaR x_3.2.1/\za1 x_3.2.2)/\∀(y:Unit),True->Exx ((Nat×(Nat->Bool)×EntT)×(TickT×(Nat->Int))×PR) fun t_1 =>
 let q95:PR:=t_1.2.2;
 let q96:TickT×(Nat->Int):=t_1.2.1;
 let q97:TickT:=q96.1;
 let q98:StoreT:=q95.s;
 let q99:(Nat->Bool)×EntT:=t_1.1.2;
 let q100:EntT:=q99.2;
 let q101:TickT:=q95.t;
 let q102:EntT:=q95.x; I_1 t_1/\(q14/\Tr 2 (q2/\q2/\Tr 5 (q16/\q2/\Tr 1 (q77=(t_1.1.1:Int))/\q2/\q2/\q2/\Tr 1 (q91.e=q95.e)/\Tr 175 True)))/\true=true/\(q3/\q2/\q2/\q2/\Tr 1 (q80=q97.blocks)/\Tr 1 (q81=q97.slots)/\Tr 1 (q82=q97.gens)/\Tr 1 (q83=q97.top)/\Tr 1 (q84=q97.high)/\Tr 1 (q85=q97.free)/\True)/\q4/\devB q92.ws=devB q98.ws/\zaB q92.a=zaB q98.a/\(q9/\(1:Nat)=1/\(12:Nat)=12/\(∀(i:Nat),i<12->[AV.int .i64 (t.2.2 i)]=[AV.int .i64 (q96.2 i)])/\True)/\(q11/\(1:Nat)=1/\x.length=x.length/\x.length <= x.length/\∀(i:Nat),i<x.length->[AV.bool (q89.1 i)]=[AV.bool (q99.1 i)])/\(q12/\Tr 1 (q90.slot=q100.slot)/\Tr 1 (q90.gen=q100.gen)/\Tr 1 (q90.key=q100.key)/\Tr 1 (q90.value=q100.value)/\True)/\((40:Nat)=(40:TypeId)/\Tr 1 (q93.blocks=q101.blocks)/\Tr 1 (q93.slots=q101.slots)/\Tr 1 (q93.gens=q101.gens)/\Tr 1 (q93.top=q101.top)/\Tr 1 (q93.high=q101.high)/\Tr 1 (q93.free=q101.free)/\True)/\((47:Nat)=(47:TypeId)/\(1:Nat)=1/\(12:Nat)=12/\(∀(i:Nat),i<12->[AV.int .i64 (q91.r i)]=[AV.int .i64 (q95.r i)])/\True)/\((29:Nat)=(29:TypeId)/\Tr 1 (q94.slot=q102.slot)/\Tr 1 (q94.gen=q102.gen)/\Tr 1 (q94.key=q102.key)/\Tr 1 (q94.value=q102.value)/\True)/\True;
 let q104:Prop:=q103/\q103;
 let q118:Prop:=(Exx (StoreT×TickT×(Nat->Int)) fun x_3 =>
 let q105:PR:=popR x_3.1 x_3.2.1 x_3.2.2;
 let q106:StoreT:=q105.s;
 let q107:TickT:=q105.t;
 let q108:EntT:=q105.x;
 let q117:Prop:=Exx ((Nat×(Nat->Bool)×EntT)×(TickT×(Nat->Int))×PR) fun t_1 =>
 let q109:PR:=t_1.2.2;
 let q110:TickT×(Nat->Int):=t_1.2.1;
 let q111:TickT:=q110.1;
 let q112:StoreT:=q109.s;
 let q113:(Nat->Bool)×EntT:=t_1.1.2;
 let q114:EntT:=q113.2;
 let q115:TickT:=q109.t;
 let q116:EntT:=q109.x; I_1 t_1/\(q14/\Tr 2 (q2/\q2/\Tr 5 (q16/\q2/\Tr 1 (q77=(t_1.1.1:Int))/\q2/\q2/\q2/\Tr 1 (q105.e=q109.e)/\Tr 175 True)))/\true=true/\(q3/\q2/\q2/\q2/\Tr 1 (q80=q111.blocks)/\Tr 1 (q81=q111.slots)/\Tr 1 (q82=q111.gens)/\Tr 1 (q83=q111.top)/\Tr 1 (q84=q111.high)/\Tr 1 (q85=q111.free)/\True)/\q4/\devB q106.ws=devB q112.ws/\zaB q106.a=zaB q112.a/\(q9/\(1:Nat)=1/\(12:Nat)=12/\(∀(i:Nat),i<12->[AV.int .i64 (t.2.2 i)]=[AV.int .i64 (q110.2 i)])/\True)/\(q11/\(1:Nat)=1/\x.length=x.length/\x.length <= x.length/\∀(i:Nat),i<x.length->[AV.bool (q89.1 i)]=[AV.bool (q113.1 i)])/\(q12/\Tr 1 (q90.slot=q114.slot)/\Tr 1 (q90.gen=q114.gen)/\Tr 1 (q90.key=q114.key)/\Tr 1 (q90.value=q114.value)/\True)/\((40:Nat)=(40:TypeId)/\Tr 1 (q107.blocks=q115.blocks)/\Tr 1 (q107.slots=q115.slots)/\Tr 1 (q107.gens=q115.gens)/\Tr 1 (q107.top=q115.top)/\Tr 1 (q107.high=q115.high)/\Tr 1 (q107.free=q115.free)/\True)/\((47:Nat)=(47:TypeId)/\(1:Nat)=1/\(12:Nat)=12/\(∀(i:Nat),i<12->[AV.int .i64 (q105.r i)]=[AV.int .i64 (q109.r i)])/\True)/\((29:Nat)=(29:TypeId)/\Tr 1 (q108.slot=q116.slot)/\Tr 1 (q108.gen=q116.gen)/\Tr 1 (q108.key=q116.key)/\Tr 1 (q108.value=q116.value)/\True)/\True; ((q2/\(Tr 1 (q80=x_3.2.1.blocks)/\Tr 1 (q81=x_3.2.1.slots)/\Tr 1 (q82=x_3.2.1.gens)/\Tr 1 (q83=x_3.2.1.top)/\Tr 1 (q84=x_3.2.1.high)/\Tr 1 (q85=x_3.2.1.free)/\True)/\((1:Nat)=1/\(12:Nat)=12/\(∀(i:Nat),i<12->[AV.int .i64 (t.2.2 i)]=[AV.int .i64 (x_3.2.2 i)])/\True)/\True)/\true=true/\q4/\q87=devB x_3.1.ws/\q88=zaB x_3.1.a/\True)/\(zaG x_3.1/\zaR x_3.2.1/\za1 x_3.2.2)/\∀(y:Unit),True->q117/\q117)/\q104/\q104; ((Exx (StoreT×TickT×(Nat->Int)) fun x_3 =>
 let q119:PR:=popR x_3.1 x_3.2.1 x_3.2.2;
 let q120:StoreT:=q119.s;
 let q121:TickT:=q119.t;
 let q122:EntT:=q119.x;
 let q131:Prop:=Exx ((Nat×(Nat->Bool)×EntT)×(TickT×(Nat->Int))×PR) fun t_1 =>
 let q123:PR:=t_1.2.2;
 let q124:TickT×(Nat->Int):=t_1.2.1;
 let q125:TickT:=q124.1;
 let q126:StoreT:=q123.s;
 let q127:(Nat->Bool)×EntT:=t_1.1.2;
 let q128:EntT:=q127.2;
 let q129:TickT:=q123.t;
 let q130:EntT:=q123.x; I_1 t_1/\(q14/\Tr 2 (q2/\q2/\Tr 5 (q16/\q2/\Tr 1 (q77=(t_1.1.1:Int))/\q2/\q2/\q2/\Tr 1 (q119.e=q123.e)/\Tr 175 True)))/\true=true/\(q3/\q2/\q2/\q2/\Tr 1 (q80=q125.blocks)/\Tr 1 (q81=q125.slots)/\Tr 1 (q82=q125.gens)/\Tr 1 (q83=q125.top)/\Tr 1 (q84=q125.high)/\Tr 1 (q85=q125.free)/\True)/\q4/\devB q120.ws=devB q126.ws/\zaB q120.a=zaB q126.a/\(q9/\(1:Nat)=1/\(12:Nat)=12/\(∀(i:Nat),i<12->[AV.int .i64 (t.2.2 i)]=[AV.int .i64 (q124.2 i)])/\True)/\(q11/\(1:Nat)=1/\x.length=x.length/\x.length <= x.length/\∀(i:Nat),i<x.length->[AV.bool (q89.1 i)]=[AV.bool (q127.1 i)])/\(q12/\Tr 1 (q90.slot=q128.slot)/\Tr 1 (q90.gen=q128.gen)/\Tr 1 (q90.key=q128.key)/\Tr 1 (q90.value=q128.value)/\True)/\((40:Nat)=(40:TypeId)/\Tr 1 (q121.blocks=q129.blocks)/\Tr 1 (q121.slots=q129.slots)/\Tr 1 (q121.gens=q129.gens)/\Tr 1 (q121.top=q129.top)/\Tr 1 (q121.high=q129.high)/\Tr 1 (q121.free=q129.free)/\True)/\((47:Nat)=(47:TypeId)/\(1:Nat)=1/\(12:Nat)=12/\(∀(i:Nat),i<12->[AV.int .i64 (q119.r i)]=[AV.int .i64 (q123.r i)])/\True)/\((29:Nat)=(29:TypeId)/\Tr 1 (q122.slot=q130.slot)/\Tr 1 (q122.gen=q130.gen)/\Tr 1 (q122.key=q130.key)/\Tr 1 (q122.value=q130.value)/\True)/\True;
 let q132:Prop:=q131/\q131; ((q2/\(Tr 1 (q80=x_3.2.1.blocks)/\Tr 1 (q81=x_3.2.1.slots)/\Tr 1 (q82=x_3.2.1.gens)/\Tr 1 (q83=x_3.2.1.top)/\Tr 1 (q84=x_3.2.1.high)/\Tr 1 (q85=x_3.2.1.free)/\True)/\((1:Nat)=1/\(12:Nat)=12/\(∀(i:Nat),i<12->[AV.int .i64 (t.2.2 i)]=[AV.int .i64 (x_3.2.2 i)])/\True)/\True)/\true=true/\q4/\q87=devB x_3.1.ws/\q88=zaB x_3.1.a/\True)/\(zaG x_3.1/\zaR x_3.2.1/\za1 x_3.2.2)/\∀(y:Unit),True->q132/\q132/\q132)/\q118/\q118/\q118)/\∀(t_1:(Nat×(Nat->Bool)×EntT)×(TickT×(Nat->Int))×PR),
 let q133:PR:=t_1.2.2;
 let q134:Int:=q133.e;
 let q135:EntT:=q133.x;
 let q136:Int:=q135.slot;
 let q137:Prop:=(0:Int) <= q136/\q136<(x.length:Int);
 let q138:Nat:=q136.toNat;
 let q139:Nat:=0+q138;
 let q140:Prop:=q139<x.length;
 let q141:(Nat->Bool)×EntT:=t_1.1.2;
 let q142:Int:=q135.key;
 let q143:List Int:=x.getD q138 [];
 let q144:Int:=q143.getD (Int.toNat 0) 0;
 let q145:Int:=q135.value;
 let q146:Int:=q143.getD (Int.toNat 1) 0;
 let q147:Int:=(t_1.1.1:Int);
 let q148:EntT:=q141.2;
 let q149:Int:=q148.key;
 let q150:Int:=q148.slot;
 let q151:Int:=q147+1;
 let q152:TickT:=q133.t;
 let q153:StoreT:=q133.s;
 let q159:Prop:=q137/\q140/\x.length=x.length/\I64 q151/\Exx ((Nat×(Nat->Bool)×EntT)×(StoreT×TickT)×(Nat->Int)) fun t' =>
 let q154:StoreT×TickT:=t'.snd.1;
 let q155:TickT:=q154.2;
 let q156:StoreT:=q154.1;
 let q157:(Nat->Bool)×EntT:=t'.fst.2;
 let q158:EntT:=q157.2; (I t'/\m t'<m t)/\(q14/\Tr 2 (q2/\q2/\Tr 5 (q16/\q2/\Tr 1 (q151=(↑t'.fst.1:Int))/\Tr 179 True)))/\true=true/\(q3/\q2/\q2/\q2/\Tr 1 (q152.blocks=q155.blocks)/\Tr 1 (q152.slots=q155.slots)/\Tr 1 (q152.gens=q155.gens)/\Tr 1 (q152.top=q155.top)/\Tr 1 (q152.high=q155.high)/\Tr 1 (q152.free=q155.free)/\True)/\q4/\devB q153.ws=devB q156.ws/\zaB q153.a=zaB q156.a/\(q9/\(1:Nat)=1/\(12:Nat)=12/\(∀(i:Nat),i<12->[AV.int .i64 (q133.r i)]=[AV.int .i64 (t'.snd.2 i)])/\True)/\(q11/\(1:Nat)=1/\x.length=x.length/\x.length <= x.length/\∀(i:Nat),i<x.length->[AV.bool (if i=q139 then true else q141.1 i)]=[AV.bool (q157.1 i)])/\(q12/\Tr 1 (q136=q158.slot)/\Tr 1 (q135.gen=q158.gen)/\Tr 1 (q142=q158.key)/\Tr 1 (q145=q158.value)/\True)/\True; I_1 t_1->BC (!decide (q134=(0:Int))) q10 (BC (decide (q136<(0:Int))) q10 (BC (decide ((x.length:Int) <= q136)) q10 (q137/\q140/\BC (q141.1 q139) q10 (q137/\q6/\q5/\BC (!decide (q142=q144)) q10 (q137/\q8/\q7/\BC (!decide (q145=q146)) q10 (BC (decide ((0:Int)<q147)) (BC (decide (q142<q149)) q10 (BC (decide (q142=q149)) (BC (decide (q136<q150)) q10 q159) q159)) q159))))))) (Exx (((StoreT×TickT)×(Nat->Int))×Int->Prop) fun I =>
 let q162:Prop:=Exx (StoreT×(Nat->Int)) fun x=>((q2/\((1:Nat)=1/\(12:Nat)=12/\(∀(i:Nat),i<12->[AV.int .i64 (t.2.2 i)]=[AV.int .i64 (x.2 i)])/\True)/\True)/\true=true/\q4/\q87=devB x.1.ws/\q88=zaB x.1.a/\True)/\(zaG x.1/\za1 x.2)/\∀(y:Unit),True->Exx (((StoreT×TickT)×(Nat->Int))×Int) fun t_1 =>
 let q160:TickT:=t_1.1.1.2;
 let q161:StoreT:=t_1.1.1.1; I t_1/\Tr 3 (q2/\q2/\Tr 15 (Tr 1 ((fst x.1.ws x.2).e=t_1.2)/\Tr 171 True))/\true=true/\(q3/\q2/\q2/\q2/\Tr 1 (q80=q160.blocks)/\Tr 1 (q81=q160.slots)/\Tr 1 (q82=q160.gens)/\Tr 1 (q83=q160.top)/\Tr 1 (q84=q160.high)/\Tr 1 (q85=q160.free)/\True)/\q4/\devB x.1.ws=devB q161.ws/\zaB x.1.a=zaB q161.a/\(q9/\(1:Nat)=1/\(12:Nat)=12/\(∀(i:Nat),i<12->[AV.int .i64 (t.2.2 i)]=[AV.int .i64 (t_1.1.2 i)])/\True)/\True; (q162/\q162)/\∀(t:((StoreT×TickT)×(Nat->Int))×Int),
 let q163:TickT:=t.1.1.2;
 let q164:StoreT:=t.1.1.1; I t->BC (decide (t.2=(18:Int))) (Exx ((StoreT×TickT)×(Nat->Int)×List EntT) fun x =>
 let q165:Nat:=x.2.2.length; ((q2/\((1:Nat)=1/\(12:Nat)=12/\(∀(i:Nat),i<12->[AV.int .i64 (t.1.2 i)]=[AV.int .i64 (x.2.1 i)])/\True)/\(0=q165/\∀(i:Nat),
 let q166:EntT:=x.2.2.getD i entZ; i<q165->[]=[AV.int .i64 q166.slot,AV.int .i64 q166.gen,AV.int .i64 q166.key,AV.int .i64 q166.value])/\True)/\true=true/\(q3/\q2/\q2/\q2/\Tr 1 (q163.blocks=x.1.2.blocks)/\Tr 1 (q163.slots=x.1.2.slots)/\Tr 1 (q163.gens=x.1.2.gens)/\Tr 1 (q163.top=x.1.2.top)/\Tr 1 (q163.high=x.1.2.high)/\Tr 1 (q163.free=x.1.2.free)/\True)/\q4/\devB q164.ws=devB x.1.1.ws/\zaB q164.a=zaB x.1.1.a/\True)/\(zaG x.1.1/\zaR x.1.2/\x.1.2.high <= (1792:Int)/\za1 x.2.1/\EntsI x.2.2/\Exx (List EntT×List Int) fun q=>zd1 x.1.1 x.1.2 x.2.1 x.2.2 q)/\q1) q10)))))=(fnVC tb [(14,zaA zvX),(15,zaA zwP),(19,zaA zu9),(20,zaA zj2),(21,zq7),(22,zaA zzM)] Tryz.f4 forestDrainsC (fun x=>{ loops:=[(8,fdLA x),(17,fdLB x)],loose:=[(10,[1000,2,3,4]),(13,[1,5]),(19,[1000,2,3,4]),(27,[1,5]),(28,[1000,2,3,4]),(29,[1,2,3,4])],joins:=[(11,fdJ11 x),(20,fdJ20 x),(29,fdJ29)] }) (fun _=>none)):=by kernel_rfl

theorem forestDrains_ok:SpecOk Tryz.prog 4 (zaA forestDrainsC):=by
 refine zaJ zaM zaL (SPok.cons qgH (SPok.cons qcK (SPok.cons zx7 (SPok.cons zoK (SPok.cons zvJ (SPok.cons qhQ SPok.nil)))))) Tryz.func4 (by decide) (zaO fun _=>rfl) (Eq.mp zvK ?_)
 simp (maxSteps:=10000000) only [std,stdU,stdV,Exx,I64,Nat.reduceMul,Nat.reduceDiv,Nat.reduceAdd,Int.reduceToNat,↓and_self,and_self,and_self_left,and_self_right,zaP,zaK,za6,zfW,zc4,ziY,zeL,zcN,zgK,zrH]
 rintro es ⟨hI,hlen⟩ h25
 have hI':=es_I hI
 have hn25:es.length <= 25:=by omega
 have S0:=qdN (n:=150) (sl:=30) (by omega) (by omega) (by decide) (by omega)
 refine ⟨150,rfl,by omega,by omega,by omega,fun z=>z.1 <= es.length/\∃d G,FR1 30 z.2.1.1 z.2.1.2 d z.2.2 G [] (wL es z.1) z.1/\d.free=[]/\d.gens.length=z.1,⟨0,zdZ 150 0,zpQ ((150:Nat):Int) 30 100,zc6,⟨Nat.zero_le _,qgE,[],S0,rfl,rfl⟩,rfl,rfl,rfl,rfl,rfl,rfl,rfl,rfl,rfl,fun _ _=>rfl⟩,fun z=>es.length-z.1,fun i s t r hJ=>?_⟩
 obtain ⟨h3,d,G,h,hd,hg⟩:=hJ
 simp only at h3 h hg
 refine ⟨fun hlt=>?_,fun hge=>?_⟩
 ·have k0:=hI' i 0
  have k1:=hI' i 1
  obtain ⟨x,d',G',I⟩:=h.insert (k:=(es.getD i []).getD 0 0) (v:=(es.getD i []).getD 1 0) (by omega) (by omega) k0 k1
  obtain ⟨f1,f2,f3,f4⟩:=I.fresh hd
  have ex:x=wE es i:=qk6 (by rw [f1,hg]; rfl) f2 I.key I.value
  have hF:=(I.fr).perm (m:=wL es (i+1)) (by rw [wL_succ,ex]; exact (List.perm_append_singleton _ _).symm)
  refine ⟨by omega,by omega,by omega,by omega,by omega,by omega,by omega,by omega,fun z=>z.1=i/\z.2.2=insR s t r ((es.getD i []).getD 0 0) ((es.getD i []).getD 1 0),⟨s,r,fun _ _=>rfl,rfl,rfl,h.W,h.tI,h.rI,k0.1,k0.2,k1.1,k1.2,i,t,r,insR s t r ((es.getD i []).getD 0 0) ((es.getD i []).getD 1 0),⟨rfl,rfl⟩,rfl,rfl,rfl,rfl,rfl,rfl,rfl,rfl,rfl,rfl,fun _ _=>rfl,rfl,rfl,rfl,rfl,rfl,rfl,fun _ _=>rfl,rfl,rfl⟩,fun j t' r' q hz=>?_⟩
  obtain ⟨e1,e2⟩:=hz
  simp only at e1 e2
  subst e1 e2
  refine ⟨fun hn=>hn I.e,fun _ b hb=>⟨fun hf=>?_,fun _=>⟨by omega,by omega,j+1,_,_,_,⟨by simp only; omega,d',G',hF,f3,by rw [f4,hg]⟩,by simp only; omega,by omega,rfl,rfl,rfl,rfl,rfl,rfl,rfl,rfl,fun _ _=>rfl⟩⟩⟩
  rw [hb.2 ⟨by rw [I.h,ex]; rfl,by rw [I.h,ex]; rfl⟩] at hf
  cases hf
 ·have ei:i=es.length:=by omega
  subst ei
  refine ⟨by omega,by omega,by omega,by omega,fun z=>z.1.1 <= es.length/\∃d G m,FR1 30 z.2.1.1 z.2.1.2 d z.2.2 G [] m es.length/\Left es z.1.2.1 m/\m.length=es.length-z.1.1/\(0<z.1.1->∀y∈m,ahead z.1.2.2 y),⟨0,fun _=>false,entZ,s,t,r,⟨Nat.zero_le _,d,G,wL es es.length,h,fun y=>?_,?_,fun q=>absurd q (by simp)⟩,rfl,rfl,rfl,rfl,rfl,rfl,rfl,rfl,rfl,fun _ _=>rfl,fun _ _=>rfl,rfl,rfl,rfl,rfl⟩,fun z=>es.length-z.1.1,fun i f last s t r hJ=>?_⟩
  ·rw [wL_mem]
   exact ⟨fun ⟨k,k1,k2⟩=>⟨k,k1,k2,rfl⟩,fun ⟨k,k1,k2,_⟩=>⟨k,k1,k2⟩⟩
  ·simp [wL]
  obtain ⟨hi,d,G,m,h,hl,hm,hlast⟩:=hJ
  simp only at hi h hl hm hlast
  refine ⟨fun hlt=>?_,fun hge=>?_⟩
  ·have hne:m≠[]:=fun e=>by rw [e] at hm; simp at hm; omega
   obtain ⟨d',G',P⟩:=h.pop hne
   obtain ⟨k,m',k1,k2,k3,hp,hl'⟩:=qj0 hl h.hnd P.mem
   have hF:=P.fr m' hp
   have hml:m'.length=es.length-(i+1):=by
    have:=hp.length_eq
    simp only [List.length_cons] at this
    omega
   have hah:∀y∈m',ahead (popR s t r).x y:=fun y hy=>by
    rcases P.min y (hp.mem_iff.2 (List.mem_cons_of_mem _ hy)) with q | q
    ·have hnd:=HNodup.perm h.hnd hp
     exact absurd (by rw [q]) ((List.pairwise_cons.1 hnd).1 y hy)
    ·exact q
   have hfirst:0<i->ahead last (popR s t r).x:=fun q=>hlast q _ P.mem
   refine ⟨fun z=>z.1.1=i/\(∀j,j<es.length->z.1.2.1 j=f j)/\z.1.2.2=last/\z.2.2=popR s t r,⟨s,r,fun _ _=>rfl,rfl,rfl,h.W,h.tI,h.rI,i,f,last,t,r,popR s t r,⟨rfl,fun _ _=>rfl,rfl,rfl⟩,rfl,rfl,rfl,rfl,rfl,rfl,rfl,rfl,rfl,rfl,fun _ _=>rfl,fun _ _=>rfl,rfl,rfl,rfl,rfl,rfl,rfl,rfl,rfl,rfl,rfl,fun _ _=>rfl,rfl,rfl,rfl,rfl⟩,fun j f' last' t' r' q hz=>?_⟩
   obtain ⟨e1,e2,e3,e4⟩:=hz
   simp only at e1 e2 e3 e4
   subst e1 e3
   have qx:q.x=wE es k:=by rw [e4]; exact k2
   have qe:q.e=0:=by rw [e4]; exact P.e
   rw [<- e4] at hF hah hfirst
   have qs:q.x.slot=(k:Int):=by rw [qx]; rfl
   have qk:q.x.slot.toNat=k:=by rw [qs]; exact Int.toNat_natCast k
   have c1:q.x.key=(es.getD q.x.slot.toNat []).getD 0 0:=by rw [qk,qx]; rfl
   have c2:q.x.value=(es.getD q.x.slot.toNat []).getD 1 0:=by rw [qk,qx]; rfl
   have c3:f' q.x.slot.toNat=false:=by rw [qk,e2 k k1]; exact k3
   have fin:0 <= q.x.slot/\q.x.slot<(es.length:Int)/\q.x.slot.toNat<es.length/\-9223372036854775808 <= (j:Int)+1/\(j:Int)+1 <= 9223372036854775807/\∃a_21 a_22 b_7 a_23 b_8 b_9,(fun z:(Nat×(Nat->Bool)×EntT)×(StoreT×TickT)×(Nat->Int)=>z.1.1 <= es.length/\∃d G m,FR1 30 z.2.1.1 z.2.1.2 d z.2.2 G [] m es.length/\Left es z.1.2.1 m/\m.length=es.length-z.1.1/\(0<z.1.1->∀y∈m,ahead z.1.2.2 y)) ((a_21,a_22,b_7),(a_23,b_8),b_9)/\(fun z:(Nat×(Nat->Bool)×EntT)×(StoreT×TickT)×(Nat->Int)=>es.length-z.1.1) ((a_21,a_22,b_7),(a_23,b_8),b_9)<(fun z:(Nat×(Nat->Bool)×EntT)×(StoreT×TickT)×(Nat->Int)=>es.length-z.1.1) ((j,f,last'),(s,t),r)/\(j:Int)+1=(a_21:Int)/\q.t.blocks=b_8.blocks/\q.t.slots=b_8.slots/\q.t.gens=b_8.gens/\q.t.top=b_8.top/\q.t.high=b_8.high/\q.t.free=b_8.free/\q.s.ws=a_23.ws/\q.s.a=a_23.a/\(∀(i:Nat),i<12->[AV.int IntKind.i64 (q.r i)]=[AV.int IntKind.i64 (b_9 i)])/\(∀(i:Nat),i<es.length->[AV.bool (if i=q.x.slot.toNat then true else f' i)]=[AV.bool (a_22 i)])/\q.x.slot=b_7.slot/\q.x.gen=b_7.gen/\q.x.key=b_7.key/\q.x.value=b_7.value:=by
    refine ⟨by omega,by omega,by omega,by omega,by omega,j+1,fun i=>if i=k then true else f i,q.x,q.s,q.t,q.r,⟨by simp only; omega,d',G',m',hF,hl',by simp only; omega,fun _=>hah⟩,by simp only; omega,by omega,rfl,rfl,rfl,rfl,rfl,rfl,rfl,rfl,fun _ _=>rfl,fun i hi=>?_,rfl,rfl,rfl,rfl⟩
    rw [qk,e2 i hi]
   have hord:0<j->¬q.x.key<last'.key/\(q.x.key=last'.key->¬q.x.slot<last'.slot):=fun hj=>by
    have:=hfirst hj
    unfold ahead at this
    refine ⟨fun hk=>?_,fun hk hs=>?_⟩
    ·rw [if_neg (by omega)] at this; omega
    ·rw [if_pos hk.symm] at this
     by_cases e:last'.slot=q.x.slot
     ·omega
     ·rw [if_neg e] at this; omega
   refine ⟨fun n=>n qe,fun _=>⟨fun n=>by omega,fun _=>⟨fun n=>by omega,fun _=>⟨by omega,by omega,by omega,fun n=>(by rw [c3] at n; cases n),fun _=>⟨by omega,by omega,by omega,by omega,fun n=>n c1,fun _=>⟨by omega,by omega,by omega,by omega,fun n=>n c2,fun _=>⟨fun hj=>?_,fun _=>fin⟩⟩⟩⟩⟩⟩⟩
   obtain ⟨o1,o2⟩:=hord (by omega)
   exact ⟨fun n=>o1 n,fun _=>⟨fun e=>⟨fun n=>o2 e n,fun _=>fin⟩,fun _=>fin⟩⟩
  ·have ei:i=es.length:=by omega
   have e0:m=[]:=List.length_eq_zero_iff.1 (by rw [hm]; omega)
   subst e0
   obtain ⟨n1,n2,n3⟩:=h.popNo
   refine ⟨fun z=>z.2=18/\∃d G,FR1 30 z.1.1.1 z.1.1.2 d z.1.2 G [] [] es.length,⟨s,r,fun _ _=>rfl,rfl,rfl,h.W,h.rI,s,t,r,18,⟨rfl,d,G,h⟩,by rw [n2],rfl,rfl,rfl,rfl,rfl,rfl,rfl,rfl,fun _ _=>rfl⟩,fun s t r e hz=>?_⟩
   obtain ⟨e1,d,G,h⟩:=hz
   simp only at e1 h
   exact ⟨fun _=>⟨s,t,r,fun _ _=>rfl,[],rfl,fun i hi=>absurd hi (Nat.not_lt_zero _),rfl,rfl,rfl,rfl,rfl,rfl,rfl,rfl,h.W,h.tI,h.high,h.rI,h.ents,by obtain ⟨⟨a,b⟩,q⟩:=h.stands; exact ⟨a,b,q⟩⟩,fun n=>n e1⟩

end Yard
