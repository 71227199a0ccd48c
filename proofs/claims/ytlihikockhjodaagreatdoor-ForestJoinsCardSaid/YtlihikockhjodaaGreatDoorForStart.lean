import Derived.Test.YtlihikockhjodaaGreatDoorFRun
import Derived.Test.YtlihikockhjodaaGreatDoorForest5
import Derived.Test.YtlihikockhjodaaGreatDoorStand

namespace Yard
open Go Go.Sx Go.Proofs
set_option linter.unusedVariables false
set_option linter.unusedSimpArgs false
set_option maxRecDepth 4000
set_option maxHeartbeats 4000000

abbrev entC (x:EntT):Sx.Item := .cells 29 [i64 x.slot,i64 x.gen,i64 x.key,i64 x.value]
def awK (i:Nat):Int:=if i=2 then 4 else if i=1 then 3 else if i=0 then 5 else 0
theorem awK_I (i:Nat):I64 (awK i):=by unfold awK; (repeat' split) <;> exact ⟨by omega,by omega⟩
def awE:Nat->List EntT
 | 0=>[]
 | i+1=>⟨(i:Int),1,awK i,(i:Int)⟩ :: awE i
theorem qcG {x y:EntT} (h1:x.slot=y.slot) (h2:x.gen=y.gen) (h3:x.key=y.key) (h4:x.value=y.value):x=y:=by
 obtain ⟨a,b,c,d⟩:=x
 obtain ⟨a',b',c',d'⟩:=y
 simp only at h1 h2 h3 h4
 rw [h1,h2,h3,h4]
def zwJ:Ctr:=zbN Unit (fun _=>True) (fun _=>[]) (fun _ => .bool true)
def fwLA:LA:={ T:=Nat×(StoreT×TickT)×(Nat->Int),F:=fun t=>frm 94 [(1,.ptr 1 [] 0),(2,.ptr 5 [] 0),(3,i64 (t.1:Nat))],H:=fun t=>zoJ t.2.1.1 t.2.1.2++[zdN t.2.2],ρ₁:=zfP 5 [2],ρ₂:=zfP 5 [2] }
def fwJ9:LA:={ T:=Nat×(TickT×(Nat->Int))×IR,F:=fun t=>frm 94 [(1,.ptr 1 [] 0),(2,.ptr 5 [] 0),(3,i64 (t.1:Nat)),(4,.ptr 6 [] 0),(5,.ptr 7 [] 0),(7,i64 t.2.2.e)],H:=fun t=>zoJ t.2.2.s t.2.1.1++[zdN t.2.1.2,zz8 t.2.2.t,zdN t.2.2.r],ρ₁:=zfP 5 [2,4,5],ρ₂:=zfP 5 [2,4,5] }
def fwJ13:LA:={ T:=(TickT×(Nat->Int))×PR,F:=fun t=>frm 94 [(2,.ptr 5 [] 0),(9,.ptr 6 [] 0),(10,.ptr 7 [] 0),(11,i64 t.2.e)],H:=fun t=>zoJ t.2.s t.1.1++[zdN t.1.2,zdN t.2.r,entC t.2.x],ρ₁:=zfP 5 [2,9,10],ρ₂:=zfP 5 [2,9,10] }
theorem qqU:(
 let q1:Prop:=true=true/\zaC/\0=0;
 let q2:Prop:=(42:TypeId)=42;
 let q3:Prop:=(107:TypeId)=107/\q1/\q1/\True;
 let q4:Nat:=(TI.mk (TK.int IntKind.i64) 1 8 (ZL.cons (Value.int IntKind.i64 0) ZL.nil) false).size;
 let q5:Prop:=(47:TypeId)=47;
 let q6:Prop:=Exx Unit fun y=>((false=true/\True)/\true=true/\True)/\True; ∀(x:Unit),True->Exx (Nat×Int) fun x =>
 let q7:TickT:=zp1 (x.1:Int) x.2 100; ((Tr 1 (40=(x.1:Int))/\Tr 1 ((9:Int)=x.2)/\True)/\true=true/\True)/\(x.1 <= 3072/\I64 x.2)/\∀(y:Unit),True->Exx (Nat×(StoreT×TickT)×(Nat->Int)->Prop) fun I=>Exx (Nat×(StoreT×TickT)×(Nat->Int)->Nat) fun m=>(Exx (Nat×(StoreT×TickT)×(Nat->Int)) fun t =>
 let q8:TickT:=t.2.1.2;
 let q9:StoreT:=t.2.1.1; I t/\Tr 1 (q1/\q1/\Tr 1 (0=(t.1:Int))/\Tr 90 True)/\true=true/\(q2/\q1/\q1/\q1/\Tr 1 (q7.blocks=q8.blocks)/\Tr 1 (q7.slots=q8.slots)/\Tr 1 (q7.gens=q8.gens)/\Tr 1 (q7.top=q8.top)/\Tr 1 (q7.high=q8.high)/\Tr 1 (q7.free=q8.free)/\True)/\q3/\devB (zd5 x.1 0).ws=devB q9.ws/\zaB (zd5 x.1 0).a=zaB q9.a/\(47=(47:TypeId)/\1=1/\12=12/\(∀(i:Nat),i<12->[AV.int .i64 0]=[AV.int .i64 (t.2.2 i)])/\True)/\True)/\∀(t:Nat×(StoreT×TickT)×(Nat->Int)),
 let q10:Prop:=(0:Int) <= (t.1:Int)/\(t.1:Int)<(↑(3:Nat):Int);
 let q11:Nat:=0+(t.1:Int).toNat;
 let q12:Prop:=q11<3;
 let q13:TickT:=t.2.1.2;
 let q14:Int:=q13.blocks;
 let q15:Int:=q13.slots;
 let q16:Int:=q13.gens;
 let q17:Int:=q13.top;
 let q18:Int:=q13.high;
 let q19:Int:=q13.free;
 let q20:StoreT:=t.2.1.1;
 let q21:Ob:=devB q20.ws;
 let q22:Ob:=zaB q20.a; I t->BC (decide ((t.1:Int)<(3:Int))) (Exx (Nat×(TickT×(Nat->Int))×IR->Prop) fun I_1 =>
 let q32:Prop:=Exx (StoreT×TickT×(Nat->Int)×Int×Int) fun x =>
 let q23:TickT:=x.2.1;
 let q24:(Nat->Int)×Int×Int:=x.2.2;
 let q25:Int×Int:=q24.2;
 let q26:Int:=q25.1;
 let q27:Int:=q25.2;
 let q28:IR:=insR x.1 q23 q24.1 q26 q27;
 let q29:StoreT:=q28.s;
 let q30:TickT:=q28.t; ((q1/\(Tr 1 (q14=q23.blocks)/\Tr 1 (q15=q23.slots)/\Tr 1 (q16=q23.gens)/\Tr 1 (q17=q23.top)/\Tr 1 (q18=q23.high)/\Tr 1 (q19=q23.free)/\True)/\(1=1/\12=12/\(∀(i:Nat),i<12->[AV.int .i64 (t.2.2 i)]=[AV.int .i64 (q24.1 i)])/\True)/\Tr 1 ((if q11=2*1 / 1 then 4 else if q11=1*1 / 1 then 3 else if q11=0*1 / 1 then 5 else 0)=q26)/\Tr 1 ((t.1:Int)=q27)/\True)/\true=true/\q3/\q21=devB x.1.ws/\q22=zaB x.1.a/\True)/\(zaG x.1/\zaS q23/\zaT q24.1/\I64 q26/\I64 q27)/\∀(y:Unit),True->Exx (Nat×(TickT×(Nat->Int))×IR) fun t_1 =>
 let q31:TickT:=t_1.2.1.1; I_1 t_1/\Tr 1 (q1/\q1/\Tr 1 ((t.1:Int)=(t_1.1:Int))/\q1/\q1/\Tr 1 (Tr 1 (q28.e=t_1.2.2.e)/\Tr 86 True))/\true=true/\(q2/\q1/\q1/\q1/\Tr 1 (q14=q31.blocks)/\Tr 1 (q15=q31.slots)/\Tr 1 (q16=q31.gens)/\Tr 1 (q17=q31.top)/\Tr 1 (q18=q31.high)/\Tr 1 (q19=q31.free)/\True)/\q3/\devB q29.ws=devB t_1.2.2.s.ws/\zaB q29.a=zaB t_1.2.2.s.a/\(q5/\1=1/\12=12/\(∀(i:Nat),i<12->[AV.int .i64 (t.2.2 i)]=[AV.int .i64 (t_1.2.1.2 i)])/\True)/\(40=(40:TypeId)/\Tr 1 (q30.blocks=t_1.2.2.t.blocks)/\Tr 1 (q30.slots=t_1.2.2.t.slots)/\Tr 1 (q30.gens=t_1.2.2.t.gens)/\Tr 1 (q30.top=t_1.2.2.t.top)/\Tr 1 (q30.high=t_1.2.2.t.high)/\Tr 1 (q30.free=t_1.2.2.t.free)/\True)/\(47=(47:TypeId)/\1=1/\12=12/\(∀(i:Nat),i<12->[AV.int .i64 (q28.r i)]=[AV.int .i64 (t_1.2.2.r i)])/\True)/\True;
 let q33:Prop:=q32/\q32;
 let q44:Prop:=(Exx (StoreT×TickT×(Nat->Int)×Int×Int) fun x =>
 let q34:TickT:=x.2.1;
 let q35:(Nat->Int)×Int×Int:=x.2.2;
 let q36:Int×Int:=q35.2;
 let q37:Int:=q36.1;
 let q38:Int:=q36.2;
 let q39:IR:=insR x.1 q34 q35.1 q37 q38;
 let q40:StoreT:=q39.s;
 let q41:TickT:=q39.t;
 let q43:Prop:=Exx (Nat×(TickT×(Nat->Int))×IR) fun t_1 =>
 let q42:TickT:=t_1.2.1.1; I_1 t_1/\Tr 1 (q1/\q1/\Tr 1 ((t.1:Int)=(t_1.1:Int))/\q1/\q1/\Tr 1 (Tr 1 (q39.e=t_1.2.2.e)/\Tr 86 True))/\true=true/\(q2/\q1/\q1/\q1/\Tr 1 (q14=q42.blocks)/\Tr 1 (q15=q42.slots)/\Tr 1 (q16=q42.gens)/\Tr 1 (q17=q42.top)/\Tr 1 (q18=q42.high)/\Tr 1 (q19=q42.free)/\True)/\q3/\devB q40.ws=devB t_1.2.2.s.ws/\zaB q40.a=zaB t_1.2.2.s.a/\(q5/\1=1/\12=12/\(∀(i:Nat),i<12->[AV.int .i64 (t.2.2 i)]=[AV.int .i64 (t_1.2.1.2 i)])/\True)/\(40=(40:TypeId)/\Tr 1 (q41.blocks=t_1.2.2.t.blocks)/\Tr 1 (q41.slots=t_1.2.2.t.slots)/\Tr 1 (q41.gens=t_1.2.2.t.gens)/\Tr 1 (q41.top=t_1.2.2.t.top)/\Tr 1 (q41.high=t_1.2.2.t.high)/\Tr 1 (q41.free=t_1.2.2.t.free)/\True)/\(47=(47:TypeId)/\1=1/\12=12/\(∀(i:Nat),i<12->[AV.int .i64 (q39.r i)]=[AV.int .i64 (t_1.2.2.r i)])/\True)/\True; ((q1/\(Tr 1 (q14=q34.blocks)/\Tr 1 (q15=q34.slots)/\Tr 1 (q16=q34.gens)/\Tr 1 (q17=q34.top)/\Tr 1 (q18=q34.high)/\Tr 1 (q19=q34.free)/\True)/\(1=1/\12=12/\(∀(i:Nat),i<12->[AV.int .i64 (t.2.2 i)]=[AV.int .i64 (q35.1 i)])/\True)/\Tr 1 ((if q11=2*1 / 1 then 4 else if q11=1*1 / 1 then 3 else if q11=0*1 / 1 then 5 else 0)=q37)/\Tr 1 ((t.1:Int)=q38)/\True)/\true=true/\q3/\q21=devB x.1.ws/\q22=zaB x.1.a/\True)/\(zaG x.1/\zaS q34/\zaT q35.1/\I64 q37/\I64 q38)/\∀(y:Unit),True->q43/\q43)/\q33/\q33;
 let q45:Prop:=q12/\q32;
 let q46:Prop:=(q12/\q33)/\q45;
 let q47:Prop:=(q12/\q44)/\q46/\q46;
 let q48:Prop:=(q10/\q46)/\q10/\q45;
 let q49:Prop:=(q10/\q47)/\q48/\q48; ((q10/\(q12/\(Exx (StoreT×TickT×(Nat->Int)×Int×Int) fun x =>
 let q50:TickT:=x.2.1;
 let q51:(Nat->Int)×Int×Int:=x.2.2;
 let q52:Int×Int:=q51.2;
 let q53:Int:=q52.1;
 let q54:Int:=q52.2;
 let q55:IR:=insR x.1 q50 q51.1 q53 q54;
 let q56:StoreT:=q55.s;
 let q57:TickT:=q55.t;
 let q59:Prop:=Exx (Nat×(TickT×(Nat->Int))×IR) fun t_1 =>
 let q58:TickT:=t_1.2.1.1; I_1 t_1/\Tr 1 (q1/\q1/\Tr 1 ((t.1:Int)=(t_1.1:Int))/\q1/\q1/\Tr 1 (Tr 1 (q55.e=t_1.2.2.e)/\Tr 86 True))/\true=true/\(q2/\q1/\q1/\q1/\Tr 1 (q14=q58.blocks)/\Tr 1 (q15=q58.slots)/\Tr 1 (q16=q58.gens)/\Tr 1 (q17=q58.top)/\Tr 1 (q18=q58.high)/\Tr 1 (q19=q58.free)/\True)/\q3/\devB q56.ws=devB t_1.2.2.s.ws/\zaB q56.a=zaB t_1.2.2.s.a/\(q5/\1=1/\12=12/\(∀(i:Nat),i<12->[AV.int .i64 (t.2.2 i)]=[AV.int .i64 (t_1.2.1.2 i)])/\True)/\(40=(40:TypeId)/\Tr 1 (q57.blocks=t_1.2.2.t.blocks)/\Tr 1 (q57.slots=t_1.2.2.t.slots)/\Tr 1 (q57.gens=t_1.2.2.t.gens)/\Tr 1 (q57.top=t_1.2.2.t.top)/\Tr 1 (q57.high=t_1.2.2.t.high)/\Tr 1 (q57.free=t_1.2.2.t.free)/\True)/\(47=(47:TypeId)/\1=1/\12=12/\(∀(i:Nat),i<12->[AV.int .i64 (q55.r i)]=[AV.int .i64 (t_1.2.2.r i)])/\True)/\True;
 let q60:Prop:=q59/\q59; ((q1/\(Tr 1 (q14=q50.blocks)/\Tr 1 (q15=q50.slots)/\Tr 1 (q16=q50.gens)/\Tr 1 (q17=q50.top)/\Tr 1 (q18=q50.high)/\Tr 1 (q19=q50.free)/\True)/\(1=1/\12=12/\(∀(i:Nat),i<12->[AV.int .i64 (t.2.2 i)]=[AV.int .i64 (q51.1 i)])/\True)/\Tr 1 ((if q11=2*1 / 1 then 4 else if q11=1*1 / 1 then 3 else if q11=0*1 / 1 then 5 else 0)=q53)/\Tr 1 ((t.1:Int)=q54)/\True)/\true=true/\q3/\q21=devB x.1.ws/\q22=zaB x.1.a/\True)/\(zaG x.1/\zaS q50/\zaT q51.1/\I64 q53/\I64 q54)/\∀(y:Unit),True->q60/\q60/\q60)/\q44/\q44/\q44)/\q47/\q47/\q47)/\q49/\q49/\q49)/\∀(t_1:Nat×(TickT×(Nat->Int))×IR),
 let q61:Int:=(t_1.1:Int)+1; I_1 t_1->BC (!decide (t_1.2.2.e=(0:Int))) q6 (I64 q61/\Exx (Nat×(StoreT×TickT)×(Nat->Int)) fun t' =>
 let q62:TickT:=t'.snd.1.2;
 let q63:StoreT:=t'.snd.1.1; (I t'/\m t'<m t)/\Tr 1 (q1/\q1/\Tr 1 (q61=(↑t'.fst:Int))/\Tr 90 True)/\true=true/\(q2/\q1/\q1/\q1/\Tr 1 (t_1.2.2.t.blocks=q62.blocks)/\Tr 1 (t_1.2.2.t.slots=q62.slots)/\Tr 1 (t_1.2.2.t.gens=q62.gens)/\Tr 1 (t_1.2.2.t.top=q62.top)/\Tr 1 (t_1.2.2.t.high=q62.high)/\Tr 1 (t_1.2.2.t.free=q62.free)/\True)/\q3/\devB t_1.2.2.s.ws=devB q63.ws/\zaB t_1.2.2.s.a=zaB q63.a/\(q5/\1=1/\12=12/\(∀(i:Nat),i<12->[AV.int .i64 (t_1.2.2.r i)]=[AV.int .i64 (t'.snd.2 i)])/\True)/\True)) (Exx ((TickT×(Nat->Int))×PR->Prop) fun I =>
 let q67:Prop:=Exx (StoreT×TickT×(Nat->Int)) fun x =>
 let q64:PR:=popR x.1 x.2.1 x.2.2;
 let q65:StoreT:=q64.s;
 let q66:EntT:=q64.x; ((q1/\(Tr 1 (q14=x.2.1.blocks)/\Tr 1 (q15=x.2.1.slots)/\Tr 1 (q16=x.2.1.gens)/\Tr 1 (q17=x.2.1.top)/\Tr 1 (q18=x.2.1.high)/\Tr 1 (q19=x.2.1.free)/\True)/\(1=1/\12=12/\(∀(i:Nat),i<12->[AV.int .i64 (t.2.2 i)]=[AV.int .i64 (x.2.2 i)])/\True)/\True)/\true=true/\q3/\q21=devB x.1.ws/\q22=zaB x.1.a/\True)/\(zaG x.1/\zaS x.2.1/\zaT x.2.2)/\∀(y:Unit),True->Exx ((TickT×(Nat->Int))×PR) fun t_1=>I t_1/\Tr 2 (q1/\Tr 6 (q1/\q1/\Tr 1 (q64.e=t_1.2.e)/\Tr 82 True))/\true=true/\(q2/\q1/\q1/\q1/\Tr 1 (q14=t_1.1.1.blocks)/\Tr 1 (q15=t_1.1.1.slots)/\Tr 1 (q16=t_1.1.1.gens)/\Tr 1 (q17=t_1.1.1.top)/\Tr 1 (q18=t_1.1.1.high)/\Tr 1 (q19=t_1.1.1.free)/\True)/\q3/\devB q65.ws=devB t_1.2.s.ws/\zaB q65.a=zaB t_1.2.s.a/\(q5/\1=1/\12=12/\(∀(i:Nat),i<12->[AV.int .i64 (t.2.2 i)]=[AV.int .i64 (t_1.1.2 i)])/\True)/\(47=(47:TypeId)/\1=1/\12=12/\(∀(i:Nat),i<12->[AV.int .i64 (q64.r i)]=[AV.int .i64 (t_1.2.r i)])/\True)/\(29=(29:TypeId)/\Tr 1 (q66.slot=t_1.2.x.slot)/\Tr 1 (q66.gen=t_1.2.x.gen)/\Tr 1 (q66.key=t_1.2.x.key)/\Tr 1 (q66.value=t_1.2.x.value)/\True)/\True;
 let q68:Prop:=q67/\q67;
 let q73:Prop:=(Exx (StoreT×TickT×(Nat->Int)) fun x =>
 let q69:PR:=popR x.1 x.2.1 x.2.2;
 let q70:StoreT:=q69.s;
 let q71:EntT:=q69.x;
 let q72:Prop:=Exx ((TickT×(Nat->Int))×PR) fun t_1=>I t_1/\Tr 2 (q1/\Tr 6 (q1/\q1/\Tr 1 (q69.e=t_1.2.e)/\Tr 82 True))/\true=true/\(q2/\q1/\q1/\q1/\Tr 1 (q14=t_1.1.1.blocks)/\Tr 1 (q15=t_1.1.1.slots)/\Tr 1 (q16=t_1.1.1.gens)/\Tr 1 (q17=t_1.1.1.top)/\Tr 1 (q18=t_1.1.1.high)/\Tr 1 (q19=t_1.1.1.free)/\True)/\q3/\devB q70.ws=devB t_1.2.s.ws/\zaB q70.a=zaB t_1.2.s.a/\(q5/\1=1/\12=12/\(∀(i:Nat),i<12->[AV.int .i64 (t.2.2 i)]=[AV.int .i64 (t_1.1.2 i)])/\True)/\(47=(47:TypeId)/\1=1/\12=12/\(∀(i:Nat),i<12->[AV.int .i64 (q69.r i)]=[AV.int .i64 (t_1.2.r i)])/\True)/\(29=(29:TypeId)/\Tr 1 (q71.slot=t_1.2.x.slot)/\Tr 1 (q71.gen=t_1.2.x.gen)/\Tr 1 (q71.key=t_1.2.x.key)/\Tr 1 (q71.value=t_1.2.x.value)/\True)/\True; ((q1/\(Tr 1 (q14=x.2.1.blocks)/\Tr 1 (q15=x.2.1.slots)/\Tr 1 (q16=x.2.1.gens)/\Tr 1 (q17=x.2.1.top)/\Tr 1 (q18=x.2.1.high)/\Tr 1 (q19=x.2.1.free)/\True)/\(1=1/\12=12/\(∀(i:Nat),i<12->[AV.int .i64 (t.2.2 i)]=[AV.int .i64 (x.2.2 i)])/\True)/\True)/\true=true/\q3/\q21=devB x.1.ws/\q22=zaB x.1.a/\True)/\(zaG x.1/\zaS x.2.1/\zaT x.2.2)/\∀(y:Unit),True->q72/\q72)/\q68/\q68; ((Exx (StoreT×TickT×(Nat->Int)) fun x =>
 let q74:PR:=popR x.1 x.2.1 x.2.2;
 let q75:StoreT:=q74.s;
 let q76:EntT:=q74.x;
 let q77:Prop:=Exx ((TickT×(Nat->Int))×PR) fun t_1=>I t_1/\Tr 2 (q1/\Tr 6 (q1/\q1/\Tr 1 (q74.e=t_1.2.e)/\Tr 82 True))/\true=true/\(q2/\q1/\q1/\q1/\Tr 1 (q14=t_1.1.1.blocks)/\Tr 1 (q15=t_1.1.1.slots)/\Tr 1 (q16=t_1.1.1.gens)/\Tr 1 (q17=t_1.1.1.top)/\Tr 1 (q18=t_1.1.1.high)/\Tr 1 (q19=t_1.1.1.free)/\True)/\q3/\devB q75.ws=devB t_1.2.s.ws/\zaB q75.a=zaB t_1.2.s.a/\(q5/\1=1/\12=12/\(∀(i:Nat),i<12->[AV.int .i64 (t.2.2 i)]=[AV.int .i64 (t_1.1.2 i)])/\True)/\(47=(47:TypeId)/\1=1/\12=12/\(∀(i:Nat),i<12->[AV.int .i64 (q74.r i)]=[AV.int .i64 (t_1.2.r i)])/\True)/\(29=(29:TypeId)/\Tr 1 (q76.slot=t_1.2.x.slot)/\Tr 1 (q76.gen=t_1.2.x.gen)/\Tr 1 (q76.key=t_1.2.x.key)/\Tr 1 (q76.value=t_1.2.x.value)/\True)/\True;
 let q78:Prop:=q77/\q77; ((q1/\(Tr 1 (q14=x.2.1.blocks)/\Tr 1 (q15=x.2.1.slots)/\Tr 1 (q16=x.2.1.gens)/\Tr 1 (q17=x.2.1.top)/\Tr 1 (q18=x.2.1.high)/\Tr 1 (q19=x.2.1.free)/\True)/\(1=1/\12=12/\(∀(i:Nat),i<12->[AV.int .i64 (t.2.2 i)]=[AV.int .i64 (x.2.2 i)])/\True)/\True)/\true=true/\q3/\q21=devB x.1.ws/\q22=zaB x.1.a/\True)/\(zaG x.1/\zaS x.2.1/\zaT x.2.2)/\∀(y:Unit),True->q78/\q78/\q78)/\q73/\q73/\q73)/\∀(t:(TickT×(Nat->Int))×PR),I t->BC (decide (t.2.e=(0:Int))) (BC (decide (t.2.x.key=(3:Int))) (BC (decide (t.2.x.value=(1:Int))) (((0:Int) <= (0:Int)/\0<(↑(12:Nat):Int))/\(0:Int).toNat<12/\BC (decide (t.2.r (Int.toNat 0)=(0:Int))) (((0:Int) <= (1:Int)/\1<(↑(12:Nat):Int))/\(1:Int).toNat<12/\BC (!decide (t.2.r (Int.toNat 1)=(0:Int))) (Exx (Nat->Int) fun x=>(((1=1/\12=12/\(∀(i:Nat),i<12->[AV.int .i64 (t.1.2 i)]=[AV.int .i64 (x i)])/\True)/\True)/\true=true/\True)/\zaT x/\∀(y:Unit),True->BC (decide ((↑(rootN x 12):Int)=(3:Int))) (Exx (Nat->Int) fun x=>(((1=1/\12=12/\(∀(i:Nat),i<12->[AV.int .i64 (t.2.r i)]=[AV.int .i64 (x i)])/\True)/\True)/\true=true/\True)/\zaT x/\∀(y:Unit),True->Exx Unit fun y=>((decide ((↑(rootN x 12):Int)=(2:Int))=true/\True)/\true=true/\True)/\True) q6) q6) q6) q6) q6) q6))=(fnVC tb [(15,zaA zxB),(19,zaA zvW),(20,zaA znZ),(27,zaA zgS)] Tryz.f14 zwJ (fun x=>{ loops:=[(6,fwLA)],loose:=[(8,[1000,2,3,4]),(11,[1,5]),(12,[1000,2,3,4])],joins:=[(9,fwJ9),(13,fwJ13)] }) (fun _=>none)):=by kernel_rfl

theorem qhG:SpecOk Tryz.prog 14 (zaA zwJ):=by
 refine zaK zaM zaL (SPok.cons qdH (SPok.cons zyT (SPok.cons zy5 (SPok.cons zkN SPok.nil)))) Tryz.func14 (by decide) (zaO fun _=>rfl) (Eq.mp qqU ?_)
 simp (maxSteps:=10000000) only [std,stdU,stdV,Exx,I64,Nat.reduceMul,Nat.reduceDiv,Nat.reduceAdd,Int.reduceToNat,↓and_self,and_self,and_self_left,and_self_right,zaQ,zaI,zaZ,zfH,zc8,zi6,zd9,zcS,zgR,zrS]
 have S0:=qeL (n:=40) (sl:=9) (by omega) (by omega) (by decide) (by omega)
 refine ⟨40,rfl,by omega,by omega,by omega,fun z=>z.1 <= 3/\∃d G,FR1 9 z.2.1.1 z.2.1.2 d z.2.2 G [] (awE z.1) z.1/\d.free=[]/\d.gens.length=z.1,⟨0,zd5 40 0,zp1 ((40:Nat):Int) 9 100,zdM,⟨Nat.zero_le _,qhD,[],S0,rfl,rfl⟩,rfl,rfl,rfl,rfl,rfl,rfl,rfl,rfl,rfl,fun _ _=>rfl⟩,fun z=>3-z.1,fun i s t r hJ=>?_⟩
 obtain ⟨h3,d,G,h,hd,hg⟩:=hJ
 simp only at h3 h hg
 refine ⟨fun hlt=>?_,fun hge=>?_⟩
 ·obtain ⟨x,d',G',I⟩:=h.insert (k:=awK i) (v:=(i:Int)) (by omega) (by omega) (awK_I i) ⟨by omega,by omega⟩
  obtain ⟨f1,f2,f3,f4⟩:=I.fresh hd
  have ex:x=⟨(i:Int),1,awK i,(i:Int)⟩:=qcG (by rw [f1,hg]) f2 I.key I.value
  have hK:=awK_I i
  have hF:=I.fr
  rw [ex] at hF
  refine ⟨by omega,by omega,by omega,fun z=>z.1=i/\z.2.2=insR s t r (awK i) (i:Int),⟨s,r,fun _ _=>rfl,rfl,rfl,h.W,h.tI,h.rI,hK.1,hK.2,by omega,by omega,i,t,r,insR s t r (awK i) (i:Int),⟨rfl,rfl⟩,rfl,rfl,rfl,rfl,rfl,rfl,rfl,rfl,rfl,rfl,fun _ _=>rfl,rfl,rfl,rfl,rfl,rfl,rfl,fun _ _=>rfl⟩,fun j t' r' q hz=>?_⟩
  obtain ⟨e1,e2⟩:=hz
  simp only at e1 e2
  subst e1 e2
  exact ⟨fun hn=>hn I.e,fun _=>⟨by omega,by omega,j+1,_,_,_,⟨by simp only; omega,d',G',hF,f3,by rw [f4,hg]⟩,by simp only; omega,by omega,rfl,rfl,rfl,rfl,rfl,rfl,rfl,rfl,fun _ _=>rfl⟩⟩
 ·have e3:i=3:=by omega
  subst e3
  obtain ⟨d',G',P⟩:=h.pop (by simp [awE])
  have ex:(popR s t r).x=⟨1,1,3,1⟩:=by
   have hm:=P.mem
   have hy:=P.min ⟨1,1,3,1⟩ (by decide)
   generalize (popR s t r).x=x at hm hy
   have e:awE 3=[⟨2,1,4,2⟩,⟨1,1,3,1⟩,⟨0,1,5,0⟩]:=rfl
   rw [e] at hm
   simp only [List.mem_cons,List.not_mem_nil,or_false] at hm
   rcases hm with rfl | rfl | rfl
   ·exact absurd hy (by decide)
   ·rfl
   ·exact absurd hy (by decide)
  have F:=P.fr [⟨2,1,4,2⟩,⟨0,1,5,0⟩] (by
   rw [ex]
   exact List.Perm.swap ..)
  have c3:rootN r 12=3:=by rw [h.cnt]; rfl
  have c2:rootN (popR s t r).r 12=2:=by rw [F.cnt]; rfl
  have b0:=zlW (popR s t r).r 12 0 (by omega)
  have b1:=zlW (popR s t r).r 12 1 (by omega)
  rw [c2] at b0 b1
  refine ⟨fun z=>z.1.2=r/\z.2=popR s t r,⟨s,r,fun _ _=>rfl,rfl,rfl,h.W,h.tI,h.rI,t,r,popR s t r,⟨rfl,rfl⟩,rfl,rfl,rfl,rfl,rfl,rfl,rfl,rfl,rfl,fun _ _=>rfl,fun _ _=>rfl,rfl,rfl,rfl,rfl⟩,fun t' r' q hz=>?_⟩
  obtain ⟨e1,e2⟩:=hz
  simp only at e1 e2
  subst e1
  have hF:=F.rI
  rw [<- e2] at ex c2 b0 b1 hF
  have he:q.e=0:=by rw [e2]; exact P.e
  have q0:q.r 0=0:=Classical.byContradiction fun hn=>absurd (b0.2 hn) (by decide)
  have q1:q.r 1≠0:=b1.1 (by decide)
  exact ⟨fun _=>⟨fun _=>⟨fun _=>⟨by omega,by omega,by omega,fun _=>⟨by omega,by omega,by omega,fun _=>⟨r',fun _ _=>rfl,h.rI,fun _=>⟨q.r,fun _ _=>rfl,hF,by rw [c2]; rfl⟩,fun hn=>hn (by rw [c3]; rfl)⟩,fun hn=>q1 hn⟩,fun hn=>hn q0⟩,fun hn=>hn (by rw [ex])⟩,fun hn=>hn (by rw [ex])⟩,fun hn=>hn he⟩


end Yard
