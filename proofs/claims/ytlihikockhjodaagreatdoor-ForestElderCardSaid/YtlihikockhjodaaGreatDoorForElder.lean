import Derived.Test.YtlihikockhjodaaGreatDoorForStart
import Derived.Test.YtlihikockhjodaaGreatDoorFRun3
import Derived.Test.YtlihikockhjodaaGreatDoorRefList
import Derived.Test.YtlihikockhjodaaGreatDoorForWant

namespace Yard
open Go Go.Sx Go.Proofs
set_option linter.unusedVariables false
set_option linter.unusedSimpArgs false
set_option maxRecDepth 4000
set_option maxHeartbeats 4000000

abbrev FeX:Type:=List (List Int)×List AcT
def forestElderC:Ctr:=zcR FeX (fun x=>((∀e∈x.1,∀v∈e,I64 v)/\x.1.length <= maxLen)/\(∀a∈x.2,AcI a)/\x.2.length <= maxLen) (fun x=>[esA x.1,actsA x.2]) (fun _ => .bool true)
def feF (x:FeX) (l:List (Nat×AV)):Fr:=frm 181 ((0,esA x.1) :: (1,actsA x.2) :: (5,.ptr 1 [] 0) :: (6,.ptr 5 [] 0) :: l)
def feLA (x:FeX):LA:={ T:=Nat×(StoreT×TickT)×(Nat->Int),F:=fun t=>feF x [(7,i64 (t.1:Nat))],H:=fun t=>zkP t.2.1.1 t.2.1.2++[zb0 t.2.2],ρ₁:=ze5 5 [6],ρ₂:=ze5 5 [6] }
def feJ11 (x:FeX):LA:={ T:=Nat×(TickT×(Nat->Int))×IR,F:=fun t=>feF x [(7,i64 (t.1:Nat)),(8,.ptr 6 [] 0),(9,.ptr 7 [] 0),(11,i64 t.2.2.e)],H:=fun t=>zkP t.2.2.s t.2.1.1++[zb0 t.2.1.2,zn2 t.2.2.t,zb0 t.2.2.r],ρ₁:=ze5 5 [6,8,9],ρ₂:=ze5 5 [6,8,9] }
abbrev FeT:Type:=(List EntT×Nat)×Int×TickT×(Nat->Int)
def feJ15 (x:FeX):LA:={ T:=FeT×StoreT,F:=fun t=>feF x [(12,.sl 6 [] 0 4 0 t.1.1.1.length t.1.1.2),(13,i64 t.1.2.1)],H:=fun t=>zkP t.2 t.1.2.2.1++[zb0 t.1.2.2.2,entR t.1.1.2 t.1.1.1],ρ₁:=ze5 5 [6,12],ρ₂:=ze5 5 [6,12] }
def feLB (x:FeX):LA:={ T:=(FeT×StoreT)×Nat×TickT×(Nat->Int),F:=fun t=>feF x [(12,.sl 6 [] 0 4 0 t.1.1.1.1.length t.1.1.1.2),(13,i64 t.1.1.2.1),(14,.ptr 7 [] 0),(15,.ptr 8 [] 0),(16,i64 (t.2.1:Nat))],H:=fun t=>zkP t.1.2 t.1.1.2.2.1++[zb0 t.1.1.2.2.2,entR t.1.1.1.2 t.1.1.1.1,zn2 t.2.2.1,zb0 t.2.2.2],ρ₁:=ze5 5 [6,12,14,15],ρ₂:=ze5 5 [6,12,14,15] }
def feJ22 (x:FeX):LA:={ T:=(FeT×PR)×Nat×TickT×(Nat->Int),F:=fun t=>feF x [(12,.sl 6 [] 0 4 0 t.1.1.1.1.length t.1.1.1.2),(13,i64 t.1.1.2.1),(14,.ptr 7 [] 0),(15,.ptr 8 [] 0),(16,i64 (t.2.1:Nat)),(17,.ptr 9 [] 0),(18,.ptr 10 [] 0),(20,i64 t.1.2.e)],H:=fun t=>zkP t.1.2.s t.1.1.2.2.1++[zb0 t.1.1.2.2.2,entR t.1.1.1.2 t.1.1.1.1,zn2 t.2.2.1,zb0 t.2.2.2,zn2 t.1.2.t,zb0 t.1.2.r],ρ₁:=ze5 5 [6,12,14,15,17,18],ρ₂:=ze5 5 [6,12,14,15,17,18] }
def feJ25 (x:FeX):LA:={ T:=(FeT×IR)×Nat×TickT×(Nat->Int),F:=fun t=>feF x [(12,.sl 6 [] 0 4 0 t.1.1.1.1.length t.1.1.1.2),(13,i64 t.1.1.2.1),(14,.ptr 7 [] 0),(15,.ptr 8 [] 0),(16,i64 (t.2.1:Nat)),(21,.ptr 9 [] 0),(22,.ptr 10 [] 0),(24,i64 t.1.2.e)],H:=fun t=>zkP t.1.2.s t.1.1.2.2.1++[zb0 t.1.1.2.2.2,entR t.1.1.1.2 t.1.1.1.1,zn2 t.2.2.1,zb0 t.2.2.2,zn2 t.1.2.t,zb0 t.1.2.r],ρ₁:=ze5 5 [6,12,14,15,21,22],ρ₂:=ze5 5 [6,12,14,15,21,22] }
theorem zvO:(
 let q1:Prop:=Exx Unit fun x=>Tr 1 (true=true/\True)/\Tr 1 (∀(y:Unit),True->Exx Unit fun y=>((true=true/\True)/\true=true/\True)/\True);
 let q2:Prop:=true=true/\zaC/\(0:Nat)=0;
 let q3:Prop:=(42:TypeId)=42;
 let q4:Prop:=q2/\True;
 let q5:Prop:=(107:TypeId)=107/\q2/\q4;
 let q6:Prop:=(0:Int)<(↑(2:Nat):Int);
 let q7:Prop:=(1:Int)<(↑(2:Nat):Int);
 let q8:Prop:=(47:TypeId)=47;
 let q9:Prop:=Exx Unit fun y=>((false=true/\True)/\true=true/\True)/\True;
 let q10:Prop:=(29:TypeId)=29;
 let q11:Prop:=(40:TypeId)=40; ∀(x:List (List Int)×List AcT),
 let q13:Prop:=(2:Nat)=2/\x.1.length=x.1.length/\∀(i:Nat),
 let q12:List AV:=[AV.arr 1 2 fun j=>[AV.int .i64 ((x.1.getD i []).getD j 0)]]; i<x.1.length->q12=q12;
 let q17:Prop:=(4:Nat)=4/\x.2.length=x.2.length/\∀(i:Nat),
 let q14:Bool×Int×Int:=(x.2.getD i acZ).2;
 let q15:Int×Int:=q14.2;
 let q16:List AV:=[AV.bool (x.2.getD i acZ).1,AV.bool q14.1,AV.int .i64 q15.1,AV.int .i64 q15.2]; i<x.2.length->q16=q16; ((∀(e:List Int),e∈x.1->∀(v:Int),v∈e->I64 v)/\x.1.length <= maxLen)/\(∀(a:Bool×Bool×Int×Int),a∈x.2->AcI a)/\x.2.length <= maxLen->Exx Unit fun x_1=>Tr 1 (true=true/\True)/\Tr 1 (∀(y:Unit),True->BC (decide ((15:Int)<(x.1.length:Int))) q1 (BC (decide ((12:Int)<(x.2.length:Int))) q1 (Exx (Nat×Int) fun x_2 =>
 let q18:TickT:=zn3 (x_2.1:Int) x_2.2 100; ((Tr 1 ((200:Int)=(x_2.1:Int))/\Tr 1 ((40:Int)=x_2.2)/\True)/\true=true/\True)/\(x_2.1 <= 3072/\I64 x_2.2)/\∀(y:Unit),True->Exx (Nat×(StoreT×TickT)×(Nat->Int)->Prop) fun I=>Exx (Nat×(StoreT×TickT)×(Nat->Int)->Nat) fun m=>(Exx (Nat×(StoreT×TickT)×(Nat->Int)) fun t =>
 let q19:TickT:=t.2.1.2;
 let q20:StoreT:=t.2.1.1; I t/\(q13/\q17/\Tr 3 (q2/\q2/\Tr 1 ((0:Int)=(t.1:Int))/\Tr 173 True))/\true=true/\(q3/\q2/\q2/\q2/\Tr 1 (q18.blocks=q19.blocks)/\Tr 1 (q18.slots=q19.slots)/\Tr 1 (q18.gens=q19.gens)/\Tr 1 (q18.top=q19.top)/\Tr 1 (q18.high=q19.high)/\Tr 1 (q18.free=q19.free)/\True)/\q5/\devB (zdI x_2.1 0).ws=devB q20.ws/\zaA (zdI x_2.1 0).a=zaA q20.a/\((47:Nat)=(47:TypeId)/\(1:Nat)=1/\(12:Nat)=12/\(∀(i:Nat),i<12->[AV.int .i64 0]=[AV.int .i64 (t.2.2 i)])/\True)/\True)/\∀(t:Nat×(StoreT×TickT)×(Nat->Int)),
 let q21:Prop:=(t.1:Int)<(x.1.length:Int);
 let q22:Prop:=(0:Int) <= (t.1:Int)/\q21;
 let q23:TickT:=t.2.1.2;
 let q24:Int:=q23.blocks;
 let q25:Int:=q23.slots;
 let q26:Int:=q23.gens;
 let q27:Int:=q23.top;
 let q28:Int:=q23.high;
 let q29:Int:=q23.free;
 let q30:List Int:=x.1.getD (t.1:Int).toNat [];
 let q31:StoreT:=t.2.1.1;
 let q32:Ob:=devB q31.ws;
 let q33:Ob:=zaA q31.a; I t->BC (decide q21) (Exx (Nat×(TickT×(Nat->Int))×IR->Prop) fun I_1 =>
 let q43:Prop:=Exx (StoreT×TickT×(Nat->Int)×Int×Int) fun x =>
 let q34:TickT:=x.2.1;
 let q35:(Nat->Int)×Int×Int:=x.2.2;
 let q36:Int×Int:=q35.2;
 let q37:Int:=q36.1;
 let q38:Int:=q36.2;
 let q39:IR:=insR x.1 q34 q35.1 q37 q38;
 let q40:StoreT:=q39.s;
 let q41:TickT:=q39.t; ((q2/\(Tr 1 (q24=q34.blocks)/\Tr 1 (q25=q34.slots)/\Tr 1 (q26=q34.gens)/\Tr 1 (q27=q34.top)/\Tr 1 (q28=q34.high)/\Tr 1 (q29=q34.free)/\True)/\((1:Nat)=1/\(12:Nat)=12/\(∀(i:Nat),i<12->[AV.int .i64 (t.2.2 i)]=[AV.int .i64 (q35.1 i)])/\True)/\Tr 1 (q30.getD (Int.toNat 0) 0=q37)/\Tr 1 (q30.getD (Int.toNat 1) 0=q38)/\True)/\true=true/\q5/\q32=devB x.1.ws/\q33=zaA x.1.a/\True)/\(zaF x.1/\zaR q34/\zaY q35.1/\I64 q37/\I64 q38)/\∀(y:Unit),True->Exx (Nat×(TickT×(Nat->Int))×IR) fun t_1 =>
 let q42:TickT:=t_1.2.1.1; I_1 t_1/\(q13/\q17/\Tr 3 (q2/\q2/\Tr 1 ((t.1:Int)=(t_1.1:Int))/\q2/\q2/\Tr 1 (Tr 1 (q39.e=t_1.2.2.e)/\Tr 169 True)))/\true=true/\(q3/\q2/\q2/\q2/\Tr 1 (q24=q42.blocks)/\Tr 1 (q25=q42.slots)/\Tr 1 (q26=q42.gens)/\Tr 1 (q27=q42.top)/\Tr 1 (q28=q42.high)/\Tr 1 (q29=q42.free)/\True)/\q5/\devB q40.ws=devB t_1.2.2.s.ws/\zaA q40.a=zaA t_1.2.2.s.a/\(q8/\(1:Nat)=1/\(12:Nat)=12/\(∀(i:Nat),i<12->[AV.int .i64 (t.2.2 i)]=[AV.int .i64 (t_1.2.1.2 i)])/\True)/\((40:Nat)=(40:TypeId)/\Tr 1 (q41.blocks=t_1.2.2.t.blocks)/\Tr 1 (q41.slots=t_1.2.2.t.slots)/\Tr 1 (q41.gens=t_1.2.2.t.gens)/\Tr 1 (q41.top=t_1.2.2.t.top)/\Tr 1 (q41.high=t_1.2.2.t.high)/\Tr 1 (q41.free=t_1.2.2.t.free)/\True)/\((47:Nat)=(47:TypeId)/\(1:Nat)=1/\(12:Nat)=12/\(∀(i:Nat),i<12->[AV.int .i64 (q39.r i)]=[AV.int .i64 (t_1.2.2.r i)])/\True)/\True;
 let q44:Prop:=q43/\q43;
 let q55:Prop:=(Exx (StoreT×TickT×(Nat->Int)×Int×Int) fun x =>
 let q45:TickT:=x.2.1;
 let q46:(Nat->Int)×Int×Int:=x.2.2;
 let q47:Int×Int:=q46.2;
 let q48:Int:=q47.1;
 let q49:Int:=q47.2;
 let q50:IR:=insR x.1 q45 q46.1 q48 q49;
 let q51:StoreT:=q50.s;
 let q52:TickT:=q50.t;
 let q54:Prop:=Exx (Nat×(TickT×(Nat->Int))×IR) fun t_1 =>
 let q53:TickT:=t_1.2.1.1; I_1 t_1/\(q13/\q17/\Tr 3 (q2/\q2/\Tr 1 ((t.1:Int)=(t_1.1:Int))/\q2/\q2/\Tr 1 (Tr 1 (q50.e=t_1.2.2.e)/\Tr 169 True)))/\true=true/\(q3/\q2/\q2/\q2/\Tr 1 (q24=q53.blocks)/\Tr 1 (q25=q53.slots)/\Tr 1 (q26=q53.gens)/\Tr 1 (q27=q53.top)/\Tr 1 (q28=q53.high)/\Tr 1 (q29=q53.free)/\True)/\q5/\devB q51.ws=devB t_1.2.2.s.ws/\zaA q51.a=zaA t_1.2.2.s.a/\(q8/\(1:Nat)=1/\(12:Nat)=12/\(∀(i:Nat),i<12->[AV.int .i64 (t.2.2 i)]=[AV.int .i64 (t_1.2.1.2 i)])/\True)/\((40:Nat)=(40:TypeId)/\Tr 1 (q52.blocks=t_1.2.2.t.blocks)/\Tr 1 (q52.slots=t_1.2.2.t.slots)/\Tr 1 (q52.gens=t_1.2.2.t.gens)/\Tr 1 (q52.top=t_1.2.2.t.top)/\Tr 1 (q52.high=t_1.2.2.t.high)/\Tr 1 (q52.free=t_1.2.2.t.free)/\True)/\((47:Nat)=(47:TypeId)/\(1:Nat)=1/\(12:Nat)=12/\(∀(i:Nat),i<12->[AV.int .i64 (q50.r i)]=[AV.int .i64 (t_1.2.2.r i)])/\True)/\True; ((q2/\(Tr 1 (q24=q45.blocks)/\Tr 1 (q25=q45.slots)/\Tr 1 (q26=q45.gens)/\Tr 1 (q27=q45.top)/\Tr 1 (q28=q45.high)/\Tr 1 (q29=q45.free)/\True)/\((1:Nat)=1/\(12:Nat)=12/\(∀(i:Nat),i<12->[AV.int .i64 (t.2.2 i)]=[AV.int .i64 (q46.1 i)])/\True)/\Tr 1 (q30.getD (Int.toNat 0) 0=q48)/\Tr 1 (q30.getD (Int.toNat 1) 0=q49)/\True)/\true=true/\q5/\q32=devB x.1.ws/\q33=zaA x.1.a/\True)/\(zaF x.1/\zaR q45/\zaY q46.1/\I64 q48/\I64 q49)/\∀(y:Unit),True->q54/\q54)/\q44/\q44; (q22/\((0:Int) <= (0:Int)/\q6)/\q6/\q22/\((0:Int) <= (1:Int)/\q7)/\q7/\(Exx (StoreT×TickT×(Nat->Int)×Int×Int) fun x =>
 let q56:TickT:=x.2.1;
 let q57:(Nat->Int)×Int×Int:=x.2.2;
 let q58:Int×Int:=q57.2;
 let q59:Int:=q58.1;
 let q60:Int:=q58.2;
 let q61:IR:=insR x.1 q56 q57.1 q59 q60;
 let q62:StoreT:=q61.s;
 let q63:TickT:=q61.t;
 let q65:Prop:=Exx (Nat×(TickT×(Nat->Int))×IR) fun t_1 =>
 let q64:TickT:=t_1.2.1.1; I_1 t_1/\(q13/\q17/\Tr 3 (q2/\q2/\Tr 1 ((t.1:Int)=(t_1.1:Int))/\q2/\q2/\Tr 1 (Tr 1 (q61.e=t_1.2.2.e)/\Tr 169 True)))/\true=true/\(q3/\q2/\q2/\q2/\Tr 1 (q24=q64.blocks)/\Tr 1 (q25=q64.slots)/\Tr 1 (q26=q64.gens)/\Tr 1 (q27=q64.top)/\Tr 1 (q28=q64.high)/\Tr 1 (q29=q64.free)/\True)/\q5/\devB q62.ws=devB t_1.2.2.s.ws/\zaA q62.a=zaA t_1.2.2.s.a/\(q8/\(1:Nat)=1/\(12:Nat)=12/\(∀(i:Nat),i<12->[AV.int .i64 (t.2.2 i)]=[AV.int .i64 (t_1.2.1.2 i)])/\True)/\((40:Nat)=(40:TypeId)/\Tr 1 (q63.blocks=t_1.2.2.t.blocks)/\Tr 1 (q63.slots=t_1.2.2.t.slots)/\Tr 1 (q63.gens=t_1.2.2.t.gens)/\Tr 1 (q63.top=t_1.2.2.t.top)/\Tr 1 (q63.high=t_1.2.2.t.high)/\Tr 1 (q63.free=t_1.2.2.t.free)/\True)/\((47:Nat)=(47:TypeId)/\(1:Nat)=1/\(12:Nat)=12/\(∀(i:Nat),i<12->[AV.int .i64 (q61.r i)]=[AV.int .i64 (t_1.2.2.r i)])/\True)/\True;
 let q66:Prop:=q65/\q65; ((q2/\(Tr 1 (q24=q56.blocks)/\Tr 1 (q25=q56.slots)/\Tr 1 (q26=q56.gens)/\Tr 1 (q27=q56.top)/\Tr 1 (q28=q56.high)/\Tr 1 (q29=q56.free)/\True)/\((1:Nat)=1/\(12:Nat)=12/\(∀(i:Nat),i<12->[AV.int .i64 (t.2.2 i)]=[AV.int .i64 (q57.1 i)])/\True)/\Tr 1 (q30.getD (Int.toNat 0) 0=q59)/\Tr 1 (q30.getD (Int.toNat 1) 0=q60)/\True)/\true=true/\q5/\q32=devB x.1.ws/\q33=zaA x.1.a/\True)/\(zaF x.1/\zaR q56/\zaY q57.1/\I64 q59/\I64 q60)/\∀(y:Unit),True->q66/\q66/\q66)/\q55/\q55/\q55)/\∀(t_1:Nat×(TickT×(Nat->Int))×IR),
 let q67:Int:=(t_1.1:Int)+1; I_1 t_1->BC (!decide (t_1.2.2.e=(0:Int))) q9 (I64 q67/\Exx (Nat×(StoreT×TickT)×(Nat->Int)) fun t' =>
 let q68:TickT:=t'.snd.1.2;
 let q69:StoreT:=t'.snd.1.1; (I t'/\m t'<m t)/\(q13/\q17/\Tr 3 (q2/\q2/\Tr 1 (q67=(↑t'.fst:Int))/\Tr 173 True))/\true=true/\(q3/\q2/\q2/\q2/\Tr 1 (t_1.2.2.t.blocks=q68.blocks)/\Tr 1 (t_1.2.2.t.slots=q68.slots)/\Tr 1 (t_1.2.2.t.gens=q68.gens)/\Tr 1 (t_1.2.2.t.top=q68.top)/\Tr 1 (t_1.2.2.t.high=q68.high)/\Tr 1 (t_1.2.2.t.free=q68.free)/\True)/\q5/\devB t_1.2.2.s.ws=devB q69.ws/\zaA t_1.2.2.s.a=zaA q69.a/\(q8/\(1:Nat)=1/\(12:Nat)=12/\(∀(i:Nat),i<12->[AV.int .i64 (t_1.2.2.r i)]=[AV.int .i64 (t'.snd.2 i)])/\True)/\True)) (Exx (FeT×StoreT->Prop) fun I=>(Exx (StoreT×(Nat->Int)) fun x=>((q2/\((1:Nat)=1/\(12:Nat)=12/\(∀(i:Nat),i<12->[AV.int .i64 (t.2.2 i)]=[AV.int .i64 (x.2 i)])/\True)/\True)/\true=true/\q5/\q32=devB x.1.ws/\q33=zaA x.1.a/\True)/\(zaF x.1/\zaY x.2)/\∀(y:List EntT×Nat),(y.1.length <= y.2/\y.2 <= 9223372036854775807)/\y.1.Perm (zbX x.1.ws x.2).1/\SrtN y.1->Exx (FeT×StoreT) fun t_1 =>
 let q70:List EntT:=t_1.1.1.1;
 let q71:Nat:=q70.length;
 let q72:Prop:=y.2=t_1.1.1.2;
 let q73:TickT×(Nat->Int):=t_1.1.2.2;
 let q74:TickT:=q73.1; I t_1/\(q13/\q17/\Tr 3 (q2/\q2/\Tr 5 ((true=true/\zaC/\(0:Nat)=0/\(4:Nat)=4/\(0:Nat)=0/\y.1.length=q71/\q72)/\Tr 1 ((zbX x.1.ws x.2).2=t_1.1.2.1)/\Tr 167 True)))/\true=true/\(q3/\q2/\q2/\q2/\Tr 1 (q24=q74.blocks)/\Tr 1 (q25=q74.slots)/\Tr 1 (q26=q74.gens)/\Tr 1 (q27=q74.top)/\Tr 1 (q28=q74.high)/\Tr 1 (q29=q74.free)/\True)/\q5/\devB x.1.ws=devB t_1.2.ws/\zaA x.1.a=zaA t_1.2.a/\(q8/\(1:Nat)=1/\(12:Nat)=12/\(∀(i:Nat),i<12->[AV.int .i64 (t.2.2 i)]=[AV.int .i64 (q73.2 i)])/\True)/\(q10/\(4:Nat)=4/\q72/\q71 <= y.1.length/\∀(i:Nat),i<q71->[AV.int .i64 (y.1.getD i entZ).slot,AV.int .i64 (y.1.getD i entZ).gen,AV.int .i64 (y.1.getD i entZ).key,AV.int .i64 (y.1.getD i entZ).value]=[AV.int .i64 (q70.getD i entZ).slot,AV.int .i64 (q70.getD i entZ).gen,AV.int .i64 (q70.getD i entZ).key,AV.int .i64 (q70.getD i entZ).value])/\True)/\∀(t:FeT×StoreT),
 let q75:List EntT:=t.1.1.1;
 let q76:Nat:=q75.length;
 let q77:TickT×(Nat->Int):=t.1.2.2;
 let q78:TickT:=q77.1;
 let q79:Int:=q78.blocks;
 let q80:Int:=q78.slots;
 let q81:Int:=q78.gens;
 let q82:Int:=q78.top;
 let q83:Int:=q78.high;
 let q84:Int:=q78.free; I t->Exx (AllocT×Unit) fun x_3 =>
 let q271:Prop:=Exx ((FeT×StoreT)×Nat×TickT×(Nat->Int)->Prop) fun I=>Exx ((FeT×StoreT)×Nat×TickT×(Nat->Int)->Nat) fun m=>(Exx ((FeT×StoreT)×Nat×TickT×(Nat->Int)) fun t_1 =>
 let q85:List EntT×Nat:=t_1.1.1.1;
 let q86:List EntT:=q85.1;
 let q87:Nat:=q86.length;
 let q88:Prop:=t.1.1.2=q85.2;
 let q89:Int×TickT×(Nat->Int):=t_1.1.1.2;
 let q90:TickT×(Nat->Int):=q89.2;
 let q91:TickT:=q90.1;
 let q92:TickT×(Nat->Int):=t_1.2.2;
 let q93:TickT:=q92.1; I t_1/\(q13/\q17/\Tr 3 (q2/\q2/\Tr 5 ((true=true/\zaC/\(0:Nat)=0/\(4:Nat)=4/\(0:Nat)=0/\q76=q87/\q88)/\Tr 1 (t.1.2.1=q89.1)/\q2/\q2/\Tr 1 ((0:Int)=(t_1.2.1:Int))/\Tr 164 True)))/\true=true/\(q3/\q2/\q2/\q2/\Tr 1 (q79=q91.blocks)/\Tr 1 (q80=q91.slots)/\Tr 1 (q81=q91.gens)/\Tr 1 (q82=q91.top)/\Tr 1 (q83=q91.high)/\Tr 1 (q84=q91.free)/\True)/\q5/\devB t.2.ws=devB t_1.1.2.ws/\zaA (qkO x_3.1)=zaA t_1.1.2.a/\(q8/\(1:Nat)=1/\(12:Nat)=12/\(∀(i:Nat),i<12->[AV.int .i64 (q77.2 i)]=[AV.int .i64 (q90.2 i)])/\True)/\(q10/\(4:Nat)=4/\q88/\q87 <= q76/\∀(i:Nat),i<q87->[AV.int .i64 (q75.getD i entZ).slot,AV.int .i64 (q75.getD i entZ).gen,AV.int .i64 (q75.getD i entZ).key,AV.int .i64 (q75.getD i entZ).value]=[AV.int .i64 (q86.getD i entZ).slot,AV.int .i64 (q86.getD i entZ).gen,AV.int .i64 (q86.getD i entZ).key,AV.int .i64 (q86.getD i entZ).value])/\((40:Nat)=(40:TypeId)/\Tr 1 (q79=q93.blocks)/\Tr 1 (q80=q93.slots)/\Tr 1 (q81=q93.gens)/\Tr 1 (q82=q93.top)/\Tr 1 (q83=q93.high)/\Tr 1 (q84=q93.free)/\True)/\((47:Nat)=(47:TypeId)/\(1:Nat)=1/\(12:Nat)=12/\(∀(i:Nat),i<12->[AV.int .i64 (q77.2 i)]=[AV.int .i64 (q92.2 i)])/\True)/\True)/\∀(t:(FeT×StoreT)×Nat×TickT×(Nat->Int)),
 let q94:Int:=(t.2.1:Int);
 let q95:Prop:=q94<(x.2.length:Int);
 let q96:Prop:=(0:Int) <= q94/\q95;
 let q97:AcT:=x.2.getD q94.toNat acZ;
 let q98:TickT×(Nat->Int):=t.2.2;
 let q99:TickT:=q98.1;
 let q100:Int:=q99.blocks;
 let q101:Int:=q99.slots;
 let q102:Int:=q99.gens;
 let q103:Int:=q99.top;
 let q104:Int:=q99.high;
 let q105:Int:=q99.free;
 let q106:List EntT×Nat:=t.1.1.1;
 let q107:List EntT:=q106.1;
 let q108:Nat:=q107.length;
 let q109:Nat:=q106.2;
 let q110:Int×TickT×(Nat->Int):=t.1.1.2;
 let q111:Int:=q110.1;
 let q112:TickT×(Nat->Int):=q110.2;
 let q113:TickT:=q112.1;
 let q114:Int:=q113.blocks;
 let q115:Int:=q113.slots;
 let q116:Int:=q113.gens;
 let q117:Int:=q113.top;
 let q118:Int:=q113.high;
 let q119:Int:=q113.free;
 let q120:Int×Int:=q97.2.2;
 let q121:Int:=(q108:Int); I t->BC (decide q95) (q96/\BC q97.1 (Exx ((FeT×PR)×Nat×TickT×(Nat->Int)->Prop) fun I_1 =>
 let q133:Prop:=Exx (StoreT×TickT×(Nat->Int)) fun x =>
 let q122:PR:=popR x.1 x.2.1 x.2.2;
 let q123:StoreT:=q122.s;
 let q124:TickT:=q122.t; ((q2/\(Tr 1 (q100=x.2.1.blocks)/\Tr 1 (q101=x.2.1.slots)/\Tr 1 (q102=x.2.1.gens)/\Tr 1 (q103=x.2.1.top)/\Tr 1 (q104=x.2.1.high)/\Tr 1 (q105=x.2.1.free)/\True)/\((1:Nat)=1/\(12:Nat)=12/\(∀(i:Nat),i<12->[AV.int .i64 (q98.2 i)]=[AV.int .i64 (x.2.2 i)])/\True)/\True)/\true=true/\q5/\devB t.1.2.ws=devB x.1.ws/\zaA t.1.2.a=zaA x.1.a/\True)/\(zaF x.1/\zaR x.2.1/\zaY x.2.2)/\∀(y:Unit),True->Exx ((FeT×PR)×Nat×TickT×(Nat->Int)) fun t =>
 let q125:List EntT×Nat:=t.1.1.1;
 let q126:List EntT:=q125.1;
 let q127:Nat:=q126.length;
 let q128:Prop:=q109=q125.2;
 let q129:Int×TickT×(Nat->Int):=t.1.1.2;
 let q130:TickT×(Nat->Int):=q129.2;
 let q131:TickT:=q130.1;
 let q132:TickT:=t.2.2.1; I_1 t/\(q13/\q17/\Tr 3 (q2/\q2/\Tr 5 ((true=true/\zaC/\(0:Nat)=0/\(4:Nat)=4/\(0:Nat)=0/\q108=q127/\q128)/\Tr 1 (q111=q129.1)/\q2/\q2/\Tr 1 (q94=(t.2.1:Int))/\q2/\q2/\Tr 1 (Tr 1 (q122.e=t.1.2.e)/\Tr 160 True))))/\true=true/\(q3/\q2/\q2/\q2/\Tr 1 (q114=q131.blocks)/\Tr 1 (q115=q131.slots)/\Tr 1 (q116=q131.gens)/\Tr 1 (q117=q131.top)/\Tr 1 (q118=q131.high)/\Tr 1 (q119=q131.free)/\True)/\q5/\devB q123.ws=devB t.1.2.s.ws/\zaA q123.a=zaA t.1.2.s.a/\(q8/\(1:Nat)=1/\(12:Nat)=12/\(∀(i:Nat),i<12->[AV.int .i64 (q112.2 i)]=[AV.int .i64 (q130.2 i)])/\True)/\(q10/\(4:Nat)=4/\q128/\q127 <= q108/\∀(i:Nat),i<q127->[AV.int .i64 (q107.getD i entZ).slot,AV.int .i64 (q107.getD i entZ).gen,AV.int .i64 (q107.getD i entZ).key,AV.int .i64 (q107.getD i entZ).value]=[AV.int .i64 (q126.getD i entZ).slot,AV.int .i64 (q126.getD i entZ).gen,AV.int .i64 (q126.getD i entZ).key,AV.int .i64 (q126.getD i entZ).value])/\(q11/\Tr 1 (q100=q132.blocks)/\Tr 1 (q101=q132.slots)/\Tr 1 (q102=q132.gens)/\Tr 1 (q103=q132.top)/\Tr 1 (q104=q132.high)/\Tr 1 (q105=q132.free)/\True)/\(q8/\(1:Nat)=1/\(12:Nat)=12/\(∀(i:Nat),i<12->[AV.int .i64 (q98.2 i)]=[AV.int .i64 (t.2.2.2 i)])/\True)/\((40:Nat)=(40:TypeId)/\Tr 1 (q124.blocks=t.1.2.t.blocks)/\Tr 1 (q124.slots=t.1.2.t.slots)/\Tr 1 (q124.gens=t.1.2.t.gens)/\Tr 1 (q124.top=t.1.2.t.top)/\Tr 1 (q124.high=t.1.2.t.high)/\Tr 1 (q124.free=t.1.2.t.free)/\True)/\((47:Nat)=(47:TypeId)/\(1:Nat)=1/\(12:Nat)=12/\(∀(i:Nat),i<12->[AV.int .i64 (q122.r i)]=[AV.int .i64 (t.1.2.r i)])/\True)/\True;
 let q134:Prop:=q133/\q133;
 let q147:Prop:=(Exx (StoreT×TickT×(Nat->Int)) fun x =>
 let q135:PR:=popR x.1 x.2.1 x.2.2;
 let q136:StoreT:=q135.s;
 let q137:TickT:=q135.t;
 let q146:Prop:=Exx ((FeT×PR)×Nat×TickT×(Nat->Int)) fun t =>
 let q138:List EntT×Nat:=t.1.1.1;
 let q139:List EntT:=q138.1;
 let q140:Nat:=q139.length;
 let q141:Prop:=q109=q138.2;
 let q142:Int×TickT×(Nat->Int):=t.1.1.2;
 let q143:TickT×(Nat->Int):=q142.2;
 let q144:TickT:=q143.1;
 let q145:TickT:=t.2.2.1; I_1 t/\(q13/\q17/\Tr 3 (q2/\q2/\Tr 5 ((true=true/\zaC/\(0:Nat)=0/\(4:Nat)=4/\(0:Nat)=0/\q108=q140/\q141)/\Tr 1 (q111=q142.1)/\q2/\q2/\Tr 1 (q94=(t.2.1:Int))/\q2/\q2/\Tr 1 (Tr 1 (q135.e=t.1.2.e)/\Tr 160 True))))/\true=true/\(q3/\q2/\q2/\q2/\Tr 1 (q114=q144.blocks)/\Tr 1 (q115=q144.slots)/\Tr 1 (q116=q144.gens)/\Tr 1 (q117=q144.top)/\Tr 1 (q118=q144.high)/\Tr 1 (q119=q144.free)/\True)/\q5/\devB q136.ws=devB t.1.2.s.ws/\zaA q136.a=zaA t.1.2.s.a/\(q8/\(1:Nat)=1/\(12:Nat)=12/\(∀(i:Nat),i<12->[AV.int .i64 (q112.2 i)]=[AV.int .i64 (q143.2 i)])/\True)/\(q10/\(4:Nat)=4/\q141/\q140 <= q108/\∀(i:Nat),i<q140->[AV.int .i64 (q107.getD i entZ).slot,AV.int .i64 (q107.getD i entZ).gen,AV.int .i64 (q107.getD i entZ).key,AV.int .i64 (q107.getD i entZ).value]=[AV.int .i64 (q139.getD i entZ).slot,AV.int .i64 (q139.getD i entZ).gen,AV.int .i64 (q139.getD i entZ).key,AV.int .i64 (q139.getD i entZ).value])/\(q11/\Tr 1 (q100=q145.blocks)/\Tr 1 (q101=q145.slots)/\Tr 1 (q102=q145.gens)/\Tr 1 (q103=q145.top)/\Tr 1 (q104=q145.high)/\Tr 1 (q105=q145.free)/\True)/\(q8/\(1:Nat)=1/\(12:Nat)=12/\(∀(i:Nat),i<12->[AV.int .i64 (q98.2 i)]=[AV.int .i64 (t.2.2.2 i)])/\True)/\((40:Nat)=(40:TypeId)/\Tr 1 (q137.blocks=t.1.2.t.blocks)/\Tr 1 (q137.slots=t.1.2.t.slots)/\Tr 1 (q137.gens=t.1.2.t.gens)/\Tr 1 (q137.top=t.1.2.t.top)/\Tr 1 (q137.high=t.1.2.t.high)/\Tr 1 (q137.free=t.1.2.t.free)/\True)/\((47:Nat)=(47:TypeId)/\(1:Nat)=1/\(12:Nat)=12/\(∀(i:Nat),i<12->[AV.int .i64 (q135.r i)]=[AV.int .i64 (t.1.2.r i)])/\True)/\True; ((q2/\(Tr 1 (q100=x.2.1.blocks)/\Tr 1 (q101=x.2.1.slots)/\Tr 1 (q102=x.2.1.gens)/\Tr 1 (q103=x.2.1.top)/\Tr 1 (q104=x.2.1.high)/\Tr 1 (q105=x.2.1.free)/\True)/\((1:Nat)=1/\(12:Nat)=12/\(∀(i:Nat),i<12->[AV.int .i64 (q98.2 i)]=[AV.int .i64 (x.2.2 i)])/\True)/\True)/\true=true/\q5/\devB t.1.2.ws=devB x.1.ws/\zaA t.1.2.a=zaA x.1.a/\True)/\(zaF x.1/\zaR x.2.1/\zaY x.2.2)/\∀(y:Unit),True->q146/\q146)/\q134/\q134; ((Exx (StoreT×TickT×(Nat->Int)) fun x =>
 let q148:PR:=popR x.1 x.2.1 x.2.2;
 let q149:StoreT:=q148.s;
 let q150:TickT:=q148.t;
 let q159:Prop:=Exx ((FeT×PR)×Nat×TickT×(Nat->Int)) fun t =>
 let q151:List EntT×Nat:=t.1.1.1;
 let q152:List EntT:=q151.1;
 let q153:Nat:=q152.length;
 let q154:Prop:=q109=q151.2;
 let q155:Int×TickT×(Nat->Int):=t.1.1.2;
 let q156:TickT×(Nat->Int):=q155.2;
 let q157:TickT:=q156.1;
 let q158:TickT:=t.2.2.1; I_1 t/\(q13/\q17/\Tr 3 (q2/\q2/\Tr 5 ((true=true/\zaC/\(0:Nat)=0/\(4:Nat)=4/\(0:Nat)=0/\q108=q153/\q154)/\Tr 1 (q111=q155.1)/\q2/\q2/\Tr 1 (q94=(t.2.1:Int))/\q2/\q2/\Tr 1 (Tr 1 (q148.e=t.1.2.e)/\Tr 160 True))))/\true=true/\(q3/\q2/\q2/\q2/\Tr 1 (q114=q157.blocks)/\Tr 1 (q115=q157.slots)/\Tr 1 (q116=q157.gens)/\Tr 1 (q117=q157.top)/\Tr 1 (q118=q157.high)/\Tr 1 (q119=q157.free)/\True)/\q5/\devB q149.ws=devB t.1.2.s.ws/\zaA q149.a=zaA t.1.2.s.a/\(q8/\(1:Nat)=1/\(12:Nat)=12/\(∀(i:Nat),i<12->[AV.int .i64 (q112.2 i)]=[AV.int .i64 (q156.2 i)])/\True)/\(q10/\(4:Nat)=4/\q154/\q153 <= q108/\∀(i:Nat),i<q153->[AV.int .i64 (q107.getD i entZ).slot,AV.int .i64 (q107.getD i entZ).gen,AV.int .i64 (q107.getD i entZ).key,AV.int .i64 (q107.getD i entZ).value]=[AV.int .i64 (q152.getD i entZ).slot,AV.int .i64 (q152.getD i entZ).gen,AV.int .i64 (q152.getD i entZ).key,AV.int .i64 (q152.getD i entZ).value])/\(q11/\Tr 1 (q100=q158.blocks)/\Tr 1 (q101=q158.slots)/\Tr 1 (q102=q158.gens)/\Tr 1 (q103=q158.top)/\Tr 1 (q104=q158.high)/\Tr 1 (q105=q158.free)/\True)/\(q8/\(1:Nat)=1/\(12:Nat)=12/\(∀(i:Nat),i<12->[AV.int .i64 (q98.2 i)]=[AV.int .i64 (t.2.2.2 i)])/\True)/\((40:Nat)=(40:TypeId)/\Tr 1 (q150.blocks=t.1.2.t.blocks)/\Tr 1 (q150.slots=t.1.2.t.slots)/\Tr 1 (q150.gens=t.1.2.t.gens)/\Tr 1 (q150.top=t.1.2.t.top)/\Tr 1 (q150.high=t.1.2.t.high)/\Tr 1 (q150.free=t.1.2.t.free)/\True)/\((47:Nat)=(47:TypeId)/\(1:Nat)=1/\(12:Nat)=12/\(∀(i:Nat),i<12->[AV.int .i64 (q148.r i)]=[AV.int .i64 (t.1.2.r i)])/\True)/\True;
 let q160:Prop:=q159/\q159; ((q2/\(Tr 1 (q100=x.2.1.blocks)/\Tr 1 (q101=x.2.1.slots)/\Tr 1 (q102=x.2.1.gens)/\Tr 1 (q103=x.2.1.top)/\Tr 1 (q104=x.2.1.high)/\Tr 1 (q105=x.2.1.free)/\True)/\((1:Nat)=1/\(12:Nat)=12/\(∀(i:Nat),i<12->[AV.int .i64 (q98.2 i)]=[AV.int .i64 (x.2.2 i)])/\True)/\True)/\true=true/\q5/\devB t.1.2.ws=devB x.1.ws/\zaA t.1.2.a=zaA x.1.a/\True)/\(zaF x.1/\zaR x.2.1/\zaY x.2.2)/\∀(y:Unit),True->q160/\q160/\q160)/\q147/\q147/\q147)/\∀(t_1:(FeT×PR)×Nat×TickT×(Nat->Int)),
 let q161:Int:=(t_1.2.1:Int)+1;
 let q162:Prop:=I64 q161;
 let q163:List EntT×Nat:=t_1.1.1.1;
 let q164:List EntT:=q163.1;
 let q165:Nat:=q164.length;
 let q166:Int×TickT×(Nat->Int):=t_1.1.1.2;
 let q167:TickT×(Nat->Int):=q166.2;
 let q168:TickT:=q167.1;
 let q169:TickT:=t_1.2.2.1; I_1 t_1->BC (decide (t_1.1.2.e=(0:Int))) (q162/\Exx ((FeT×StoreT)×Nat×TickT×(Nat->Int)) fun t' =>
 let q170:List EntT×Nat:=t'.fst.1.1;
 let q171:List EntT:=q170.1;
 let q172:Nat:=q171.length;
 let q173:Prop:=q163.2=q170.2;
 let q174:Int×TickT×(Nat->Int):=t'.fst.1.2;
 let q175:TickT×(Nat->Int):=q174.2;
 let q176:TickT:=q175.1;
 let q177:TickT×(Nat->Int):=t'.snd.2;
 let q178:TickT:=q177.1; (I t'/\m t'<m t)/\(q13/\q17/\Tr 3 (q2/\q2/\Tr 5 ((true=true/\zaC/\(0:Nat)=0/\(4:Nat)=4/\(0:Nat)=0/\q165=q172/\q173)/\Tr 1 (q166.1=q174.1)/\q2/\q2/\Tr 1 (q161=(↑t'.snd.1:Int))/\Tr 164 True)))/\true=true/\(q3/\q2/\q2/\q2/\Tr 1 (q168.blocks=q176.blocks)/\Tr 1 (q168.slots=q176.slots)/\Tr 1 (q168.gens=q176.gens)/\Tr 1 (q168.top=q176.top)/\Tr 1 (q168.high=q176.high)/\Tr 1 (q168.free=q176.free)/\True)/\q5/\devB t_1.1.2.s.ws=devB t'.fst.2.ws/\zaA t_1.1.2.s.a=zaA t'.fst.2.a/\(q8/\(1:Nat)=1/\(12:Nat)=12/\(∀(i:Nat),i<12->[AV.int .i64 (q167.2 i)]=[AV.int .i64 (q175.2 i)])/\True)/\(q10/\(4:Nat)=4/\q173/\q172 <= q165/\∀(i:Nat),i<q172->[AV.int .i64 (q164.getD i entZ).slot,AV.int .i64 (q164.getD i entZ).gen,AV.int .i64 (q164.getD i entZ).key,AV.int .i64 (q164.getD i entZ).value]=[AV.int .i64 (q171.getD i entZ).slot,AV.int .i64 (q171.getD i entZ).gen,AV.int .i64 (q171.getD i entZ).key,AV.int .i64 (q171.getD i entZ).value])/\(q11/\Tr 1 (t_1.1.2.t.blocks=q178.blocks)/\Tr 1 (t_1.1.2.t.slots=q178.slots)/\Tr 1 (t_1.1.2.t.gens=q178.gens)/\Tr 1 (t_1.1.2.t.top=q178.top)/\Tr 1 (t_1.1.2.t.high=q178.high)/\Tr 1 (t_1.1.2.t.free=q178.free)/\True)/\(q8/\(1:Nat)=1/\(12:Nat)=12/\(∀(i:Nat),i<12->[AV.int .i64 (t_1.1.2.r i)]=[AV.int .i64 (q177.2 i)])/\True)/\True) (q162/\Exx ((FeT×StoreT)×Nat×TickT×(Nat->Int)) fun t' =>
 let q179:List EntT×Nat:=t'.fst.1.1;
 let q180:List EntT:=q179.1;
 let q181:Nat:=q180.length;
 let q182:Prop:=q163.2=q179.2;
 let q183:Int×TickT×(Nat->Int):=t'.fst.1.2;
 let q184:TickT×(Nat->Int):=q183.2;
 let q185:TickT:=q184.1;
 let q186:TickT×(Nat->Int):=t'.snd.2;
 let q187:TickT:=q186.1; (I t'/\m t'<m t)/\(q13/\q17/\Tr 3 (q2/\q2/\Tr 5 ((true=true/\zaC/\(0:Nat)=0/\(4:Nat)=4/\(0:Nat)=0/\q165=q181/\q182)/\Tr 1 (q166.1=q183.1)/\q2/\q2/\Tr 1 (q161=(↑t'.snd.1:Int))/\Tr 164 True)))/\true=true/\(q3/\q2/\q2/\q2/\Tr 1 (q168.blocks=q185.blocks)/\Tr 1 (q168.slots=q185.slots)/\Tr 1 (q168.gens=q185.gens)/\Tr 1 (q168.top=q185.top)/\Tr 1 (q168.high=q185.high)/\Tr 1 (q168.free=q185.free)/\True)/\q5/\devB t_1.1.2.s.ws=devB t'.fst.2.ws/\zaA t_1.1.2.s.a=zaA t'.fst.2.a/\(q8/\(1:Nat)=1/\(12:Nat)=12/\(∀(i:Nat),i<12->[AV.int .i64 (q167.2 i)]=[AV.int .i64 (q184.2 i)])/\True)/\(q10/\(4:Nat)=4/\q182/\q181 <= q165/\∀(i:Nat),i<q181->[AV.int .i64 (q164.getD i entZ).slot,AV.int .i64 (q164.getD i entZ).gen,AV.int .i64 (q164.getD i entZ).key,AV.int .i64 (q164.getD i entZ).value]=[AV.int .i64 (q180.getD i entZ).slot,AV.int .i64 (q180.getD i entZ).gen,AV.int .i64 (q180.getD i entZ).key,AV.int .i64 (q180.getD i entZ).value])/\(q11/\Tr 1 (q169.blocks=q187.blocks)/\Tr 1 (q169.slots=q187.slots)/\Tr 1 (q169.gens=q187.gens)/\Tr 1 (q169.top=q187.top)/\Tr 1 (q169.high=q187.high)/\Tr 1 (q169.free=q187.free)/\True)/\(q8/\(1:Nat)=1/\(12:Nat)=12/\(∀(i:Nat),i<12->[AV.int .i64 (t_1.2.2.2 i)]=[AV.int .i64 (q186.2 i)])/\True)/\True)) (Exx ((FeT×IR)×Nat×TickT×(Nat->Int)->Prop) fun I_1 =>
 let q204:Prop:=Exx (StoreT×TickT×(Nat->Int)×Int×Int) fun x =>
 let q188:TickT:=x.2.1;
 let q189:(Nat->Int)×Int×Int:=x.2.2;
 let q190:Int×Int:=q189.2;
 let q191:Int:=q190.1;
 let q192:Int:=q190.2;
 let q193:IR:=insR x.1 q188 q189.1 q191 q192;
 let q194:StoreT:=q193.s;
 let q195:TickT:=q193.t; ((q2/\(Tr 1 (q100=q188.blocks)/\Tr 1 (q101=q188.slots)/\Tr 1 (q102=q188.gens)/\Tr 1 (q103=q188.top)/\Tr 1 (q104=q188.high)/\Tr 1 (q105=q188.free)/\True)/\((1:Nat)=1/\(12:Nat)=12/\(∀(i:Nat),i<12->[AV.int .i64 (q98.2 i)]=[AV.int .i64 (q189.1 i)])/\True)/\Tr 1 (q120.1=q191)/\Tr 1 (q120.2=q192)/\True)/\true=true/\q5/\devB t.1.2.ws=devB x.1.ws/\zaA t.1.2.a=zaA x.1.a/\True)/\(zaF x.1/\zaR q188/\zaY q189.1/\I64 q191/\I64 q192)/\∀(y:Unit),True->Exx ((FeT×IR)×Nat×TickT×(Nat->Int)) fun t =>
 let q196:List EntT×Nat:=t.1.1.1;
 let q197:List EntT:=q196.1;
 let q198:Nat:=q197.length;
 let q199:Prop:=q109=q196.2;
 let q200:Int×TickT×(Nat->Int):=t.1.1.2;
 let q201:TickT×(Nat->Int):=q200.2;
 let q202:TickT:=q201.1;
 let q203:TickT:=t.2.2.1; I_1 t/\(q13/\q17/\Tr 3 (q2/\q2/\Tr 5 ((true=true/\zaC/\(0:Nat)=0/\(4:Nat)=4/\(0:Nat)=0/\q108=q198/\q199)/\Tr 1 (q111=q200.1)/\q2/\q2/\Tr 1 (q94=(t.2.1:Int))/\Tr 4 (q2/\q2/\Tr 1 (Tr 1 (q193.e=t.1.2.e)/\Tr 156 True)))))/\true=true/\(q3/\q2/\q2/\q2/\Tr 1 (q114=q202.blocks)/\Tr 1 (q115=q202.slots)/\Tr 1 (q116=q202.gens)/\Tr 1 (q117=q202.top)/\Tr 1 (q118=q202.high)/\Tr 1 (q119=q202.free)/\True)/\q5/\devB q194.ws=devB t.1.2.s.ws/\zaA q194.a=zaA t.1.2.s.a/\(q8/\(1:Nat)=1/\(12:Nat)=12/\(∀(i:Nat),i<12->[AV.int .i64 (q112.2 i)]=[AV.int .i64 (q201.2 i)])/\True)/\(q10/\(4:Nat)=4/\q199/\q198 <= q108/\∀(i:Nat),i<q198->[AV.int .i64 (q107.getD i entZ).slot,AV.int .i64 (q107.getD i entZ).gen,AV.int .i64 (q107.getD i entZ).key,AV.int .i64 (q107.getD i entZ).value]=[AV.int .i64 (q197.getD i entZ).slot,AV.int .i64 (q197.getD i entZ).gen,AV.int .i64 (q197.getD i entZ).key,AV.int .i64 (q197.getD i entZ).value])/\(q11/\Tr 1 (q100=q203.blocks)/\Tr 1 (q101=q203.slots)/\Tr 1 (q102=q203.gens)/\Tr 1 (q103=q203.top)/\Tr 1 (q104=q203.high)/\Tr 1 (q105=q203.free)/\True)/\(q8/\(1:Nat)=1/\(12:Nat)=12/\(∀(i:Nat),i<12->[AV.int .i64 (q98.2 i)]=[AV.int .i64 (t.2.2.2 i)])/\True)/\((40:Nat)=(40:TypeId)/\Tr 1 (q195.blocks=t.1.2.t.blocks)/\Tr 1 (q195.slots=t.1.2.t.slots)/\Tr 1 (q195.gens=t.1.2.t.gens)/\Tr 1 (q195.top=t.1.2.t.top)/\Tr 1 (q195.high=t.1.2.t.high)/\Tr 1 (q195.free=t.1.2.t.free)/\True)/\((47:Nat)=(47:TypeId)/\(1:Nat)=1/\(12:Nat)=12/\(∀(i:Nat),i<12->[AV.int .i64 (q193.r i)]=[AV.int .i64 (t.1.2.r i)])/\True)/\True;
 let q205:Prop:=q204/\q204;
 let q223:Prop:=(Exx (StoreT×TickT×(Nat->Int)×Int×Int) fun x =>
 let q206:TickT:=x.2.1;
 let q207:(Nat->Int)×Int×Int:=x.2.2;
 let q208:Int×Int:=q207.2;
 let q209:Int:=q208.1;
 let q210:Int:=q208.2;
 let q211:IR:=insR x.1 q206 q207.1 q209 q210;
 let q212:StoreT:=q211.s;
 let q213:TickT:=q211.t;
 let q222:Prop:=Exx ((FeT×IR)×Nat×TickT×(Nat->Int)) fun t =>
 let q214:List EntT×Nat:=t.1.1.1;
 let q215:List EntT:=q214.1;
 let q216:Nat:=q215.length;
 let q217:Prop:=q109=q214.2;
 let q218:Int×TickT×(Nat->Int):=t.1.1.2;
 let q219:TickT×(Nat->Int):=q218.2;
 let q220:TickT:=q219.1;
 let q221:TickT:=t.2.2.1; I_1 t/\(q13/\q17/\Tr 3 (q2/\q2/\Tr 5 ((true=true/\zaC/\(0:Nat)=0/\(4:Nat)=4/\(0:Nat)=0/\q108=q216/\q217)/\Tr 1 (q111=q218.1)/\q2/\q2/\Tr 1 (q94=(t.2.1:Int))/\Tr 4 (q2/\q2/\Tr 1 (Tr 1 (q211.e=t.1.2.e)/\Tr 156 True)))))/\true=true/\(q3/\q2/\q2/\q2/\Tr 1 (q114=q220.blocks)/\Tr 1 (q115=q220.slots)/\Tr 1 (q116=q220.gens)/\Tr 1 (q117=q220.top)/\Tr 1 (q118=q220.high)/\Tr 1 (q119=q220.free)/\True)/\q5/\devB q212.ws=devB t.1.2.s.ws/\zaA q212.a=zaA t.1.2.s.a/\(q8/\(1:Nat)=1/\(12:Nat)=12/\(∀(i:Nat),i<12->[AV.int .i64 (q112.2 i)]=[AV.int .i64 (q219.2 i)])/\True)/\(q10/\(4:Nat)=4/\q217/\q216 <= q108/\∀(i:Nat),i<q216->[AV.int .i64 (q107.getD i entZ).slot,AV.int .i64 (q107.getD i entZ).gen,AV.int .i64 (q107.getD i entZ).key,AV.int .i64 (q107.getD i entZ).value]=[AV.int .i64 (q215.getD i entZ).slot,AV.int .i64 (q215.getD i entZ).gen,AV.int .i64 (q215.getD i entZ).key,AV.int .i64 (q215.getD i entZ).value])/\(q11/\Tr 1 (q100=q221.blocks)/\Tr 1 (q101=q221.slots)/\Tr 1 (q102=q221.gens)/\Tr 1 (q103=q221.top)/\Tr 1 (q104=q221.high)/\Tr 1 (q105=q221.free)/\True)/\(q8/\(1:Nat)=1/\(12:Nat)=12/\(∀(i:Nat),i<12->[AV.int .i64 (q98.2 i)]=[AV.int .i64 (t.2.2.2 i)])/\True)/\((40:Nat)=(40:TypeId)/\Tr 1 (q213.blocks=t.1.2.t.blocks)/\Tr 1 (q213.slots=t.1.2.t.slots)/\Tr 1 (q213.gens=t.1.2.t.gens)/\Tr 1 (q213.top=t.1.2.t.top)/\Tr 1 (q213.high=t.1.2.t.high)/\Tr 1 (q213.free=t.1.2.t.free)/\True)/\((47:Nat)=(47:TypeId)/\(1:Nat)=1/\(12:Nat)=12/\(∀(i:Nat),i<12->[AV.int .i64 (q211.r i)]=[AV.int .i64 (t.1.2.r i)])/\True)/\True; ((q2/\(Tr 1 (q100=q206.blocks)/\Tr 1 (q101=q206.slots)/\Tr 1 (q102=q206.gens)/\Tr 1 (q103=q206.top)/\Tr 1 (q104=q206.high)/\Tr 1 (q105=q206.free)/\True)/\((1:Nat)=1/\(12:Nat)=12/\(∀(i:Nat),i<12->[AV.int .i64 (q98.2 i)]=[AV.int .i64 (q207.1 i)])/\True)/\Tr 1 (q120.1=q209)/\Tr 1 (q120.2=q210)/\True)/\true=true/\q5/\devB t.1.2.ws=devB x.1.ws/\zaA t.1.2.a=zaA x.1.a/\True)/\(zaF x.1/\zaR q206/\zaY q207.1/\I64 q209/\I64 q210)/\∀(y:Unit),True->q222/\q222)/\q205/\q205; (q96/\q96/\(Exx (StoreT×TickT×(Nat->Int)×Int×Int) fun x =>
 let q224:TickT:=x.2.1;
 let q225:(Nat->Int)×Int×Int:=x.2.2;
 let q226:Int×Int:=q225.2;
 let q227:Int:=q226.1;
 let q228:Int:=q226.2;
 let q229:IR:=insR x.1 q224 q225.1 q227 q228;
 let q230:StoreT:=q229.s;
 let q231:TickT:=q229.t;
 let q240:Prop:=Exx ((FeT×IR)×Nat×TickT×(Nat->Int)) fun t =>
 let q232:List EntT×Nat:=t.1.1.1;
 let q233:List EntT:=q232.1;
 let q234:Nat:=q233.length;
 let q235:Prop:=q109=q232.2;
 let q236:Int×TickT×(Nat->Int):=t.1.1.2;
 let q237:TickT×(Nat->Int):=q236.2;
 let q238:TickT:=q237.1;
 let q239:TickT:=t.2.2.1; I_1 t/\(q13/\q17/\Tr 3 (q2/\q2/\Tr 5 ((true=true/\zaC/\(0:Nat)=0/\(4:Nat)=4/\(0:Nat)=0/\q108=q234/\q235)/\Tr 1 (q111=q236.1)/\q2/\q2/\Tr 1 (q94=(t.2.1:Int))/\Tr 4 (q2/\q2/\Tr 1 (Tr 1 (q229.e=t.1.2.e)/\Tr 156 True)))))/\true=true/\(q3/\q2/\q2/\q2/\Tr 1 (q114=q238.blocks)/\Tr 1 (q115=q238.slots)/\Tr 1 (q116=q238.gens)/\Tr 1 (q117=q238.top)/\Tr 1 (q118=q238.high)/\Tr 1 (q119=q238.free)/\True)/\q5/\devB q230.ws=devB t.1.2.s.ws/\zaA q230.a=zaA t.1.2.s.a/\(q8/\(1:Nat)=1/\(12:Nat)=12/\(∀(i:Nat),i<12->[AV.int .i64 (q112.2 i)]=[AV.int .i64 (q237.2 i)])/\True)/\(q10/\(4:Nat)=4/\q235/\q234 <= q108/\∀(i:Nat),i<q234->[AV.int .i64 (q107.getD i entZ).slot,AV.int .i64 (q107.getD i entZ).gen,AV.int .i64 (q107.getD i entZ).key,AV.int .i64 (q107.getD i entZ).value]=[AV.int .i64 (q233.getD i entZ).slot,AV.int .i64 (q233.getD i entZ).gen,AV.int .i64 (q233.getD i entZ).key,AV.int .i64 (q233.getD i entZ).value])/\(q11/\Tr 1 (q100=q239.blocks)/\Tr 1 (q101=q239.slots)/\Tr 1 (q102=q239.gens)/\Tr 1 (q103=q239.top)/\Tr 1 (q104=q239.high)/\Tr 1 (q105=q239.free)/\True)/\(q8/\(1:Nat)=1/\(12:Nat)=12/\(∀(i:Nat),i<12->[AV.int .i64 (q98.2 i)]=[AV.int .i64 (t.2.2.2 i)])/\True)/\((40:Nat)=(40:TypeId)/\Tr 1 (q231.blocks=t.1.2.t.blocks)/\Tr 1 (q231.slots=t.1.2.t.slots)/\Tr 1 (q231.gens=t.1.2.t.gens)/\Tr 1 (q231.top=t.1.2.t.top)/\Tr 1 (q231.high=t.1.2.t.high)/\Tr 1 (q231.free=t.1.2.t.free)/\True)/\((47:Nat)=(47:TypeId)/\(1:Nat)=1/\(12:Nat)=12/\(∀(i:Nat),i<12->[AV.int .i64 (q229.r i)]=[AV.int .i64 (t.1.2.r i)])/\True)/\True;
 let q241:Prop:=q240/\q240; ((q2/\(Tr 1 (q100=q224.blocks)/\Tr 1 (q101=q224.slots)/\Tr 1 (q102=q224.gens)/\Tr 1 (q103=q224.top)/\Tr 1 (q104=q224.high)/\Tr 1 (q105=q224.free)/\True)/\((1:Nat)=1/\(12:Nat)=12/\(∀(i:Nat),i<12->[AV.int .i64 (q98.2 i)]=[AV.int .i64 (q225.1 i)])/\True)/\Tr 1 (q120.1=q227)/\Tr 1 (q120.2=q228)/\True)/\true=true/\q5/\devB t.1.2.ws=devB x.1.ws/\zaA t.1.2.a=zaA x.1.a/\True)/\(zaF x.1/\zaR q224/\zaY q225.1/\I64 q227/\I64 q228)/\∀(y:Unit),True->q241/\q241/\q241)/\q223/\q223/\q223)/\∀(t_1:(FeT×IR)×Nat×TickT×(Nat->Int)),
 let q242:Int:=(t_1.2.1:Int)+1;
 let q243:Prop:=I64 q242;
 let q244:List EntT×Nat:=t_1.1.1.1;
 let q245:List EntT:=q244.1;
 let q246:Nat:=q245.length;
 let q247:Int×TickT×(Nat->Int):=t_1.1.1.2;
 let q248:TickT×(Nat->Int):=q247.2;
 let q249:TickT:=q248.1;
 let q250:TickT:=t_1.2.2.1; I_1 t_1->BC (decide (t_1.1.2.e=(0:Int))) (q243/\Exx ((FeT×StoreT)×Nat×TickT×(Nat->Int)) fun t' =>
 let q251:List EntT×Nat:=t'.fst.1.1;
 let q252:List EntT:=q251.1;
 let q253:Nat:=q252.length;
 let q254:Prop:=q244.2=q251.2;
 let q255:Int×TickT×(Nat->Int):=t'.fst.1.2;
 let q256:TickT×(Nat->Int):=q255.2;
 let q257:TickT:=q256.1;
 let q258:TickT×(Nat->Int):=t'.snd.2;
 let q259:TickT:=q258.1; (I t'/\m t'<m t)/\(q13/\q17/\Tr 3 (q2/\q2/\Tr 5 ((true=true/\zaC/\(0:Nat)=0/\(4:Nat)=4/\(0:Nat)=0/\q246=q253/\q254)/\Tr 1 (q247.1=q255.1)/\q2/\q2/\Tr 1 (q242=(↑t'.snd.1:Int))/\Tr 164 True)))/\true=true/\(q3/\q2/\q2/\q2/\Tr 1 (q249.blocks=q257.blocks)/\Tr 1 (q249.slots=q257.slots)/\Tr 1 (q249.gens=q257.gens)/\Tr 1 (q249.top=q257.top)/\Tr 1 (q249.high=q257.high)/\Tr 1 (q249.free=q257.free)/\True)/\q5/\devB t_1.1.2.s.ws=devB t'.fst.2.ws/\zaA t_1.1.2.s.a=zaA t'.fst.2.a/\(q8/\(1:Nat)=1/\(12:Nat)=12/\(∀(i:Nat),i<12->[AV.int .i64 (q248.2 i)]=[AV.int .i64 (q256.2 i)])/\True)/\(q10/\(4:Nat)=4/\q254/\q253 <= q246/\∀(i:Nat),i<q253->[AV.int .i64 (q245.getD i entZ).slot,AV.int .i64 (q245.getD i entZ).gen,AV.int .i64 (q245.getD i entZ).key,AV.int .i64 (q245.getD i entZ).value]=[AV.int .i64 (q252.getD i entZ).slot,AV.int .i64 (q252.getD i entZ).gen,AV.int .i64 (q252.getD i entZ).key,AV.int .i64 (q252.getD i entZ).value])/\(q11/\Tr 1 (t_1.1.2.t.blocks=q259.blocks)/\Tr 1 (t_1.1.2.t.slots=q259.slots)/\Tr 1 (t_1.1.2.t.gens=q259.gens)/\Tr 1 (t_1.1.2.t.top=q259.top)/\Tr 1 (t_1.1.2.t.high=q259.high)/\Tr 1 (t_1.1.2.t.free=q259.free)/\True)/\(q8/\(1:Nat)=1/\(12:Nat)=12/\(∀(i:Nat),i<12->[AV.int .i64 (t_1.1.2.r i)]=[AV.int .i64 (q258.2 i)])/\True)/\True) (q243/\Exx ((FeT×StoreT)×Nat×TickT×(Nat->Int)) fun t' =>
 let q260:List EntT×Nat:=t'.fst.1.1;
 let q261:List EntT:=q260.1;
 let q262:Nat:=q261.length;
 let q263:Prop:=q244.2=q260.2;
 let q264:Int×TickT×(Nat->Int):=t'.fst.1.2;
 let q265:TickT×(Nat->Int):=q264.2;
 let q266:TickT:=q265.1;
 let q267:TickT×(Nat->Int):=t'.snd.2;
 let q268:TickT:=q267.1; (I t'/\m t'<m t)/\(q13/\q17/\Tr 3 (q2/\q2/\Tr 5 ((true=true/\zaC/\(0:Nat)=0/\(4:Nat)=4/\(0:Nat)=0/\q246=q262/\q263)/\Tr 1 (q247.1=q264.1)/\q2/\q2/\Tr 1 (q242=(↑t'.snd.1:Int))/\Tr 164 True)))/\true=true/\(q3/\q2/\q2/\q2/\Tr 1 (q249.blocks=q266.blocks)/\Tr 1 (q249.slots=q266.slots)/\Tr 1 (q249.gens=q266.gens)/\Tr 1 (q249.top=q266.top)/\Tr 1 (q249.high=q266.high)/\Tr 1 (q249.free=q266.free)/\True)/\q5/\devB t_1.1.2.s.ws=devB t'.fst.2.ws/\zaA t_1.1.2.s.a=zaA t'.fst.2.a/\(q8/\(1:Nat)=1/\(12:Nat)=12/\(∀(i:Nat),i<12->[AV.int .i64 (q248.2 i)]=[AV.int .i64 (q265.2 i)])/\True)/\(q10/\(4:Nat)=4/\q263/\q262 <= q246/\∀(i:Nat),i<q262->[AV.int .i64 (q245.getD i entZ).slot,AV.int .i64 (q245.getD i entZ).gen,AV.int .i64 (q245.getD i entZ).key,AV.int .i64 (q245.getD i entZ).value]=[AV.int .i64 (q261.getD i entZ).slot,AV.int .i64 (q261.getD i entZ).gen,AV.int .i64 (q261.getD i entZ).key,AV.int .i64 (q261.getD i entZ).value])/\(q11/\Tr 1 (q250.blocks=q268.blocks)/\Tr 1 (q250.slots=q268.slots)/\Tr 1 (q250.gens=q268.gens)/\Tr 1 (q250.top=q268.top)/\Tr 1 (q250.high=q268.high)/\Tr 1 (q250.free=q268.free)/\True)/\(q8/\(1:Nat)=1/\(12:Nat)=12/\(∀(i:Nat),i<12->[AV.int .i64 (t_1.2.2.2 i)]=[AV.int .i64 (q267.2 i)])/\True)/\True))) (Exx (StoreT×(Nat->Int)) fun x_4=>((q2/\((1:Nat)=1/\(12:Nat)=12/\(∀(i:Nat),i<12->[AV.int .i64 (q112.2 i)]=[AV.int .i64 (x_4.2 i)])/\True)/\True)/\true=true/\q5/\devB t.1.2.ws=devB x_4.1.ws/\zaA t.1.2.a=zaA x_4.1.a/\True)/\(zaF x_4.1/\zaY x_4.2)/\∀(y:List EntT×Nat),(y.1.length <= y.2/\y.2 <= 9223372036854775807)/\y.1.Perm (zbX x_4.1.ws x_4.2).1/\SrtN y.1->BC (decide (q111=(0:Int))) (BC (decide ((zbX x_4.1.ws x_4.2).2=(0:Int))) (BC (decide (q121=(x.1.length:Int))) (Exx (List EntT×List EntT) fun x=>(((0+q108 <= q108/\q108=x.1.length/\∀(i:Nat),
 let q269:EntT:=q107.getD (0+i) entZ; i<x.1.length->[AV.int .i64 q269.slot,AV.int .i64 q269.gen,AV.int .i64 q269.key,AV.int .i64 q269.value]=[AV.int .i64 (x.1.getD i entZ).slot,AV.int .i64 (x.1.getD i entZ).gen,AV.int .i64 (x.1.getD i entZ).key,AV.int .i64 (x.1.getD i entZ).value])/\(0+y.1.length <= y.1.length/\y.1.length=x.2.length/\∀(i:Nat),
 let q270:EntT:=y.1.getD (0+i) entZ; i<x.2.length->[AV.int .i64 q270.slot,AV.int .i64 q270.gen,AV.int .i64 q270.key,AV.int .i64 q270.value]=[AV.int .i64 (x.2.getD i entZ).slot,AV.int .i64 (x.2.getD i entZ).gen,AV.int .i64 (x.2.getD i entZ).key,AV.int .i64 (x.2.getD i entZ).value])/\True)/\true=true/\True)/\(EntsI x.1/\EntsI x.2)/\∀(y:Unit),True->Exx Unit fun y=>((decide (x.1=x.2)=true/\True)/\true=true/\True)/\True) q9) q9) q9); (q4/\true=true/\zaA t.2.a=zaA x_3.1/\True)/\(za7 x_3.1/\True)/\∀(y:Unit),True->q271/\q271)))))=(fnVC tb [(14,zaB ztH),(15,zaB zuA),(19,zaB zsR),(20,zaB zjC),(23,zaB zmP),(25,zaB zg9),(26,zaB zj1)] Tryz.f6 forestElderC (fun x=>{ loops:=[(8,feLA x),(18,feLB x)],loose:=[(10,[1000,2,3,4]),(13,[1,5]),(14,[1000,2,3,4]),(21,[1000,2,3,4]),(23,[7,8]),(24,[1000,2,3,4]),(26,[7,8]),(27,[1000,2,3,4])],joins:=[(11,feJ11 x),(15,feJ15 x),(22,feJ22 x),(25,feJ25 x)] }) (fun _=>none)):=by kernel_rfl

theorem forestElder_ok:SpecOk Tryz.prog 6 (zaB forestElderC):=by
 refine zaK zaL zaN (SPok.cons qcN (SPok.cons zzC (SPok.cons zvD (SPok.cons zm4 (SPok.cons zwA (SPok.cons zs4 (SPok.cons zr4 SPok.nil))))))) Tryz.func6 (by decide) (zaW fun _=>rfl) (Eq.mp zvO ?_)
 simp (maxSteps:=10000000) only [std,stdU,stdV,Exx,I64,Nat.reduceMul,Nat.reduceDiv,Nat.reduceAdd,Int.reduceToNat,↓and_self,and_self,and_self_left,and_self_right,zaP,zaH,zaV,zgY,zdB,zkA,ze0,zcN,zg8,zv0]
 rintro es acts ⟨hI,hla,hA,hlb⟩ h15 h12
 have hI':=es_I hI
 have hAc:∀i,AcI (acts.getD i acZ):=fun i=>getD_mem (p:=AcI) (fun x hx=>hA x.1 x.2.1 x.2.2.1 x.2.2.2 hx) ⟨I64_0,I64_0⟩ i
 have hn:es.length <= 15:=by omega
 have hk:acts.length <= 12:=by omega
 have S0:=zz9 (n:=200) (sl:=40) (by omega) (by omega) (by decide) (by omega)
 refine ⟨200,rfl,by omega,by omega,by omega,fun z=>z.1 <= es.length/\∃d G l,FR1 40 z.2.1.1 z.2.1.2 d z.2.2 G [] l z.1/\l.length=z.1,⟨0,zdI 200 0,zn3 ((200:Nat):Int) 40 100,zcW,⟨Nat.zero_le _,qcK,[],[],S0,rfl⟩,rfl,rfl,rfl,rfl,rfl,rfl,rfl,rfl,rfl,fun _ _=>rfl⟩,fun z=>es.length-z.1,fun i s t r hJ=>?_⟩
 obtain ⟨h3,d,G,l,h,hl⟩:=hJ
 simp only at h3 h hl
 refine ⟨fun hlt=>?_,fun hge=>?_⟩
 ·have k0:=hI' i 0
  have k1:=hI' i 1
  obtain ⟨x,d',G',I⟩:=h.insert (k:=(es.getD i []).getD 0 0) (v:=(es.getD i []).getD 1 0) (by omega) (by omega) k0 k1
  refine ⟨by omega,by omega,by omega,by omega,by omega,by omega,by omega,by omega,fun z=>z.1=i/\z.2.2=insR s t r ((es.getD i []).getD 0 0) ((es.getD i []).getD 1 0),⟨s,r,fun _ _=>rfl,rfl,rfl,h.W,h.tI,h.rI,k0.1,k0.2,k1.1,k1.2,i,t,r,insR s t r ((es.getD i []).getD 0 0) ((es.getD i []).getD 1 0),⟨rfl,rfl⟩,rfl,rfl,rfl,rfl,rfl,rfl,rfl,rfl,rfl,rfl,fun _ _=>rfl,rfl,rfl,rfl,rfl,rfl,rfl,fun _ _=>rfl⟩,fun j t' r' q hz=>?_⟩
  obtain ⟨e1,e2⟩:=hz
  simp only at e1 e2
  subst e1 e2
  exact ⟨fun hn=>hn I.e,fun _=>⟨by omega,by omega,j+1,_,_,_,⟨by simp only; omega,d',G',x :: l,I.fr,by rw [List.length_cons,hl]⟩,by simp only; omega,by omega,rfl,rfl,rfl,rfl,rfl,rfl,rfl,rfl,fun _ _=>rfl⟩⟩
 ·have ei:i=es.length:=by omega
  subst ei
  obtain ⟨w1,w2⟩:=h.list
  refine ⟨fun z=>z.1.2.1=0/\z.1.1.1.Perm l/\SrtN z.1.1.1/\FR1 40 z.2 z.1.2.2.1 d z.1.2.2.2 G [] l es.length,⟨s,r,fun _ _=>rfl,rfl,rfl,h.W,h.rI,fun l1 c hc=>⟨l1,c,0,t,r,s,⟨rfl,hc.2.2.1.trans w2,hc.2.2.2,h⟩,rfl,rfl,w1,rfl,rfl,rfl,rfl,rfl,rfl,rfl,rfl,fun _ _=>rfl,rfl,Nat.le_refl _,fun _ _=>rfl⟩⟩,fun L1 c1 e0 t0 r0 s0 hz=>?_⟩
  obtain ⟨z1,z2,z3,h⟩:=hz
  simp only at z1 z2 z3 h
  subst z1
  refine ⟨h.W.2,fun z=>z.2.1 <= acts.length/\z.1.1.1.1=L1/\z.1.1.2.1=0/\z.1.1.2.2.2=r0/\Env (zj7 s0) z.1.2/\∃d G m,FR1 40 z.1.2 z.2.2.1 d z.2.2.2 G [] m (es.length+z.2.1),⟨L1,c1,0,t0,r0,zj7 s0,0,t0,r0,⟨Nat.zero_le _,rfl,rfl,rfl,Env.refl _,d,G,l,h.mark⟩,rfl,rfl,rfl,rfl,rfl,rfl,rfl,rfl,rfl,rfl,rfl,rfl,fun _ _=>rfl,rfl,Nat.le_refl _,fun _ _=>rfl,rfl,rfl,rfl,rfl,rfl,rfl,fun _ _=>rfl⟩,fun z=>acts.length-z.2.1,fun L2 c2 e2 t2 r2 s i t q hJ=>?_⟩
  obtain ⟨hi,y1,y2,y3,hE,d',G',m,k⟩:=hJ
  simp only at hi y1 y2 y3 hE k
  subst y1 y2 y3
  refine ⟨fun hlt=>⟨by omega,by omega,fun hp=>?_,fun hp=>?_⟩,fun hge=>?_⟩
  ·refine ⟨fun z=>z.1.1.1.1=L2/\z.1.1.2.1=0/\z.1.1.2.2.2=r2/\z.2.1=i/\z.2.2.1=t/\z.2.2.2=q/\z.1.2=popR s t q,⟨s,q,fun _ _=>rfl,rfl,rfl,k.W,k.tI,k.rI,L2,c2,0,t2,r2,popR s t q,i,t,q,⟨rfl,rfl,rfl,rfl,rfl,rfl,rfl⟩,rfl,rfl,rfl,rfl,rfl,rfl,rfl,rfl,rfl,rfl,rfl,rfl,rfl,fun _ _=>rfl,rfl,Nat.le_refl _,fun _ _=>rfl,rfl,rfl,rfl,rfl,rfl,rfl,fun _ _=>rfl,rfl,rfl,rfl,rfl,rfl,rfl,fun _ _=>rfl⟩,fun L3 c3 e3 t3 r3 p i3 t4 q4 hz=>?_⟩
   obtain ⟨x1,x2,x3,x4,x5,x6,x7⟩:=hz
   simp only at x1 x2 x3 x4 x5 x6 x7
   subst x1 x2 x3 x4 x5 x6
   by_cases hm:m=[]
   ·subst hm
    obtain ⟨n1,_,_⟩:=k.popNo
    rw [n1] at x7
    subst x7
    exact ⟨fun n=>by simp at n,fun _=>⟨by omega,by omega,L3,c3,0,t3,r3,s,i3+1,t4,q4,⟨by simp only; omega,rfl,rfl,rfl,hE,d',G',[],k.le (by simp only; omega)⟩,by simp only; omega,rfl,rfl,rfl,by omega,rfl,rfl,rfl,rfl,rfl,rfl,rfl,rfl,fun _ _=>rfl,rfl,Nat.le_refl _,fun _ _=>rfl,rfl,rfl,rfl,rfl,rfl,rfl,fun _ _=>rfl⟩⟩
   ·obtain ⟨d2,G2,P⟩:=k.pop hm
    obtain ⟨a,b,em⟩:=List.append_of_mem P.mem
    have F:=P.fr (a++b) (by rw [em]; exact List.perm_middle)
    have E2:=hE.trans P.env
    have Pe:=P.e
    rw [<- x7] at F E2 Pe
    exact ⟨fun _=>⟨by omega,by omega,L3,c3,0,t3,r3,p.s,i3+1,p.t,p.r,⟨by simp only; omega,rfl,rfl,rfl,E2,d2,G2,a++b,F.le (by simp only; omega)⟩,by simp only; omega,rfl,rfl,rfl,by omega,rfl,rfl,rfl,rfl,rfl,rfl,rfl,rfl,fun _ _=>rfl,rfl,Nat.le_refl _,fun _ _=>rfl,rfl,rfl,rfl,rfl,rfl,rfl,fun _ _=>rfl⟩,fun n=>absurd Pe n⟩
  ·obtain ⟨v1,v2⟩:=hAc i
   obtain ⟨x,d2,G2,I⟩:=k.insert (k:=(acts.getD i acZ).2.2.1) (v:=(acts.getD i acZ).2.2.2) (by omega) (by omega) v1 v2
   refine ⟨by omega,by omega,by omega,by omega,fun z=>z.1.1.1.1=L2/\z.1.1.2.1=0/\z.1.1.2.2.2=r2/\z.2.1=i/\z.2.2.1=t/\z.2.2.2=q/\z.1.2=insR s t q (acts.getD i acZ).2.2.1 (acts.getD i acZ).2.2.2,⟨s,q,fun _ _=>rfl,rfl,rfl,k.W,k.tI,k.rI,v1.1,v1.2,v2.1,v2.2,L2,c2,0,t2,r2,insR s t q (acts.getD i acZ).2.2.1 (acts.getD i acZ).2.2.2,i,t,q,⟨rfl,rfl,rfl,rfl,rfl,rfl,rfl⟩,rfl,rfl,rfl,rfl,rfl,rfl,rfl,rfl,rfl,rfl,rfl,rfl,rfl,fun _ _=>rfl,rfl,Nat.le_refl _,fun _ _=>rfl,rfl,rfl,rfl,rfl,rfl,rfl,fun _ _=>rfl,rfl,rfl,rfl,rfl,rfl,rfl,fun _ _=>rfl⟩,fun L3 c3 e3 t3 r3 p i3 t4 q4 hz=>?_⟩
   obtain ⟨x1,x2,x3,x4,x5,x6,x7⟩:=hz
   simp only at x1 x2 x3 x4 x5 x6 x7
   subst x1 x2 x3 x4 x5 x6
   have F:=I.fr
   have E2:=hE.trans I.env
   have Pe:=I.e
   rw [<- x7] at F E2 Pe
   exact ⟨fun _=>⟨by omega,by omega,L3,c3,0,t3,r3,p.s,i3+1,p.t,p.r,⟨by simp only; omega,rfl,rfl,rfl,E2,d2,G2,x :: m,F⟩,by simp only; omega,rfl,rfl,rfl,by omega,rfl,rfl,rfl,rfl,rfl,rfl,rfl,rfl,fun _ _=>rfl,rfl,Nat.le_refl _,fun _ _=>rfl,rfl,rfl,rfl,rfl,rfl,rfl,fun _ _=>rfl⟩,fun n=>absurd Pe n⟩
  ·obtain ⟨b1,b2⟩:=h.behind hE
   refine ⟨s,r2,fun _ _=>rfl,rfl,rfl,k.W,h.rI,fun l2 c3 hc=>⟨fun _=>⟨fun _=>⟨fun _=>?_,fun n=>n (by rw [z2.length_eq,hl])⟩,fun n=>n b1⟩,fun n=>n rfl⟩⟩
   have p2:=hc.2.2.1.trans b2
   have he:EntsI l:=h.ents
   have i1:EntsI L2:=⟨fun x hx=>he.1 x (z2.mem_iff.1 hx),by rw [z2.length_eq]; exact he.2⟩
   have i2:EntsI l2:=⟨fun x hx=>he.1 x (p2.mem_iff.1 hx),by rw [p2.length_eq]; exact he.2⟩
   exact ⟨L2,rfl,fun _ _=>rfl,l2,rfl,fun _ _=>rfl,i1,i2,zwS (HNodup.perm h.hnd z2.symm) (z2.trans p2.symm) z3 hc.2.2.2⟩

end Yard
