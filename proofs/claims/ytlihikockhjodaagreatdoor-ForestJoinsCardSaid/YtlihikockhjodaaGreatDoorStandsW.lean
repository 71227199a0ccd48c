import Derived.Test.YtlihikockhjodaaGreatDoorFRun
import Derived.Test.YtlihikockhjodaaGreatDoorStand

namespace Yard
open Go Go.Sx Go.Proofs
set_option linter.unusedVariables false
set_option linter.unusedSimpArgs false
set_option maxRecDepth 4000
set_option maxHeartbeats 4000000

abbrev StX:Type:=(StoreT×TickT)×((Nat->Int)×List EntT)
def qaD:Ctr:=zlM ((Nat->Int)×List EntT) (fun x=>zaS x.1.2/\x.1.2.high <= 1792/\zaT x.2.1/\EntsI x.2.2/\∃q,zd7 x.1.1 x.1.2 x.2.1 x.2.2 q) (fun x=>[zd4 x.2.1,zn5 x.2.2]) (fun _ => .bool true)
def stdJ2 (x:StX):LA:={ T:=(List EntT×Nat)×(List Int×Nat)×Bool,F:=fun t=>frm 79 [(0,.ptr 0 [] 0),(2,zn5 x.2.2),(4,.ptr 5 [] 0),(7,.sl 6 [] 0 4 0 t.1.1.length t.1.2),(8,.sl 7 [] 0 1 0 t.2.1.1.length t.2.1.2),(9,.bool t.2.2)],H:=fun t=>zhW x.1.1 x.1.2++[.fence,zdN x.2.1,entR t.1.2 t.1.1,rowI 3 .i64 t.2.1.2 t.2.1.1],ρ₁:=zfP 6 [7,8],ρ₂:=zfP 6 [7,8] }
def stdJ3 (x:StX):LA:={ T:=((List EntT×Nat)×(List Int×Nat)×Bool)×(List Int×Nat)×Bool,F:=fun t=>frm 79 [(0,.ptr 0 [] 0),(2,zn5 x.2.2),(4,.ptr 5 [] 0),(7,.sl 6 [] 0 4 0 t.1.1.1.length t.1.1.2),(8,.sl 7 [] 0 1 0 t.1.2.1.1.length t.1.2.1.2),(9,.bool t.1.2.2),(10,.sl 8 [] 0 1 0 t.2.1.1.length t.2.1.2),(11,.bool t.2.2)],H:=fun t=>zhW x.1.1 x.1.2++[.fence,zdN x.2.1,entR t.1.1.2 t.1.1.1,rowI 3 .i64 t.1.2.1.2 t.1.2.1.1,rowI 3 .i64 t.2.1.2 t.2.1.1],ρ₁:=zfP 6 [7,8,10],ρ₂:=zfP 6 [7,8,10] }
theorem standsV:(
 let q1:Prop:=true=true/\zaC/\0=0;
 let q2:Prop:=q1/\True;
 let q3:Prop:=(42:TypeId)=42;
 let q4:Prop:=(107:TypeId)=107/\q1/\q2;
 let q5:Prop:=(29:TypeId)=29;
 let q6:Prop:=(3:TypeId)=3; ∀(x:(StoreT×TickT)×(Nat->Int)×List EntT),
 let q7:Nat:=x.2.2.length;
 let q10:Prop:=4=4/\q7=q7/\∀(i:Nat),
 let q8:EntT:=x.2.2.getD i entZ;
 let q9:List AV:=[AV.int .i64 q8.slot,AV.int .i64 q8.gen,AV.int .i64 q8.key,AV.int .i64 q8.value]; i<q7->q9=q9;
 let q12:Prop:=1=1/\12=12/\(∀(i:Nat),
 let q11:List AV:=[AV.int .i64 (x.2.1 i)]; i<12->q11=q11)/\True;
 let q13:Prop:=Exx Unit fun y=>((false=true/\True)/\(q3/\q1/\q1/\q1/\Tr 1 (x.1.2.blocks=x.1.2.blocks)/\Tr 1 (x.1.2.slots=x.1.2.slots)/\Tr 1 (x.1.2.gens=x.1.2.gens)/\Tr 1 (x.1.2.top=x.1.2.top)/\Tr 1 (x.1.2.high=x.1.2.high)/\Tr 1 (x.1.2.free=x.1.2.free)/\True)/\q4/\devB x.1.1.ws=devB x.1.1.ws/\zaB x.1.1.a=zaB x.1.1.a/\true=true/\True)/\True;
 let q14:Int:=(q7:Int); (zaG x.1.1/\zaS x.1.2/\x.1.2.high <= (1792:Int)/\zaT x.2.1/\EntsI x.2.2/\Exx (List EntT×List Int) fun q=>zd7 x.1.1 x.1.2 x.2.1 x.2.2 q)->Exx ((List EntT×Nat)×(List Int×Nat)×Bool->Prop) fun I=>(Exx ((StoreT×TickT)×Unit) fun x_1=>(q2/\true=true/\(q3/\q1/\q1/\q1/\Tr 1 (x.1.2.blocks=x_1.1.2.blocks)/\Tr 1 (x.1.2.slots=x_1.1.2.slots)/\Tr 1 (x.1.2.gens=x_1.1.2.gens)/\Tr 1 (x.1.2.top=x_1.1.2.top)/\Tr 1 (x.1.2.high=x_1.1.2.high)/\Tr 1 (x.1.2.free=x_1.1.2.free)/\True)/\q4/\devB x.1.1.ws=devB x_1.1.1.ws/\zaB x.1.1.a=zaB x_1.1.1.a/\True)/\(zaG x_1.1.1/\True)/\∀(y:Unit),True->Exx (List Nat×(Nat->Int)) fun x_2 =>
 let q15:List EntT:=(zeK x_2.1 x_2.2).1;
 let q16:Nat:=q15.length;
 let q17:List Int:=(zeK x_2.1 x_2.2).2;
 let q18:Nat:=q17.length; ((cstr (zaD x_1.1.1.ws)=cstr x_2.1/\(1=1/\12=12/\(∀(i:Nat),i<12->[AV.int .i64 (x.2.1 i)]=[AV.int .i64 (x_2.2 i)])/\True)/\True)/\true=true/\True)/\(Oct x_2.1/\zaT x_2.2)/\∀(y:Nat×Nat),(q16 <= y.1/\y.1 <= 9223372036854775807)/\q18 <= y.2/\y.2 <= 9223372036854775807->Exx ((List EntT×Nat)×(List Int×Nat)×Bool) fun t =>
 let q19:Nat:=t.1.1.length;
 let q20:Prop:=y.1=t.1.2;
 let q21:List Int×Nat:=t.2.1;
 let q22:List Int:=q21.1;
 let q23:Nat:=q22.length;
 let q24:Prop:=y.2=q21.2; I t/\(q1/\Tr 1 (q10/\Tr 1 (q1/\Tr 2 ((true=true/\zaC/\0=0/\4=4/\0=0/\q16=q19/\q20)/\(true=true/\zaC/\0=0/\1=1/\0=0/\q18=q23/\q24)/\(zb9 (imgN x_2.1) x_2.2 12).isSome=t.2.2/\Tr 69 True))))/\(q3/\q1/\q1/\q1/\Tr 1 (x_1.1.2.blocks=x.1.2.blocks)/\Tr 1 (x_1.1.2.slots=x.1.2.slots)/\Tr 1 (x_1.1.2.gens=x.1.2.gens)/\Tr 1 (x_1.1.2.top=x.1.2.top)/\Tr 1 (x_1.1.2.high=x.1.2.high)/\Tr 1 (x_1.1.2.free=x.1.2.free)/\True)/\q4/\devB x_1.1.1.ws=devB x.1.1.ws/\zaB x_1.1.1.a=zaB x.1.1.a/\true=true/\(47=(47:TypeId)/\q12)/\(q5/\4=4/\q20/\q19 <= q16/\∀(i:Nat),
 let q25:EntT:=t.1.1.getD i entZ; i<q19->[AV.int .i64 (q15.getD i entZ).slot,AV.int .i64 (q15.getD i entZ).gen,AV.int .i64 (q15.getD i entZ).key,AV.int .i64 (q15.getD i entZ).value]=[AV.int .i64 q25.slot,AV.int .i64 q25.gen,AV.int .i64 q25.key,AV.int .i64 q25.value])/\(q6/\1=1/\q24/\q23 <= q18/\∀(i:Nat),i<q23->[AV.int .i64 (q17.getD i 0)]=[AV.int .i64 (q22.getD i 0)])/\True)/\∀(t:(List EntT×Nat)×(List Int×Nat)×Bool),
 let q26:Nat:=t.1.1.length;
 let q27:List Int×Nat:=t.2.1;
 let q28:List Int:=q27.1;
 let q29:Nat:=q28.length; I t->Exx (((List EntT×Nat)×(List Int×Nat)×Bool)×(List Int×Nat)×Bool->Prop) fun I=>((Exx ((StoreT×TickT)×Unit) fun x_1=>(q2/\true=true/\(q3/\q1/\q1/\q1/\Tr 1 (x.1.2.blocks=x_1.1.2.blocks)/\Tr 1 (x.1.2.slots=x_1.1.2.slots)/\Tr 1 (x.1.2.gens=x_1.1.2.gens)/\Tr 1 (x.1.2.top=x_1.1.2.top)/\Tr 1 (x.1.2.high=x_1.1.2.high)/\Tr 1 (x.1.2.free=x_1.1.2.free)/\True)/\q4/\devB x.1.1.ws=devB x_1.1.1.ws/\zaB x.1.1.a=zaB x_1.1.1.a/\True)/\(zaG x_1.1.1/\True)/\∀(y:Unit),True->Exx (List Nat×Int) fun x_2=>((cstr (zaD x_1.1.1.ws)=cstr x_2.1/\Tr 1 (x_1.1.2.top=x_2.2)/\True)/\true=true/\True)/\(Oct x_2.1/\I64 x_2.2)/\∀(y:Nat),(zcX x_2.1 x_2.2).length <= y/\y <= 9223372036854775807->Exx (((List EntT×Nat)×(List Int×Nat)×Bool)×(List Int×Nat)×Bool) fun t_1 =>
 let q30:(List EntT×Nat)×(List Int×Nat)×Bool:=t_1.1;
 let q31:List EntT×Nat:=q30.1;
 let q32:List EntT:=q31.1;
 let q33:Nat:=q32.length;
 let q34:Prop:=t.1.2=q31.2;
 let q35:(List Int×Nat)×Bool:=q30.2;
 let q36:List Int×Nat:=q35.1;
 let q37:List Int:=q36.1;
 let q38:Nat:=q37.length;
 let q39:Prop:=q27.2=q36.2;
 let q40:(List Int×Nat)×Bool:=t_1.2;
 let q41:List Int×Nat:=q40.1;
 let q42:List Int:=q41.1;
 let q43:Nat:=q42.length;
 let q44:Prop:=y=q41.2; I t_1/\(q1/\Tr 1 (q10/\Tr 1 (q1/\Tr 2 ((true=true/\zaC/\0=0/\4=4/\0=0/\q26=q33/\q34)/\(true=true/\zaC/\0=0/\1=1/\0=0/\q29=q38/\q39)/\t.2.2=q35.2/\(true=true/\zaC/\0=0/\1=1/\0=0/\(zcX x_2.1 x_2.2).length=q43/\q44)/\decide (zeY x_2.1 x_2.2)=q40.2/\Tr 67 True))))/\(q3/\q1/\q1/\q1/\Tr 1 (x_1.1.2.blocks=x.1.2.blocks)/\Tr 1 (x_1.1.2.slots=x.1.2.slots)/\Tr 1 (x_1.1.2.gens=x.1.2.gens)/\Tr 1 (x_1.1.2.top=x.1.2.top)/\Tr 1 (x_1.1.2.high=x.1.2.high)/\Tr 1 (x_1.1.2.free=x.1.2.free)/\True)/\q4/\devB x_1.1.1.ws=devB x.1.1.ws/\zaB x_1.1.1.a=zaB x.1.1.a/\true=true/\((47:TypeId)=47/\q12)/\(q5/\4=4/\q34/\q33 <= q26/\∀(i:Nat),
 let q45:EntT:=t.1.1.getD i entZ; i<q33->[AV.int .i64 q45.slot,AV.int .i64 q45.gen,AV.int .i64 q45.key,AV.int .i64 q45.value]=[AV.int .i64 (q32.getD i entZ).slot,AV.int .i64 (q32.getD i entZ).gen,AV.int .i64 (q32.getD i entZ).key,AV.int .i64 (q32.getD i entZ).value])/\(q6/\1=1/\q39/\q38 <= q29/\∀(i:Nat),i<q38->[AV.int .i64 (q28.getD i 0)]=[AV.int .i64 (q37.getD i 0)])/\(q6/\1=1/\q44/\q43 <= (zcX x_2.1 x_2.2).length/\∀(i:Nat),i<q43->[AV.int .i64 ((zcX x_2.1 x_2.2).getD i 0)]=[AV.int .i64 (q42.getD i 0)])/\True)/\Exx ((StoreT×TickT)×Unit) fun x_1=>(q2/\true=true/\(q3/\q1/\q1/\q1/\Tr 1 (x.1.2.blocks=x_1.1.2.blocks)/\Tr 1 (x.1.2.slots=x_1.1.2.slots)/\Tr 1 (x.1.2.gens=x_1.1.2.gens)/\Tr 1 (x.1.2.top=x_1.1.2.top)/\Tr 1 (x.1.2.high=x_1.1.2.high)/\Tr 1 (x.1.2.free=x_1.1.2.free)/\True)/\q4/\devB x.1.1.ws=devB x_1.1.1.ws/\zaB x.1.1.a=zaB x_1.1.1.a/\True)/\(zaG x_1.1.1/\True)/\∀(y:Unit),True->Exx (List Nat×Int) fun x_2=>((cstr (zaD x_1.1.1.ws)=cstr x_2.1/\Tr 1 (x.1.2.top=x_2.2)/\True)/\true=true/\True)/\(Oct x_2.1/\I64 x_2.2)/\∀(y:Nat),(zcX x_2.1 x_2.2).length <= y/\y <= 9223372036854775807->Exx (((List EntT×Nat)×(List Int×Nat)×Bool)×(List Int×Nat)×Bool) fun t_1 =>
 let q46:(List EntT×Nat)×(List Int×Nat)×Bool:=t_1.1;
 let q47:List EntT×Nat:=q46.1;
 let q48:List EntT:=q47.1;
 let q49:Nat:=q48.length;
 let q50:Prop:=t.1.2=q47.2;
 let q51:(List Int×Nat)×Bool:=q46.2;
 let q52:List Int×Nat:=q51.1;
 let q53:List Int:=q52.1;
 let q54:Nat:=q53.length;
 let q55:Prop:=q27.2=q52.2;
 let q56:(List Int×Nat)×Bool:=t_1.2;
 let q57:List Int×Nat:=q56.1;
 let q58:List Int:=q57.1;
 let q59:Nat:=q58.length;
 let q60:Prop:=y=q57.2; I t_1/\(q1/\Tr 1 (q10/\Tr 1 (q1/\Tr 2 ((true=true/\zaC/\0=0/\4=4/\0=0/\q26=q49/\q50)/\(true=true/\zaC/\0=0/\1=1/\0=0/\q29=q54/\q55)/\t.2.2=q51.2/\(true=true/\zaC/\0=0/\1=1/\0=0/\(zcX x_2.1 x_2.2).length=q59/\q60)/\decide (zeY x_2.1 x_2.2)=q56.2/\Tr 67 True))))/\(q3/\q1/\q1/\q1/\Tr 1 (x_1.1.2.blocks=x.1.2.blocks)/\Tr 1 (x_1.1.2.slots=x.1.2.slots)/\Tr 1 (x_1.1.2.gens=x.1.2.gens)/\Tr 1 (x_1.1.2.top=x.1.2.top)/\Tr 1 (x_1.1.2.high=x.1.2.high)/\Tr 1 (x_1.1.2.free=x.1.2.free)/\True)/\q4/\devB x_1.1.1.ws=devB x.1.1.ws/\zaB x_1.1.1.a=zaB x.1.1.a/\true=true/\((47:TypeId)=47/\q12)/\(q5/\4=4/\q50/\q49 <= q26/\∀(i:Nat),
 let q61:EntT:=t.1.1.getD i entZ; i<q49->[AV.int .i64 q61.slot,AV.int .i64 q61.gen,AV.int .i64 q61.key,AV.int .i64 q61.value]=[AV.int .i64 (q48.getD i entZ).slot,AV.int .i64 (q48.getD i entZ).gen,AV.int .i64 (q48.getD i entZ).key,AV.int .i64 (q48.getD i entZ).value])/\(q6/\1=1/\q55/\q54 <= q29/\∀(i:Nat),i<q54->[AV.int .i64 (q28.getD i 0)]=[AV.int .i64 (q53.getD i 0)])/\(q6/\1=1/\q60/\q59 <= (zcX x_2.1 x_2.2).length/\∀(i:Nat),i<q59->[AV.int .i64 ((zcX x_2.1 x_2.2).getD i 0)]=[AV.int .i64 (q58.getD i 0)])/\True)/\∀(t:((List EntT×Nat)×(List Int×Nat)×Bool)×(List Int×Nat)×Bool),
 let q62:(List EntT×Nat)×(List Int×Nat)×Bool:=t.1;
 let q63:(List Int×Nat)×Bool:=q62.2;
 let q64:(List Int×Nat)×Bool:=t.2;
 let q65:List EntT:=q62.1.1;
 let q66:Nat:=q65.length;
 let q67:Prop:=0+q66 <= q66;
 let q68:List Int:=q63.1.1;
 let q69:Nat:=q68.length;
 let q70:Int:=2+(q69:Int);
 let q71:Int:=q70+(q64.1.1.length:Int); I t->BC (!q63.2) q13 (BC (!q64.2) q13 (Exx ((Nat->Int)×Int) fun x_1=>(((1=1/\12=12/\(∀(i:Nat),i<12->[AV.int .i64 (x.2.1 i)]=[AV.int .i64 (x_1.1 i)])/\True)/\Tr 1 (q14=x_1.2)/\True)/\true=true/\True)/\(zaT x_1.1/\I64 x_1.2)/\∀(y:Unit),True->BC (!ziN x_1.1 12 0 x_1.2) q13 (Exx (List EntT) fun x_2=>(((q67/\q66=x_2.length/\∀(i:Nat),
 let q72:EntT:=q65.getD (0+i) entZ; i<x_2.length->[AV.int .i64 q72.slot,AV.int .i64 q72.gen,AV.int .i64 q72.key,AV.int .i64 q72.value]=[AV.int .i64 (x_2.getD i entZ).slot,AV.int .i64 (x_2.getD i entZ).gen,AV.int .i64 (x_2.getD i entZ).key,AV.int .i64 (x_2.getD i entZ).value])/\True)/\true=true/\True)/\EntsI x_2/\∀(y:Nat),(zaY x_2).length <= y/\y <= 9223372036854775807->Exx (List EntT) fun x_3=>(((q7=x_3.length/\∀(i:Nat),
 let q73:EntT:=x.2.2.getD i entZ; i<x_3.length->[AV.int .i64 q73.slot,AV.int .i64 q73.gen,AV.int .i64 q73.key,AV.int .i64 q73.value]=[AV.int .i64 (x_3.getD i entZ).slot,AV.int .i64 (x_3.getD i entZ).gen,AV.int .i64 (x_3.getD i entZ).key,AV.int .i64 (x_3.getD i entZ).value])/\True)/\true=true/\True)/\EntsI x_3/\∀(y:Nat),(zaY x_3).length <= y/\y <= 9223372036854775807->Exx (List EntT×List EntT) fun x_4=>(((0+(zaY x_2).length <= (zaY x_2).length/\(zaY x_2).length=x_4.1.length/\∀(i:Nat),
 let q74:EntT:=(zaY x_2).getD (0+i) entZ; i<x_4.1.length->[AV.int .i64 q74.slot,AV.int .i64 q74.gen,AV.int .i64 q74.key,AV.int .i64 q74.value]=[AV.int .i64 (x_4.1.getD i entZ).slot,AV.int .i64 (x_4.1.getD i entZ).gen,AV.int .i64 (x_4.1.getD i entZ).key,AV.int .i64 (x_4.1.getD i entZ).value])/\(0+(zaY x_3).length <= (zaY x_3).length/\(zaY x_3).length=x_4.2.length/\∀(i:Nat),
 let q75:EntT:=(zaY x_3).getD (0+i) entZ; i<x_4.2.length->[AV.int .i64 q75.slot,AV.int .i64 q75.gen,AV.int .i64 q75.key,AV.int .i64 q75.value]=[AV.int .i64 (x_4.2.getD i entZ).slot,AV.int .i64 (x_4.2.getD i entZ).gen,AV.int .i64 (x_4.2.getD i entZ).key,AV.int .i64 (x_4.2.getD i entZ).value])/\True)/\true=true/\True)/\(EntsI x_4.1/\EntsI x_4.2)/\∀(y:Unit),True->BC (!decide (x_4.1=x_4.2)) q13 (Exx ((StoreT×TickT)×List EntT×List Int) fun x_5 =>
 let q76:Nat:=x_5.2.1.length;
 let q77:Nat:=x_5.2.2.length;
 let q78:Ob:=zaB x_5.1.1.a;
 let q79:Prop:=q3/\q1/\q1/\q1/\Tr 1 (x_5.1.2.blocks=x.1.2.blocks)/\Tr 1 (x_5.1.2.slots=x.1.2.slots)/\Tr 1 (x_5.1.2.gens=x.1.2.gens)/\Tr 1 (x_5.1.2.top=x.1.2.top)/\Tr 1 (x_5.1.2.high=x.1.2.high)/\Tr 1 (x_5.1.2.free=x.1.2.free)/\True;
 let q80:Prop:=devB x_5.1.1.ws=devB x.1.1.ws; ((q1/\(q67/\q66=q76/\∀(i:Nat),
 let q81:EntT:=q65.getD (0+i) entZ;
 let q82:EntT:=x_5.2.1.getD i entZ; i<q76->[AV.int .i64 q81.slot,AV.int .i64 q81.gen,AV.int .i64 q81.key,AV.int .i64 q81.value]=[AV.int .i64 q82.slot,AV.int .i64 q82.gen,AV.int .i64 q82.key,AV.int .i64 q82.value])/\(0+q69 <= q69/\q69=q77/\∀(i:Nat),i<q77->[AV.int .i64 (q68.getD (0+i) 0)]=[AV.int .i64 (x_5.2.2.getD i 0)])/\True)/\true=true/\(q3/\q1/\q1/\q1/\Tr 1 (x.1.2.blocks=x_5.1.2.blocks)/\Tr 1 (x.1.2.slots=x_5.1.2.slots)/\Tr 1 (x.1.2.gens=x_5.1.2.gens)/\Tr 1 (x.1.2.top=x_5.1.2.top)/\Tr 1 (x.1.2.high=x_5.1.2.high)/\Tr 1 (x.1.2.free=x_5.1.2.free)/\True)/\q4/\devB x.1.1.ws=devB x_5.1.1.ws/\zaB x.1.1.a=q78/\True)/\(zaG x_5.1.1/\zaS x_5.1.2/\x_5.1.2.high <= (1792:Int)/\EntsI x_5.2.1/\zg5 x_5.2.2)/\∀(y:Unit),True->BC (!decide (zhJ x_5.1.1 x_5.1.2 x_5.2.1 x_5.2.2)) (Exx Unit fun y=>((false=true/\True)/\q79/\q4/\q80/\q78=zaB x.1.1.a/\true=true/\True)/\True) (Exx AllocT fun x_6 =>
 let q83:Prop:=q79/\q4/\q80/\zaB x_6=zaB x.1.1.a/\true=true/\True; (q2/\true=true/\q78=zaB x_6/\True)/\zbD x_6/\∀(y:Unit),True->Exx ((Nat×Nat)×Unit) fun x_7 =>
 let q84:Int:=(↑(bitsL x_7.1.1 x_7.1.2).length:Int); (q2/\true=true/\setB (x_6.n,x_6.w)=setB x_7.1/\True)/\(SetW x_7.1/\True)/\∀(y:Unit),True->I64 q70/\I64 q71/\BC (decide (q84=q71)) (Exx (Nat->Int) fun x_8=>(((1=1/\12=12/\(∀(i:Nat),i<12->[AV.int .i64 (x.2.1 i)]=[AV.int .i64 (x_8 i)])/\True)/\True)/\true=true/\True)/\zaT x_8/\∀(y:Unit),True->Exx Unit fun y=>((decide ((↑(rootN x_8 12):Int)=q14)=true/\True)/\q83)/\True) (Exx Unit fun y=>((false=true/\True)/\q83)/\True)))))))=(fnVC tb [(26,zaA zkZ),(27,zaA zgS),(31,zaA qaE),(37,zaA qeE),(41,zaA zjX),(57,zaA zk0),(58,zaA qiZ),(59,zaA qk5),(60,zaA zwV),(61,zaA ziP)] Tryz.f22 qaD (fun x=>{ loose:=[(1,[0,1,2,3]),(2,[0,1,2,3])],joins:=[(2,stdJ2 x),(3,stdJ3 x)] }) (fun _=>none)):=by kernel_rfl

theorem qiS:SpecOk Tryz.prog 22 (zaA qaD):=by
 refine zaK zaM zaL (SPok.cons zu8 (SPok.cons zkN (SPok.cons qiV (SPok.cons qeD (SPok.cons zxT (SPok.cons zu9 (SPok.cons qoO (SPok.cons qpZ (SPok.cons zuG (SPok.cons zkV SPok.nil)))))))))) Tryz.func22 (by decide) (ziM fun _=>rfl) (Eq.mp standsV ?_)
 simp (maxSteps:=10000000) only [std,stdU,stdV,Exx,I64,Nat.reduceMul,Nat.reduceDiv,Nat.reduceAdd,Int.reduceToNat,↓and_self,and_self,and_self_left,and_self_right,zaQ,zaI,zaZ,zfH,zc8,zd9,zcS]
 rintro s t r want ⟨h,ht,hh,hr,hw,es,bs,S⟩
 have hO:=zyX h
 have e1:=zrG S.img
 have eS:(zb9 (imgN (zaD s.ws)) r 12).isSome=true:=by rw [S.img]; rfl
 refine ⟨h,fun z=>z.1.1=es/\z.2.1.1=bs/\z.2.2=true,⟨r,fun _ _=>rfl,hO,hr,fun c1 c2 hc=>⟨es,c1,bs,c2,true,⟨rfl,rfl,rfl⟩,by rw [e1],rfl,by rw [e1],rfl,eS,rfl,by rw [e1]; exact Nat.le_refl _,fun i _=>by rw [e1],rfl,by rw [e1]; exact Nat.le_refl _,fun i _=>by rw [e1]⟩⟩,?_⟩
 intro es' c1 bs' c2 b1 hz
 obtain ⟨z1,z2,z3⟩:=hz
 simp only at z1 z2 z3
 subst z1 z2 z3
 refine ⟨h,hO,ht.2.2.2.1.1,ht.2.2.2.1.2,fun z=>z.1.1.1=es'/\z.1.2.1.1=bs'/\z.1.2.2=true/\z.2.1.1=zcX (zaD s.ws) t.top/\z.2.2=true,⟨(by first | exact 0 | exact () | exact []),fun y hy=>⟨es',c1,bs',c2,true,zcX (zaD s.ws) t.top,y,true,⟨rfl,rfl,rfl,rfl,rfl⟩,rfl,rfl,rfl,rfl,rfl,rfl,rfl,decide_eq_true S.pok,rfl,Nat.le_refl _,fun _ _=>rfl,rfl,Nat.le_refl _,fun _ _=>rfl,rfl,Nat.le_refl _,fun _ _=>rfl⟩⟩,?_⟩
 intro es2 k1 bs2 k2 b2 ps k3 b3 hz
 obtain ⟨z1,z2,z3,z4,z5⟩:=hz
 simp only at z1 z2 z3 z4 z5
 subst z1 z2 z3 z4 z5
 have hl:=S.len
 have hwk:=S.works
 simp only at hl hwk
 have hwl:=hw.2
 have hbl:(bitsL s.a.n s.a.w).length <= s.a.n:=Nat.le_trans (List.length_filter_le _ _) (by simp)
 have hnn:s.a.n <= 3072:=by have:=h.2.1; omega
 refine ⟨fun q=>(by cases q),fun _=>⟨fun q=>(by cases q),fun _=>⟨r,fun _ _=>rfl,hr,by omega,by omega,fun q=>(by rw [S.shape] at q; cases q),fun _=>⟨es2,rfl,fun _ _=>rfl,S.ents,fun y1 hy1=>⟨want,rfl,fun _ _=>rfl,hw,fun y2 hy2=>⟨zaY es2,rfl,fun _ _=>rfl,zaY want,rfl,fun _ _=>rfl,qaF S.ents,qaF hw,fun q=>q S.sort,fun _=>⟨s,t,es2,rfl,fun _ _=>rfl,rfl,rfl,rfl,rfl,rfl,rfl,rfl,rfl,h,ht,hh,S.ents,S.kids,fun q=>q S.leads,fun _=>?_⟩⟩⟩⟩⟩⟩⟩
 refine ⟨h.2,⟨hnn,h.2.2.2.2.2.2⟩,by omega,by omega,by omega,by omega,fun _=>⟨r,fun _ _=>rfl,hr,S.cnt,rfl,rfl,rfl,rfl,rfl,rfl,rfl,rfl⟩,fun q=>q (by omega)⟩

end Yard
