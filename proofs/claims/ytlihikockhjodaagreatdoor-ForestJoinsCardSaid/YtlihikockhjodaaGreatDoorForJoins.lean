import Derived.Test.YtlihikockhjodaaGreatDoorForStart
import Derived.Test.YtlihikockhjodaaGreatDoorStandsW
import Derived.Test.YtlihikockhjodaaGreatDoorForWant
import Derived.Test.YtlihikockhjodaaGreatDoorFRun2

namespace Yard
open Go Go.Sx Go.Proofs
set_option linter.unusedVariables false
set_option linter.unusedSimpArgs false
set_option maxRecDepth 4000
set_option maxHeartbeats 4000000

abbrev FjX:Type:=List (List Int)×List (List Int)×Bool
abbrev fjA (es:List (List Int)):AV := .ro 2 es.length (fun i=>[.arr 1 2 (fun j=>[i64 ((es.getD i []).getD j 0)])])
abbrev rs2C (f:Nat->Nat->Int):Sx.Item := .cells 62 [.arr 12 2 (fun i=>[.arr 1 12 (fun j=>[i64 (f i j)])])]
abbrev kvC (f:Nat->Int):Sx.Item := .cells 54 [.arr 1 2 (fun j=>[i64 (f j)])]
theorem qgL {j i:Nat} {s t:List AV}:zq4 j i s t none=if j=i then s else t:=rfl
def upd2 (f:Nat->Nat->Int) (w:Nat) (r:Nat->Int):Nat->Nat->Int:=fun i=>if i=w then r else f i
theorem qn9 (f:Nat->Nat->Int) (w:Nat) (r:Nat->Int):∀i,i<2->(if i=w then [AV.arr 1 12 fun j=>[AV.int .i64 (r j)]] else [AV.arr 1 12 fun j=>[AV.int .i64 (f i j)]])=[AV.arr 1 12 fun j=>[AV.int .i64 (upd2 f w r i j)]]:=fun i _=>by
 unfold upd2
 split <;> rfl

structure FR2 (s:StoreT) (t:TickT) (f:Nat->Nat->Int) (l:List EntT) (i:Nat) (d:DeskT) (A B:List GT) (la lb:List EntT):Prop where
 a:FR1 30 s t d (f 0) A B la i
 b:FR1 30 s t d (f 1) B A lb i
 pl:(la++lb).Perm l
 len:l.length=i
theorem FR2.ents {s:StoreT} {t:TickT} {f:Nat->Nat->Int} {l:List EntT} {i:Nat} {d:DeskT} {A B:List GT} {la lb:List EntT} (h:FR2 s t f l i d A B la lb):EntsI l:=by
 refine ⟨fun x hx=>?_,?_⟩
 ·rcases List.mem_append.1 (h.pl.mem_iff.2 hx) with q | q
  ·exact h.a.ents.1 x q
  ·exact h.b.ents.1 x q
 ·rw [<- h.pl.length_eq,List.length_append]
  have:=h.a.len
  have:=h.b.len
  omega
theorem FR2.rI {s:StoreT} {t:TickT} {f:Nat->Nat->Int} {l:List EntT} {i:Nat} {d:DeskT} {A B:List GT} {la lb:List EntT} (h:FR2 s t f l i d A B la lb) {w:Nat} (hw:w<2):zaT (f w):=by
 have:w=0\/w=1:=by omega
 rcases this with rfl | rfl
 ·exact h.a.rI
 ·exact h.b.rI
theorem FR2.insert {s:StoreT} {t:TickT} {f:Nat->Nat->Int} {l:List EntT} {i:Nat} {d:DeskT} {A B:List GT} {la lb:List EntT} (h:FR2 s t f l i d A B la lb) (hi:i<30) {w:Nat} (hw:w<2) {k v:Int} (hk:I64 k) (hv:I64 v) :
  (insR s t (f w) k v).e=0/\∃d' A' B' la' lb',FR2 (insR s t (f w) k v).s (insR s t (f w) k v).t (upd2 f w (insR s t (f w) k v).r) (l++[⟨(insR s t (f w) k v).h.slot,(insR s t (f w) k v).h.gen,k,v⟩]) (i+1) d' A' B' la' lb':=by
 have:w=0\/w=1:=by omega
 have hl:=h.len
 rcases this with rfl | rfl
 ·obtain ⟨x,d',A',I⟩:=h.a.insert (k:=k) (v:=v) (by omega) (by omega) hk hv
  have ex:x=⟨(insR s t (f 0) k v).h.slot,(insR s t (f 0) k v).h.gen,k,v⟩:=by
   rw [I.h]
   exact qcG rfl rfl I.key I.value
  rw [<- ex]
  refine ⟨I.e,d',A',B,x :: la,lb,I.fr,?_,?_,by rw [List.length_append,hl]; rfl⟩
  ·exact (I.fr).other (h.b.le (Nat.le_succ i))
  ·exact (List.Perm.cons x h.pl).trans (List.perm_append_singleton _ _).symm
 ·obtain ⟨x,d',B',I⟩:=h.b.insert (k:=k) (v:=v) (by omega) (by omega) hk hv
  have ex:x=⟨(insR s t (f 1) k v).h.slot,(insR s t (f 1) k v).h.gen,k,v⟩:=by
   rw [I.h]
   exact qcG rfl rfl I.key I.value
  rw [<- ex]
  refine ⟨I.e,d',A,B',la,x :: lb,(I.fr).other (h.a.le (Nat.le_succ i)),I.fr,?_,by rw [List.length_append,hl]; rfl⟩
  exact List.perm_middle.trans ((List.Perm.cons x h.pl).trans (List.perm_append_singleton _ _).symm)
def forestJoinsC:Ctr:=zbN FjX (fun x=>((∀e∈x.1,∀v∈e,I64 v)/\x.1.length <= maxLen)/\(∀e∈x.2.1,∀v∈e,I64 v)/\x.2.1.length <= maxLen) (fun x=>[fjA x.1,fjA x.2.1,.bool x.2.2]) (fun _ => .bool true)
def fjF (x:FjX) (l:List (Nat×AV)):Fr:=frm 131 ((0,fjA x.1) :: (1,fjA x.2.1) :: (2,.bool x.2.2) :: (7,.ptr 1 [] 0) :: (8,.ptr 5 [] 0) :: l)
abbrev FjT:Type:=(Nat×Nat)×(TickT×(Nat->Nat->Int)×List EntT)
def fjLA (x:FjX):LA:={ T:=FjT×StoreT,F:=fun t=>fjF x [(9,.sl 6 [] 0 4 0 t.1.2.2.2.length t.1.1.2),(10,i64 (t.1.1.1:Nat))],H:=fun t=>zoJ t.2 t.1.2.1++[rs2C t.1.2.2.1,entR t.1.1.2 t.1.2.2.2],ρ₁:=zfP 5 [8,9],ρ₂:=zfP 5 [8,9] }
def fjJ15 (x:FjX):LA:={ T:=(FjT×StoreT)×Nat×(Nat->Int),F:=fun t=>fjF x [(9,.sl 6 [] 0 4 0 t.1.1.2.2.2.length t.1.1.1.2),(10,i64 (t.1.1.1.1:Nat)),(11,i64 (t.2.1:Nat)),(12,.ptr 7 [] 0)],H:=fun t=>zoJ t.1.2 t.1.1.2.1++[rs2C t.1.1.2.2.1,entR t.1.1.1.2 t.1.1.2.2.2,kvC t.2.2],ρ₁:=zfP 5 [8,9,12],ρ₂:=zfP 5 [8,9,12] }
def fjJ16 (x:FjX):LA:={ T:=(FjT×IR)×Nat×(Nat->Int),F:=fun t=>fjF x [(9,.sl 6 [] 0 4 0 t.1.1.2.2.2.length t.1.1.1.2),(10,i64 (t.1.1.1.1:Nat)),(11,i64 (t.2.1:Nat)),(12,.ptr 7 [] 0),(13,.ptr 8 [] 0),(14,.ptr 9 [] 0),(15,.ptr 10 [] 0),(16,i64 t.1.2.e)],H:=fun t=>zoJ t.1.2.s t.1.1.2.1++[rs2C t.1.1.2.2.1,entR t.1.1.1.2 t.1.1.2.2.2,kvC t.2.2,zz8 t.1.2.t,zdN t.1.2.r,handC t.1.2.h],ρ₁:=zfP 5 [8,9,12,13,14,15],ρ₂:=zfP 5 [8,9,12,13,14,15] }
def fjJ22 (x:FjX):LA:={ T:=FjT×StoreT,F:=fun t=>fjF x [(9,.sl 6 [] 0 4 0 t.1.2.2.2.length t.1.1.2)],H:=fun t=>zoJ t.2 t.1.2.1++[rs2C t.1.2.2.1,entR t.1.1.2 t.1.2.2.2],ρ₁:=zfP 5 [8,9],ρ₂:=zfP 5 [8,9] }
def fjJ23:LA:={ T:=((List EntT×Nat)×TickT)×FR,F:=fun t=>frm 131 [(7,.ptr 1 [] 0),(9,.sl 5 [] 0 4 0 t.1.1.1.length t.1.1.2),(17,.ptr 6 [] 0),(18,.ptr 7 [] 0),(19,i64 t.2.e)],H:=fun t=>zoJ t.2.s t.1.2++[entR t.1.1.2 t.1.1.1,zz8 t.2.t,zdN t.2.r],ρ₁:=zfP 5 [9,17,18],ρ₂:=zfP 5 [9,17,18] }
theorem zy6:(
 let q1:Prop:=∀(y:Unit),True->Exx Unit fun y=>((true=true/\True)/\true=true/\True)/\True;
 let q2:Prop:=true=true/\zaC/\0=0;
 let q3:Prop:=(42:TypeId)=42;
 let q4:Prop:=q2/\True;
 let q5:Prop:=(107:TypeId)=107/\q2/\q4;
 let q6:Prop:=q2/\Tr 118 True;
 let q7:Prop:=(62:TypeId)=62;
 let q8:Prop:=(29:TypeId)=29;
 let q9:Prop:=(0:Int) <= (0:Int)/\(0:Int)<(↑(2:Nat):Int);
 let q10:Prop:=(0:Int).toNat<2;
 let q11:Prop:=(0:Int) <= (1:Int)/\(1:Int)<(↑(2:Nat):Int);
 let q12:Prop:=(1:Int).toNat<2;
 let q13:Prop:=Exx Unit fun y=>((false=true/\True)/\true=true/\True)/\True;
 let q14:Nat:=(TI.mk (TK.struct [(0,27),(2,3),(3,3)]) 4 32 (ZL.cons (Value.int IntKind.i64 0) (ZL.cons (Value.int IntKind.i64 0) (ZL.cons (Value.int IntKind.i64 0) (ZL.cons (Value.int IntKind.i64 0) ZL.nil)))) true).size; ∀(x:List (List Int)×List (List Int)×Bool),
 let q15:Nat:=x.2.1.length;
 let q16:Int:=(x.1.length:Int);
 let q17:Int:=(q15:Int);
 let q19:Prop:=2=2/\x.1.length=x.1.length/\∀(i:Nat),
 let q18:List AV:=[AV.arr 1 2 fun j=>[AV.int .i64 ((x.1.getD i []).getD j 0)]]; i<x.1.length->q18=q18;
 let q21:Prop:=2=2/\q15=q15/\∀(i:Nat),
 let q20:List AV:=[AV.arr 1 2 fun j=>[AV.int .i64 ((x.2.1.getD i []).getD j 0)]]; i<q15->q20=q20;
 let q22:Prop:=x.2.2=x.2.2; ((∀(e:List Int),e∈x.1->∀(v:Int),v∈e->I64 v)/\x.1.length <= maxLen)/\(∀(e:List Int),e∈x.2.1->∀(v:Int),v∈e->I64 v)/\q15 <= maxLen->Exx Unit fun x_1=>Tr 1 (true=true/\True)/\Tr 1 (∀(y:Unit),True->∀(n:Int),n=IntKind.i64.wrap (q16+q17)->BC (decide ((25:Int)<n)) (Exx Unit fun x=>Tr 1 (true=true/\True)/\Tr 1 q1) (Exx (Nat×Int) fun x_2 =>
 let q23:TickT:=zp1 (x_2.1:Int) x_2.2 100; ((Tr 1 (150=(x_2.1:Int))/\Tr 1 ((30:Int)=x_2.2)/\True)/\true=true/\True)/\(x_2.1 <= 3072/\I64 x_2.2)/\∀(y:Unit),True->Exx (FjT×StoreT->Prop) fun I=>Exx (FjT×StoreT->Nat) fun m=>(Exx (FjT×StoreT) fun t =>
 let q24:(Nat->Nat->Int)×List EntT:=t.1.2.2;
 let q25:Prop:=q24.2.length=0;
 let q26:Prop:=t.1.1.2=0;
 let q27:TickT:=t.1.2.1; I t/\(q19/\q21/\q22/\Tr 4 (q2/\q2/\(q25/\q26)/\Tr 1 (0=(t.1.1.1:Int))/\Tr 120 True))/\true=true/\(q3/\q2/\q2/\q2/\Tr 1 (q23.blocks=q27.blocks)/\Tr 1 (q23.slots=q27.slots)/\Tr 1 (q23.gens=q27.gens)/\Tr 1 (q23.top=q27.top)/\Tr 1 (q23.high=q27.high)/\Tr 1 (q23.free=q27.free)/\True)/\q5/\devB (zd5 x_2.1 0).ws=devB t.2.ws/\zaB (zd5 x_2.1 0).a=zaB t.2.a/\(62=(62:TypeId)/\12=12/\2=2/\(∀(i:Nat),i<2->[AV.arr 1 12 fun x=>[AV.int .i64 0]]=[AV.arr 1 12 fun j=>[AV.int .i64 (q24.1 i j)]])/\True)/\(q26/\q25)/\True)/\∀(t:FjT×StoreT),
 let q28:Int:=(t.1.1.1:Int);
 let q29:Prop:=q28<q16;
 let q30:(Nat->Nat->Int)×List EntT:=t.1.2.2;
 let q31:List EntT:=q30.2;
 let q32:Nat:=q31.length;
 let q33:Nat:=t.1.1.2;
 let q34:TickT:=t.1.2.1;
 let q35:Int:=q34.blocks;
 let q36:Int:=q34.slots;
 let q37:Int:=q34.gens;
 let q38:Int:=q34.top;
 let q39:Int:=q34.high;
 let q40:Int:=q34.free; I t->∀(n:Int),n=IntKind.i64.wrap (q16+q17)->BC (decide (q28<n)) (Exx ((FjT×StoreT)×Nat×(Nat->Int)->Prop) fun I_1=>BC (decide q29) (((0:Int) <= q28/\q29)/\Exx ((FjT×StoreT)×Nat×(Nat->Int)) fun t_1 =>
 let q41:TickT×(Nat->Nat->Int)×List EntT:=t_1.1.1.2;
 let q42:(Nat->Nat->Int)×List EntT:=q41.2;
 let q43:List EntT:=q42.2;
 let q44:Nat:=q43.length;
 let q45:Nat×Nat:=t_1.1.1.1;
 let q46:Prop:=q33=q45.2;
 let q47:TickT:=q41.1; I_1 t_1/\(q19/\q21/\q22/\Tr 4 (q2/\q2/\(true=true/\zaC/\0=0/\4=4/\0=0/\q32=q44/\q46)/\Tr 1 (q28=(q45.1:Int))/\Tr 1 (0=(t_1.2.1:Int))/\q6))/\true=true/\(q3/\q2/\q2/\q2/\Tr 1 (q35=q47.blocks)/\Tr 1 (q36=q47.slots)/\Tr 1 (q37=q47.gens)/\Tr 1 (q38=q47.top)/\Tr 1 (q39=q47.high)/\Tr 1 (q40=q47.free)/\True)/\q5/\devB t.2.ws=devB t_1.1.2.ws/\zaB t.2.a=zaB t_1.1.2.a/\(q7/\12=12/\2=2/\(∀(i:Nat),i<2->[AV.arr 1 12 fun j=>[AV.int .i64 (q30.1 i j)]]=[AV.arr 1 12 fun j=>[AV.int .i64 (q42.1 i j)]])/\True)/\(q8/\4=4/\q46/\q44 <= q32/\∀(i:Nat),i<q44->[AV.int .i64 (q31.getD i entZ).slot,AV.int .i64 (q31.getD i entZ).gen,AV.int .i64 (q31.getD i entZ).key,AV.int .i64 (q31.getD i entZ).value]=[AV.int .i64 (q43.getD i entZ).slot,AV.int .i64 (q43.getD i entZ).gen,AV.int .i64 (q43.getD i entZ).key,AV.int .i64 (q43.getD i entZ).value])/\(54=(54:TypeId)/\1=1/\2=2/\(∀(i:Nat),i<2->[AV.int .i64 ((x.1.getD q28.toNat []).getD i 0)]=[AV.int .i64 (t_1.2.2 i)])/\True)/\True) (∀(n:Int),n=IntKind.i64.wrap (q28-q16)->((0:Int) <= n/\n<q17)/\Exx ((FjT×StoreT)×Nat×(Nat->Int)) fun t_1 =>
 let q48:TickT×(Nat->Nat->Int)×List EntT:=t_1.1.1.2;
 let q49:(Nat->Nat->Int)×List EntT:=q48.2;
 let q50:List EntT:=q49.2;
 let q51:Nat:=q50.length;
 let q52:Nat×Nat:=t_1.1.1.1;
 let q53:Prop:=q33=q52.2;
 let q54:TickT:=q48.1; I_1 t_1/\(q19/\q21/\q22/\Tr 4 (q2/\q2/\(true=true/\zaC/\0=0/\4=4/\0=0/\q32=q51/\q53)/\Tr 1 (q28=(q52.1:Int))/\Tr 1 (1=(t_1.2.1:Int))/\q6))/\true=true/\(q3/\q2/\q2/\q2/\Tr 1 (q35=q54.blocks)/\Tr 1 (q36=q54.slots)/\Tr 1 (q37=q54.gens)/\Tr 1 (q38=q54.top)/\Tr 1 (q39=q54.high)/\Tr 1 (q40=q54.free)/\True)/\q5/\devB t.2.ws=devB t_1.1.2.ws/\zaB t.2.a=zaB t_1.1.2.a/\(q7/\12=12/\2=2/\(∀(i:Nat),i<2->[AV.arr 1 12 fun j=>[AV.int .i64 (q30.1 i j)]]=[AV.arr 1 12 fun j=>[AV.int .i64 (q49.1 i j)]])/\True)/\(q8/\4=4/\q53/\q51 <= q32/\∀(i:Nat),i<q51->[AV.int .i64 (q31.getD i entZ).slot,AV.int .i64 (q31.getD i entZ).gen,AV.int .i64 (q31.getD i entZ).key,AV.int .i64 (q31.getD i entZ).value]=[AV.int .i64 (q50.getD i entZ).slot,AV.int .i64 (q50.getD i entZ).gen,AV.int .i64 (q50.getD i entZ).key,AV.int .i64 (q50.getD i entZ).value])/\(54=(54:TypeId)/\1=1/\2=2/\(∀(i:Nat),i<2->[AV.int .i64 ((x.2.1.getD n.toNat []).getD i 0)]=[AV.int .i64 (t_1.2.2 i)])/\True)/\True)/\∀(t_1:(FjT×StoreT)×Nat×(Nat->Int)),
 let q55:Int:=(t_1.2.1:Int);
 let q56:Nat:=q55.toNat;
 let q57:TickT×(Nat->Nat->Int)×List EntT:=t_1.1.1.2;
 let q58:TickT:=q57.1;
 let q59:Int:=q58.blocks;
 let q60:Int:=q58.slots;
 let q61:Int:=q58.gens;
 let q62:Int:=q58.top;
 let q63:Int:=q58.high;
 let q64:Int:=q58.free;
 let q65:(Nat->Nat->Int)×List EntT:=q57.2;
 let q66:List EntT:=q65.2;
 let q67:Nat:=q66.length;
 let q68:Nat×Nat:=t_1.1.1.1; I_1 t_1->Exx ((FjT×IR)×Nat×(Nat->Int)->Prop) fun I_2 =>
 let q85:Prop:=Exx (StoreT×TickT×(Nat->Int)×Int×Int) fun x =>
 let q69:TickT:=x.2.1;
 let q70:(Nat->Int)×Int×Int:=x.2.2;
 let q71:Int×Int:=q70.2;
 let q72:Int:=q71.1;
 let q73:Int:=q71.2;
 let q74:IR:=insR x.1 q69 q70.1 q72 q73;
 let q75:StoreT:=q74.s;
 let q76:TickT:=q74.t;
 let q77:HandT:=q74.h; ((q2/\(Tr 1 (q59=q69.blocks)/\Tr 1 (q60=q69.slots)/\Tr 1 (q61=q69.gens)/\Tr 1 (q62=q69.top)/\Tr 1 (q63=q69.high)/\Tr 1 (q64=q69.free)/\True)/\(1=1/\12=12/\(∀(i:Nat),i<12->[AV.int .i64 (q65.1 q56 i)]=[AV.int .i64 (q70.1 i)])/\True)/\Tr 1 (t_1.2.2 (Int.toNat 0)=q72)/\Tr 1 (t_1.2.2 (Int.toNat 1)=q73)/\True)/\true=true/\q5/\devB t_1.1.2.ws=devB x.1.ws/\zaB t_1.1.2.a=zaB x.1.a/\True)/\(zaG x.1/\zaS q69/\zaT q70.1/\I64 q72/\I64 q73)/\∀(y:Unit),True->Exx ((FjT×IR)×Nat×(Nat->Int)) fun t =>
 let q78:TickT×(Nat->Nat->Int)×List EntT:=t.1.1.2;
 let q79:(Nat->Nat->Int)×List EntT:=q78.2;
 let q80:List EntT:=q79.2;
 let q81:Nat:=q80.length;
 let q82:Nat×Nat:=t.1.1.1;
 let q83:Prop:=q68.2=q82.2;
 let q84:TickT:=q78.1; I_2 t/\(q19/\q21/\q22/\Tr 4 (q2/\q2/\(true=true/\zaC/\0=0/\4=4/\0=0/\q67=q81/\q83)/\Tr 1 ((q68.1:Int)=(q82.1:Int))/\Tr 1 (q55=(t.2.1:Int))/\q2/\q2/\q2/\q2/\Tr 1 (q74.e=t.1.2.e)/\Tr 114 True))/\true=true/\(q3/\q2/\q2/\q2/\Tr 1 (q59=q84.blocks)/\Tr 1 (q60=q84.slots)/\Tr 1 (q61=q84.gens)/\Tr 1 (q62=q84.top)/\Tr 1 (q63=q84.high)/\Tr 1 (q64=q84.free)/\True)/\q5/\devB q75.ws=devB t.1.2.s.ws/\zaB q75.a=zaB t.1.2.s.a/\(q7/\12=12/\2=2/\(∀(i:Nat),i<2->[AV.arr 1 12 fun j=>[AV.int .i64 (q65.1 i j)]]=[AV.arr 1 12 fun j=>[AV.int .i64 (q79.1 i j)]])/\True)/\(q8/\4=4/\q83/\q81 <= q67/\∀(i:Nat),i<q81->[AV.int .i64 (q66.getD i entZ).slot,AV.int .i64 (q66.getD i entZ).gen,AV.int .i64 (q66.getD i entZ).key,AV.int .i64 (q66.getD i entZ).value]=[AV.int .i64 (q80.getD i entZ).slot,AV.int .i64 (q80.getD i entZ).gen,AV.int .i64 (q80.getD i entZ).key,AV.int .i64 (q80.getD i entZ).value])/\((54:TypeId)=54/\1=1/\2=2/\(∀(i:Nat),i<2->[AV.int .i64 (t_1.2.2 i)]=[AV.int .i64 (t.2.2 i)])/\True)/\(40=(40:TypeId)/\Tr 1 (q76.blocks=t.1.2.t.blocks)/\Tr 1 (q76.slots=t.1.2.t.slots)/\Tr 1 (q76.gens=t.1.2.t.gens)/\Tr 1 (q76.top=t.1.2.t.top)/\Tr 1 (q76.high=t.1.2.t.high)/\Tr 1 (q76.free=t.1.2.t.free)/\True)/\(47=(47:TypeId)/\1=1/\12=12/\(∀(i:Nat),i<12->[AV.int .i64 (q74.r i)]=[AV.int .i64 (t.1.2.r i)])/\True)/\(27=(27:TypeId)/\Tr 1 (q77.slot=t.1.2.h.slot)/\Tr 1 (q77.gen=t.1.2.h.gen)/\True)/\True;
 let q86:Prop:=q85/\q85;
 let q104:Prop:=(Exx (StoreT×TickT×(Nat->Int)×Int×Int) fun x =>
 let q87:TickT:=x.2.1;
 let q88:(Nat->Int)×Int×Int:=x.2.2;
 let q89:Int×Int:=q88.2;
 let q90:Int:=q89.1;
 let q91:Int:=q89.2;
 let q92:IR:=insR x.1 q87 q88.1 q90 q91;
 let q93:StoreT:=q92.s;
 let q94:TickT:=q92.t;
 let q95:HandT:=q92.h;
 let q103:Prop:=Exx ((FjT×IR)×Nat×(Nat->Int)) fun t =>
 let q96:TickT×(Nat->Nat->Int)×List EntT:=t.1.1.2;
 let q97:(Nat->Nat->Int)×List EntT:=q96.2;
 let q98:List EntT:=q97.2;
 let q99:Nat:=q98.length;
 let q100:Nat×Nat:=t.1.1.1;
 let q101:Prop:=q68.2=q100.2;
 let q102:TickT:=q96.1; I_2 t/\(q19/\q21/\q22/\Tr 4 (q2/\q2/\(true=true/\zaC/\0=0/\4=4/\0=0/\q67=q99/\q101)/\Tr 1 ((q68.1:Int)=(q100.1:Int))/\Tr 1 (q55=(t.2.1:Int))/\q2/\q2/\q2/\q2/\Tr 1 (q92.e=t.1.2.e)/\Tr 114 True))/\true=true/\(q3/\q2/\q2/\q2/\Tr 1 (q59=q102.blocks)/\Tr 1 (q60=q102.slots)/\Tr 1 (q61=q102.gens)/\Tr 1 (q62=q102.top)/\Tr 1 (q63=q102.high)/\Tr 1 (q64=q102.free)/\True)/\q5/\devB q93.ws=devB t.1.2.s.ws/\zaB q93.a=zaB t.1.2.s.a/\(q7/\12=12/\2=2/\(∀(i:Nat),i<2->[AV.arr 1 12 fun j=>[AV.int .i64 (q65.1 i j)]]=[AV.arr 1 12 fun j=>[AV.int .i64 (q97.1 i j)]])/\True)/\(q8/\4=4/\q101/\q99 <= q67/\∀(i:Nat),i<q99->[AV.int .i64 (q66.getD i entZ).slot,AV.int .i64 (q66.getD i entZ).gen,AV.int .i64 (q66.getD i entZ).key,AV.int .i64 (q66.getD i entZ).value]=[AV.int .i64 (q98.getD i entZ).slot,AV.int .i64 (q98.getD i entZ).gen,AV.int .i64 (q98.getD i entZ).key,AV.int .i64 (q98.getD i entZ).value])/\((54:TypeId)=54/\1=1/\2=2/\(∀(i:Nat),i<2->[AV.int .i64 (t_1.2.2 i)]=[AV.int .i64 (t.2.2 i)])/\True)/\(40=(40:TypeId)/\Tr 1 (q94.blocks=t.1.2.t.blocks)/\Tr 1 (q94.slots=t.1.2.t.slots)/\Tr 1 (q94.gens=t.1.2.t.gens)/\Tr 1 (q94.top=t.1.2.t.top)/\Tr 1 (q94.high=t.1.2.t.high)/\Tr 1 (q94.free=t.1.2.t.free)/\True)/\(47=(47:TypeId)/\1=1/\12=12/\(∀(i:Nat),i<12->[AV.int .i64 (q92.r i)]=[AV.int .i64 (t.1.2.r i)])/\True)/\(27=(27:TypeId)/\Tr 1 (q95.slot=t.1.2.h.slot)/\Tr 1 (q95.gen=t.1.2.h.gen)/\True)/\True; ((q2/\(Tr 1 (q59=q87.blocks)/\Tr 1 (q60=q87.slots)/\Tr 1 (q61=q87.gens)/\Tr 1 (q62=q87.top)/\Tr 1 (q63=q87.high)/\Tr 1 (q64=q87.free)/\True)/\(1=1/\12=12/\(∀(i:Nat),i<12->[AV.int .i64 (q65.1 q56 i)]=[AV.int .i64 (q88.1 i)])/\True)/\Tr 1 (t_1.2.2 (Int.toNat 0)=q90)/\Tr 1 (t_1.2.2 (Int.toNat 1)=q91)/\True)/\true=true/\q5/\devB t_1.1.2.ws=devB x.1.ws/\zaB t_1.1.2.a=zaB x.1.a/\True)/\(zaG x.1/\zaS q87/\zaT q88.1/\I64 q90/\I64 q91)/\∀(y:Unit),True->q103/\q103)/\q86/\q86; (((0:Int) <= q55/\q55<(↑(2:Nat):Int))/\q56<2/\q9/\q10/\q11/\q12/\(Exx (StoreT×TickT×(Nat->Int)×Int×Int) fun x =>
 let q105:TickT:=x.2.1;
 let q106:(Nat->Int)×Int×Int:=x.2.2;
 let q107:Int×Int:=q106.2;
 let q108:Int:=q107.1;
 let q109:Int:=q107.2;
 let q110:IR:=insR x.1 q105 q106.1 q108 q109;
 let q111:StoreT:=q110.s;
 let q112:TickT:=q110.t;
 let q113:HandT:=q110.h;
 let q121:Prop:=Exx ((FjT×IR)×Nat×(Nat->Int)) fun t =>
 let q114:TickT×(Nat->Nat->Int)×List EntT:=t.1.1.2;
 let q115:(Nat->Nat->Int)×List EntT:=q114.2;
 let q116:List EntT:=q115.2;
 let q117:Nat:=q116.length;
 let q118:Nat×Nat:=t.1.1.1;
 let q119:Prop:=q68.2=q118.2;
 let q120:TickT:=q114.1; I_2 t/\(q19/\q21/\q22/\Tr 4 (q2/\q2/\(true=true/\zaC/\0=0/\4=4/\0=0/\q67=q117/\q119)/\Tr 1 ((q68.1:Int)=(q118.1:Int))/\Tr 1 (q55=(t.2.1:Int))/\q2/\q2/\q2/\q2/\Tr 1 (q110.e=t.1.2.e)/\Tr 114 True))/\true=true/\(q3/\q2/\q2/\q2/\Tr 1 (q59=q120.blocks)/\Tr 1 (q60=q120.slots)/\Tr 1 (q61=q120.gens)/\Tr 1 (q62=q120.top)/\Tr 1 (q63=q120.high)/\Tr 1 (q64=q120.free)/\True)/\q5/\devB q111.ws=devB t.1.2.s.ws/\zaB q111.a=zaB t.1.2.s.a/\(q7/\12=12/\2=2/\(∀(i:Nat),i<2->[AV.arr 1 12 fun j=>[AV.int .i64 (q65.1 i j)]]=[AV.arr 1 12 fun j=>[AV.int .i64 (q115.1 i j)]])/\True)/\(q8/\4=4/\q119/\q117 <= q67/\∀(i:Nat),i<q117->[AV.int .i64 (q66.getD i entZ).slot,AV.int .i64 (q66.getD i entZ).gen,AV.int .i64 (q66.getD i entZ).key,AV.int .i64 (q66.getD i entZ).value]=[AV.int .i64 (q116.getD i entZ).slot,AV.int .i64 (q116.getD i entZ).gen,AV.int .i64 (q116.getD i entZ).key,AV.int .i64 (q116.getD i entZ).value])/\((54:TypeId)=54/\1=1/\2=2/\(∀(i:Nat),i<2->[AV.int .i64 (t_1.2.2 i)]=[AV.int .i64 (t.2.2 i)])/\True)/\(40=(40:TypeId)/\Tr 1 (q112.blocks=t.1.2.t.blocks)/\Tr 1 (q112.slots=t.1.2.t.slots)/\Tr 1 (q112.gens=t.1.2.t.gens)/\Tr 1 (q112.top=t.1.2.t.top)/\Tr 1 (q112.high=t.1.2.t.high)/\Tr 1 (q112.free=t.1.2.t.free)/\True)/\(47=(47:TypeId)/\1=1/\12=12/\(∀(i:Nat),i<12->[AV.int .i64 (q110.r i)]=[AV.int .i64 (t.1.2.r i)])/\True)/\(27=(27:TypeId)/\Tr 1 (q113.slot=t.1.2.h.slot)/\Tr 1 (q113.gen=t.1.2.h.gen)/\True)/\True;
 let q122:Prop:=q121/\q121; ((q2/\(Tr 1 (q59=q105.blocks)/\Tr 1 (q60=q105.slots)/\Tr 1 (q61=q105.gens)/\Tr 1 (q62=q105.top)/\Tr 1 (q63=q105.high)/\Tr 1 (q64=q105.free)/\True)/\(1=1/\12=12/\(∀(i:Nat),i<12->[AV.int .i64 (q65.1 q56 i)]=[AV.int .i64 (q106.1 i)])/\True)/\Tr 1 (t_1.2.2 (Int.toNat 0)=q108)/\Tr 1 (t_1.2.2 (Int.toNat 1)=q109)/\True)/\true=true/\q5/\devB t_1.1.2.ws=devB x.1.ws/\zaB t_1.1.2.a=zaB x.1.a/\True)/\(zaG x.1/\zaS q105/\zaT q106.1/\I64 q108/\I64 q109)/\∀(y:Unit),True->q122/\q122/\q122)/\q104/\q104/\q104)/\∀(t_2:(FjT×IR)×Nat×(Nat->Int)),
 let q123:Int:=(t_2.2.1:Int);
 let q124:Nat:=q123.toNat;
 let q125:(Nat->Nat->Int)×List EntT:=t_2.1.1.2.2;
 let q126:List EntT:=q125.2;
 let q127:Nat:=q126.length;
 let q128:Nat×Nat:=t_2.1.1.1;
 let q129:Nat:=q128.2;
 let q130:Nat:=q127+1; I_2 t_2->BC (!decide (t_2.1.2.e=(0:Int))) q13 (((0:Int) <= q123/\q123<(↑(2:Nat):Int))/\q124<2/\q9/\q10/\q11/\q12/\0+1 <= 1/\true=true/\(q127 <= q127/\q129=q129)/\(q130 <= 9223372036854775807/\q130*32 <= 140737488355328)/\∀(cap:Nat),q130 <= cap/\cap <= 9223372036854775807->∀(n:Int),n=IntKind.i64.wrap ((q128.1:Int)+1)->Exx (FjT×StoreT) fun t' =>
 let q131:(Nat->Nat->Int)×List EntT:=t'.fst.2.2;
 let q132:List EntT:=q131.2;
 let q133:Nat:=q132.length;
 let q134:Prop:=cap=t'.fst.1.2;
 let q135:TickT:=t'.fst.2.1; (I t'/\m t'<m t)/\(q19/\q21/\q22/\Tr 4 (q2/\q2/\(true=true/\zaC/\0=0/\4=4/\0=0/\q130=q133/\q134)/\Tr 1 (n=(↑t'.fst.1.1:Int))/\Tr 120 True))/\true=true/\(q3/\q2/\q2/\q2/\Tr 1 (t_2.1.2.t.blocks=q135.blocks)/\Tr 1 (t_2.1.2.t.slots=q135.slots)/\Tr 1 (t_2.1.2.t.gens=q135.gens)/\Tr 1 (t_2.1.2.t.top=q135.top)/\Tr 1 (t_2.1.2.t.high=q135.high)/\Tr 1 (t_2.1.2.t.free=q135.free)/\True)/\q5/\devB t_2.1.2.s.ws=devB t'.snd.ws/\zaB t_2.1.2.s.a=zaB t'.snd.a/\(q7/\12=12/\2=2/\(∀(i:Nat),i<2->zq4 i q124 [AV.arr 1 12 fun i=>[AV.int .i64 (t_2.1.2.r i)]] [AV.arr 1 12 fun j=>[AV.int .i64 (q125.1 i j)]] none=[AV.arr 1 12 fun j=>[AV.int .i64 (q131.1 i j)]])/\True)/\(q8/\4=4/\q134/\q133 <= q130/\∀(i:Nat),
 let q136:Nat:=0+(i-q127);
 let q137:Prop:=q136=0*4 / 4; i<q133->(if i<q127 then [AV.int .i64 (q126.getD i entZ).slot,AV.int .i64 (q126.getD i entZ).gen,AV.int .i64 (q126.getD i entZ).key,AV.int .i64 (q126.getD i entZ).value] else [AV.int .i64 (if q137 then t_2.1.2.h.slot else 0),AV.int .i64 (if q137 then t_2.1.2.h.gen else 0),AV.int .i64 (if q137 then t_2.2.2 (Int.toNat 0) else 0),AV.int .i64 (if q137 then t_2.2.2 (Int.toNat 1) else 0)])=[AV.int .i64 (q132.getD i entZ).slot,AV.int .i64 (q132.getD i entZ).gen,AV.int .i64 (q132.getD i entZ).key,AV.int .i64 (q132.getD i entZ).value])/\True)) (Exx (FjT×StoreT->Prop) fun I=>BC x.2.2 (Exx (AllocT×Unit) fun x=>(q4/\true=true/\zaB t.2.a=zaB x.1/\True)/\(zbD x.1/\True)/\∀(y:Unit),True->Exx (FjT×StoreT) fun t_1 =>
 let q138:(Nat->Nat->Int)×List EntT:=t_1.1.2.2;
 let q139:List EntT:=q138.2;
 let q140:Nat:=q139.length;
 let q141:Prop:=q33=t_1.1.1.2;
 let q142:TickT:=t_1.1.2.1; I t_1/\(q19/\q21/\q22/\Tr 4 (q2/\q2/\(true=true/\zaC/\0=0/\4=4/\0=0/\q32=q140/\q141)/\Tr 121 True))/\true=true/\(q3/\q2/\q2/\q2/\Tr 1 (q35=q142.blocks)/\Tr 1 (q36=q142.slots)/\Tr 1 (q37=q142.gens)/\Tr 1 (q38=q142.top)/\Tr 1 (q39=q142.high)/\Tr 1 (q40=q142.free)/\True)/\q5/\devB t.2.ws=devB t_1.2.ws/\zaB (qpX x.1)=zaB t_1.2.a/\(q7/\12=12/\2=2/\(∀(i:Nat),i<2->[AV.arr 1 12 fun j=>[AV.int .i64 (q30.1 i j)]]=[AV.arr 1 12 fun j=>[AV.int .i64 (q138.1 i j)]])/\True)/\(q8/\4=4/\q141/\q140 <= q32/\∀(i:Nat),i<q140->[AV.int .i64 (q31.getD i entZ).slot,AV.int .i64 (q31.getD i entZ).gen,AV.int .i64 (q31.getD i entZ).key,AV.int .i64 (q31.getD i entZ).value]=[AV.int .i64 (q139.getD i entZ).slot,AV.int .i64 (q139.getD i entZ).gen,AV.int .i64 (q139.getD i entZ).key,AV.int .i64 (q139.getD i entZ).value])/\True) (Exx (FjT×StoreT) fun t_1 =>
 let q143:(Nat->Nat->Int)×List EntT:=t_1.1.2.2;
 let q144:List EntT:=q143.2;
 let q145:Nat:=q144.length;
 let q146:Prop:=q33=t_1.1.1.2;
 let q147:TickT:=t_1.1.2.1; I t_1/\(q19/\q21/\q22/\Tr 4 (q2/\q2/\(true=true/\zaC/\0=0/\4=4/\0=0/\q32=q145/\q146)/\Tr 121 True))/\true=true/\(q3/\q2/\q2/\q2/\Tr 1 (q35=q147.blocks)/\Tr 1 (q36=q147.slots)/\Tr 1 (q37=q147.gens)/\Tr 1 (q38=q147.top)/\Tr 1 (q39=q147.high)/\Tr 1 (q40=q147.free)/\True)/\q5/\devB t.2.ws=devB t_1.2.ws/\zaB t.2.a=zaB t_1.2.a/\(q7/\12=12/\2=2/\(∀(i:Nat),i<2->[AV.arr 1 12 fun j=>[AV.int .i64 (q30.1 i j)]]=[AV.arr 1 12 fun j=>[AV.int .i64 (q143.1 i j)]])/\True)/\(q8/\4=4/\q146/\q145 <= q32/\∀(i:Nat),i<q145->[AV.int .i64 (q31.getD i entZ).slot,AV.int .i64 (q31.getD i entZ).gen,AV.int .i64 (q31.getD i entZ).key,AV.int .i64 (q31.getD i entZ).value]=[AV.int .i64 (q144.getD i entZ).slot,AV.int .i64 (q144.getD i entZ).gen,AV.int .i64 (q144.getD i entZ).key,AV.int .i64 (q144.getD i entZ).value])/\True)/\∀(t:FjT×StoreT),
 let q148:TickT:=t.1.2.1;
 let q149:Int:=q148.blocks;
 let q150:Int:=q148.slots;
 let q151:Int:=q148.gens;
 let q152:Int:=q148.top;
 let q153:Int:=q148.high;
 let q154:Int:=q148.free;
 let q155:(Nat->Nat->Int)×List EntT:=t.1.2.2;
 let q156:List EntT:=q155.2;
 let q157:Nat:=q156.length; I t->Exx (((List EntT×Nat)×TickT)×FR->Prop) fun I =>
 let q166:Prop:=Exx (StoreT×TickT×(Nat->Int)×(Nat->Int)) fun x =>
 let q158:TickT:=x.2.1;
 let q159:(Nat->Int)×(Nat->Int):=x.2.2;
 let q160:FR:=zbO (nzL q159.2) x.1 q158 q159.1;
 let q161:StoreT:=q160.s;
 let q162:TickT:=q160.t; ((q2/\(Tr 1 (q149=q158.blocks)/\Tr 1 (q150=q158.slots)/\Tr 1 (q151=q158.gens)/\Tr 1 (q152=q158.top)/\Tr 1 (q153=q158.high)/\Tr 1 (q154=q158.free)/\True)/\(1=1/\12=12/\(∀(i:Nat),i<12->[AV.int .i64 (q155.1 (Int.toNat 0) i)]=[AV.int .i64 (q159.1 i)])/\True)/\(1=1/\12=12/\(∀(i:Nat),i<12->[AV.int .i64 (q155.1 (Int.toNat 1) i)]=[AV.int .i64 (q159.2 i)])/\True)/\True)/\true=true/\q5/\devB t.2.ws=devB x.1.ws/\zaB t.2.a=zaB x.1.a/\True)/\(zaG x.1/\zaS q158/\zaT q159.1/\zaT q159.2)/\∀(y:Unit),True->Exx (((List EntT×Nat)×TickT)×FR) fun t_1 =>
 let q163:List EntT:=t_1.1.1.1;
 let q164:Nat:=q163.length;
 let q165:Prop:=t.1.1.2=t_1.1.1.2; I t_1/\Tr 7 (q2/\Tr 1 ((true=true/\zaC/\0=0/\4=4/\0=0/\q157=q164/\q165)/\Tr 7 (q2/\q2/\Tr 1 (q160.e=t_1.2.e)/\Tr 111 True)))/\true=true/\(q3/\q2/\q2/\q2/\Tr 1 (q149=t_1.1.2.blocks)/\Tr 1 (q150=t_1.1.2.slots)/\Tr 1 (q151=t_1.1.2.gens)/\Tr 1 (q152=t_1.1.2.top)/\Tr 1 (q153=t_1.1.2.high)/\Tr 1 (q154=t_1.1.2.free)/\True)/\q5/\devB q161.ws=devB t_1.2.s.ws/\zaB q161.a=zaB t_1.2.s.a/\(q8/\4=4/\q165/\q164 <= q157/\∀(i:Nat),i<q164->[AV.int .i64 (q156.getD i entZ).slot,AV.int .i64 (q156.getD i entZ).gen,AV.int .i64 (q156.getD i entZ).key,AV.int .i64 (q156.getD i entZ).value]=[AV.int .i64 (q163.getD i entZ).slot,AV.int .i64 (q163.getD i entZ).gen,AV.int .i64 (q163.getD i entZ).key,AV.int .i64 (q163.getD i entZ).value])/\(40=(40:TypeId)/\Tr 1 (q162.blocks=t_1.2.t.blocks)/\Tr 1 (q162.slots=t_1.2.t.slots)/\Tr 1 (q162.gens=t_1.2.t.gens)/\Tr 1 (q162.top=t_1.2.t.top)/\Tr 1 (q162.high=t_1.2.t.high)/\Tr 1 (q162.free=t_1.2.t.free)/\True)/\(47=(47:TypeId)/\1=1/\12=12/\(∀(i:Nat),i<12->[AV.int .i64 (q160.r i)]=[AV.int .i64 (t_1.2.r i)])/\True)/\True;
 let q167:Prop:=q166/\q166; (q9/\q10/\q11/\q12/\(Exx (StoreT×TickT×(Nat->Int)×(Nat->Int)) fun x =>
 let q168:TickT:=x.2.1;
 let q169:(Nat->Int)×(Nat->Int):=x.2.2;
 let q170:FR:=zbO (nzL q169.2) x.1 q168 q169.1;
 let q171:StoreT:=q170.s;
 let q172:TickT:=q170.t;
 let q176:Prop:=Exx (((List EntT×Nat)×TickT)×FR) fun t_1 =>
 let q173:List EntT:=t_1.1.1.1;
 let q174:Nat:=q173.length;
 let q175:Prop:=t.1.1.2=t_1.1.1.2; I t_1/\Tr 7 (q2/\Tr 1 ((true=true/\zaC/\0=0/\4=4/\0=0/\q157=q174/\q175)/\Tr 7 (q2/\q2/\Tr 1 (q170.e=t_1.2.e)/\Tr 111 True)))/\true=true/\(q3/\q2/\q2/\q2/\Tr 1 (q149=t_1.1.2.blocks)/\Tr 1 (q150=t_1.1.2.slots)/\Tr 1 (q151=t_1.1.2.gens)/\Tr 1 (q152=t_1.1.2.top)/\Tr 1 (q153=t_1.1.2.high)/\Tr 1 (q154=t_1.1.2.free)/\True)/\q5/\devB q171.ws=devB t_1.2.s.ws/\zaB q171.a=zaB t_1.2.s.a/\(q8/\4=4/\q175/\q174 <= q157/\∀(i:Nat),i<q174->[AV.int .i64 (q156.getD i entZ).slot,AV.int .i64 (q156.getD i entZ).gen,AV.int .i64 (q156.getD i entZ).key,AV.int .i64 (q156.getD i entZ).value]=[AV.int .i64 (q173.getD i entZ).slot,AV.int .i64 (q173.getD i entZ).gen,AV.int .i64 (q173.getD i entZ).key,AV.int .i64 (q173.getD i entZ).value])/\(40=(40:TypeId)/\Tr 1 (q172.blocks=t_1.2.t.blocks)/\Tr 1 (q172.slots=t_1.2.t.slots)/\Tr 1 (q172.gens=t_1.2.t.gens)/\Tr 1 (q172.top=t_1.2.t.top)/\Tr 1 (q172.high=t_1.2.t.high)/\Tr 1 (q172.free=t_1.2.t.free)/\True)/\(47=(47:TypeId)/\1=1/\12=12/\(∀(i:Nat),i<12->[AV.int .i64 (q170.r i)]=[AV.int .i64 (t_1.2.r i)])/\True)/\True; ((q2/\(Tr 1 (q149=q168.blocks)/\Tr 1 (q150=q168.slots)/\Tr 1 (q151=q168.gens)/\Tr 1 (q152=q168.top)/\Tr 1 (q153=q168.high)/\Tr 1 (q154=q168.free)/\True)/\(1=1/\12=12/\(∀(i:Nat),i<12->[AV.int .i64 (q155.1 (Int.toNat 0) i)]=[AV.int .i64 (q169.1 i)])/\True)/\(1=1/\12=12/\(∀(i:Nat),i<12->[AV.int .i64 (q155.1 (Int.toNat 1) i)]=[AV.int .i64 (q169.2 i)])/\True)/\True)/\true=true/\q5/\devB t.2.ws=devB x.1.ws/\zaB t.2.a=zaB x.1.a/\True)/\(zaG x.1/\zaS q168/\zaT q169.1/\zaT q169.2)/\∀(y:Unit),True->q176/\q176)/\q167/\q167)/\∀(t:((List EntT×Nat)×TickT)×FR),
 let q177:List EntT:=t.1.1.1;
 let q178:Nat:=q177.length; I t->BC (!decide (t.2.e=(0:Int))) q13 (Exx ((StoreT×TickT)×(Nat->Int)×List EntT) fun x =>
 let q179:Nat:=x.2.2.length; ((q2/\(1=1/\12=12/\(∀(i:Nat),i<12->[AV.int .i64 (t.2.r i)]=[AV.int .i64 (x.2.1 i)])/\True)/\(0+q178 <= q178/\q178=q179/\∀(i:Nat),
 let q180:EntT:=q177.getD (0+i) entZ;
 let q181:EntT:=x.2.2.getD i entZ; i<q179->[AV.int .i64 q180.slot,AV.int .i64 q180.gen,AV.int .i64 q180.key,AV.int .i64 q180.value]=[AV.int .i64 q181.slot,AV.int .i64 q181.gen,AV.int .i64 q181.key,AV.int .i64 q181.value])/\True)/\true=true/\(q3/\q2/\q2/\q2/\Tr 1 (t.2.t.blocks=x.1.2.blocks)/\Tr 1 (t.2.t.slots=x.1.2.slots)/\Tr 1 (t.2.t.gens=x.1.2.gens)/\Tr 1 (t.2.t.top=x.1.2.top)/\Tr 1 (t.2.t.high=x.1.2.high)/\Tr 1 (t.2.t.free=x.1.2.free)/\True)/\q5/\devB t.2.s.ws=devB x.1.1.ws/\zaB t.2.s.a=zaB x.1.1.a/\True)/\(zaG x.1.1/\zaS x.1.2/\x.1.2.high <= (1792:Int)/\zaT x.2.1/\EntsI x.2.2/\Exx (List EntT×List Int) fun q=>zd7 x.1.1 x.1.2 x.2.1 x.2.2 q)/\q1)))))=(fnVC (wr tb) [(14,zaA zwJ),(15,zaA zxB),(19,zaA zvW),(22,zaA qaD),(23,zaA zoC),(24,zoT)] Tryz.f5 forestJoinsC (fun x=>{ loops:=[(9,fjLA x)],loose:=[(14,[7]),(15,[1000,2,3,4]),(18,[1,5]),(22,[1000,2,3,4])],joins:=[(15,fjJ15 x),(16,fjJ16 x),(22,fjJ22 x),(23,fjJ23)] }) (fun _=>none)):=by kernel_rfl

theorem forestJoins_ok:SpecOk Tryz.prog 5 (zaA forestJoinsC):=by
 refine zaK zaM (wr_ok zaL) (SPok.cons qhG (SPok.cons qdH (SPok.cons zyT (SPok.cons qiS (SPok.cons zzV (SPok.cons zsQ SPok.nil)))))) Tryz.func5 (by decide) (zaO fun _=>rfl) (Eq.mp zy6 ?_)
 simp (maxSteps:=10000000) only [std,stdU,stdV,Exx,I64,Nat.reduceMul,Nat.reduceDiv,Nat.reduceAdd,Int.reduceToNat,↓and_self,and_self,and_self_left,and_self_right,zaQ,zaI,zaZ,zfH,zc8,zi6,zd9,zcS,zgR,zrS,qgL]
 rintro a b mark ⟨hIa,hla,hIb,hlb⟩
 have ma:maxLen=9223372036854775807:=by decide
 intro h25
 generalize hWd:IntKind.i64.wrap ((a.length:Int)+(b.length:Int))=W at *
 have hsum:0<W->(a.length:Int)+(b.length:Int)=W:=fun h=>by
  rw [IntKind.wrap_i64] at hWd
  omega
 have S0:=qeL (n:=150) (sl:=30) (by omega) (by omega) (by decide) (by omega)
 refine ⟨150,rfl,by omega,by omega,by omega,fun z=>((z.1.1.1:Int) <= W\/z.1.1.1=0)/\z.1.2.2.2.length <= z.1.1.2/\∃d A B la lb,FR2 z.2 z.1.2.1 z.1.2.2.1 z.1.2.2.2 z.1.1.1 d A B la lb,⟨0,0,zp1 ((150:Nat):Int) 30 100,fun _ _=>0,[],zd5 150 0,⟨.inr rfl,Nat.le_refl _,qhD,[],[],[],[],S0,S0,List.Perm.refl _,rfl⟩,rfl,rfl,rfl,rfl,rfl,rfl,rfl,rfl,rfl,rfl,rfl,fun _ _=>rfl,rfl,rfl⟩,fun z=>W.toNat-z.1.1.1,fun i c t f l s hJ=>?_⟩
 obtain ⟨h1,h2,d,A,B,la,lb,F⟩:=hJ
 simp only at h1 h2 F
 refine ⟨fun hlt=>?_,fun hge=>?_⟩
 ·have hs:=hsum (by omega)
  refine ⟨fun z=>z.1.1.1.1=i/\z.1.1.2.2.2.length <= z.1.1.1.2/\FR2 z.1.2 z.1.1.2.1 z.1.1.2.2.1 z.1.1.2.2.2 i d A B la lb/\z.2.1<2/\I64 (z.2.2 0)/\I64 (z.2.2 1),fun hia=>⟨by omega,by omega,i,c,t,f,l,s,0,fun j=>(a.getD i []).getD j 0,⟨rfl,h2,F,by simp,es_I hIa i 0,es_I hIa i 1⟩,rfl,rfl,rfl,rfl,rfl,rfl,rfl,rfl,rfl,rfl,rfl,rfl,fun _ _=>rfl,rfl,Nat.le_refl _,fun _ _=>rfl,fun _ _=>rfl⟩,fun hia=>(by rw [zbP (x:=(i:Int)-(a.length:Int)) ⟨by omega,by omega⟩]; exact ⟨by omega,by omega,i,c,t,f,l,s,1,fun j=>(b.getD ((i:Int)-(a.length:Int)).toNat []).getD j 0,⟨rfl,h2,F,by simp,es_I hIb _ 0,es_I hIb _ 1⟩,rfl,rfl,rfl,rfl,rfl,rfl,rfl,rfl,rfl,rfl,rfl,rfl,fun _ _=>rfl,rfl,Nat.le_refl _,fun _ _=>rfl,fun _ _=>rfl⟩),fun i' c t f l s w kv hz=>?_⟩
  obtain ⟨z1,z2,F,z4,z5,z6⟩:=hz
  simp only at z1 z2 F z4 z5 z6
  subst z1
  have hr:=F.rI z4
  obtain ⟨I1,d',A',B',la',lb',I2⟩:=F.insert (by omega) z4 z5 z6
  refine ⟨by omega,by omega,z4,by omega,by omega,by omega,by omega,by omega,by omega,fun z=>z.1.1.1.1=i'/\z.1.1.2.2.2.length <= z.1.1.1.2/\(∀j,j<2->z.1.1.2.2.1 j=f j)/\z.1.1.2.2.2=l/\z.1.2=insR s t (f w) (kv 0) (kv 1)/\z.2.1=w/\z.2.2 0=kv 0/\z.2.2 1=kv 1,⟨s,f w,fun _ _=>rfl,rfl,rfl,F.a.W,F.a.tI,hr,z5.1,z5.2,z6.1,z6.2,i',c,t,f,l,insR s t (f w) (kv 0) (kv 1),w,kv,⟨rfl,z2,fun _ _=>rfl,rfl,rfl,rfl,rfl,rfl⟩,rfl,rfl,rfl,rfl,rfl,rfl,rfl,rfl,rfl,rfl,rfl,rfl,rfl,fun _ _=>rfl,rfl,Nat.le_refl _,fun _ _=>rfl,fun _ _=>rfl,rfl,rfl,rfl,rfl,rfl,rfl,fun _ _=>rfl,rfl,rfl⟩,fun i2 c2 t2 f2 l2 q w2 kv2 hz=>?_⟩
  obtain ⟨y1,y2,y3,y4,y5,y6,y7,y8⟩:=hz
  simp only at y1 y2 y3 y4 y5 y6 y7 y8
  subst y1 y4 y6
  have hfr:=F.a.len
  have hll:=F.len
  rw [<- y5] at I1 I2
  have hupd:∀j,j<2->(if j=w2 then [AV.arr 1 12 fun j=>[AV.int .i64 (q.r j)]] else [AV.arr 1 12 fun k=>[AV.int .i64 (f2 j k)]])=[AV.arr 1 12 fun k=>[AV.int .i64 (upd2 f w2 q.r j k)]]:=fun j hj=>by
   have:=qn9 f w2 q.r j hj
   rw [<- this]
   by_cases e:j=w2
   ·rw [if_pos e,if_pos e]
   ·rw [if_neg e,if_neg e,y3 j hj]
  have hrow:∀j,j<(l2++[(⟨q.h.slot,q.h.gen,kv 0,kv 1⟩:EntT)]).length->(if j<l2.length then [AV.int .i64 (l2.getD j entZ).slot,AV.int .i64 (l2.getD j entZ).gen,AV.int .i64 (l2.getD j entZ).key,AV.int .i64 (l2.getD j entZ).value] else AV.int .i64 (if j-l2.length=0 then q.h.slot else 0) :: AV.int .i64 (if j-l2.length=0 then q.h.gen else 0) :: AV.int .i64 (if j-l2.length=0 then kv2 0 else 0) :: if j-l2.length=0 then [AV.int .i64 (kv2 1)] else [AV.int .i64 0])=[AV.int .i64 ((l2++[(⟨q.h.slot,q.h.gen,kv 0,kv 1⟩:EntT)]).getD j entZ).slot,AV.int .i64 ((l2++[(⟨q.h.slot,q.h.gen,kv 0,kv 1⟩:EntT)]).getD j entZ).gen,AV.int .i64 ((l2++[(⟨q.h.slot,q.h.gen,kv 0,kv 1⟩:EntT)]).getD j entZ).key,AV.int .i64 ((l2++[(⟨q.h.slot,q.h.gen,kv 0,kv 1⟩:EntT)]).getD j entZ).value]:=fun j hj=>by
   rw [zaH]
   by_cases e:j<l2.length
   ·rw [if_pos e,if_pos e]
   ·have e0:j-l2.length=0:=by rw [List.length_append] at hj; simp at hj; omega
    rw [if_neg e,if_neg e,if_pos e0,if_pos e0,if_pos e0,if_pos e0,e0,y7,y8]; rfl
  refine ⟨fun n=>n I1,fun _=>⟨by omega,by omega,z4,by omega,by omega,by omega,by omega,by omega,by omega,by omega,by omega,fun cap hc=>(by rw [zbP (x:=(i2:Int)+1) ⟨by omega,by omega⟩]; exact ⟨i2+1,cap,q.t,upd2 f w2 q.r,l2++[⟨q.h.slot,q.h.gen,kv 0,kv 1⟩],q.s,⟨.inl (by simp only; omega),by simp only [List.length_append]; exact hc.1,d',A',B',la',lb',I2⟩,by simp only; omega,by rw [List.length_append]; rfl,rfl,by omega,rfl,rfl,rfl,rfl,rfl,rfl,rfl,rfl,hupd,rfl,by rw [List.length_append]; exact Nat.le_refl _,hrow⟩)⟩⟩
 ·have hn:i <= 25:=by omega
  refine ⟨fun z=>z.1.2.2.2.length <= z.1.1.2/\∃d A B la lb,FR2 z.2 z.1.2.1 z.1.2.2.1 z.1.2.2.2 i d A B la lb,fun hm=>⟨F.a.W.2,i,c,t,f,l,znS s,⟨h2,d,A,B,la,lb,F.a.mark,F.b.mark,F.pl,F.len⟩,rfl,rfl,rfl,rfl,rfl,rfl,rfl,rfl,rfl,rfl,fun _ _=>rfl,rfl,Nat.le_refl _,fun _ _=>rfl⟩,fun hm=>⟨i,c,t,f,l,s,⟨h2,d,A,B,la,lb,F⟩,rfl,rfl,rfl,rfl,rfl,rfl,rfl,rfl,rfl,rfl,fun _ _=>rfl,rfl,Nat.le_refl _,fun _ _=>rfl⟩,fun i' c t f l s hz=>?_⟩
  obtain ⟨h2,d,A,B,la,lb,F⟩:=hz
  simp only at h2 F
  obtain ⟨d',G',J1,J2,_⟩:=fr_join F.a F.b (by omega)
  have J3:=J2.perm F.pl
  refine ⟨by omega,by omega,by omega,by omega,by omega,by omega,fun z=>z.1.1.1=l/\z.2=zbO (nzL (f 1)) s t (f 0),⟨s,f 0,fun _ _=>rfl,f 1,fun _ _=>rfl,rfl,rfl,F.a.W,F.a.tI,F.a.rI,F.b.rI,l,c,t,zbO (nzL (f 1)) s t (f 0),⟨rfl,rfl⟩,rfl,rfl,rfl,rfl,rfl,rfl,rfl,rfl,rfl,rfl,rfl,rfl,Nat.le_refl _,fun _ _=>rfl,rfl,rfl,rfl,rfl,rfl,rfl,fun _ _=>rfl⟩,fun l2 c2 t2 q hz=>?_⟩
  obtain ⟨e1,e2⟩:=hz
  simp only at e1 e2
  subst e1
  rw [<- e2] at J1 J3
  exact ⟨fun n=>n J1,fun _=>⟨q.s,q.t,q.r,fun _ _=>rfl,l2,rfl,fun _ _=>rfl,rfl,rfl,rfl,rfl,rfl,rfl,rfl,rfl,J3.W,J3.tI,J3.high,J3.rI,J3.ents,by obtain ⟨⟨a,b⟩,q⟩:=J3.stands; exact ⟨a,b,q⟩⟩⟩

end Yard
