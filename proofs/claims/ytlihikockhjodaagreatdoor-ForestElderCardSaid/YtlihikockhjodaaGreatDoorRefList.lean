import Derived.Test.YtlihikockhjodaaGreatDoorRefPage
import Derived.Test.YtlihikockhjodaaGreatDoorTreeList

namespace Yard
open Go Go.Sx Go.Proofs
set_option linter.unusedVariables false
set_option linter.unusedSimpArgs false
set_option maxRecDepth 4000
set_option maxHeartbeats 4000000

def qgI (img:List Nat) (a:Int):Prop:=0 <= a/\a<((img.length / 64:Nat):Int)
instance (img:List Nat) (a:Int):Decidable (qgI img a):=by unfold qgI; infer_instance
def imgL (img:List Nat) (a:Int):List Nat:=if qgI img a then (img.drop (64*a.toNat)).take 64 else []
theorem not_fan:¬zjO []:=fun k=>by have:=k.1.1; simp at this
theorem qkM:¬zeQ []:=fun k=>by have:=k.1.1; simp at this
theorem qkL:¬zeW []:=fun k=>by have:=k.1.1; simp at this

def zg7 (img:List Nat) (a:Int) (i:Nat):Int:=if a=0 then 0 else zd6 (imgL img a) i
def zgA (img:List Nat) (a:Int):Prop:=a=0\/zjO (imgL img a)
instance (img:List Nat) (a:Int):Decidable (zgA img a):=by unfold zgA; infer_instance
def zsU (img:List Nat) (a:Int) (i:Nat):SeatT:=if a=0 then seatZ else zbA (imgL img a) i
def zjB (img:List Nat) (a:Int):Prop:=a=0\/zeQ (imgL img a)
instance (img:List Nat) (a:Int):Decidable (zjB img a):=by unfold zjB; infer_instance
def imgF (img:List Nat) (top:Int) (i j:Nat):Int:=zg7 img (zg7 img top i) j
def zg6 (img:List Nat) (top:Int) (s:Nat):Prop:=zgA img top/\zgA img (zg7 img top (s / 112))/\zjB img (imgF img top (s / 112) (s / 7 % 16))
instance (img:List Nat) (top:Int) (s:Nat):Decidable (zg6 img top s):=by unfold zg6; infer_instance
def zsV (img:List Nat) (top:Int) (s:Nat):SeatT:=if zgA img top/\zgA img (zg7 img top (s / 112)) then zsU img (imgF img top (s / 112) (s / 7 % 16)) (s % 7) else seatZ
def kidsP (img:List Nat) (a:Int) (k:Nat):List Int:=((List.range k).map (zg7 img a)).filter (fun c=>decide (c≠0))
def fanP (img:List Nat) (a:Int):List Int:=(if a=0 then [] else [a])++kidsP img a 16
def pagesP (img:List Nat) (top:Int) (k:Nat):List Int:=(if top=0 then [] else [top])++(List.range k).flatMap (fun i=>fanP img (zg7 img top i))
def zzQ (img:List Nat) (top:Int) (k:Nat):Prop:=∀i,i<k->zgA img (zg7 img top i)/\∀j,j<16->zjB img (imgF img top i j)
def zsD (img:List Nat) (top:Int):Prop:=zgA img top/\zzQ img top 16
instance (img:List Nat) (top:Int):Decidable (zsD img top):=by unfold zsD zzQ; infer_instance
def pagesI (img:List Nat) (top:Int):List Int:=if zsD img top then pagesP img top 16 else []

abbrev EB:Type:=List EntT×List Int
def zdY (T:Nat->Int->Option EB) (e:EntT) (a:Int) (l:List Int):Nat->Option EB
 | 0=>some ([e],[a])
 | i+1=>match zdY T e a l i with
   | none=>none
   | some p=>match T i (l.getD i 0) with
     | none=>none
     | some q=>if ahead e (q.1.getD 0 entZ) then some (p.1++q.1,p.2++q.2) else none
def qaR (N:Int->Option NodeT):Nat->Nat->Int->Option EB
 | 0,_,_=>none
 | f+1,k,a=>match N a with
   | none=>none
   | some n=>if n.kids.length=k then zdY (qaR N f) n.e a n.kids k else none
def zcX (N:Int->Option NodeT) (k:Nat) (a:Int):Option EB:=qaR N (k+1) k a
theorem zj9 {T T':Nat->Int->Option EB} {e:EntT} {a:Int} {l:List Int}:∀{k:Nat},(∀i,i<k->∀c,T i c=T' i c)->zdY T e a l k=zdY T' e a l k
 | 0,_=>rfl
 | k+1,h=>by
   rw [zdY,zdY,zj9 (k:=k) fun i hi c=>h i (by omega) c,h k (by omega)]
theorem qaQ (N:Int->Option NodeT):∀(f k:Nat) (a:Int),k+1 <= f->qaR N f k a=zcX N k a:=fun f=>by
 induction f using Nat.strongRecOn with
 | ind f ih =>
   intro k a h
   cases f with
   | zero=>omega
   | succ f =>
     rw [zcX,qaR,qaR]
     cases N a with
     | none=>rfl
     | some n =>
       simp only
       split
       ·refine zj9 fun i hi c=>?_
        rw [ih f (by omega) i c (by omega),ih k (by omega) i c (by omega)]
       ·rfl
theorem znD (N:Int->Option NodeT) (k:Nat) (a:Int):zcX N k a=match N a with
  | none=>none
  | some n=>if n.kids.length=k then zdY (zcX N) n.e a n.kids k else none:=by
 rw [zcX,qaR]
 cases N a with
 | none=>rfl
 | some n =>
   simp only
   split
   ·exact zj9 fun i hi c=>qaQ N k i c hi
   ·rfl
theorem zfA {T:Nat->Int->Option EB} {e:EntT} {a:Int} {l:List Int}:∀{k:Nat} {p:EB},zdY T e a l k=some p->(∃r,p.1=e :: r)/\∃r,p.2=a :: r
 | 0,p,h=>by cases h; exact ⟨⟨[],rfl⟩,[],rfl⟩
 | k+1,p,h=>by
   rw [zdY] at h
   cases hk:zdY T e a l k with
   | none=>rw [hk] at h; cases h
   | some q =>
     rw [hk] at h
     simp only at h
     cases hT:T k (l.getD k 0) with
     | none=>rw [hT] at h; cases h
     | some r =>
       rw [hT] at h
       simp only at h
       split at h
       ·cases h
        obtain ⟨⟨r1,h1⟩,r2,h2⟩:=zfA hk
        exact ⟨⟨r1++r.1,by simp only; rw [h1]; rfl⟩,r2++r.2,by simp only; rw [h2]; rfl⟩
       ·cases h
theorem zdS {N:Int->Option NodeT} {k:Nat} {a:Int} {p:EB} (h:zcX N k a=some p):∃n,N a=some n/\n.kids.length=k/\zdY (zcX N) n.e a n.kids k=some p:=by
 rw [znD] at h
 cases hN:N a with
 | none=>rw [hN] at h; cases h
 | some n =>
   rw [hN] at h
   simp only at h
   split at h
   ·exact ⟨n,rfl,by assumption,h⟩
   ·cases h
def imgN (img:List Nat) (a:Int):Option NodeT:=if zeW (imgL img a) then some (zbU (imgL img a)) else none
theorem zvA {P:EntT->Prop} {T:Nat->Int->Option EB} {e:EntT} {a:Int} {l:List Int} (he:P e):∀{k:Nat} {p:EB},(∀i,i<k->∀c q,T i c=some q->∀x∈q.1,P x)->zdY T e a l k=some p->∀x∈p.1,P x
 | 0,p,_,h=>by cases h; intro x hx; rw [List.mem_singleton] at hx; rw [hx]; exact he
 | k+1,p,hT0,h=>by
   rw [zdY] at h
   cases hk:zdY T e a l k with
   | none=>rw [hk] at h; cases h
   | some q =>
     rw [hk] at h
     simp only at h
     cases hT:T k (l.getD k 0) with
     | none=>rw [hT] at h; cases h
     | some r =>
       rw [hT] at h
       simp only at h
       split at h
       ·cases h
        intro x hx
        rcases List.mem_append.1 hx with hx | hx
        ·exact zvA he (fun i hi=>hT0 i (by omega)) hk x hx
        ·exact hT0 k (by omega) _ _ hT x hx
       ·cases h
theorem imgN_I {img:List Nat} {a:Int} {n:NodeT} (h:imgN img a=some n):zfZ n/\zcI n:=by
 unfold imgN at h
 split at h
 ·rename_i hn
  cases h
  exact ⟨(zxO _).2 (by have:=hn.2.2.1; omega),hn.2.2.2.1⟩
 ·cases h
theorem qdJ {P:EntT->Prop} {N:Int->Option NodeT} (hN:∀a n,N a=some n->P n.e):∀(k:Nat) (a:Int) (p:EB),zcX N k a=some p->∀x∈p.1,P x:=fun k=>by
 induction k using Nat.strongRecOn with
 | ind k ih =>
   intro a p h
   obtain ⟨n,h1,_,h2⟩:=zdS h
   exact zvA (hN a n h1) (fun i hi c q hq=>ih i hi c q hq) h2

abbrev qlC (l:List EntT):AV := .ro 4 l.length (entF l)
def EntsI (l:List EntT):Prop:=(∀x∈l,EntI x)/\l.length <= 1000000
def zj1:Ctr:=zcR (List EntT×List EntT) (fun x=>EntsI x.1/\EntsI x.2) (fun x=>[qlC x.1,qlC x.2]) (fun x => .bool (decide (x.1=x.2)))
def zuK (x:List EntT×List EntT):LA:={ T:=Nat,F:=fun i=>frm 26 [(0,qlC x.1),(1,qlC x.2),(5,i64 (i:Nat))],H:=fun _=>[.fence] }
theorem zw6:(∀(x:List EntT×List EntT),
 let q1:Bool:=decide (x.1=x.2);
 let q2:Prop:=Exx Unit fun y=>((false=q1/\True)/\true=true/\True)/\True;
 let q4:Prop:=(4:Nat)=4/\x.1.length=x.1.length/\∀(i:Nat),
 let q3:List AV:=[AV.int .i64 (x.1.getD i entZ).slot,AV.int .i64 (x.1.getD i entZ).gen,AV.int .i64 (x.1.getD i entZ).key,AV.int .i64 (x.1.getD i entZ).value]; i<x.1.length->q3=q3;
 let q6:Prop:=(4:Nat)=4/\x.2.length=x.2.length/\∀(i:Nat),
 let q5:List AV:=[AV.int .i64 (x.2.getD i entZ).slot,AV.int .i64 (x.2.getD i entZ).gen,AV.int .i64 (x.2.getD i entZ).key,AV.int .i64 (x.2.getD i entZ).value]; i<x.2.length->q5=q5; EntsI x.1/\EntsI x.2->BC (!decide ((x.1.length:Int)=(x.2.length:Int))) q2 (Exx (Nat->Prop) fun I=>Exx (Nat->Nat) fun m=>(Exx Nat fun t=>I t/\(q4/\q6/\Tr 3 (Tr 1 ((0:Int)=(t:Int))/\Tr 20 True))/\true=true/\True)/\∀(t:Nat),
 let q7:Prop:=(t:Int)<(x.1.length:Int);
 let q8:EntT:=x.1.getD (t:Int).toNat entZ;
 let q9:EntT:=x.2.getD (t:Int).toNat entZ;
 let q10:Int:=(t:Int)+1; I t->BC (decide q7) (((0:Int) <= (t:Int)/\q7)/\((0:Int) <= (t:Int)/\(t:Int)<(x.2.length:Int))/\(Tr 2 True/\Tr 2 True)/\(Tr 2 True/\Tr 2 True)/\∀(b:Bool),(b=true ↔ (q8.slot=q9.slot/\q8.gen=q9.gen/\True)/\q8.key=q9.key/\q8.value=q9.value/\True)->BC (!b) q2 (I64 q10/\Exx Nat fun t'=>(I t'/\m t'<m t)/\(q4/\q6/\Tr 3 (Tr 1 (q10=(↑t':Int))/\Tr 20 True))/\true=true/\True)) (Exx Unit fun y=>((true=q1/\True)/\true=true/\True)/\True)))=(fnVC tb [] Tryz.f26 zj1 (fun x=>{ loops:=[(4,zuK x)] }) (fun _=>none)):=by kernel_rfl

theorem zr4:SpecOk Tryz.prog 26 (zaB zj1):=by
 refine zaK zaL zaN SPok.nil Tryz.func26 (by decide) (zaW fun _=>rfl) (Eq.mp zw6 ?_)
 simp (maxSteps:=10000000) only [std,stdU,stdV,Exx,I64,Nat.reduceMul,Nat.reduceDiv,Nat.reduceAdd,Int.reduceToNat]
 rintro l q ⟨⟨h1,h2⟩,h3,h4⟩
 refine ⟨fun h=>(decide_eq_false (fun e=>h (by rw [e]))).symm,fun he=>⟨fun i=>i <= l.length/\∀j,j<i->l.getD j entZ=q.getD j entZ,⟨0,⟨by omega,fun j hj=>absurd hj (Nat.not_lt_zero _)⟩,rfl⟩,fun i=>l.length-i,fun i hi=>⟨fun hlt=>⟨by omega,by omega,by omega,by omega,fun c hc=>?_⟩,fun hge=>(decide_eq_true (zdV entZ he fun j hj=>hi.2 j (by omega))).symm⟩⟩⟩
 have hce:c=true ↔ l.getD i entZ=q.getD i entZ:=by
  rw [hc]
  refine ⟨fun ⟨h1,h2,h3,h4⟩=>?_,fun h=>by rw [h]; exact ⟨rfl,rfl,rfl,rfl⟩⟩
  cases e1:l.getD i entZ
  cases e2:q.getD i entZ
  rw [e1,e2] at h1 h2 h3 h4
  simp only at h1 h2 h3 h4
  rw [h1,h2,h3,h4]
 refine ⟨fun h=>(decide_eq_false (fun e=>?_)).symm,fun h=>⟨by omega,by omega,i+1,⟨by omega,fun j hj=>?_⟩,by simp only; omega,by omega⟩⟩
 ·have:=hce.2 (by rw [e])
  rw [h] at this; cases this
 ·by_cases e:j=i
  ·subst e; exact hce.1 h
  ·exact hi.2 j (by omega)

def insAt (x:EntT) (l:List EntT):Nat->Nat
 | 0=>0
 | k+1=>if ahead x (l.getD k entZ) then insAt x l k else k+1
def insE (l:List EntT) (x:EntT):List EntT:=l.take (insAt x l l.length)++x :: l.drop (insAt x l l.length)
def sortE (l:List EntT):List EntT:=l.foldl insE []
theorem EntsI.take {l:List EntT} (h:EntsI l) (n:Nat):EntsI (l.take n):=⟨fun x hx=>h.1 x (List.mem_of_mem_take hx),by rw [List.length_take]; have:=h.2; omega⟩
def slSg (av:AV):Option Ren:=match av with
 | .sl q _ _ _ _ _ _=>some [some 0,some q]
 | _=>some [some 0,none]
end Yard
