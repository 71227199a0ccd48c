import Derived.Test.YtlihikockhjodaaGreatDoorTlMath
import Derived.Test.YtlihikockhjodaaGreatDoorNodeMath
import Derived.Test.YtlihikockhjodaaGreatDoorSortCmp
import Derived.Test.YtlihikockhjodaaGreatDoorForest5

namespace Go.Sx
variable {W:Base} {D:Nat->Prop} {R:Nat->Option Obj} {ids own:Nat->Option Nat} {w w':World} {H:AH}

theorem Rep.grow (hR:Rep W D R ids own H w) (os:Array Obj):Rep W D R ids own H (Sort.grow w os):=by
 have hold:∀b,b<w.heap.size->(Sort.grow w os).heap[b]? = w.heap[b]?:=fun b hb=>Sort.heap_grow_old w os hb
 refine ⟨hR.os,hR.tape,hR.output,by rw [Sort.size_grow]; have:=hR.size; omega,fun b p hb=>?_,fun b hb hd=>?_,fun b o hb=>?_,fun p it hp=>?_,hR.blind,hR.low,hR.high,hR.pins,hR.stay⟩
 ·obtain ⟨h1,h2⟩:=hR.owns b p hb
  exact ⟨by rw [Sort.size_grow]; omega,h2⟩
 ·rw [hold b (Nat.lt_of_lt_of_le hb hR.size)]; exact hR.keep b hb hd
 ·have hw:=hR.ro b o hb
  rw [hold b (Array.getElem?_eq_some_iff.1 hw).1]; exact hw
 ·exact (hR.items p it hp).mono (fun _=>Iff.rfl) (fun b hb=>hold b (hR.owns b p hb).1) rfl (fun _ _ e=>e) (fun _ _ e=>e)

theorem Rep.retell (hR:Rep W D R ids own H w) {p:Nat} {it:Item} (hlt:p<H.length) (hnf:it≠.fence) (hng:H[p]?≠some .gone) (hit:Sat R ids (fun b=>own b=some p) w p it):Rep W D R ids own (H.set p it) w:=by
 refine ⟨hR.os,hR.tape,hR.output,hR.size,by simpa using hR.owns,hR.keep,hR.ro,fun q x hq=>?_,by simpa using hR.blind,hR.low,hR.high,fun q b hq=>⟨(hR.pins q b hq).1,?_⟩,fun h=>hR.stay (ziH hnf h)⟩
 ·by_cases e:q=p
  ·subst e
   rw [List.getElem?_set_self hlt] at hq; cases hq; exact hit
  ·rw [List.getElem?_set_ne (fun e'=>e e'.symm)] at hq
   exact hR.items q x hq
 ·rw [List.getElem?_set_ne (fun e=>by subst e; exact hng (hR.pins _ b hq).2)]
  exact (hR.pins q b hq).2
end Go.Sx
namespace Yard
open Go Go.Sx Go.Proofs Go.Sort
set_option linter.unusedVariables false
set_option linter.unusedSimpArgs false
set_option maxRecDepth 4000
set_option maxHeartbeats 4000000

def encE (x:EntT):List Value:=[.int .i64 x.slot,.int .i64 x.gen,.int .i64 x.key,.int .i64 x.value]
theorem qaE (x:EntT):(encE x).length=4:=rfl
theorem qlD (x:EntT):∀v∈encE x,v.oneCell'=true:=by
 intro v hv
 simp only [encE,List.mem_cons,List.not_mem_nil,or_false] at hv
 rcases hv with rfl | rfl | rfl | rfl <;> rfl
instance:Inhabited EntT:=⟨entZ⟩
theorem ztE (a b:Int):Lib.compareInt a b=cmpI a b:=by
 unfold Lib.compareInt cmpI
 rfl
theorem orL3_eq (a b c:Int):Go.Proofs.Tryz.orL3 a b c=orL [a,b,c]:=by
 unfold Go.Proofs.Tryz.orL3 orL orL orL orL
 by_cases h1:a=0 <;> by_cases h2:b=0 <;> by_cases h3:c=0 <;> simp [h1,h2,h3]
theorem ltE (x y:EntT):ltOf zd7 x y=decide (ahead x y):=by
 unfold ltOf
 exact decide_eq_decide.2 zeS
theorem qiB (a b:EntT):ahead a b ↔ a.key<b.key\/(a.key=b.key/\(a.slot<b.slot\/(a.slot=b.slot/\a.gen<b.gen))):=by
 unfold ahead
 by_cases h:a.key=b.key
 ·by_cases k:a.slot=b.slot
  ·rw [if_pos h,if_pos k]; omega
  ·rw [if_pos h,if_neg k]; omega
 ·rw [if_neg h]; omega
theorem zpZ {x y z:EntT} (h1:¬ahead x y) (h2:¬ahead y z):¬ahead x z:=by
 rw [qiB] at *
 omega
theorem swoE:SWO (ltOf zd7) where
 irrefl x:=by rw [ltE]; exact decide_eq_false (zp0 x)
 trans x y z h1 h2:=by
  rw [ltE] at *
  exact decide_eq_true (zfW (of_decide_eq_true h1) (of_decide_eq_true h2))
 ntrans x y z h1 h2:=by
  rw [ltE] at *
  exact decide_eq_false (zpZ (of_decide_eq_false h1) (of_decide_eq_false h2))
theorem qlL (blk off size:Nat) (w:World):CmpLays Tryz.prog 66 #[] encE 4 zd7 blk off size w:=fun m os dk _ x y=>by
 have h:=Go.Proofs.Tryz.compare_calls x.slot x.gen x.key x.value y.slot y.gen y.key y.value (sortWorldK encE 4 w blk off m dk os)
 rw [orL3_eq,ztE,ztE,ztE] at h
 exact h

abbrev entS (x:EntT):List AV:=[i64 x.slot,i64 x.gen,i64 x.key,i64 x.value]
theorem vs_ent {R:Nat->Option Obj} {x:EntT} {vs:List Value} (h:Vs R noIds (entS x) vs):vs=encE x:=by
 cases h with
 | one _ v1 _ _ _ h1 t1=>cases h1; cases t1 with
   | one _ v2 _ _ _ h2 t2=>cases h2; cases t2 with
     | one _ v3 _ _ _ h3 t3=>cases h3; cases t3 with
       | one _ v4 _ _ _ h4 t4=>cases h4; cases t4; rfl
theorem ent_vs {R:Nat->Option Obj} (x:EntT):Vs R noIds (entS x) (encE x) :=
 .one _ _ _ _ rfl (.int _ _) (.one _ _ _ _ rfl (.int _ _) (.one _ _ _ _ rfl (.int _ _) (.one _ _ _ _ rfl (.int _ _) .nil)))

def _root_.Go.Sx.sortSp:Sx.Spec:=fun args H K=>match args with
 | [.sl p path off es lo n cap,.fn g]=>(path=[]/\off=0/\es=4/\lo=0/\g=66)/\(match H[p]? with
   | some (.row T es' cap' n' f)=>es'=4/\n'=n/\n<4611686018427387904/\∃l:List EntT,l.length=n/\(∀i,i<n->f i=entS (l.getD i entZ)) /\
     ∀l':List EntT,l'.Perm l->l'.Pairwise (fun x y=>¬ahead y x)->K (.tup []) (H.set p (.row T 4 cap' n (fun i=>entS (l'.getD i entZ))))
   | _=>False)
 | [.nils,.fn g]=>K (.tup []) H
 | _=>False
theorem qgQ (l:List EntT) (i:Nat):l.toArray[i]! = l.getD i entZ:=by
 rw [Array.getElem!_eq_getD,Array.getD_eq_getD_getElem?,List.getD_eq_getElem?_getD]
 simp; rfl
theorem zvR (l:List EntT) {i c:Nat} (hi:i<l.length) (hc:c<4):(flatK encE 4 l.toArray)[i*4+c]! = (encE (l.getD i entZ))[c]!:=by
 rw [get_flatK _ _ _ _ (by simp; omega),show (i*4+c) / 4=i by omega,show (i*4+c) % 4=c by omega,qgQ]

theorem el4 {L:List Value} {i:Nat} {x:EntT} (h:∀c,c<4->L[i*4+c]? = some (encE x)[c]!):(L.drop (i*4)).take 4=encE x:=by
 refine List.ext_getElem? fun c=>?_
 by_cases hc:c<4
 ·rw [List.getElem?_take,if_pos hc,List.getElem?_drop,h c hc]
  have:c=0\/c=1\/c=2\/c=3:=by omega
  rcases this with rfl | rfl | rfl | rfl <;> rfl
 ·rw [List.getElem?_take,if_neg hc,List.getElem?_eq_none (by rw [qaE]; omega)]
theorem el4' {L:List Value} {i:Nat} {x:EntT} (h:(L.drop (i*4)).take 4=encE x):∀c,c<4->L[i*4+c]? = some (encE x)[c]!:=fun c hc=>by
 have e:((L.drop (i*4)).take 4)[c]? = (encE x)[c]?:=by rw [h]
 rw [List.getElem?_take,if_pos hc,List.getElem?_drop] at e
 rw [e]
 have:c=0\/c=1\/c=2\/c=3:=by omega
 rcases this with rfl | rfl | rfl | rfl <;> rfl
theorem qfB {d d':Array EntT} (h:PermIn 0 d.size d d'):d'.toList.Perm d.toList:=by
 obtain ⟨h1,_,h3⟩:=h
 have e1:(d'.extract 0 d.size).toList=d'.toList:=by rw [<- h1]; simp
 have e2:(d.extract 0 d.size).toList=d.toList:=by simp
 rwa [e1,e2] at h3
theorem zwU {d:Array EntT} {n:Nat} (hn:d.size=n) (h:SortedIn (ltOf zd7) 0 n d):d.toList.Pairwise (fun x y=>¬ahead y x):=by
 rw [List.pairwise_iff_getElem]
 intro i j hi hj hij
 have hi':i<d.size:=by simpa using hi
 have hj':j<d.size:=by simpa using hj
 have:=h i j (Nat.zero_le _) hij (by omega)
 rw [ltE,getElem!_pos d i hi',getElem!_pos d j hj'] at this
 simpa using of_decide_eq_false this

theorem sort_ok:SpecOk Tryz.prog 65 sortSp:=by
 refine ⟨⟨Tryz.f65,Tryz.func65,by decide,by decide⟩,fun W D R ids own H w args vals K hgl hargs hR h=>?_⟩
 unfold sortSp at h
 split at h
 ·rename_i p path off es lo n cap g
  obtain ⟨⟨rfl,rfl,rfl,rfl,rfl⟩,h⟩:=h
  split at h
  ·rename_i T es' cap' n' f hp
   obtain ⟨rfl,rfl,hsz,l,hl,hf,hK⟩:=h
   subst hl
   cases hargs with
   | cons _ v1 _ vs1 a1 t1 =>
   cases t1 with
   | cons _ v2 _ vs2 a2 t2 =>
   cases t2
   cases a2
   cases a1 with
   | sl _ _ _ _ _ _ _ a g1 g2 g3 =>
   have hlt:p<H.length:=(List.getElem?_eq_some_iff.1 hp).1
   rcases Nat.eq_zero_or_pos l.length with e | hpos
   ·have el:l=[]:=List.length_eq_zero_iff.1 e
    subst el
    refine (AnyF.slices_SortFunc_none Tryz.sortEnt a cap (.func (.func 66) #[] #[]) w).mono ?_
    rintro e w' ⟨rfl,rfl⟩
    refine ⟨_,rfl,.tup [],_,R,ids,own,.tup [] [] .nil,hR.retell hlt (by simp) (by rw [hp]; simp) ?_,fun _ _ h=>h,fun _ _ h=>h,hK [] (List.Perm.refl _) List.Pairwise.nil⟩
    rcases hR.items p _ hp with ⟨q1,q2,q3⟩ | ⟨b,cur,q1,q2,q3,q4,q5,q6,q7⟩
    ·exact .inl ⟨q1,q2,q3⟩
    ·refine .inr ⟨b,cur,q1,q2,q3,q4,q5,q6,?_⟩
     rw [show cur.toList.take (4*([]:List EntT).length)=[]++[] by simp]
     exact .arr 4 0 _ (fun _=>[]) [] [] [] rfl (fun i hi=>absurd hi (Nat.not_lt_zero _)) (fun i hi=>absurd hi (Nat.not_lt_zero _)) .nil
   ·obtain ⟨b,hb,rfl⟩:=g1 (by omega)
    rcases hR.items p _ hp with ⟨q1,q2,q3⟩ | ⟨b',cur,q1,q2,q3,q4,q5,q6,q7⟩
    ·rw [hb] at q1; cases q1
    rw [hb] at q1; cases q1
    have hbs:=(hR.owns b p q2).1
    have hold:∀i,i<l.length->∀c,c<4->cur.toList[i*4+c]? = some (encE (l.getD i entZ))[c]!:=by
     generalize hL:cur.toList.take (4*l.length)=L at q7
     cases q7 with
     | one _ _ _ _ ho=>simp [AV.one] at ho
     | arr _ _ _ cs _ ws vs k1 k2 k3 k4 =>
       cases k4
       intro i hi c hc
       have e1:=k3 i hi
       rw [hf i hi] at e1
       have e2:=vs_ent e1
       have e3:=el4' ((k2 i hi).trans e2) c hc
       rw [List.append_nil] at hL
       rw [<- hL,List.getElem?_take,if_pos (by omega)] at e3
       exact e3
    have hH:HoldsK encE 4 w b 0 l.toArray:=by
     intro j hj
     rw [size_flatK] at hj
     have hj':j<l.length*4:=by simpa using hj
     have e1:=hold (j / 4) (by omega) (j % 4) (by omega)
     have e2:=zvR l (i:=j / 4) (c:=j % 4) (by omega) (by omega)
     rw [show j / 4*4+j % 4=j by omega] at e1 e2
     rw [<- e2] at e1
     refine ⟨?_,?_⟩
     ·unfold World.cell?
      simp only [q3,Nat.zero_add]
      simpa using e1
     ·unfold World.frozen?
      simp only [q3]
      simp
    have eg:∀args w,(callFunc 66 args).run Tryz.prog w = .ok (.enter 66 args) w:=enters_of Tryz.func66 (by kernel_rfl) rfl
    have hc:=AnyQ.slices_SortFunc Tryz.sortEnt 4 Tryz.isAgg29 Tryz.sizeOf29 encE qaE qlD zd7 swoE 66 #[] b 0 cap l.toArray w eg (qlL b 0 _ w) hH hbs (by simpa using hsz)
    have ea:poff []+0+0*4=0:=rfl
    rw [ea]
    refine hc.mono ?_
    rintro e w' ⟨rfl,d',m,os,hperm,hsort,rfl⟩
    have hds:d'.size=l.length:=by have:=hperm.1; simpa using this
    have hpl:=qfB hperm
    refine ⟨_,rfl,.tup [],_,R,ids,own,.tup [] [] .nil,?_,fun _ _ h=>h,fun _ _ h=>h,hK d'.toList (by simpa using hpl) (zwU hds (by simpa using hsort))⟩
    have hheap:∀k,(putRowK encE 4 (Sort.ahead w m) b 0 d').heap[k]? = if k=b then some (.cells (putCells id 0 (flatK encE 4 d') cur) T (0,0)) else w.heap[k]?:=fun k=>by
     show ((Sort.ahead w m).heap.modify b (onCells _))[k]? = _
     rw [Array.getElem?_modify]
     by_cases e:k=b
     ·subst e
      rw [if_pos rfl,if_pos rfl]
      show (w.heap[k]?).map _=_
      rw [q3]; rfl
     ·rw [if_neg (fun q=>e q.symm),if_neg e]; rfl
    have hsz2:(putRowK encE 4 (Sort.ahead w m) b 0 d').heap.size=w.heap.size:=by
     show ((Sort.ahead w m).heap.modify b (onCells _)).size=_
     rw [Array.size_modify]; rfl
    have hput:Rep W D R ids own (H.set p (.row T 4 cap' l.length (fun i=>entS (d'.toList.getD i entZ)))) (putRowK encE 4 (Sort.ahead w m) b 0 d'):=by
     refine hR.put (by simp) (by rw [hp]; simp) q2 hsz2 (fun k hk=>by rw [hheap,if_neg hk]) rfl rfl rfl (.inr ⟨b,putCells id 0 (flatK encE 4 d') cur,hb,q2,by rw [hheap,if_pos rfl],q4,q5,by rw [<- q6]; simp [putCells],?_⟩)
     have hnew:∀i,i<l.length->∀c,c<4->(putCells id 0 (flatK encE 4 d') cur).toList[i*4+c]? = some (encE (d'.toList.getD i entZ))[c]!:=fun i hi c hc=>by
      have e2:=zvR d'.toList (i:=i) (c:=c) (by simpa [hds] using hi) hc
      have hcs:i*4+c<cur.size:=by rw [q6]; omega
      rw [Array.getElem?_toList,putCells,Array.getElem?_mapIdx,Array.getElem?_eq_getElem hcs,Option.map_some,if_pos ⟨Nat.zero_le _,by rw [size_flatK,hds]; omega⟩,<- e2]
      simp
     have eL:(putCells id 0 (flatK encE 4 d') cur).toList.take (4*l.length)=(putCells id 0 (flatK encE 4 d') cur).toList.take (4*l.length)++[]:=(List.append_nil _).symm
     rw [eL]
     refine .arr 4 l.length _ (fun i=>encE (d'.toList.getD i entZ)) [] _ [] ?_ (fun i hi=>el4 fun c hc=>?_) (fun i hi=>ent_vs _) .nil
     ·rw [List.length_take]
      simp [putCells]; omega
     ·rw [List.getElem?_take,if_pos (by omega)]
      exact hnew i hi c hc
    exact hput.grow os
  ·exact h.elim
 ·cases hargs with
  | cons _ v1 _ vs1 a1 t1 =>
  cases t1 with
  | cons _ v2 _ vs2 a2 t2 =>
  cases t2
  cases a1
  refine (AnyF.slices_SortFunc_none Tryz.sortEnt none 0 v2 w).mono ?_
  rintro e w' ⟨rfl,rfl⟩
  exact ⟨_,rfl,.tup [],H,R,ids,own,.tup [] [] .nil,hR,fun _ _ h=>h,fun _ _ h=>h,h⟩
 ·exact h.elim

end Yard


namespace Yard
open Go Go.Sx Go.Proofs
set_option linter.unusedVariables false
set_option linter.unusedSimpArgs false
set_option maxRecDepth 4000
set_option maxHeartbeats 4000000

def ql4:Sx.Spec:=sortSp
theorem qjN:SpecOk Tryz.prog 65 ql4:=sort_ok

def allE (ws:List Nat):List Int->List EntT->List EntT×Int
 | [],out=>(out,0)
 | a :: r,out=>if (zcG ws a).2=0 then allE ws r (out++(zcG ws a).1) else ([],(zcG ws a).2)
def zbX (ws:List Nat) (r:Nat->Int):List EntT×Int:=allE ws (nzL r) []
def SrtN (l:List EntT):Prop:=l.Pairwise (fun x y=>¬ahead y x)
def zg9:Ctr where
 X:=StoreT×(Nat->Int)
 Y:=List EntT×Nat
 conv:=true
 tau:=ziU
 pre:=fun x=>zaF x.1/\zaY x.2
 args:=fun x=>[.ptr 0 [] 0,zf3 x.2]
 heap:=fun x=>zbW x.1
 Q:=fun x y=>(y.1.length <= y.2/\y.2 <= 9223372036854775807)/\y.1.Perm (zbX x.1.ws x.2).1/\SrtN y.1
 res:=fun x y => .tup [.sl 4 [] 0 4 0 y.1.length y.2,i64 (zbX x.1.ws x.2).2]
 its:=fun x _=>zbW x.1
 new:=fun x y=>[entR y.2 y.1]
theorem zp7:CtrOk zg9 :=
 ⟨fun _ _ _ _=>(rfl:3=3),fun _ _ _ _=>⟨rfl,rfl⟩,fun x _ _ _ _=>⟨⟨zlU _,⟨⟨fun _ _=>⟨rfl,rfl,rfl,rfl,trivial⟩,trivial⟩,trivial⟩⟩,rfl,rfl,trivial⟩⟩
def zvN (x:StoreT×(Nat->Int)):LA:={ T:=Nat×(List EntT×Nat),F:=fun t=>frm 36 [(0,.ptr 0 [] 0),(6,.sl 4 [] 0 4 0 t.2.1.length t.2.2),(14,.sl 5 [] 0 1 0 (nzL x.2).length 12),(15,i64 ((nzL x.2).length:Nat)),(16,i64 (t.1:Nat))],H:=fun t=>zbW x.1++[.fence,entR t.2.2 t.2.1,zb0 (gR x.2)],ρ₁:=ze5 4 [6,14],ρ₂:=ze5 4 [6,14] }
theorem zx5:(
 let q1:Prop:=true=true/\zaC/\(0:Nat)=0;
 let q2:Prop:=(107:TypeId)=107/\q1/\q1/\True;
 let q3:Prop:=(47:TypeId)=47;
 let q4:Prop:=(29:TypeId)=29; ∀(x:StoreT×(Nat->Int)),zaF x.1/\zaY x.2->Exx (Nat->Int) fun x_1=>((((1:Nat)=1/\(12:Nat)=12/\(∀(i:Nat),i<12->[AV.int .i64 (x.2 i)]=[AV.int .i64 (x_1 i)])/\True)/\True)/\true=true/\True)/\zaY x_1/\∀(y:Unit),True->Exx (Nat×List EntT×Nat->Prop) fun I=>Exx (Nat×List EntT×Nat->Nat) fun m=>(Exx (Nat×List EntT×Nat) fun t =>
 let q5:Prop:=t.2.1.length=0;
 let q6:Prop:=t.2.2=0; I t/\(q1/\Tr 5 ((q5/\q6)/\Tr 7 ((true=true/\zaC/\(0:Nat)=0/\(1:Nat)=1/\(0:Nat)=0/\(nzL x_1).length=(nzL x.2).length/\(12:Nat)=12)/\Tr 1 ((↑(nzL x_1).length:Int)=(↑(nzL x.2).length:Int))/\Tr 1 ((0:Int)=(t.1:Int))/\Tr 19 True)))/\q2/\devB x.1.ws=devB x.1.ws/\zaA x.1.a=zaA x.1.a/\true=true/\(q6/\q5)/\(q3/\(1:Nat)=1/\(12:Nat)=12/\(∀(i:Nat),i<12->[AV.int .i64 (gR x_1 i)]=[AV.int .i64 (gR x.2 i)])/\True)/\True)/\∀(t:Nat×List EntT×Nat),
 let q7:Prop:=(t.1:Int)<(↑(nzL x.2).length:Int);
 let q8:Nat:=0+(t.1:Int).toNat;
 let q9:Int:=(t.1:Int)+1; I t->BC (decide q7) (((0:Int) <= (t.1:Int)/\q7)/\q8<12/\Exx (StoreT×Int) fun x_2 =>
 let q10:Nat:=t.2.1.length+(zcG x_2.1.ws x_2.2).1.length; ((q1/\Tr 1 (gR x.2 q8=x_2.2)/\True)/\true=true/\q2/\devB x.1.ws=devB x_2.1.ws/\zaA x.1.a=zaA x_2.1.a/\True)/\(zaF x_2.1/\I64 x_2.2)/\∀(y:Nat),(zcG x_2.1.ws x_2.2).1.length <= y/\y <= 9223372036854775807->BC (!decide ((zcG x_2.1.ws x_2.2).2=(0:Int))) (Exx (List EntT×Nat) fun y=>((((y.1.length=0/\y.2=0)/\Tr 1 ((zcG x_2.1.ws x_2.2).2=(zbX x.1.ws x.2).2)/\True)/\True)/\q2/\devB x_2.1.ws=devB x.1.ws/\zaA x_2.1.a=zaA x.1.a/\true=true/\(y.2=0/\y.1.length=0)/\True)/\(y.1.length <= y.2/\y.2 <= 9223372036854775807)/\y.1.Perm (zbX x.1.ws x.2).1/\SrtN y.1) (0+(zcG x_2.1.ws x_2.2).1.length <= (zcG x_2.1.ws x_2.2).1.length/\true=true/\(t.2.1.length <= t.2.1.length/\t.2.2=t.2.2)/\(q10 <= 9223372036854775807/\q10*32 <= 140737488355328)/\∀(cap:Nat),q10 <= cap/\cap <= 9223372036854775807->I64 q9/\Exx (Nat×List EntT×Nat) fun t'=>(I t'/\m t'<m t)/\(q1/\Tr 5 ((true=true/\zaC/\(0:Nat)=0/\(4:Nat)=4/\(0:Nat)=0/\q10=t'.snd.1.length/\cap=t'.snd.2)/\Tr 7 ((true=true/\zaC/\(0:Nat)=0/\(1:Nat)=1/\(0:Nat)=0/\(nzL x.2).length=(nzL x.2).length/\(12:Nat)=12)/\Tr 1 ((↑(nzL x.2).length:Int)=(↑(nzL x.2).length:Int))/\Tr 1 (q9=(↑t'.fst:Int))/\Tr 19 True)))/\q2/\devB x_2.1.ws=devB x.1.ws/\zaA x_2.1.a=zaA x.1.a/\true=true/\(q4/\(4:Nat)=4/\cap=t'.snd.2/\t'.snd.1.length <= q10/\∀(i:Nat),
 let q11:EntT:=(zcG x_2.1.ws x_2.2).1.getD (0+(i-t.2.1.length)) entZ; i<t'.snd.1.length->(if i<t.2.1.length then [AV.int .i64 (t.2.1.getD i entZ).slot,AV.int .i64 (t.2.1.getD i entZ).gen,AV.int .i64 (t.2.1.getD i entZ).key,AV.int .i64 (t.2.1.getD i entZ).value] else [AV.int .i64 q11.slot,AV.int .i64 q11.gen,AV.int .i64 q11.key,AV.int .i64 q11.value])=[AV.int .i64 (t'.snd.1.getD i entZ).slot,AV.int .i64 (t'.snd.1.getD i entZ).gen,AV.int .i64 (t'.snd.1.getD i entZ).key,AV.int .i64 (t'.snd.1.getD i entZ).value])/\(q3/\(1:Nat)=1/\(12:Nat)=12/\(∀(i:Nat),i<12->[AV.int .i64 (gR x.2 i)]=[AV.int .i64 (gR x.2 i)])/\True)/\True)) ((zaC/\(0:Nat)=0/\(4:Nat)=4/\(0:Nat)=0/\(66:Nat)=66)/\(4:Nat)=4/\t.2.1.length=t.2.1.length/\t.2.1.length<4611686018427387904/\Exx (List EntT) fun l=>l.length=t.2.1.length/\(∀(i:Nat),i<t.2.1.length->[AV.int .i64 (t.2.1.getD i entZ).slot,AV.int .i64 (t.2.1.getD i entZ).gen,AV.int .i64 (t.2.1.getD i entZ).key,AV.int .i64 (t.2.1.getD i entZ).value]=[AV.int .i64 (l.getD i entZ).slot,AV.int .i64 (l.getD i entZ).gen,AV.int .i64 (l.getD i entZ).key,AV.int .i64 (l.getD i entZ).value])/\∀(l':List EntT),l'.Perm l->List.Pairwise (fun x y=>¬ahead y x) l'->Exx (List EntT×Nat) fun y=>((((true=true/\zaC/\(0:Nat)=0/\(4:Nat)=4/\(0:Nat)=0/\t.2.1.length=y.1.length/\t.2.2=y.2)/\Tr 1 ((0:Int)=(zbX x.1.ws x.2).2)/\True)/\True)/\q2/\devB x.1.ws=devB x.1.ws/\zaA x.1.a=zaA x.1.a/\true=true/\(q4/\(4:Nat)=4/\t.2.2=y.2/\y.1.length <= t.2.1.length/\∀(i:Nat),i<y.1.length->[AV.int .i64 (l'.getD i entZ).slot,AV.int .i64 (l'.getD i entZ).gen,AV.int .i64 (l'.getD i entZ).key,AV.int .i64 (l'.getD i entZ).value]=[AV.int .i64 (y.1.getD i entZ).slot,AV.int .i64 (y.1.getD i entZ).gen,AV.int .i64 (y.1.getD i entZ).key,AV.int .i64 (y.1.getD i entZ).value])/\True)/\(y.1.length <= y.2/\y.2 <= 9223372036854775807)/\y.1.Perm (zbX x.1.ws x.2).1/\SrtN y.1))=(zcE tb [(63,zaB zy8),(64,zaB zkL),(65,ql4),(66,zaB zjI)] Tryz.f25 zg9 (fun x=>{ loops:=[(5,zvN x)] }) (fun _ av _=>qdA av) (fun _=>[]) (fun _ _ _ _=>[])):=by kernel_rfl

theorem zs4:SpecOk Tryz.prog 25 (zaB zg9):=by
 refine za2 zaL zaN (SPok.cons qjF (SPok.cons zwM (SPok.cons qjN (SPok.cons zjH SPok.nil)))) Tryz.func25 (by decide) zp7 (Eq.mp zx5 ?_)
 simp (maxSteps:=10000000) only [std,stdU,stdV,Exx,I64,Nat.reduceMul,Nat.reduceDiv,Nat.reduceAdd,Int.reduceToNat,↓and_self,and_self,and_self_left,and_self_right,zaP,zaH,zdB,zcN]
 rintro s r ⟨h,hr⟩
 have hl12:(nzL r).length <= 12:=zsH r 12
 refine ⟨r,fun _ _=>rfl,hr,fun z=>z.1 <= (nzL r).length/\z.2.1.length <= 1792*z.1/\z.2.1.length <= z.2.2/\z.2.2 <= 9223372036854775807/\zbX s.ws r=allE s.ws ((nzL r).drop z.1) z.2.1,⟨0,[],0,⟨Nat.zero_le _,by simp,Nat.le_refl _,by simp,rfl⟩,rfl,rfl,rfl,rfl,rfl,rfl,fun _ _=>rfl⟩,fun z=>(nzL r).length-z.1,fun i out c hJ=>?_⟩
 obtain ⟨j1,j2,j3,j4,j5⟩:=hJ
 simp only at j1 j2 j3 j4 j5
 refine ⟨fun hlt=>?_,fun hge=>?_⟩
 ·have hi:i<(nzL r).length:=by omega
  have hI:I64 (gR r i):=getD_mem (p:=I64) (nzL_I hr).1 I64_0 i
  have eg:gR r i=(nzL r)[i]:=by rw [gR,List.getD_eq_getElem?_getD,List.getElem?_eq_getElem hi]; rfl
  rw [List.drop_eq_getElem_cons hi,<- eg,allE] at j5
  have hE:=listE_I s.ws (gR r i)
  have hEl:(zcG s.ws (gR r i)).1.length <= 1792:=by
   have:=(zxU s.ws 1792 [] [gR r i] (fun x hx=>by cases hx)).2
   simpa [zcG] using this
  refine ⟨by omega,by omega,by omega,h,hI.1,hI.2,fun y hy=>⟨fun hne=>?_,fun he=>?_⟩⟩
  ·rw [if_neg hne] at j5
   rw [j5]
   exact ⟨[],rfl,rfl,rfl,Nat.le_refl _,by omega,List.Perm.refl _,List.Pairwise.nil⟩
  ·rw [if_pos he] at j5
   refine ⟨by omega,by omega,fun cap hc=>⟨by omega,by omega,i+1,out++(zcG s.ws (gR r i)).1,cap,⟨by simp only; omega,by simp only [List.length_append]; omega,by simp only [List.length_append]; omega,hc.2,j5⟩,by simp only; omega,by simp,rfl,by omega,rfl,by simp,fun j hj=>?_⟩⟩
   rw [zaI]
   by_cases e:j<out.length
   ·rw [if_pos e,if_pos e]
   ·rw [if_neg e,if_neg e]
 ·have ei:i=(nzL r).length:=by omega
  rw [ei,List.drop_length,allE] at j5
  refine ⟨by omega,out,rfl,fun _ _=>rfl,fun l' hp hs=>⟨l',hp.length_eq.symm,by rw [j5],by rw [hp.length_eq]; exact Nat.le_refl _,fun _ _=>rfl,by rw [hp.length_eq]; exact j3,j4,by rw [j5]; exact hp,hs⟩⟩

theorem zwS {l m:List EntT} (hn:HNodup l) (hp:l.Perm m) (h1:SrtN l) (h2:SrtN m):l=m:=by
 have s1:Srt l:=by
  refine List.Pairwise.imp₂ (fun a b hk hh=>?_) h1 hn
  exact (zhE hh).resolve_right hk
 have s2:Srt m:=by
  refine List.Pairwise.imp₂ (fun a b hk hh=>?_) h2 (HNodup.perm hn hp)
  exact (zhE hh).resolve_right hk
 exact List.Perm.eq_of_pairwise (le:=ahead) (fun a b _ _ ha hb=>absurd hb (zyX ha)) s1 s2 hp

end Yard
