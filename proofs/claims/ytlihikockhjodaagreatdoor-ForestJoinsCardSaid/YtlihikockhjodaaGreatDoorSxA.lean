import Derived.WalkKit


def Yard.cstr (l:List Nat):List Int:=l.map (fun c:Nat=>(c:Int))

def Yard.litL (s:ByteArray):List Nat:=s.data.toList.map fun c=>c.toNat
theorem Yard.litL_eq (a:Array UInt8):Yard.litL ⟨a⟩=a.toList.map fun c=>c.toNat:=rfl
namespace Go.Sx

inductive AV where
 | any
 | cell
 | fn (f:Nat)
 | int (k:IntKind) (n:Int)
 | bool (b:Bool)
 | str (l:List Int)
 | nilp
 | nils
 | ptr (p:Nat) (path:List (Nat×Nat×Nat)) (off:Nat)
 | rp (segs:List AV) (off:Nat)
 | sl (p:Nat) (path:List (Nat×Nat×Nat)) (off es lo n cap:Nat)
 | ro (es n:Nat) (f:Nat->List AV)
 | agg (l:List AV)
 | tup (l:List AV)
 | arr (es n:Nat) (f:Nat->List AV)

def AV.size:AV->Nat
 | .arr es n _=>es*n
 | _=>1

def zf5:List AV->Nat
 | []=>0
 | a :: r=>a.size+zf5 r

def AV.one:AV->Bool
 | .arr .. | .agg _ | .tup _ | .any=>false
 | _=>true

def poff:List (Nat×Nat×Nat)->Nat
 | []=>0
 | (o,es,i) :: r=>o+i*es+poff r

def bytesOf (l:List Int):ByteArray:=⟨(l.map fun x=>x.toNat.toUInt8).toArray⟩
def zgL (l:List Int):Prop:=∀x∈l,0 <= x/\x<256

def rcell (R:Nat->Option Obj) (b o:Nat):Option Value:=match R b with
 | some (.cells c _ _)=>c[o]?
 | _=>none
def noIds:Nat->Option Nat:=fun _=>none

mutual

inductive V (R:Nat->Option Obj):(Nat->Option Nat)->AV->Value->Prop
 | any {ids:Nat->Option Nat} (v:Value):V R ids .any v
 | cell {ids:Nat->Option Nat} (v:Value):v.oneCell'=true->V R ids .cell v
 | fn {ids:Nat->Option Nat} (f:Nat):V R ids (.fn f) (.func (.func f) #[] #[])
 | int {ids:Nat->Option Nat} (k:IntKind) (n:Int):V R ids (.int k n) (.int k n)
 | bool {ids:Nat->Option Nat} (b:Bool):V R ids (.bool b) (.bool b)
 | str {ids:Nat->Option Nat} (l:List Int):zgL l->V R ids (.str l) (.string (bytesOf l))
 | nilp {ids:Nat->Option Nat}:V R ids .nilp (.pointer none)
 | nils {ids:Nat->Option Nat}:V R ids .nils (.slice none 0 0)
 | ptr {ids:Nat->Option Nat} (p:Nat) (path:List (Nat×Nat×Nat)) (off b:Nat):ids p=some b->V R ids (.ptr p path off) (.pointer (some ⟨b,poff path+off,none⟩))
 | rp {ids:Nat->Option Nat} (segs:List AV) (off b o:Nat) (cs:List Value):(∀j,j<cs.length->rcell R b (o+j)=cs[j]?)->Vs R noIds segs cs ->
   V R ids (.rp segs off) (.pointer (some ⟨b,o+off,none⟩))
 | sl {ids:Nat->Option Nat} (p:Nat) (path:List (Nat×Nat×Nat)) (off es lo n cap:Nat) (a:Option Addr):(cap≠0->∃b,ids p=some b/\a=some ⟨b,poff path+off+lo*es,none⟩)->n <= cap->cap <= maxLen ->
   V R ids (.sl p path off es lo n cap) (.slice a n cap)
 | ro {ids:Nat->Option Nat} (es n:Nat) (f:Nat->List AV) (b o cap:Nat) (cs:Nat->List Value):n <= cap->cap <= maxLen->(∀i,i<n->(cs i).length=es) ->
   (∀i,i<n->∀j,j<es->rcell R b (o+i*es+j)=(cs i)[j]?)->(∀i,i<n->Vs R noIds (f i) (cs i))->V R ids (.ro es n f) (.slice (some ⟨b,o,none⟩) n cap)
 | ro0 {ids:Nat->Option Nat} (es:Nat) (f:Nat->List AV) (a:Option Addr) (cap:Nat):cap <= maxLen->V R ids (.ro es 0 f) (.slice a 0 cap)
 | agg {ids:Nat->Option Nat} (l:List AV) (cs:List Value):Vs R ids l cs->V R ids (.agg l) (.agg cs.toArray)
 | tup {ids:Nat->Option Nat} (l:List AV) (vs:List Value):Ts R ids l vs->V R ids (.tup l) (.tuple vs.toArray)
inductive Vs (R:Nat->Option Obj):(Nat->Option Nat)->List AV->List Value->Prop
 | nil {ids:Nat->Option Nat}:Vs R ids [] []
 | one {ids:Nat->Option Nat} (a:AV) (v:Value) (as:List AV) (vs:List Value):a.one=true->V R ids a v->Vs R ids as vs->Vs R ids (a :: as) (v :: vs)
 | arr {ids:Nat->Option Nat} (es n:Nat) (f:Nat->List AV) (cs:Nat->List Value) (as:List AV) (ws vs:List Value):ws.length=es*n->(∀i<n,(ws.drop (i*es)).take es=cs i) ->
   (∀i,i<n->Vs R noIds (f i) (cs i))->Vs R ids as vs->Vs R ids (.arr es n f :: as) (ws++vs)
inductive Ts (R:Nat->Option Obj):(Nat->Option Nat)->List AV->List Value->Prop
 | nil {ids:Nat->Option Nat}:Ts R ids [] []
 | cons {ids:Nat->Option Nat} (a:AV) (v:Value) (as:List AV) (vs:List Value):V R ids a v->Ts R ids as vs->Ts R ids (a :: as) (v :: vs)
end

variable {R R':Nat->Option Obj} {ids ids':Nat->Option Nat}

theorem qdV {b o:Nat} {v:Value} (h:∀b o,R b=some o->R' b=some o) (hc:rcell R b o=some v):rcell R' b o=some v:=by
 unfold rcell at *
 cases hR:R b with
 | none=>rw [hR] at hc; cases hc
 | some x=>rw [hR] at hc; rw [h _ _ hR]; exact hc

theorem qjR {b o:Nat} {cs:List Value} (h:∀b o,R b=some o->R' b=some o) (hc:∀j,j<cs.length->rcell R b (o+j)=cs[j]?):∀j,j<cs.length->rcell R' b (o+j)=cs[j]?:=by
 intro j hj
 have:=hc j hj
 rw [List.getElem?_eq_getElem hj] at this ⊢
 exact qdV h this

mutual
theorem V.into' (h:∀b o,R b=some o->R' b=some o):∀{ids ids':Nat->Option Nat} {a:AV} {v:Value},(∀p b,ids p=some b->ids' p=some b)->V R ids a v->V R' ids' a v
 | _,_,_,_,_,.any v => .any v
 | _,_,_,_,_,.cell v hv => .cell v hv
 | _,_,_,_,_,.fn f => .fn f
 | _,_,_,_,_,.int k n => .int k n
 | _,_,_,_,_,.bool b => .bool b
 | _,_,_,_,_,.str l hl => .str l hl
 | _,_,_,_,_,.nilp => .nilp
 | _,_,_,_,_,.nils => .nils
 | _,_,_,_,hi,.ptr p path off b hb => .ptr p path off b (hi p b hb)
 | _,_,_,_,_,.rp segs off b o cs h3 h4 => .rp segs off b o cs (qjR h h3) (Vs.into' h (fun _ _ e=>e) h4)
 | _,_,_,_,hi,.sl p path off es lo n cap a h1 h2 h3 => .sl p path off es lo n cap a (fun hc=>let ⟨b,hb,e⟩:=h1 hc; ⟨b,hi p b hb,e⟩) h2 h3
 | _,_,_,_,_,.ro es n f b o cap cs h3 h4 h5 h6 h7 =>
   .ro es n f b o cap cs h3 h4 h5 (fun i hlt j hj=>by
    have:=h6 i hlt j hj
    rw [List.getElem?_eq_getElem (by rw [h5 i hlt]; exact hj)] at this ⊢
    exact qdV h this) (fun i hlt=>Vs.into' h (fun _ _ e=>e) (h7 i hlt))
 | _,_,_,_,_,.ro0 es f a cap hc => .ro0 es f a cap hc
 | _,_,_,_,hi,.agg l cs hc => .agg l cs (Vs.into' h hi hc)
 | _,_,_,_,hi,.tup l vs hc => .tup l vs (Ts.into' h hi hc)
theorem Vs.into' (h:∀b o,R b=some o->R' b=some o):∀{ids ids':Nat->Option Nat} {as:List AV} {vs:List Value},(∀p b,ids p=some b->ids' p=some b)->Vs R ids as vs->Vs R' ids' as vs
 | _,_,_,_,_,.nil => .nil
 | _,_,_,_,hi,.one a v as vs h1 h2 h3 => .one a v as vs h1 (V.into' h hi h2) (Vs.into' h hi h3)
 | _,_,_,_,hi,.arr es n f cs as ws vs h1 h2 h3 h4 => .arr es n f cs as ws vs h1 h2 (fun i hlt=>Vs.into' h (fun _ _ e=>e) (h3 i hlt)) (Vs.into' h hi h4)
theorem Ts.into' (h:∀b o,R b=some o->R' b=some o):∀{ids ids':Nat->Option Nat} {as:List AV} {vs:List Value},(∀p b,ids p=some b->ids' p=some b)->Ts R ids as vs->Ts R' ids' as vs
 | _,_,_,_,_,.nil => .nil
 | _,_,_,_,hi,.cons a v as vs h1 h2 => .cons a v as vs (V.into' h hi h1) (Ts.into' h hi h2)
end

theorem V.into {a:AV} {v:Value} (h:V R ids a v) (hi:∀p b,ids p=some b->ids' p=some b) (hr:∀b o,R b=some o->R' b=some o):V R' ids' a v:=V.into' hr hi h
theorem Vs.into {a:List AV} {v:List Value} (h:Vs R ids a v) (hi:∀p b,ids p=some b->ids' p=some b) (hr:∀b o,R b=some o->R' b=some o):Vs R' ids' a v:=Vs.into' hr hi h
theorem Ts.into {a:List AV} {v:List Value} (h:Ts R ids a v) (hi:∀p b,ids p=some b->ids' p=some b) (hr:∀b o,R b=some o->R' b=some o):Ts R' ids' a v:=Ts.into' hr hi h

theorem Vs.lift {as:List AV} {vs:List Value} (h:Vs R noIds as vs):Vs R ids as vs:=h.into (fun _ _ e=>by cases e) (fun _ _ e=>e)

theorem Vs.length {as:List AV} {vs:List Value} (h:Vs R ids as vs):vs.length=zf5 as:=by
 match h with
 | .nil=>rfl
 | .one a v as vs h1 h2 h3 =>
   have hs:a.size=1:=by cases a <;> simp_all [AV.one,AV.size]
   simp only [List.length_cons,zf5,hs,h3.length]; omega
 | .arr es n f cs as ws vs h1 h2 h3 h4=>simp only [List.length_append,zf5,AV.size,h1,h4.length]

theorem Vs.append {as bs:List AV} {vs ws:List Value} (h:Vs R ids as vs) (k:Vs R ids bs ws):Vs R ids (as++bs) (vs++ws):=by
 match h with
 | .nil=>exact k
 | .one a v as vs h1 h2 h3=>exact .one a v _ _ h1 h2 (h3.append k)
 | .arr es n f cs as us vs h1 h2 h3 h4 =>
   rw [List.append_assoc]; exact .arr es n f cs _ us _ h1 h2 h3 (h4.append k)

def zcN:List AV->Nat->Option (List AV)
 | l,0=>some l
 | [],_+1=>none
 | a :: r,n+1=>match Nat.ble a.size (n+1) with
   | true=>zcN r (n+1-a.size)
   | false=>none
def za7:List AV->Nat->Option (List AV)
 | _,0=>some []
 | [],_+1=>none
 | a :: r,n+1=>match Nat.ble a.size (n+1) with
   | true=>match za7 r (n+1-a.size) with
     | some l=>some (a :: l)
     | none=>none
   | false=>none

theorem zcQ {as:List AV} {vs:List Value} (h:Vs R ids as vs):∀{n:Nat} {l:List AV},zcN as n=some l->Vs R ids l (vs.drop n)/\n <= vs.length:=by
 match h with
 | .nil =>
   intro n l hd
   cases n with
   | zero=>simp [zcN] at hd; subst hd; exact ⟨.nil,Nat.le_refl _⟩
   | succ n=>simp [zcN] at hd
 | .one a v as vs h1 h2 h3 =>
   intro n l hd
   have hs:a.size=1:=by cases a <;> simp_all [AV.one,AV.size]
   cases n with
   | zero=>simp [zcN] at hd; subst hd; exact ⟨.one a v as vs h1 h2 h3,Nat.zero_le _⟩
   | succ n =>
     simp only [zcN,hs] at hd
     cases hb:Nat.ble 1 (n+1) with
     | false=>rw [hb] at hd; cases hd
     | true =>
       rw [hb] at hd
       have:=zcQ h3 hd
       simp only [Nat.add_sub_cancel] at this
       exact ⟨by simpa using this.1,by simp; exact this.2⟩
 | .arr es m f cs as ws vs h1 h2 h3 h4 =>
   intro n l hd
   cases n with
   | zero=>simp [zcN] at hd; subst hd; exact ⟨.arr es m f cs as ws vs h1 h2 h3 h4,Nat.zero_le _⟩
   | succ n =>
     simp only [zcN,AV.size] at hd
     cases hb:Nat.ble (es*m) (n+1) with
     | false=>rw [hb] at hd; cases hd
     | true =>
       rw [hb] at hd
       have hle:es*m <= n+1:=Nat.le_of_ble_eq_true hb
       have:=zcQ h4 hd
       refine ⟨?_,by rw [List.length_append,h1]; omega⟩
       rw [List.drop_append,List.drop_of_length_le (by omega),h1]
       exact this.1

theorem ze4 {as:List AV} {vs:List Value} (h:Vs R ids as vs):∀{n:Nat} {l:List AV},za7 as n=some l->Vs R ids l (vs.take n)/\n <= vs.length:=by
 match h with
 | .nil =>
   intro n l hd
   cases n with
   | zero=>simp [za7] at hd; subst hd; exact ⟨.nil,Nat.le_refl _⟩
   | succ n=>simp [za7] at hd
 | .one a v as vs h1 h2 h3 =>
   intro n l hd
   have hs:a.size=1:=by cases a <;> simp_all [AV.one,AV.size]
   cases n with
   | zero=>simp [za7] at hd; subst hd; exact ⟨.nil,Nat.zero_le _⟩
   | succ n =>
     simp only [za7,hs] at hd
     cases hb:Nat.ble 1 (n+1) with
     | false=>rw [hb] at hd; cases hd
     | true =>
       rw [hb] at hd
       cases ht:za7 as (n+1-1) with
       | none=>simp only [ht] at hd; cases hd
       | some l' =>
         simp only [ht,Option.some.injEq] at hd
         subst hd
         have:=ze4 h3 ht
         exact ⟨by simpa using Vs.one a v _ _ h1 h2 this.1,by have:=this.2; simp; omega⟩
 | .arr es m f cs as ws vs h1 h2 h3 h4 =>
   intro n l hd
   cases n with
   | zero=>simp [za7] at hd; subst hd; exact ⟨.nil,Nat.zero_le _⟩
   | succ n =>
     simp only [za7,AV.size] at hd
     cases hb:Nat.ble (es*m) (n+1) with
     | false=>rw [hb] at hd; cases hd
     | true =>
       rw [hb] at hd
       have hle:es*m <= n+1:=Nat.le_of_ble_eq_true hb
       cases ht:za7 as (n+1-es*m) with
       | none=>simp only [ht] at hd; cases hd
       | some l' =>
         simp only [ht,Option.some.injEq] at hd
         subst hd
         have:=ze4 h4 ht
         refine ⟨?_,by rw [List.length_append,h1]; omega⟩
         rw [List.take_append,List.take_of_length_le (by omega),h1]
         exact .arr es m f cs _ ws _ h1 h2 h3 this.1

theorem Vs.elem {es n:Nat} {f:Nat->List AV} {as:List AV} {vs:List Value} (h:Vs R ids (.arr es n f :: as) vs) {i:Nat} (hi:i<n) :
  Vs R noIds (f i) ((vs.drop (i*es)).take es)/\i*es+es <= vs.length:=by
 cases h with
 | one a v as vs h1=>simp [AV.one] at h1
 | arr es n f cs as ws vs h1 h2 h3 h4 =>
   have hle:i*es+es <= es*n:=by
    have:(i+1)*es <= n*es:=Nat.mul_le_mul_right _ hi
    rw [Nat.add_mul,Nat.one_mul,Nat.mul_comm n es] at this
    exact this
   refine ⟨?_,by rw [List.length_append,h1]; omega⟩
   rw [List.drop_append,List.take_append,List.length_drop,h1,show es-(es*n-i*es)=0 by omega,List.take_zero,List.append_nil,h2 i hi]
   exact h3 i hi

def zoS (j i:Nat):List AV->List AV->Option (List AV)
 | .int k x :: r,.int k' y :: r'=>match decEq k k' with
   | isTrue _=>match zoS j i r r' with
     | some l=>some (.int k (if j=i then x else y) :: l)
     | none=>none
   | isFalse _=>none
 | .bool x :: r,.bool y :: r'=>match zoS j i r r' with
   | some l=>some (.bool (if j=i then x else y) :: l)
   | none=>none
 | [],[]=>some []
 | _,_=>none
theorem mergeS_eq {j i:Nat}:∀{s t l:List AV},zoS j i s t=some l->l=if j=i then s else t
 | s,t,l,h=>by
   unfold zoS at h
   split at h
   ·split at h
    ·rename_i hk _
     subst hk
     split at h
     ·rename_i l' e
      cases h
      rw [mergeS_eq e]
      split <;> rfl
     ·cases h
    ·cases h
   ·split at h
    ·rename_i l' e
     cases h
     rw [mergeS_eq e]
     split <;> rfl
    ·cases h
   ·cases h; split <;> rfl
   ·cases h
def zq4 (j i:Nat) (s t:List AV):Option (List AV)->List AV
 | some l=>l
 | none=>if j=i then s else t
theorem merge_o {j i:Nat} {s t:List AV}:zq4 j i s t (zoS j i s t)=if j=i then s else t:=by
 unfold zq4
 split
 ·rename_i l e; exact mergeS_eq e
 ·rfl
def updf (f:Nat->List AV) (i:Nat) (s:List AV):Nat->List AV:=fun j=>zq4 j i s (f j) (zoS j i s (f j))
theorem updf_eq (f:Nat->List AV) (i:Nat) (s:List AV) (j:Nat):updf f i s j=if j=i then s else f j:=merge_o

theorem Vs.elem_put {es n:Nat} {f:Nat->List AV} {as:List AV} {vs:List Value} (h:Vs R ids (.arr es n f :: as) vs) {i:Nat} (hi:i<n)
  {s:List AV} {c:List Value} (hs:Vs R noIds s c) (hc:c.length=es):Vs R ids (.arr es n (updf f i s) :: as) (vs.take (i*es)++c++vs.drop (i*es+es)):=by
 cases h with
 | one a v as vs h1=>simp [AV.one] at h1
 | arr es n f cs as ws vs h1 h2 h3 h4 =>
   have hle:i*es+es <= es*n:=by
    have:(i+1)*es <= n*es:=Nat.mul_le_mul_right _ hi
    rw [Nat.add_mul,Nat.one_mul,Nat.mul_comm n es] at this
    exact this
   have e1:(ws++vs).take (i*es)=ws.take (i*es):=by rw [List.take_append_of_le_length (by omega)]
   have e2:(ws++vs).drop (i*es+es)=ws.drop (i*es+es)++vs:=by rw [List.drop_append_of_le_length (by omega)]
   rw [e1,e2,<- List.append_assoc]
   refine .arr es n (updf f i s) (fun j=>if j=i then c else cs j) as (ws.take (i*es)++c++ws.drop (i*es+es)) vs (by simp only [List.length_append,List.length_take,List.length_drop,hc,h1]; omega) ?_ ?_ h4
   ·intro j hj
    by_cases hji:j=i
    ·subst hji
     simp only [if_true]
     have l1:(ws.take (j*es)).length=j*es:=by simp only [List.length_take,h1]; omega
     rw [List.append_assoc,List.drop_append,List.drop_of_length_le (by omega),l1,Nat.sub_self,List.drop_zero,List.nil_append,List.take_append_of_le_length (by omega),List.take_of_length_le (by omega)]
    ·simp only [if_neg hji]
     rw [<- h2 j hj]
     have l1:(ws.take (i*es)).length=i*es:=by simp only [List.length_take,h1]; omega
     have hjle:j*es+es <= es*n:=by
      have:(j+1)*es <= n*es:=Nat.mul_le_mul_right _ hj
      rw [Nat.add_mul,Nat.one_mul,Nat.mul_comm n es] at this
      exact this
     rcases Nat.lt_or_gt_of_ne hji with hlt | hgt
     ·have:j*es+es <= i*es:=by
       have:(j+1)*es <= i*es:=Nat.mul_le_mul_right _ hlt
       rw [Nat.add_mul,Nat.one_mul] at this; exact this
      apply List.ext_getElem?
      intro k
      by_cases hk:k<es
      ·simp only [List.getElem?_take,if_pos hk,List.getElem?_drop]
       rw [List.append_assoc,List.getElem?_append_left (by omega),List.getElem?_take,if_pos (by omega)]
      ·simp only [List.getElem?_take,if_neg hk]
     ·have:i*es+es <= j*es:=by
       have:(i+1)*es <= j*es:=Nat.mul_le_mul_right _ hgt
       rw [Nat.add_mul,Nat.one_mul] at this; exact this
      apply List.ext_getElem?
      intro k
      by_cases hk:k<es
      ·simp only [List.getElem?_take,if_pos hk,List.getElem?_drop]
       rw [List.getElem?_append_right (by simp only [List.length_append,l1,hc]; omega),List.getElem?_drop]
       simp only [List.length_append,l1,hc]
       congr 1; omega
      ·simp only [List.getElem?_take,if_neg hk]
   ·intro j hj
    rw [updf_eq]
    by_cases hji:j=i
    ·simp only [if_pos hji]; exact hs
    ·simp only [if_neg hji]; exact h3 j hj

def nav:List AV->List (Nat×Nat×Nat)->(List AV->Prop)->Prop
 | segs,[],k=>k segs
 | segs,(off,es,i) :: r,k=>match zcN segs off with
   | some (.arr es' n f :: _)=>match Nat.beq es es' with
     | true=>i<n/\nav (f i) r k
     | false=>False
   | _=>False

theorem qrI:∀{path:List (Nat×Nat×Nat)} {segs:List AV} {cs:List Value} {k:List AV->Prop},Vs R ids segs cs->nav segs path k ->
  ∃s,k s/\Vs R ids s ((cs.drop (poff path)).take (zf5 s))/\poff path+zf5 s <= cs.length
 | [],segs,cs,k,h,hn=>⟨segs,hn,by simp only [poff,List.drop_zero]; rw [<- h.length,List.take_length]; exact h,by simp [poff,h.length]⟩
 | (off,es,i) :: r,segs,cs,k,h,hn=>by
   unfold nav at hn
   split at hn
   ·rename_i es' n f rest hd
    split at hn
    ·rename_i he
     have he':es=es':=Nat.eq_of_beq_eq_true he
     subst he'
     obtain ⟨hi,hn⟩:=hn
     obtain ⟨h1,h2⟩:=zcQ h hd
     obtain ⟨h3,h4⟩:=h1.elem hi
     obtain ⟨s,hk,h5,h6⟩:=qrI h3.lift hn
     have hl:((List.drop off cs).drop (i*es)).length >= es:=by simp only [List.length_drop] at h4 ⊢; omega
     have h6':poff r+zf5 s <= es:=by simp only [List.length_take] at h6; omega
     refine ⟨s,hk,?_,?_⟩
     ·have:((((List.drop off cs).drop (i*es)).take es).drop (poff r)).take (zf5 s)=(cs.drop (poff ((off,es,i) :: r))).take (zf5 s):=by
       rw [List.drop_take,List.take_take,List.drop_drop,List.drop_drop,Nat.min_eq_left (by omega)]
       simp only [poff,Nat.add_assoc]
      rw [<- this]; exact h5
     ·simp only [List.length_drop] at h4
      simp only [poff]; omega
    ·exact hn.elim
   ·exact hn.elim

def putS (segs:List AV) (off m:Nat) (new:List AV):Option (List AV) :=
 match za7 segs off,zcN segs (off+m) with
 | some a,some b=>some (a++(new++b))
 | _,_=>none

theorem qa5 {segs s' new:List AV} {cs c:List Value} {off m:Nat} (h:Vs R ids segs cs) (hp:putS segs off m new=some s') (hn:Vs R ids new c) :
  Vs R ids s' (cs.take off++(c++cs.drop (off+m)))/\off+m <= cs.length:=by
 unfold putS at hp
 split at hp
 ·rename_i a b ha hb
  cases hp
  exact ⟨(ze4 h ha).1.append (hn.append (zcQ h hb).1),(zcQ h hb).2⟩
 ·cases hp

def qhX (r:List (Nat×Nat×Nat)) (off es m:Nat):Bool:=match r with
 | []=>Nat.beq off 0&&Nat.beq es m
 | _ :: _=>false
theorem qhW {r:List (Nat×Nat×Nat)} {off es m:Nat} (h:qhX r off es m=true):r=[]/\off=0/\es=m:=by
 unfold qhX at h
 split at h
 ·simp only [Bool.and_eq_true] at h
  exact ⟨rfl,Nat.eq_of_beq_eq_true h.1,Nat.eq_of_beq_eq_true h.2⟩
 ·cases h

def ztM:List AV->List (Nat×Nat×Nat)->Nat->Nat->List AV->(List AV->Prop)->Prop
 | segs,[],off,m,new,k=>match putS segs off m new with
   | some s=>k s
   | none=>False
 | segs,(o,es,i) :: r,off,m,new,k=>match zcN segs o,za7 segs o with
   | some (.arr es' n f :: rest),some a=>match Nat.beq es es' with
     | true=>match qhX r off es m with
       | true=>i<n/\k (a++(.arr es n (updf f i new) :: rest))
       | false=>i<n/\ztM (f i) r off m new (fun s=>k (a++(.arr es n (updf f i s) :: rest)))
     | false=>False
   | _,_=>False

def AV.flat:AV->Bool
 | .ptr .. | .sl .. | .any | .agg _ | .tup _=>false
 | _=>true

theorem V.unbound {a:AV} {v:Value} (hf:a.flat=true) (hne:a.size=1) (hone:a.one=true) (h:V R ids a v):V R noIds a v:=by
 cases h <;> first
  | exact .cell _ (by assumption)
  | exact .fn _
  | exact .int _ _
  | exact .bool _
  | exact .str _ (by assumption)
  | exact .nilp
  | exact .nils
  | exact .rp _ _ _ _ _ (by assumption) (by assumption)
  | exact .ro _ _ _ _ _ _ _ (by assumption) (by assumption) (by assumption) (by assumption) (by assumption)
  | exact .ro0 _ _ _ _ (by assumption)
  | simp [AV.flat] at hf

theorem Vs.unbound {as:List AV} {vs:List Value} (hf:as.all AV.flat=true) (h:Vs R ids as vs):Vs R noIds as vs:=by
 match h with
 | .nil=>exact .nil
 | .one a v as vs h1 h2 h3 =>
   simp only [List.all_cons,Bool.and_eq_true] at hf
   exact .one a v as vs h1 (h2.unbound hf.1 (by cases a <;> simp_all [AV.one,AV.size]) h1) (h3.unbound hf.2)
 | .arr es n f cs as ws vs h1 h2 h3 h4 =>
   simp only [List.all_cons,Bool.and_eq_true] at hf
   exact .arr es n f cs as ws vs h1 h2 h3 (h4.unbound hf.2)

theorem zyF {ids:Nat->Option Nat} {segs rest a new:List AV} {cs c:List Value} {o es n i:Nat} {f:Nat->List AV} (h:Vs R ids segs cs) (hd:zcN segs o=some (.arr es n f :: rest)) (ht:za7 segs o=some a) (hi:i<n) (hnew:Vs R noIds new c) (hc:c.length=es) :
  Vs R ids (a++(.arr es n (updf f i new) :: rest)) (cs.take (poff [(o,es,i)]+0)++(c++cs.drop (poff [(o,es,i)]+0+es)))/\poff [(o,es,i)]+0+es <= cs.length:=by
 obtain ⟨h1,h2⟩:=zcQ h hd
 obtain ⟨h3,h4⟩:=h1.elem hi
 obtain ⟨t1,t2⟩:=ze4 h ht
 have hsl:=h1.elem_put hi hnew hc
 have h4':o+(i*es+es) <= cs.length:=by simp only [List.length_drop] at h4; omega
 have ep:poff [(o,es,i)]+0=o+i*es:=rfl
 rw [ep]
 refine ⟨?_,by omega⟩
 have:=t1.append hsl
 have e:List.take o cs++(List.take (i*es) (List.drop o cs)++c++List.drop (i*es+es) (List.drop o cs))=List.take (o+i*es) cs++(c++List.drop (o+i*es+es) cs):=by
  rw [List.drop_drop,<- List.append_assoc,<- List.append_assoc,<- List.append_assoc,<- List.take_add,Nat.add_assoc o]
 rw [<- e]; exact this

theorem zq2:∀{path:List (Nat×Nat×Nat)} {segs:List AV} {cs c:List Value} {off m:Nat} {new:List AV} {k:List AV->Prop} {ids:Nat->Option Nat},Vs R ids segs cs->Vs R ids new c->(path≠[]->Vs R noIds new c)->c.length=m ->
  ztM segs path off m new k->∃s,k s/\Vs R ids s (cs.take (poff path+off)++(c++cs.drop (poff path+off+m)))/\poff path+off+m <= cs.length
 | [],segs,cs,c,off,m,new,k,ids,h,hnew,_,hc,hn=>by
   unfold ztM at hn
   split at hn
   ·rename_i s hs
    obtain ⟨h1,h2⟩:=qa5 h hs hnew
    exact ⟨s,hn,by simpa [poff] using h1,by simpa [poff] using h2⟩
   ·exact hn.elim
 | (o,es,i) :: r,segs,cs,c,off,m,new,k,ids,h,hnew,hflat,hc,hn=>by
   unfold ztM at hn
   split at hn
   ·rename_i es' n f rest a hd ht
    split at hn
    ·rename_i he
     have he':es=es':=Nat.eq_of_beq_eq_true he
     subst he'
     split at hn
     ·rename_i hw
      obtain ⟨rfl,rfl,rfl⟩:=qhW hw
      obtain ⟨hi,hk⟩:=hn
      have g:=zyF h hd ht hi (hflat (by simp)) hc
      exact ⟨_,hk,g.1,g.2⟩
     obtain ⟨hi,hn⟩:=hn
     obtain ⟨h1,h2⟩:=zcQ h hd
     obtain ⟨h3,h4⟩:=h1.elem hi
     obtain ⟨t1,t2⟩:=ze4 h ht
     obtain ⟨s,hk,h5,h6⟩:=zq2 h3 (hflat (by simp)) (fun _=>hflat (by simp)) hc hn
     have hl:((List.drop o cs).drop (i*es)).length >= es:=by simp only [List.length_drop] at h4 ⊢; omega
     have h4':o+(i*es+es) <= cs.length:=by simp only [List.length_drop] at h4; omega
     have h6':poff r+off+m <= es:=by simp only [List.length_take] at h6; omega
     have hlen:(((List.drop o cs).drop (i*es)).take es).length=es:=by rw [List.length_take]; omega
     have hsl:=h1.elem_put hi h5 (by simp only [List.length_append,List.length_take,List.length_drop,hc]; simp only [List.length_drop] at h4; omega)
     refine ⟨_,hk,?_,by simp only [poff]; omega⟩
     have:=t1.append hsl
     have e:List.take o cs++(List.take (i*es) (List.drop o cs)++(List.take (poff r+off) (List.take es (List.drop (i*es) (List.drop o cs)))++(c++List.drop (poff r+off+m) (List.take es (List.drop (i*es) (List.drop o cs)))))++List.drop (i*es+es) (List.drop o cs)) =
       List.take (poff ((o,es,i) :: r)+off) cs++(c++List.drop (poff ((o,es,i) :: r)+off+m) cs):=by
      apply List.ext_getElem?
      intro q
      simp only [List.getElem?_append,List.length_append,List.length_take,List.length_drop,List.getElem?_take,List.getElem?_drop,poff,hc]
      repeat' split
      all_goals first
       | omega
       | rfl
       | (congr 1; omega)
       | skip
     rw [<- e]; exact this
    ·exact hn.elim
   ·exact hn.elim

end Go.Sx
