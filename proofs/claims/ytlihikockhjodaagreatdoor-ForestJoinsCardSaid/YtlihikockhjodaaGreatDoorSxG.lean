import Derived.Test.YtlihikockhjodaaGreatDoorSxF

namespace Go.Sx
variable {W W':Base} {D D':Nat->Prop} {R R':Nat->Option Obj} {ids ids' own own':Nat->Option Nat} {P:Program} {tb:TB} {w w':World} {H H':AH}

theorem TIok.zeroValue {t:TypeId} {ti:TI} (h:TIok P t ti):∃z,(Go.zeroValue t).run P w = .ok z w/\z.cells.toList=zVal ti.zero/\∃i,P.info? t=some i/\i.zero=some z/\i.size=ti.size/\i.bytes=ti.bytes:=by
 obtain ⟨i,h1,h2,h3,z,h4,h5⟩:=h.typeInfo
 exact ⟨z,by simp [Go.zeroValue,Go.typeInfo,h1,h4],h5,i,h1,h4,h2,h3⟩

theorem TIok.zeroAll {t:TypeId} {ti:TI} (h:TIok P t ti):∃z,(∀w:World,(Go.zeroValue t).run P w = .ok z w)/\z.cells.toList=zVal ti.zero:=by
 obtain ⟨i,h1,h2,h3,z,h4,h5⟩:=h.typeInfo
 exact ⟨z,fun w=>by simp [Go.zeroValue,Go.typeInfo,h1,h4],h5⟩

theorem zs9 (t:TypeId) (v:Value):(newVar t v).run P w = .ok ⟨w.heap.size,0,none⟩ (w.alloc (.cells v.cells t)):=by
 simp [newVar,newRow]

theorem Rep.cells (hR:Rep W D R ids own H w) {cs:Array Value} {t:TypeId} (hh:w'.heap=w.heap.push (.cells cs t)) {l:List AV} (h1:w'.os=w.os) (h2:w'.tape=w.tape) (h3:w'.output=w.output) (hv:Vs R ids l cs.toList) :
  Rep W D R (upd ids H.length (some w.heap.size)) (upd own w.heap.size (some H.length)) (H++[.cells t l]) w'/\(∀q b,ids q=some b->upd ids H.length (some w.heap.size) q=some b):=by
 refine hR.push hh h1 h2 h3 ⟨w.heap.size,cs,zbU _ _ _,rfl,by rw [hh]; simp,hv.into (fun q b hq=>?_) (fun _ _ e=>e)⟩
 rw [zbG]; exact hq
 intro e; rw [hR.blind q (by omega)] at hq; cases hq

def qnZ (tb:TB) (t:TypeId) (F:Fr) (H:AH) (K:AV->Fr->AH->Prop):Prop:=match lk tb t with
 | some ti=>K (.ptr H.length [] 0) F (H++[.cells t (zAV ti.zero)])
 | none=>False

theorem qnY (ht:TBok P tb) {t:TypeId} {F:Fr} {tmps:List Value} {K:AV->Fr->AH->Prop} (hF:Ts R ids F tmps) (hR:Rep W D R ids own H w) (h:qnZ tb t F H K) :
  ∃v w',(Instr.alloc t true (.tuple #[])).run P w = .ok v w'/\zd7 W D tmps K v w':=by
 unfold qnZ at h
 split at h
 ·rename_i ti hl
  have hti:=ht.get hl
  obtain ⟨z,hz,hc,_⟩:=hti.zeroValue (w:=w)
  obtain ⟨hR',hid⟩:=hR.cells (t:=t) (cs:=z.cells) (w':=w.alloc (.cells z.cells t)) rfl (l:=zAV ti.zero) rfl rfl rfl (by rw [hc]; exact zoF _ hti.zok.1)
  exact ⟨_,_,by simp only [Instr.alloc,Sem.run_bind,hz,Result.andThen_ok,zs9,Sem.run_pure]; rfl,
   _,_,_,R,_,_,V.ptr H.length [] 0 _ (zbU _ _ _),hF.into hid (fun _ _ e=>e),hR',h⟩
 ·exact h.elim

def aBox (t:TypeId) (a:AV) (F:Fr) (H:AH) (K:AV->Fr->AH->Prop):Prop:=match zzO a with
 | some l=>K (.ptr H.length [] 0) F (H++[.cells t l])
 | none=>False

theorem aBox_ok {t:TypeId} {a:AV} {va:Value} {F:Fr} {tmps:List Value} {K:AV->Fr->AH->Prop} (ha:V R ids a va) (hF:Ts R ids F tmps) (hR:Rep W D R ids own H w) (h:aBox t a F H K) :
  ∃v w',(Instr.box t va).run P w = .ok v w'/\zd7 W D tmps K v w':=by
 unfold aBox at h
 split at h
 ·rename_i l hc
  obtain ⟨hR',hid⟩:=hR.cells (t:=t) (cs:=va.cells) (w':=w.alloc (.cells va.cells t)) rfl (l:=l) rfl rfl rfl (zr3 ha hc)
  exact ⟨_,_,by simp only [Instr.box,Sem.run_bind,zs9,Result.andThen_ok,Sem.run_pure]; rfl,
   _,_,_,R,_,_,V.ptr H.length [] 0 _ (zbU _ _ _),hF.into hid (fun _ _ e=>e),hR',h⟩
 ·exact h.elim

def zgI (tb:TB):List (Nat×TypeId)->Option (List (Nat×Nat))
 | []=>some []
 | (o,t) :: r=>match zp7 tb t,zgI tb r with
   | some n,some l=>some ((o,n) :: l)
   | _,_=>none

theorem zkO (ht:TBok P tb) (w:World):∀{fs:List (Nat×TypeId)} {l:List (Nat×Nat)} {fa:List Field},zgI tb fs=some l->fa.map (fun f=>(f.offset,f.type))=fs ->
  (fa.mapM fun f=>(do pure (f.offset,<- Go.sizeOf f.type):Sem (Nat×Nat))).run P w = .ok l w
 | [],l,fa,h,he=>by
   cases fa with
   | nil=>simp only [zgI,Option.some.injEq] at h; subst h; simp
   | cons x r=>simp at he
 | (o,t) :: r,l,fa,h,he=>by
   cases fa with
   | nil=>simp at he
   | cons x r' =>
     simp only [List.map_cons,List.cons.injEq,Prod.mk.injEq] at he
     obtain ⟨⟨rfl,rfl⟩,he⟩:=he
     unfold zgI at h
     split at h
     ·rename_i n l' hn hl
      cases h
      have ih:=zkO ht w hl he
      simp only [List.mapM_cons,Sem.run_bind,sizeT_ok ht hn,Result.andThen_ok,Sem.run_pure,ih]
     ·cases h

def zz2 (tb:TB) (t:TypeId) (parts:List (Nat×AV)) (K:AV->Prop):Prop:=match lk tb t with
 | some ti=>match ti.kind with
   | .struct fs=>match zgI tb fs with
     | some ps=>match zzE (fun i=>ps[i]?) (zAV ti.zero) parts with
       | some l=>K (.agg l)
       | none=>False
     | none=>False
   | .array _ e=>match zp7 tb e with
     | some es=>match zzE (fun i=>some (i*es,es)) (zAV ti.zero) parts with
       | some l=>K (.agg l)
       | none=>False
     | none=>False
   | _=>False
 | none=>False

theorem zuE (ht:TBok P tb) {t:TypeId} {parts:List (Nat×AV)} {vparts:Array (Nat×Value)} {K:AV->Prop} (he:parts.map (·.1)=vparts.toList.map (·.1))
  (hp:Ts R ids (parts.map (·.2)) (vparts.toList.map (·.2))) (h:zz2 tb t parts K):∃av v,(∀w:World,(Instr.build t vparts).run P w = .ok v w)/\V R ids av v/\K av:=by
 unfold zz2 at h
 split at h
 ·rename_i ti hl
  have hti:=ht.get hl
  obtain ⟨z,hz,hc⟩:=hti.zeroAll
  have hzv:Vs R ids (zAV ti.zero) z.cells.toList:=by rw [hc]; exact zoF _ hti.zok.1
  have hk:=hti.kind
  split at h
  ·rename_i fs hke
   rw [hke] at hk
   simp only [TK.desc] at hk
   split at h
   ·rename_i ps hps
    split at h
    ·rename_i l hf
     cases hu:P.underlying t with
     | none=>simp [hu] at hk
     | some d =>
       cases d <;> simp [hu] at hk
       rename_i fa
       obtain ⟨cs',k1,k2,_⟩:=zkA hzv he hp hf
       refine ⟨.agg l,.agg cs',fun w=>?_,by simpa using V.agg l _ k2,h⟩
       have hm:=zkO ht w hps hk
       have hm':(fa.mapM fun f=>(do pure (f.offset,<- Go.sizeOf f.type):Sem (Nat×Nat))).run P w = .ok ps.toArray w:=by
        rw [Array.mapM_eq_mapM_toList]
        simp only [Sem.run_map,hm,Result.andThen_ok]
       simp only [Instr.build,Sem.run_bind,hz,Result.andThen_ok,run_underlying hu,hm']
       have k1':Instr.fill (fun x=>ps.toArray[x]?) z.cells vparts.toList=some cs':=by simpa using k1
       simp only [k1',Sem.run_pure]
    ·exact h.elim
   ·exact h.elim
  ·rename_i n e hke
   rw [hke] at hk
   simp only [TK.desc] at hk
   split at h
   ·rename_i es hes
    split at h
    ·rename_i l hf
     obtain ⟨cs',k1,k2,_⟩:=zkA hzv he hp hf
     refine ⟨.agg l,.agg cs',fun w=>?_,by simpa using V.agg l _ k2,h⟩
     have k1':Instr.fill (fun i=>some (i*es,es)) z.cells vparts.toList=some cs':=by simpa using k1
     simp only [Instr.build,Sem.run_bind,hz,Result.andThen_ok,run_underlying hk,sizeT_ok ht hes,k1',Sem.run_pure]
    ·exact h.elim
   ·exact h.elim
  ·exact h.elim
 ·exact h.elim

theorem qnX (ht:TBok P tb) {t:TypeId} {parts:List (Nat×AV)} {vparts:Array (Nat×Value)} {K:AV->Prop} (he:parts.map (·.1)=vparts.toList.map (·.1))
  (hp:Ts R ids (parts.map (·.2)) (vparts.toList.map (·.2))) (h:zz2 tb t parts K):∃av v,(Instr.build t vparts).run P w = .ok v w/\V R ids av v/\K av :=
 let ⟨av,v,h1,h2⟩:=zuE ht he hp h
 ⟨av,v,h1 w,h2⟩

theorem qdT {z:ZL} (hz:zok z=true) {es n:Nat} (hl:(zVal z).length=es) {c:Array Value} (hc:∀j,j<es*n->c[j]? = (zVal z)[j % es]?) (hs:c.size=es*n) :
  Vs R ids [.arr es n (fun _=>zAV z)] c.toList:=by
 have e:c.toList=c.toList++[]:=by simp
 rw [e]
 refine .arr es n _ (fun _=>zVal z) [] c.toList [] (by simpa using hs) (fun i hi=>?_) (fun i hi=>zoF z hz) .nil
 have hle:i*es+es <= es*n:=by
  have:(i+1)*es <= n*es:=Nat.mul_le_mul_right _ hi
  rw [Nat.add_mul,Nat.one_mul,Nat.mul_comm n es] at this
  exact this
 apply List.ext_getElem?
 intro j
 by_cases hj:j<es
 ·rw [List.getElem?_take,if_pos hj,List.getElem?_drop,Array.getElem?_toList,hc _ (by omega)]
  congr 1
  rw [Nat.mul_comm i es,Nat.mul_add_mod,Nat.mod_eq_of_lt hj]
 ·rw [List.getElem?_take,if_neg hj,List.getElem?_eq_none (by omega)]

def zlH (tb:TB) (t:TypeId) (len:Nat) (parts:List (Nat×AV)) (F:Fr) (H:AH) (K:AV->Fr->AH->Prop):Prop:=match zfJ tb t with
 | .slice e=>match lk tb e with
   | some ti=>match len,parts with
    | 0,[]=>K (.sl H.length [] 0 ti.size 0 0 0) F (H++[.row e ti.size 0 0 (fun _=>[])])
    | len,parts=>match Nat.ble (len*ti.size) 16777216,Nat.ble 1 (len*ti.size),zzE (fun i=>some (i*ti.size,ti.size)) [.arr ti.size len (fun _=>zAV ti.zero)] parts with
     | true,true,some [.arr es n f]=>match Nat.beq es ti.size,Nat.beq n len with
       | true,true=>K (.sl H.length [] 0 ti.size 0 len len) F (H++[.row e ti.size len len f])
       | _,_=>False
     | true,true,some l=>K (.sl H.length [] 0 ti.size 0 len len) F (H++[.cells e l])
     | true,true,none=>match ti.zero with
       | .cons v .nil=>match zzE (fun i=>some (i*ti.size,ti.size)) (List.replicate len (ziY v)) parts with
         | some l=>K (.sl H.length [] 0 ti.size 0 len len) F (H++[.cells e l])
         | none=>False
       | _=>False
     | _,_,_=>False
   | none=>False
 | _=>False

theorem Vs.ones {a:AV} (ha:a.one=true):∀{cs:List Value},(∀c∈cs,V R ids a c)->Vs R ids (List.replicate cs.length a) cs
 | [],_ => .nil
 | c :: r,h => .one a c _ r ha (h c (List.mem_cons_self)) (Vs.ones ha fun c hc=>h c (List.mem_cons_of_mem _ hc))

theorem zsV (ht:TBok P tb) {t len:Nat} {parts:List (Nat×AV)} {vparts:Array (Nat×Value)} {F:Fr} {tmps:List Value} {K:AV->Fr->AH->Prop} (he:parts.map (·.1)=vparts.toList.map (·.1))
  (hp:Ts R ids (parts.map (·.2)) (vparts.toList.map (·.2))) (hF:Ts R ids F tmps) (hR:Rep W D R ids own H w) (h:zlH tb t len parts F H K) :
  ∃v w',(Instr.buildSlice t len vparts).run P w = .ok v w'/\zd7 W D tmps K v w':=by
 unfold zlH at h
 have hk:=zb5 (P:=P) ht t
 split at h
 ·rename_i e hke
  rw [hke] at hk
  simp only [TK.desc] at hk
  split at h
  ·rename_i ti hl
   have hti:=ht.get hl
   split at h
   ·have hv:vparts = #[]:=by
     apply Array.toList_inj.1
     have h0:vparts.toList.map (·.1)=[]:=he.symm
     simpa using h0
    subst hv
    have hid:∀q b,ids q=some b->upd ids H.length (some w.heap.size) q=some b:=fun q b hq=>by
     rw [zbG]; exact hq
     intro e; rw [hR.blind q (by omega)] at hq; cases hq
    have hvs:Vs R (upd ids H.length (some w.heap.size)) [.arr ti.size 0 (fun _=>[])] ((#[]:Array Value).toList.take (ti.size*0)):=by
     have:=Vs.arr (R:=R) (ids:=upd ids H.length (some w.heap.size)) ti.size 0 (fun _=>[]) (fun _=>[]) [] [] [] (by simp) (fun i hi=>by omega) (fun i hi=>by omega) .nil
     simpa using this
    have hpush:=hR.push (w':=w.alloc (.cells #[] e)) (o := .cells #[] e) (it := .row e ti.size 0 0 (fun _=>[])) rfl rfl rfl rfl
     (.inr ⟨w.heap.size,#[],zbU _ _ _,rfl,heap_alloc_new w _,Nat.le_refl _,Nat.zero_le _,by simp,hvs⟩)
    refine ⟨.slice (some ⟨w.heap.size,0,none⟩) 0 0,w.alloc (.cells #[] e),?_,_,_,_,R,_,_,V.sl H.length [] 0 ti.size 0 0 0 _ (fun hc=>absurd rfl hc) (Nat.le_refl _) (Nat.zero_le _),hF.into hid (fun _ _ e=>e),hpush.1,h⟩
    simp [Instr.buildSlice,Sem.run_bind,run_underlying hk,Result.andThen_ok,hti.sizeOf,newRow,Instr.fill]
    rw [show Array.range 0 = #[] by simp [Array.range],Array.map_empty]
   split at h
   ·rename_i es n f h1 h2 hf
    split at h
    ·rename_i b1 b2
     have e1:=Nat.eq_of_beq_eq_true b1
     have e2:=Nat.eq_of_beq_eq_true b2
     subst e2
     have hle:n*ti.size <= 16777216:=Nat.le_of_ble_eq_true h1
     have hpos:1 <= n*ti.size:=Nat.le_of_ble_eq_true h2
     obtain ⟨z,hz,hc,_⟩:=hti.zeroValue (w:=w)
     have hzs:z.cells.size=ti.size:=by
      have:=congrArg List.length hc
      simpa [hti.zok.2] using this
     have hrow:Vs R ids [.arr ti.size n (fun _=>zAV ti.zero)] ((Array.range (n*ti.size)).map (z.cells[· % z.cells.size]!)).toList:=by
      refine qdT hti.zok.1 hti.zok.2 (fun j hj=>?_) (by simp [Nat.mul_comm])
      have hp0:0<ti.size:=Nat.pos_of_ne_zero fun e=>by rw [e] at hpos; omega
      have hm:=Nat.mod_lt j hp0
      have hj':j<n*ti.size:=by rw [Nat.mul_comm]; exact hj
      rw [Array.getElem?_map,Array.getElem?_range,if_pos hj']
      simp only [Option.map_some,hzs]
      rw [<- hc]
      simp [hzs,hm]
     obtain ⟨cs',k1,k2,k3⟩:=zkA hrow he hp hf
     have hsz:cs'.size=n*ti.size:=by rw [k3]; simp
     have k1':Instr.fill (fun i=>some (i*ti.size,ti.size)) ((Array.range (n*ti.size)).map (z.cells[· % z.cells.size]!)) vparts.toList=some cs':=by rw [Array.toArray_toList] at k1; exact k1
     have hlit:¬n*ti.size>2 ^ 24:=by simpa using hle
     have h0:¬n*ti.size=0:=by omega
     have hnm:n <= maxLen:=by
      have hp0:1 <= ti.size:=Nat.pos_of_ne_zero fun e=>by rw [e] at hpos; omega
      have:n*1 <= n*ti.size:=Nat.mul_le_mul_left _ hp0
      unfold maxLen; omega
     have hid:∀q b,ids q=some b->upd ids H.length (some w.heap.size) q=some b:=fun q b hq=>by
      rw [zbG]; exact hq
      intro e; rw [hR.blind q (by omega)] at hq; cases hq
     have hpush:=hR.push (w':=w.alloc (.cells cs' e)) (o := .cells cs' e) (it := .row e ti.size n n f) rfl rfl rfl rfl
      (.inr ⟨w.heap.size,cs',zbU _ _ _,rfl,heap_alloc_new w _,Nat.le_refl _,hnm,hsz,by
       rw [List.take_of_length_le (by simp [hsz,Nat.mul_comm])]
       rw [<- e1]; exact k2.into hid (fun _ _ e=>e)⟩)
     refine ⟨.slice (some ⟨w.heap.size,0,none⟩) n n,w.alloc (.cells cs' e),?_,_,_,_,R,_,_,V.sl H.length [] 0 ti.size 0 n n _ (fun _=>⟨w.heap.size,zbU _ _ _,by simp only [poff,Nat.zero_mul,Nat.add_zero]⟩) (Nat.le_refl _) hnm,hF.into hid (fun _ _ e=>e),hpush.1,h⟩
     simp only [Instr.buildSlice,Sem.run_bind,run_underlying hk,Result.andThen_ok,hti.sizeOf,Sem.run_ite,if_neg hlit,if_neg h0,Sem.run_pure,hz,k1',newRow,run_newObj]
     rfl
    ·exact h.elim
   ·rename_i l _ h1 h2 hf
    have hle:len*ti.size <= 16777216:=Nat.le_of_ble_eq_true h1
    have hpos:1 <= len*ti.size:=Nat.le_of_ble_eq_true h2
    obtain ⟨z,hz,hc,_⟩:=hti.zeroValue (w:=w)
    have hzs:z.cells.size=ti.size:=by
     have:=congrArg List.length hc
     simpa [hti.zok.2] using this
    have hrow:Vs R ids [.arr ti.size len (fun _=>zAV ti.zero)] ((Array.range (len*ti.size)).map (z.cells[· % z.cells.size]!)).toList:=by
     refine qdT hti.zok.1 hti.zok.2 (fun j hj=>?_) (by simp [Nat.mul_comm])
     have hp0:0<ti.size:=Nat.pos_of_ne_zero fun e=>by rw [e] at hpos; omega
     have hm:=Nat.mod_lt j hp0
     have hj':j<len*ti.size:=by rw [Nat.mul_comm]; exact hj
     rw [Array.getElem?_map,Array.getElem?_range,if_pos hj']
     simp only [Option.map_some,hzs]
     rw [<- hc]
     simp [hzs,hm]
    obtain ⟨cs',k1,k2,k3⟩:=zkA hrow he hp hf
    have k1':Instr.fill (fun i=>some (i*ti.size,ti.size)) ((Array.range (len*ti.size)).map (z.cells[· % z.cells.size]!)) vparts.toList=some cs':=by rw [Array.toArray_toList] at k1; exact k1
    have hlit:¬len*ti.size>2 ^ 24:=by simpa using hle
    have h0:¬len*ti.size=0:=by omega
    have hnm:len <= maxLen:=by
     have hp0:1 <= ti.size:=Nat.pos_of_ne_zero fun e=>by rw [e] at hpos; omega
     have:len*1 <= len*ti.size:=Nat.mul_le_mul_left _ hp0
     unfold maxLen; omega
    have hid:∀q b,ids q=some b->upd ids H.length (some w.heap.size) q=some b:=fun q b hq=>by
     rw [zbG]; exact hq
     intro e; rw [hR.blind q (by omega)] at hq; cases hq
    have hpush:=hR.push (w':=w.alloc (.cells cs' e)) (o := .cells cs' e) (it := .cells e l) rfl rfl rfl rfl
     ⟨w.heap.size,cs',zbU _ _ _,rfl,heap_alloc_new w _,k2.into hid (fun _ _ e=>e)⟩
    refine ⟨.slice (some ⟨w.heap.size,0,none⟩) len len,w.alloc (.cells cs' e),?_,_,_,_,R,_,_,V.sl H.length [] 0 ti.size 0 len len _ (fun _=>⟨w.heap.size,zbU _ _ _,by simp only [poff,Nat.zero_mul,Nat.add_zero]⟩) (Nat.le_refl _) hnm,hF.into hid (fun _ _ e=>e),hpush.1,h⟩
    simp only [Instr.buildSlice,Sem.run_bind,run_underlying hk,Result.andThen_ok,hti.sizeOf,Sem.run_ite,if_neg hlit,if_neg h0,Sem.run_pure,hz,k1',newRow,run_newObj]
    rfl
   ·rename_i h1 h2 _
    split at h
    ·rename_i v hzero
     split at h
     ·rename_i l hf
      have hle:len*ti.size <= 16777216:=Nat.le_of_ble_eq_true h1
      have hpos:1 <= len*ti.size:=Nat.le_of_ble_eq_true h2
      obtain ⟨z,hz,hc,_⟩:=hti.zeroValue (w:=w)
      have hz2:=hti.zok
      rw [hzero] at hc hz2
      simp only [zVal] at hc hz2
      have hsize:ti.size=1:=by have:=hz2.2; simp at this; omega
      have hone:(ziY v).one=true:=by have:=hz2.1; simp only [zok,Bool.and_eq_true] at this; exact this.1
      have hzs:z.cells = #[v]:=by
       have:=congrArg List.toArray hc
       simpa using this
      have hlen:((Array.range (len*ti.size)).map (z.cells[· % z.cells.size]!)).toList.length=len:=by simp [hsize]
      have hrow:Vs R ids (List.replicate len (ziY v)) ((Array.range (len*ti.size)).map (z.cells[· % z.cells.size]!)).toList:=by
       have:=Vs.ones (R:=R) (ids:=ids) hone (cs:=((Array.range (len*ti.size)).map (z.cells[· % z.cells.size]!)).toList) (fun c hcm=>by
        rw [Array.toList_map,List.mem_map] at hcm
        obtain ⟨j,_,rfl⟩:=hcm
        simp only [hzs]
        have:j % #[v].size=0:=by simp [Nat.mod_one]
        rw [this]
        exact znO v)
       rwa [hlen] at this
      obtain ⟨cs',k1,k2,k3⟩:=zkA hrow he hp hf
      have hsz:cs'.size=len*ti.size:=by rw [k3]; simp
      have k1':Instr.fill (fun i=>some (i*ti.size,ti.size)) ((Array.range (len*ti.size)).map (z.cells[· % z.cells.size]!)) vparts.toList=some cs':=by rw [Array.toArray_toList] at k1; exact k1
      have hlit:¬len*ti.size>2 ^ 24:=by simpa using hle
      have h0:¬len*ti.size=0:=by omega
      have hnm:len <= maxLen:=by rw [hsize] at hle; unfold maxLen; omega
      have hid:∀q b,ids q=some b->upd ids H.length (some w.heap.size) q=some b:=fun q b hq=>by
       rw [zbG]; exact hq
       intro e; rw [hR.blind q (by omega)] at hq; cases hq
      have hpush:=hR.push (w':=w.alloc (.cells cs' e)) (o := .cells cs' e) (it := .cells e l) rfl rfl rfl rfl
       ⟨w.heap.size,cs',zbU _ _ _,rfl,heap_alloc_new w _,k2.into hid (fun _ _ e=>e)⟩
      refine ⟨.slice (some ⟨w.heap.size,0,none⟩) len len,w.alloc (.cells cs' e),?_,_,_,_,R,_,_,V.sl H.length [] 0 ti.size 0 len len _ (fun _=>⟨w.heap.size,zbU _ _ _,by simp only [poff,Nat.zero_mul,Nat.add_zero]⟩) (Nat.le_refl _) hnm,hF.into hid (fun _ _ e=>e),hpush.1,h⟩
      simp only [Instr.buildSlice,Sem.run_bind,run_underlying hk,Result.andThen_ok,hti.sizeOf,Sem.run_ite,if_neg hlit,if_neg h0,Sem.run_pure,hz,k1',newRow,run_newObj]
      rfl
     ·exact h.elim
    ·exact h.elim
   ·exact h.elim
  ·exact h.elim
 ·exact h.elim

end Go.Sx
