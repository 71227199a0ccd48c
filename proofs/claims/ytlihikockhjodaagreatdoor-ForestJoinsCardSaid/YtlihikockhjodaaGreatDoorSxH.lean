import Derived.Test.YtlihikockhjodaaGreatDoorSxG

namespace Go.Sx
variable {W W':Base} {D D':Nat->Prop} {R R':Nat->Option Obj} {ids ids' own own':Nat->Option Nat} {P:Program} {tb:TB} {w w':World} {H H':AH}

def zvD (H:AH) (p:Nat) (path:List (Nat×Nat×Nat)) (off m:Nat) (new:List AV) (k:AH->Prop):Prop:=match H[p]? with
 | some (.cells T l)=>ztM l path off m new (fun s=>k (H.set p (.cells T s)))
 | some (.row T es cap n f)=>ztM [.arr es n f] path off m new (fun s=>match s with
   | [.arr es' n' f']=>match Nat.beq es es' with
     | true=>n=n'/\k (H.set p (.row T es cap n f'))
     | false=>False
   | _=>False)
 | _=>False

def fset (f:Nat->List AV) (lo m:Nat) (g:Nat->List AV):Nat->List AV:=fun i=>if lo <= i/\i<lo+m then g (i-lo) else f i

theorem ziT {b:Nat} {cur:Array Value} {T:TypeId} (hb:w.heap[b]? = some (.cells cur T (0,0))) {o:Nat} {c:List Value} (ho:o+c.length <= cur.size) (h1:∀v∈c,v.oneCell'=true) :
  ∃w',(storeCells ⟨b,o,none⟩ c).run P w = .ok () w'/\w'.heap.size=w.heap.size/\(∀k,k≠b->w'.heap[k]? = w.heap[k]?)/\w'.os=w.os/\w'.tape=w.tape/\w'.output=w.output /\
   w'.heap[b]? = some (.cells (cur.toList.take o++(c++cur.toList.drop (o+c.length))).toArray T (0,0)):=by
 have h:=run_storeCells_at P b o T c 0 cur w hb (by omega) h1
 refine ⟨_,h,by simp,fun k hk=>setRow_other w b k _ hk,rfl,rfl,rfl,?_⟩
 rw [setRow_heap w b cur _ T (0,0) hb]
 simp [List.append_assoc]

theorem ztF (hR:Rep W D R ids own H w) {p b:Nat} {path:List (Nat×Nat×Nat)} {off m:Nat} {new:List AV} {c:List Value} {k:AH->Prop} (hb:ids p=some b) (hn:Vs R ids new c)
  (hflat:path≠[]->Vs R noIds new c) (hc:c.length=m) (h:zvD H p path off m new k) :
  ∃w' H',(storeCells ⟨b,poff path+off,none⟩ c).run P w = .ok () w'/\Rep W D R ids own H' w'/\k H':=by
 unfold zvD at h
 split at h
 ·rename_i T l hp
  obtain ⟨b',cs,e,hs,hw,hv⟩:=hR.items p _ hp
  rw [hb] at e; cases e
  obtain ⟨s,hk,g1,g2⟩:=zq2 hv hn hflat hc h
  obtain ⟨w',k1,k2,k3,k4,k5,k6,k7⟩:=ziT (P:=P) hw (o:=poff path+off) (c:=c) (by rw [hc]; simpa using g2) hn.oneCell
  refine ⟨w',_,k1,hR.put (by simp) (by rw [hp]; simp) (it := .cells T s) hs k2 k3 k4 k5 k6 ⟨b,_,hb,hs,k7,?_⟩,hk⟩
  rw [hc]; exact g1
 ·rename_i T es cap n f hp
  rcases hR.items p _ hp with ⟨e,_,_⟩ | ⟨b',cur,e,hs,hw,hnc,hcm,hcs,hv⟩
  ·rw [hb] at e; cases e
  rw [hb] at e; cases e
  obtain ⟨s,hk,g1,g2⟩:=zq2 hv hn hflat hc h
  split at hk
  ·rename_i es' n' f'
   split at hk
   ·rename_i b1
    have e1:=Nat.eq_of_beq_eq_true b1
    subst e1
    obtain ⟨e2,hk⟩:=hk
    subst e2
    have hle:es*n <= cur.size:=by rw [hcs,Nat.mul_comm es n]; exact Nat.mul_le_mul_right _ hnc
    simp only [List.length_take,Array.length_toList] at g2
    obtain ⟨w',k1,k2,k3,k4,k5,k6,k7⟩:=ziT (P:=P) hw (o:=poff path+off) (c:=c) (by rw [hc]; omega) hn.oneCell
    refine ⟨w',_,k1,hR.put (by simp) (by rw [hp]; simp) (it := .row T es cap n f') hs k2 k3 k4 k5 k6 (.inr ⟨b,_,hb,hs,k7,hnc,hcm,?_,?_⟩),hk⟩
    ·simp only [List.size_toArray,List.length_append,List.length_take,List.length_drop,Array.length_toList,hc]; omega
    ·have e:(cur.toList.take (poff path+off)++(c++cur.toList.drop (poff path+off+c.length))).toArray.toList.take (es*n) =
       (cur.toList.take (es*n)).take (poff path+off)++(c++(cur.toList.take (es*n)).drop (poff path+off+m)):=by
      rw [hc]
      apply List.ext_getElem?
      intro q
      simp only [List.getElem?_append,List.getElem?_take,List.getElem?_drop,List.length_take,Array.length_toList,hc]
      repeat' split
      all_goals first
       | omega
       | rfl
       | (congr 1; omega)
       | (rw [List.getElem?_eq_none]; simp; omega)
       | (symm; rw [List.getElem?_eq_none]; simp; omega)
     rw [e]; exact g1
   ·exact hk.elim
  ·exact hk.elim
 ·exact h.elim

def qeZ (H:AH) (p:Nat) (path:List (Nat×Nat×Nat)) (off m:Nat) (new:List AV) (k:AH->Prop):Prop:=match Nat.beq (zf5 new) m,path,new.all AV.flat with
 | true,[],_=>zvD H p [] off m new k
 | true,q :: r,true=>zvD H p (q :: r) off m new k
 | _,_,_=>False
def qnH (tb:TB) (t:TypeId) (a x:AV) (H:AH) (k:AH->Prop):Prop:=match zp7 tb t,zzO x,a with
 | some m,some new,.ptr p path off=>qeZ H p (flatAt H p path off).1 (flatAt H p path off).2 m new k
 | _,_,_=>False

theorem qnG (ht:TBok P tb) {t:TypeId} {a x:AV} {va vx:Value} {k:AH->Prop} (ha:V R ids a va) (hx:V R ids x vx) (hR:Rep W D R ids own H w) (h:qnH tb t a x H k) :
  ∃w' H',(Instr.storeAt t va vx).run P w = .ok () w'/\Rep W D R ids own H' w'/\k H':=by
 unfold qnH at h
 split at h
 ·rename_i m new p path off hm hc
  have hn:=zr3 hx hc
  obtain ⟨b,hb,rfl⟩:=ha.ptr_some
  rw [<- zzB H p path off]
  generalize flatAt H p path off=fl at h ⊢
  obtain ⟨path,off⟩:=fl
  simp only at h ⊢
  unfold qeZ at h
  have run:∀{w':World},vx.cells.toList.length=m->(storeCells ⟨b,poff path+off,none⟩ vx.cells.toList).run P w = .ok () w' ->
    (Instr.storeAt t (.pointer (some ⟨b,poff path+off,none⟩)) vx).run P w = .ok () w':=fun hl hr=>by
   have hl':vx.cells.size=m:=by simpa using hl
   simp [Instr.storeAt,Instr.sureAddr,storeVar,sizeT_ok ht hm,hl',hr]
  split at h
  ·rename_i hs
   have hl:vx.cells.toList.length=m:=by rw [hn.length]; exact Nat.eq_of_beq_eq_true hs
   obtain ⟨w',H',k1,k2,k3⟩:=ztF (P:=P) hR hb hn (fun e=>absurd rfl e) hl h
   exact ⟨w',H',run hl k1,k2,k3⟩
  ·rename_i q r hs hf
   have hl:vx.cells.toList.length=m:=by rw [hn.length]; exact Nat.eq_of_beq_eq_true hs
   obtain ⟨w',H',k1,k2,k3⟩:=ztF (P:=P) hR hb hn (fun _=>hn.unbound hf) hl h
   exact ⟨w',H',run hl k1,k2,k3⟩
  ·exact h.elim
 ·exact h.elim

def aMake (tb:TB) (t:TypeId) (l c:AV) (F:Fr) (H:AH) (K:AV->Fr->AH->Prop):Prop:=match zfJ tb t,l,c with
 | .slice e,.int _ x,.int _ y=>match lk tb e with
   | some ti=>match Nat.ble 1 ti.size with
     | true=>(0 <= x/\x <= y/\(ti.bytes:Int)*y <= 281474976710656/\y <= 9223372036854775807) /\
       K (.sl H.length [] 0 ti.size 0 x.toNat y.toNat) F (H++[.row e ti.size y.toNat x.toNat (fun _=>zAV ti.zero)])
     | false=>False
   | none=>False
 | _,_,_=>False

theorem Vs.arr_le {es n m:Nat} {f:Nat->List AV} {c:List Value} (h:Vs R ids [.arr es n f] c) (hm:m <= n):Vs R ids [.arr es m f] (c.take (es*m)):=by
 cases h with
 | one _ _ _ _ h1=>simp [AV.one] at h1
 | arr es n f cs as ws vs h1 h2 h3 h4 =>
   cases h4
   rw [List.append_nil]
   have hle:es*m <= es*n:=Nat.mul_le_mul_left _ hm
   have e:ws.take (es*m)=ws.take (es*m)++[]:=by simp
   rw [e]
   refine .arr es m f cs [] _ [] (by rw [List.length_take]; omega) (fun i hi=>?_) (fun i hi=>h3 i (by omega)) .nil
   rw [<- h2 i (by omega),List.drop_take,List.take_take]
   congr 1
   have:(i+1)*es <= m*es:=Nat.mul_le_mul_right _ hi
   rw [Nat.add_mul,Nat.one_mul,Nat.mul_comm m es] at this
   omega

theorem qqZ (ht:TBok P tb) {t:TypeId} {l c:AV} {vl vc:Value} {F:Fr} {tmps:List Value} {K:AV->Fr->AH->Prop} (hl:V R ids l vl) (hc:V R ids c vc) (hF:Ts R ids F tmps)
  (hR:Rep W D R ids own H w) (h:aMake tb t l c F H K):∃v w',(Instr.makeSlice t vl vc).run P w = .ok v w'/\zd7 W D tmps K v w':=by
 unfold aMake at h
 have hk:=zb5 (P:=P) ht t
 split at h
 ·rename_i e kx x ky y hke
  rw [hke] at hk
  simp only [TK.desc] at hk
  obtain rfl:=hl.int_inv
  obtain rfl:=hc.int_inv
  split at h
  ·rename_i ti hlk
   have hti:=ht.get hlk
   split at h
   ·rename_i hpos
    have hpos':1 <= ti.size:=Nat.le_of_ble_eq_true hpos
    obtain ⟨⟨h0,hxy,hby,h63⟩,hK⟩:=h
    obtain ⟨z,hz,hzc,i,hi,hiz,his,hib⟩:=hti.zeroValue (w:=w)
    have hzs:z.cells.size=ti.size:=by
     have:=congrArg List.length hzc
     simpa [hti.zok.2] using this
    have hrun:=run_make (P:=P) w t e i z hk hi hiz kx ky x y h0 hxy (by rw [hib]; exact hby) h63
    have hid:∀q b,ids q=some b->upd ids H.length (some w.heap.size) q=some b:=fun q b hq=>by
     rw [zbG]; exact hq
     intro e; rw [hR.blind q (by omega)] at hq; cases hq
    have hrow:Vs R (upd ids H.length (some w.heap.size)) [.arr ti.size y.toNat (fun _=>zAV ti.zero)] (madeCells z.cells (y.toNat*i.size)).toList:=by
     refine qdT hti.zok.1 hti.zok.2 (fun j hj=>?_) (by rw [size_madeCells,his,Nat.mul_comm])
     have hm:=Nat.mod_lt j hpos'
     have hj':j<y.toNat*i.size:=by rw [his,Nat.mul_comm]; exact hj
     unfold madeCells
     rw [Array.getElem?_map,Array.getElem?_range,if_pos hj']
     simp only [Option.map_some,hzs]
     rw [<- hzc]
     simp [hzs,hm]
    have hn:x.toNat <= y.toNat:=by omega
    have hcm:y.toNat <= maxLen:=by unfold maxLen; omega
    have hpush:=hR.push (w':=w.alloc (.cells (madeCells z.cells (y.toNat*i.size)) e)) (o := .cells (madeCells z.cells (y.toNat*i.size)) e) (it := .row e ti.size y.toNat x.toNat (fun _=>zAV ti.zero)) rfl rfl rfl rfl
     (.inr ⟨w.heap.size,_,zbU _ _ _,rfl,heap_alloc_new w _,hn,hcm,by rw [size_madeCells,his],hrow.arr_le hn⟩)
    exact ⟨_,_,hrun,_,_,_,R,_,_,V.sl H.length [] 0 ti.size 0 x.toNat y.toNat _ (fun _=>⟨w.heap.size,zbU _ _ _,by simp only [poff,Nat.zero_mul,Nat.add_zero]⟩) hn hcm,hF.into hid (fun _ _ e=>e),hpush.1,hK⟩
   ·exact h.elim
  ·exact h.elim
 ·exact h.elim

end Go.Sx
