import Derived.Test.YtlihikockhjodaaGreatDoorSxJ

namespace Go.Sx
variable {W W':Base} {D D':Nat->Prop} {R R':Nat->Option Obj} {ids ids' own own':Nat->Option Nat} {P:Program} {tb:TB} {w w':World} {H H':AH}

theorem Vs.run_put {es n lo k:Nat} {f g:Nat->List AV} {as:List AV} {c d:List Value} (h:Vs R ids (.arr es n f :: as) c) (hk:Vs R noIds [.arr es k g] d) (hle:lo+k <= n) :
  Vs R ids (.arr es n (fset f lo k g) :: as) (c.take (lo*es)++(d++c.drop (lo*es+k*es)))/\lo*es+k*es <= c.length/\d.length=k*es:=by
 cases h with
 | one _ _ _ _ h1=>simp [AV.one] at h1
 | arr _ _ _ cs _ ws vs h1 h2 h3 h4 =>
 cases hk with
 | one _ _ _ _ h1=>simp [AV.one] at h1
 | arr _ _ _ ds _ us vs' k1 k2 k3 k4 =>
 cases k4
 rw [List.append_nil]
 have hl:lo*es+k*es <= es*n:=by rw [<- Nat.add_mul,Nat.mul_comm es n]; exact Nat.mul_le_mul_right _ hle
 have hus:us.length=k*es:=by rw [k1,Nat.mul_comm]
 refine ⟨?_,by rw [List.length_append,h1]; omega,hus⟩
 have e:(ws++vs).take (lo*es)++(us++(ws++vs).drop (lo*es+k*es))=(ws.take (lo*es)++(us++ws.drop (lo*es+k*es)))++vs:=by
  rw [List.take_append_of_le_length (by omega),List.drop_append_of_le_length (by omega)]
  simp [List.append_assoc]
 rw [e]
 refine .arr es n _ (fun i=>if lo <= i/\i<lo+k then ds (i-lo) else cs i) as _ vs (by simp only [List.length_append,List.length_take,List.length_drop,h1,hus]; omega) (fun i hi=>?_) (fun i hi=>?_) h4
 ·have hie:i*es+es <= es*n:=by
   have:(i+1)*es <= n*es:=Nat.mul_le_mul_right _ hi
   rw [Nat.add_mul,Nat.one_mul,Nat.mul_comm n es] at this
   exact this
  by_cases hc:lo <= i/\i<lo+k
  ·simp only [if_pos hc]
   rw [<- k2 (i-lo) (by omega)]
   have a1:lo*es <= i*es:=Nat.mul_le_mul_right _ hc.1
   have a2:i*es+es <= lo*es+k*es:=by
    have:(i+1)*es <= (lo+k)*es:=Nat.mul_le_mul_right _ hc.2
    rw [Nat.add_mul,Nat.one_mul,Nat.add_mul] at this
    exact this
   have a3:(i-lo)*es=i*es-lo*es:=Nat.sub_mul _ _ _
   apply List.ext_getElem?
   intro j
   by_cases hj:j<es
   ·simp only [List.getElem?_take,if_pos hj,List.getElem?_drop,List.getElem?_append,List.length_take,h1,hus]
    have b1:min (lo*es) (es*n)=lo*es:=by omega
    rw [b1,if_neg (by omega),if_pos (by omega),a3]
    congr 1; omega
   ·simp only [List.getElem?_take,if_neg hj]
  ·simp only [if_neg hc]
   rw [<- h2 i hi]
   apply List.ext_getElem?
   intro j
   by_cases hj:j<es
   ·simp only [List.getElem?_take,if_pos hj,List.getElem?_drop,List.getElem?_append,List.length_take,h1,hus]
    have b1:min (lo*es) (es*n)=lo*es:=by omega
    rw [b1]
    by_cases hlt:i<lo
    ·have:i*es+es <= lo*es:=by
      have:(i+1)*es <= lo*es:=Nat.mul_le_mul_right _ hlt
      rw [Nat.add_mul,Nat.one_mul] at this; exact this
     rw [if_pos (by omega),if_pos (by omega)]
    ·have:lo*es+k*es <= i*es:=by rw [<- Nat.add_mul]; exact Nat.mul_le_mul_right _ (by omega)
     rw [if_neg (by omega),if_neg (by omega)]
     congr 1; omega
   ·simp only [List.getElem?_take,if_neg hj]
 ·unfold fset
  by_cases hc:lo <= i/\i<lo+k
  ·simp only [if_pos hc]; exact k3 _ (by omega)
  ·simp only [if_neg hc]; exact h3 i hi

def zgV (H:AH) (p off es lo k:Nat) (g:Nat->List AV) (K:AH->Prop):Prop:=match H[p]? with
 | some (.cells T l)=>match za7 l off,zcN l off with
   | some a,some (.arr es' n f :: r)=>match Nat.beq es es' with
     | true=>lo+k <= n/\K (H.set p (.cells T (a++(.arr es n (fset f lo k g) :: r))))
     | false=>False
   | _,_=>False
 | some (.row T es' cap n f)=>match Nat.beq es es',off with
   | true,0=>lo+k <= n/\K (H.set p (.row T es cap n (fset f lo k g)))
   | _,_=>False
 | _=>False

theorem zjU (hR:Rep W D R ids own H w) {p b off es lo k:Nat} {g:Nat->List AV} {d:List Value} {K:AH->Prop} (hb:ids p=some b) (hd:Vs R noIds [.arr es k g] d)
  (h:zgV H p off es lo k g K):∃w' H',(storeCells ⟨b,off+lo*es,none⟩ d).run P w = .ok () w'/\Rep W D R ids own H' w'/\K H':=by
 unfold zgV at h
 split at h
 ·rename_i T l hp
  obtain ⟨b',cs,e,hs,hw,hv⟩:=hR.items p _ hp
  rw [hb] at e; cases e
  split at h
  ·rename_i a es' n f r ht hdr
   split at h
   ·rename_i hbe
    have e1:=Nat.eq_of_beq_eq_true hbe
    subst e1
    obtain ⟨hle,hK⟩:=h
    obtain ⟨t1,t2⟩:=ze4 hv ht
    obtain ⟨d1,d2⟩:=zcQ hv hdr
    obtain ⟨g1,g2,g3⟩:=d1.run_put hd hle
    simp only [List.length_drop,Array.length_toList] at g2 d2
    obtain ⟨w',k1,k2,k3,k4,k5,k6,k7⟩:=ziT (P:=P) hw (o:=off+lo*es) (c:=d) (by rw [g3]; omega) hd.oneCell
    refine ⟨w',_,k1,hR.put (by simp) (by rw [hp]; simp) (it := .cells T (a++(.arr es n (fset f lo k g) :: r))) hs k2 k3 k4 k5 k6 ⟨b,_,hb,hs,k7,?_⟩,hK⟩
    have:=t1.append g1
    have e:cs.toList.take off++((cs.toList.drop off).take (lo*es)++(d++(cs.toList.drop off).drop (lo*es+k*es))) =
      (cs.toList.take (off+lo*es)++(d++cs.toList.drop (off+lo*es+d.length))):=by
     rw [List.take_add,List.append_assoc,List.drop_drop,g3,Nat.add_assoc]
    rw [<- e]; exact this
   ·exact h.elim
  ·exact h.elim
 ·rename_i T es' cap n f hp
  split at h
  ·rename_i hbe
   have e1:=Nat.eq_of_beq_eq_true hbe
   subst e1
   obtain ⟨hle,hK⟩:=h
   rcases hR.items p _ hp with ⟨e,_,_⟩ | ⟨b',cur,e,hs,hw,hnc,hcm,hcs,hv⟩
   ·rw [hb] at e; cases e
   rw [hb] at e; cases e
   obtain ⟨g1,g2,g3⟩:=hv.run_put hd hle
   have hen:es*n <= cur.size:=by rw [hcs,Nat.mul_comm]; exact Nat.mul_le_mul_right _ hnc
   simp only [List.length_take,Array.length_toList] at g2
   obtain ⟨w',k1,k2,k3,k4,k5,k6,k7⟩:=ziT (P:=P) hw (o:=0+lo*es) (c:=d) (by rw [g3]; omega) hd.oneCell
   refine ⟨w',_,k1,hR.put (by simp) (by rw [hp]; simp) (it := .row T es cap n (fset f lo k g)) hs k2 k3 k4 k5 k6 (.inr ⟨b,_,hb,hs,k7,hnc,hcm,?_,?_⟩),hK⟩
   ·simp only [List.size_toArray,List.length_append,List.length_take,List.length_drop,Array.length_toList,g3]; omega
   ·have e:(cur.toList.take (0+lo*es)++(d++cur.toList.drop (0+lo*es+d.length))).toArray.toList.take (es*n) =
      (cur.toList.take (es*n)).take (lo*es)++(d++(cur.toList.take (es*n)).drop (lo*es+k*es)):=by
     rw [g3]
     apply List.ext_getElem?
     intro q
     simp only [Nat.zero_add,List.getElem?_append,List.getElem?_take,List.getElem?_drop,List.length_take,Array.length_toList,g3]
     repeat' split
     all_goals first
      | omega
      | rfl
      | (congr 1; omega)
      | (rw [List.getElem?_eq_none]; simp; omega)
      | (symm; rw [List.getElem?_eq_none]; simp; omega)
    rw [e]; exact g1
  ·exact h.elim
 ·exact h.elim

def aCopy (tb:TB) (t xt:TypeId) (s x:AV) (F:Fr) (H:AH) (K:AV->Fr->AH->Prop):Prop:=match zfJ tb t with
 | .slice e=>match lk tb e with
   | some ti=>match Nat.ble 1 ti.size with
     | true=>srcC tb H xt ti.size x (fun m g=>match s with
       | .nils=>K (.int .i64 0) F H
       | .sl p [] off es lo n _=>match Nat.beq es ti.size with
         | true=>zgV H p off ti.size lo (min m n) g (fun H'=>K (.int .i64 (min m n:Nat)) F H')
         | false=>False
       | _=>False)
     | false=>False
   | none=>False
 | _=>False

theorem qq1 (ht:TBok P tb) {t xt ty:TypeId} {s x:AV} {vs vx:Value} {F:Fr} {tmps:List Value} {K:AV->Fr->AH->Prop} (hs:V R ids s vs) (hx:V R ids x vx) (hF:Ts R ids F tmps)
  (hR:Rep W D R ids own H w) (h:aCopy tb t xt s x F H K):∃v w',(Builtin.copy_ #[t,xt] ty #[vs,vx]).run P w = .ok v w'/\zd7 W D tmps K v w':=by
 unfold aCopy at h
 have hk:=zb5 (P:=P) ht t
 split at h
 ·rename_i e hke
  rw [hke] at hk
  simp only [TK.desc] at hk
  split at h
  ·rename_i ti hlk
   have hti:=ht.get hlk
   split at h
   ·rename_i hpos
    have hes:1 <= ti.size:=Nat.le_of_ble_eq_true hpos
    obtain ⟨hxt,m,g,news,hh,src⟩:=qiU ht hR hes hx h
    clear h
    have h:=hh
    clear hh
    split at h
    ·obtain rfl:=hs.nils_inv
     have hf:=src.some 0 (Nat.zero_le _) w rfl
     simp only [Nat.zero_mul,List.take_zero] at hf
     refine ⟨.int .i64 0,w,?_,_,_,_,R,ids,own,.int _ _,hF,hR,h⟩
     simp [Builtin.copy_,run_underlying hk,src.len,hti.sizeOf,hf,goInt]
    ·rename_i p off es lo n cap
     split at h
     ·rename_i hb1
      have e1:=Nat.eq_of_beq_eq_true hb1
      subst e1
      cases hs with
      | sl _ _ _ _ _ _ _ a k1 k2 k3 =>
      have hmin:Nat.min m n=min m n:=rfl
      have hf:=src.some (min m n) (Nat.min_le_left _ _) w rfl
      by_cases hc0:cap=0
      ·have hn0:n=0:=by omega
       subst hn0
       rw [Nat.min_zero] at hf h
       simp only [Nat.zero_mul,List.take_zero] at hf
       have hid:∀{K:AH->Prop},zgV H p off ti.size lo 0 g K->∃H',Rep W D R ids own H' w/\K H':=by
        intro K h0
        unfold zgV at h0
        split at h0
        ·rename_i T l hp
         obtain ⟨b',cs,e,hs',hw,hv⟩:=hR.items p _ hp
         have hd:Vs R noIds [.arr ti.size 0 g] [] := .arr ti.size 0 g (fun _=>[]) [] [] [] (by simp) (fun i hi=>absurd hi (Nat.not_lt_zero _)) (fun i hi=>absurd hi (Nat.not_lt_zero _)) .nil
         have hr:zgV H p off ti.size lo 0 g K:=by unfold zgV; rw [hp]; exact h0
         obtain ⟨w',H',q1,q2,q3⟩:=zjU (P:=P) hR e hd hr
         simp [storeCells] at q1
         subst q1
         exact ⟨H',q2,q3⟩
        ·rename_i T es' capr n' f hp
         rcases hR.items p _ hp with ⟨q1,q2,q3⟩ | ⟨b',cur,e,hs',_⟩
         ·split at h0
          ·rename_i hbe
           have e1:=Nat.eq_of_beq_eq_true hbe
           subst e1
           have hplt:p<H.length:=by
            rcases Nat.lt_or_ge p H.length with hlt | hge
            ·exact hlt
            ·rw [List.getElem?_eq_none hge] at hp; cases hp
           refine ⟨_,⟨hR.os,hR.tape,hR.output,hR.size,by simpa using hR.owns,hR.keep,hR.ro,fun q it hq=>?_,by simpa using hR.blind,hR.low,hR.high,fun q' b' hq'=>⟨(hR.pins q' b' hq').1,by rw [List.getElem?_set_ne (fun e=>by subst e; have:=(hR.pins _ b' hq').2; rw [hp] at this; cases this)]; exact (hR.pins q' b' hq').2⟩,fun h=>hR.stay (zmQ (by simp) h)⟩,h0.2⟩
           by_cases e:q=p
           ·subst e
            rw [List.getElem?_set_self hplt] at hq; cases hq; exact .inl ⟨q1,q2,q3⟩
           ·rw [List.getElem?_set_ne (fun e'=>e e'.symm)] at hq
            exact hR.items q it hq
          ·exact h0.elim
         ·have hd:Vs R noIds [.arr ti.size 0 g] [] := .arr ti.size 0 g (fun _=>[]) [] [] [] (by simp) (fun i hi=>absurd hi (Nat.not_lt_zero _)) (fun i hi=>absurd hi (Nat.not_lt_zero _)) .nil
          have hr:zgV H p off ti.size lo 0 g K:=by unfold zgV; rw [hp]; exact h0
          obtain ⟨w',H',q1,q2,q3⟩:=zjU (P:=P) hR e hd hr
          simp [storeCells] at q1
          subst q1
          exact ⟨H',q2,q3⟩
        ·exact h0.elim
       obtain ⟨H',r1,r2⟩:=hid h
       refine ⟨.int .i64 0,w,?_,_,_,_,R,ids,own,.int _ _,hF,r1,by simpa using r2⟩
       cases a <;> simp [Builtin.copy_,run_underlying hk,src.len,hti.sizeOf,hf,goInt,storeCells]
      ·obtain ⟨b,hb,rfl⟩:=k1 hc0
       have hd:=Vs.arr_le (m:=min m n) (src.vs noIds) (Nat.min_le_left _ _)
       rw [Nat.mul_comm] at hd
       obtain ⟨w',H',q1,q2,q3⟩:=zjU (P:=P) hR hb hd h
       refine ⟨.int .i64 (min m n:Nat),w',?_,_,_,_,R,ids,own,.int _ _,hF,q2,q3⟩
       simp only [poff,Nat.zero_add]
       simp [Builtin.copy_,run_underlying hk,src.len,hti.sizeOf,hmin,hf,q1,goInt]
     ·exact h.elim
    ·exact h.elim
   ·exact h.elim
  ·exact h.elim
 ·exact h.elim

def qnW (tb:TB) (t:TypeId) (s:AV) (F:Fr) (H:AH) (K:AV->Fr->AH->Prop):Prop:=match zfJ tb t with
 | .slice e=>match lk tb e with
   | some ti=>match s with
     | .sl p [] off es lo n _=>match Nat.beq es ti.size with
       | true=>match Nat.ble 1 ti.size with
         | true=>0<n/\zgV H p off es lo n (fun _=>zAV ti.zero) (fun H'=>K (.tup []) F H')
         | false=>False
       | false=>False
     | _=>False
   | none=>False
 | _=>False

theorem qnV (ht:TBok P tb) {t ty:TypeId} {s:AV} {vs:Value} {F:Fr} {tmps:List Value} {K:AV->Fr->AH->Prop} (hs:V R ids s vs) (hF:Ts R ids F tmps)
  (hR:Rep W D R ids own H w) (h:qnW tb t s F H K):∃v w',(Builtin.clear_ #[t] ty #[vs]).run P w = .ok v w'/\zd7 W D tmps K v w':=by
 unfold qnW at h
 have hk:=zb5 (P:=P) ht t
 split at h
 ·rename_i e hke
  rw [hke] at hk
  simp only [TK.desc] at hk
  split at h
  ·rename_i ti hlk
   have hti:=ht.get hlk
   split at h
   ·rename_i p off es lo n cap
    split at h
    ·rename_i hb1
     have e1:=Nat.eq_of_beq_eq_true hb1
     subst e1
     split at h
     ·rename_i hpos
      have hes:1 <= ti.size:=Nat.le_of_ble_eq_true hpos
      obtain ⟨hn,h⟩:=h
      cases hs with
      | sl _ _ _ _ _ _ _ a k1 k2 k3 =>
      obtain ⟨b,hb,rfl⟩:=k1 (by omega)
      obtain ⟨z,hz,hzc,i,hi,hiz,his,hib⟩:=hti.zeroValue (w:=w)
      have hzs:z.cells.size=ti.size:=by
       have:=congrArg List.length hzc
       simpa [hti.zok.2] using this
      have hd:Vs R noIds [.arr ti.size n (fun _=>zAV ti.zero)] (Builtin.zeroCells z.cells n).toList:=by
       refine qdT hti.zok.1 hti.zok.2 (fun j hj=>?_) (by unfold Builtin.zeroCells; simp [hzs,Nat.mul_comm])
       have hm:=Nat.mod_lt j hes
       have hj':j<n*z.cells.size:=by rw [hzs,Nat.mul_comm]; exact hj
       unfold Builtin.zeroCells
       rw [Array.getElem?_map,Array.getElem?_range,if_pos hj']
       simp only [Option.map_some,hzs]
       rw [<- hzc]
       simp [hzs,hm]
      obtain ⟨w',H',q1,q2,q3⟩:=zjU (P:=P) hR hb hd h
      refine ⟨.tuple #[],w',?_,_,_,_,R,ids,own,.tup [] [] .nil,hF,q2,q3⟩
      obtain ⟨m,rfl⟩:∃m,n=m+1:=⟨n-1,by omega⟩
      simp only [poff,Nat.zero_add]
      simp [Builtin.clear_,run_underlying hk,hz,q1]
     ·exact h.elim
    ·exact h.elim
   ·exact h.elim
  ·exact h.elim
 ·exact h.elim

def aOct (tb:TB) (s d:TypeId) (a:AV) (F:Fr) (H:AH) (K:AV->Fr->AH->Prop):Prop:=match zfJ tb s,zfJ tb d,a with
 | .str,.slice e,.str l=>match zfJ tb e with
   | .int .u8=>l.length <= 9223372036854775807/\∀cap,Cap l.length cap->K (.sl H.length [] 0 1 0 l.length cap) F (H++[.view 1 l.length (fun i=>[.int .u8 (l.getD i 0)])])
   | _=>False
 | _,_,_=>False

theorem aOct_ok (ht:TBok P tb) {s d:TypeId} {a:AV} {va:Value} {F:Fr} {tmps:List Value} {K:AV->Fr->AH->Prop} (ha:V R ids a va) (hF:Ts R ids F tmps) (hR:Rep W D R ids own H w)
  (h:aOct tb s d a F H K):∃v w',(convert s d va).run P w = .ok v w'/\zd7 W D tmps K v w':=by
 unfold aOct at h
 have hs:=zb5 (P:=P) ht s
 have hd:=zb5 (P:=P) ht d
 split at h
 ·rename_i e l h1 h2
  rw [h1] at hs; rw [h2] at hd
  simp only [TK.desc] at hs hd
  split at h
  ·rename_i he
   have he':=zb5 (P:=P) ht e
   rw [he] at he'
   simp only [TK.desc] at he'
   obtain ⟨ho,rfl⟩:=ha.str_inv
   obtain ⟨hlen,hK⟩:=h
   have hcg:=grownCap_ge w l.length 0 e
   have hcm:=grownCap_le_maxLen w l.length 0 e (by unfold maxLen; omega)
   have hid:∀q b,ids q=some b->upd ids H.length (some w.heap.size) q=some b:=fun q b hq=>by
    rw [zbG]; exact hq
    intro e; rw [hR.blind q (by omega)] at hq; cases hq
   generalize hcur:((bytesOf l).data.map (fun b=>Value.int .u8 b.toNat))++Array.replicate (grownCap w l.length 0 e-l.length) (Value.int .u8 0)=cur
   have hpre:cur.toList.take (1*l.length)=l.map (Value.int .u8):=by
    rw [<- hcur,Nat.one_mul]
    simp only [Array.toList_append,Array.toList_map,bytesOf]
    rw [List.take_append_of_le_length (by simp),List.take_of_length_le (by simp),List.map_map]
    refine List.map_congr_left fun x hx=>?_
    have:=ho x hx
    simp
    omega
   have hsz:1*l.length <= cur.size:=by rw [<- hcur]; simp [bytesOf]
   have hheap:((w.drew.alloc (.cells cur e)).freeze ⟨w.heap.size,cur.size,none⟩ 1).heap=w.heap.push (.cells cur e (cur.size,cur.size+1)):=by
    simp only [World.freeze,Nat.one_ne_zero,if_false]
    apply Array.ext_getElem?
    intro k
    simp only [Array.getElem?_modify,Array.getElem?_push,World.alloc,World.drew]
    by_cases hk:k=w.heap.size
    ·subst hk; simp
    ·have:¬w.heap.size=k:=fun e=>hk e.symm
     simp [hk,this]
   have hpush:=hR.push (w':=(w.drew.alloc (.cells cur e)).freeze ⟨w.heap.size,cur.size,none⟩ 1) (it := .view 1 l.length (fun i=>[.int .u8 (l.getD i 0)])) hheap rfl rfl rfl
    ⟨w.heap.size,cur,e,(cur.size,cur.size+1),zbU _ _ _,rfl,by rw [hheap]; simp,hsz,by rw [hpre]; exact (qiJ (P:=P) (R:=R) (w:=w) ho).vs _⟩
   refine ⟨_,_,?_,_,_,_,R,_,_,V.sl H.length [] 0 1 0 l.length (grownCap w l.length 0 e) (some ⟨w.heap.size,0,none⟩) (fun _=>⟨w.heap.size,zbU _ _ _,by simp only [poff,Nat.zero_mul,Nat.add_zero]⟩) hcg hcm,hF.into hid (fun _ _ e=>e),hpush.1,hK _ ⟨hcg,hcm⟩⟩
   have hsz':(bytesOf l).size=l.length:=zdH l
   simp only [convert,Sem.run_bind,run_underlying hs,run_underlying hd,run_underlying he',Result.andThen_ok,Conv.stringToBytes,run_choose,Question.forced,Bool.false_eq_true,if_false,hsz',newRow,run_newObj,Sem.run_pure,markStringish]
   have hcur':((bytesOf l).data.map (fun b=>Value.int .u8 b.toNat))++Array.replicate ((Question.appendCap l.length 0 e).cut (w.tape w.drawn (Question.appendCap l.length 0 e))-l.length) (Value.int .u8 0)=cur:=hcur
   rw [hcur',run_shape]
   have hsh:World.shape? { heap:=w.heap.push (.cells cur e),tape:=w.tape,drawn:=w.drawn+1,os:=w.os,output:=w.output } w.heap.size=some (e,cur.size):=by
    simp [World.shape?]
   rw [hsh]
   rfl
  ·exact h.elim
 ·exact h.elim

def aMark (tb:TB) (s d:TypeId) (a:AV) (F:Fr) (H:AH) (K:AV->Fr->AH->Prop):Prop:=match Nat.beq s d,zfJ tb s,a with
 | true,.slice e,.sl p path off es lo n cap=>match zfJ tb e,H[p]? with
   | .int .u8,some (.row _ es' _ n' f)=>cap≠0/\K (.sl p path off es lo n cap) F (H.set p (.view es' n' f))
   | _,_=>False
 | _,_,_=>False

theorem qqY (ht:TBok P tb) {s d:TypeId} {a:AV} {va:Value} {F:Fr} {tmps:List Value} {K:AV->Fr->AH->Prop} (ha:V R ids a va) (hF:Ts R ids F tmps) (hR:Rep W D R ids own H w)
  (h:aMark tb s d a F H K):∃v w',(convert s d va).run P w = .ok v w'/\zd7 W D tmps K v w':=by
 unfold aMark at h
 have hs:=zb5 (P:=P) ht s
 split at h
 ·rename_i e p path off es lo n cap hbe h1
  have hsd:=Nat.eq_of_beq_eq_true hbe
  subst hsd
  rw [h1] at hs
  simp only [TK.desc] at hs
  split at h
  ·rename_i T es' cap' n' f he hp
   have he':=zb5 (P:=P) ht e
   rw [he] at he'
   simp only [TK.desc] at he'
   obtain ⟨hcap,hK⟩:=h
   have hv:=ha
   cases ha with
   | sl _ _ _ _ _ _ _ a g1 g2 g3 =>
   obtain ⟨b,hb,rfl⟩:=g1 hcap
   rcases hR.items p _ hp with ⟨q1,_,_⟩ | ⟨b',cur,q1,q2,q3,q4,q5,q6,q7⟩
   ·rw [hb] at q1; cases q1
   rw [hb] at q1; cases q1
   have hheap:∀k,(w.freeze ⟨b,cur.size,none⟩ 1).heap[k]? = if k=b then some (.cells cur T (cur.size,cur.size+1)) else w.heap[k]?:=fun k=>by
    simp only [World.freeze,Nat.one_ne_zero,if_false,Array.getElem?_modify]
    by_cases hk:k=b
    ·subst hk; simp [q3]
    ·have:¬b=k:=fun e=>hk e.symm
     simp [this,hk]
   have hle:es'*n' <= cur.size:=by rw [q6,Nat.mul_comm]; exact Nat.mul_le_mul_right _ q4
   have hput:=hR.put (w':=w.freeze ⟨b,cur.size,none⟩ 1) (by simp) (by rw [hp]; simp) (it := .view es' n' f) q2 (by simp [World.freeze]) (fun k hk=>by rw [hheap,if_neg hk])
    (by simp [World.freeze]) (by simp [World.freeze]) (by simp [World.freeze]) ⟨b,cur,T,_,hb,q2,by rw [hheap,if_pos rfl],hle,q7⟩
   refine ⟨_,w.freeze ⟨b,cur.size,none⟩ 1,?_,_,_,_,R,ids,own,hv,hF,hput,hK⟩
   have hsh:w.shape? b=some (T,cur.size):=by simp [World.shape?,q3]
   simp only [convert,Sem.run_bind,run_underlying hs,Result.andThen_ok,run_underlying he',beq_self_eq_true,markStringish,run_shape,hsh]
   rfl
  ·exact h.elim
 ·exact h.elim

abbrev Spec:=List AV->AH->(AV->AH->Prop)->Prop
abbrev SP:=List (Nat×Spec)

def Behind (W:Base) (D:Nat->Prop) (R:Nat->Option Obj) (ids:Nat->Option Nat) (K:AV->AH->Prop) (v:Value) (w':World):Prop :=
 ∃av H' R' ids' own',V R' ids' av v/\Rep W D R' ids' own' H' w'/\(∀q b,ids q=some b->ids' q=some b)/\(∀b o,R b=some o->R' b=some o)/\K av H'

def GL (P:Program) (W:Base):Prop:=hasTab P=true->∃cs T fr,cs.toList=tabCells/\W.R 0=some (.cells cs T fr)

def qiG:AV := .arr 1 64 (fun j=>[.int .u8 ((tabList.getD j 0:Nat):Int)])

structure SpecOk (P:Program) (f:Nat) (s:Spec):Prop where
 fn:∃fn,P.funcs[f]? = some fn/\(fn.name == "runtime.NumGoroutine")=false/\fn.body.isNone=false
 ok:∀(W:Base) (D:Nat->Prop) (R:Nat->Option Obj) (ids own:Nat->Option Nat) (H:AH) (w:World) (args:List AV) (vals:List Value) (K:AV->AH->Prop),
  GL P W->Ts R ids args vals->Rep W D R ids own H w->s args H K->Calls P f vals.toArray w (fun e w'=>∃v,e = .returned v/\Behind W D R ids K v w')

def SPok (P:Program) (sp:SP):Prop:=∀x∈sp,SpecOk P x.1 x.2
structure SPg (P:Program) (W:Base) (sp:SP):Prop where
 sp:SPok P sp
 gl:GL P W
theorem GL.of {W W':Base} (h:GL P W) (hr:∀b o,W.R b=some o->W'.R b=some o):GL P W':=fun ht=>let ⟨cs,T,fr,h1,h2⟩:=h ht; ⟨cs,T,fr,h1,hr _ _ h2⟩

def aCall (sp:SP) (f:Nat) (args:List AV) (F:Fr) (H:AH) (K:AV->Fr->AH->Prop):Prop:=match lk sp f with
 | some s=>s args H (fun av H'=>K av F H')
 | none=>False

theorem qq3 {sp:SP} (hs:SPg P W sp) {f:Nat} {args:List AV} {vals:List Value} {F:Fr} {tmps:List Value} {K:AV->Fr->AH->Prop} (ha:Ts R ids args vals) (hF:Ts R ids F tmps)
  (hR:Rep W D R ids own H w) (h:aCall sp f args F H K):(callFunc f vals.toArray).run P w = .ok (.enter f vals.toArray) w /\
   Calls P f vals.toArray w (fun e w'=>∃v,e = .returned v/\zd7 W D tmps K v w'):=by
 unfold aCall at h
 split at h
 ·rename_i s hl
  have hok:=hs.sp _ (qkZ hl)
  obtain ⟨fn,h1,h2,h3⟩:=hok.fn
  have h1':P.funcs[f]? = some fn:=h1
  refine ⟨by simp only [callFunc,Sem.run_bind,run_program,Result.andThen_ok,h1',h2,h3,Bool.false_eq_true,if_false,Sem.run_pure],(hok.ok W D R ids own H w args vals _ hs.gl ha hR h).mono fun e w' ⟨v,he,av,H',R',ids',own',g1,g2,g3,g4,g5⟩=>⟨v,he,av,F,H',R',ids',own',g1,hF.into g3 g4,g2,g5⟩⟩
 ·exact h.elim

def aOp (tb:TB) (sp:SP) (op:Op) (F:Fr) (H:AH) (K:AV->Fr->AH->Prop):Prop:=match op with
 | .alloc t=>qnZ tb t F H K
 | .box t x=>aBox t (ev F x) F H K
 | .build t ps=>zz2 tb t (ps.toList.map fun p=>(p.1,ev F p.2)) (fun av=>K av F H)
 | .buildSlice t n ps=>zlH tb t n (ps.toList.map fun p=>(p.1,ev F p.2)) F H K
 | .store t a x=>qnH tb t (ev F a) (ev F x) H (fun H'=>K .any F H')
 | .makeSlice t l c=>aMake tb t (ev F l) (ev F c) F H K
 | .makeFunc (.func f) ⟨[]⟩ ⟨[]⟩=>K (.fn f) F H
 | .convert s d x=>match zfJ tb s with
   | .str=>match zfJ tb d with
     | .slice _=>aOct tb s d (ev F x) F H K
     | _=>zwP tb (.convert s d x) F H (fun av=>K av F H)
   | .slice _=>match zfJ tb d with
     | .slice _=>aMark tb s d (ev F x) F H K
     | _=>zwP tb (.convert s d x) F H (fun av=>K av F H)
   | _=>zwP tb (.convert s d x) F H (fun av=>K av F H)
 | .indexAddr t (.global 0) i=>match tabB tb with
   | true=>zkH tb t (.rp [qiG] 0) (ev F i) (fun av=>K av F H)
   | false=>False
 | .call ⟨.builtin .append,⟨[s,x]⟩,⟨[t,xt]⟩⟩=>qc8 tb t xt (ev F s) (ev F x) F H K
 | .call ⟨.builtin .copy,⟨[s,x]⟩,⟨[t,xt]⟩⟩=>aCopy tb t xt (ev F s) (ev F x) F H K
 | .call ⟨.builtin .clear,⟨[s]⟩,⟨[t]⟩⟩=>qnW tb t (ev F s) F H K
 | .call ⟨.value g,args,_⟩=>match ev F g with
   | .fn f=>aCall sp f (args.toList.map (ev F)) F H K
   | _=>False
 | op=>zwP tb op F H (fun av=>K av F H)

end Go.Sx
