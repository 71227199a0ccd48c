import Derived.Test.YtlihikockhjodaaGreatDoorSxI

namespace Go.Sx
variable {W W':Base} {D D':Nat->Prop} {R R':Nat->Option Obj} {ids ids' own own':Nat->Option Nat} {P:Program} {tb:TB} {w w':World} {H H':AH}

def srcC (tb:TB) (H:AH) (xt:TypeId) (es:Nat) (x:AV) (k:Nat->(Nat->List AV)->Prop):Prop:=match zfJ tb xt with
 | .slice _=>slC H es x k
 | .str=>match x,Nat.beq es 1 with
   | .str l,true=>k l.length (fun i=>[.int .u8 (l.getD i 0)])
   | _,_=>False
 | _=>False

theorem qiU (ht:TBok P tb) (hR:Rep W D R ids own H w) {xt:TypeId} {es:Nat} {x:AV} {vx:Value} {k:Nat->(Nat->List AV)->Prop} (hes:1 <= es) (hx:V R ids x vx) (h:srcC tb H xt es x k) :
  SrcT P xt/\∃m g news,k m g/\Src P R w es m g vx news:=by
 unfold srcC at h
 have hk:=zb5 (P:=P) ht xt
 split at h
 ·rename_i e hke
  rw [hke] at hk
  simp only [TK.desc] at hk
  obtain ⟨n,f,hkk,hr⟩:=qiW hR.view hx h
  obtain ⟨news,hs⟩:=hr.src (P:=P) hR.view.refl hes
  exact ⟨.inl ⟨e,hk⟩,n,f,news,hkk,hs⟩
 ·rename_i hke
  rw [hke] at hk
  simp only [TK.desc] at hk
  split at h
  ·rename_i l hb
   have e:=Nat.eq_of_beq_eq_true hb
   subst e
   obtain ⟨ho,rfl⟩:=hx.str_inv
   exact ⟨.inr hk,_,_,_,h,qiJ ho⟩
  ·exact h.elim
 ·exact h.elim

def Room (n bytes:Nat):Prop:=n <= 9223372036854775807/\n*bytes <= 140737488355328
def Cap (n cap:Nat):Prop:=n <= cap/\cap <= 9223372036854775807

def qc8 (tb:TB) (t xt:TypeId) (s x:AV) (F:Fr) (H:AH) (K:AV->Fr->AH->Prop):Prop:=match zfJ tb t with
 | .slice e=>match lk tb e with
   | some ti=>match Nat.ble 1 ti.size with
     | true=>srcC tb H xt ti.size x (fun m g=>match s with
       | .nils=>Room m ti.bytes/\∀cap,Cap m cap->K (.sl H.length [] 0 ti.size 0 m cap) F (H++[.row e ti.size cap m g])
       | .sl p [] 0 es 0 n cap0=>match H[p]? with
         | some (.row T es' capr n' f)=>match Nat.beq es ti.size,Nat.beq es' ti.size,Nat.beq T e with
           | true,true,true=>lowF p H=true/\(n <= n'/\cap0=capr)/\Room (n+m) ti.bytes /\
             ∀cap,Cap (n+m) cap->K (.sl p [] 0 ti.size 0 (n+m) cap) (scrub p F) ((H.map (qdQ p)).set p (.row e ti.size cap (n+m) (catf n f g)))
           | _,_,_=>False
         | _=>False
       | _=>False)
     | false=>False
   | none=>False
 | _=>False

theorem Rep.pushNil (hR:Rep W D R ids own H w) (e es:Nat) (g:Nat->List AV):Rep W D R ids own (H++[.row e es 0 0 g]) w:=by
 refine ⟨hR.os,hR.tape,hR.output,hR.size,fun b p hb=>?_,hR.keep,hR.ro,fun p it hp=>?_,fun p hp=>hR.blind p (by simp at hp; omega),hR.low,hR.high,fun q b hq=>⟨(hR.pins q b hq).1,by rw [List.getElem?_append_left (lt_of_some (hR.pins q b hq).2)]; exact (hR.pins q b hq).2⟩,fun h=>hR.stay (zjF (by simp) h)⟩
 ·have:=hR.owns b p hb
  exact ⟨this.1,by simp; omega,this.2.2⟩
 ·rcases Nat.lt_or_ge p H.length with hlt | hge
  ·rw [List.getElem?_append_left hlt] at hp; exact hR.items p it hp
  ·have e:p=H.length:=by
    rcases Nat.lt_or_ge H.length p with h | h
    ·rw [List.getElem?_eq_none (by simp; omega)] at hp; cases hp
    ·omega
   subst e
   rw [List.getElem?_append_right (Nat.le_refl _),Nat.sub_self] at hp
   cases hp
   exact .inl ⟨hR.blind _ (Nat.le_refl _),rfl,rfl⟩

theorem zp2 {a b c:List Value} {n m es:Nat} (ha:a.length=n*es) (hb:b.length=m*es):(a++b++c).take (es*(n+m))=a++b:=by
 rw [List.take_append_of_le_length (by rw [List.length_append,ha,hb,Nat.mul_add,Nat.mul_comm,Nat.mul_comm m]; exact Nat.le_refl _)]
 rw [List.take_of_length_le (by rw [List.length_append,ha,hb,Nat.mul_add,Nat.mul_comm,Nat.mul_comm m]; exact Nat.le_refl _)]

theorem zs5 (z:Array Value) {a b:List Value} {n m es cap:Nat} (ha:a.length=n*es) (hb:b.length=m*es) (hz:z.size=es) (hc:n+m <= cap) :
  (a.toArray++b.toArray++Builtin.zeroCells z (cap-(n+m))).size=cap*es:=by
 simp only [Array.size_append,List.size_toArray,ha,hb,size_zeroCells,hz]
 rw [<- Nat.add_mul,<- Nat.add_mul]
 congr 1; omega

theorem qhO (ht:TBok P tb) {t xt ty:TypeId} {s x:AV} {vs vx:Value} {F:Fr} {tmps:List Value} {K:AV->Fr->AH->Prop} (hs:V R ids s vs) (hx:V R ids x vx) (hF:Ts R ids F tmps)
  (hR:Rep W D R ids own H w) (h:qc8 tb t xt s x F H K):∃v w',(Builtin.append_ #[t,xt] ty #[vs,vx]).run P w = .ok v w'/\zd7 W D tmps K v w':=by
 unfold qc8 at h
 have hk:=zb5 (P:=P) ht t
 split at h
 ·rename_i e hke
  rw [hke] at hk
  simp only [TK.desc] at hk
  split at h
  ·rename_i ti hlk
   have hti:=ht.get hlk
   split at h
   ·rename_i hpos
    have hes:1 <= ti.size:=Nat.le_of_ble_eq_true hpos
    obtain ⟨hxt,m,g,news,hh,src⟩:=qiU ht hR hes hx h
    clear h
    have h:=hh
    clear hh
    obtain ⟨z,hz,hzc,i,hi,hiz,his,hib⟩:=hti.zeroValue (w:=w)
    have hzs:z.cells.size=ti.size:=by
     have:=congrArg List.length hzc
     simpa [hti.zok.2] using this
    have hsz:(P.info? e).map (·.size)=some ti.size:=by simp [hi,his]
    split at h
    ·-- nil
     obtain rfl:=hs.nils_inv
     obtain ⟨⟨hm1,hm2⟩,hK⟩:=h
     by_cases hm:m=0
     ·subst hm
      have hr:=zf9 (b:=0) (ty:=ty) (n:=0) (c:=0) (base:=none) hk hxt hsz src (Nat.le_refl _) (fun h=>absurd rfl h) (fun h=>absurd rfl h) (fun _=>rfl)
      refine ⟨_,w,hr,_,_,_,R,ids,own,V.sl H.length [] 0 ti.size 0 0 0 none (fun h=>absurd rfl h) (Nat.le_refl _) (Nat.zero_le _),hF,hR.pushNil e ti.size g,hK 0 ⟨Nat.le_refl _,Nat.zero_le _⟩⟩
     ·have hr:=zkL (ty:=ty) (n:=0) (c:=0) (base:=none) (old:=[]) hk hxt hi hiz his src (by omega) (by unfold maxLen; omega) (by rw [hib]; simpa using hm2) (fun w2 _=>by simp [Builtin.firstCells])
      simp only [Nat.zero_add] at hr
      have hcg:=grownCap_ge w m 0 e
      have hcm:=grownCap_le_maxLen w m 0 e (by unfold maxLen; omega)
      have hid:∀q b,ids q=some b->upd ids H.length (some w.heap.size) q=some b:=fun q b hq=>by
       rw [zbG]; exact hq
       intro e; rw [hR.blind q (by omega)] at hq; cases hq
      have hsize:=zs5 z.cells (a:=[]) (b:=news) (n:=0) (m:=m) (es:=ti.size) (cap:=grownCap w m 0 e) (by simp) src.size hzs (by omega)
      simp only [Nat.zero_add] at hsize
      have hpush:=hR.push (w':=w.drew.alloc (.cells ([].toArray++news.toArray++Builtin.zeroCells z.cells (grownCap w m 0 e-m)) e)) (o := .cells ([].toArray++news.toArray++Builtin.zeroCells z.cells (grownCap w m 0 e-m)) e)
       (it := .row e ti.size (grownCap w m 0 e) m g) rfl rfl rfl rfl
       (.inr ⟨w.heap.size,_,zbU _ _ _,rfl,heap_alloc_new w.drew _,hcg,hcm,hsize,by
        have e1:((#[]++news.toArray++Builtin.zeroCells z.cells (grownCap w m 0 e-m)).toList.take (ti.size*m))=news:=by
         have:=zp2 (a:=[]) (b:=news) (c:=(Builtin.zeroCells z.cells (grownCap w m 0 e-m)).toList) (n:=0) (m:=m) (es:=ti.size) (by simp) src.size
         simpa using this
        rw [e1]; exact src.vs _⟩)
      exact ⟨_,_,hr,_,_,_,R,_,_,V.sl H.length [] 0 ti.size 0 m _ _ (fun _=>⟨w.heap.size,zbU _ _ _,by simp only [poff,Nat.zero_mul,Nat.add_zero]⟩) hcg hcm,hF.into hid (fun _ _ e=>e),hpush.1,hK _ ⟨hcg,hcm⟩⟩
    ·-- a row of ours
     rename_i p es n cap0
     split at h
     ·rename_i T es' capr n' f hp
      split at h
      ·rename_i b1 b2 b3
       have e1:=Nat.eq_of_beq_eq_true b1
       have e2:=Nat.eq_of_beq_eq_true b2
       have e3:=Nat.eq_of_beq_eq_true b3
       subst e1; subst e2; subst e3
       obtain ⟨hfen,⟨hnn,rfl⟩,⟨hm1,hm2⟩,hK⟩:=h
       have hsat:=hR.items p _ hp
       have hplt:p<H.length:=by
        rcases Nat.lt_or_ge p H.length with hlt | hge
        ·exact hlt
        ·rw [List.getElem?_eq_none hge] at hp; cases hp
       cases hs with
       | sl _ _ _ _ _ _ _ a k1 k2 k3 =>
       have hscr:=Ts.scrub (p:=p) (ids:=ids) (ids':=ids) (fun _ _ _ e=>e) hF
       by_cases hroom:n+m <= cap0
       ·by_cases hm:m=0
        ·subst hm
         have hr:=zf9 (b:=0) (ty:=ty) (n:=n) (c:=cap0) (base:=a) (w':=w) hk hxt hsz src hroom (fun h=>absurd rfl h) (fun h=>absurd rfl h) (fun _=>rfl)
         have hrep:Rep W D R ids own ((H.map (qdQ p)).set p (.row T ti.size cap0 (n+0) (catf n f g))) w:=by
          have hR2:=hR.scrub p
          have hsat2:Sat R ids (fun b=>own b=some p) w p (.row T ti.size cap0 (n+0) (catf n f g)):=by
           rcases hsat with ⟨q1,q2,q3⟩ | ⟨b,cur,q1,q2,q3,q4,q5,q6,q7⟩
           ·exact .inl ⟨q1,by omega,q3⟩
           ·refine .inr ⟨b,cur,q1,q2,q3,k2,q5,q6,?_⟩
            have hle:=q7.arr_le hnn
            rw [List.take_take,Nat.min_eq_left (Nat.mul_le_mul_left _ hnn)] at hle
            have hz0:Vs R ids [.arr ti.size 0 g] [] := .arr ti.size 0 g (fun _=>[]) [] [] [] (by simp) (fun i hi=>absurd hi (Nat.not_lt_zero _)) (fun i hi=>absurd hi (Nat.not_lt_zero _)) .nil
            have:=hle.cat hz0
            simpa using this
          refine ⟨hR2.os,hR2.tape,hR2.output,hR2.size,by simpa using hR2.owns,hR2.keep,hR2.ro,fun q it hq=>?_,by simpa using hR2.blind,hR2.low,hR2.high,fun q b hq=>⟨(hR2.pins q b hq).1,by rw [List.getElem?_set_ne (fun e=>by subst e; have:=(hR.pins _ b hq).2; rw [hp] at this; cases this)]; exact (hR2.pins q b hq).2⟩,fun h=>hR2.stay (zmQ (by simp) h)⟩
          by_cases e:q=p
          ·subst e
           rw [List.getElem?_set_self (by simpa using hplt)] at hq; cases hq; exact hsat2
          ·rw [List.getElem?_set_ne (fun e'=>e e'.symm)] at hq
           exact hR2.items q it hq
         exact ⟨_,w,hr,_,_,_,R,ids,own,V.sl p [] 0 ti.size 0 (n+0) cap0 a k1 k2 k3,hscr,hrep,hK cap0 ⟨hroom,k3⟩⟩
        ·have hc0:cap0≠0:=by omega
         obtain ⟨b,hb,rfl⟩:=k1 hc0
         rcases hsat with ⟨q1,_,_⟩ | ⟨b',cur,q1,q2,q3,q4,q5,q6,q7⟩
         ·rw [hb] at q1; cases q1
         rw [hb] at q1; cases q1
         have hfit:n*ti.size+news.length <= cur.size:=by rw [src.size,q6,<- Nat.add_mul]; exact Nat.mul_le_mul_right _ hroom
         obtain ⟨w',g1,g2,g3,g4,g5,g6,g7⟩:=ziT (P:=P) q3 (o:=n*ti.size) (c:=news) hfit (src.vs noIds).oneCell
         have hr:=zf9 (b:=b) (ty:=ty) (n:=n) (c:=cap0) (base:=some ⟨b,0,none⟩) (w':=w') hk hxt hsz src hroom (fun _=>rfl) (fun _=>g1) (fun h=>absurd h hm)
         have hrep:=(hR.scrub p).put (by simp) (by rw [List.getElem?_map,hp]; simp [scrubJ]) (it := .row T ti.size cap0 (n+m) (catf n f g)) q2 g2 g3 g4 g5 g6 (.inr ⟨b,_,hb,q2,g7,hroom,q5,by
           simp only [List.size_toArray,List.length_append,List.length_take,List.length_drop,Array.length_toList]; omega,by
          have hle:=q7.arr_le hnn
          rw [List.take_take,Nat.min_eq_left (Nat.mul_le_mul_left _ hnn)] at hle
          have hcat:=hle.cat (src.vs ids)
          have e:(List.take (n*ti.size) cur.toList++(news++List.drop (n*ti.size+news.length) cur.toList)).toArray.toList.take (ti.size*(n+m))=cur.toList.take (ti.size*n)++news:=by
           rw [List.toList_toArray,<- List.append_assoc,zp2 (by rw [List.length_take,Array.length_toList]; omega) src.size,Nat.mul_comm n]
          rw [e]; exact hcat⟩)
         have e0:(⟨b,poff []+0+0*ti.size,none⟩:Addr)=⟨b,0,none⟩:=by simp [poff]
         rw [e0]
         exact ⟨_,w',hr,_,_,_,R,ids,own,V.sl p [] 0 ti.size 0 (n+m) cap0 _ (fun _=>⟨b,hb,by rw [e0]⟩) hroom k3,hscr,hrep,hK cap0 ⟨hroom,k3⟩⟩
       ·-- it grows
        have hold:∃old:List Value,old.length=n*ti.size/\(∀w2:World,w2.heap=w.heap->(Builtin.firstCells ti.size n (.slice a n cap0)).run P w2 = .ok old.toArray w2) /\
          ∀ids',(∀q,q≠p->∀b,ids q=some b->ids' q=some b)->Vs R ids' [.arr ti.size n f] old:=by
         by_cases hc0:cap0=0
         ·have hn0:n=0:=by omega
          refine ⟨[],by simp [hn0],fun w2 _=>?_,fun ids' _=>?_⟩
          ·subst hn0
           cases a <;> simp [Builtin.firstCells,loadCells,loadCellsFrom]
          ·rw [hn0]
           exact .arr ti.size 0 f (fun _=>[]) [] [] [] (by simp) (fun i hi=>absurd hi (Nat.not_lt_zero _)) (fun i hi=>absurd hi (Nat.not_lt_zero _)) .nil
         ·obtain ⟨b,hb,rfl⟩:=k1 hc0
          rcases hsat with ⟨q1,_,_⟩ | ⟨b',cur,q1,q2,q3,q4,q5,q6,q7⟩
          ·rw [hb] at q1; cases q1
          rw [hb] at q1; cases q1
          have hle:=q7.arr_le hnn
          rw [List.take_take,Nat.min_eq_left (Nat.mul_le_mul_left _ hnn)] at hle
          have hnc:n*ti.size <= cur.size:=by rw [q6]; exact Nat.mul_le_mul_right _ k2
          refine ⟨cur.toList.take (ti.size*n),by rw [List.length_take,Array.length_toList,Nat.mul_comm]; omega,fun w2 hw=>?_,fun ids' hi=>Vs.change (n:=0) hi hle (by simp [okA])⟩
          refine run_firstCells_some w2 ti.size n _ n cap0 _ (by rw [List.length_take,Array.length_toList,Nat.mul_comm]; omega) fun j v hj=>?_
          have hjl:=(List.getElem?_eq_some_iff.1 hj).1
          rw [List.length_take,Array.length_toList] at hjl
          rw [List.getElem?_take,if_pos (by omega)] at hj
          rw [addr_add,<- hj]
          simp [World.cell?,hw,q3,poff]
        obtain ⟨old,ho1,ho2,ho3⟩:=hold
        have hr:=zkL (ty:=ty) (n:=n) (c:=cap0) (base:=a) (old:=old) hk hxt hi hiz his src (by omega) (by unfold maxLen; omega) (by rw [hib]; exact hm2) ho2
        have hcg:=grownCap_ge w (n+m) cap0 T
        have hcm:=grownCap_le_maxLen w (n+m) cap0 T (by unfold maxLen; omega)
        have hid:∀q,q≠p->∀b,ids q=some b->upd ids p (some w.heap.size) q=some b:=fun q hq b hb=>by rw [zbG _ _ hq]; exact hb
        have hrep:=hR.swap (p:=p) hfen (by simp) (by rw [hp]; simp) (w':=w.drew.alloc (.cells (old.toArray++news.toArray++Builtin.zeroCells z.cells (grownCap w (n+m) cap0 T-(n+m))) T))
         (o := .cells (old.toArray++news.toArray++Builtin.zeroCells z.cells (grownCap w (n+m) cap0 T-(n+m))) T) (it := .row T ti.size (grownCap w (n+m) cap0 T) (n+m) (catf n f g)) hplt rfl rfl rfl rfl
         (.inr ⟨w.heap.size,_,zbU _ _ _,rfl,heap_alloc_new w.drew _,hcg,hcm,zs5 z.cells ho1 src.size hzs hcg,by
          have e:(old.toArray++news.toArray++Builtin.zeroCells z.cells (grownCap w (n+m) cap0 T-(n+m))).toList.take (ti.size*(n+m))=old++news:=by
           have:=zp2 (c:=(Builtin.zeroCells z.cells (grownCap w (n+m) cap0 T-(n+m))).toList) ho1 src.size
           simpa using this
          rw [e]; exact (ho3 _ hid).cat (src.vs _)⟩)
        exact ⟨_,_,hr,_,_,_,R,_,_,V.sl p [] 0 ti.size 0 (n+m) _ _ (fun _=>⟨w.heap.size,zbU _ _ _,by simp only [poff,Nat.zero_mul,Nat.add_zero]⟩) hcg hcm,Ts.scrub hid hF,hrep,hK _ ⟨hcg,hcm⟩⟩
      ·exact h.elim
     ·exact h.elim
    ·exact h.elim
   ·exact h.elim
  ·exact h.elim
 ·exact h.elim

end Go.Sx
