import Derived.Test.YtlihikockhjodaaGreatDoorStand
import Derived.Test.YtlihikockhjodaaGreatDoorLinkOps
import Derived.Test.YtlihikockhjodaaGreatDoorRefList

namespace Yard
open Go Go.Sx Go.Proofs
set_option linter.unusedVariables false
set_option linter.unusedSimpArgs false
set_option maxRecDepth 4000
set_option maxHeartbeats 4000000

theorem zoQ:∀(k:Nat) (ws:List Nat),(zaD ws).drop (8*k)=zaD (ws.drop k)
 | 0,ws=>by simp
 | k+1,[]=>by simp [zaD]
 | k+1,w :: r=>by
   have e:zaD (w :: r)=layN w 8++zaD r:=by simp [zaD]
   have e2:(layN w 8++zaD r).drop 8=zaD r:=List.drop_left' (zaE 8 w)
   rw [e,show 8*(k+1)=8+8*k by omega,<- List.drop_drop,e2,zoQ k r]
   rfl
theorem zoP:∀(k:Nat) (ws:List Nat),(zaD ws).take (8*k)=zaD (ws.take k)
 | 0,ws=>by simp [zaD]
 | k+1,[]=>by simp [zaD]
 | k+1,w :: r=>by
   have e:zaD (w :: r)=layN w 8++zaD r:=by simp [zaD]
   have e2:zaD ((w :: r).take (k+1))=layN w 8++zaD (r.take k):=by simp [zaD]
   rw [e,e2,List.take_append,zaE,List.take_of_length_le (by rw [zaE]; omega),show 8*(k+1)-8=8*k by omega,zoP k r]
theorem qrL {ws:List Nat} {a:Int}:imgOk (zaD ws) a ↔ zdZ ws a:=by
 unfold imgOk zdZ za2
 rw [zbW,show 8*ws.length / 64=ws.length / 8 by omega]
theorem zmG (ws:List Nat) (a:Int):imgL (zaD ws) a=zaV ws a:=by
 unfold imgL zaV
 by_cases h:zdZ ws a
 ·rw [if_pos (qrL.2 h),if_pos h,show 64*a.toNat=8*(8*a.toNat) by omega,zoQ,show (64:Nat)=8*8 from rfl,zoP]; rfl
 ·rw [if_neg (fun k=>h (qrL.1 k)),if_neg h]
theorem qbT {ws:List Nat} {a:Int} (h:za3 ws a≠0):zaV ws a=[]:=by
 rw [zaV,if_neg (fun k=>h (zcH.2 k))]
theorem zj8 (ws:List Nat) (a:Int) (i:Nat):zaN (zaD ws) a i=fanF ws a i:=by unfold zaN fanF; rw [zmG]
theorem zpF (ws:List Nat) (a:Int):zc7 (zaD ws) a ↔ fanErr ws a=0:=by
 unfold zc7 fanErr
 rw [zmG]
 by_cases h:a=0
 ·simp [h]
 ·by_cases h2:za3 ws a=0
  ·by_cases h3:zgF (zaV ws a) <;> simp [h,h2,h3]
  ·have:=qbT h2
   rw [this]; simp [h,h2,qbL]
theorem qlI (ws:List Nat) (a:Int) (i:Nat):zcP (zaD ws) a i=zc6 ws a i:=by unfold zcP zc6; rw [zmG]
theorem zyW (ws:List Nat) (a:Int):zdV (zaD ws) a ↔ zbI ws a=0:=by
 unfold zdV zbI
 rw [zmG]
 by_cases h:a=0
 ·simp [h]
 ·by_cases h2:za3 ws a=0
  ·by_cases h3:zdB (zaV ws a) <;> simp [h,h2,h3]
  ·have:=qbT h2
   rw [this]; simp [h,h2,zvM]
theorem img_F (ws:List Nat) (top:Int) (i j:Nat):imgF (zaD ws) top i j=tF ws top i j:=by unfold imgF tF; rw [zj8,zj8]
theorem qlJ (ws:List Nat) (top:Int) (s:Nat):zbX (zaD ws) top s ↔ fanErr ws top=0/\fanErr ws (fanF ws top (s / 112))=0/\zbI ws (tF ws top (s / 112) (s / 7 % 16))=0:=by
 unfold zbX; rw [zpF,zj8,zpF,img_F,zyW]

def ndN (ws:List Nat) (c:Int):Option NodeT:=if readE ws c=0 then some (readT ws c) else none
theorem qp5 (ws:List Nat) (c:Int):imgN (zaD ws) c=ndN ws c:=by
 unfold imgN ndN
 rw [zmG]
 by_cases h:za3 ws c=0
 ·by_cases h2:zcI (zaV ws c)
  ·have e:=zeH.2 ⟨h,h2⟩
   rw [if_pos h2,if_pos e,readT,if_pos e]
  ·rw [if_neg h2,if_neg fun k=>h2 (zeH.1 k).2]
 ·rw [qbT h,if_neg not_node,if_neg fun k=>h (zeH.1 k).1]
theorem qlH (ws:List Nat):imgN (zaD ws)=ndN ws:=funext (qp5 ws)

theorem qeP {X:Int->Prop} {s:StoreT} {t:TickT} {d:DeskT} (h:TInvX X s t d) {i:Nat} (hi:i<d.gens.length):zbX (zaD s.ws) t.top i/\zc1 (zaD s.ws) t.top i=zf7 d i:=by
 have hp:=h.place hi
 obtain ⟨p0,p1,p2⟩:=zj2 hp
 have e0:placeK (i:Int) 0=i / 7 / 16:=by simp [placeK,hp]
 have e1:placeK (i:Int) 1=i / 7 % 16:=by simp [placeK,hp]
 have e2:placeK (i:Int) 2=i % 7:=by simp [placeK,hp]
 have e3:i / 112=i / 7 / 16:=by omega
 have hs:=h.seats i hi
 have q1:=h.tree.et
 have q2:=h.tree.ek (placeK (i:Int) 0) p0
 have q3:=h.tree.ef (placeK (i:Int) 0) (placeK (i:Int) 1) p0 p1
 rw [e0] at q2
 rw [e0,e1] at q3
 rw [e0,e1,e2] at hs
 have hP:zbX (zaD s.ws) t.top i:=by rw [qlJ,e3]; exact ⟨q1,q2,q3⟩
 refine ⟨hP,?_⟩
 rw [zc1,if_pos ⟨hP.1,hP.2.1⟩,img_F,qlI,e3]
 exact hs

theorem qd6 {s:StoreT} {t:TickT} {d:DeskT} {xs:List Int} (h:NInv s t d xs) {es:List EntT} {bs:List Int} (hp:bs.Perm xs) (he:es=bs.map fun c=>(readT s.ws c).e):zhJ s t es bs:=by
 have hl:es.length=bs.length:=by rw [he,List.length_map]
 have hh:=h.inv.high
 have hhn:t.high.toNat=d.gens.length:=by omega
 refine ⟨hl,fun i hi=>?_,fun i hi=>(qeP h.inv (by omega)).1,?_⟩
 ·have hib:i<bs.length:=by omega
  have hm:bs.getD i 0∈xs:=hp.mem_iff.1 (by rw [List.getD_eq_getElem?_getD,List.getElem?_eq_getElem hib]; exact List.getElem_mem hib)
  have ee:es.getD i entZ=(readT s.ws (bs.getD i 0)).e:=by
   rw [he,List.getD_eq_getElem?_getD,List.getElem?_map,List.getD_eq_getElem?_getD,List.getElem?_eq_getElem hib]; rfl
  obtain ⟨_,hl,hb⟩:=h.node _ hm
  rw [ee]
  obtain ⟨q1,q2⟩:=zlR h.inv hl
  exact ⟨q1,by rw [q2]; exact hb⟩
 ·rw [hhn,hl,hp.length_eq,zdA]
  have e1:((List.range d.gens.length).filter fun i=>(zc1 (zaD s.ws) t.top i).live)=(List.range d.gens.length).filter fun i=>decide (bAt d i≠0):=by
   refine List.filter_congr fun i hi=>?_
   rw [List.mem_range] at hi
   rw [(qeP h.inv hi).2,zf7]
   by_cases hz:bAt d i=0
   ·rw [if_pos hz]; simp [hz]
   ·rw [if_neg hz]; simp [hz]
  rw [e1]
  have hperm:(((List.range d.gens.length).filter fun i=>decide (bAt d i≠0)).map (bAt d)).Perm xs:=by
   refine (List.perm_ext_iff_of_nodup ?_ h.nd).2 fun c=>?_
   ·rw [List.Nodup,List.pairwise_map]
    refine List.Pairwise.imp_of_mem (R:=(·≠·)) (fun {i j} hi hj hij e=>?_) (List.Pairwise.filter _ List.nodup_range)
    rw [List.mem_filter,List.mem_range,decide_eq_true_eq] at hi hj
    have k1:=(h.live i hi.1 hi.2).2
    have k2:=(h.live j hj.1 hj.2).2
    rw [e,k2] at k1
    exact hij (by omega)
   ·rw [List.mem_map]
    refine ⟨fun ⟨i,hi,e⟩=>?_,fun hc=>?_⟩
    ·rw [List.mem_filter,List.mem_range,decide_eq_true_eq] at hi
     rw [<- e]; exact (h.live i hi.1 hi.2).1
    ·obtain ⟨_,hl,hb⟩:=h.node c hc
     have hr:=(h.range hc).1
     refine ⟨(readT s.ws c).e.slot.toNat,?_,hb⟩
     rw [List.mem_filter,List.mem_range,decide_eq_true_eq]
     have:=hl.1
     have:=hl.2.1
     simp only at *
     exact ⟨by omega,by rw [hb]; omega⟩
  have:=hperm.length_eq
  rw [List.length_map] at this
  exact this


theorem zhK {T:Nat->Int->Option EB} {e:EntT} {a:Int} {l:List Int} {k:Nat} {p:EB} (h:zcV T e a l (k+1)=some p) :
  ∃p0 q,zcV T e a l k=some p0/\T k (l.getD k 0)=some q/\ahead e (q.1.getD 0 entZ)/\p=(p0.1++q.1,p0.2++q.2):=by
 rw [zcV] at h
 cases hk:zcV T e a l k with
 | none=>rw [hk] at h; cases h
 | some p0 =>
   rw [hk] at h
   simp only at h
   cases hT:T k (l.getD k 0) with
   | none=>rw [hT] at h; cases h
   | some q =>
     rw [hT] at h
     simp only at h
     split at h
     ·cases h; exact ⟨p0,q,rfl,rfl,by assumption,rfl⟩
     ·cases h
theorem zyP {T:Nat->Int->Option EB} {e:EntT} {a:Int} {l:List Int}:∀{k:Nat} {p:EB},zcV T e a l k=some p->∀i,i<k->∃q,T i (l.getD i 0)=some q/\(∀c∈q.2,c∈p.2)/\(∀c∈q.1,c∈p.1)/\ahead e (q.1.getD 0 entZ)
 | 0,p,_,i,hi=>absurd hi (Nat.not_lt_zero _)
 | k+1,p,h,i,hi=>by
   obtain ⟨p0,q,h1,h2,h3,h4⟩:=zhK h
   by_cases e:i=k
   ·subst e; exact ⟨q,h2,fun c hc=>by rw [h4]; exact List.mem_append.2 (.inr hc),fun c hc=>by rw [h4]; exact List.mem_append.2 (.inr hc),h3⟩
   ·obtain ⟨q',g1,g2,g2',g3⟩:=zyP h1 i (by omega)
    exact ⟨q',g1,fun c hc=>by rw [h4]; exact List.mem_append.2 (.inl (g2 c hc)),fun c hc=>by rw [h4]; exact List.mem_append.2 (.inl (g2' c hc)),g3⟩
theorem ztW {T T':Nat->Int->Option EB} {e:EntT} {a:Int} {l:List Int}:∀{k:Nat} {p:EB},zcV T e a l k=some p->(∀i,i<k->∀q,T i (l.getD i 0)=some q->T' i (l.getD i 0)=some q)->zcV T' e a l k=some p
 | 0,p,h,_=>h
 | k+1,p,h,hT=>by
   obtain ⟨p0,q,h1,h2,h3,h4⟩:=zhK h
   rw [zcV,ztW h1 fun i hi=>hT i (by omega)]
   simp only
   rw [hT k (by omega) q h2]
   simp only
   rw [if_pos h3,h4]

theorem zf4 {N N':Int->Option NodeT}:∀(k:Nat) (a:Int) (p:EB),zbQ N k a=some p->(∀c∈p.2,N' c=N c)->zbQ N' k a=some p:=fun k=>by
 induction k using Nat.strongRecOn with
 | ind k ih =>
   intro a p h hN
   obtain ⟨n,h1,h2,h3⟩:=zeF h
   obtain ⟨_,r,hr⟩:=zfV h3
   rw [zhU,hN a (by rw [hr]; exact List.mem_cons_self ..),h1]
   simp only
   rw [if_pos h2]
   refine ztW h3 fun i hi q hq=>ih i hi _ q hq fun c hc=>hN c ?_
   obtain ⟨q',g1,g2,_⟩:=zyP h3 i hi
   rw [hq] at g1
   cases g1
   exact g2 c hc
theorem zcR {N:Int->Option NodeT} {k:Nat} {a:Int} {p:EB} (h:zbQ N k a=some p):∃n r q,N a=some n/\n.kids.length=k/\p.1=n.e :: r/\p.2=a :: q:=by
 obtain ⟨n,h1,h2,h3⟩:=zeF h
 obtain ⟨⟨r,hr⟩,q,hq⟩:=zfV h3
 exact ⟨n,r,q,h1,h2,hr,hq⟩

theorem zw0 {N:Int->Option NodeT}:∀(k:Nat) (a:Int) (p:EB),zbQ N k a=some p->∀f:Int->EntT,(∀c∈p.2,∀n,N c=some n->f c=n.e)->p.1=p.2.map f/\∀c∈p.2,∃n,N c=some n:=fun k=>by
 induction k using Nat.strongRecOn with
 | ind k ih =>
   intro a p h f hf
   obtain ⟨n,h1,h2,h3⟩:=zeF h
   have key:∀(j:Nat) (p':EB),j <= k->zcV (zbQ N) n.e a n.kids j=some p'->(∀c∈p'.2,c∈p.2)->p'.1=p'.2.map f/\∀c∈p'.2,∃n,N c=some n:=fun j=>by
    induction j with
    | zero =>
      intro p' _ hk hs
      cases hk
      refine ⟨by simp only [List.map_cons,List.map_nil]; rw [hf a (hs a (List.mem_cons_self ..)) n h1],fun c hc=>?_⟩
      rw [List.mem_singleton] at hc; rw [hc]; exact ⟨n,h1⟩
    | succ j jh =>
      intro p' hj hk hs
      obtain ⟨p0,q,g1,g2,g3,g4⟩:=zhK hk
      subst g4
      have b1:=jh p0 (by omega) g1 fun c hc=>hs c (List.mem_append.2 (.inl hc))
      have b2:=ih j (by omega) _ q g2 f fun c hc=>hf c (hs c (List.mem_append.2 (.inr hc)))
      refine ⟨by simp only [List.map_append]; rw [b1.1,b2.1],fun c hc=>?_⟩
      rcases List.mem_append.1 hc with k | k
      ·exact b1.2 c k
      ·exact b2.2 c k
   exact key k p (Nat.le_refl _) h3 fun _ hc=>hc

theorem zs0 {N:Int->Option NodeT}:∀(k:Nat) (a:Int) (p:EB),zbQ N k a=some p->∀x∈p.1,x=p.1.getD 0 entZ\/ahead (p.1.getD 0 entZ) x:=fun k=>by
 induction k using Nat.strongRecOn with
 | ind k ih =>
   intro a p h
   obtain ⟨n,h1,h2,h3⟩:=zeF h
   obtain ⟨⟨r,hr⟩,_⟩:=zfV h3
   have e0:p.1.getD 0 entZ=n.e:=by rw [hr]; rfl
   rw [e0]
   have key:∀(j:Nat) (p':EB),j <= k->zcV (zbQ N) n.e a n.kids j=some p'->∀x∈p'.1,x=n.e\/ahead n.e x:=fun j=>by
    induction j with
    | zero=>intro p' _ hk x hx; cases hk; rw [List.mem_singleton] at hx; exact .inl hx
    | succ j jh =>
      intro p' hj hk x hx
      obtain ⟨p0,q,g1,g2,g3,g4⟩:=zhK hk
      subst g4
      rcases List.mem_append.1 hx with m | m
      ·exact jh p0 (by omega) g1 x m
      ·rcases ih j (by omega) _ q g2 x m with e | e
       ·rw [e]; exact .inr g3
       ·exact .inr (ze3 g3 e)
   exact key k p (Nat.le_refl _) h3
theorem zwZ {N:Int->Option NodeT} {a:Int} {n:NodeT} (h:N a=some n) (hk:n.kids=[]):zbQ N 0 a=some ([n.e],[a]):=by
 rw [zhU,h]; simp only; rw [if_pos (by rw [hk]; rfl)]; rfl

theorem qe6 {N N':Int->Option NodeT} {k:Nat} {a b now:Int} {p q:EB} {n:NodeT} (ha:zbQ N k a=some p) (hb:zbQ N k b=some q) (hn:N a=some n) (hN:N' now=some ⟨n.e,n.kids++[b]⟩)
  (hp:∀c∈p.2,c≠a->N' c=N c) (hq:∀c∈q.2,N' c=N c) (hnd:p.2.Nodup) (hah:ahead n.e (q.1.getD 0 entZ)) :
  zbQ N' (k+1) now=some (p.1++q.1,now :: p.2.tail++q.2):=by
 obtain ⟨n',h1,h2,h3⟩:=zeF ha
 rw [hn] at h1; cases h1
 have hlen:(n.kids++[b]).length=k+1:=by simp [h2]
 obtain ⟨_,r,hr⟩:=zfV h3
 rw [zhU,hN]
 simp only
 rw [if_pos hlen]
 have hga:∀i,i<k->(n.kids++[b]).getD i 0=n.kids.getD i 0:=fun i hi=>by rw [zaH,if_pos (by omega)]
 have hgb:(n.kids++[b]).getD k 0=b:=by rw [zaH,if_neg (by omega),h2,Nat.sub_self]; rfl
 have key:∀(j:Nat) (p':EB),j <= k->zcV (zbQ N) n.e a n.kids j=some p'->(∃r',p'.2=a :: r'/\∀c∈r',c∈r)->zcV (zbQ N') n.e now (n.kids++[b]) j=some (p'.1,now :: p'.2.tail):=fun j=>by
  induction j with
  | zero=>intro p' _ hk _; cases hk; rfl
  | succ j jh =>
    intro p' hj hk hs
    obtain ⟨p0,q0,g1,g2,g3,g4⟩:=zhK hk
    subst g4
    obtain ⟨_,r0,hr0⟩:=zfV g1
    obtain ⟨r',hr',hsub⟩:=hs
    simp only [hr0,List.cons_append,List.cons.injEq,true_and] at hr'
    have j1:=jh p0 (by omega) g1 ⟨r0,hr0,fun c hc=>hsub c (by rw [<- hr']; exact List.mem_append.2 (.inl hc))⟩
    have j2:zbQ N' j ((n.kids++[b]).getD j 0)=some q0:=by
     rw [hga j (by omega)]
     refine zf4 j _ q0 g2 fun c hc=>?_
     have hcr:c∈r:=hsub c (by rw [<- hr']; exact List.mem_append.2 (.inr hc))
     refine hp c (by rw [hr]; exact List.mem_cons_of_mem _ hcr) fun e=>?_
     rw [hr,List.nodup_cons] at hnd
     exact hnd.1 (e ▸ hcr)
    rw [zcV,j1]
    simp only
    rw [j2]
    simp only
    rw [if_pos g3,hr0]
    rfl
 have kk:=key k p (Nat.le_refl _) h3 ⟨r,hr,fun _ hc=>hc⟩
 have kb:zbQ N' k ((n.kids++[b]).getD k 0)=some q:=by rw [hgb]; exact zf4 k b q hb hq
 rw [zcV,kk]
 simp only
 rw [kb]
 simp only
 rw [if_pos hah]

theorem ztY (x:EntT) (l:List EntT):∀k,(∀j,zgG x l k <= j->j<k->ahead x (l.getD j entZ))/\(0<zgG x l k->¬ahead x (l.getD (zgG x l k-1) entZ))
 | 0=>⟨fun j h1 h2=>absurd h2 (Nat.not_lt_zero _),fun h=>absurd h (Nat.not_lt_zero _)⟩
 | k+1=>by
   unfold zgG
   split
   ·rename_i h
    have ih:=ztY x l k
    refine ⟨fun j h1 h2=>?_,ih.2⟩
    by_cases e:j=k
    ·subst e; exact h
    ·exact ih.1 j h1 (by omega)
   ·rename_i h
    exact ⟨fun j h1 h2=>by omega,fun _=>by simpa using h⟩
def HNodup (l:List EntT):Prop:=l.Pairwise fun a b=>entH a≠entH b
theorem HNodup.perm {l m:List EntT} (h:HNodup l) (p:l.Perm m):HNodup m:=(p.pairwise_iff (fun {a b} h e=>h e.symm)).1 h
def Srt (l:List EntT):Prop:=l.Pairwise ahead
theorem srt_ins {l:List EntT} {x:EntT} (h:Srt l) (hx:∀y∈l,entH x≠entH y):Srt (insE l x):=by
 obtain ⟨s1,s2⟩:=ztY x l l.length
 have hle:=qeA x l l.length
 have hsp:=h
 rw [<- List.take_append_drop (zgG x l l.length) l] at hsp
 unfold Srt at hsp
 rw [List.pairwise_append] at hsp
 unfold insE Srt
 rw [List.pairwise_append,List.pairwise_cons]
 have htake:∀y∈l.take (zgG x l l.length),ahead y x:=fun y hy=>by
  obtain ⟨j,hj,e⟩:=List.mem_iff_getElem.1 hy
  rw [List.length_take] at hj
  rw [List.getElem_take] at e
  have hlast:=s2 (by omega)
  have hm:l.getD (zgG x l l.length-1) entZ∈l:=by rw [List.getD_eq_getElem?_getD,List.getElem?_eq_getElem (by omega)]; exact List.getElem_mem _
  have h1:ahead (l.getD (zgG x l l.length-1) entZ) x:=(zlG (hx _ hm)).resolve_left hlast
  by_cases e2:j=zgG x l l.length-1
  ·rw [List.getD_eq_getElem?_getD,List.getElem?_eq_getElem (by omega)] at h1
   rw [<- e]
   simp only [e2]
   exact h1
  ·have h2:ahead y (l.getD (zgG x l l.length-1) entZ):=by
    have:=List.pairwise_iff_getElem.1 h j (zgG x l l.length-1) (by omega) (by omega) (by omega)
    rw [List.getD_eq_getElem?_getD,List.getElem?_eq_getElem (by omega),<- e]
    exact this
   exact ze3 h2 h1
 have hdrop:∀y∈l.drop (zgG x l l.length),ahead x y:=fun y hy=>by
  obtain ⟨j,hj,e⟩:=List.mem_iff_getElem.1 hy
  rw [List.length_drop] at hj
  rw [List.getElem_drop] at e
  have:=s1 (zgG x l l.length+j) (by omega) (by omega)
  rw [List.getD_eq_getElem?_getD,List.getElem?_eq_getElem (by omega)] at this
  rw [<- e]; exact this
 refine ⟨hsp.1,⟨hdrop,hsp.2.1⟩,fun y hy z hz=>?_⟩
 rcases List.mem_cons.1 hz with e | hz
 ·rw [e]; exact htake y hy
 ·exact ze3 (htake y hy) (hdrop z hz)
theorem qdJ:∀(l m:List EntT),HNodup (l++m)->Srt m->Srt (l.foldl insE m)
 | [],m,_,h=>h
 | x :: r,m,hn,h=>by
   have hn':HNodup (r++insE m x):=hn.perm (by
    refine (List.perm_middle (a:=x) (l₁:=r) (l₂:=m)).symm.trans ?_
    exact ((zyU m x).symm.append_left r))
   refine qdJ r (insE m x) hn' (srt_ins h fun y hy=>?_)
   unfold HNodup at hn
   rw [List.cons_append,List.pairwise_cons] at hn
   exact hn.1 y (List.mem_append.2 (.inr hy))
theorem zxE {l:List EntT} (h:HNodup l):Srt (zaY l):=qdJ l [] (by rw [List.append_nil]; exact h) List.Pairwise.nil
theorem zuP {l m:List EntT} (h:HNodup l) (p:l.Perm m):zaY l=zaY m :=
 List.Perm.eq_of_pairwise (le:=ahead) (fun a b _ _ h1 h2=>absurd h2 (qc2 h1)) (zxE h) (zxE (h.perm p)) ((zjP l).trans (p.trans (zjP m).symm))

end Yard
