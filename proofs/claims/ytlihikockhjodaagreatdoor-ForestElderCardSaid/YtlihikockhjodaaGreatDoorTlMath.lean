import Derived.Test.YtlihikockhjodaaGreatDoorStand
import Derived.Test.YtlihikockhjodaaGreatDoorLinkOps
import Derived.Test.YtlihikockhjodaaGreatDoorRefList

namespace Yard
open Go Go.Sx Go.Proofs
set_option linter.unusedVariables false
set_option linter.unusedSimpArgs false
set_option maxRecDepth 4000
set_option maxHeartbeats 4000000

theorem zm2:∀(k:Nat) (ws:List Nat),(zaG ws).drop (8*k)=zaG (ws.drop k)
 | 0,ws=>by simp
 | k+1,[]=>by simp [zaG]
 | k+1,w :: r=>by
   have e:zaG (w :: r)=layN w 8++zaG r:=by simp [zaG]
   have e2:(layN w 8++zaG r).drop 8=zaG r:=List.drop_left' (zaE 8 w)
   rw [e,show 8*(k+1)=8+8*k by omega,<- List.drop_drop,e2,zm2 k r]
   rfl
theorem zm1:∀(k:Nat) (ws:List Nat),(zaG ws).take (8*k)=zaG (ws.take k)
 | 0,ws=>by simp [zaG]
 | k+1,[]=>by simp [zaG]
 | k+1,w :: r=>by
   have e:zaG (w :: r)=layN w 8++zaG r:=by simp [zaG]
   have e2:zaG ((w :: r).take (k+1))=layN w 8++zaG (r.take k):=by simp [zaG]
   rw [e,e2,List.take_append,zaE,List.take_of_length_le (by rw [zaE]; omega),show 8*(k+1)-8=8*k by omega,zm1 k r]
theorem qmH {ws:List Nat} {a:Int}:qgI (zaG ws) a ↔ zdE ws a:=by
 unfold qgI zdE zaT
 rw [zbR,show 8*ws.length / 64=ws.length / 8 by omega]
theorem zlC (ws:List Nat) (a:Int):imgL (zaG ws) a=zaQ ws a:=by
 unfold imgL zaQ
 by_cases h:zdE ws a
 ·rw [if_pos (qmH.2 h),if_pos h,show 64*a.toNat=8*(8*a.toNat) by omega,zm2,show (64:Nat)=8*8 from rfl,zm1]; rfl
 ·rw [if_neg (fun k=>h (qmH.1 k)),if_neg h]
theorem zxV {ws:List Nat} {a:Int} (h:zaX ws a≠0):zaQ ws a=[]:=by
 rw [zaQ,if_neg (fun k=>h (zb5.2 k))]
theorem zsT (ws:List Nat) (a:Int) (i:Nat):zg7 (zaG ws) a i=fanF ws a i:=by unfold zg7 fanF; rw [zlC]
theorem zz2 (ws:List Nat) (a:Int):zgA (zaG ws) a ↔ fanErr ws a=0:=by
 unfold zgA fanErr
 rw [zlC]
 by_cases h:a=0
 ·simp [h]
 ·by_cases h2:zaX ws a=0
  ·by_cases h3:zjO (zaQ ws a) <;> simp [h,h2,h3]
  ·have:=zxV h2
   rw [this]; simp [h,h2,not_fan]
theorem qgG (ws:List Nat) (a:Int) (i:Nat):zsU (zaG ws) a i=zcT ws a i:=by unfold zsU zcT; rw [zlC]
theorem qgF (ws:List Nat) (a:Int):zjB (zaG ws) a ↔ zbD ws a=0:=by
 unfold zjB zbD
 rw [zlC]
 by_cases h:a=0
 ·simp [h]
 ·by_cases h2:zaX ws a=0
  ·by_cases h3:zeQ (zaQ ws a) <;> simp [h,h2,h3]
  ·have:=zxV h2
   rw [this]; simp [h,h2,qkM]
theorem img_F (ws:List Nat) (top:Int) (i j:Nat):imgF (zaG ws) top i j=tF ws top i j:=by unfold imgF tF; rw [zsT,zsT]
theorem qgH (ws:List Nat) (top:Int) (s:Nat):zg6 (zaG ws) top s ↔ fanErr ws top=0/\fanErr ws (fanF ws top (s / 112))=0/\zbD ws (tF ws top (s / 112) (s / 7 % 16))=0:=by
 unfold zg6; rw [zz2,zsT,zz2,img_F,qgF]

def ndN (ws:List Nat) (c:Int):Option NodeT:=if readE ws c=0 then some (readT ws c) else none
theorem qkY (ws:List Nat) (c:Int):imgN (zaG ws) c=ndN ws c:=by
 unfold imgN ndN
 rw [zlC]
 by_cases h:zaX ws c=0
 ·by_cases h2:zeW (zaQ ws c)
  ·have e:=zdT.2 ⟨h,h2⟩
   rw [if_pos h2,if_pos e,readT,if_pos e]
  ·rw [if_neg h2,if_neg fun k=>h2 (zdT.1 k).2]
 ·rw [zxV h,if_neg qkL,if_neg fun k=>h (zdT.1 k).1]
theorem qgE (ws:List Nat):imgN (zaG ws)=ndN ws:=funext (qkY ws)

theorem qaD {X:Int->Prop} {s:StoreT} {t:TickT} {d:DeskT} (h:TInvX X s t d) {i:Nat} (hi:i<d.gens.length):zg6 (zaG s.ws) t.top i/\zsV (zaG s.ws) t.top i=zfJ d i:=by
 have hp:=h.place hi
 obtain ⟨p0,p1,p2⟩:=zi3 hp
 have e0:placeK (i:Int) 0=i / 7 / 16:=by simp [placeK,hp]
 have e1:placeK (i:Int) 1=i / 7 % 16:=by simp [placeK,hp]
 have e2:placeK (i:Int) 2=i % 7:=by simp [placeK,hp]
 have e3:i / 112=i / 7 / 16:=by omega
 have hs:=h.seats i hi
 have q1:=h.tree.et
 have q2:=h.tree.ek (placeK (i:Int) 0) p0
 have q3:=h.tree.ef (placeK (i:Int) 0) (placeK (i:Int) 1) p0 p1
 rw [e0] at q2
 rw [e0,e1] at q3
 rw [e0,e1,e2] at hs
 have hP:zg6 (zaG s.ws) t.top i:=by rw [qgH,e3]; exact ⟨q1,q2,q3⟩
 refine ⟨hP,?_⟩
 rw [zsV,if_pos ⟨hP.1,hP.2.1⟩,img_F,qgG,e3]
 exact hs

theorem qkR {s:StoreT} {t:TickT} {d:DeskT} {xs:List Int} (h:NInv s t d xs) {es:List EntT} {bs:List Int} (hp:bs.Perm xs) (he:es=bs.map fun c=>(readT s.ws c).e):zu5 s t es bs:=by
 have hl:es.length=bs.length:=by rw [he,List.length_map]
 have hh:=h.inv.high
 have hhn:t.high.toNat=d.gens.length:=by omega
 refine ⟨hl,fun i hi=>?_,fun i hi=>(qaD h.inv (by omega)).1,?_⟩
 ·have hib:i<bs.length:=by omega
  have hm:bs.getD i 0∈xs:=hp.mem_iff.1 (by rw [List.getD_eq_getElem?_getD,List.getElem?_eq_getElem hib]; exact List.getElem_mem hib)
  have ee:es.getD i entZ=(readT s.ws (bs.getD i 0)).e:=by
   rw [he,List.getD_eq_getElem?_getD,List.getElem?_map,List.getD_eq_getElem?_getD,List.getElem?_eq_getElem hib]; rfl
  obtain ⟨_,hl,hb⟩:=h.node _ hm
  rw [ee]
  obtain ⟨q1,q2⟩:=zkV h.inv hl
  exact ⟨q1,by rw [q2]; exact hb⟩
 ·rw [hhn,hl,hp.length_eq,qmE]
  have e1:((List.range d.gens.length).filter fun i=>(zsV (zaG s.ws) t.top i).live)=(List.range d.gens.length).filter fun i=>decide (bAt d i≠0):=by
   refine List.filter_congr fun i hi=>?_
   rw [List.mem_range] at hi
   rw [(qaD h.inv hi).2,zfJ]
   by_cases hz:bAt d i=0
   ·rw [if_pos hz]; simp [hz]
   ·rw [if_neg hz]; simp [hz]
  rw [e1]
  have hperm:(((List.range d.gens.length).filter fun i=>decide (bAt d i≠0)).map (bAt d)).Perm xs:=by
   refine (List.perm_ext_iff_of_nodup ?_ h.nd).2 fun c=>?_
   ·rw [List.Nodup,List.pairwise_map]
    refine List.Pairwise.imp_of_mem (R:=(·≠·)) (fun {i j} hi hj hij e=>?_) (List.Pairwise.filter _ List.nodup_range)
    rw [List.mem_filter,List.mem_range,decide_eq_true_eq] at hi hj
    have k1:=(h.live i hi.1 hi.2).2
    have k2:=(h.live j hj.1 hj.2).2
    rw [e,k2] at k1
    exact hij (by omega)
   ·rw [List.mem_map]
    refine ⟨fun ⟨i,hi,e⟩=>?_,fun hc=>?_⟩
    ·rw [List.mem_filter,List.mem_range,decide_eq_true_eq] at hi
     rw [<- e]; exact (h.live i hi.1 hi.2).1
    ·obtain ⟨_,hl,hb⟩:=h.node c hc
     have hr:=(h.range hc).1
     refine ⟨(readT s.ws c).e.slot.toNat,?_,hb⟩
     rw [List.mem_filter,List.mem_range,decide_eq_true_eq]
     have:=hl.1
     have:=hl.2.1
     simp only at *
     exact ⟨by omega,by rw [hb]; omega⟩
  have:=hperm.length_eq
  rw [List.length_map] at this
  exact this


theorem zfQ {T:Nat->Int->Option EB} {e:EntT} {a:Int} {l:List Int} {k:Nat} {p:EB} (h:zdY T e a l (k+1)=some p) :
  ∃p0 q,zdY T e a l k=some p0/\T k (l.getD k 0)=some q/\ahead e (q.1.getD 0 entZ)/\p=(p0.1++q.1,p0.2++q.2):=by
 rw [zdY] at h
 cases hk:zdY T e a l k with
 | none=>rw [hk] at h; cases h
 | some p0 =>
   rw [hk] at h
   simp only at h
   cases hT:T k (l.getD k 0) with
   | none=>rw [hT] at h; cases h
   | some q =>
     rw [hT] at h
     simp only at h
     split at h
     ·cases h; exact ⟨p0,q,rfl,rfl,by assumption,rfl⟩
     ·cases h
theorem zu9 {T:Nat->Int->Option EB} {e:EntT} {a:Int} {l:List Int}:∀{k:Nat} {p:EB},zdY T e a l k=some p->∀i,i<k->∃q,T i (l.getD i 0)=some q/\(∀c∈q.2,c∈p.2)/\(∀c∈q.1,c∈p.1)/\ahead e (q.1.getD 0 entZ)
 | 0,p,_,i,hi=>absurd hi (Nat.not_lt_zero _)
 | k+1,p,h,i,hi=>by
   obtain ⟨p0,q,h1,h2,h3,h4⟩:=zfQ h
   by_cases e:i=k
   ·subst e; exact ⟨q,h2,fun c hc=>by rw [h4]; exact List.mem_append.2 (.inr hc),fun c hc=>by rw [h4]; exact List.mem_append.2 (.inr hc),h3⟩
   ·obtain ⟨q',g1,g2,g2',g3⟩:=zu9 h1 i (by omega)
    exact ⟨q',g1,fun c hc=>by rw [h4]; exact List.mem_append.2 (.inl (g2 c hc)),fun c hc=>by rw [h4]; exact List.mem_append.2 (.inl (g2' c hc)),g3⟩
theorem zq6 {T T':Nat->Int->Option EB} {e:EntT} {a:Int} {l:List Int}:∀{k:Nat} {p:EB},zdY T e a l k=some p->(∀i,i<k->∀q,T i (l.getD i 0)=some q->T' i (l.getD i 0)=some q)->zdY T' e a l k=some p
 | 0,p,h,_=>h
 | k+1,p,h,hT=>by
   obtain ⟨p0,q,h1,h2,h3,h4⟩:=zfQ h
   rw [zdY,zq6 h1 fun i hi=>hT i (by omega)]
   simp only
   rw [hT k (by omega) q h2]
   simp only
   rw [if_pos h3,h4]

theorem zd9 {N N':Int->Option NodeT}:∀(k:Nat) (a:Int) (p:EB),zcX N k a=some p->(∀c∈p.2,N' c=N c)->zcX N' k a=some p:=fun k=>by
 induction k using Nat.strongRecOn with
 | ind k ih =>
   intro a p h hN
   obtain ⟨n,h1,h2,h3⟩:=zdS h
   obtain ⟨_,r,hr⟩:=zfA h3
   rw [znD,hN a (by rw [hr]; exact List.mem_cons_self ..),h1]
   simp only
   rw [if_pos h2]
   refine zq6 h3 fun i hi q hq=>ih i hi _ q hq fun c hc=>hN c ?_
   obtain ⟨q',g1,g2,_⟩:=zu9 h3 i hi
   rw [hq] at g1
   cases g1
   exact g2 c hc
theorem zcC {N:Int->Option NodeT} {k:Nat} {a:Int} {p:EB} (h:zcX N k a=some p):∃n r q,N a=some n/\n.kids.length=k/\p.1=n.e :: r/\p.2=a :: q:=by
 obtain ⟨n,h1,h2,h3⟩:=zdS h
 obtain ⟨⟨r,hr⟩,q,hq⟩:=zfA h3
 exact ⟨n,r,q,h1,h2,hr,hq⟩

theorem qdI {N:Int->Option NodeT}:∀(k:Nat) (a:Int) (p:EB),zcX N k a=some p->∀f:Int->EntT,(∀c∈p.2,∀n,N c=some n->f c=n.e)->p.1=p.2.map f/\∀c∈p.2,∃n,N c=some n:=fun k=>by
 induction k using Nat.strongRecOn with
 | ind k ih =>
   intro a p h f hf
   obtain ⟨n,h1,h2,h3⟩:=zdS h
   have key:∀(j:Nat) (p':EB),j <= k->zdY (zcX N) n.e a n.kids j=some p'->(∀c∈p'.2,c∈p.2)->p'.1=p'.2.map f/\∀c∈p'.2,∃n,N c=some n:=fun j=>by
    induction j with
    | zero =>
      intro p' _ hk hs
      cases hk
      refine ⟨by simp only [List.map_cons,List.map_nil]; rw [hf a (hs a (List.mem_cons_self ..)) n h1],fun c hc=>?_⟩
      rw [List.mem_singleton] at hc; rw [hc]; exact ⟨n,h1⟩
    | succ j jh =>
      intro p' hj hk hs
      obtain ⟨p0,q,g1,g2,g3,g4⟩:=zfQ hk
      subst g4
      have b1:=jh p0 (by omega) g1 fun c hc=>hs c (List.mem_append.2 (.inl hc))
      have b2:=ih j (by omega) _ q g2 f fun c hc=>hf c (hs c (List.mem_append.2 (.inr hc)))
      refine ⟨by simp only [List.map_append]; rw [b1.1,b2.1],fun c hc=>?_⟩
      rcases List.mem_append.1 hc with k | k
      ·exact b1.2 c k
      ·exact b2.2 c k
   exact key k p (Nat.le_refl _) h3 fun _ hc=>hc

theorem zqH {N:Int->Option NodeT}:∀(k:Nat) (a:Int) (p:EB),zcX N k a=some p->∀x∈p.1,x=p.1.getD 0 entZ\/ahead (p.1.getD 0 entZ) x:=fun k=>by
 induction k using Nat.strongRecOn with
 | ind k ih =>
   intro a p h
   obtain ⟨n,h1,h2,h3⟩:=zdS h
   obtain ⟨⟨r,hr⟩,_⟩:=zfA h3
   have e0:p.1.getD 0 entZ=n.e:=by rw [hr]; rfl
   rw [e0]
   have key:∀(j:Nat) (p':EB),j <= k->zdY (zcX N) n.e a n.kids j=some p'->∀x∈p'.1,x=n.e\/ahead n.e x:=fun j=>by
    induction j with
    | zero=>intro p' _ hk x hx; cases hk; rw [List.mem_singleton] at hx; exact .inl hx
    | succ j jh =>
      intro p' hj hk x hx
      obtain ⟨p0,q,g1,g2,g3,g4⟩:=zfQ hk
      subst g4
      rcases List.mem_append.1 hx with m | m
      ·exact jh p0 (by omega) g1 x m
      ·rcases ih j (by omega) _ q g2 x m with e | e
       ·rw [e]; exact .inr g3
       ·exact .inr (zfW g3 e)
   exact key k p (Nat.le_refl _) h3
theorem ztY {N:Int->Option NodeT} {a:Int} {n:NodeT} (h:N a=some n) (hk:n.kids=[]):zcX N 0 a=some ([n.e],[a]):=by
 rw [znD,h]; simp only; rw [if_pos (by rw [hk]; rfl)]; rfl

theorem qaS {N N':Int->Option NodeT} {k:Nat} {a b now:Int} {p q:EB} {n:NodeT} (ha:zcX N k a=some p) (hb:zcX N k b=some q) (hn:N a=some n) (hN:N' now=some ⟨n.e,n.kids++[b]⟩)
  (hp:∀c∈p.2,c≠a->N' c=N c) (hq:∀c∈q.2,N' c=N c) (hnd:p.2.Nodup) (hah:ahead n.e (q.1.getD 0 entZ)) :
  zcX N' (k+1) now=some (p.1++q.1,now :: p.2.tail++q.2):=by
 obtain ⟨n',h1,h2,h3⟩:=zdS ha
 rw [hn] at h1; cases h1
 have hlen:(n.kids++[b]).length=k+1:=by simp [h2]
 obtain ⟨_,r,hr⟩:=zfA h3
 rw [znD,hN]
 simp only
 rw [if_pos hlen]
 have hga:∀i,i<k->(n.kids++[b]).getD i 0=n.kids.getD i 0:=fun i hi=>by rw [zaI,if_pos (by omega)]
 have hgb:(n.kids++[b]).getD k 0=b:=by rw [zaI,if_neg (by omega),h2,Nat.sub_self]; rfl
 have key:∀(j:Nat) (p':EB),j <= k->zdY (zcX N) n.e a n.kids j=some p'->(∃r',p'.2=a :: r'/\∀c∈r',c∈r)->zdY (zcX N') n.e now (n.kids++[b]) j=some (p'.1,now :: p'.2.tail):=fun j=>by
  induction j with
  | zero=>intro p' _ hk _; cases hk; rfl
  | succ j jh =>
    intro p' hj hk hs
    obtain ⟨p0,q0,g1,g2,g3,g4⟩:=zfQ hk
    subst g4
    obtain ⟨_,r0,hr0⟩:=zfA g1
    obtain ⟨r',hr',hsub⟩:=hs
    simp only [hr0,List.cons_append,List.cons.injEq,true_and] at hr'
    have j1:=jh p0 (by omega) g1 ⟨r0,hr0,fun c hc=>hsub c (by rw [<- hr']; exact List.mem_append.2 (.inl hc))⟩
    have j2:zcX N' j ((n.kids++[b]).getD j 0)=some q0:=by
     rw [hga j (by omega)]
     refine zd9 j _ q0 g2 fun c hc=>?_
     have hcr:c∈r:=hsub c (by rw [<- hr']; exact List.mem_append.2 (.inr hc))
     refine hp c (by rw [hr]; exact List.mem_cons_of_mem _ hcr) fun e=>?_
     rw [hr,List.nodup_cons] at hnd
     exact hnd.1 (e ▸ hcr)
    rw [zdY,j1]
    simp only
    rw [j2]
    simp only
    rw [if_pos g3,hr0]
    rfl
 have kk:=key k p (Nat.le_refl _) h3 ⟨r,hr,fun _ hc=>hc⟩
 have kb:zcX N' k ((n.kids++[b]).getD k 0)=some q:=by rw [hgb]; exact zd9 k b q hb hq
 rw [zdY,kk]
 simp only
 rw [kb]
 simp only
 rw [if_pos hah]

def HNodup (l:List EntT):Prop:=l.Pairwise fun a b=>entH a≠entH b
theorem HNodup.perm {l m:List EntT} (h:HNodup l) (p:l.Perm m):HNodup m:=(p.pairwise_iff (fun {a b} h e=>h e.symm)).1 h
def Srt (l:List EntT):Prop:=l.Pairwise ahead

theorem zxU (ws:List Nat):∀(n:Nat) (out:List EntT) (todo:List Int),(∀x∈out,EntI x)->(∀x∈(zmC ws n out todo).1,EntI x)/\(zmC ws n out todo).1.length <= out.length+n
 | 0,out,[],h=>⟨h,Nat.le_refl _⟩
 | n+1,out,[],h=>⟨h,by simp only [zmC]; omega⟩
 | 0,out,a :: r,h=>⟨fun x hx=>(by cases hx),Nat.zero_le _⟩
 | n+1,out,a :: r,h=>by
   rw [zmC]
   by_cases hz:readE ws a=0
   ·rw [if_pos hz]
    have:=zxU ws n (out++[(readT ws a).e]) ((readT ws a).kids++r) fun x hx=>by
     rcases List.mem_append.1 hx with k | k
     ·exact h x k
     ·rw [List.mem_singleton.1 k]; exact (zj2 ws a).1
    exact ⟨this.1,by have:=this.2; simp only [List.length_append,List.length_cons,List.length_nil] at this; omega⟩
   ·rw [if_neg hz]; exact ⟨fun x hx=>(by cases hx),Nat.zero_le _⟩
theorem listE_I (ws:List Nat) (a:Int):EntsI (zcG ws a).1:=by
 have:=zxU ws 1792 [] [a] (fun x hx=>(by cases hx))
 exact ⟨this.1,by have:=this.2; simp only [List.length_nil] at this; unfold zcG; omega⟩
end Yard
