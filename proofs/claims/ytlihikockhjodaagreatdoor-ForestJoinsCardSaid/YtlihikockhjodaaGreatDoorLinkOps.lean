import Derived.Test.YtlihikockhjodaaGreatDoorTreeList

namespace Yard
open Go Go.Sx Go.Proofs
set_option linter.unusedVariables false
set_option linter.unusedSimpArgs false
set_option maxRecDepth 4000
set_option maxHeartbeats 4000000

theorem zhF {ws ws':List Nat} {a:Int} (h:za2 ws'=za2 ws) (hl:zaV ws' a=zaV ws a):readE ws' a=readE ws a/\readT ws' a=readT ws a:=by
 have e:readE ws' a=readE ws a:=by unfold readE; rw [zk6 h,hl]
 exact ⟨e,by unfold readT; rw [e,hl]⟩
theorem zvA {ws:List Nat} {a:Int} {n:NodeT} (ha:2 <= a) (hn:a<(za2 ws:Int)) (hl:zaV ws a=zaJ n) (hok:zbJ n) (hI:EntI n.e):readE ws a=0/\readT ws a=n:=by
 obtain ⟨h1,h2⟩:=ztL hok hI
 have e:readE ws a=0:=zeH.2 ⟨zcH.2 ⟨by omega,hn⟩,by rw [hl]; exact h1⟩
 exact ⟨e,by rw [readT,if_pos e,hl,h2]⟩

structure Env (s s':StoreT):Prop where
 n:s'.a.n=s.a.n
 m:s'.a.m=s.a.m
 c:s'.a.c=s.a.c
 e:s'.a.e=s.a.e
 lns:za2 s'.ws=za2 s.ws
 marks:∀c,InS s.a.n s.a.m c->zaV s'.ws c=zaV s.ws c
 w01:∀c,c<2->InS s.a.n s.a.w c->InS s.a.n s'.a.w c
theorem Env.refl (s:StoreT):Env s s:=⟨rfl,rfl,rfl,rfl,rfl,fun _ _=>rfl,fun _ _ h=>h⟩
theorem Env.trans {s s' s'':StoreT} (h:Env s s') (k:Env s' s''):Env s s'' :=
 ⟨k.n.trans h.n,k.m.trans h.m,k.c.trans h.c,k.e.trans h.e,k.lns.trans h.lns,fun c hc=>by rw [k.marks c (by rw [h.n,h.m]; exact hc),h.marks c hc],fun c h2 hc=>by have:=k.w01 c h2 (by rw [h.n]; exact h.w01 c h2 hc); rw [h.n] at this; exact this⟩
theorem Step.env {s:StoreT} {a:Int} {b:List Nat} {r:Wr} (S:Step s a b r) (ha:a=0\/2 <= a):Env s r.s:=⟨S.n,S.m,S.c,S.e',S.lns,fun _ hc=>zfS S hc,fun c h2 hc=>(S.w c).2 (.inr ⟨hc,fun q=>by omega⟩)⟩
theorem PutX.env {X:Int->Prop} {s:StoreT} {top slot:Int} {x:SeatT} {r:Wr} (S:PutX X s top slot x r):Env s r.s:=⟨S.n,S.m,S.c,S.e',S.lns,S.marks,S.w01⟩

theorem zxC {X:Int->Prop} {s:StoreT} {t:TickT} {d:DeskT} {a:Int} {b:List Nat} {r:Wr} (h:TInvX X s t d) (S:Step s a b r) (ha:a=0\/X a):TInvX (fun c=>c=r.at_\/(X c/\c≠a)) r.s t d:=by
 have fresh:∀c,InS s.a.n s.a.w c->¬X c->c≠r.at_:=fun c hc hX e=>by
  rcases S.kind with k | k
  ·rcases ha with z | z
   ·have:=S.ge; omega
   ·exact hX (by rw [e,k.1]; exact z)
  ·exact k (inS_held.2 (.inl (e ▸ hc)))
 have nz:∀c,InS s.a.n s.a.w c->¬X c->¬(a≠0/\c=a):=fun c hc hX q=>hX (by
  rcases ha with z | z
  ·exact absurd z q.1
  ·rw [q.2]; exact z)
 obtain ⟨k1,k2,k3,k4⟩:=zsZ (X':=fun c=>c=r.at_\/(X c/\c≠a)) (s':=r.s) h.tree (fun c hc hX=>S.oth c (fresh c hc hX)) S.lns
  (fun c hc hX=>by rw [S.n]; exact (S.w c).2 (.inr ⟨hc,nz c hc hX⟩))
  (fun c hc=>by
   rw [S.n] at hc
   rcases (S.w c).1 hc with q | ⟨q1,q2⟩
   ·exact .inr (.inl q)
   ·by_cases hX:X c
    ·refine .inr (.inr ⟨hX,fun e=>?_⟩)
     rcases ha with z | z
     ·have:=(h.tree.sh.xw c hX).1; omega
     ·exact q2 ⟨by have:=(h.tree.sh.xw c hX).1; omega,e⟩
    ·exact .inl ⟨q1,hX⟩)
  (fun c hc=>by
   rw [S.n]
   rcases hc with q | ⟨q1,q2⟩
   ·refine ⟨by rw [q]; exact S.ge,(S.w c).2 (.inl q),fun hw=>?_⟩
    rcases S.kind with k | k
    ·rcases ha with z | z
     ·have:=S.ge; omega
     ·rw [q,k.1]; exact z
    ·exact absurd (inS_held.2 (.inl (q ▸ hw))) k
   ·exact ⟨(h.tree.sh.xw c q1).1,(S.w c).2 (.inr ⟨(h.tree.sh.xw c q1).2,fun z=>q2 z.2⟩),fun _=>q1⟩)
 have hsl:=h.len
 refine ⟨h.ok,h.htop,S.good,k1,h.high,h.lenb,h.free,fun i hi=>?_,h.fnd,h.fok,h.gok,h.bok,fun i hi hn=>h.zK i hi (by rw [<- k2]; exact hn),fun i j hi hj hn=>h.zF i j hi hj (by rw [<- k3 i j hi]; exact hn)⟩
 obtain ⟨p0,p1,p2⟩:=zj2 (h.place hi)
 rw [k4 _ _ _ p0 p1]; exact h.seats i hi

structure NInv (s:StoreT) (t:TickT) (d:DeskT) (xs:List Int):Prop where
 inv:TInvX (fun c=>c∈xs) s t d
 nd:xs.Nodup
 node:∀c∈xs,readE s.ws c=0/\liveD d (entH (readT s.ws c).e)/\bAt d (readT s.ws c).e.slot.toNat=c
 live:∀i,i<d.gens.length->bAt d i≠0->bAt d i∈xs/\(readT s.ws (bAt d i)).e.slot=(i:Int)
theorem NInv.W {s:StoreT} {t:TickT} {d:DeskT} {xs:List Int} (h:NInv s t d xs):zaG s:=h.inv.good.W
theorem NInv.tI {s:StoreT} {t:TickT} {d:DeskT} {xs:List Int} (h:NInv s t d xs):zaS t:=h.inv.tI
theorem TInvX.congr {X X':Int->Prop} {s:StoreT} {t:TickT} {d:DeskT} (h:TInvX X s t d) (e:∀c,X c ↔ X' c):TInvX X' s t d:=by
 have:X=X':=funext fun c=>propext (e c)
 rw [<- this]; exact h
theorem NInv.perm {s:StoreT} {t:TickT} {d:DeskT} {xs ys:List Int} (h:NInv s t d xs) (hp:xs.Perm ys):NInv s t d ys :=
 ⟨h.inv.congr fun c=>hp.mem_iff,hp.nodup_iff.1 h.nd,fun c hc=>h.node c (hp.mem_iff.2 hc),fun i hi hb=>⟨hp.mem_iff.1 (h.live i hi hb).1,(h.live i hi hb).2⟩⟩
theorem NInv.range {s:StoreT} {t:TickT} {d:DeskT} {xs:List Int} (h:NInv s t d xs) {c:Int} (hc:c∈xs):2 <= c/\c<(s.a.n:Int)/\c<3072:=by
 have k:=h.inv.tree.sh.xw c hc
 have k2:=inS_iff.1 k.2
 have:=h.W.2.1
 omega
theorem NInv.len {s:StoreT} {t:TickT} {d:DeskT} {xs:List Int} (h:NInv s t d xs):xs.length <= d.gens.length:=by
 have:=zmB (l:=xs) (m:=d.blocks) h.nd fun c hc=>by
  obtain ⟨_,hl,hb⟩:=h.node c hc
  have hlb:=h.inv.lenb
  have hlt:(readT s.ws c).e.slot.toNat<d.blocks.length:=by have:=hl.1; have:=hl.2.1; simp only at *; omega
  rw [<- hb,bAt,List.getD_eq_getElem?_getD,List.getElem?_eq_getElem hlt]; exact List.getElem_mem _
 have:=h.inv.lenb
 omega
theorem qq5 {s:StoreT} {t:TickT} {d:DeskT} {xs:List Int} (h:TInvX (fun c=>c∈xs) s t d) (h112:t.high <= 112):(bitsL s.a.n s.a.w).length <= 4+(t.high.toNat+6) / 7+xs.length:=by
 have hl:(zcU (s.a.n,s.a.w)).Nodup:=by
  rw [zcU,List.Nodup,List.pairwise_map]
  refine List.Pairwise.imp (R:=(· < ·)) (fun {a b} hab e=>?_) (List.Pairwise.filter _ List.pairwise_lt_range)
  omega
 have:=zmB (l:=zcU (s.a.n,s.a.w)) (m:=0 :: 1 :: t.top :: fanF s.ws t.top 0 :: ((List.range ((t.high.toNat+6) / 7)).map (tF s.ws t.top 0)++xs)) hl fun a ha=>by
  have hz:∀c:Int,c=0->c∈((0:Int) :: 1 :: t.top :: fanF s.ws t.top 0 :: ((List.range ((t.high.toNat+6) / 7)).map (tF s.ws t.top 0)++xs)):=fun c hc=>by rw [hc]; exact List.mem_cons_self ..
  rcases h.tree.sh.exX a (inS_iff.2 (listN_mem.1 ha)) with z | z | z | ⟨i,hi,z⟩ | ⟨i,j,hi,hj,z⟩ | z
  ·exact hz a z
  ·rw [z]; simp
  ·rw [z]; simp
  ·by_cases e:fanF s.ws t.top i=0
   ·exact hz a (z.trans e)
   ·have:=h.zK i hi e
    have e0:i=0:=by omega
    subst e0
    rw [z]; simp
  ·by_cases e:tF s.ws t.top i j=0
   ·exact hz a (z.trans e)
   ·have:=h.zF i j hi hj e
    have e0:i=0:=by omega
    subst e0
    rw [z]
    simp only [List.mem_cons,List.mem_append,List.mem_map,List.mem_range]
    exact .inr (.inr (.inr (.inr (.inl ⟨j,by omega,rfl⟩))))
  ·simp only [List.mem_cons,List.mem_append]
   exact .inr (.inr (.inr (.inr (.inr z))))
 have e:(zcU (s.a.n,s.a.w)).length=(bitsL s.a.n s.a.w).length:=by simp [zcU]
 rw [e] at this
 simp only [List.length_cons,List.length_append,List.length_map,List.length_range] at this
 omega

structure RoomK (n K:Nat) (s:StoreT):Prop where
 hn:s.a.n=n
 c:(bitsL n s.a.c).length <= 2
 e:s.a.e=0
 m:(bitsL n s.a.m).length <= K
theorem RoomK.env {n K:Nat} {s s':StoreT} (h:RoomK n K s) (e:Env s s'):RoomK n K s' :=
 ⟨e.n.trans h.hn,by rw [e.c]; exact h.c,e.e.trans h.e,by rw [e.m]; exact h.m⟩
theorem qfW {n K:Nat} {s:StoreT} {t:TickT} {d:DeskT} {xs:List Int} (h:TInvX (fun c=>c∈xs) s t d) (hr:RoomK n K s) (h112:t.high <= 112):(n:Int)-(6+(t.high.toNat+6) / 7+xs.length+K:Nat) <= freeN s.a:=by
 have h1:=qq5 h h112
 have hc:=hr.c
 have hm:=hr.m
 have hn:=hr.hn
 rw [hn] at h1
 have e1:zbY s.a=((s.a.w ||| s.a.c) ||| 0) ||| s.a.m:=by rw [zbY,hr.e]
 have k1:=zf0 n ((s.a.w ||| s.a.c) ||| 0) s.a.m
 have k2:=zf0 n (s.a.w ||| s.a.c) 0
 have k3:=zf0 n s.a.w s.a.c
 rw [zn9] at k2
 rw [freeN,e1,hn]
 simp only [List.length_nil] at k2
 omega
theorem roomK_made (n:Nat):RoomK n 2 (zd5 n 0):=⟨rfl,qmT n,rfl,qmT n⟩
theorem qfV {n K:Nat} {s:StoreT} {t:TickT} {d:DeskT} {xs:List Int} (h:TInvX (fun c=>c∈xs) s t d) (hr:RoomK n K s) (h112:t.high <= 112):RoomK n (4+(t.high.toNat+6) / 7+xs.length) (znS s):=by
 have:=qq5 h h112
 rw [hr.hn] at this
 exact ⟨hr.hn,hr.c,hr.e,this⟩
theorem RoomK.le {n K K':Nat} {s:StoreT} (h:RoomK n K s) (hk:K <= K'):RoomK n K' s:=⟨h.hn,h.c,h.e,Nat.le_trans h.m hk⟩
theorem NInv.mark {s:StoreT} {t:TickT} {d:DeskT} {xs:List Int} (h:NInv s t d xs):NInv (znS s) t d xs :=
 ⟨zyS h.inv,h.nd,h.node,h.live⟩
theorem qkO {n:Nat} (h2:2 <= n) (h:n <= 3072) {b sl g:Int} (hk:zi8 b sl g):NInv (zd5 n 0) (zp1 b sl g) qhD [] :=
 ⟨(qlD h2 h hk).congr fun c=>by simp [noX],List.nodup_nil,fun c hc=>(by cases hc),fun i hi=>absurd hi (Nat.not_lt_zero _)⟩

theorem zqQ {n:NodeT} (h:zbJ n):(zaJ n).length=64:=by
 have:=h.2.2.2.2.1
 rw [zaJ,if_pos h]; exact zdL (by have:=zcZ n n.kids.length; omega)

theorem qeS {X:Int->Prop} {s:StoreT} {t:TickT} {d:DeskT} (h:TInvX X s t d) {a:Nat} {g:Int} (hn:zeU t.slots d=some (a,g)) (at_:Int) :
  (∀i,bAt (zb6 d at_) i=if i=a then at_ else bAt d i)/\(∀i,gAt (zb6 d at_) i=if i=a then g else gAt d i)/\(∀i,i<(zb6 d at_).gens.length ↔ i<d.gens.length\/i=a)/\bAt d a=0/\a<1792/\(zb6 d at_).gens.length <= d.gens.length+1/\(a:Int)<t.slots:=by
 have hlb:=h.lenb
 have hsl:=h.len
 unfold zeU at hn
 unfold zb6
 cases hd:d.free with
 | nil =>
   rw [hd] at hn
   simp only at hn
   split at hn
   ·cases hn
   ·rename_i hne
    cases hn
    refine ⟨fun i=>by rw [bAt,zmK,hlb]; rfl,fun i=>by rw [gAt,zmK]; rfl,fun i=>by simp only [List.length_append,List.length_cons,List.length_nil]; omega,?_,by omega,by simp,by omega⟩
    rw [bAt]; exact getD_ge (by omega)
 | cons b r =>
   rw [hd] at hn
   simp only [Option.some.injEq,Prod.mk.injEq] at hn
   obtain ⟨rfl,rfl⟩:=hn
   have hbf:=h.fok b (by rw [hd]; exact List.mem_cons_self ..)
   refine ⟨fun i=>by rw [bAt,zfF (by omega)]; rfl,fun i=>by rw [gAt,zfF hbf.1]; rfl,fun i=>?_,hbf.2.1,by omega,by simp,by omega⟩
   simp only [List.length_set]
   exact ⟨.inl,fun k=>k.elim id fun k=>k ▸ hbf.1⟩

def SameGeo (t t':TickT):Prop:=t'.slots=t.slots/\t'.gens=t.gens/\t'.blocks=t.blocks
theorem SameGeo.refl (t:TickT):SameGeo t t:=⟨rfl,rfl,rfl⟩
theorem SameGeo.trans {t t' t'':TickT} (h:SameGeo t t') (k:SameGeo t' t''):SameGeo t t'':=⟨k.1.trans h.1,k.2.1.trans h.2.1,k.2.2.trans h.2.2⟩

structure Made (s:StoreT) (t:TickT) (d:DeskT) (xs:List Int) (h:HandT) (k v:Int) (r:MR):Prop where
 e:r.e=0
 hand:r.h=h
 inv:NInv r.s r.t (zb6 d r.a) (r.a :: xs)
 env:Env s r.s
 new:r.a∉xs
 node:readT r.s.ws r.a=mkN h k v
 oth:∀c∈xs,readT r.s.ws c=readT s.ws c
 geo:SameGeo t r.t
 at2:2 <= r.a
theorem mk_step {s:StoreT} {t:TickT} {d:DeskT} {xs:List Int} (h:NInv s t d xs) (hf:4 <= freeN s.a) {a:Nat} {g:Int} (hn:zeU t.slots d=some (a,g)) {k v:Int} (hk:I64 k) (hv:I64 v) :
  Made s t d xs ⟨(a:Int),g⟩ k v (zb7 s t k v):=by
 obtain ⟨n1,n2,n3,_⟩:=zyE h.inv hn
 have hg:=ziZ n1
 have eH:zgX s.ws t=⟨(a:Int),g⟩:=by
  rw [zgX,if_pos n1,n2,n3]; congr 1; omega
 obtain ⟨d1,d2,d3,d4,d5,d6,d7⟩:=qeS h.inv hn 0
 have hok:zbJ (mkN ⟨(a:Int),g⟩ k v):=⟨by simp only [mkN]; omega,by simp only [mkN]; omega,by simp only [mkN]; omega,by simp only [mkN]; omega,by simp [mkN],fun c hc=>(by cases hc)⟩
 have hI:EntI (mkN ⟨(a:Int),g⟩ k v).e:=⟨⟨by simp only [mkN]; omega,by simp only [mkN]; omega⟩,⟨by simp only [mkN]; omega,by simp only [mkN]; omega⟩,hk,hv⟩
 have h64:=zqQ hok
 have hOct:=zcW (mkN ⟨(a:Int),g⟩ k v)
 have eW:mkW s t k v=makeR s (zaJ (mkN ⟨(a:Int),g⟩ k v)):=by rw [mkW,eH]
 rcases make_step h.inv.good hOct h64 with S | N
 ·rw [<- eW] at S
  generalize hr:mkW s t k v=r at S
  have hn3:=h.W.2.1
  have hlt:=S.lt
  have hge:=S.ge
  have hnew:r.at_∉xs:=fun hc=>by
   rcases S.kind with q | q
   ·have:=S.ge; omega
   ·exact q (inS_held.2 (.inl (h.inv.tree.sh.xw _ hc).2))
  have T1:TInvX (fun c=>c∈r.at_ :: xs) r.s t d:=(zxC h.inv S (.inl rfl)).congr fun c=>by
   rw [List.mem_cons]
   exact ⟨fun q=>q.imp_right fun q=>q.1,fun q=>q.imp_right fun q=>⟨q,by have:=(h.range q).1; omega⟩⟩
  have hfr:=S.free
  obtain ⟨i1,i2,i3,i4,i5⟩:=qgQ T1 (by omega) (at_:=r.at_) (by omega) hn
  have geo:=qp1 i1
  have eR:zb7 s t k v=⟨issS r.s t r.at_,issT r.s t r.at_,r.at_,⟨(a:Int),g⟩,0⟩:=by
   rw [zb7,if_pos n1,eH,if_pos hok,hr,if_pos S.e,if_pos i1,i2]
  obtain ⟨d1,d2,d3,d4,d5,d6,d7⟩:=qeS h.inv hn r.at_
  have hoth:∀c∈r.at_ :: xs,zaV (issS r.s t r.at_).ws c=zaV r.s.ws c:=fun c hc=>by rw [i3]; exact i4.oth c hc
  have hlns:za2 (issS r.s t r.at_).ws=za2 r.s.ws:=by rw [i3]; exact i4.lns
  have hnode:readE (issS r.s t r.at_).ws r.at_=0/\readT (issS r.s t r.at_).ws r.at_=mkN ⟨(a:Int),g⟩ k v :=
   zvA S.ge (by rw [hlns,S.lns]; have:=h.inv.good.lines; omega) (by rw [hoth _ (List.mem_cons_self ..),S.at']) hok hI
  have hsame:∀c∈xs,readE (issS r.s t r.at_).ws c=readE s.ws c/\readT (issS r.s t r.at_).ws c=readT s.ws c:=fun c hc =>
   zhF (hlns.trans S.lns) (by rw [hoth c (List.mem_cons_of_mem _ hc),S.oth c fun e=>hnew (e ▸ hc)])
  have hne:∀c∈xs,(readT s.ws c).e.slot.toNat≠a:=fun c hc e=>by
   have:=h.node c hc
   have hr2:=(h.range hc).1
   rw [<- this.2.2,e,d4] at hr2; omega
  rw [eR]
  refine ⟨rfl,rfl,⟨i5,List.nodup_cons.2 ⟨hnew,h.nd⟩,fun c hc=>?_,fun i hi hb=>?_⟩,(S.env (.inl rfl)).trans (by simp only; rw [i3]; exact i4.env),hnew,hnode.2,fun c hc=>(hsame c hc).2,⟨geo.1,geo.2.1,geo.2.2⟩,S.ge⟩
  ·rcases List.mem_cons.1 hc with e | hc
   ·subst e
    simp only
    rw [hnode.2]
    have e1:(entH (mkN ⟨(a:Int),g⟩ k v).e).slot.toNat=a:=by simp [mkN]
    refine ⟨hnode.1,⟨by simp only [mkN]; omega,?_,by rw [d2,e1,if_pos rfl]; rfl,by rw [d1,e1,if_pos rfl]; omega⟩,?_⟩
    ·have:=(d3 a).2 (.inr rfl)
     simp only [mkN]; omega
    ·rw [d1,if_pos (by simp [mkN])]
   ·simp only
    rw [(hsame c hc).1,(hsame c hc).2]
    obtain ⟨q1,q2,q3⟩:=h.node c hc
    have hns:=hne c hc
    obtain ⟨l1,l2,l3,l4⟩:=q2
    simp only at l1 l2 l3 l4
    refine ⟨q1,⟨l1,?_,by rw [d2,if_neg hns]; exact l3,by rw [d1,if_neg hns]; exact l4⟩,by rw [d1,if_neg hns]; exact q3⟩
    have:=(d3 (readT s.ws c).e.slot.toNat).2 (.inl (by omega))
    simp only; omega
  ·simp only at hi hb ⊢
   rw [d1] at hb ⊢
   by_cases e:i=a
   ·rw [if_pos e]
    refine ⟨List.mem_cons_self ..,?_⟩
    rw [hnode.2,e]; rfl
   ·rw [if_neg e] at hb ⊢
    have hil:=(d3 i).1 hi
    obtain ⟨q1,q2⟩:=h.live i (hil.resolve_right e) hb
    exact ⟨List.mem_cons_of_mem _ q1,by rw [(hsame _ q1).2]; exact q2⟩
 ·obtain ⟨_,_,q,_⟩:=N
  omega

structure Turned (s:StoreT) (t:TickT) (d:DeskT) (xs:List Int) (a:Int) (n:NodeT) (d':DeskT) (r:TR):Prop where
 e:r.e=0
 inv:NInv r.s r.t d' (r.a :: xs.erase a)
 env:Env s r.s
 new:r.a=a\/r.a∉xs
 node:readT r.s.ws r.a=n
 oth:∀c∈xs,c≠a->readT r.s.ws c=readT s.ws c
 geo:SameGeo t r.t
 gens:d'.gens=d.gens
 free:d'.free=d.free
 blk:∀i,bAt d' i=if i=n.e.slot.toNat then r.a else bAt d i
 mkd:InS s.a.n s.a.m a->r.a≠a
 nmk:¬InS s.a.n s.a.m a->r.a=a
 at2:2 <= r.a/\r.a<3072
theorem tu_step {s:StoreT} {t:TickT} {d:DeskT} {xs:List Int} (h:NInv s t d xs) (hf:4 <= freeN s.a) {a:Int} (ha:a∈xs) {n:NodeT} (hok:zbJ n) (hI:zd1 n) (hh:entH n.e=entH (readT s.ws a).e) :
  ∃d',Turned s t d xs a n d' (zf3 s t a n):=by
 have h64:=zqQ hok
 have hOct:=zcW n
 have hra:=h.range ha
 have hwa:=(h.inv.tree.sh.xw a ha).2
 have eL:tuW s a n=layR s a (zaJ n) true:=by rw [tuW,layR,if_pos rfl,if_neg (by omega)]
 have hst:=zpD h.inv.good hOct h64 (a:=a) (.inr ⟨hra.1,hwa⟩)
 rw [<- eL] at hst
 obtain ⟨na,la,ba⟩:=h.node a ha
 have es:n.e.slot=(readT s.ws a).e.slot:=congrArg HandT.slot hh
 rcases hst with S | N
 ·generalize hr:tuW s a n=r at S
  have hn3:=h.W.2.1
  have hlt:=S.lt
  have hnew:r.at_=a\/r.at_∉xs:=by
   rcases S.kind with q | q
   ·exact .inl q.1
   ·exact .inr fun hc=>q (inS_held.2 (.inl (h.inv.tree.sh.xw _ hc).2))
  have hnd:(r.at_ :: xs.erase a).Nodup:=by
   refine List.nodup_cons.2 ⟨fun hc=>?_,h.nd.erase a⟩
   rcases hnew with q | q
   ·rw [q] at hc; exact (List.Nodup.mem_erase_iff h.nd).1 hc |>.1 rfl
   ·exact q (List.mem_of_mem_erase hc)
  have T1:TInvX (fun c=>c∈r.at_ :: xs.erase a) r.s t d:=(zxC h.inv S (.inr ha)).congr fun c=>by
   rw [List.mem_cons,List.Nodup.mem_erase_iff h.nd]
   exact ⟨fun q=>q.imp_right fun q=>⟨q.2,q.1⟩,fun q=>q.imp_right fun q=>⟨q.2,q.1⟩⟩
  have hfr:=S.free
  have hlines:=h.inv.good.lines
  have hSsame:∀c∈xs,c≠a->zaV r.s.ws c=zaV s.ws c:=fun c hc hne=>S.oth c fun e=>by
   rcases hnew with q | q
   ·exact hne (e.trans q)
   ·exact q (e ▸ hc)
  have hle:liveD d (entH n.e):=by rw [hh]; exact la
  obtain ⟨s1,s2⟩:=zlR T1 hle
  have eN:(seatX r.s.ws t (entH n.e)).next=a:=by rw [s2]; simp only [es]; exact ba
  have hslot:∀c∈xs,c≠a->(readT s.ws c).e.slot.toNat≠n.e.slot.toNat:=fun c hc hne e=>by
   have:=(h.node c hc).2.2
   rw [e,es,ba] at this
   exact hne this.symm
  by_cases hat:r.at_=a
  ·have eR:zf3 s t a n=⟨r.s,t,r.at_,0⟩:=by
    rw [zf3,if_pos hok,hr,if_pos S.e,if_pos s1,if_pos (by rw [eN,hat])]
   have hnode:=zvA (n:=n) S.ge (by rw [S.lns]; omega) S.at' hok hI.1
   refine ⟨d,?_⟩
   rw [eR]
   refine ⟨rfl,⟨T1,hnd,fun c hc=>?_,fun i hi hb=>?_⟩,S.env (.inr hra.1),hnew,hnode.2,fun c hc hne=>(zhF S.lns (hSsame c hc hne)).2,SameGeo.refl t,rfl,rfl,fun i=>?_,fun hm q=>?_,fun _=>hat,⟨S.ge,by simp only; omega⟩⟩
   ·rcases List.mem_cons.1 hc with e | hc
    ·subst e
     simp only
     rw [hnode.2]
     exact ⟨hnode.1,hle,by rw [es,ba,hat]⟩
    ·have hc':=(List.Nodup.mem_erase_iff h.nd).1 hc
     have k:=zhF S.lns (hSsame c hc'.2 hc'.1)
     simp only
     rw [k.1,k.2]; exact h.node c hc'.2
   ·obtain ⟨q1,q2⟩:=h.live i hi hb
    by_cases e:bAt d i=a
    ·simp only [e]
     refine ⟨by rw [hat]; exact List.mem_cons_self ..,?_⟩
     rw [e] at q2
     rw [<- hat,hnode.2,es]; exact q2
    ·exact ⟨List.mem_cons_of_mem _ ((List.Nodup.mem_erase_iff h.nd).2 ⟨e,q1⟩),by simp only; rw [(zhF S.lns (hSsame _ q1 e)).2]; exact q2⟩
   ·split
    ·rename_i e; rw [e,es,ba,hat]
    ·rfl
   ·rcases S.kind with k | k
    ·exact k.2 hm
    ·exact k (by rw [hat]; exact inS_held.2 (.inl hwa))
  ·obtain ⟨p1,p2,p3,p4⟩:=qgE T1 (by omega) hle (at_:=r.at_) (by have:=S.ge; omega)
   have geo:=qpP p1
   have eR:zf3 s t a n=⟨poiS r.s t (entH n.e) r.at_,poiT r.s t (entH n.e) r.at_,r.at_,0⟩:=by
    rw [zf3,if_pos hok,hr,if_pos S.e,if_pos s1,if_neg (by rw [eN]; exact fun q=>hat q.symm),if_pos p1]
   have hnx:r.at_∉xs:=hnew.resolve_left hat
   have hoth:∀c∈r.at_ :: xs.erase a,zaV (poiS r.s t (entH n.e) r.at_).ws c=zaV r.s.ws c:=fun c hc=>by rw [p2]; exact p3.oth c hc
   have hlns:za2 (poiS r.s t (entH n.e) r.at_).ws=za2 r.s.ws:=by rw [p2]; exact p3.lns
   have hnode:=zvA (n:=n) (ws:=(poiS r.s t (entH n.e) r.at_).ws) S.ge (by rw [hlns,S.lns]; omega) (by rw [hoth _ (List.mem_cons_self ..),S.at']) hok hI.1
   have hsame:∀c∈xs,c≠a->readE (poiS r.s t (entH n.e) r.at_).ws c=readE s.ws c/\readT (poiS r.s t (entH n.e) r.at_).ws c=readT s.ws c:=fun c hc hne =>
    zhF (hlns.trans S.lns) (by rw [hoth c (List.mem_cons_of_mem _ ((List.Nodup.mem_erase_iff h.nd).2 ⟨hne,hc⟩)),hSsame c hc hne])
   have hlb:=h.inv.lenb
   have hsl:n.e.slot.toNat<d.gens.length:=by have:=hle.1; have:=hle.2.1; simp only at *; omega
   have eb:∀i,bAt (zh8 d n.e.slot.toNat r.at_) i=if i=n.e.slot.toNat then r.at_ else bAt d i:=fun i=>by rw [bAt,zh8,zfF (by omega)]; rfl
   refine ⟨zh8 d n.e.slot.toNat r.at_,?_⟩
   rw [eR]
   refine ⟨rfl,⟨p4,hnd,fun c hc=>?_,fun i hi hb=>?_⟩,(S.env (.inr hra.1)).trans (by simp only; rw [p2]; exact p3.env),hnew,hnode.2,fun c hc hne=>(hsame c hc hne).2,⟨geo.1,geo.2.1,geo.2.2⟩,rfl,rfl,eb,fun _=>hat,fun hm=>absurd (S.turned (by omega) hat) hm,⟨S.ge,by simp only; omega⟩⟩
   ·rcases List.mem_cons.1 hc with e | hc
    ·subst e
     simp only
     rw [hnode.2]
     obtain ⟨l1,l2,l3,l4⟩:=hle
     exact ⟨hnode.1,⟨l1,l2,l3,by rw [eb,if_pos rfl]; have:=S.ge; omega⟩,by rw [eb,if_pos rfl]⟩
    ·have hc':=(List.Nodup.mem_erase_iff h.nd).1 hc
     have k:=hsame c hc'.2 hc'.1
     simp only
     rw [k.1,k.2]
     obtain ⟨q1,⟨l1,l2,l3,l4⟩,q3⟩:=h.node c hc'.2
     have hns:=hslot c hc'.2 hc'.1
     exact ⟨q1,⟨l1,l2,l3,by rw [eb,if_neg hns]; exact l4⟩,by rw [eb,if_neg hns]; exact q3⟩
   ·simp only at hb ⊢
    rw [eb] at hb ⊢
    by_cases e:i=n.e.slot.toNat
    ·rw [if_pos e]
     refine ⟨List.mem_cons_self ..,?_⟩
     rw [hnode.2,e]
     have:=hle.1; simp only at this; omega
    ·rw [if_neg e] at hb ⊢
     obtain ⟨q1,q2⟩:=h.live i hi hb
     have hne:bAt d i≠a:=fun k=>e (by rw [k] at q2; rw [es,q2,Int.toNat_natCast])
     exact ⟨List.mem_cons_of_mem _ ((List.Nodup.mem_erase_iff h.nd).2 ⟨hne,q1⟩),by rw [(hsame _ q1 hne).2]; exact q2⟩
 ·obtain ⟨_,_,q,_⟩:=N
  omega


theorem ze3 {a b c:EntT} (h:ahead a b) (k:ahead b c):ahead a c:=by
 unfold ahead at *
 split at h <;> split at k <;> (try split at h) <;> (try split at k) <;> split <;> (try split) <;> omega
theorem zzY (a:EntT):¬ahead a a:=by unfold ahead; simp
theorem qc2 {a b:EntT} (h:ahead a b):¬ahead b a:=fun k=>zzY a (ze3 h k)
theorem zlG {a b:EntT} (h:entH a≠entH b):ahead a b\/ahead b a:=by
 unfold ahead
 by_cases h1:a.key=b.key
 ·by_cases h2:a.slot=b.slot
  ·by_cases h3:a.gen=b.gen
   ·exact absurd (by simp [h2,h3]) h
   ·rw [if_pos h1,if_pos h2,if_pos h1.symm,if_pos h2.symm]; omega
  ·rw [if_pos h1,if_neg h2,if_pos h1.symm,if_neg (fun e=>h2 e.symm)]; omega
 ·rw [if_neg h1,if_neg (fun e=>h1 e.symm)]; omega

theorem node_ok {s:StoreT} {t:TickT} {d:DeskT} {xs:List Int} (h:NInv s t d xs) {a:Int} (ha:a∈xs):zbJ (readT s.ws a):=by
 have e:=(h.node a ha).1
 rw [readT,if_pos e]
 exact (zeH.1 e).2.2.2.2.1
theorem qb5 {s:StoreT} {t:TickT} {d:DeskT} {xs:List Int} (h:NInv s t d xs) {a b:Int} (ha:a∈xs) (hb:b∈xs) (hne:a≠b):entH (readT s.ws a).e≠entH (readT s.ws b).e:=fun e=>by
 have e1:(readT s.ws a).e.slot=(readT s.ws b).e.slot:=congrArg HandT.slot e
 have h1:=(h.node a ha).2.2
 have h2:=(h.node b hb).2.2
 rw [e1,h2] at h1
 exact hne h1.symm

theorem lk_step {s:StoreT} {t:TickT} {d:DeskT} {xs:List Int} (h:NInv s t d xs) (hf:4 <= freeN s.a) {a b:Int} (ha:a∈xs) (hb:b∈xs) (hne:a≠b)
  (hk:(readT s.ws a).kids.length=(readT s.ws b).kids.length) (h12:(readT s.ws a).kids.length<12) :
  ∃p c d',((p=a/\c=b)\/(p=b/\c=a))/\ahead (readT s.ws p).e (readT s.ws c).e/\Turned s t d xs p ⟨(readT s.ws p).e,(readT s.ws p).kids++[c]⟩ d' (lkRes s t a b):=by
 have go:∀p c:Int,p∈xs->c∈xs->(readT s.ws p).kids.length<12->lkRes s t a b=zf3 s t p ⟨(readT s.ws p).e,(readT s.ws p).kids++[c]⟩->∃d',Turned s t d xs p ⟨(readT s.ws p).e,(readT s.ws p).kids++[c]⟩ d' (lkRes s t a b):=fun p c hp hc hl e=>by
  rw [e]
  have ho:=node_ok h hp
  have hr:=h.range hc
  have hI:=zqP s.ws p
  refine tu_step h hf hp ⟨ho.1,ho.2.1,ho.2.2.1,ho.2.2.2.1,?_,fun k hk=>?_⟩ ⟨hI.1,fun k hk=>?_,?_⟩ rfl
  ·simp only [List.length_append,List.length_cons,List.length_nil]; omega
  ·rcases List.mem_append.1 hk with q | q
   ·exact ho.2.2.2.2.2 k q
   ·rw [List.mem_singleton.1 q]; unfold zd6; omega
  ·rcases List.mem_append.1 hk with q | q
   ·exact hI.2.1 k q
   ·rw [List.mem_singleton.1 q]; exact ⟨by omega,by omega⟩
  ·simp only [List.length_append,List.length_cons,List.length_nil]; omega
 have ea:=(h.node a ha).1
 have eb:=(h.node b hb).1
 have hno:¬(a=b\/(readT s.ws a).kids.length≠(readT s.ws b).kids.length\/(readT s.ws a).kids.length=12):=by
  rintro (k | k | k)
  ·exact hne k
  ·exact k hk
  ·omega
 by_cases hc:zgT (readT s.ws b).e (readT s.ws a).e<0
 ·obtain ⟨d',T⟩:=go b a hb ha (by omega) (by rw [lkRes,if_pos ea,if_pos eb,if_neg hno,if_pos hc])
  exact ⟨b,a,d',.inr ⟨rfl,rfl⟩,zgJ.1 hc,T⟩
 ·obtain ⟨d',T⟩:=go a b ha hb h12 (by rw [lkRes,if_pos ea,if_pos eb,if_neg hno,if_neg hc])
  exact ⟨a,b,d',.inl ⟨rfl,rfl⟩,(zlG (qb5 h ha hb hne)).resolve_right fun k=>hc (zgJ.2 k),T⟩

end Yard
