import Derived.Test.YtlihikockhjodaaGreatDoorForest5
import Derived.Test.YtlihikockhjodaaGreatDoorWfOps

namespace Yard
open Go Go.Sx Go.Proofs
set_option linter.unusedVariables false
set_option linter.unusedSimpArgs false
set_option maxRecDepth 4000
set_option maxHeartbeats 4000000

structure Roomy (s:StoreT) (t:TickT):Prop where
 lt:t.slots <= 112
 room:RoomK s.a.n (4+(t.slots.toNat+6) / 7+t.slots.toNat) s
 big:14+2*((t.slots.toNat+6) / 7)+2*t.slots.toNat <= s.a.n
structure Yd (s:StoreT) (t:TickT) (d:DeskT) (G:List GT):Prop where
 gr:Grove s t d G
 roomy:Roomy s t
 w01:W01 s
theorem Roomy.env {s s':StoreT} {t t':TickT} (h:Roomy s t) (e:Env s s') (g:SameGeo t t'):Roomy s' t' :=
 ⟨by rw [g.1]; exact h.lt,by rw [g.1,e.n]; exact h.room.env e,by rw [g.1,e.n]; exact h.big⟩
theorem qbN {s:StoreT} {t:TickT} {d:DeskT} {xs:List Int} (h:NInv s t d xs):0 <= t.high/\t.high <= t.slots/\xs.length <= t.high.toNat:=by
 have h1:=h.len
 have h2:=h.inv.high
 have h3:=h.inv.len
 omega
theorem znD {s:StoreT} {t:TickT} {d:DeskT} {xs:List Int} (h:NInv s t d xs) (r:Roomy s t):4 <= freeN s.a:=by
 obtain ⟨a1,a2,a3⟩:=qbN h
 have:=r.lt
 have f:=qfW h.inv r.room (by omega)
 have:=r.big
 omega
theorem Roomy.mark {s:StoreT} {t:TickT} {d:DeskT} {xs:List Int} (r:Roomy s t) (h:NInv s t d xs):Roomy (znS s) t:=by
 obtain ⟨a1,a2,a3⟩:=qbN h
 have:=r.lt
 have R:=qfV h.inv r.room (by omega)
 exact ⟨r.lt,R.le (by omega),r.big⟩
theorem Yd.mark {s:StoreT} {t:TickT} {d:DeskT} {G:List GT} (h:Yd s t d G):Yd (znS s) t d G:=⟨h.gr.mark,h.roomy.mark h.gr.inv,h.w01.mark⟩
theorem Yd.perm {s:StoreT} {t:TickT} {d:DeskT} {G K:List GT} (h:Yd s t d G) (p:G.Perm K):Yd s t d K:=⟨h.gr.perm p,h.roomy,h.w01⟩
theorem yd_made {n:Nat} {sl:Int} (h1:1 <= sl) (h2:sl <= 112) (h3:14+2*((sl.toNat+6) / 7)+2*sl.toNat <= n) (h4:n <= 3072):Yd (zd5 n 0) (zp1 (n:Int) sl 100) qhD [] :=
 ⟨⟨qkO (by omega) h4 ⟨by omega,by omega,by omega,by omega,by omega,by omega⟩,fun g hg=>(by cases hg)⟩,⟨h2,(roomK_made n).le (by show 2 <= 4+(sl.toNat+6) / 7+sl.toNat; omega),h3⟩,qn8 (by omega)⟩
theorem yd_make {s:StoreT} {t:TickT} {d:DeskT} {G:List GT} (h:Yd s t d G) {a:Nat} {g:Int} (hn:zeU t.slots d=some (a,g)) {k v:Int} (hk:I64 k) (hv:I64 v) :
  Made s t d (gB G) ⟨(a:Int),g⟩ k v (zb7 s t k v)/\Yd (zb7 s t k v).s (zb7 s t k v).t (zb6 d (zb7 s t k v).a) ((0,(zb7 s t k v).a,[⟨(a:Int),g,k,v⟩],[(zb7 s t k v).a]) :: G):=by
 have M:=mk_step h.gr.inv (znD h.gr.inv h.roomy) hn hk hv
 exact ⟨M,qgV h.gr M,h.roomy.env M.env M.geo,h.w01.env M.env⟩

def fKn (r:Nat->Int):Nat->List (Nat×Int)
 | 0=>[]
 | n+1=>fKn r n++if r n=0 then [] else [(n,r n)]
def fK (r:Nat->Int):List (Nat×Int):=fKn r 12
theorem zzJ {r r':Nat->Int}:∀n,(∀i,i<n->r i=r' i)->fKn r n=fKn r' n
 | 0,_=>rfl
 | n+1,h=>by rw [fKn,fKn,zzJ n fun i hi=>h i (by omega),h n (by omega)]
theorem zn4 {r:Nat->Int} {x:Nat×Int}:∀{n},x∈fKn r n ↔ x.1<n/\x.2=r x.1/\r x.1≠0
 | 0=>by simp [fKn]
 | n+1=>by
   rw [fKn,List.mem_append,zn4 (n:=n)]
   by_cases hz:r n=0
   ·rw [if_pos hz]
    simp only [List.not_mem_nil,or_false]
    refine ⟨fun h=>⟨by omega,h.2⟩,fun h=>⟨?_,h.2⟩⟩
    have:=h.1
    by_cases e:x.1=n
    ·rw [e] at h; exact absurd hz h.2.2
    ·omega
   ·rw [if_neg hz,List.mem_singleton]
    constructor
    ·rintro (h | h)
     ·exact ⟨by omega,h.2⟩
     ·rw [h]; exact ⟨by simp,rfl,hz⟩
    ·intro h
     by_cases e:x.1=n
     ·right
      obtain ⟨x1,x2⟩:=x
      simp only at e h
      rw [e] at h
      rw [e,h.2.1]
     ·left; exact ⟨by omega,h.2⟩
theorem qmA {r:Nat->Int} {k:Nat} {v:Int} (hz:r k=0) (hv:v≠0):∀n,k<n->(fKn (updR r k v) n).Perm ((k,v) :: fKn r n)
 | 0,h=>absurd h (Nat.not_lt_zero _)
 | n+1,h=>by
   rw [fKn,fKn]
   by_cases e:k=n
   ·subst e
    have e1:fKn (updR r k v) k=fKn r k:=zzJ k fun i hi=>by unfold updR; rw [if_neg (by omega)]
    have e2:updR r k v k=v:=by unfold updR; rw [if_pos rfl]
    rw [e1,e2,if_neg hv,if_pos hz,List.append_nil]
    exact List.perm_append_singleton _ _
   ·have e2:updR r k v n=r n:=by unfold updR; rw [if_neg (fun q=>e q.symm)]
    rw [e2]
    exact (qmA hz hv n (by omega)).append_right _
theorem qrM {r:Nat->Int} {k:Nat} {v:Int} (hk:k<12) (hz:r k=0) (hv:v≠0):(fK (updR r k v)).Perm ((k,v) :: fK r):=qmA hz hv 12 hk
theorem qmB {r:Nat->Int} {k:Nat} (hk:k<12) (hn:r k≠0):(fK r).Perm ((k,r k) :: fK (updR r k 0)):=by
 have:=qrM (r:=updR r k 0) (v:=r k) hk (by unfold updR; rw [if_pos rfl]) hn
 have e:updR (updR r k 0) k (r k)=r:=funext fun i=>by
  unfold updR
  by_cases h:i=k
  ·rw [if_pos h,h]
  ·rw [if_neg h,if_neg h]
 rwa [e] at this
theorem zqF {r:Nat->Int} {k:Nat} {v:Int} (hz:r k=0) (hv:v≠0):∀n,k<n->rootN (updR r k v) n=rootN r n+2 ^ k
 | 0,h=>absurd h (Nat.not_lt_zero _)
 | n+1,h=>by
   have cg:∀m,m <= k->rootN (updR r k v) m=rootN r m:=fun m=>by
    induction m with
    | zero=>intro _; rfl
    | succ m ih =>
      intro hm
      rw [rootN,rootN,ih (by omega)]
      have:updR r k v m=r m:=by unfold updR; rw [if_neg (by omega)]
      rw [this]
   rw [rootN,rootN]
   by_cases e:k=n
   ·subst e
    have e2:updR r k v k=v:=by unfold updR; rw [if_pos rfl]
    rw [e2,if_neg hv,if_pos hz,cg k (Nat.le_refl _)]; rfl
   ·have e2:updR r k v n=r n:=by unfold updR; rw [if_neg (fun q=>e q.symm)]
    rw [e2,zqF hz hv n (by omega)]; omega
theorem ztA {r:Nat->Int} {k n:Nat} (hk:k<n) (hn:r k≠0):rootN r n=rootN (updR r k 0) n+2 ^ k:=by
 have:=zqF (r:=updR r k 0) (v:=r k) (by unfold updR; rw [if_pos rfl]) hn n hk
 have e:updR (updR r k 0) k (r k)=r:=funext fun i=>by
  unfold updR
  by_cases h:i=k
  ·rw [if_pos h,h]
  ·rw [if_neg h,if_neg h]
 rwa [e] at this

def gK (G:List GT):List (Nat×Int):=G.map fun g=>(g.1,g.2.1)
theorem zpI {G:List GT} {x:Nat×Int} {l:List (Nat×Int)} (h:(gK G).Perm (x :: l)):∃p G',G.Perm ((x.1,x.2,p) :: G')/\(gK G').Perm l:=by
 have hm:x∈gK G:=h.mem_iff.2 (List.mem_cons_self ..)
 obtain ⟨g,hg,e⟩:=List.mem_map.1 hm
 obtain ⟨A,B,rfl⟩:=List.append_of_mem hg
 refine ⟨g.2.2,A++B,?_,?_⟩
 ·rw [<- e]; exact List.perm_middle
 ·have h2:(gK (A++g :: B)).Perm (x :: gK (A++B)):=by
   unfold gK
   simp only [List.map_append,List.map_cons]
   rw [<- e]; exact List.perm_middle
  exact (List.perm_cons x).1 (h2.symm.trans h)

structure Added (s:StoreT) (t:TickT) (d:DeskT) (r:Nat->Int) (k:Nat) (es:List EntT) (R:List GT) (d':DeskT) (G':List GT) (q:FR):Prop where
 e:q.e=0
 yd:Yd q.s q.t d' (G'++R)
 roots:(gK G').Perm (fK q.r)
 es:(gE G').Perm es
 env:Env s q.s
 geo:SameGeo t q.t
 gens:d'.gens=d.gens
 free:d'.free=d.free
 cnt:rootN q.r 12=rootN r 12+2 ^ k
 ri:∀i,i<k->q.r i=r i
theorem qhR:∀(n k:Nat) (s:StoreT) (t:TickT) (d:DeskT) (r:Nat->Int) (a:Int) (p:EB) (G R:List GT),k+n=12->Yd s t d ((k,a,p) :: (G++R))->(gK G).Perm (fK r)->(∃j,k <= j/\j<12/\r j=0) ->
  ∃d' G',Added s t d r k (p.1++gE G) R d' G' (addF n k s t r a)
 | 0,k,s,t,d,r,a,p,G,R,hk,_,_,⟨j,j1,j2,_⟩=>by omega
 | n+1,k,s,t,d,r,a,p,G,R,hk,h,hG,hj=>by
   have ha:(k,a,p)∈(k,a,p) :: (G++R):=List.mem_cons_self ..
   obtain ⟨nd,ra,qa,n1,n2,n3,n4⟩:=zcR (h.gr.tr _ ha)
   simp only at n1 n4
   have hab:a∈gB ((k,a,p) :: (G++R)):=zi9 ha (by simp only; rw [n4]; exact List.mem_cons_self ..)
   have har:=h.gr.inv.range hab
   rw [addF]
   by_cases hz:r k=0
   ·rw [if_pos hz]
    refine ⟨d,(k,a,p) :: G,rfl,h,?_,?_,Env.refl s,SameGeo.refl t,rfl,rfl,zqF hz (by omega) 12 (by omega),fun i hi=>by show updR r k a i=r i; unfold updR; rw [if_neg (by omega)]⟩
    ·exact (List.Perm.cons (k,a) hG).trans (qrM (by omega) hz (by omega)).symm
    ·rw [znY]
   ·rw [if_neg hz]
    have h11:k≠11:=fun e=>by
     obtain ⟨j,j1,j2,j3⟩:=hj
     have:j=k:=by omega
     subst this
     exact hz j3
    rw [if_neg h11]
    obtain ⟨q,G1,hp,hG1⟩:=zpI (hG.trans (qmB (by omega) hz))
    simp only at hp
    have pm:((k,a,p) :: (G++R)).Perm ((k,r k,q) :: (k,a,p) :: (G1++R)):=((hp.append_right R).cons _).trans (List.Perm.swap ..)
    have h':=h.perm pm
    obtain ⟨d',p',L⟩:=qgW h'.gr (znD h'.gr.inv h'.roomy) (by omega)
    rw [if_pos L.e]
    generalize lkRes s t (r k) a=w at L ⊢
    have hY:Yd w.s w.t d' ((k+1,w.a,p') :: (G1++R)):=⟨L.gr,h'.roomy.env L.env L.geo,h'.w01.env L.env⟩
    have hj':∃j,k+1 <= j/\j<12/\updR r k 0 j=0:=by
     obtain ⟨j,j1,j2,j3⟩:=hj
     have hne:j≠k:=fun e=>hz (e ▸ j3)
     exact ⟨j,by omega,j2,by unfold updR; rw [if_neg hne]; exact j3⟩
    obtain ⟨d2,G2,A⟩:=qhR n (k+1) w.s w.t d' (updR r k 0) w.a p' G1 R (by omega) hY hG1 hj'
    refine ⟨d2,G2,A.e,A.yd,A.roots,A.es.trans ?_,L.env.trans A.env,L.geo.trans A.geo,A.gens.trans L.gens,A.free.trans L.free,?_,fun i hi=>?_⟩
    ·have e1:=zv4 hp
     rw [znY] at e1
     refine (L.es.append_right _).trans ?_
     refine List.Perm.trans ?_ (e1.symm.append_left p.1)
     rw [<- List.append_assoc]
     exact List.perm_append_comm.append_right _
    ·rw [A.cnt,ztA (show k<12 by omega) hz,Nat.pow_succ]; omega
    ·rw [A.ri i (by omega)]; unfold updR; rw [if_neg (by omega)]
theorem ztB:∀(r:Nat->Int) (k n:Nat),k <= n->(∀j,k <= j->j<n->r j≠0)->2 ^ n <= rootN r n+2 ^ k
 | r,k,0,h,_=>by have:k=0:=by omega
                 subst this; simp [rootN]
 | r,k,n+1,h,hj=>by
   by_cases e:k=n+1
   ·subst e; omega
   ·have:=ztB r k n (by omega) fun j h1 h2=>hj j h1 (by omega)
    rw [rootN,if_neg (hj n (by omega) (by omega)),Nat.pow_succ]; omega
theorem qq4 {s:StoreT} {t:TickT} {d:DeskT} {r:Nat->Int} {k:Nat} {a:Int} {p:EB} {G R:List GT} (h:Yd s t d ((k,a,p) :: (G++R))) (hG:(gK G).Perm (fK r)) (hc:rootN r 12+2 ^ k<4096) (hk:k <= 12) :
  ∃d' G',Added s t d r k (p.1++gE G) R d' G' (addR s t r a):=by
 have ha:(k,a,p)∈(k,a,p) :: (G++R):=List.mem_cons_self ..
 obtain ⟨nd,ra,qa,n1,n2,n3,n4⟩:=zcR (h.gr.tr _ ha)
 simp only at n1 n2 n4
 have hab:a∈gB ((k,a,p) :: (G++R)):=zi9 ha (by simp only; rw [n4]; exact List.mem_cons_self ..)
 have e:=h.gr.inv.nd' hab
 rw [n1] at e
 have e:=Option.some.inj e
 have hex:∃j,k <= j/\j<12/\r j=0:=Classical.byContradiction fun hno=>by
  have:=ztB r k 12 hk fun j h1 h2 h3=>hno ⟨j,h1,h2,h3⟩
  omega
 rw [addR,if_pos (h.gr.inv.node a hab).1,<- e,n2]
 exact qhR (12-k) k s t d r a p G R (by omega) h hG hex


theorem zmF {s:StoreT} {a c:Int}:InS (zcN s a).a.n (zcN s a).a.w c ↔ InS s.a.n s.a.w c/\c≠a:=qeB
theorem qmF {s:StoreT} (h:GoodS s) (a:Int):GoodS (zcN s a):=⟨⟨h.W.1,zv1 h.W.2 _⟩,h.lines,h.r0,h.c0,h.c1⟩
theorem qqL (s:StoreT) {a:Int} (ha:2 <= a):Env s (zcN s a):=⟨rfl,rfl,rfl,rfl,rfl,fun _ _=>rfl,fun c h2 hc=>zmF.2 ⟨hc,by omega⟩⟩
theorem qmE {X:Int->Prop} {s:StoreT} {t:TickT} {d:DeskT} (h:TInvX X s t d) {a:Int} (ha:X a):TInvX (fun c=>X c/\c≠a) (zcN s a) t d:=by
 obtain ⟨k1,k2,k3,k4⟩:=zsZ (X':=fun c=>X c/\c≠a) (s':=zcN s a) h.tree (fun _ _ _=>rfl) rfl
  (fun c hc hX=>zmF.2 ⟨hc,fun e=>hX (e ▸ ha)⟩)
  (fun c hc=>by
   obtain ⟨q1,q2⟩:=zmF.1 hc
   by_cases hX:X c
   ·exact .inr ⟨hX,q2⟩
   ·exact .inl ⟨q1,hX⟩)
  (fun c hc=>⟨(h.tree.sh.xw c hc.1).1,zmF.2 ⟨(h.tree.sh.xw c hc.1).2,hc.2⟩,fun _=>hc.1⟩)
 exact ⟨h.ok,h.htop,qmF h.good a,k1,h.high,h.lenb,h.free,h.seats,h.fnd,h.fok,h.gok,h.bok,h.zK,h.zF⟩

structure Popped (s:StoreT) (t:TickT) (d:DeskT) (xs:List Int) (a:Int) (x:HandT) (s':StoreT) (t':TickT) (d':DeskT):Prop where
 inv:NInv s' t' d' (xs.erase a)
 env:Env s s'
 oth:∀c∈xs,c≠a->readT s'.ws c=readT s.ws c
 geo:SameGeo t t'
 desk:d'=zeC t.gens d x.slot.toNat
theorem qpL {s:StoreT} {t:TickT} {d:DeskT} {xs:List Int} (h:NInv s t d xs) (hf:4 <= freeN s.a) {a:Int} (ha:a∈xs) {x:HandT} (hx:x=entH (readT s.ws a).e) :
  relE s t x=0/\zc2 (relS s t x).a a=0/\Popped s t d xs a x (zcN (relS s t x) a) (relT s t x) (zeC t.gens d x.slot.toNat):=by
 obtain ⟨na,la,ba⟩:=h.node a ha
 have hl:liveD d x:=by rw [hx]; exact la
 have hra:=h.range ha
 obtain ⟨r1,r2,r3,r4⟩:=zxN h.inv (by omega) hl
 have hlb:=h.inv.lenb
 have hsl:x.slot.toNat<d.gens.length:=by have:=hl.1; have:=hl.2.1; omega
 have bA:∀i,bAt (zeC t.gens d x.slot.toNat) i=if i=x.slot.toNat then 0 else bAt d i:=fun i=>by rw [bAt,zeC,zfF (by omega)]; rfl
 have hin:InS (relS s t x).a.n (relS s t x).a.w a:=(r4.tree.sh.xw a ha).2
 have hwe:Env s (relS s t x):=by rw [r2]; exact r3.env
 have hls:∀c∈xs,zaV (relS s t x).ws c=zaV s.ws c:=fun c hc=>by rw [r2]; exact r3.oth c hc
 have hsm:∀c∈xs,readE (relS s t x).ws c=readE s.ws c/\readT (relS s t x).ws c=readT s.ws c:=fun c hc=>zhF hwe.lns (hls c hc)
 have ex:x.slot=(readT s.ws a).e.slot:=by rw [hx]
 have hne:∀c∈xs,c≠a->(readT s.ws c).e.slot.toNat≠x.slot.toNat:=fun c hc hca e=>by
  have:=(h.node c hc).2.2
  rw [e,ex,ba] at this
  exact hca this.symm
 have g:=qo3 r1
 refine ⟨r1,by unfold zc2; rw [if_pos hin],?_,hwe.trans (qqL _ hra.1),fun c hc _=>(hsm c hc).2,⟨g.1,g.2.1,g.2.2⟩,rfl⟩
 refine ⟨(qmE r4 ha).congr fun c=>by rw [List.Nodup.mem_erase_iff h.nd]; exact and_comm,h.nd.erase a,fun c hc=>?_,fun i hi hb=>?_⟩
 ·obtain ⟨c1,c2⟩:=(List.Nodup.mem_erase_iff h.nd).1 hc
  obtain ⟨q1,⟨l1,l2,l3,l4⟩,q3⟩:=h.node c c2
  show readE (relS s t x).ws c=0/\_
  rw [(hsm c c2).1]
  show _/\liveD _ (entH (readT (relS s t x).ws c).e)/\bAt _ (readT (relS s t x).ws c).e.slot.toNat=c
  rw [(hsm c c2).2]
  have hn:=hne c c2 c1
  exact ⟨q1,⟨l1,l2,l3,by rw [bA,if_neg hn]; exact l4⟩,by rw [bA,if_neg hn]; exact q3⟩
 ·rw [bA] at hb ⊢
  by_cases e:i=x.slot.toNat
  ·rw [if_pos e] at hb; exact absurd rfl hb
  ·rw [if_neg e] at hb ⊢
   obtain ⟨q1,q2⟩:=h.live i hi hb
   have hca:bAt d i≠a:=fun k=>e (by
    rw [k] at q2
    rw [ex,q2,Int.toNat_natCast])
   refine ⟨(List.Nodup.mem_erase_iff h.nd).2 ⟨hca,q1⟩,?_⟩
   show (readT (relS s t x).ws (bAt d i)).e.slot=_
   rw [(hsm _ q1).2]; exact q2

def kidG (T:Nat->Int->Option EB) (l:List Int):Nat->List GT
 | 0=>[]
 | k+1=>kidG T l k++[(k,l.getD k 0,(T k (l.getD k 0)).getD ([],[]))]
theorem ztU {T:Nat->Int->Option EB} {e:EntT} {a:Int} {l:List Int}:∀{k:Nat} {p:EB},zcV T e a l k=some p ->
  p.1=e :: gE (kidG T l k)/\p.2=a :: gB (kidG T l k)/\(∀g∈kidG T l k,T g.1 g.2.1=some g.2.2/\g.1<k/\g.2.1=l.getD g.1 0)
 | 0,p,h=>by cases h; exact ⟨rfl,rfl,fun g hg=>(by cases hg)⟩
 | k+1,p,h=>by
   obtain ⟨p0,q,h1,h2,h3,h4⟩:=zhK h
   obtain ⟨i1,i2,i3⟩:=ztU h1
   have eT:(T k (l.getD k 0)).getD ([],[])=q:=by rw [h2]; rfl
   subst h4
   rw [kidG,eT]
   refine ⟨by simp only; rw [i1,zhN]; simp [gE],by simp only; rw [i2,zmL]; simp [gB],fun g hg=>?_⟩
   rcases List.mem_append.1 hg with z | z
   ·have:=i3 g z
    exact ⟨this.1,by omega,this.2.2⟩
   ·rw [List.mem_singleton.1 z]
    exact ⟨h2,by simp,rfl⟩

theorem yd_pop {s:StoreT} {t:TickT} {d:DeskT} {k:Nat} {a:Int} {p:EB} {R:List GT} (h:Yd s t d ((k,a,p) :: R)) {x:HandT} (hx:x=entH (readT s.ws a).e) :
  relE s t x=0/\zc2 (relS s t x).a a=0/\Env s (zcN (relS s t x) a)/\SameGeo t (relT s t x)/\(readT s.ws a).kids.length=k /\
  Yd (zcN (relS s t x) a) (relT s t x) (zeC t.gens d x.slot.toNat) (kidG (zbQ (ndN s.ws)) (readT s.ws a).kids k++R)/\p.1=(readT s.ws a).e :: gE (kidG (zbQ (ndN s.ws)) (readT s.ws a).kids k):=by
 have hm:(k,a,p)∈(k,a,p) :: R:=List.mem_cons_self ..
 have ht:=h.gr.tr _ hm
 simp only at ht
 obtain ⟨n,n1,n2,n3⟩:=zeF ht
 obtain ⟨e1,e2,e3⟩:=ztU n3
 have hB:gB ((k,a,p) :: R)=a :: (gB (kidG (zbQ (ndN s.ws)) n.kids k)++gB R):=by rw [zh6]; simp only; rw [e2]; rfl
 have hab:a∈gB ((k,a,p) :: R):=by rw [hB]; exact List.mem_cons_self ..
 have en:=h.gr.inv.nd' hab
 rw [n1] at en
 have en:=Option.some.inj en
 obtain ⟨q1,q2,P⟩:=qpL h.gr.inv (znD h.gr.inv h.roomy) hab hx
 rw [<- en]
 refine ⟨q1,q2,P.env,P.geo,n2,⟨⟨?_,fun g hg=>?_⟩,h.roomy.env P.env P.geo,h.w01.env P.env⟩,e1⟩
 ·have:=P.inv
  rw [hB,List.erase_cons_head,<- zmL] at this
  exact this
 ·have hnd:=h.gr.inv.nd
  rw [hB,List.nodup_cons,<- zmL] at hnd
  have hsame:∀c,c∈gB (kidG (zbQ (ndN s.ws)) n.kids k++R)->ndN (zcN (relS s t x) a).ws c=ndN s.ws c:=fun c hc=>by
   have hc1:c∈gB ((k,a,p) :: R):=by rw [hB,<- zmL]; exact List.mem_cons_of_mem _ hc
   have hca:c≠a:=fun e=>hnd.1 (e ▸ hc)
   have hc2:c∈(gB ((k,a,p) :: R)).erase a:=(List.Nodup.mem_erase_iff h.gr.inv.nd).2 ⟨hca,hc1⟩
   exact qbP h.gr.inv P.inv hc1 hc2 (P.oth c hc1 hca)
  refine zf4 _ _ _ ?_ fun c hc=>hsame c (zi9 hg hc)
  rcases List.mem_append.1 hg with z | z
  ·exact (e3 g z).1
  ·exact h.gr.tr g (List.mem_cons_of_mem _ z)


def szG (K:List GT):Nat:=(K.map fun g=>2 ^ g.1).sum
theorem qoE (g:GT) (K:List GT):szG (g :: K)=2 ^ g.1+szG K:=by simp [szG]
structure Merged (s:StoreT) (t:TickT) (d:DeskT) (r:Nat->Int) (n:Nat) (es:List EntT) (R:List GT) (d':DeskT) (G':List GT) (q:FR):Prop where
 e:q.e=0
 yd:Yd q.s q.t d' (G'++R)
 roots:(gK G').Perm (fK q.r)
 es:(gE G').Perm es
 env:Env s q.s
 geo:SameGeo t q.t
 gens:d'.gens=d.gens
 free:d'.free=d.free
 cnt:rootN q.r 12=rootN r 12+n
theorem zpO:∀(K:List GT) (s:StoreT) (t:TickT) (d:DeskT) (r:Nat->Int) (G R:List GT),Yd s t d (K++(G++R))->(gK G).Perm (fK r)->rootN r 12+szG K<4096->(∀g∈K,g.1 <= 12) ->
  ∃d' G',Merged s t d r (szG K) (gE K++gE G) R d' G' (zbO (K.map fun g=>g.2.1) s t r)
 | [],s,t,d,r,G,R,h,hG,hc,hk=>⟨d,G,rfl,h,hG,by simp [gE],Env.refl s,SameGeo.refl t,rfl,rfl,by simp [szG,zbO]⟩
 | g :: K,s,t,d,r,G,R,h,hG,hc,hk=>by
   rw [qoE] at hc ⊢
   have pm:(g :: K++(G++R)).Perm ((g.1,g.2.1,g.2.2) :: (G++(K++R))):=by
    refine List.Perm.cons _ ?_
    show (K++(G++R)).Perm (G++(K++R))
    rw [<- List.append_assoc,<- List.append_assoc]
    exact List.perm_append_comm.append_right R
   obtain ⟨d1,G1,A⟩:=qq4 (h.perm pm) hG (by omega) (hk g (List.mem_cons_self ..))
   rw [List.map_cons,zbO,if_pos A.e]
   generalize addR s t r g.2.1=w at A ⊢
   have hY:Yd w.s w.t d1 (K++(G1++R)):=A.yd.perm (by rw [<- List.append_assoc,<- List.append_assoc]; exact List.perm_append_comm.append_right R)
   obtain ⟨d2,G2,B⟩:=zpO K w.s w.t d1 w.r G1 R hY A.roots (by rw [A.cnt]; omega) fun k hk2=>hk k (List.mem_cons_of_mem _ hk2)
   refine ⟨d2,G2,B.e,B.yd,B.roots,B.es.trans ?_,A.env.trans B.env,A.geo.trans B.geo,B.gens.trans A.gens,B.free.trans A.free,by rw [B.cnt,A.cnt]; omega⟩
   rw [znY]
   refine (A.es.append_left _).trans ?_
   rw [<- List.append_assoc]
   exact List.perm_append_comm.append_right _

theorem qd9 (T:Nat->Int->Option EB) (l:List Int):∀k,k <= l.length->(kidG T l k).map (fun g=>g.2.1)=l.take k
 | 0,_=>rfl
 | k+1,h=>by
   rw [kidG,List.map_append,qd9 T l k (by omega),zc4 0 (by omega)]; rfl
theorem qfE (K L:List GT):szG (K++L)=szG K+szG L:=by simp [szG]
theorem qlA (T:Nat->Int->Option EB) (l:List Int):∀k,szG (kidG T l k)+1=2 ^ k
 | 0=>rfl
 | k+1=>by
   rw [kidG,qfE,Nat.pow_succ]
   have:=qlA T l k
   simp only [szG,List.map_cons,List.map_nil,List.sum_cons,List.sum_nil] at *
   omega
theorem qlB (T:Nat->Int->Option EB) (l:List Int):∀k,∀g∈kidG T l k,g.1<k
 | 0,g,hg=>by cases hg
 | k+1,g,hg=>by
   rcases List.mem_append.1 hg with z | z
   ·have:=qlB T l k g z; omega
   ·rw [List.mem_singleton.1 z]; simp

theorem qjD {s:StoreT} {t:TickT} {d:DeskT} {r:Nat->Int} {G R:List GT} (h:Yd s t d (G++R)) (hG:(gK G).Perm (fK r)) {j:Nat} (hj:j<12) (hn:r j≠0) :
  ∃p,(j,r j,p)∈G/\readE s.ws (r j)=0/\p.1.getD 0 entZ=(readT s.ws (r j)).e/\∀y∈p.1,y=(readT s.ws (r j)).e\/ahead (readT s.ws (r j)).e y:=by
 have hm:(j,r j)∈gK G:=hG.mem_iff.2 (zn4.2 ⟨hj,rfl,hn⟩)
 obtain ⟨g,hg,e⟩:=List.mem_map.1 hm
 have hg2:g=(j,r j,g.2.2):=by rw [Prod.ext_iff] at e; exact Prod.ext e.1 (Prod.ext e.2 rfl)
 rw [hg2] at hg
 have hg':(j,r j,g.2.2)∈G++R:=List.mem_append.2 (.inl hg)
 have ht:=h.gr.tr _ hg'
 simp only at ht
 obtain ⟨n,ra,qa,n1,n2,n3,n4⟩:=zcR ht
 have hab:r j∈gB (G++R):=zi9 hg' (by simp only; rw [n4]; exact List.mem_cons_self ..)
 have en:=h.gr.inv.nd' hab
 rw [n1] at en
 have en:=Option.some.inj en
 have e0:g.2.2.1.getD 0 entZ=(readT s.ws (r j)).e:=by rw [n3,en]; rfl
 exact ⟨g.2.2,hg,(h.gr.inv.node _ hab).1,e0,fun y hy=>by rw [<- e0]; exact zs0 j _ _ ht y hy⟩

theorem fst_yd {s:StoreT} {t:TickT} {d:DeskT} {r:Nat->Int} {G R:List GT} (h:Yd s t d (G++R)) (hG:(gK G).Perm (fK r)) :
  (gE G=[]/\fst s.ws r=⟨nodeZ,0,18⟩/\∀j,j<12->r j=0) \/
  ∃k p,(fst s.ws r).e=0/\k<12/\(fst s.ws r).p=(k:Nat)/\r k≠0/\(fst s.ws r).n=readT s.ws (r k)/\(k,r k,p)∈G/\(readT s.ws (r k)).e∈gE G/\∀y∈gE G,y=(readT s.ws (r k)).e\/ahead (readT s.ws (r k)).e y:=by
 by_cases hall:∀j,j<12->r j=0
 ·left
  have e0:fK r=[]:=List.eq_nil_iff_forall_not_mem.2 fun x hx=>by
   have:=zn4.1 hx
   exact this.2.2 (hall x.1 this.1)
  rw [e0] at hG
  have eG:G=[]:=by
   have:=hG.length_eq
   simp [gK] at this
   exact this
  refine ⟨by rw [eG]; rfl,?_,hall⟩
  have go:∀n i,i+n=12->fstF s.ws r n i nodeZ 0 false=⟨nodeZ,0,18⟩:=fun n=>by
   induction n with
   | zero=>intro i _; rfl
   | succ n ih=>intro i hi; rw [fstF,if_pos (hall i (by omega)),ih (i+1) (by omega)]
  exact go 12 0 rfl
 ·right
  have hne:(fst s.ws r).e=0:=by
   have rd:∀j,j<12->r j≠0->readE s.ws (r j)=0:=fun j hj hn=>by obtain ⟨_,_,q,_⟩:=qjD h hG hj hn; exact q
   obtain ⟨j,hj⟩:=Classical.not_forall.1 hall
   obtain ⟨hj,hn⟩:=Classical.not_imp.1 hj
   have go:∀n i b p f,i+n=12->(f=true\/i <= j)->(fstF s.ws r n i b p f).e=0:=fun n=>by
    induction n with
    | zero =>
      intro i b p f hi hf
      rw [fstF,if_pos (hf.resolve_right (by omega))]
    | succ n ih =>
      intro i b p f hi hf
      rw [fstF]
      by_cases hz:r i=0
      ·rw [if_pos hz]
       refine ih (i+1) b p f (by omega) (hf.imp_right fun q=>?_)
       have:i≠j:=fun e=>hn (e ▸ hz)
       omega
      ·rw [if_neg hz,if_pos (rd i (by omega) hz)]
       split
       ·exact ih (i+1) _ _ true (by omega) (.inl rfl)
       ·rename_i hc
        exact ih (i+1) b p f (by omega) (.inl (by cases f with
         | true=>rfl
         | false=>exact absurd (.inl rfl) hc))
   exact go 12 0 nodeZ 0 false rfl (.inr (Nat.zero_le _))
  obtain ⟨k,F⟩:=qeI hne
  obtain ⟨p,hp,hr,h0,hh⟩:=qjD h hG F.lt F.nz
  refine ⟨k,p,hne,F.lt,F.at_,F.nz,F.nd,hp,?_,fun y hy=>?_⟩
  ·have ht:=h.gr.tr _ (List.mem_append.2 (.inl hp))
   simp only at ht
   obtain ⟨n,ra,qa,n1,n2,n3,n4⟩:=zcR ht
   refine List.mem_flatMap.2 ⟨_,hp,?_⟩
   simp only
   rw [<- h0,n3]; exact List.mem_cons_self ..
  ·obtain ⟨g,hg,hyg⟩:=List.mem_flatMap.1 hy
   have hgm:(g.1,g.2.1)∈fK r:=hG.mem_iff.1 (List.mem_map.2 ⟨g,hg,rfl⟩)
   obtain ⟨m1,m2,m3⟩:=zn4.1 hgm
   simp only at m1 m2 m3
   have hF:=(F.all g.1 m1 m3).2
   rw [F.nd] at hF
   have ht:=h.gr.tr g (List.mem_append.2 (.inl hg))
   have hheap:=zs0 _ _ _ ht y hyg
   obtain ⟨n,ra,qa,n1,n2,n3,n4⟩:=zcR ht
   have hab:g.2.1∈gB (G++R):=zi9 (List.mem_append.2 (.inl hg)) (by rw [n4]; exact List.mem_cons_self ..)
   have en:=h.gr.inv.nd' hab
   rw [n1] at en
   have en:=Option.some.inj en
   have e0:g.2.2.1.getD 0 entZ=(readT s.ws (r g.1)).e:=by rw [n3,en,m2]; rfl
   rw [e0] at hheap
   by_cases e:r g.1=r k
   ·rw [e] at hheap; exact hheap
   ·have hab2:r k∈gB (G++R):=by
     have ht2:=h.gr.tr _ (List.mem_append.2 (.inl hp):(k,r k,p)∈G++R)
     simp only at ht2
     obtain ⟨_,_,_,_,_,_,n4⟩:=zcR ht2
     exact zi9 (List.mem_append.2 (.inl hp)) (by simp only; rw [n4]; exact List.mem_cons_self ..)
    rw [m2] at hab
    have hah:ahead (readT s.ws (r k)).e (readT s.ws (r g.1)).e:=(zlG (qb5 h.gr.inv hab2 hab fun q=>e q.symm)).resolve_right fun q=>hF (zgJ.2 q)
    rcases hheap with q | q
    ·right; rw [q]; exact hah
    ·right; exact ze3 hah q


theorem iss_gf (d:DeskT) (b:Int):(zb6 d b).gens=(zb6 d 0).gens/\(zb6 d b).free=(zb6 d 0).free:=by
 unfold zb6
 cases d.free with
 | nil=>exact ⟨rfl,rfl⟩
 | cons a l=>exact ⟨rfl,rfl⟩

structure Inserted (s:StoreT) (t:TickT) (d:DeskT) (r:Nat->Int) (x:EntT) (G R:List GT) (d':DeskT) (G':List GT) (q:IR):Prop where
 e:q.e=0
 h:q.h=⟨x.slot,x.gen⟩
 yd:Yd q.s q.t d' (G'++R)
 roots:(gK G').Perm (fK q.r)
 es:(gE G').Perm (x :: gE G)
 env:Env s q.s
 geo:SameGeo t q.t
 gens:d'.gens=(zb6 d 0).gens
 free:d'.free=(zb6 d 0).free
 cnt:rootN q.r 12=rootN r 12+1
theorem qhQ {s:StoreT} {t:TickT} {d:DeskT} {r:Nat->Int} {G R:List GT} (h:Yd s t d (G++R)) (hG:(gK G).Perm (fK r)) (hc:rootN r 12+1<4096)
  {a:Nat} {g:Int} (hn:zeU t.slots d=some (a,g)) {k v:Int} (hk:I64 k) (hv:I64 v) :
  ∃d' G',Inserted s t d r ⟨(a:Int),g,k,v⟩ G R d' G' (insR s t r k v):=by
 obtain ⟨M,Y⟩:=yd_make h hn hk hv
 obtain ⟨d',G',A⟩:=qq4 Y hG (by rw [Nat.pow_zero]; exact hc) (Nat.zero_le _)
 obtain ⟨g1,g2⟩:=iss_gf d (zb7 s t k v).a
 rw [insR,if_pos M.e,if_pos A.e]
 exact ⟨d',G',rfl,M.hand,A.yd,A.roots,A.es,M.env.trans A.env,M.geo.trans A.geo,A.gens.trans g1,A.free.trans g2,by rw [A.cnt,Nat.pow_zero]⟩

structure Popt (s:StoreT) (t:TickT) (d:DeskT) (r:Nat->Int) (G R:List GT) (d':DeskT) (G':List GT) (q:PR):Prop where
 e:q.e=0
 yd:Yd q.s q.t d' (G'++R)
 roots:(gK G').Perm (fK q.r)
 es:(gE G).Perm (q.x :: gE G')
 min:∀y∈gE G,y=q.x\/ahead q.x y
 env:Env s q.s
 geo:SameGeo t q.t
 gens:d'.gens=(zeC t.gens d q.x.slot.toNat).gens
 free:d'.free=(zeC t.gens d q.x.slot.toNat).free
 cnt:rootN r 12=rootN q.r 12+1
 fst:(fst s.ws r).e=0/\(Yard.fst s.ws r).n.e=q.x
theorem yd_popR {s:StoreT} {t:TickT} {d:DeskT} {r:Nat->Int} {G R:List GT} (h:Yd s t d (G++R)) (hG:(gK G).Perm (fK r)) (hne:gE G≠[]) :
  ∃d' G',Popt s t d r G R d' G' (popR s t r):=by
 rcases fst_yd h hG with ⟨h1,_⟩ | ⟨k,p,h1,h2,h3,h4,h5,h6,h7,h8⟩
 ·exact absurd h1 hne
 ·obtain ⟨q,G1,hp,hG1⟩:=zpI (hG.trans (qmB h2 h4))
  simp only at hp
  have Y:=h.perm (hp.append_right R)
  have e3:(fst s.ws r).p.toNat=k:=by rw [h3]; exact Int.toNat_natCast k
  obtain ⟨q1,q2,E,Gm,hl,Y2,hes⟩:=yd_pop (R:=G1++R) Y (x:=entH (readT s.ws (r k)).e) rfl
  generalize hK:kidG (zbQ (ndN s.ws)) (readT s.ws (r k)).kids k=K at Y2 hes
  have hsz:szG K+1=2 ^ k:=by rw [<- hK]; exact qlA _ _ k
  have hct:=ztA (n:=12) h2 h4
  have hlt:=zh1 r 12
  obtain ⟨d2,G2,B⟩:=zpO K _ _ _ (updR r k 0) G1 R Y2 hG1 (by omega) fun g hg=>by
   rw [<- hK] at hg
   have:=qlB _ _ k g hg
   omega
  have hm:K.map (fun g=>g.2.1)=(readT s.ws (r k)).kids:=by
   rw [<- hK,qd9 _ _ k (by omega),List.take_of_length_le (by omega)]
  rw [hm] at B
  have eQ:popQ s t r (fst s.ws r)=zbO (readT s.ws (r k)).kids (zcN (relS s t (entH (readT s.ws (r k)).e)) (r k)) (relT s t (entH (readT s.ws (r k)).e)) (updR r k 0):=by
   rw [popQ,e3,h5]
  rw [<- eQ] at B
  have hE:gE G=[]\/(gE G).Perm ((readT s.ws (r k)).e :: (gE K++gE G1)):=by
   right
   have e1:=zv4 hp
   rw [znY,hes] at e1
   exact e1
  have hE:=hE.resolve_left hne
  rw [popR,if_pos h1,h5,e3,if_pos q1,if_pos q2,if_pos B.e]
  exact ⟨d2,G2,rfl,B.yd,B.roots,hE.trans (List.Perm.cons _ B.es.symm),h8,E.trans B.env,Gm.trans B.geo,B.gens,B.free,by
   show rootN r 12=rootN (popQ s t r (fst s.ws r)).r 12+1
   rw [B.cnt]; omega,h1,by rw [h5]⟩

end Yard
