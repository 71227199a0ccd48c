import Derived.Test.YtlihikockhjodaaGreatDoorSlotInv
import Derived.Test.YtlihikockhjodaaGreatDoorTlMath
import Derived.Test.YtlihikockhjodaaGreatDoorTwMath
import Derived.Test.YtlihikockhjodaaGreatDoorTreeList

namespace Yard
open Go Go.Sx Go.Proofs
set_option linter.unusedVariables false
set_option linter.unusedSimpArgs false
set_option maxRecDepth 4000
set_option maxHeartbeats 4000000




abbrev GT:Type:=Nat×Int×EB
def gB (G:List GT):List Int:=G.flatMap fun g=>g.2.2.2
def gE (G:List GT):List EntT:=G.flatMap fun g=>g.2.2.1
theorem ziB (g:GT) (G:List GT):gB (g :: G)=g.2.2.2++gB G:=by simp [gB]
theorem zkB (g:GT) (G:List GT):gE (g :: G)=g.2.2.1++gE G:=by simp [gE]
theorem ziC (G K:List GT):gB (G++K)=gB G++gB K:=by simp [gB]
theorem zfR (G K:List GT):gE (G++K)=gE G++gE K:=by simp [gE]
theorem qgT {G K:List GT} (h:G.Perm K):(gB G).Perm (gB K):=h.flatMap_right _
theorem zx4 {G K:List GT} (h:G.Perm K):(gE G).Perm (gE K):=h.flatMap_right _
theorem ziA {G:List GT} {g:GT} (h:g∈G) {c:Int} (hc:c∈g.2.2.2):c∈gB G:=List.mem_flatMap.2 ⟨g,h,hc⟩
structure Grove (s:StoreT) (t:TickT) (d:DeskT) (G:List GT):Prop where
 inv:NInv s t d (gB G)
 tr:∀g∈G,zcX (ndN s.ws) g.1 g.2.1=some g.2.2
theorem Grove.perm {s:StoreT} {t:TickT} {d:DeskT} {G K:List GT} (h:Grove s t d G) (p:G.Perm K):Grove s t d K :=
 ⟨h.inv.perm (qgT p),fun g hg=>h.tr g (p.mem_iff.2 hg)⟩
theorem Grove.mark {s:StoreT} {t:TickT} {d:DeskT} {G:List GT} (h:Grove s t d G):Grove (zj7 s) t d G:=⟨h.inv.mark,h.tr⟩
theorem NInv.nd' {s:StoreT} {t:TickT} {d:DeskT} {xs:List Int} (h:NInv s t d xs) {c:Int} (hc:c∈xs):ndN s.ws c=some (readT s.ws c):=by
 rw [ndN,if_pos (h.node c hc).1]
theorem zxQ {s s':StoreT} {t t':TickT} {d d':DeskT} {xs ys:List Int} (h:NInv s t d xs) (k:NInv s' t' d' ys) {c:Int} (hc:c∈xs) (hc':c∈ys) (e:readT s'.ws c=readT s.ws c):ndN s'.ws c=ndN s.ws c:=by
 rw [h.nd' hc,k.nd' hc',e]
theorem Grove.ents {s:StoreT} {t:TickT} {d:DeskT} {G:List GT} (h:Grove s t d G):gE G=(gB G).map fun c=>(readT s.ws c).e:=by
 have key:∀K:List GT,(∀g∈K,g∈G)->gE K=(gB K).map fun c=>(readT s.ws c).e:=fun K=>by
  induction K with
  | nil=>intro _; rfl
  | cons g K ih =>
    intro hs
    rw [zkB,ziB,List.map_append,ih fun k hk=>hs k (List.mem_cons_of_mem _ hk)]
    congr 1
    have hg:=hs g (List.mem_cons_self ..)
    exact (qdI _ _ _ (h.tr g hg) (fun c=>(readT s.ws c).e) fun c hc n hn=>by
     rw [h.inv.nd' (ziA hg hc)] at hn; cases hn; rfl).1
 exact key G fun _ hg=>hg
theorem NInv.hnd {s:StoreT} {t:TickT} {d:DeskT} {xs:List Int} (h:NInv s t d xs):HNodup (xs.map fun c=>(readT s.ws c).e):=by
 unfold HNodup
 rw [List.pairwise_map]
 exact h.nd.imp_of_mem fun ha hb hne=>zx2 h ha hb hne
theorem Grove.hnd {s:StoreT} {t:TickT} {d:DeskT} {G:List GT} (h:Grove s t d G):HNodup (gE G):=by rw [h.ents]; exact h.inv.hnd

theorem qb5 {s:StoreT} {t:TickT} {d:DeskT} {G:List GT} (h:Grove s t d G) {r:MR} {hd:HandT} {k v:Int} (M:Made s t d (gB G) hd k v r) :
  Grove r.s r.t (zbQ d r.a) ((0,r.a,[⟨hd.slot,hd.gen,k,v⟩],[r.a]) :: G):=by
 have hi:NInv r.s r.t (zbQ d r.a) (gB ((0,r.a,[⟨hd.slot,hd.gen,k,v⟩],[r.a]) :: G)):=by rw [ziB]; exact M.inv
 refine ⟨hi,fun g hg=>?_⟩
 rcases List.mem_cons.1 hg with e | hg
 ·subst e
  have e2:=M.inv.nd' (List.mem_cons_self ..)
  rw [M.node] at e2
  exact ztY e2 rfl
 ·refine zd9 _ _ _ (h.tr g hg) fun c hc=>?_
  have hc:=ziA hg hc
  exact zxQ h.inv M.inv hc (List.mem_cons_of_mem _ hc) (M.oth c hc)

theorem zo5 {s:StoreT} {t:TickT} {d d':DeskT} {k:Nat} {a b:Int} {p q:EB} {R:List GT} {xs:List Int} {r:TR} (h:Grove s t d ((k,a,p) :: (k,b,q) :: R)) (hx:xs.Perm (gB ((k,a,p) :: (k,b,q) :: R)))
  (hah:ahead (readT s.ws a).e (readT s.ws b).e) (T:Turned s t d xs a ⟨(readT s.ws a).e,(readT s.ws a).kids++[b]⟩ d' r) :
  Grove r.s r.t d' ((k+1,r.a,p.1++q.1,r.a :: p.2.tail++q.2) :: R):=by
 have ta:=h.tr _ (List.mem_cons_self ..)
 have tb:=h.tr (k,b,q) (List.mem_cons_of_mem _ (List.mem_cons_self ..))
 simp only at ta tb
 obtain ⟨na,ra,qa,n1,n2,n3,n4⟩:=zcC ta
 obtain ⟨nb,rb,qb,m1,m2,m3,m4⟩:=zcC tb
 have hB:gB ((k,a,p) :: (k,b,q) :: R)=a :: (qa++(q.2++gB R)):=by rw [ziB,ziB]; simp only; rw [n4]; rfl
 have ma:a∈gB ((k,a,p) :: (k,b,q) :: R):=by rw [hB]; exact List.mem_cons_self ..
 have mb:b∈gB ((k,a,p) :: (k,b,q) :: R):=by rw [hB,m4]; simp
 have ea:=h.inv.nd' ma
 have eb:=h.inv.nd' mb
 rw [n1] at ea
 rw [m1] at eb
 have ea:=Option.some.inj ea
 have eb:=Option.some.inj eb
 have hnd:=h.inv.nd
 rw [hB] at hnd
 have her:(r.a :: xs.erase a).Perm (r.a :: (qa++(q.2++gB R))):=by
  refine List.Perm.cons _ ?_
  have:=hx.erase a
  rw [hB,List.erase_cons_head] at this
  exact this
 have hi:NInv r.s r.t d' (r.a :: (qa++(q.2++gB R))):=T.inv.perm her
 have hi':gB ((k+1,r.a,p.1++q.1,r.a :: p.2.tail++q.2) :: R)=r.a :: (qa++(q.2++gB R)):=by rw [ziB]; simp only; rw [n4]; simp
 have hsame:∀c,c∈qa++(q.2++gB R)->ndN r.s.ws c=ndN s.ws c:=fun c hc=>by
  have hc1:c∈gB ((k,a,p) :: (k,b,q) :: R):=by rw [hB]; exact List.mem_cons_of_mem _ hc
  refine zxQ h.inv hi hc1 (List.mem_cons_of_mem _ hc) (T.oth c (hx.mem_iff.2 hc1) fun e=>?_)
  rw [List.nodup_cons] at hnd
  exact hnd.1 (e ▸ hc)
 refine ⟨by rw [hi']; exact hi,fun g hg=>?_⟩
 rcases List.mem_cons.1 hg with e | hg
 ·subst e
  simp only
  have eN:=hi.nd' (List.mem_cons_self ..)
  rw [T.node] at eN
  refine qaS (N:=ndN s.ws) (n:=na) ta tb n1 (by rw [eN,ea]) (fun c hc hne=>hsame c ?_) (fun c hc=>hsame c (by simp [hc])) ?_ ?_
  ·rw [n4] at hc
   rcases List.mem_cons.1 hc with z | z
   ·exact absurd z hne
   ·exact List.mem_append.2 (.inl z)
  ·rw [n4]
   exact (List.nodup_cons.2 ⟨fun z=>(List.nodup_cons.1 hnd).1 (List.mem_append.2 (.inl z)),(List.nodup_append.1 (List.nodup_cons.1 hnd).2).1⟩)
  ·rw [m3]; show ahead na.e nb.e
   rw [ea,eb]; exact hah
 ·refine zd9 _ _ _ (h.tr g (List.mem_cons_of_mem _ (List.mem_cons_of_mem _ hg))) fun c hc=>hsame c ?_
  have:=ziA hg hc
  simp [this]

structure Linked (s:StoreT) (t:TickT) (d:DeskT) (k:Nat) (p q:EB) (R:List GT) (d':DeskT) (p':EB) (r:TR):Prop where
 e:r.e=0
 gr:Grove r.s r.t d' ((k+1,r.a,p') :: R)
 env:Env s r.s
 geo:SameGeo t r.t
 gens:d'.gens=d.gens
 free:d'.free=d.free
 es:p'.1.Perm (p.1++q.1)
 at2:2 <= r.a/\r.a<3072
theorem qb6 {s:StoreT} {t:TickT} {d:DeskT} {k:Nat} {a b:Int} {p q:EB} {R:List GT} (h:Grove s t d ((k,a,p) :: (k,b,q) :: R)) (hf:4 <= freeN s.a) (h12:k<12) :
  ∃d' p',Linked s t d k p q R d' p' (lkRes s t a b):=by
 have ta:=h.tr _ (List.mem_cons_self ..)
 have tb:=h.tr (k,b,q) (List.mem_cons_of_mem _ (List.mem_cons_self ..))
 simp only at ta tb
 obtain ⟨na,ra,qa,n1,n2,n3,n4⟩:=zcC ta
 obtain ⟨nb,rb,qb,m1,m2,m3,m4⟩:=zcC tb
 have hB:gB ((k,a,p) :: (k,b,q) :: R)=a :: (qa++(b :: (qb++gB R))):=by rw [ziB,ziB]; simp only; rw [n4,m4]; rfl
 have ma:a∈gB ((k,a,p) :: (k,b,q) :: R):=by rw [hB]; exact List.mem_cons_self ..
 have mb:b∈gB ((k,a,p) :: (k,b,q) :: R):=by rw [hB]; simp
 have hne:a≠b:=fun e=>by
  have:=h.inv.nd
  rw [hB,List.nodup_cons] at this
  exact this.1 (by rw [e]; simp)
 have ea:=h.inv.nd' ma
 have eb:=h.inv.nd' mb
 rw [n1] at ea
 rw [m1] at eb
 have ea:=Option.some.inj ea
 have eb:=Option.some.inj eb
 obtain ⟨P,C,d',hpc,hah,T⟩:=lk_step h.inv hf ma mb hne (by rw [<- ea,<- eb,n2,m2]) (by rw [<- ea,n2]; exact h12)
 refine ⟨d',?_⟩
 rcases hpc with ⟨rfl,rfl⟩ | ⟨rfl,rfl⟩
 ·exact ⟨_,T.e,zo5 h (List.Perm.refl _) hah T,T.env,T.geo,T.gens,T.free,List.Perm.refl _,T.at2⟩
 ·have sw:((k,C,p) :: (k,P,q) :: R).Perm ((k,P,q) :: (k,C,p) :: R):=List.Perm.swap ..
  exact ⟨_,T.e,zo5 (h.perm sw) (qgT sw) hah T,T.env,T.geo,T.gens,T.free,List.perm_append_comm,T.at2⟩

theorem qbW {ws:List Nat}:∀(k:Nat) (a:Int) (p:EB),zcX (ndN ws) k a=some p->∀(n:Nat) (out:List EntT) (r:List Int),zmC ws (n+p.1.length) out (a :: r)=zmC ws n (out++p.1) r:=fun k=>by
 induction k using Nat.strongRecOn with
 | ind k ih =>
   intro a p h n out r
   obtain ⟨nd,h1,h2,h3⟩:=zdS h
   have hz:readE ws a=0/\readT ws a=nd:=by
    unfold ndN at h1
    by_cases e:readE ws a=0
    ·rw [if_pos e] at h1; exact ⟨e,Option.some.inj h1⟩
    ·rw [if_neg e] at h1; cases h1
   have key:∀(j:Nat) (p':EB),j <= k->zdY (zcX (ndN ws)) nd.e a nd.kids j=some p'->∃q,p'.1=nd.e :: q/\∀(n:Nat) (r:List Int),zmC ws (n+q.length) (out++[nd.e]) (nd.kids.take j++r)=zmC ws n (out++p'.1) r:=fun j=>by
    induction j with
    | zero=>intro p' _ hk; cases hk; exact ⟨[],rfl,fun n r=>rfl⟩
    | succ j jh =>
      intro p' hj hk
      obtain ⟨p0,q,g1,g2,g3,g4⟩:=zfQ hk
      subst g4
      obtain ⟨q0,e0,f0⟩:=jh p0 (by omega) g1
      refine ⟨q0++q.1,by simp only; rw [e0]; rfl,fun n r=>?_⟩
      have hjl:j<nd.kids.length:=by omega
      rw [zb6 0 hjl,List.append_assoc,List.length_append,show n+(q0.length+q.1.length)=(n+q.1.length)+q0.length by omega,f0]
      have:=ih j (by omega) _ q g2 n (out++p0.1) r
      simp only [List.singleton_append]
      rw [this,List.append_assoc]
   obtain ⟨q,e0,f0⟩:=key k p (Nat.le_refl _) h3
   rw [e0,List.length_cons,show n+(q.length+1)=(n+q.length)+1 by omega,zmC,if_pos hz.1,hz.2]
   have:=f0 n r
   rw [<- h2,List.take_length] at this
   rw [this,e0]
theorem qbX {ws:List Nat} {k:Nat} {a:Int} {p:EB} (h:zcX (ndN ws) k a=some p) (hl:p.1.length <= 1792):zcG ws a=(p.1,0):=by
 have:=qbW k a p h (1792-p.1.length) [] []
 rw [show 1792-p.1.length+p.1.length=1792 by omega] at this
 rw [zcG,this,List.nil_append]
 cases 1792-p.1.length <;> rfl

def W01 (s:StoreT):Prop:=InS s.a.n s.a.w 0/\InS s.a.n s.a.w 1
theorem W01.env {s s':StoreT} (h:W01 s) (e:Env s s'):W01 s':=⟨by rw [e.n]; exact e.w01 0 (by omega) h.1,by rw [e.n]; exact e.w01 1 (by omega) h.2⟩
theorem W01.mark {s:StoreT} (h:W01 s):W01 (zj7 s):=h
theorem qjE {n:Nat} (h:2 <= n):W01 (zdI n 0):=⟨zjA.2 ⟨.inl rfl,show (0:Int)<(n:Int) by omega⟩,zjA.2 ⟨.inr rfl,show (1:Int)<(n:Int) by omega⟩⟩
theorem Grove.img {s:StoreT} {t:TickT} {d:DeskT} {G:List GT} (h:Grove s t d G) {g:GT} (hg:g∈G):zcX (imgN (zaG s.ws)) g.1 g.2.1=some g.2.2:=by
 rw [qgE]; exact h.tr g hg
theorem Grove.leads {s:StoreT} {t:TickT} {d:DeskT} {G:List GT} (h:Grove s t d G):zu5 s t (gE G) (gB G):=qkR h.inv (List.Perm.refl _) h.ents
theorem Grove.len {s:StoreT} {t:TickT} {d:DeskT} {G:List GT} (h:Grove s t d G):(gE G).length=(gB G).length:=by rw [h.ents,List.length_map]


theorem zcP:zaR tickZ:=⟨I64_0,I64_0,I64_0,I64_0,I64_0,I64_0⟩
theorem qmA {s:StoreT} (h:zaF s) (t:TickT) (x:HandT) (a:Int):zaF (poiS s t x a):=by
 unfold poiS
 split
 ·exact qeS h _ _ _
 ·exact h
theorem poiT_I {s:StoreT} (h:zaF s) {t:TickT} (ht:zaR t) (x:HandT) (a:Int):zaR (poiT s t x a):=by
 unfold poiT
 split
 ·obtain ⟨h1,h2,h3,h4,h5,h6⟩:=ht
  exact ⟨h1,h2,h3,zr6 h h4 _ _,h5,h6⟩
 ·exact zcP
theorem qmG {s:StoreT} (h:zaF s) (t:TickT) (a:Int):zaF (issS s t a):=by
 unfold issS
 split
 ·exact qeS h _ _ _
 ·exact h
theorem issT_I {s:StoreT} (h:zaF s) {t:TickT} (ht:zaR t) (a:Int):zaR (issT s t a):=by
 unfold issT
 split
 ·rename_i he
  obtain ⟨h1,h2,h3,h4,h5,h6⟩:=ht
  have hx:=zxP s.ws t
  have hok:zbN t:=by
   unfold issE at he
   split at he
   ·rename_i k; exact k.1
   ·split at he
    ·rename_i k; exact k.1
    ·cases he
  obtain ⟨⟨g1,g2,g3,g4,g5,g6⟩,g7,g8,g9,g10⟩:=hok
  refine ⟨h1,h2,h3,zr6 h h4 _ _,?_,?_⟩
  ·show I64 (if 0<t.free then t.high else t.high+1)
   split
   ·exact h5
   ·exact ⟨by omega,by omega⟩
  ·show I64 (if 0<t.free then (nextX s.ws t).next else t.free)
   split
   ·exact hx.2
   ·exact h6
 ·exact zcP
theorem relS_W {s:StoreT} (h:zaF s) (t:TickT) (x:HandT):zaF (relS s t x):=by
 unfold relS
 split
 ·exact qeS h _ _ _
 ·exact h
theorem relT_I {s:StoreT} (h:zaF s) {t:TickT} (ht:zaR t) {x:HandT} (hx:zhJ x):zaR (relT s t x):=by
 unfold relT
 split
 ·rename_i he
  obtain ⟨h1,h2,h3,h4,h5,h6⟩:=ht
  refine ⟨h1,h2,h3,zr6 h h4 _ _,h5,?_⟩
  show I64 (if (seatX s.ws t x).gen<t.gens then x.slot+1 else t.free)
  split
  ·have hs:zcQ s.ws t x=0:=by
    unfold relE at he
    split at he
    ·assumption
    ·rename_i k; exact absurd he k
   unfold zcQ at hs
   split at hs
   ·rename_i k
    obtain ⟨⟨g1,g2,g3,g4,g5,g6⟩,g7,g8,g9,g10⟩:=k
    split at hs
    ·cases hs
    ·exact ⟨by omega,by omega⟩
   ·cases hs
  ·exact h6
 ·exact zcP
theorem tu_I {s:StoreT} (h:zaF s) {t:TickT} (ht:zaR t) {a:Int} (ha:I64 a) (n:NodeT):zaF (zfF s t a n).s/\zaR (zfF s t a n).t/\I64 (zfF s t a n).a:=by
 have hW:=zwJ h a (zcH n)
 have hA:=zrQ h ha (zaJ n)
 unfold zfF
 split
 ·split
  ·split
   ·split
    ·exact ⟨hW,ht,hA⟩
    ·split
     ·exact ⟨qmA hW _ _ _,poiT_I hW ht _ _,hA⟩
     ·exact ⟨qmA hW _ _ _,zcP,I64_0⟩
   ·exact ⟨hW,zcP,I64_0⟩
  ·exact ⟨hW,zcP,I64_0⟩
 ·exact ⟨h,zcP,I64_0⟩
theorem lk_I {s:StoreT} (h:zaF s) {t:TickT} (ht:zaR t) {a b:Int} (ha:I64 a) (hb:I64 b):zaF (lkRes s t a b).s/\zaR (lkRes s t a b).t/\I64 (lkRes s t a b).a:=by
 unfold lkRes
 split
 ·split
  ·split
   ·exact ⟨h,zcP,I64_0⟩
   ·split
    ·exact tu_I h ht hb _
    ·exact tu_I h ht ha _
  ·exact ⟨h,zcP,I64_0⟩
 ·exact ⟨h,zcP,I64_0⟩
theorem mk_I {s:StoreT} (h:zaF s) {t:TickT} (ht:zaR t) (k v:Int):zaF (zbS s t k v).s/\zaR (zbS s t k v).t/\I64 (zbS s t k v).a:=by
 have hW:=zmB h (zcH (mkN (zf7 s.ws t) k v))
 have hA:=znL h (zaJ (mkN (zf7 s.ws t) k v))
 unfold zbS
 split
 ·split
  ·split
   ·split
    ·exact ⟨qmG hW _ _,issT_I hW ht _,hA⟩
    ·exact ⟨qmG hW _ _,zcP,I64_0⟩
   ·exact ⟨hW,zcP,I64_0⟩
  ·exact ⟨h,zcP,I64_0⟩
 ·exact ⟨h,zcP,I64_0⟩

end Yard
