import Derived.Test.YtlihikockhjodaaGreatDoorSlotInv
import Derived.Test.YtlihikockhjodaaGreatDoorTlMath
import Derived.Test.YtlihikockhjodaaGreatDoorTwMath
import Derived.Test.YtlihikockhjodaaGreatDoorTreeList

namespace Yard
open Go Go.Sx Go.Proofs
set_option linter.unusedVariables false
set_option linter.unusedSimpArgs false
set_option maxRecDepth 4000
set_option maxHeartbeats 4000000

def one0 (a:Int):List Int:=if a=0 then [] else [a]
def znU (ws:List Nat) (g:Int) (j:Nat):List Int:=(List.range j).flatMap fun j=>one0 (fanF ws g j)
def kidL (ws:List Nat) (g:Int):List Int:=one0 g++znU ws g 16
def zeX (ws:List Nat) (top:Int) (i:Nat):List Int:=one0 top++(List.range i).flatMap fun i=>kidL ws (fanF ws top i)

theorem zfM {a b:Int}:a∈one0 b ↔ a=b/\b≠0:=by
 unfold one0
 split
 ·rename_i h; simp [h]
 ·rename_i h; simp [h]
theorem kidL_mem {ws:List Nat} {g a:Int}:a∈kidL ws g ↔ (a=g/\g≠0)\/∃j,j<16/\a=fanF ws g j/\fanF ws g j≠0:=by
 rw [kidL,znU,List.mem_append,zfM,List.mem_flatMap]
 constructor
 ·rintro (h | ⟨j,hj,h⟩)
  ·exact .inl h
  ·have:=zfM.1 h
   exact .inr ⟨j,List.mem_range.1 hj,this.1,this.2⟩
 ·rintro (h | ⟨j,hj,h⟩)
  ·exact .inl h
  ·exact .inr ⟨j,List.mem_range.2 hj,zfM.2 h⟩
theorem pages_mem {ws:List Nat} {top a:Int}:a∈zeX ws top 16 ↔ (a=top/\top≠0)\/(∃i,i<16/\a=fanF ws top i/\fanF ws top i≠0)\/∃i j,i<16/\j<16/\a=tF ws top i j/\tF ws top i j≠0:=by
 rw [zeX,List.mem_append,zfM,List.mem_flatMap]
 constructor
 ·rintro (h | ⟨i,hi,h⟩)
  ·exact .inl h
  ·rcases kidL_mem.1 h with k | ⟨j,hj,k⟩
   ·exact .inr (.inl ⟨i,List.mem_range.1 hi,k⟩)
   ·exact .inr (.inr ⟨i,j,List.mem_range.1 hi,hj,k⟩)
 ·rintro (h | ⟨i,hi,h⟩ | ⟨i,j,hi,hj,h⟩)
  ·exact .inl h
  ·exact .inr ⟨i,List.mem_range.2 hi,kidL_mem.2 (.inl h)⟩
  ·exact .inr ⟨i,List.mem_range.2 hi,kidL_mem.2 (.inr ⟨j,hj,h⟩)⟩
theorem znN (a:Int):(one0 a).Nodup:=by unfold one0; split <;> simp
theorem qbF {X:Int->Prop} {s:StoreT} {top:Int} (h:TreeX X s top):(zeX s.ws top 16).Nodup:=by
 have g:=h.sh
 rw [zeX,List.nodup_append]
 refine ⟨znN _,?_,fun a ha b hb=>?_⟩
 ·rw [List.Nodup,List.pairwise_flatMap]
  refine ⟨fun i hi=>?_,?_⟩
  ·have hi:=List.mem_range.1 hi
   have:(kidL s.ws (fanF s.ws top i)).Nodup:=by
    rw [kidL,List.nodup_append]
    refine ⟨znN _,?_,fun a ha b hb=>?_⟩
    ·rw [znU,List.Nodup,List.pairwise_flatMap]
     refine ⟨fun j _=>znN _,List.Pairwise.imp_of_mem (fun {j k} hj hk hlt x hx y hy e=>?_) List.pairwise_lt_range⟩
     have h1:=zfM.1 hx
     have h2:=zfM.1 hy
     have:=g.d5 i j i k hi (List.mem_range.1 hj) hi (List.mem_range.1 hk) h1.2 (by rw [tF,tF,<- h1.1,<- h2.1,e])
     omega
    ·intro e
     have h1:=zfM.1 ha
     obtain ⟨j,hj,hb⟩:=List.mem_flatMap.1 hb
     have h2:=zfM.1 hb
     exact g.d3 i j i hi (List.mem_range.1 hj) hi h2.2 (by rw [tF,<- h2.1,<- e,h1.1])
   exact this
  ·refine List.Pairwise.imp_of_mem (fun {i k} hi hk hlt x hx y hy e=>?_) List.pairwise_lt_range
   have hi:=List.mem_range.1 hi
   have hk:=List.mem_range.1 hk
   rcases kidL_mem.1 hx with h1 | ⟨j,hj,h1⟩ <;> rcases kidL_mem.1 hy with h2 | ⟨j2,hj2,h2⟩
   ·have:=g.d4 i k hi hk h1.2 (by rw [<- h1.1,<- h2.1,e]); omega
   ·exact g.d3 k j2 i hk hj2 hi h2.2 (by rw [tF,<- h2.1,<- e,h1.1])
   ·exact g.d3 i j k hi hj hk h1.2 (by rw [tF,<- h1.1,e,h2.1])
   ·have:=g.d5 i j k j2 hi hj hk hj2 h1.2 (by rw [tF,tF,<- h1.1,<- h2.1,e]); omega
 ·intro e
  have h1:=zfM.1 ha
  obtain ⟨i,hi,hb⟩:=List.mem_flatMap.1 hb
  have hi:=List.mem_range.1 hi
  rcases kidL_mem.1 hb with h2 | ⟨j,hj,h2⟩
  ·exact g.d1 i hi h2.2 (by rw [<- h2.1,<- e,h1.1])
  ·exact g.d2 i j hi hj h2.2 (by rw [tF,<- h2.1,<- e,h1.1])
theorem zx8 {s:StoreT} {top:Int} {xs:List Int} (h:TreeX (fun c=>c∈xs) s top) (hx:xs.Nodup) (h0:InS s.a.n s.a.w 0) (h1:InS s.a.n s.a.w 1) :
  (bitsL s.a.n s.a.w).length=2+xs.length+(zeX s.ws top 16).length/\(∀a,a∈zeX s.ws top 16->InS s.a.n s.a.w a):=by
 have g:=h.sh
 have hge:∀a,a∈zeX s.ws top 16->2 <= a:=fun a ha=>by
  rcases pages_mem.1 ha with k | ⟨i,hi,k⟩ | ⟨i,j,hi,hj,k⟩
  ·have:=g.ht; omega
  ·have:=g.hk i hi; omega
  ·have:=g.hf i j hi hj; omega
 have hin:∀a,a∈zeX s.ws top 16->InS s.a.n s.a.w a:=fun a ha=>by
  rcases pages_mem.1 ha with k | ⟨i,hi,k⟩ | ⟨i,j,hi,hj,k⟩
  ·rw [k.1]; exact (g.ht.resolve_left k.2).2
  ·rw [k.1]; exact ((g.hk i hi).resolve_left k.2).2
  ·rw [k.1]; exact ((g.hf i j hi hj).resolve_left k.2).2
 have hn:((0:Int) :: 1 :: (xs++zeX s.ws top 16)).Nodup:=by
  rw [List.nodup_cons,List.nodup_cons]
  refine ⟨fun k=>?_,fun k=>?_,List.nodup_append.2 ⟨hx,qbF h,fun a ha b hb e=>?_⟩⟩
  ·rcases List.mem_cons.1 k with k | k
   ·cases k
   ·rcases List.mem_append.1 k with k | k
    ·have:=(g.xw _ k).1; omega
    ·have:=hge _ k; omega
  ·rcases List.mem_append.1 k with k | k
   ·have:=(g.xw _ k).1; omega
   ·have:=hge _ k; omega
  ·subst e
   rcases pages_mem.1 hb with k | ⟨i,hi,k⟩ | ⟨i,j,hi,hj,k⟩
   ·exact g.x1 a ha k.1
   ·exact g.x2 a i ha hi k.1
   ·exact g.x3 a i j ha hi hj k.1
 have hl:(zcU (s.a.n,s.a.w)).Nodup:=by
  rw [zcU,List.Nodup,List.pairwise_map]
  refine List.Pairwise.imp (R:=(· < ·)) (fun {a b} hab e=>?_) (List.Pairwise.filter _ List.pairwise_lt_range)
  omega
 have hm:∀a,a∈zcU (s.a.n,s.a.w) ↔ a∈((0:Int) :: 1 :: (xs++zeX s.ws top 16)):=fun a=>by
  rw [listN_mem (n:=s.a.n) (m:=s.a.w),List.mem_cons,List.mem_cons,List.mem_append,pages_mem]
  constructor
  ·intro k
   rcases g.exX a (inS_iff.2 k) with z | z | z | ⟨i,hi,z⟩ | ⟨i,j,hi,hj,z⟩ | z
   ·exact .inl z
   ·exact .inr (.inl z)
   ·by_cases e:top=0
    ·exact .inl (by rw [z,e])
    ·exact .inr (.inr (.inr (.inl ⟨z,e⟩)))
   ·by_cases e:fanF s.ws top i=0
    ·exact .inl (by rw [z,e])
    ·exact .inr (.inr (.inr (.inr (.inl ⟨i,hi,z,e⟩))))
   ·by_cases e:tF s.ws top i j=0
    ·exact .inl (by rw [z,e])
    ·exact .inr (.inr (.inr (.inr (.inr ⟨i,j,hi,hj,z,e⟩))))
   ·exact .inr (.inr (.inl z))
  ·rintro (k | k | k | k)
   ·rw [k]; exact inS_iff.1 h0
   ·rw [k]; exact inS_iff.1 h1
   ·exact inS_iff.1 (g.xw _ k).2
   ·exact inS_iff.1 (hin a (pages_mem.2 k))
 have:=((List.perm_ext_iff_of_nodup hl hn).2 hm).length_eq
 rw [zcU,List.length_map] at this
 simp only [List.length_cons,List.length_append] at this
 exact ⟨by rw [show (bitsL s.a.n s.a.w).length=_ from this]; omega,hin⟩

theorem qkE (ws:List Nat) (top:Int):zgD (zaD ws) top 16=zeX ws top 16:=by
 have hk:∀g:Int,zq7 (zaD ws) g 16=znU ws g 16:=fun g=>by
  unfold zq7 znU
  have:∀l:List Nat,(l.map (zaN (zaD ws) g)).filter (fun c=>decide (c≠0))=l.flatMap fun j=>one0 (fanF ws g j):=fun l=>by
   induction l with
   | nil=>rfl
   | cons j l ih =>
     rw [List.map_cons,List.flatMap_cons,<- ih,zj8]
     unfold one0
     by_cases e:fanF ws g j=0
     ·rw [if_pos e,e]; rfl
     ·rw [if_neg e,List.filter_cons_of_pos (by simpa using e)]; rfl
  exact this _
 unfold zgD zeX fanP kidL
 congr 1
 have:∀l:List Nat,(l.flatMap fun i=>(if zaN (zaD ws) top i=0 then [] else [zaN (zaD ws) top i])++zq7 (zaD ws) (zaN (zaD ws) top i) 16)=l.flatMap fun i=>one0 (fanF ws top i)++znU ws (fanF ws top i) 16:=fun l=>by
  induction l with
  | nil=>rfl
  | cons j l ih=>rw [List.flatMap_cons,List.flatMap_cons,ih,hk,zj8]; rfl
 exact this _


abbrev GT:Type:=Nat×Int×EB
def gB (G:List GT):List Int:=G.flatMap fun g=>g.2.2.2
def gE (G:List GT):List EntT:=G.flatMap fun g=>g.2.2.1
theorem zh6 (g:GT) (G:List GT):gB (g :: G)=g.2.2.2++gB G:=by simp [gB]
theorem znY (g:GT) (G:List GT):gE (g :: G)=g.2.2.1++gE G:=by simp [gE]
theorem zmL (G K:List GT):gB (G++K)=gB G++gB K:=by simp [gB]
theorem zhN (G K:List GT):gE (G++K)=gE G++gE K:=by simp [gE]
theorem qb6 {G K:List GT} (h:G.Perm K):(gB G).Perm (gB K):=h.flatMap_right _
theorem zv4 {G K:List GT} (h:G.Perm K):(gE G).Perm (gE K):=h.flatMap_right _
theorem zi9 {G:List GT} {g:GT} (h:g∈G) {c:Int} (hc:c∈g.2.2.2):c∈gB G:=List.mem_flatMap.2 ⟨g,h,hc⟩
structure Grove (s:StoreT) (t:TickT) (d:DeskT) (G:List GT):Prop where
 inv:NInv s t d (gB G)
 tr:∀g∈G,zbQ (ndN s.ws) g.1 g.2.1=some g.2.2
theorem Grove.perm {s:StoreT} {t:TickT} {d:DeskT} {G K:List GT} (h:Grove s t d G) (p:G.Perm K):Grove s t d K :=
 ⟨h.inv.perm (qb6 p),fun g hg=>h.tr g (p.mem_iff.2 hg)⟩
theorem Grove.mark {s:StoreT} {t:TickT} {d:DeskT} {G:List GT} (h:Grove s t d G):Grove (znS s) t d G:=⟨h.inv.mark,h.tr⟩
theorem NInv.nd' {s:StoreT} {t:TickT} {d:DeskT} {xs:List Int} (h:NInv s t d xs) {c:Int} (hc:c∈xs):ndN s.ws c=some (readT s.ws c):=by
 rw [ndN,if_pos (h.node c hc).1]
theorem qbP {s s':StoreT} {t t':TickT} {d d':DeskT} {xs ys:List Int} (h:NInv s t d xs) (k:NInv s' t' d' ys) {c:Int} (hc:c∈xs) (hc':c∈ys) (e:readT s'.ws c=readT s.ws c):ndN s'.ws c=ndN s.ws c:=by
 rw [h.nd' hc,k.nd' hc',e]
theorem Grove.ents {s:StoreT} {t:TickT} {d:DeskT} {G:List GT} (h:Grove s t d G):gE G=(gB G).map fun c=>(readT s.ws c).e:=by
 have key:∀K:List GT,(∀g∈K,g∈G)->gE K=(gB K).map fun c=>(readT s.ws c).e:=fun K=>by
  induction K with
  | nil=>intro _; rfl
  | cons g K ih =>
    intro hs
    rw [znY,zh6,List.map_append,ih fun k hk=>hs k (List.mem_cons_of_mem _ hk)]
    congr 1
    have hg:=hs g (List.mem_cons_self ..)
    exact (zw0 _ _ _ (h.tr g hg) (fun c=>(readT s.ws c).e) fun c hc n hn=>by
     rw [h.inv.nd' (zi9 hg hc)] at hn; cases hn; rfl).1
 exact key G fun _ hg=>hg
theorem NInv.hnd {s:StoreT} {t:TickT} {d:DeskT} {xs:List Int} (h:NInv s t d xs):HNodup (xs.map fun c=>(readT s.ws c).e):=by
 unfold HNodup
 rw [List.pairwise_map]
 exact h.nd.imp_of_mem fun ha hb hne=>qb5 h ha hb hne
theorem Grove.hnd {s:StoreT} {t:TickT} {d:DeskT} {G:List GT} (h:Grove s t d G):HNodup (gE G):=by rw [h.ents]; exact h.inv.hnd

theorem qgV {s:StoreT} {t:TickT} {d:DeskT} {G:List GT} (h:Grove s t d G) {r:MR} {hd:HandT} {k v:Int} (M:Made s t d (gB G) hd k v r) :
  Grove r.s r.t (zb6 d r.a) ((0,r.a,[⟨hd.slot,hd.gen,k,v⟩],[r.a]) :: G):=by
 have hi:NInv r.s r.t (zb6 d r.a) (gB ((0,r.a,[⟨hd.slot,hd.gen,k,v⟩],[r.a]) :: G)):=by rw [zh6]; exact M.inv
 refine ⟨hi,fun g hg=>?_⟩
 rcases List.mem_cons.1 hg with e | hg
 ·subst e
  have e2:=M.inv.nd' (List.mem_cons_self ..)
  rw [M.node] at e2
  exact zwZ e2 rfl
 ·refine zf4 _ _ _ (h.tr g hg) fun c hc=>?_
  have hc:=zi9 hg hc
  exact qbP h.inv M.inv hc (List.mem_cons_of_mem _ hc) (M.oth c hc)

theorem zrI {s:StoreT} {t:TickT} {d d':DeskT} {k:Nat} {a b:Int} {p q:EB} {R:List GT} {xs:List Int} {r:TR} (h:Grove s t d ((k,a,p) :: (k,b,q) :: R)) (hx:xs.Perm (gB ((k,a,p) :: (k,b,q) :: R)))
  (hah:ahead (readT s.ws a).e (readT s.ws b).e) (T:Turned s t d xs a ⟨(readT s.ws a).e,(readT s.ws a).kids++[b]⟩ d' r) :
  Grove r.s r.t d' ((k+1,r.a,p.1++q.1,r.a :: p.2.tail++q.2) :: R):=by
 have ta:=h.tr _ (List.mem_cons_self ..)
 have tb:=h.tr (k,b,q) (List.mem_cons_of_mem _ (List.mem_cons_self ..))
 simp only at ta tb
 obtain ⟨na,ra,qa,n1,n2,n3,n4⟩:=zcR ta
 obtain ⟨nb,rb,qb,m1,m2,m3,m4⟩:=zcR tb
 have hB:gB ((k,a,p) :: (k,b,q) :: R)=a :: (qa++(q.2++gB R)):=by rw [zh6,zh6]; simp only; rw [n4]; rfl
 have ma:a∈gB ((k,a,p) :: (k,b,q) :: R):=by rw [hB]; exact List.mem_cons_self ..
 have mb:b∈gB ((k,a,p) :: (k,b,q) :: R):=by rw [hB,m4]; simp
 have ea:=h.inv.nd' ma
 have eb:=h.inv.nd' mb
 rw [n1] at ea
 rw [m1] at eb
 have ea:=Option.some.inj ea
 have eb:=Option.some.inj eb
 have hnd:=h.inv.nd
 rw [hB] at hnd
 have her:(r.a :: xs.erase a).Perm (r.a :: (qa++(q.2++gB R))):=by
  refine List.Perm.cons _ ?_
  have:=hx.erase a
  rw [hB,List.erase_cons_head] at this
  exact this
 have hi:NInv r.s r.t d' (r.a :: (qa++(q.2++gB R))):=T.inv.perm her
 have hi':gB ((k+1,r.a,p.1++q.1,r.a :: p.2.tail++q.2) :: R)=r.a :: (qa++(q.2++gB R)):=by rw [zh6]; simp only; rw [n4]; simp
 have hsame:∀c,c∈qa++(q.2++gB R)->ndN r.s.ws c=ndN s.ws c:=fun c hc=>by
  have hc1:c∈gB ((k,a,p) :: (k,b,q) :: R):=by rw [hB]; exact List.mem_cons_of_mem _ hc
  refine qbP h.inv hi hc1 (List.mem_cons_of_mem _ hc) (T.oth c (hx.mem_iff.2 hc1) fun e=>?_)
  rw [List.nodup_cons] at hnd
  exact hnd.1 (e ▸ hc)
 refine ⟨by rw [hi']; exact hi,fun g hg=>?_⟩
 rcases List.mem_cons.1 hg with e | hg
 ·subst e
  simp only
  have eN:=hi.nd' (List.mem_cons_self ..)
  rw [T.node] at eN
  refine qe6 (N:=ndN s.ws) (n:=na) ta tb n1 (by rw [eN,ea]) (fun c hc hne=>hsame c ?_) (fun c hc=>hsame c (by simp [hc])) ?_ ?_
  ·rw [n4] at hc
   rcases List.mem_cons.1 hc with z | z
   ·exact absurd z hne
   ·exact List.mem_append.2 (.inl z)
  ·rw [n4]
   exact (List.nodup_cons.2 ⟨fun z=>(List.nodup_cons.1 hnd).1 (List.mem_append.2 (.inl z)),(List.nodup_append.1 (List.nodup_cons.1 hnd).2).1⟩)
  ·rw [m3]; show ahead na.e nb.e
   rw [ea,eb]; exact hah
 ·refine zf4 _ _ _ (h.tr g (List.mem_cons_of_mem _ (List.mem_cons_of_mem _ hg))) fun c hc=>hsame c ?_
  have:=zi9 hg hc
  simp [this]

structure Linked (s:StoreT) (t:TickT) (d:DeskT) (k:Nat) (p q:EB) (R:List GT) (d':DeskT) (p':EB) (r:TR):Prop where
 e:r.e=0
 gr:Grove r.s r.t d' ((k+1,r.a,p') :: R)
 env:Env s r.s
 geo:SameGeo t r.t
 gens:d'.gens=d.gens
 free:d'.free=d.free
 es:p'.1.Perm (p.1++q.1)
 at2:2 <= r.a/\r.a<3072
theorem qgW {s:StoreT} {t:TickT} {d:DeskT} {k:Nat} {a b:Int} {p q:EB} {R:List GT} (h:Grove s t d ((k,a,p) :: (k,b,q) :: R)) (hf:4 <= freeN s.a) (h12:k<12) :
  ∃d' p',Linked s t d k p q R d' p' (lkRes s t a b):=by
 have ta:=h.tr _ (List.mem_cons_self ..)
 have tb:=h.tr (k,b,q) (List.mem_cons_of_mem _ (List.mem_cons_self ..))
 simp only at ta tb
 obtain ⟨na,ra,qa,n1,n2,n3,n4⟩:=zcR ta
 obtain ⟨nb,rb,qb,m1,m2,m3,m4⟩:=zcR tb
 have hB:gB ((k,a,p) :: (k,b,q) :: R)=a :: (qa++(b :: (qb++gB R))):=by rw [zh6,zh6]; simp only; rw [n4,m4]; rfl
 have ma:a∈gB ((k,a,p) :: (k,b,q) :: R):=by rw [hB]; exact List.mem_cons_self ..
 have mb:b∈gB ((k,a,p) :: (k,b,q) :: R):=by rw [hB]; simp
 have hne:a≠b:=fun e=>by
  have:=h.inv.nd
  rw [hB,List.nodup_cons] at this
  exact this.1 (by rw [e]; simp)
 have ea:=h.inv.nd' ma
 have eb:=h.inv.nd' mb
 rw [n1] at ea
 rw [m1] at eb
 have ea:=Option.some.inj ea
 have eb:=Option.some.inj eb
 obtain ⟨P,C,d',hpc,hah,T⟩:=lk_step h.inv hf ma mb hne (by rw [<- ea,<- eb,n2,m2]) (by rw [<- ea,n2]; exact h12)
 refine ⟨d',?_⟩
 rcases hpc with ⟨rfl,rfl⟩ | ⟨rfl,rfl⟩
 ·exact ⟨_,T.e,zrI h (List.Perm.refl _) hah T,T.env,T.geo,T.gens,T.free,List.Perm.refl _,T.at2⟩
 ·have sw:((k,C,p) :: (k,P,q) :: R).Perm ((k,P,q) :: (k,C,p) :: R):=List.Perm.swap ..
  exact ⟨_,T.e,zrI (h.perm sw) (qb6 sw) hah T,T.env,T.geo,T.gens,T.free,List.perm_append_comm,T.at2⟩

theorem zx7 {X:Int->Prop} {s:StoreT} {top:Int} (h:TreeX X s top):zeY (zaD s.ws) top/\zcX (zaD s.ws) top=zeX s.ws top 16:=by
 have hok:zeY (zaD s.ws) top:=⟨(zpF _ _).2 h.et,fun i hi=>⟨(zpF _ _).2 (by rw [zj8]; exact h.ek i hi),fun j hj=>(zyW _ _).2 (by rw [img_F]; exact h.ef i j hi hj)⟩⟩
 exact ⟨hok,by rw [zcX,if_pos hok,qkE]⟩
def W01 (s:StoreT):Prop:=InS s.a.n s.a.w 0/\InS s.a.n s.a.w 1
theorem W01.env {s s':StoreT} (h:W01 s) (e:Env s s'):W01 s':=⟨by rw [e.n]; exact e.w01 0 (by omega) h.1,by rw [e.n]; exact e.w01 1 (by omega) h.2⟩
theorem W01.mark {s:StoreT} (h:W01 s):W01 (znS s):=h
theorem qn8 {n:Nat} (h:2 <= n):W01 (zd5 n 0):=⟨zj7.2 ⟨.inl rfl,show (0:Int)<(n:Int) by omega⟩,zj7.2 ⟨.inr rfl,show (1:Int)<(n:Int) by omega⟩⟩
theorem Grove.img {s:StoreT} {t:TickT} {d:DeskT} {G:List GT} (h:Grove s t d G) {g:GT} (hg:g∈G):zbQ (imgN (zaD s.ws)) g.1 g.2.1=some g.2.2:=by
 rw [qlH]; exact h.tr g hg
theorem Grove.leads {s:StoreT} {t:TickT} {d:DeskT} {G:List GT} (h:Grove s t d G):zhJ s t (gE G) (gB G):=qd6 h.inv (List.Perm.refl _) h.ents
theorem Grove.len {s:StoreT} {t:TickT} {d:DeskT} {G:List GT} (h:Grove s t d G):(gE G).length=(gB G).length:=by rw [h.ents,List.length_map]


theorem zc5:zaS tickZ:=⟨I64_0,I64_0,I64_0,I64_0,I64_0,I64_0⟩
theorem qrE {s:StoreT} (h:zaG s) (t:TickT) (x:HandT) (a:Int):zaG (poiS s t x a):=by
 unfold poiS
 split
 ·exact qjU h _ _ _
 ·exact h
theorem poiT_I {s:StoreT} (h:zaG s) {t:TickT} (ht:zaS t) (x:HandT) (a:Int):zaS (poiT s t x a):=by
 unfold poiT
 split
 ·obtain ⟨h1,h2,h3,h4,h5,h6⟩:=ht
  exact ⟨h1,h2,h3,zvB h h4 _ _,h5,h6⟩
 ·exact zc5
theorem qrK {s:StoreT} (h:zaG s) (t:TickT) (a:Int):zaG (issS s t a):=by
 unfold issS
 split
 ·exact qjU h _ _ _
 ·exact h
theorem issT_I {s:StoreT} (h:zaG s) {t:TickT} (ht:zaS t) (a:Int):zaS (issT s t a):=by
 unfold issT
 split
 ·rename_i he
  obtain ⟨h1,h2,h3,h4,h5,h6⟩:=ht
  have hx:=qbO s.ws t
  have hok:zb3 t:=by
   unfold issE at he
   split at he
   ·rename_i k; exact k.1
   ·split at he
    ·rename_i k; exact k.1
    ·cases he
  obtain ⟨⟨g1,g2,g3,g4,g5,g6⟩,g7,g8,g9,g10⟩:=hok
  refine ⟨h1,h2,h3,zvB h h4 _ _,?_,?_⟩
  ·show I64 (if 0<t.free then t.high else t.high+1)
   split
   ·exact h5
   ·exact ⟨by omega,by omega⟩
  ·show I64 (if 0<t.free then (nextX s.ws t).next else t.free)
   split
   ·exact hx.2
   ·exact h6
 ·exact zc5
theorem relS_W {s:StoreT} (h:zaG s) (t:TickT) (x:HandT):zaG (relS s t x):=by
 unfold relS
 split
 ·exact qjU h _ _ _
 ·exact h
theorem relT_I {s:StoreT} (h:zaG s) {t:TickT} (ht:zaS t) {x:HandT} (hx:zhT x):zaS (relT s t x):=by
 unfold relT
 split
 ·rename_i he
  obtain ⟨h1,h2,h3,h4,h5,h6⟩:=ht
  refine ⟨h1,h2,h3,zvB h h4 _ _,h5,?_⟩
  show I64 (if (seatX s.ws t x).gen<t.gens then x.slot+1 else t.free)
  split
  ·have hs:zcL s.ws t x=0:=by
    unfold relE at he
    split at he
    ·assumption
    ·rename_i k; exact absurd he k
   unfold zcL at hs
   split at hs
   ·rename_i k
    obtain ⟨⟨g1,g2,g3,g4,g5,g6⟩,g7,g8,g9,g10⟩:=k
    split at hs
    ·cases hs
    ·exact ⟨by omega,by omega⟩
   ·cases hs
  ·exact h6
 ·exact zc5
theorem tu_I {s:StoreT} (h:zaG s) {t:TickT} (ht:zaS t) {a:Int} (ha:I64 a) (n:NodeT):zaG (zf3 s t a n).s/\zaS (zf3 s t a n).t/\I64 (zf3 s t a n).a:=by
 have hW:=zz4 h a (zcW n)
 have hA:=zuK h ha (zaJ n)
 unfold zf3
 split
 ·split
  ·split
   ·split
    ·exact ⟨hW,ht,hA⟩
    ·split
     ·exact ⟨qrE hW _ _ _,poiT_I hW ht _ _,hA⟩
     ·exact ⟨qrE hW _ _ _,zc5,I64_0⟩
   ·exact ⟨hW,zc5,I64_0⟩
  ·exact ⟨hW,zc5,I64_0⟩
 ·exact ⟨h,zc5,I64_0⟩
theorem lk_I {s:StoreT} (h:zaG s) {t:TickT} (ht:zaS t) {a b:Int} (ha:I64 a) (hb:I64 b):zaG (lkRes s t a b).s/\zaS (lkRes s t a b).t/\I64 (lkRes s t a b).a:=by
 unfold lkRes
 split
 ·split
  ·split
   ·exact ⟨h,zc5,I64_0⟩
   ·split
    ·exact tu_I h ht hb _
    ·exact tu_I h ht ha _
  ·exact ⟨h,zc5,I64_0⟩
 ·exact ⟨h,zc5,I64_0⟩
theorem mk_I {s:StoreT} (h:zaG s) {t:TickT} (ht:zaS t) (k v:Int):zaG (zb7 s t k v).s/\zaS (zb7 s t k v).t/\I64 (zb7 s t k v).a:=by
 have hW:=znT h (zcW (mkN (zgX s.ws t) k v))
 have hA:=zpC h (zaJ (mkN (zgX s.ws t) k v))
 unfold zb7
 split
 ·split
  ·split
   ·split
    ·exact ⟨qrK hW _ _,issT_I hW ht _,hA⟩
    ·exact ⟨qrK hW _ _,zc5,I64_0⟩
   ·exact ⟨hW,zc5,I64_0⟩
  ·exact ⟨h,zc5,I64_0⟩
 ·exact ⟨h,zc5,I64_0⟩

end Yard
