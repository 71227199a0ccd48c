import Derived.Test.YtlihikockhjodaaGreatDoorYdOps
import Derived.Test.YtlihikockhjodaaGreatDoorRefList
import Derived.Test.YtlihikockhjodaaGreatDoorTlMath

namespace Yard
open Go Go.Sx Go.Proofs
set_option linter.unusedVariables false
set_option linter.unusedSimpArgs false
set_option maxRecDepth 4000
set_option maxHeartbeats 4000000

def ql6 (r:Nat->Int):Nat->Nat->Int->Bool
 | 0,_,n=>decide (n=0)
 | k+1,i,n=>if (decide (n.tmod 2=1) == !decide (r i=0))=true then ql6 r k (i+1) (n.tdiv 2) else false

def qgU (N:Int->Option NodeT) (r:Nat->Int):Nat->Option EB
 | 0=>some ([],[])
 | i+1=>match qgU N r i with
   | none=>none
   | some q=>if r i=0 then some q else match zcX N i (r i) with
     | none=>none
     | some p=>some (q.1++p.1,q.2++p.2)

theorem zoK (r:Nat->Int):∀n i,i<n->(rootN r n / 2 ^ i % 2=1 ↔ r i≠0)
 | 0,i,h=>absurd h (Nat.not_lt_zero _)
 | n+1,i,h=>by
   rw [rootN]
   by_cases e:i=n
   ·subst e
    have hl:=zkZ r i
    by_cases hz:r i=0
    ·rw [if_pos hz,Nat.add_zero,Nat.div_eq_of_lt hl]
     simp [hz]
    ·rw [if_neg hz,Nat.add_div_right _ (Nat.pow_pos (by decide)),Nat.div_eq_of_lt hl]
     simp [hz]
   ·have ih:=zoK r n i (by omega)
    rw [<- ih]
    by_cases hz:r n=0
    ·rw [if_pos hz,Nat.add_zero]
    ·rw [if_neg hz]
     obtain ⟨d,rfl⟩:∃d,n=i+1+d:=⟨n-(i+1),by omega⟩
     rw [show (2:Nat) ^ (i+1+d)=2 ^ i*(2*2 ^ d) by rw [Nat.pow_add,Nat.pow_succ,Nat.mul_assoc],Nat.add_mul_div_left _ _ (Nat.pow_pos (by decide)),Nat.add_mul_mod_self_left]

structure zeY (s:StoreT) (t:TickT) (r:Nat->Int) (want:List EntT) (q:EB):Prop where
 img:qgU (imgN (zaG s.ws)) r 12=some q
 leads:zu5 s t q.1 q.2
 shape:ql6 r 12 0 (want.length:Nat)=true
 cnt:rootN r 12=want.length
 sort:sortE q.1=sortE want
 pok:zsD (zaG s.ws) t.top
 works:(zbB s.a.n s.a.w).length=2+q.2.length+(pagesI (zaG s.ws) t.top).length
 len:q.2.length=want.length/\q.1.length=want.length
 ents:EntsI q.1
 kids:ziQ q.2

structure FR1 (sl:Int) (s:StoreT) (t:TickT) (d:DeskT) (r:Nat->Int) (G R:List GT) (l:List EntT) (i:Nat):Prop where
 yd:Yd s t d (G++R)
 roots:(gK G).Perm (fK r)
 es:(gE G).Perm l
 cnt:rootN r 12=l.length
 slots:t.slots=sl
 gens:d.gens.length <= i
theorem FR1.W {sl:Int} {s:StoreT} {t:TickT} {d:DeskT} {r:Nat->Int} {G R:List GT} {l:List EntT} {i:Nat} (h:FR1 sl s t d r G R l i):zaF s:=h.yd.gr.inv.W
theorem FR1.tI {sl:Int} {s:StoreT} {t:TickT} {d:DeskT} {r:Nat->Int} {G R:List GT} {l:List EntT} {i:Nat} (h:FR1 sl s t d r G R l i):zaR t:=h.yd.gr.inv.tI
theorem FR1.high {sl:Int} {s:StoreT} {t:TickT} {d:DeskT} {r:Nat->Int} {G R:List GT} {l:List EntT} {i:Nat} (h:FR1 sl s t d r G R l i):t.high <= 1792:=by
 have:=zsI h.yd.gr.inv
 have:=h.yd.roomy.lt
 omega
theorem yd_rI {s:StoreT} {t:TickT} {d:DeskT} {r:Nat->Int} {G R:List GT} (h:Yd s t d (G++R)) (hG:(gK G).Perm (fK r)):∀j,j<12->r j≠0->2 <= r j/\r j<3072:=fun j hj hn=>by
 have hm:(j,r j)∈gK G:=hG.mem_iff.2 (zpD.2 ⟨hj,rfl,hn⟩)
 obtain ⟨g,hg,e⟩:=List.mem_map.1 hm
 have hg':=List.mem_append.2 (.inl hg:g∈G\/g∈R)
 have ht:=h.gr.tr _ hg'
 obtain ⟨nd,ra,qa,n1,n2,n3,n4⟩:=zcC ht
 have hab:g.2.1∈gB (G++R):=ziA hg' (by rw [n4]; exact List.mem_cons_self ..)
 have hr:=h.gr.inv.range hab
 have e2:g.2.1=r j:=congrArg Prod.snd e
 rw [e2] at hr
 exact ⟨hr.1,hr.2.2⟩
theorem FR1.rI {sl:Int} {s:StoreT} {t:TickT} {d:DeskT} {r:Nat->Int} {G R:List GT} {l:List EntT} {i:Nat} (h:FR1 sl s t d r G R l i):zaY r:=fun j hj=>by
 by_cases hn:r j=0
 ·rw [hn]; exact I64_0
 ·have:=yd_rI h.yd h.roots j hj hn
  exact ⟨by omega,by omega⟩
theorem FR1.hnd {sl:Int} {s:StoreT} {t:TickT} {d:DeskT} {r:Nat->Int} {G R:List GT} {l:List EntT} {i:Nat} (h:FR1 sl s t d r G R l i):HNodup l:=by
 have:=h.yd.gr.hnd
 rw [zfR] at this
 exact HNodup.perm (List.pairwise_append.1 this).1 h.es
theorem FR1.len {sl:Int} {s:StoreT} {t:TickT} {d:DeskT} {r:Nat->Int} {G R:List GT} {l:List EntT} {i:Nat} (h:FR1 sl s t d r G R l i):l.length<4096:=by
 rw [<- h.cnt]; exact zkZ r 12
theorem FR1.ents {sl:Int} {s:StoreT} {t:TickT} {d:DeskT} {r:Nat->Int} {G R:List GT} {l:List EntT} {i:Nat} (h:FR1 sl s t d r G R l i):EntsI l:=by
 refine ⟨fun x hx=>?_,by have:=h.len; omega⟩
 obtain ⟨g,hg,hx2⟩:=List.mem_flatMap.1 (h.es.mem_iff.2 hx)
 exact qdJ (P:=EntI) (fun c m hc=>(imgN_I hc).1.1) _ _ _ (h.yd.gr.img (List.mem_append.2 (.inl hg))) x hx2
theorem FR1.perm {sl:Int} {s:StoreT} {t:TickT} {d:DeskT} {r:Nat->Int} {G R:List GT} {l m:List EntT} {i:Nat} (h:FR1 sl s t d r G R l i) (p:l.Perm m):FR1 sl s t d r G R m i :=
 ⟨h.yd,h.roots,h.es.trans p,by rw [h.cnt,p.length_eq],h.slots,h.gens⟩
theorem FR1.mark {sl:Int} {s:StoreT} {t:TickT} {d:DeskT} {r:Nat->Int} {G R:List GT} {l:List EntT} {i:Nat} (h:FR1 sl s t d r G R l i):FR1 sl (zj7 s) t d r G R l i :=
 ⟨h.yd.mark,h.roots,h.es,h.cnt,h.slots,h.gens⟩
theorem FR1.le {sl:Int} {s:StoreT} {t:TickT} {d:DeskT} {r:Nat->Int} {G R:List GT} {l:List EntT} {i j:Nat} (h:FR1 sl s t d r G R l i) (hj:i <= j):FR1 sl s t d r G R l j :=
 ⟨h.yd,h.roots,h.es,h.cnt,h.slots,Nat.le_trans h.gens hj⟩
theorem zz9 {n:Nat} {sl:Int} (h1:1 <= sl) (h2:sl <= 112) (h3:14+2*((sl.toNat+6) / 7)+2*sl.toNat <= n) (h4:n <= 3072):FR1 sl (zdI n 0) (zn3 (n:Int) sl 100) qcK zcW [] [] [] 0 :=
 ⟨yd_made h1 h2 h3 h4,List.Perm.refl _,List.Perm.refl _,rfl,rfl,Nat.le_refl _⟩
theorem iss_len (d:DeskT) (b:Int):(zbQ d b).gens.length <= d.gens.length+1:=by
 unfold zbQ
 cases d.free with
 | nil=>simp
 | cons a l=>simp
theorem next_ex {slots:Int} {d:DeskT} (h:(d.gens.length:Int)<slots):∃a g,zd8 slots d=some (a,g)/\(d.free=[]->a=d.gens.length/\g=1):=by
 unfold zd8
 cases d.free with
 | nil=>exact ⟨d.gens.length,1,by simp only; rw [if_neg (by omega)],fun _=>⟨rfl,rfl⟩⟩
 | cons a l=>exact ⟨a,_,rfl,fun q=>by cases q⟩
theorem qkT {d:DeskT} (h:d.free=[]):(zbQ d 0).gens.length=d.gens.length+1/\(zbQ d 0).free=[]:=by
 unfold zbQ
 rw [h]
 exact ⟨by simp,rfl⟩

structure Ins1 (sl:Int) (s:StoreT) (t:TickT) (d:DeskT) (r:Nat->Int) (G R:List GT) (l:List EntT) (i:Nat) (k v:Int) (x:EntT) (d':DeskT) (G':List GT) (q:IR):Prop where
 e:q.e=0
 h:q.h=entH x
 key:x.key=k
 value:x.value=v
 fr:FR1 sl q.s q.t d' q.r G' R (x :: l) (i+1)
 env:Env s q.s
 new:∀y∈gE (G++R),entH y≠entH x
 fresh:d.free=[]->x.slot=d.gens.length/\x.gen=1/\d'.free=[]/\d'.gens.length=d.gens.length+1
theorem FR1.insert {sl:Int} {s:StoreT} {t:TickT} {d:DeskT} {r:Nat->Int} {G R:List GT} {l:List EntT} {i:Nat} (h:FR1 sl s t d r G R l i) (hi:(i:Int)<sl) (h112:sl <= 112) {k v:Int} (hk:I64 k) (hv:I64 v) :
  ∃x d' G',Ins1 sl s t d r G R l i k v x d' G' (insR s t r k v):=by
 have hg:=h.gens
 have hlen:l.length <= d.gens.length:=by
  have h1:=h.yd.gr.inv.len
  have h2:=h.yd.gr.len
  rw [zfR,List.length_append,h.es.length_eq] at h2
  omega
 obtain ⟨a,g,hn,hf⟩:=next_ex (slots:=t.slots) (d:=d) (by rw [h.slots]; omega)
 have hc:rootN r 12+1<4096:=by rw [h.cnt]; omega
 obtain ⟨d',G',I⟩:=qcY h.yd h.roots hc hn hk hv
 have hl:=iss_len d 0
 have hE:(gE (G'++R)).Perm (⟨(a:Int),g,k,v⟩ :: gE (G++R)):=by
  rw [zfR,zfR]
  exact I.es.append_right _
 have hnd:=HNodup.perm I.yd.gr.hnd hE
 refine ⟨⟨(a:Int),g,k,v⟩,d',G',I.e,I.h,rfl,rfl,⟨I.yd,I.roots,I.es.trans (List.Perm.cons _ h.es),by rw [I.cnt,h.cnt]; rfl,by rw [I.geo.1,h.slots],by rw [I.gens]; omega⟩,I.env,fun y hy=>?_,fun hq=>?_⟩
 ·exact fun e=>(List.pairwise_cons.1 hnd).1 y hy e.symm
 ·obtain ⟨e1,e2⟩:=hf hq
  obtain ⟨f1,f2⟩:=qkT hq
  exact ⟨by rw [e1],e2,by rw [I.free,f2],by rw [I.gens,f1]⟩

structure Pop1 (sl:Int) (s:StoreT) (t:TickT) (d:DeskT) (r:Nat->Int) (R:List GT) (l:List EntT) (i:Nat) (d':DeskT) (G':List GT) (q:PR):Prop where
 e:q.e=0
 mem:q.x∈l
 min:∀y∈l,y=q.x\/ahead q.x y
 fr:∀m,l.Perm (q.x :: m)->FR1 sl q.s q.t d' q.r G' R m i
 env:Env s q.s
 gens:d'.gens=d.gens
 fst:(fst s.ws r).e=0/\(Yard.fst s.ws r).n.e=q.x
theorem FR1.pop {sl:Int} {s:StoreT} {t:TickT} {d:DeskT} {r:Nat->Int} {G R:List GT} {l:List EntT} {i:Nat} (h:FR1 sl s t d r G R l i) (hne:l≠[]):∃d' G',Pop1 sl s t d r R l i d' G' (popR s t r):=by
 obtain ⟨d',G',P⟩:=yd_popR h.yd h.roots (fun e=>hne (by have:=h.es.length_eq; rw [e] at this; exact List.length_eq_zero_iff.1 this.symm))
 refine ⟨d',G',P.e,?_,fun y hy=>P.min y (h.es.mem_iff.2 hy),fun m hm=>?_,P.env,P.gens,P.fst⟩
 ·exact h.es.mem_iff.1 (P.es.mem_iff.2 (List.mem_cons_self ..))
 ·have e1:(gE G').Perm m:=(List.perm_cons _).1 (P.es.symm.trans (h.es.trans hm))
  have hc:=P.cnt
  rw [h.cnt,hm.length_eq,List.length_cons] at hc
  exact ⟨P.yd,P.roots,e1,by omega,by rw [P.geo.1,h.slots],by rw [P.gens]; exact h.gens⟩
theorem FR1.popNo {sl:Int} {s:StoreT} {t:TickT} {d:DeskT} {r:Nat->Int} {G R:List GT} {i:Nat} (h:FR1 sl s t d r G R [] i):popR s t r=⟨s,tickZ,zcW,entZ,18⟩/\fst s.ws r=⟨nodeZ,0,18⟩/\(∀j,j<12->r j=0) :=
 qi5 h.yd h.roots (List.length_eq_zero_iff.1 (by rw [h.es.length_eq]; rfl))

end Yard
