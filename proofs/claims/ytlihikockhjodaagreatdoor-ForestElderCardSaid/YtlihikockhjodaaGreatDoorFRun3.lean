import Derived.Test.YtlihikockhjodaaGreatDoorFRun2
import Derived.Test.YtlihikockhjodaaGreatDoorForList

namespace Yard
open Go Go.Sx Go.Proofs
set_option linter.unusedVariables false
set_option linter.unusedSimpArgs false
set_option maxRecDepth 4000
set_option maxHeartbeats 4000000

theorem zrL {ws:List Nat}:∀(L:List (Nat×Int)) (G:List GT),(∀g∈G,zcX (ndN ws) g.1 g.2.1=some g.2.2/\g.2.2.1.length <= 1792)->(gK G).Perm L->∀out:List EntT,∃q,allE ws (L.map fun x=>x.2) out=(out++q,0)/\q.Perm (gE G)
 | [],G,_,h,out=>by
   have e:G=[]:=by
    have:=h.length_eq
    simp [gK] at this
    exact this
   subst e
   exact ⟨[],by rw [List.append_nil]; rfl,List.Perm.refl _⟩
 | x :: L,G,hT,h,out=>by
   obtain ⟨p,G',h1,h2⟩:=zs3 h
   obtain ⟨t1,t2⟩:=hT _ (h1.mem_iff.2 (List.mem_cons_self ..))
   simp only at t1 t2
   have hL:=qbX t1 t2
   obtain ⟨q,q1,q2⟩:=zrL L G' (fun g hg=>hT g (h1.mem_iff.2 (List.mem_cons_of_mem _ hg))) h2 (out++p.1)
   refine ⟨p.1++q,?_,?_⟩
   ·rw [List.map_cons,allE,hL,if_pos rfl,q1,List.append_assoc]
   ·have:=zx4 h1
    rw [zkB] at this
    exact (q2.append_left p.1).trans this.symm
theorem qkN {ws ws':List Nat} {c:Int} (hl:zaT ws'=zaT ws) (h:zaQ ws' c=zaQ ws c):ndN ws' c=ndN ws c:=by
 obtain ⟨h1,h2⟩:=zfN hl h
 unfold ndN
 rw [h1,h2]
theorem FR1.elder {sl:Int} {s:StoreT} {t:TickT} {d:DeskT} {r:Nat->Int} {G R:List GT} {l:List EntT} {i:Nat} (h:FR1 sl s t d r G R l i) {ws:List Nat} (hl:zaT ws=zaT s.ws) (hs:∀c∈gB G,zaQ ws c=zaQ s.ws c) :
  (zbX ws r).2=0/\(zbX ws r).1.Perm l:=by
 have hlen:(gE G).length <= 112:=by
  have h1:=zsI h.yd.gr.inv
  have h2:=h.yd.gr.len
  have h3:=h.yd.roomy.lt
  rw [zfR,List.length_append] at h2
  omega
 have hT:∀g∈G,zcX (ndN ws) g.1 g.2.1=some g.2.2/\g.2.2.1.length <= 1792:=fun g hg=>by
  have ht:=h.yd.gr.tr g (List.mem_append.2 (.inl hg))
  refine ⟨zd9 _ _ _ ht fun c hc=>qkN hl (hs c (ziA hg hc)),?_⟩
  have:g.2.2.1.length <= (gE G).length:=by
   obtain ⟨a,b,e⟩:=List.append_of_mem hg
   rw [e,zfR,zkB]
   simp only [List.length_append]
   omega
  omega
 obtain ⟨q,q1,q2⟩:=zrL (ws:=ws) (fK r) G hT h.roots []
 rw [zbX,nzL_fK,q1]
 exact ⟨rfl,by rw [List.nil_append]; exact q2.trans h.es⟩
theorem FR1.list {sl:Int} {s:StoreT} {t:TickT} {d:DeskT} {r:Nat->Int} {G R:List GT} {l:List EntT} {i:Nat} (h:FR1 sl s t d r G R l i):(zbX s.ws r).2=0/\(zbX s.ws r).1.Perm l:=h.elder rfl fun _ _=>rfl

theorem FR1.behind {sl:Int} {s:StoreT} {t:TickT} {d:DeskT} {r:Nat->Int} {G R:List GT} {l:List EntT} {i:Nat} (h:FR1 sl s t d r G R l i) {s':StoreT} (e:Env (zj7 s) s'):(zbX s'.ws r).2=0/\(zbX s'.ws r).1.Perm l :=
 h.elder e.lns fun c hc=>e.marks c (h.yd.gr.inv.inv.tree.sh.xw c (by rw [ziC]; exact List.mem_append.2 (.inl hc))).2

end Yard
