import Derived.Test.YtlihikockhjodaaGreatDoorFRun
import Derived.Test.YtlihikockhjodaaGreatDoorForest5

namespace Yard
open Go Go.Sx Go.Proofs
set_option linter.unusedVariables false
set_option linter.unusedSimpArgs false
set_option maxRecDepth 4000
set_option maxHeartbeats 4000000

theorem FR1.other {sl:Int} {s s0:StoreT} {t t0:TickT} {d d0:DeskT} {r r1:Nat->Int} {G G0 R:List GT} {l l1:List EntT} {i i0:Nat} (h:FR1 sl s t d r G R l i) (k:FR1 sl s0 t0 d0 r1 R G0 l1 i0):FR1 sl s t d r1 R G l1 i :=
 ⟨h.yd.perm List.perm_append_comm,k.roots,k.es,k.cnt,h.slots,h.gens⟩
theorem qlU:∀(L:List (Nat×Int)) (G:List GT),(gK G).Perm L->∃K,G.Perm K/\gK K=L
 | [],G,h=>by
   have e:G=[]:=by
    have:=h.length_eq
    simp [gK] at this
    exact this
   subst e
   exact ⟨[],List.Perm.refl _,rfl⟩
 | x :: L,G,h=>by
   obtain ⟨p,G',h1,h2⟩:=zpI h
   obtain ⟨K,k1,k2⟩:=qlU L G' h2
   exact ⟨(x.1,x.2,p) :: K,h1.trans (List.Perm.cons _ k1),by show _ :: gK K=_; rw [k2]⟩
theorem qkI (r:Nat->Int):∀k,nzK r k=(fKn r k).map (fun x=>x.2)
 | 0=>rfl
 | k+1=>by
   rw [ze6,fKn,List.map_append,qkI r k]
   congr 1
   split <;> rfl
theorem nzL_fK (r:Nat->Int):nzL r=(fK r).map (fun x=>x.2):=qkI r 12
theorem zxM (r:Nat->Int):∀k,rootN r k=((fKn r k).map fun x=>2 ^ x.1).sum
 | 0=>rfl
 | k+1=>by
   rw [rootN,fKn,List.map_append,List.sum_append,zxM r k]
   split <;> simp
theorem szG_gK (K:List GT):szG K=((gK K).map fun x=>2 ^ x.1).sum:=by
 unfold szG gK
 rw [List.map_map]; rfl
theorem gK_map (K:List GT):K.map (fun g=>g.2.1)=(gK K).map (fun x=>x.2):=by
 unfold gK
 rw [List.map_map]; rfl

theorem fr_join {sl:Int} {s:StoreT} {t:TickT} {d:DeskT} {ra rb:Nat->Int} {A B:List GT} {la lb:List EntT} {i:Nat} (h:FR1 sl s t d ra A B la i) (k:FR1 sl s t d rb B A lb i) (hi:i<4096) :
  ∃d' G',(zbO (nzL rb) s t ra).e=0/\FR1 sl (zbO (nzL rb) s t ra).s (zbO (nzL rb) s t ra).t d' (zbO (nzL rb) s t ra).r G' [] (la++lb) i/\Env s (zbO (nzL rb) s t ra).s:=by
 obtain ⟨K,k1,k2⟩:=qlU (fK rb) B k.roots
 have hm:K.map (fun g=>g.2.1)=nzL rb:=by rw [gK_map,k2,nzL_fK]
 have hsz:szG K=lb.length:=by rw [szG_gK,k2,<- k.cnt]; exact (zxM rb 12).symm
 have hle:la.length+lb.length <= i:=by
  have h1:=h.yd.gr.inv.len
  have h2:=h.yd.gr.len
  rw [zhN,List.length_append,h.es.length_eq,k.es.length_eq] at h2
  have:=h.gens
  omega
 have Y:Yd s t d (K++(A++[])):=h.yd.perm (by rw [List.append_nil]; exact (k1.append_left A).trans List.perm_append_comm)
 obtain ⟨d',G',M⟩:=zpO K s t d ra A [] Y h.roots (by rw [h.cnt,hsz]; omega) (fun g hg=>by
  have hx:(g.1,g.2.1)∈fK rb:=by rw [<- k2]; exact List.mem_map.2 ⟨g,hg,rfl⟩
  have:=(zn4.1 hx).1
  simp only at this
  omega)
 rw [hm] at M
 refine ⟨d',G',M.e,⟨M.yd,M.roots,M.es.trans ?_,by rw [M.cnt,h.cnt,hsz,List.length_append],by rw [M.geo.1,h.slots],by rw [M.gens]; exact h.gens⟩,M.env⟩
 exact (((zv4 k1).symm.trans k.es).append h.es).trans List.perm_append_comm

end Yard
