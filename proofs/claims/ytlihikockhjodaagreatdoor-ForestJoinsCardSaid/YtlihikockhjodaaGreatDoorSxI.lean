import Derived.Test.YtlihikockhjodaaGreatDoorSxH

namespace Go.Sx
variable {W W':Base} {D D':Nat->Prop} {R R':Nat->Option Obj} {ids ids' own own':Nat->Option Nat} {P:Program} {tb:TB} {w w':World} {H H':AH}

theorem Reads.cells {A:World->Prop} {es n:Nat} {f:Nat->List AV} {v:Value} (h:Reads R A es n f v) (hA:A w) (hes:1 <= es):∃a cap news,v = .slice a n cap/\n <= cap/\cap <= maxLen/\news.length=n*es /\
  Vs R ids [.arr es n f] news/\(news=[]\/∃b o,a=some ⟨b,o,none⟩/\∀j,j<news.length->w.cell? ⟨b,o+j,none⟩=news[j]?):=by
 obtain ⟨a,cap,rfl,h1,h2,hc⟩:=h
 rcases hc with rfl | ⟨b,o,cs,rfl,g1,g2,g3⟩
 ·exact ⟨a,cap,[],rfl,h1,h2,by simp,.arr es 0 f (fun _=>[]) [] [] [] (by simp) (fun i hi=>absurd hi (Nat.not_lt_zero _)) (fun i hi=>absurd hi (Nat.not_lt_zero _)) .nil,.inl rfl⟩
 ·have g2:=g2 w hA
  have hget:∀j,j<n*es->((List.range (n*es)).map fun j=>((cs (j / es))[j % es]?).getD undef)[j]? = (cs (j / es))[j % es]?:=fun j hj=>by
   have hi:j / es<n:=Nat.div_lt_of_lt_mul (by rw [Nat.mul_comm]; exact hj)
   have hm:=Nat.mod_lt j hes
   rw [List.getElem?_map,List.getElem?_range hj,Option.map_some,List.getElem?_eq_getElem (by rw [g1 _ hi]; exact hm)]
   rfl
  refine ⟨_,cap,(List.range (n*es)).map fun j=>((cs (j / es))[j % es]?).getD undef,rfl,h1,h2,by simp,?_,.inr ⟨b,o,rfl,fun j hj=>?_⟩⟩
  ·have e:∀l:List Value,l=l++[]:=fun l=>by simp
   rw [e ((List.range (n*es)).map _)]
   refine .arr es n f cs [] _ [] (by simp [Nat.mul_comm]) (fun i hi=>?_) g3 .nil
   have hle:i*es+es <= n*es:=by
    have:(i+1)*es <= n*es:=Nat.mul_le_mul_right _ hi
    rw [Nat.add_mul,Nat.one_mul] at this; exact this
   apply List.ext_getElem?
   intro j
   by_cases hj:j<es
   ·rw [List.getElem?_take,if_pos hj,List.getElem?_drop,hget _ (by omega)]
    have e1:(i*es+j) / es=i:=by rw [Nat.mul_comm,Nat.mul_add_div (by omega),Nat.div_eq_of_lt hj]; omega
    have e2:(i*es+j) % es=j:=by rw [Nat.mul_comm,Nat.mul_add_mod,Nat.mod_eq_of_lt hj]
    rw [e1,e2]
   ·rw [List.getElem?_take,if_neg hj,List.getElem?_eq_none (by rw [g1 i hi]; omega)]
  ·simp only [List.length_map,List.length_range] at hj
   have hi:j / es<n:=Nat.div_lt_of_lt_mul (by rw [Nat.mul_comm]; exact hj)
   rw [hget j hj,<- g2 _ hi _ (Nat.mod_lt j hes),Nat.add_assoc,Nat.div_add_mod' j es]

structure Src (P:Program) (R:Nat->Option Obj) (w:World) (es m:Nat) (g:Nat->List AV) (v:Value) (news:List Value):Prop where
 len:∀w2:World,(Builtin.lenOf v).run P w2 = .ok m w2
 all:∀w2:World,w2.heap=w.heap->(Builtin.firstCells es m v).run P w2 = .ok news.toArray w2
 some:∀k,k <= m->∀w2:World,w2.heap=w.heap->(Builtin.firstCells es k v).run P w2 = .ok (news.take (k*es)).toArray w2
 size:news.length=m*es
 vs:∀ids,Vs R ids [.arr es m g] news

theorem Reads.src {A:World->Prop} {es m:Nat} {g:Nat->List AV} {v:Value} (h:Reads R A es m g v) (hA:A w) (hes:1 <= es):∃news,Src P R w es m g v news:=by
 obtain ⟨a,cap,news,rfl,h1,h2,h3,h4,h5⟩:=h.cells (ids:=noIds) hA hes
 have key:∀k,k <= m->∀w2:World,w2.heap=w.heap->(Builtin.firstCells es k (.slice a m cap)).run P w2 = .ok (news.take (k*es)).toArray w2:=by
  intro k hk w2 hw
  have hke:k*es <= m*es:=Nat.mul_le_mul_right _ hk
  rcases h5 with rfl | ⟨b,o,rfl,hc⟩
  ·have h0:m*es=0:=by simpa using h3.symm
   have hk0:k*es=0:=by omega
   cases a with
   | none=>simp [Builtin.firstCells]
   | some a=>simp [Builtin.firstCells,hk0,loadCells,loadCellsFrom]
  ·refine run_firstCells_some w2 es k ⟨b,o,none⟩ m cap (news.take (k*es)) (by rw [List.length_take]; omega) fun j v hj=>?_
   have hjl:=(List.getElem?_eq_some_iff.1 hj).1
   rw [List.length_take] at hjl
   rw [List.getElem?_take,if_pos (by omega)] at hj
   rw [addr_add,<- hj,<- hc j (by omega)]
   exact World.cell?_of_block (w:=w) (a:=⟨b,o+j,none⟩) (by rw [hw])
 refine ⟨news,fun w2=>by simp [Builtin.lenOf],fun w2 hw=>?_,key,h3,fun ids=>h4.lift⟩
 have:=key m (Nat.le_refl _) w2 hw
 rwa [List.take_of_length_le (by omega)] at this

theorem qiJ {l:List Int} (ho:zgL l):Src P R w 1 l.length (fun i=>[.int .u8 (l.getD i 0)]) (.string (bytesOf l)) (l.map (Value.int .u8)):=by
 have key:∀k,k <= l.length->∀w2:World,(Builtin.firstCells 1 k (.string (bytesOf l))).run P w2 = .ok ((l.map (Value.int .u8)).take (k*1)).toArray w2:=by
  intro k hk w2
  have e:(((bytesOf l).extract 0 k).data.map fun b=>Value.int .u8 b.toNat)=((l.map (Value.int .u8)).take (k*1)).toArray:=by
   rw [zjI,Nat.mul_one]
   apply Array.ext'
   simp only [bytesOf,List.drop_zero,List.map_toArray,List.map_map,<- List.map_take]
   refine List.map_congr_left fun x hx=>?_
   have:=ho x (List.mem_of_mem_take hx)
   simp
   omega
  simp only [Builtin.firstCells,Sem.run_pure,e]
 refine ⟨fun w2=>by simp [Builtin.lenOf,zdH],fun w2 _=>?_,fun k hk w2 _=>key k hk w2,by simp,fun ids=>?_⟩
 ·have:=key l.length (Nat.le_refl _) w2
  rwa [List.take_of_length_le (by simp)] at this
 ·have e:l.map (Value.int .u8)=l.map (Value.int .u8)++[]:=by simp
  rw [e]
  refine .arr 1 l.length _ (fun i=>[Value.int .u8 (l.getD i 0)]) [] _ [] (by simp) (fun i hi=>?_) (fun i hi => .one _ _ _ _ rfl (.int _ _) .nil) .nil
  rw [Nat.mul_one]
  apply List.ext_getElem?
  intro j
  cases j with
  | zero=>simp [hi]
  | succ j=>simp; omega

def catf (n:Nat) (f g:Nat->List AV):Nat->List AV:=fun i=>if i<n then f i else g (i-n)

theorem Vs.cat {es n m:Nat} {f g:Nat->List AV} {c d:List Value} (h:Vs R ids [.arr es n f] c) (k:Vs R ids [.arr es m g] d):Vs R ids [.arr es (n+m) (catf n f g)] (c++d):=by
 cases h with
 | one _ _ _ _ h1=>simp [AV.one] at h1
 | arr _ _ _ cs _ ws vs h1 h2 h3 h4 =>
 cases h4
 cases k with
 | one _ _ _ _ h1=>simp [AV.one] at h1
 | arr _ _ _ ds _ us vs k1 k2 k3 k4 =>
 cases k4
 have e:ws++[]++(us++[])=ws++us++[]:=by simp
 rw [e]
 refine .arr es (n+m) _ (fun i=>if i<n then cs i else ds (i-n)) [] (ws++us) [] (by rw [List.length_append,h1,k1,Nat.mul_add]) (fun i hi=>?_) (fun i hi=>?_) .nil
 ·by_cases hn:i<n
  ·simp only [if_pos hn]
   rw [<- h2 i hn]
   have hle:i*es+es <= es*n:=by
    have:(i+1)*es <= n*es:=Nat.mul_le_mul_right _ hn
    rw [Nat.add_mul,Nat.one_mul,Nat.mul_comm n es] at this
    exact this
   rw [List.drop_append_of_le_length (by omega),List.take_append_of_le_length (by rw [List.length_drop]; omega)]
  ·simp only [if_neg hn]
   rw [<- k2 (i-n) (by omega),List.drop_append,List.drop_of_length_le (by rw [h1,Nat.mul_comm]; exact Nat.mul_le_mul_right _ (by omega)),List.nil_append,h1,Nat.mul_comm es n,<- Nat.sub_mul]
 ·unfold catf
  by_cases hn:i<n
  ·simp only [if_pos hn]; exact h3 i hn
  ·simp only [if_neg hn]; exact k3 _ (by omega)

theorem Rep.scrub (hR:Rep W D R ids own H w) (p:Nat):Rep W D R ids own (H.map (qdQ p)) w:=by
 refine ⟨hR.os,hR.tape,hR.output,hR.size,by simpa using hR.owns,hR.keep,hR.ro,fun q it hq=>?_,by simpa using hR.blind,hR.low,hR.high,fun q b hq=>⟨(hR.pins q b hq).1,by rw [List.getElem?_map,(hR.pins q b hq).2]; rfl⟩,fun h=>hR.stay (zzH h)⟩
 rw [List.getElem?_map] at hq
 cases hq':H[q]? with
 | none=>rw [hq'] at hq; cases hq
 | some y =>
   rw [hq'] at hq
   simp only [Option.map_some,Option.some.injEq] at hq
   subst hq
   have hy:=hR.items q y hq'
   cases y with
   | cells T l =>
     obtain ⟨b,cs,k1,k2,k3,k4⟩:=hy
     exact ⟨b,cs,k1,k2,k3,k4.scrubL (fun _ _ _ e=>e)⟩
   | row=>exact hy
   | view=>exact hy
   | obj=>exact hy
   | gone=>exact hy
   | junk=>exact hy
   | fence=>exact hy

def SrcT (P:Program) (xt:TypeId):Prop:=(∃e,P.underlying xt=some (.slice e))\/P.underlying xt=some .string

theorem zf9 {t xt ty e:TypeId} {b es n c m:Nat} {base:Option Addr} {g:Nat->List AV} {vx:Value} {news:List Value} (ht:P.underlying t=some (.slice e)) (hx:SrcT P xt)
  (hs:(P.info? e).map (·.size)=some es) (src:Src P R w es m g vx news) (hroom:n+m <= c) (hbn:m≠0->base=some ⟨b,0,none⟩)
  (hst:m≠0->(storeCells ⟨b,n*es,none⟩ news).run P w = .ok () w') (h0:m=0->w'=w) :
  (Builtin.append_ #[t,xt] ty #[.slice base n c,vx]).run P w = .ok (.slice base (n+m) c) w':=by
 have hall:=src.all w rfl
 have hlen:=src.len w
 obtain ⟨i,hi,his⟩:∃i,P.info? e=some i/\i.size=es:=by
  cases hq:P.info? e with
  | none=>simp [hq] at hs
  | some i=>simp [hq] at hs; exact ⟨i,rfl,hs⟩
 subst his
 by_cases hm:m=0
 ·have hn:news=[]:=List.eq_nil_of_length_eq_zero (by rw [src.size,hm,Nat.zero_mul])
  rw [h0 hm]
  subst hn
  rcases hx with ⟨e',hd⟩ | hd <;> cases base <;> simp [Builtin.append_,run_underlying ht,run_underlying hd,Go.sizeOf,Go.typeInfo,hi,hlen,hroom,hall,storeCells]
 ·rw [hbn hm]
  have hst':=hst hm
  rcases hx with ⟨e',hd⟩ | hd <;> simp [Builtin.append_,run_underlying ht,run_underlying hd,Go.sizeOf,Go.typeInfo,hi,hlen,hroom,hall,addr_add,hst']

theorem zkL {t xt ty e:TypeId} {i:TypeInfo} {z:Value} {es n c m:Nat} {base:Option Addr} {g:Nat->List AV} {vx:Value} {news old:List Value} (ht:P.underlying t=some (.slice e)) (hx:SrcT P xt)
  (hi:P.info? e=some i) (hz:i.zero=some z) (hs:i.size=es) (src:Src P R w es m g vx news) (hroom:c<n+m) (h63:n+m <= maxLen) (hby:(n+m)*i.bytes <= 140737488355328)
  (hold:∀w2:World,w2.heap=w.heap->(Builtin.firstCells es n (.slice base n c)).run P w2 = .ok old.toArray w2) :
  (Builtin.append_ #[t,xt] ty #[.slice base n c,vx]).run P w =
   .ok (.slice (some ⟨w.heap.size,0,none⟩) (n+m) (grownCap w (n+m) c e)) (w.drew.alloc (.cells (old.toArray++news.toArray++Builtin.zeroCells z.cells (grownCap w (n+m) c e-(n+m))) e)):=by
 have hall:=src.all w.drew rfl
 have hlen:=src.len w
 have hold':=hold w.drew rfl
 have hnr:¬n+m <= c:=by omega
 have hfit:=growslice_fits hroom hby
 have h63':¬(9223372036854775807<((n:Int)+(m:Int))):=by
  simp only [maxLen] at h63; omega
 have h48':¬(281474976710656<Builtin.nextslicecap (n+m) c*i.bytes):=by omega
 subst hs
 rcases hx with ⟨e',hd⟩ | hd
 all_goals
  simp [Builtin.append_,run_underlying ht,run_underlying hd,Go.sizeOf,Go.typeInfo,Go.zeroValue,hi,hz,hlen,hnr,h63',h48',Question.forced,hall,hold',newRow,grownCap]
  congr 2
  apply Array.ext'
  simp [List.append_assoc]

end Go.Sx
