import Derived.Test.YtlihikockhjodaaGreatDoorSxC

namespace Go.Sx
variable {W W':Base} {D D':Nat->Prop} {R R':Nat->Option Obj} {ids ids' own:Nat->Option Nat} {P:Program} {tb:TB} {w:World} {H:AH}

def Reads (R:Nat->Option Obj) (A:World->Prop) (es n:Nat) (f:Nat->List AV) (v:Value):Prop :=
 ∃a cap,v = .slice a n cap/\n <= cap/\cap <= maxLen/\(n=0\/∃(b o:Nat) (cs:Nat->List Value),a=some ⟨b,o,none⟩/\(∀i,i<n->(cs i).length=es) /\
  (∀w,A w->∀i,i<n->∀j,j<es->w.cell? ⟨b,o+i*es+j,none⟩=(cs i)[j]?)/\∀i,i<n->Vs R noIds (f i) (cs i))

def slC (H:AH) (es:Nat) (a:AV) (k:Nat->(Nat->List AV)->Prop):Prop:=match a with
 | .nils=>k 0 (fun _=>[])
 | .ro es' n f=>match Nat.beq es es' with
   | true=>k n f
   | false=>False
 | .sl p path off es' lo n _=>match Nat.beq es es' with
   | true=>zvO H p path (fun s=>match zcN s off with
     | some (.arr es'' m f :: _)=>match Nat.beq es es'' with
       | true=>lo+n <= m/\k n (fun i=>f (lo+i))
       | false=>False
     | _=>False)
   | false=>False
 | _=>False

theorem qiW (hR:View R ids own H w) {es:Nat} {a:AV} {va:Value} {k:Nat->(Nat->List AV)->Prop} (ha:V R ids a va) (h:slC H es a k) :
  ∃n f,k n f/\Reads R (Agr R own H w) es n f va:=by
 unfold slC at h
 split at h
 ·obtain rfl:=ha.nils_inv
  exact ⟨0,_,h,none,0,rfl,Nat.le_refl _,Nat.zero_le _,.inl rfl⟩
 ·rename_i es' n f
  split at h
  ·rename_i hbe
   have he:=Nat.eq_of_beq_eq_true hbe
   subst he
   cases ha with
   | ro0 es f a cap hc=>exact ⟨0,f,h,a,cap,rfl,Nat.zero_le _,hc,.inl rfl⟩
   | ro es n f b o cap cs h3 h4 h5 h6 h7 =>
     refine ⟨n,f,h,_,cap,rfl,h3,h4,.inr ⟨b,o,cs,rfl,h5,fun w2 hag i hi j hj=>?_,h7⟩⟩
     have:=h6 i hi j hj
     rw [List.getElem?_eq_getElem (by rw [h5 i hi]; exact hj)] at this ⊢
     exact View.rcell hag this
  ·exact h.elim
 ·rename_i p path off es' lo n cap
  split at h
  ·rename_i hbe
   have he:=Nat.eq_of_beq_eq_true hbe
   subst he
   obtain ⟨s,c,hk,hv,hc,hnil⟩:=ztN hR h
   split at hk
   ·rename_i es'' m f rest hd
    split at hk
    ·rename_i hbe'
     have he':=Nat.eq_of_beq_eq_true hbe'
     subst he'
     obtain ⟨hlo,hk⟩:=hk
     cases ha with
     | sl p path off es lo n cap a h1 h2 h3 =>
     refine ⟨n,_,hk,a,cap,rfl,h2,h3,?_⟩
     by_cases hn:n=0
     ·exact .inl hn
     ·obtain ⟨b,hb,rfl⟩:=h1 (by omega)
      obtain ⟨d1,d2⟩:=zcQ hv hd
      refine .inr ⟨b,poff path+off+lo*es,fun i=>((c.drop off).drop ((lo+i)*es)).take es,rfl,fun i hi=>?_,fun w2 hag i hi j hj=>?_,fun i hi=>?_⟩
      ·have:=(d1.elem (i:=lo+i) (by omega)).2
       rw [List.length_take,List.length_drop]; omega
      ·have:=(d1.elem (i:=lo+i) (by omega)).2
       rw [List.length_drop] at this
       rw [List.getElem?_take,if_pos hj,List.getElem?_drop,List.getElem?_drop,<- hc w2 hag b hb _ (by omega)]
       congr 2
       rw [Nat.add_mul]; omega
      ·exact (d1.elem (i:=lo+i) (by omega)).1
    ·exact hk.elim
   ·exact hk.elim
  ·exact h.elim
 ·exact h.elim

def qbI:List AV->Int
 | [.int _ x]=>x
 | _=>0
def qp3:List AV->Prop
 | [.int .u8 x]=>0 <= x/\x<256
 | _=>False
def toL (n:Nat) (f:Nat->List AV):List Int:=(List.range n).map fun i=>qbI (f i)

theorem qp2 {l:List AV} {c:List Value} (h:qp3 l) (hv:Vs R ids l c):c=[.int .u8 (qbI l)]/\0 <= qbI l/\qbI l<256:=by
 unfold qp3 at h
 split at h
 ·rename_i x
  cases hv with
  | one a v as vs h1 h2 h3=>cases h3; rw [h2.int_inv]; exact ⟨rfl,h⟩
 ·exact h.elim

theorem qgG {n:Nat} {f:Nat->List AV} (h:∀i,i<n->0 <= qbI (f i)/\qbI (f i)<256):zgL (toL n f):=by
 intro x hx
 obtain ⟨i,hi,rfl⟩:=List.mem_map.1 hx
 exact h i (List.mem_range.1 hi)

theorem qg2 (ns:List Int):∀s:ByteArray,ns.foldl (fun r n=>r.push (UInt8.ofNat n.toNat)) s=s++bytesOf ns:=by
 induction ns with
 | nil=>intro s; apply ByteArray.ext; simp [bytesOf]
 | cons n ns ih =>
   intro s
   simp only [List.foldl_cons,ih]
   apply ByteArray.ext
   simp [bytesOf]

theorem qfT {t s e:TypeId} {n:Nat} {f:Nat->List AV} {v:Value} (ht:P.underlying t=some (.slice e)) (he:P.underlying e=some (.int .u8)) (hs:P.underlying s=some .string)
  {A:World->Prop} (hr:Reads R A 1 n f v) (ho:∀i,i<n->qp3 (f i)):(∀w,A w->(convert t s v).run P w = .ok (.string (bytesOf (toL n f))) w)/\zgL (toL n f):=by
 obtain ⟨a,cap,rfl,hnc,hcm,hcase⟩:=hr
 rcases hcase with rfl | ⟨b,o,cs,rfl,h1,h2,h3⟩
 ·refine ⟨?_,fun x hx=>by simp [toL] at hx⟩
  intro w _
  cases a with
  | none=>simp [convert,run_underlying ht,run_underlying he,run_underlying hs,Conv.bytesToString,toL,bytesOf]; rfl
  | some a=>simp [convert,run_underlying ht,run_underlying he,run_underlying hs,Conv.bytesToString,toL,bytesOf,loadCells,loadCellsFrom]; rfl
 ·have hoct:=fun i (hi:i<n)=>qp2 (ho i hi) (h3 i hi)
  have hO:zgL (toL n f):=qgG fun i hi=>(hoct i hi).2
  refine ⟨fun w hA=>?_,hO⟩
  have h2:=h2 w hA
  have hlen:(toL n f).length=n:=by simp [toL]
  have hld:=run_loadCells_list (P:=P) (w:=w) (⟨b,o,none⟩:Addr) ((toL n f).map (Value.int .u8)) (fun j v hj=>by
   rw [List.getElem?_map] at hj
   have hjn:j<n:=by
    by_cases hjn:j<n
    ·exact hjn
    ·rw [List.getElem?_eq_none (by omega)] at hj; cases hj
   have hc:=h2 j hjn 0 (by omega)
   rw [Nat.mul_one,Nat.add_zero,(hoct j hjn).1] at hc
   rw [addr_add,hc]
   simp only [toL,List.getElem?_map,List.getElem?_range hjn,Option.map_some] at hj
   simpa using hj)
  rw [List.length_map,hlen] at hld
  rw [run_convert_bytes_string w t s e _ _ _ ht he hs,run_bytesToString w _ n cap (toL n f) hld,qg2]
  congr 2

def optN (d:Nat):Option AV->(Nat->Prop)->Prop
 | none,k=>k d
 | some (.int _ x),k=>0 <= x/\k x.toNat
 | some _,_=>False

theorem zl9 {d:Nat} {a:AV} {k:Nat->Prop} (h:optN d (some a) k):∃kk x,a = .int kk x/\0 <= x/\k x.toNat:=by
 unfold optN at h
 split at h
 ·rename_i e; cases e
 ·rename_i x e; cases e; exact ⟨_,_,rfl,h⟩
 ·exact h.elim

theorem zo9 {d:Nat} {o:Option AV} {k k':Nat->Prop} (hk:∀n,k n->k' n) (h:optN d o k):optN d o k':=by
 cases o with
 | none=>exact hk _ h
 | some a=>obtain ⟨kk,x,rfl,h0,h1⟩:=zl9 h; exact ⟨h0,hk _ h1⟩

theorem zlV {k:IntKind} {x:Int} {y:Nat} {code:BoundsCode} (h0:0 <= x) (h:x.toNat <= y):(Instr.sliceBound (.int k x) y code).run P w = .ok x.toNat w:=by
 have:0 <= x/\x <= (y:Int):=by omega
 simp [Instr.sliceBound,asIntOf,this]

theorem zeV {isS:Bool} {len cap:Nat} {lo hi:Option AV} {vlo vhi:Option Value} {k:Nat->Nat->Prop}
  (hlo:∀a,lo=some a->∃v,vlo=some v/\V R ids a v) (hlo':lo=none->vlo=none) (hhi:∀a,hi=some a->∃v,vhi=some v/\V R ids a v) (hhi':hi=none->vhi=none)
  (h:optN len hi (fun h=>optN 0 lo (fun l=>(l <= h/\h <= cap)/\k l h))) :
  ∃l h,(∀w,(Instr.sliceBounds isS len cap vlo vhi none).run P w = .ok (l,h,cap) w)/\l <= h/\h <= cap/\k l h:=by
 cases hi with
 | none =>
   rw [hhi' rfl]
   cases lo with
   | none =>
     rw [hlo' rfl]
     exact ⟨0,len,fun w=>by simp [Instr.sliceBounds],h.1.1,h.1.2,h.2⟩
   | some a =>
     obtain ⟨v,rfl,hv⟩:=hlo a rfl
     obtain ⟨kk,x,rfl,h0,h⟩:=zl9 h
     obtain rfl:=hv.int_inv
     exact ⟨x.toNat,len,fun w=>by simp [Instr.sliceBounds,zlV h0 h.1.1],h.1.1,h.1.2,h.2⟩
 | some ah =>
   obtain ⟨vh,rfl,hvh⟩:=hhi ah rfl
   obtain ⟨kk,y,rfl,hy,h⟩:=zl9 h
   obtain rfl:=hvh.int_inv
   cases lo with
   | none =>
     rw [hlo' rfl]
     exact ⟨0,y.toNat,fun w=>by simp [Instr.sliceBounds,zlV hy h.1.2],h.1.1,h.1.2,h.2⟩
   | some a =>
     obtain ⟨v,rfl,hv⟩:=hlo a rfl
     obtain ⟨kk',x,rfl,h0,h⟩:=zl9 h
     obtain rfl:=hv.int_inv
     exact ⟨x.toNat,y.toNat,fun w=>by simp [Instr.sliceBounds,zlV hy h.1.2,zlV h0 h.1.1],h.1.1,h.1.2,h.2⟩

def qnJ (tb:TB) (t:TypeId) (a:AV) (lo hi:Option AV) (K:AV->Prop):Prop:=match zfJ tb t with
 | .str=>match a with
   | .str l=>optN l.length hi (fun h=>optN 0 lo (fun b=>(b <= h/\h <= l.length)/\K (.str ((l.take h).drop b))))
   | _=>False
 | .slice e=>match zp7 tb e,a with
   | some _,.nils=>optN 0 hi (fun h=>optN 0 lo (fun b=>(b <= h/\h <= 0)/\K .nils))
   | some es,.ro es' n f=>match Nat.beq es es' with
     | true=>optN n hi (fun h=>optN 0 lo (fun b=>(b <= h/\h <= n)/\K (.ro es (h-b) (fun i=>f (b+i)))))
     | false=>False
   | some es,.sl p path off es' l0 n cap=>match Nat.beq es es' with
     | true=>optN n hi (fun h=>optN 0 lo (fun b=>(b <= h/\h <= cap)/\K (.sl p path off es (l0+b) (h-b) (cap-b))))
     | false=>False
   | _,_=>False
 | .array m e=>match zp7 tb e,a with
   | some es,.ptr p path off=>match Nat.ble m 9223372036854775807 with
     | true=>optN m hi (fun h=>optN 0 lo (fun b=>(b <= h/\h <= m)/\K (.sl p path off es b (h-b) (m-b))))
     | false=>False
   | some es,.rp segs off=>match zcN segs off with
     | some (.arr es' m' f :: _)=>match Nat.beq es es',Nat.beq m m',Nat.ble m 9223372036854775807 with
       | true,true,true=>optN m hi (fun h=>optN 0 lo (fun b=>(b <= h/\h <= m)/\K (.ro es (h-b) (fun i=>f (b+i)))))
       | _,_,_=>False
     | _=>False
   | _,_=>False
 | _=>False

theorem qgH {l m:List Int} (h:zgL l) (hs:∀x∈m,x∈l):zgL m:=fun x hx=>h x (hs x hx)

theorem zjI (l:List Int) (b h:Nat):(bytesOf l).extract b h=bytesOf ((l.take h).drop b):=by
 apply ByteArray.ext
 simp [bytesOf,List.extract_eq_take_drop,List.map_take,List.map_drop,List.drop_take]

theorem qnI (ht:TBok P tb) {t:Nat} {a:AV} {va:Value} {lo hi:Option AV} {vlo vhi:Option Value} {K:AV->Prop} (ha:V R ids a va)
  (hlo:∀a,lo=some a->∃v,vlo=some v/\V R ids a v) (hlo':lo=none->vlo=none) (hhi:∀a,hi=some a->∃v,vhi=some v/\V R ids a v) (hhi':hi=none->vhi=none)
  (h:qnJ tb t a lo hi K):∃av v,(∀w,(Instr.sliceAt t va vlo vhi none).run P w = .ok v w)/\V R ids av v/\K av:=by
 unfold qnJ at h
 have hk:=zb5 (P:=P) ht t
 split at h
 ·rename_i hke
  rw [hke] at hk
  simp only [TK.desc] at hk
  split at h
  ·rename_i l
   obtain ⟨ho,rfl⟩:=ha.str_inv
   obtain ⟨b,e,hr,h1,h2,hK⟩:=zeV (P:=P) (isS:=false) hlo hlo' hhi hhi' h
   refine ⟨_,_,?_,.str _ (qgH ho fun x hx=>List.mem_of_mem_take (List.mem_of_mem_drop hx)),hK⟩
   intro w
   simp only [Instr.sliceAt,Instr.slice,Sem.run_bind,run_underlying hk,Result.andThen_ok,Option.isSome_none,Bool.false_eq_true,if_false,zdH,hr,Sem.run_pure,zjI]
  ·exact h.elim
 ·rename_i e hke
  rw [hke] at hk
  simp only [TK.desc] at hk
  split at h
  ·rename_i es hes
   obtain rfl:=ha.nils_inv
   obtain ⟨b,e',hr,h1,h2,hK⟩:=zeV (P:=P) (isS:=true) hlo hlo' hhi hhi' h
   have hb:b=0:=by omega
   have he:e'=0:=by omega
   subst hb; subst he
   refine ⟨_,_,?_,.nils,hK⟩
   intro w
   simp only [Instr.sliceAt,Instr.slice,Sem.run_bind,run_underlying hk,Result.andThen_ok,hr,sizeT_ok ht hes,Sem.run_pure]
   simp
  ·rename_i es es' n f hes
   split at h
   ·rename_i hbe
    have he:=Nat.eq_of_beq_eq_true hbe
    subst he
    cases ha with
    | ro0 es f a cap hc =>
      have h':optN 0 hi (fun h=>optN 0 lo (fun b=>(b <= h/\h <= cap)/\h <= 0/\K (.ro es (h-b) (fun i=>f (b+i))))):=by
       exact zo9 (fun h hh=>zo9 (fun b hb=>⟨⟨hb.1.1,by omega⟩,hb.1.2,hb.2⟩) hh) h
      obtain ⟨b,e',hr,h1,h2,h3,hK⟩:=zeV (P:=P) (isS:=true) hlo hlo' hhi hhi' h'
      have hb:b=0:=by omega
      have he:e'=0:=by omega
      subst hb; subst he
      refine ⟨_,_,?_,.ro0 es _ (if cap=0 then a else a.map (·.add (0*es))) (cap-0) (by omega),hK⟩
      intro w
      simp only [Instr.sliceAt,Instr.slice,Sem.run_bind,run_underlying hk,Result.andThen_ok,hr,sizeT_ok ht hes,Sem.run_pure]
    | ro es n f b o cap cs h3 h4 h5 h6 h7 =>
      have h':optN n hi (fun h=>optN 0 lo (fun b=>(b <= h/\h <= cap)/\h <= n/\K (.ro es (h-b) (fun i=>f (b+i))))):=by
       exact zo9 (fun h hh=>zo9 (fun b hb=>⟨⟨hb.1.1,by omega⟩,hb.1.2,hb.2⟩) hh) h
      obtain ⟨l,e',hr,g1,g2,g3,hK⟩:=zeV (P:=P) (isS:=true) hlo hlo' hhi hhi' h'
      by_cases hz:e'-l=0
      ·refine ⟨_,.slice (if cap=l then some ⟨b,o,none⟩ else (some ⟨b,o,none⟩:Option Addr).map (·.add (l*es))) (e'-l) (cap-l),?_,?_,hK⟩
       ·intro w
        simp only [Instr.sliceAt,Instr.slice,Sem.run_bind,run_underlying hk,Result.andThen_ok,hr,sizeT_ok ht hes,Sem.run_pure]
       ·rw [hz]; exact .ro0 es _ _ _ (by omega)
      ·refine ⟨_,.slice (some ⟨b,o+l*es,none⟩) (e'-l) (cap-l),?_,.ro es (e'-l) _ b (o+l*es) (cap-l) (fun i=>cs (l+i)) (by omega) (by omega) (fun i hi=>h5 _ (by omega)) (fun i hi j hj=>?_) (fun i hi=>h7 _ (by omega)),hK⟩
       ·intro w
        simp only [Instr.sliceAt,Instr.slice,Sem.run_bind,run_underlying hk,Result.andThen_ok,hr,sizeT_ok ht hes,Sem.run_pure]
        rw [if_neg (by omega)]
        simp [addr_add]
       ·have:=h6 (l+i) (by omega) j hj
        rw [<- this]
        congr 1
        rw [Nat.add_mul]; omega
   ·exact h.elim
  ·rename_i es p path off es' l0 n cap hes
   split at h
   ·rename_i hbe
    have he:=Nat.eq_of_beq_eq_true hbe
    subst he
    cases ha with
    | sl p path off es lo n cap a h1 h2 h3 =>
      obtain ⟨l,e',hr,g1,g2,hK⟩:=zeV (P:=P) (isS:=true) hlo hlo' hhi hhi' h
      refine ⟨_,.slice (if cap=l then a else a.map (·.add (l*es))) (e'-l) (cap-l),?_,.sl p path off es _ _ _ _ (fun hc=>?_) (by omega) (by omega),hK⟩
      ·intro w
       simp only [Instr.sliceAt,Instr.slice,Sem.run_bind,run_underlying hk,Result.andThen_ok,hr,sizeT_ok ht hes,Sem.run_pure]
      ·obtain ⟨b,hb,rfl⟩:=h1 (by omega)
       rw [if_neg (by omega)]
       exact ⟨b,hb,by simp [addr_add,Nat.add_mul,Nat.add_assoc]⟩
   ·exact h.elim
  ·exact h.elim
 ·rename_i m e hke
  rw [hke] at hk
  simp only [TK.desc] at hk
  split at h
  ·rename_i es p path off hes
   split at h
   ·rename_i hm
    have hm':m <= maxLen:=Nat.le_of_ble_eq_true hm
    obtain ⟨b,hb,rfl⟩:=ha.ptr_some
    obtain ⟨l,e',hr,g1,g2,hK⟩:=zeV (P:=P) (isS:=false) hlo hlo' hhi hhi' h
    refine ⟨_,.slice (some (if m=l then ⟨b,poff path+off,none⟩ else (⟨b,poff path+off,none⟩:Addr).add (l*es))) (e'-l) (m-l),?_,.sl p path off es _ _ _ _ (fun hc=>⟨b,hb,?_⟩) (by omega) (by omega),hK⟩
    ·intro w
     simp only [Instr.sliceAt,Sem.run_bind,run_underlying hk,Result.andThen_ok,Instr.sureAddr,hr,sizeT_ok ht hes,Sem.run_pure]
    ·rw [if_neg (by omega),addr_add]
   ·exact h.elim
  ·rename_i es segs off hes
   split at h
   ·rename_i es' m' f rest hd
    split at h
    ·rename_i hb1 hb2 hm
     have he:=Nat.eq_of_beq_eq_true hb1
     have he2:=Nat.eq_of_beq_eq_true hb2
     subst he; subst he2
     have hm':m <= maxLen:=Nat.le_of_ble_eq_true hm
     cases ha with
     | rp segs off b o cs h3 h4 =>
     obtain ⟨d1,d2⟩:=zcQ h4 hd
     obtain ⟨l,e',hr,g1,g2,hK⟩:=zeV (P:=P) (isS:=false) hlo hlo' hhi hhi' h
     by_cases hz:e'-l=0
     ·refine ⟨_,.slice (some (if m=l then ⟨b,o+off,none⟩ else (⟨b,o+off,none⟩:Addr).add (l*es))) (e'-l) (m-l),?_,?_,hK⟩
      ·intro w
       simp only [Instr.sliceAt,Sem.run_bind,run_underlying hk,Result.andThen_ok,Instr.sureAddr,hr,sizeT_ok ht hes,Sem.run_pure]
      ·rw [hz]; exact .ro0 es _ _ _ (by omega)
     ·refine ⟨_,.slice (some ⟨b,o+off+l*es,none⟩) (e'-l) (m-l),?_,.ro es (e'-l) _ b (o+off+l*es) (m-l) (fun i=>((cs.drop off).drop ((l+i)*es)).take es) (by omega) (by omega) (fun i hi=>?_) (fun i hi j hj=>?_) (fun i hi=>(d1.elem (i:=l+i) (by omega)).1),hK⟩
      ·intro w
       simp only [Instr.sliceAt,Sem.run_bind,run_underlying hk,Result.andThen_ok,Instr.sureAddr,hr,sizeT_ok ht hes,Sem.run_pure]
       rw [if_neg (by omega),addr_add]
      ·have:=(d1.elem (i:=l+i) (by omega)).2
       rw [List.length_take,List.length_drop]; omega
      ·have:=(d1.elem (i:=l+i) (by omega)).2
       rw [List.length_drop] at this
       rw [List.getElem?_take,if_pos hj,List.getElem?_drop,List.getElem?_drop,<- h3 _ (by omega)]
       congr 1
       rw [Nat.add_mul]; omega
    ·exact h.elim
   ·exact h.elim
  ·exact h.elim
 ·exact h.elim

def qnQ (tb:TB) (t:TypeId) (a i:AV) (K:AV->Prop):Prop:=match i with
 | .int _ iv=>match zfJ tb t,a with
   | .array n e,.agg (.arr es m f :: _)=>match zp7 tb e with
     | some es'=>match Nat.beq es es' with
       | true=>(0 <= iv/\iv<(n:Int)/\iv<(m:Int))/\zvR tb e (f iv.toNat) 0 K
       | false=>False
     | none=>False
   | .str,.str l=>(0 <= iv/\iv<(l.length:Int))/\K (.int .u8 (l.getD iv.toNat 0))
   | _,_=>False
 | _=>False

theorem qcO {l:List Int} (ho:zgL l) {i:Nat} (hi:i<l.length):(bytesOf l)[i]? = some (l.getD i 0).toNat.toUInt8/\(((l.getD i 0).toNat.toUInt8).toNat:Int)=l.getD i 0:=by
 have hg:l.getD i 0=l[i]:=by simp [hi]
 have:=ho l[i] (List.getElem_mem hi)
 constructor
 ·rw [hg]
  have hs:i<(bytesOf l).size:=by rw [zdH]; exact hi
  rw [getElem?_pos (bytesOf l) i hs]
  simp [bytesOf,ByteArray.getElem_eq_getElem_data]
 ·rw [hg]; simp; omega

theorem qnP (ht:TBok P tb) {t:Nat} {a i:AV} {va vi:Value} {K:AV->Prop} (ha:V R ids a va) (hi:V R ids i vi) (h:qnQ tb t a i K) :
  ∃av v,(∀w,(Instr.index t va vi).run P w = .ok v w)/\V R ids av v/\K av:=by
 unfold qnQ at h
 split at h
 ·rename_i ik iv
  obtain rfl:=hi.int_inv
  have hk:=zb5 (P:=P) ht t
  split at h
  ·rename_i n e es m f rest hke
   rw [hke] at hk
   simp only [TK.desc] at hk
   split at h
   ·rename_i es' hes
    split at h
    ·rename_i hbe
     have he:=Nat.eq_of_beq_eq_true hbe
     subst he
     obtain ⟨hb,h⟩:=h
     obtain ⟨cs,rfl,hv⟩:=ha.agg_inv
     obtain ⟨e1,e2⟩:=hv.elem (i:=iv.toNat) (by omega)
     have hp:=qkD (P:=P) ht (e1.lift (ids:=ids)) h
     obtain ⟨av,v,h1,h2,h3⟩:=hp
     refine ⟨av,v,?_,h2,h3⟩
     have hb':0 <= iv/\iv<(n:Int):=⟨hb.1,hb.2.1⟩
     intro w
     simp only [Instr.index,asIntOf,Sem.run_bind,Sem.run_pure,Result.andThen_ok,run_underlying hk,Sem.run_ite,hb',and_self,if_true,sizeT_ok ht hes]
     rw [<- h1 w]
     unfold zvR at h
     split at h
     ·rename_i ti hl
      have hti:=ht.get hl
      have hsz:ti.size=es:=by
       unfold zp7 at hes; rw [hl] at hes; exact Option.some.inj hes
      split at h
      ·rename_i r hag hd
       simp only [part,Sem.run_bind,hti.isAgg hag,Result.andThen_ok,if_true,hti.sizeOf,Sem.run_pure,hsz]
       congr 2
       simp [List.extract_eq_take_drop,List.take_take]
      ·rename_i a' r hag hd
       simp only [part,Sem.run_bind,hti.isAgg hag,Result.andThen_ok,Bool.false_eq_true,if_false]
       have hpos:0<es:=by
        split at h
        ·rename_i hone
         simp [zcN] at hd
         have:=e1.length
         rw [hd,List.length_take,List.length_drop] at this
         simp only [zf5] at this
         have hs1:a'.size=1:=by cases a' <;> simp_all [AV.one,AV.size]
         omega
        ·exact h.elim
       have:(((cs.drop (iv.toNat*es)).take es).toArray)[0]? = cs.toArray[iv.toNat*es]?:=by
        simp [hpos]
       rw [this]
      ·exact h.elim
     ·exact h.elim
    ·exact h.elim
   ·exact h.elim
  ·rename_i l hke
   rw [hke] at hk
   simp only [TK.desc] at hk
   obtain ⟨ho,rfl⟩:=ha.str_inv
   obtain ⟨hb,h⟩:=h
   obtain ⟨g1,g2⟩:=qcO ho (i:=iv.toNat) (by omega)
   refine ⟨_,_,?_,.int _ _,h⟩
   intro w
   simp only [Instr.index,asIntOf,Sem.run_bind,Sem.run_pure,Result.andThen_ok,run_underlying hk,hb.1,if_true,g1,g2]
  ·exact h.elim
 ·exact h.elim

def zwT (a:AV) (i:Nat) (K:AV->Prop):Prop:=match a with
 | .tup l=>match l[i]? with
   | some x=>K x
   | none=>False
 | _=>False

theorem Ts.getElem {l:List AV} {vs:List Value} (h:Ts R ids l vs):∀{i:Nat} {a:AV},l[i]? = some a->∃v,vs[i]? = some v/\V R ids a v:=by
 match h with
 | .nil=>intro i a hi; simp at hi
 | .cons a' v' as vs h1 h2 =>
   intro i a hi
   cases i with
   | zero=>simp at hi; subst hi; exact ⟨v',rfl,h1⟩
   | succ i=>simp at hi; simpa using h2.getElem hi

theorem qc5 {a:AV} {va:Value} {i:Nat} {K:AV->Prop} (ha:V R ids a va) (h:zwT a i K) :
  ∃av v,(∀w,(Instr.extract va i).run P w = .ok v w)/\V R ids av v/\K av:=by
 unfold zwT at h
 split at h
 ·obtain ⟨vs,rfl,hv⟩:=ha.tup_inv
  split at h
  ·rename_i x hx
   obtain ⟨v,h1,h2⟩:=hv.getElem hx
   exact ⟨x,v,fun w=>by simp [Instr.extract,h1],h2,h⟩
  ·exact h.elim
 ·exact h.elim

def aUn (op:UnOp) (a:AV) (K:AV->Prop):Prop:=match op,a with
 | .not,.bool b=>K (.bool (!b))
 | .neg,.int k n=>aNum k (0-n) K
 | _,_=>False

theorem aUn_ok {op:UnOp} {a:AV} {va:Value} {K:AV->Prop} (ha:V R ids a va) (h:aUn op a K):∃av v,(∀w,(Op.unary op va).run P w = .ok v w)/\V R ids av v/\K av:=by
 unfold aUn at h
 split at h
 ·obtain rfl:=ha.bool_inv; exact ⟨_,_,fun w=>by simp [Op.unary],.bool _,h⟩
 ·obtain rfl:=ha.int_inv
  obtain ⟨av,h1,h2⟩:=zsH (R:=R) (ids:=ids) h
  exact ⟨av,_,fun w=>by simp [Op.unary,Op.intArith],h1,h2⟩
 ·exact h.elim

def qq2 (tb:TB) (H:AH) (s d:TypeId) (a:AV) (K:AV->Prop):Prop:=match zfJ tb s,zfJ tb d,a with
 | .int _,.int k,.int _ n=>∀m,m=k.wrap n->K (.int k m)
 | .str,.str,.str l=>K (.str l)
 | .slice e,.str,a=>match zfJ tb e with
   | .int .u8=>slC H 1 a (fun n f=>∃m:List Nat,(n=m.length/\∀i,i<m.length->f i=[.int .u8 ((m.getD i 0:Nat):Int)])/\((∀c∈m,c<256)/\K (.str (Yard.cstr m))))
   | _=>False
 | _,_,_=>False

theorem qe0 (ht:TBok P tb) (hR:View R ids own H w) {s d:TypeId} {a:AV} {va:Value} {K:AV->Prop} (ha:V R ids a va) (h:qq2 tb H s d a K) :
  ∃av v,(∀w2,Agr R own H w w2->(convert s d va).run P w2 = .ok v w2)/\V R ids av v/\K av:=by
 unfold qq2 at h
 have hs:=zb5 (P:=P) ht s
 have hd:=zb5 (P:=P) ht d
 split at h
 ·rename_i k' k kk n h1 h2
  rw [h1] at hs; rw [h2] at hd
  simp only [TK.desc] at hs hd
  obtain rfl:=ha.int_inv
  exact ⟨_,_,fun w _=>by simp [convert,run_underlying hs,run_underlying hd,Conv.intToInt],.int _ _,h _ rfl⟩
 ·rename_i l h1 h2
  rw [h1] at hs; rw [h2] at hd
  simp only [TK.desc] at hs hd
  obtain ⟨ho,rfl⟩:=ha.str_inv
  exact ⟨_,_,fun w _=>by simp [convert,run_underlying hs,run_underlying hd],.str _ ho,h⟩
 ·rename_i e h1 h2
  rw [h1] at hs; rw [h2] at hd
  simp only [TK.desc] at hs hd
  split at h
  ·rename_i he
   have he':=zb5 (P:=P) ht e
   rw [he] at he'
   simp only [TK.desc] at he'
   obtain ⟨n,f,⟨m,⟨hn,hf⟩,hm,hK⟩,hr⟩:=qiW hR ha h
   subst hn
   have hmem:∀i,i<m.length->m.getD i 0<256:=fun i hi=>by
    rw [List.getD_eq_getElem?_getD,List.getElem?_eq_getElem hi]; exact hm _ (List.getElem_mem hi)
   have ho:∀i,i<m.length->qp3 (f i):=fun i hi=>by
    rw [hf i hi]
    exact ⟨Int.natCast_nonneg _,by have:=hmem i hi; omega⟩
   have hL:toL m.length f=Yard.cstr m:=by
    refine List.ext_getElem (by simp [toL,Yard.cstr]) fun i h1 h2=>?_
    have hi:i<m.length:=by simpa [Yard.cstr] using h2
    simp only [toL,Yard.cstr,List.getElem_map,List.getElem_range,hf i hi,qbI]
    rw [List.getD_eq_getElem?_getD,List.getElem?_eq_getElem hi]; rfl
   obtain ⟨g1,g2⟩:=qfT hs he' hd hr ho
   rw [<- hL] at hK
   exact ⟨_,_,g1,.str _ g2,hK⟩
  ·exact h.elim
 ·exact h.elim

def aLen (tb:TB) (t:TypeId) (a:AV) (K:AV->Prop):Prop:=match zfJ tb t,a with
 | .str,.str l=>K (.int .i64 l.length)
 | .slice _,.nils=>K (.int .i64 0)
 | .slice _,.ro _ n _=>K (.int .i64 n)
 | .slice _,.sl _ _ _ _ _ n _=>K (.int .i64 n)
 | .array n _,_=>K (.int .i64 n)
 | .ptr e,_=>match zfJ tb e with
   | .array n _=>K (.int .i64 n)
   | _=>False
 | _,_=>False

theorem aLen_ok (ht:TBok P tb) {t ty:TypeId} {a:AV} {va:Value} {K:AV->Prop} (ha:V R ids a va) (h:aLen tb t a K) :
  ∃av v,(∀w,(Builtin.len_ #[t] ty #[va]).run P w = .ok v w)/\V R ids av v/\K av:=by
 unfold aLen at h
 have hk:=zb5 (P:=P) ht t
 split at h
 ·rename_i h1; rw [h1] at hk; simp only [TK.desc] at hk
  obtain ⟨ho,rfl⟩:=ha.str_inv
  exact ⟨_,_,fun w=>by simp [Builtin.len_,run_underlying hk,zdH,goInt],.int _ _,h⟩
 ·rename_i h1; rw [h1] at hk; simp only [TK.desc] at hk
  obtain rfl:=ha.nils_inv
  exact ⟨_,_,fun w=>by simp [Builtin.len_,run_underlying hk,goInt],.int _ _,h⟩
 ·rename_i h1; rw [h1] at hk; simp only [TK.desc] at hk
  cases ha with
  | ro=>exact ⟨_,_,fun w=>by simp [Builtin.len_,run_underlying hk,goInt],.int _ _,h⟩
  | ro0=>exact ⟨_,_,fun w=>by simp [Builtin.len_,run_underlying hk,goInt],.int _ _,h⟩
 ·rename_i h1; rw [h1] at hk; simp only [TK.desc] at hk
  cases ha with
  | sl=>exact ⟨_,_,fun w=>by simp [Builtin.len_,run_underlying hk,goInt],.int _ _,h⟩
 ·rename_i h1; rw [h1] at hk; simp only [TK.desc] at hk
  exact ⟨_,_,fun w=>by simp [Builtin.len_,run_underlying hk,goInt],.int _ _,h⟩
 ·rename_i e h1; rw [h1] at hk; simp only [TK.desc] at hk
  split at h
  ·rename_i n e' h2
   have he:=zb5 (P:=P) ht e
   rw [h2] at he; simp only [TK.desc] at he
   exact ⟨_,_,fun w=>by simp [Builtin.len_,run_underlying hk,run_underlying he,goInt],.int _ _,h⟩
  ·exact h.elim
 ·exact h.elim

def aMin:Bool->IntKind->Int->List AV->(AV->Prop)->Prop
 | _,k,x,[],K=>K (.int k x)
 | lo,k,x,.int k' y :: r,K=>match kb k k' with
   | true=>aMin lo k (match lo with | true=>min x y | false=>max x y) r K
   | false=>False
 | _,_,_,_,_=>False

theorem qoY (k:IntKind) (x y:Int):(Builtin.min2 (.int k x) (.int k y)).run P w = .ok (.int k (min x y)) w:=by
 simp [Builtin.min2]; omega

theorem qoZ (k:IntKind) (x y:Int):(Builtin.max2 (.int k x) (.int k y)).run P w = .ok (.int k (max x y)) w:=by
 simp [Builtin.max2]; omega

theorem qnM:∀{l:List AV} {vs:List Value} {k:IntKind} {x:Int} {K:AV->Prop},Ts R ids l vs->aMin true k x l K ->
  ∃av v,(∀w,(vs.foldlM Builtin.min2 (.int k x)).run P w = .ok v w)/\V R ids av v/\K av
 | [],_,k,x,K,h,hm=>by cases h; exact ⟨_,_,fun w=>by simp,.int _ _,hm⟩
 | a :: r,_,k,x,K,h,hm=>by
   cases h with
   | cons a v as vs h1 h2 =>
   cases a <;> simp only [aMin] at hm <;> try exact hm.elim
   rename_i k' y
   split at hm
   ·rename_i hk
    obtain rfl:=qgP hk
    obtain rfl:=h1.int_inv
    obtain ⟨av,v,g1,g2,g3⟩:=qnM h2 hm
    exact ⟨av,v,fun w=>by simp only [List.foldlM_cons,Sem.run_bind,qoY,Result.andThen_ok]; exact g1 w,g2,g3⟩
   ·exact hm.elim

theorem qnN:∀{l:List AV} {vs:List Value} {k:IntKind} {x:Int} {K:AV->Prop},Ts R ids l vs->aMin false k x l K ->
  ∃av v,(∀w,(vs.foldlM Builtin.max2 (.int k x)).run P w = .ok v w)/\V R ids av v/\K av
 | [],_,k,x,K,h,hm=>by cases h; exact ⟨_,_,fun w=>by simp,.int _ _,hm⟩
 | a :: r,_,k,x,K,h,hm=>by
   cases h with
   | cons a v as vs h1 h2 =>
   cases a <;> simp only [aMin] at hm <;> try exact hm.elim
   rename_i k' y
   split at hm
   ·rename_i hk
    obtain rfl:=qgP hk
    obtain rfl:=h1.int_inv
    obtain ⟨av,v,g1,g2,g3⟩:=qnN h2 hm
    exact ⟨av,v,fun w=>by simp only [List.foldlM_cons,Sem.run_bind,qoZ,Result.andThen_ok]; exact g1 w,g2,g3⟩
   ·exact hm.elim

def zwP (tb:TB) (op:Op) (F:Fr) (H:AH) (K:AV->Prop):Prop:=match op with
 | .move x=>K (ev F x)
 | .assign x=>K (ev F x)
 | .pick c a b=>match ev F c with
   | .bool cb=>BC cb (K (ev F a)) (K (ev F b))
   | _=>False
 | .nilCheck x=>match ev F x with
   | .ptr p path off=>K (.ptr p path off)
   | .rp segs off=>K (.rp segs off)
   | _=>False
 | .binOp op t x y _=>aBin tb op t (ev F x) (ev F y) K
 | .unOp op _ x=>aUn op (ev F x) K
 | .convert s d x=>qq2 tb H s d (ev F x) K
 | .fieldAddr t x f=>zoE tb t (ev F x) f K
 | .field t x f=>qnS tb t (ev F x) f K
 | .indexAddr t x i=>zkH tb t (ev F x) (ev F i) K
 | .index t x i=>qnQ tb t (ev F x) (ev F i) K
 | .extract x i=>zwT (ev F x) i K
 | .slice t x lo hi none=>qnJ tb t (ev F x) (lo.map (ev F)) (hi.map (ev F)) K
 | .load t x=>qhK tb H t (ev F x) K
 | .call ⟨.builtin .len,⟨[x]⟩,⟨[t]⟩⟩=>aLen tb t (ev F x) K
 | .call ⟨.builtin .min,⟨x :: r⟩,_⟩=>match ev F x with
   | .int k n=>aMin true k n (r.map (ev F)) K
   | _=>False
 | .call ⟨.builtin .max,⟨x :: r⟩,_⟩=>match ev F x with
   | .int k n=>aMin false k n (r.map (ev F)) K
   | _=>False
 | _=>False

theorem zrR {F:Fr} {a:Act} (hF:Ts R ids F a.tmps.toList):∀(l:List Operand),Ts R ids (l.map (ev F)) (l.map a.eval)
 | [] => .nil
 | x :: r => .cons _ _ _ _ (ev_ok hF x) (zrR hF r)

theorem qcF (ht:TBok P tb) {op:BinOp} {t:TypeId} {x y:Operand} {a b:AV} {va vb:Value} {K:AV->Prop} (ha:V R ids a va) (hb:V R ids b vb) (h:aBin tb op t a b K) :
  ∀w,(eqGuard op t x y va vb).run P w = .ok () w:=by
 intro w
 unfold aBin at h
 unfold eqGuard
 split at h
 all_goals first
  | (obtain rfl:=ha.int_inv; split <;> simp; done)
  | (obtain ⟨_,rfl⟩:=ha.str_inv; split <;> simp; done)
  | (obtain rfl:=ha.bool_inv; split <;> simp; done)
  | (obtain ⟨_,_,rfl⟩:=ha.ptr_some; split <;> simp; done)
  | (obtain ⟨_,rfl⟩:=ha.rp_some; split <;> simp; done)
  | (obtain rfl:=ha.nilp_inv; split <;> simp; done)
  | (cases ha <;> (split <;> simp); done)
  | (cases ha; cases hb; split at h
     ·split at h
      ·rename_i hl _ hkey; rw [Bool.and_eq_true] at hkey; have h0:=((ht.get hl).keyed hkey.1).2; unfold Program.depth at h0; simp [Program.depth,h0]
      ·exact h.elim
     ·exact h.elim)
  | exact h.elim

def zy4:Op->Bool
 | .convert ..=>false
 | .load ..=>false
 | _=>true

theorem zz0 (ht:TBok P tb) {o:Oper} {a:Act} {F:Fr} {K:AV->Prop} (hF:Ts R ids F a.tmps.toList) (hR:View R ids own H w) (h:zwP tb o.op F H K) :
  ∃av v,(∀w2,(zy4 o.op=true\/Agr R own H w w2)->(execOp a.eval o).run P w2 = .ok (.value v) w2)/\V R ids av v/\K av:=by
 unfold zwP at h
 unfold execOp
 split at h <;> rename_i hop <;> simp only [hop]
 ·exact ⟨_,_,fun w _=>by simp,ev_ok hF _,h⟩
 ·exact ⟨_,_,fun w _=>by simp,ev_ok hF _,h⟩
 ·rename_i c x y
  have hc:=ev_ok hF c
  split at h
  ·rename_i cb he
   rw [he] at hc
   have e:=hc.bool_inv
   cases cb with
   | true=>exact ⟨_,_,fun w _=>by simp [e,asBool],ev_ok hF _,h⟩
   | false=>exact ⟨_,_,fun w _=>by simp [e,asBool],ev_ok hF _,h⟩
  ·exact h.elim
 ·rename_i x
  have hx:=ev_ok hF x
  split at h
  ·rename_i he
   rw [he] at hx
   obtain ⟨b,_,e⟩:=hx.ptr_some
   rw [e] at hx
   exact ⟨_,_,fun w _=>by simp [e],hx,h⟩
  ·rename_i he
   rw [he] at hx
   obtain ⟨b,e⟩:=hx.rp_some
   rw [e] at hx
   exact ⟨_,_,fun w _=>by simp [e],hx,h⟩
  ·exact h.elim
 ·rename_i op t x y yt
  obtain ⟨av,v,h1,h2,h3⟩:=aBin_ok (P:=P) ht (ev_ok hF x) (ev_ok hF y) h
  exact ⟨av,v,fun w _=>by simp only [Sem.run_bind,qcF ht (ev_ok hF x) (ev_ok hF y) h,Result.andThen_ok,h1,Sem.run_pure],h2,h3⟩
 ·obtain ⟨av,v,h1,h2,h3⟩:=aUn_ok (P:=P) (ev_ok hF _) h
  exact ⟨av,v,fun w2 hag=>by simp [h1],h2,h3⟩
 ·obtain ⟨av,v,h1,h2,h3⟩:=qe0 (P:=P) ht hR (ev_ok hF _) h
  exact ⟨av,v,fun w2 hag=>by simp [h1 w2 (hag.resolve_left (by simp [zy4]))],h2,h3⟩
 ·obtain ⟨av,v,h1,h2,h3⟩:=zwS (P:=P) ht (ev_ok hF _) h
  exact ⟨av,v,fun w2 hag=>by simp [h1],h2,h3⟩
 ·obtain ⟨av,v,h1,h2,h3⟩:=qnR (P:=P) ht (ev_ok hF _) h
  exact ⟨av,v,fun w2 hag=>by simp [h1],h2,h3⟩
 ·obtain ⟨av,v,h1,h2,h3⟩:=zmY (P:=P) ht (ev_ok hF _) (ev_ok hF _) h
  exact ⟨av,v,fun w2 hag=>by simp [h1],h2,h3⟩
 ·obtain ⟨av,v,h1,h2,h3⟩:=qnP (P:=P) ht (ev_ok hF _) (ev_ok hF _) h
  exact ⟨av,v,fun w2 hag=>by simp [h1],h2,h3⟩
 ·obtain ⟨av,v,h1,h2,h3⟩:=qc5 (P:=P) (ev_ok hF _) h
  exact ⟨av,v,fun w2 hag=>by simp [h1],h2,h3⟩
 ·rename_i t x lo hi
  obtain ⟨av,v,h1,h2,h3⟩:=qnI (P:=P) (vlo:=lo.map a.eval) (vhi:=hi.map a.eval) ht (ev_ok hF x)
   (fun b hb=>by cases lo with
    | none=>cases hb
    | some l=>cases hb; exact ⟨_,rfl,ev_ok hF l⟩) (fun hb=>by cases lo with
    | none=>rfl
    | some l=>cases hb)
   (fun b hb=>by cases hi with
    | none=>cases hb
    | some l=>cases hb; exact ⟨_,rfl,ev_ok hF l⟩) (fun hb=>by cases hi with
    | none=>rfl
    | some l=>cases hb) h
  exact ⟨av,v,fun w2 hag=>by simp [h1],h2,h3⟩
 ·obtain ⟨av,v,h1,h2,h3⟩:=zwR (P:=P) ht hR (ev_ok hF _) h
  exact ⟨av,v,fun w2 hag=>by simp [h1 w2 (hag.resolve_left (by simp [zy4]))],h2,h3⟩
 ·rename_i x t
  obtain ⟨av,v,h1,h2,h3⟩:=aLen_ok (P:=P) (ty:=o.type) ht (ev_ok hF x) h
  exact ⟨av,v,fun w2 hag=>by simp [resolve,invoke,builtin,h1],h2,h3⟩
 ·rename_i x r _
  have hx:=ev_ok hF x
  split at h
  ·rename_i k n he
   rw [he] at hx
   have e:=hx.int_inv
   obtain ⟨av,v,h1,h2,h3⟩:=qnM (P:=P) (zrR hF r) h
   exact ⟨av,v,fun w2 hag=>by simp [resolve,invoke,builtin,Builtin.min_,e,h1],h2,h3⟩
  ·exact h.elim
 ·rename_i x r _
  have hx:=ev_ok hF x
  split at h
  ·rename_i k n he
   rw [he] at hx
   have e:=hx.int_inv
   obtain ⟨av,v,h1,h2,h3⟩:=qnN (P:=P) (zrR hF r) h
   exact ⟨av,v,fun w2 hag=>by simp [resolve,invoke,builtin,Builtin.max_,e,h1],h2,h3⟩
  ·exact h.elim
 ·exact h.elim

theorem qqX (ht:TBok P tb) {o:Oper} {a:Act} {F:Fr} {K:AV->Prop} (hF:Ts R ids F a.tmps.toList) (hR:View R ids own H w) (h:zwP tb o.op F H K) :
  ∃av v,(∀w2,Agr R own H w w2->(execOp a.eval o).run P w2 = .ok (.value v) w2)/\V R ids av v/\K av :=
 let ⟨av,v,h1,h2,h3⟩:=zz0 (P:=P) ht hF hR h
 ⟨av,v,fun w2 hw=>h1 w2 (.inr hw),h2,h3⟩

end Go.Sx
