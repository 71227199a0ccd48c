import Derived.Test.YtlihikockhjodaaGreatDoorSxB

namespace Go.Sx
variable {W W':Base} {D D':Nat->Prop} {R R':Nat->Option Obj} {ids ids' own:Nat->Option Nat} {P:Program} {tb:TB} {w:World} {H:AH}

structure View (R:Nat->Option Obj) (ids own:Nat->Option Nat) (H:AH) (w:World):Prop where
 ro:∀b o,R b=some o->w.heap[b]? = some o
 items:∀p it,H[p]? = some it->Sat R ids (fun b=>own b=some p) w p it
theorem Rep.view (h:Rep W D R ids own H w):View R ids own H w:=⟨h.ro,h.items⟩

def Item.isGone:Item->Bool
 | .gone=>true
 | _=>false

def Agr (R:Nat->Option Obj) (own:Nat->Option Nat) (H:AH) (w w2:World):Prop :=
 (∀b o,R b=some o->w2.heap[b]? = some o)/\∀b p it,own b=some p->H[p]? = some it->it.isGone=false->w2.heap[b]? = w.heap[b]?
theorem View.refl (h:View R ids own H w):Agr R own H w w:=⟨h.ro,fun _ _ _ _ _ _=>rfl⟩

theorem View.rcell {w2:World} (ha:Agr R own H w w2) {b o:Nat} {v:Value} (h:rcell R b o=some v):w2.cell? ⟨b,o,none⟩=some v:=by
 unfold Sx.rcell at h
 split at h
 ·rename_i c _ _ hb; simp [World.cell?,ha.1 b _ hb,h]
 ·cases h

theorem View.rcells {w2:World} (ha:Agr R own H w w2) {b o:Nat} {cs:List Value} (hc:∀j,j<cs.length->Sx.rcell R b (o+j)=cs[j]?):∀j,j<cs.length->w2.cell? ⟨b,o+j,none⟩=cs[j]?:=by
 intro j hj
 have:=hc j hj
 rw [List.getElem?_eq_getElem hj] at this ⊢
 exact View.rcell ha this

def zoL:Item->Option (List AV)
 | .cells _ l=>some l
 | .row _ es _ n f=>some [.arr es n f]
 | .view es n f=>some [.arr es n f]
 | .obj A=>match A.peek with
   | []=>none
   | a :: r=>some (a :: r)
 | _=>none

def zvO (H:AH) (p:Nat) (path:List (Nat×Nat×Nat)) (k:List AV->Prop):Prop :=
 match H[p]? with
 | some it=>match zoL it with
   | some s=>nav s path k
   | none=>False
 | none=>False

theorem ztN (hR:View R ids own H w) {p:Nat} {path:List (Nat×Nat×Nat)} {k:List AV->Prop} (h:zvO H p path k) :
  ∃s c,k s/\Vs R ids s c/\(∀w2,Agr R own H w w2->∀b,ids p=some b->∀j,j<c.length->w2.cell? ⟨b,poff path+j,none⟩=c[j]?)/\(ids p=none->c=[]):=by
 unfold zvO at h
 split at h
 ·rename_i it hp
  split at h
  ·rename_i segs hs
   have hsat:=hR.items p it hp
   have key:∃cs,Vs R ids segs cs/\(∀w2,Agr R own H w w2->∀b,ids p=some b->∀j,j<cs.length->w2.cell? ⟨b,j,none⟩=cs[j]?)/\(ids p=none->cs=[]):=by
    cases it with
    | cells T l =>
      simp only [zoL,Option.some.injEq] at hs; subst hs
      obtain ⟨b,cs,hb,ho,hw,hv⟩:=hsat
      exact ⟨_,hv,fun w2 ha b' hb' j _=>by rw [hb] at hb'; cases hb'; simp [World.cell?,ha.2 b p _ ho hp rfl,hw],fun hn=>by rw [hb] at hn; cases hn⟩
    | row T es cap n f =>
      simp only [zoL,Option.some.injEq] at hs; subst hs
      rcases hsat with ⟨hb,hn,_⟩ | ⟨b,cur,hb,ho,hw,hnc,_,hcs,hv⟩
      ·subst hn
       exact ⟨[],.arr (ids:=ids) es 0 f (fun _=>[]) [] [] [] (by simp) (fun i hi=>absurd hi (Nat.not_lt_zero _)) (fun i hi=>absurd hi (Nat.not_lt_zero _)) .nil,
        fun w2 _ b' hb' j hj=>by simp at hj,fun _=>rfl⟩
      ·refine ⟨_,hv,fun w2 ha b' hb' j hj=>?_,fun hn=>by rw [hb] at hn; cases hn⟩
       rw [hb] at hb'; cases hb'
       simp only [List.length_take] at hj
       have e:w2.cell? ⟨b,j,none⟩=cur[j]?:=by simp [World.cell?,ha.2 b p _ ho hp rfl,hw]
       rw [e,List.getElem?_take,if_pos (by omega)]
       simp
    | view es n f =>
      simp only [zoL,Option.some.injEq] at hs; subst hs
      obtain ⟨b,cur,T,fr,hb,ho,hw,hcs,hv⟩:=hsat
      refine ⟨_,hv,fun w2 ha b' hb' j hj=>?_,fun hn=>by rw [hb] at hn; cases hn⟩
      rw [hb] at hb'; cases hb'
      simp only [List.length_take] at hj
      have e:w2.cell? ⟨b,j,none⟩=cur[j]?:=by simp [World.cell?,ha.2 b p _ ho hp rfl,hw]
      rw [e,List.getElem?_take,if_pos (by omega)]
      simp
    | obj A =>
      have hs1:(match A.peek with
       | []=>none
       | a :: r=>some (a :: r))=some segs:=hs
      obtain ⟨b,hb,ho,hh⟩:=hsat
      have hpk:=A.peekOk b _ w hh
      cases e0:A.peek with
      | nil=>rw [e0] at hs1; cases hs1
      | cons a0 r0 =>
        rw [e0] at hs1 hpk
        cases hs1
        obtain ⟨cs,T,fr,hw,hsz,hv⟩:=hpk.resolve_left (fun k=>by cases k)
        refine ⟨_,(hv.into (fun _ _ e=>by cases e) (fun _ _ e=>by cases e)),fun w2 ha b' hb' j hj=>?_,fun hn=>by rw [hb] at hn; cases hn⟩
        rw [hb] at hb'; cases hb'
        simp only [List.length_take] at hj
        have e:w2.cell? ⟨b,j,none⟩=cs[j]?:=by simp [World.cell?,ha.2 b p _ ho hp rfl,hw]
        rw [e,List.getElem?_take,if_pos (by omega)]
        simp
    | fence=>simp [zoL] at hs
    | gone=>simp [zoL] at hs
    | junk=>simp [zoL] at hs
   obtain ⟨cs,hv,hc,hnil⟩:=key
   obtain ⟨s,hk,hv',hle⟩:=qrI hv h
   refine ⟨s,_,hk,hv',fun w2 ha b hb j hj=>?_,fun hn=>by rw [hnil hn]; simp⟩
   simp only [List.length_take,List.length_drop] at hj
   rw [hc w2 ha b hb _ (by omega),List.getElem?_take,if_pos (by omega),List.getElem?_drop]
  ·exact h.elim
 ·exact h.elim

def qlC:TK->Option Bool
 | .struct _ | .array _ _=>some true
 | .other=>none
 | _=>some false

def zvR (tb:TB) (t:TypeId) (segs:List AV) (off:Nat) (K:AV->Prop):Prop :=
 match lk tb t with
 | some ti=>match qlC ti.kind,zcN segs off with
   | some true,some r=>match za7 r ti.size with
     | some l=>K (.agg l)
     | none=>False
   | some false,some (a :: _)=>match a.one with
     | true=>K a
     | false=>False
   | _,_=>False
 | none=>False

theorem TIok.isAgg {t:TypeId} {ti:TI} (h:TIok P t ti) {b:Bool} (hb:qlC ti.kind=some b):(Go.isAgg t).run P w = .ok b w:=by
 have hk:=h.kind
 unfold Go.isAgg
 cases hki:ti.kind <;> rw [hki] at hk hb <;> simp only [qlC,Option.some.injEq,reduceCtorEq] at hb <;> simp only [TK.desc] at hk <;> try (subst hb; simp [run_underlying hk])
 case struct fs =>
  cases hu:P.underlying t with
  | none=>simp [hu] at hk
  | some d=>cases d <;> simp [hu] at hk; subst hb; simp [run_underlying hu]

theorem TIok.sizeOf {t:TypeId} {ti:TI} (h:TIok P t ti):(Go.sizeOf t).run P w = .ok ti.size w:=by
 have hi:=h.info
 cases hq:P.info? t with
 | none=>simp [hq] at hi
 | some i=>simp [hq] at hi; simp [Go.sizeOf,typeInfo,hq,hi.1]

theorem TIok.typeInfo {t:TypeId} {ti:TI} (h:TIok P t ti):∃i,P.info? t=some i/\i.size=ti.size/\i.bytes=ti.bytes/\∃z,i.zero=some z/\z.cells.toList=zVal ti.zero:=by
 have hi:=h.info
 cases hq:P.info? t with
 | none=>simp [hq] at hi
 | some i =>
   simp [hq] at hi
   refine ⟨i,rfl,hi.1,hi.2.1,?_⟩
   obtain ⟨z,hz,hc⟩:=hi.2.2
   exact ⟨z,hz,hc⟩

theorem qd5 (ht:TBok P tb) {t:TypeId} {segs:List AV} {off:Nat} {K:AV->Prop} {c:List Value} {b o:Nat} (hv:Vs R ids segs c) (h:zvR tb t segs off K) :
  ∃av v,(∀w:World,(∀j,j<c.length->w.cell? ⟨b,o+j,none⟩=c[j]?)->(loadVar t ⟨b,o+off,none⟩).run P w = .ok v w)/\V R ids av v/\K av:=by
 unfold zvR at h
 split at h
 ·rename_i ti hl
  have hti:=ht.get hl
  split at h
  ·rename_i r ha hd
   split at h
   ·rename_i l hk
    obtain ⟨h1,h2⟩:=zcQ hv hd
    obtain ⟨h3,h4⟩:=ze4 h1 hk
    have hlen:((c.drop off).take ti.size).length=ti.size:=by rw [List.length_take]; omega
    have hld:=fun (w:World) (hc:∀j,j<c.length->w.cell? ⟨b,o+j,none⟩=c[j]?)=>run_loadCells_list (P:=P) (w:=w) (⟨b,o+off,none⟩:Addr) ((c.drop off).take ti.size) (fun j v hj=>by
     have hjl:j<ti.size:=by
      have:=(List.getElem?_eq_some_iff.1 hj).1; omega
     simp only [List.length_drop] at h4
     rw [List.getElem?_take,if_pos hjl,List.getElem?_drop] at hj
     have hadd:(⟨b,o+off,none⟩:Addr).add j=⟨b,o+(off+j),none⟩:=by
      unfold Addr.add; split
      ·rename_i e; subst e; simp
      ·simp [Nat.add_assoc]
     rw [hadd,hc _ (by omega),hj])
    rw [hlen] at hld
    refine ⟨.agg l,.agg ((c.drop off).take ti.size).toArray,?_,.agg _ _ h3,h⟩
    intro w hc
    simp only [loadVar,Sem.run_bind,hti.isAgg ha,Result.andThen_ok,hti.sizeOf,hld w hc,if_true,Sem.run_pure]
   ·exact h.elim
  ·rename_i a r ha hd
   split at h
   ·rename_i hone
    obtain ⟨h1,h2⟩:=zcQ hv hd
    generalize hcd:c.drop off=cd at h1
    cases h1 with
    | one _ v _ vs _ hav _ =>
      have hlt:off<c.length:=by
       have:=congrArg List.length hcd; simp at this; omega
      refine ⟨a,v,fun w hc=>?_,hav,h⟩
      have hcell:w.cell? ⟨b,o+off,none⟩=some v:=by
       rw [hc off hlt]
       have:=congrArg (fun l=>l[0]?) hcd
       simpa using this
      simp only [loadVar,Sem.run_bind,hti.isAgg ha,Result.andThen_ok,Bool.false_eq_true,if_false]
      rw [run_load]; simp [hcell]
    | arr=>simp [AV.one] at hone
   ·exact h.elim
  ·exact h.elim
 ·exact h.elim

def qg4 (segs:List AV):Nat->List (Nat×Nat×Nat)->Nat->List (Nat×Nat×Nat)×Nat
 | b,[],off=>([],b+off)
 | b,(o,es,i) :: r,off=>match zcN segs (b+o) with
   | some (.arr .. :: _)=>((b+o,es,i) :: r,off)
   | _=>qg4 segs (b+o+i*es) r off
def flatAt (H:AH) (p:Nat) (path:List (Nat×Nat×Nat)) (off:Nat):List (Nat×Nat×Nat)×Nat:=match path with
 | []=>([],off)
 | q :: r=>match H[p]? with
   | some it=>match zoL it with
     | some s=>qg4 s 0 (q :: r) off
     | none=>(q :: r,off)
   | none=>(q :: r,off)
theorem qeN (segs:List AV):∀(path:List (Nat×Nat×Nat)) (b off:Nat),poff (qg4 segs b path off).1+(qg4 segs b path off).2=b+(poff path+off)
 | [],b,off=>by simp [qg4,poff]
 | (o,es,i) :: r,b,off=>by
   unfold qg4
   split
   ·simp only [poff]; omega
   ·rw [qeN segs r]; simp only [poff]; omega
theorem zzB (H:AH) (p:Nat) (path:List (Nat×Nat×Nat)) (off:Nat):poff (flatAt H p path off).1+(flatAt H p path off).2=poff path+off:=by
 unfold flatAt
 split
 ·rfl
 ·split
  ·split
   ·rw [qeN]; omega
   ·rfl
  ·rfl

def qhK (tb:TB) (H:AH) (t:TypeId) (a:AV) (K:AV->Prop):Prop:=match a with
 | .ptr p path off=>zvO H p (flatAt H p path off).1 (fun s=>zvR tb t s (flatAt H p path off).2 K)
 | .rp segs off=>zvR tb t segs off K
 | _=>False

theorem zwR (ht:TBok P tb) (hR:View R ids own H w) {t:TypeId} {a:AV} {va:Value} {K:AV->Prop} (ha:V R ids a va) (h:qhK tb H t a K) :
  ∃av v,(∀w2,Agr R own H w w2->(Instr.loadAt t va).run P w2 = .ok v w2)/\V R ids av v/\K av:=by
 unfold qhK at h
 split at h
 ·rename_i p path off
  obtain ⟨b,hb,rfl⟩:=ha.ptr_some
  rw [<- zzB H p path off]
  obtain ⟨s,c,hk,hv,hc,_⟩:=ztN hR h
  obtain ⟨av,v,h1,h2,h3⟩:=qd5 (P:=P) (b:=b) (o:=poff (flatAt H p path off).1) ht hv hk
  exact ⟨av,v,fun w2 hag=>by simp [Instr.loadAt,Instr.sureAddr,h1 w2 (hc w2 hag b hb)],h2,h3⟩
 ·cases ha with
  | rp segs off b o cs h3 h4 =>
    obtain ⟨av,v,g1,g2,g3⟩:=qd5 (P:=P) (b:=b) (o:=o) ht (h4.lift (ids:=ids)) h
    exact ⟨av,v,fun w2 hag=>by simp [Instr.loadAt,Instr.sureAddr,g1 w2 (View.rcells hag h3)],g2,g3⟩
 ·exact h.elim

theorem run_fieldPlace_pos {a:Addr} {f:Field} {n:Nat} (hn:n≠0) (hs:(Go.sizeOf f.type).run P w = .ok n w):(fieldPlace a f).run P w = .ok (a.add f.offset) w:=by
 simp [fieldPlace,hs,hn]

theorem addr_add (b o:Nat) (n:Nat):(⟨b,o,none⟩:Addr).add n=⟨b,o+n,none⟩:=by
 unfold Addr.add; split
 ·rename_i e; subst e; simp
 ·rfl

def zwA (tb:TB) (t:TypeId) (f:Nat):Option (Nat×TypeId×Nat):=match lk tb t with
 | some ti=>match ti.kind with
   | .struct fs=>match fs[f]? with
     | some (o,ft)=>match lk tb ft with
       | some fi=>some (o,ft,fi.size)
       | none=>none
     | none=>none
   | _=>none
 | none=>none

theorem zt6 (ht:TBok P tb) {t f o ft n:Nat} (h:zwA tb t f=some (o,ft,n)) :
  ∃fa fd,P.underlying t=some (.struct fa)/\fa[f]? = some fd/\fd.offset=o/\fd.type=ft/\∃fi,lk tb ft=some fi/\fi.size=n:=by
 unfold zwA at h
 split at h
 ·rename_i ti hl
  split at h
  ·rename_i fs hk
   have hd:=(ht.get hl).kind
   rw [hk] at hd
   simp only [TK.desc] at hd
   split at h
   ·rename_i o' ft' hf
    split at h
    ·rename_i fi hfi
     simp only [Option.some.injEq,Prod.mk.injEq] at h
     obtain ⟨rfl,rfl,rfl⟩:=h
     cases hu:P.underlying t with
     | none=>simp [hu] at hd
     | some d =>
       cases d <;> simp [hu] at hd
       rename_i fa
       have:(fa.toList.map fun f=>(f.offset,f.type))[f]? = some (o',ft'):=by rw [hd]; exact hf
       rw [List.getElem?_map] at this
       cases hq:fa.toList[f]? with
       | none=>simp [hq] at this
       | some fd =>
         simp [hq] at this
         exact ⟨fa,fd,rfl,by simpa using hq,this.1,this.2,fi,hfi,rfl⟩
    ·cases h
   ·cases h
  ·cases h
 ·cases h

def zoE (tb:TB) (t:TypeId) (a:AV) (f:Nat) (K:AV->Prop):Prop:=match zwA tb t f with
 | some (o,_,n)=>match Nat.beq n 0,a with
   | false,.ptr p path off=>K (.ptr p path (off+o))
   | false,.rp segs off=>K (.rp segs (off+o))
   | _,_=>False
 | none=>False

theorem zwS (ht:TBok P tb) {t f:Nat} {a:AV} {va:Value} {K:AV->Prop} (ha:V R ids a va) (h:zoE tb t a f K) :
  ∃av v,(∀w,(Instr.fieldAt t va f).run P w = .ok v w)/\V R ids av v/\K av:=by
 unfold zoE at h
 split at h
 ·rename_i o ft n hf
  obtain ⟨fa,fd,hu,hfd,rfl,rfl,fi,hfi,rfl⟩:=zt6 ht hf
  split at h
  ·rename_i hn
   obtain ⟨b,hb,rfl⟩:=ha.ptr_some
   have hn':fi.size≠0:=fun e=>by rw [e] at hn; cases hn
   refine ⟨_,_,?_,.ptr _ _ _ b hb,h⟩
   intro w; simp only [Instr.fieldAt,Sem.run_bind,run_underlying hu,Result.andThen_ok,hfd,Instr.sureAddr,Sem.run_pure,run_fieldPlace_pos hn' (ht.get hfi).sizeOf,addr_add,Nat.add_assoc]
  ·rename_i hn
   have hn':fi.size≠0:=fun e=>by rw [e] at hn; cases hn
   cases ha with
   | rp segs off b o cs h3 h4 =>
     refine ⟨_,_,?_,.rp _ _ b o cs h3 h4,h⟩
     intro w; simp only [Instr.fieldAt,Sem.run_bind,run_underlying hu,Result.andThen_ok,hfd,Instr.sureAddr,Sem.run_pure,run_fieldPlace_pos hn' (ht.get hfi).sizeOf,addr_add,Nat.add_assoc]
  ·exact h.elim
 ·exact h.elim

theorem qkD (ht:TBok P tb) {t:TypeId} {segs:List AV} {off:Nat} {K:AV->Prop} {c:List Value} (hv:Vs R ids segs c) (h:zvR tb t segs off K) :
  ∃av v,(∀w,(part t c.toArray off).run P w = .ok v w)/\V R ids av v/\K av:=by
 unfold zvR at h
 split at h
 ·rename_i ti hl
  have hti:=ht.get hl
  split at h
  ·rename_i r ha hd
   split at h
   ·rename_i l hk
    obtain ⟨h1,h2⟩:=zcQ hv hd
    obtain ⟨h3,h4⟩:=ze4 h1 hk
    refine ⟨.agg l,.agg ((c.drop off).take ti.size).toArray,?_,.agg _ _ h3,h⟩
    intro w; simp [part,hti.isAgg ha,hti.sizeOf,List.extract_eq_take_drop]
   ·exact h.elim
  ·rename_i a r ha hd
   split at h
   ·rename_i hone
    obtain ⟨h1,h2⟩:=zcQ hv hd
    generalize hcd:c.drop off=cd at h1
    cases h1 with
    | one _ v _ vs _ hav _ =>
      have hcell:c[off]? = some v:=by
       have:=congrArg (fun l=>l[0]?) hcd
       simpa using this
      refine ⟨a,v,?_,hav,h⟩
      intro w; simp [part,hti.isAgg ha,hcell]
    | arr=>simp [AV.one] at hone
   ·exact h.elim
  ·exact h.elim
 ·exact h.elim

theorem V.agg_inv {l:List AV} {v:Value} (h:V R ids (.agg l) v):∃cs,v = .agg cs.toArray/\Vs R ids l cs:=by cases h; exact ⟨_,rfl,by assumption⟩
theorem V.tup_inv {l:List AV} {v:Value} (h:V R ids (.tup l) v):∃cs,v = .tuple cs.toArray/\Ts R ids l cs:=by cases h; exact ⟨_,rfl,by assumption⟩

def qnS (tb:TB) (t:TypeId) (a:AV) (f:Nat) (K:AV->Prop):Prop:=match zwA tb t f,a with
 | some (o,ft,_),.agg l=>zvR tb ft l o K
 | _,_=>False

theorem qnR (ht:TBok P tb) {t f:Nat} {a:AV} {va:Value} {K:AV->Prop} (ha:V R ids a va) (h:qnS tb t a f K) :
  ∃av v,(∀w,(Instr.field t va f).run P w = .ok v w)/\V R ids av v/\K av:=by
 unfold qnS at h
 split at h
 ·rename_i o ft n l hf
  obtain ⟨fa,fd,hu,hfd,rfl,rfl,fi,hfi,rfl⟩:=zt6 ht hf
  obtain ⟨cs,rfl,hv⟩:=ha.agg_inv
  obtain ⟨av,v,h1,h2,h3⟩:=qkD (P:=P) ht hv h
  exact ⟨av,v,fun w=>by simp [Instr.field,run_underlying hu,hfd,asAgg,h1],h2,h3⟩
 ·exact h.elim

theorem poff_append:∀(path:List (Nat×Nat×Nat)) (x:Nat×Nat×Nat),poff (path++[x])=poff path+(x.1+x.2.2*x.2.1)
 | [],(o,es,i)=>by simp [poff]
 | (o,es,i) :: r,x=>by simp only [List.cons_append,poff,poff_append r x]; omega

def zp7 (tb:TB) (t:TypeId):Option Nat:=match lk tb t with
 | some ti=>some ti.size
 | none=>none
theorem sizeT_ok (ht:TBok P tb) {t n:Nat} (h:zp7 tb t=some n):(Go.sizeOf t).run P w = .ok n w:=by
 unfold zp7 at h
 split at h
 ·rename_i ti hl; cases h; exact (ht.get hl).sizeOf
 ·cases h

def zfJ (tb:TB) (t:TypeId):TK:=match lk tb t with
 | some ti=>ti.kind
 | none => .other
theorem zb5 (ht:TBok P tb) (t:TypeId):(zfJ tb t).desc P t:=by
 unfold zfJ
 split
 ·rename_i ti hl; exact (ht.get hl).kind
 ·trivial

def zkH (tb:TB) (t:TypeId) (a i:AV) (K:AV->Prop):Prop:=match i with
 | .int _ iv=>match zfJ tb t with
   | .array n e=>match zp7 tb e,a with
     | some es,.ptr p path off=>(0 <= iv/\iv<(n:Int))/\K (.ptr p (path++[(off,es,iv.toNat)]) 0)
     | some es,.rp segs off=>(0 <= iv/\iv<(n:Int))/\(match zcN segs off with
       | some (.arr es' m f :: _)=>match Nat.beq es es' with
         | true=>iv<(m:Int)/\K (.rp (f iv.toNat) 0)
         | false=>False
       | _=>False)
     | _,_=>False
   | .slice e=>match zp7 tb e,a with
     | some es,.sl p path off es' lo n _=>match Nat.beq es es' with
       | true=>(0 <= iv/\iv<(n:Int))/\K (.ptr p (path++[(off,es,lo+iv.toNat)]) 0)
       | false=>False
     | some es,.ro es' n f=>match Nat.beq es es' with
       | true=>(0 <= iv/\iv<(n:Int))/\K (.rp (f iv.toNat) 0)
       | false=>False
     | _,_=>False
   | _=>False
 | _=>False

theorem zmY (ht:TBok P tb) {t:Nat} {a i:AV} {va vi:Value} {K:AV->Prop} (ha:V R ids a va) (hi:V R ids i vi) (h:zkH tb t a i K) :
  ∃av v,(∀w,(Instr.indexAt t va vi).run P w = .ok v w)/\V R ids av v/\K av:=by
 unfold zkH at h
 split at h
 ·rename_i ik iv
  obtain rfl:=hi.int_inv
  have hk:=zb5 (P:=P) ht t
  split at h
  ·rename_i n e hke
   rw [hke] at hk
   simp only [TK.desc] at hk
   split at h
   ·rename_i es p path off hes
    obtain ⟨hb,h⟩:=h
    obtain ⟨b,hids,rfl⟩:=ha.ptr_some
    refine ⟨_,_,?_,.ptr _ _ _ b hids,h⟩
    intro w; simp [Instr.indexAt,asIntOf,run_underlying hk,Instr.sureAddr,hb,sizeT_ok ht hes,addr_add,poff_append,Nat.add_assoc]
   ·rename_i es segs off hes
    obtain ⟨hb,h⟩:=h
    cases ha with
    | rp segs off b o cs h3 h4 =>
    split at h
    ·rename_i es' m f rest hd
     split at h
     ·rename_i hbe
      have he:=Nat.eq_of_beq_eq_true hbe
      subst he
      obtain ⟨hm,h⟩:=h
      obtain ⟨g1,g2⟩:=zcQ h4 hd
      obtain ⟨g3,g4⟩:=g1.elem (i:=iv.toNat) (by omega)
      simp only [List.length_drop] at g4
      refine ⟨_,_,?_,.rp _ 0 b (o+off+iv.toNat*es) _ (fun j hj=>?_) g3,h⟩
      ·intro w; simp [Instr.indexAt,asIntOf,run_underlying hk,Instr.sureAddr,hb,sizeT_ok ht hes,addr_add]
      ·simp only [List.length_take,List.length_drop] at hj
       rw [List.getElem?_take,if_pos (by omega),List.getElem?_drop,List.getElem?_drop,<- h3 _ (by omega)]
       simp [Nat.add_assoc]
     ·exact h.elim
    ·exact h.elim
   ·exact h.elim
  ·rename_i e hke
   rw [hke] at hk
   simp only [TK.desc] at hk
   split at h
   ·rename_i es p path off es' lo n cap hes
    split at h
    ·rename_i hbe
     have he:=Nat.eq_of_beq_eq_true hbe
     subst he
     obtain ⟨hb,h⟩:=h
     cases ha with
     | sl p path off es lo n cap a h1 h2 h3 =>
     obtain ⟨b,hids,rfl⟩:=h1 (by omega)
     refine ⟨_,_,?_,.ptr _ _ _ b hids,h⟩
     intro w; simp [Instr.indexAt,asIntOf,run_underlying hk,hb,sizeT_ok ht hes,addr_add,poff_append,Nat.add_assoc,Nat.add_mul]
    ·exact h.elim
   ·rename_i es es' n f hes
    split at h
    ·rename_i hbe
     have he:=Nat.eq_of_beq_eq_true hbe
     subst he
     obtain ⟨hb,h⟩:=h
     cases ha with
     | ro0 es f a cap hc=>exfalso; omega
     | ro es n f b o cap cs h3 h4 h5 h6 h7 =>
     have hlt:iv.toNat<n:=by omega
     refine ⟨_,_,?_,.rp _ 0 b (o+iv.toNat*es) (cs iv.toNat) (fun j hj=>by rw [h5 _ hlt] at hj; exact h6 _ hlt j hj) (h7 _ hlt),h⟩
     intro w; simp [Instr.indexAt,asIntOf,run_underlying hk,hb,sizeT_ok ht hes,addr_add]
    ·exact h.elim
   ·exact h.elim
  ·exact h.elim
 ·exact h.elim

end Go.Sx
