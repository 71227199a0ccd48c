import Derived.Test.YtlihikockhjodaaGreatDoorSxL

namespace Go.Sx
variable {W W':Base} {D D':Nat->Prop} {R R':Nat->Option Obj} {ids ids' own own':Nat->Option Nat} {P:Program} {tb:TB} {sp:SP} {w w':World} {H H':AH}

theorem Sat.move {ok:Nat->Bool} {S S':Nat->Prop} {p:Nat} {it:Item} (h:Sat R ids S w p it) (hS:∀b,S b ↔ S' b) (hw:∀b,S b->w'.heap[b]? = w.heap[b]?) (hp:ids' p=ids p)
  (hi:∀q,ok q=true->∀b,ids q=some b->ids' q=some b) (hr:∀b o,R b=some o->R' b=some o):Sat R' ids' S' w' p (scrubJ ok it):=by
 obtain rfl:S=S':=funext fun b=>propext (hS b)
 cases it with
 | cells T l =>
   obtain ⟨b,cs,h1,h2,h3,h4⟩:=h
   exact ⟨b,cs,hp.trans h1,h2,(hw b h2).trans h3,(h4.scrubC hi).into (fun _ _ e=>e) hr⟩
 | row T es cap n f =>
   rcases h with ⟨h1,h2,h3⟩ | ⟨b,cur,h1,h2,h3,h4,h5,h6,h7⟩
   ·exact .inl ⟨hp.trans h1,h2,h3⟩
   ·exact .inr ⟨b,cur,hp.trans h1,h2,(hw b h2).trans h3,h4,h5,h6,(Vs.keep (ok:=ok) (n:=0) hi h7 (by simp [okA])).into (fun _ _ e=>e) hr⟩
 | view es n f =>
   obtain ⟨b,cur,T,fr,h1,h2,h3,h4,h5⟩:=h
   exact ⟨b,cur,T,fr,hp.trans h1,h2,(hw b h2).trans h3,h4,(Vs.keep (ok:=ok) (n:=0) hi h5 (by simp [okA])).into (fun _ _ e=>e) hr⟩
 | obj A =>
   obtain ⟨b,h1,h2,h3⟩:=h
   exact ⟨b,hp.trans h1,h2,A.here b S w w' hw h3⟩
 | gone=>trivial
 | junk=>trivial
 | fence=>trivial

def zfI:List Bool->AH->AH
 | true :: m,it :: H=>(match it.isFence with | true=>it | false => .gone) :: zfI m H
 | false :: m,it :: H=>it :: zfI m H
 | _,H=>H

def zbS (ok:Nat->Bool):List Bool->AH->AH->AH
 | true :: m,it :: H,x :: H'=>(match it.isFence with | true=>x | false=>scrubJ ok it) :: zbS ok m H H'
 | false :: m,_ :: H,x :: H'=>x :: zbS ok m H H'
 | _,_,H'=>H'

def zeZ:List Bool->AH->AH
 | true :: m,it :: H=>(match it.isFence with | true => .gone | false=>it) :: zeZ m H
 | false :: m,_ :: H => .gone :: zeZ m H
 | _,_ :: H => .gone :: zeZ [] H
 | _,[]=>[]

def zb2 (m:List Bool) (H:AH) (q:Nat):Bool:=match m[q]?,H[q]? with
 | some true,some it=>!it.isFence
 | _,_=>false

theorem zeL {x:Bool} {m:List Bool} {y:Item} {H:AH} {q:Nat}:zb2 (x :: m) (y :: H) (q+1)=zb2 m H q:=by simp [zb2]

theorem zfC:∀(m:List Bool) (H:AH) (q:Nat),(zfI m H)[q]? = if zb2 m H q=true then some .gone else H[q]?
 | [],H,q=>by simp [zfI,zb2]
 | true :: m,[],q=>by simp [zfI,zb2]
 | false :: m,[],q=>by simp [zfI,zb2]
 | true :: m,it :: H,0=>by cases e:it.isFence <;> simp [zfI,zb2,e]
 | false :: m,it :: H,0=>by simp [zfI,zb2]
 | true :: m,it :: H,q+1=>by
   rw [zfI,List.getElem?_cons_succ,List.getElem?_cons_succ,zeL]; exact zfC m H q
 | false :: m,it :: H,q+1=>by
   rw [zfI,List.getElem?_cons_succ,List.getElem?_cons_succ,zeL]; exact zfC m H q

theorem zcY:∀(m:List Bool) (H:AH),(zfI m H).length=H.length
 | [],H=>by simp [zfI]
 | true :: m,[]=>by simp [zfI]
 | false :: m,[]=>by simp [zfI]
 | true :: m,it :: H=>by simp [zfI,zcY m H]
 | false :: m,it :: H=>by simp [zfI,zcY m H]

theorem ziV (ok:Nat->Bool):∀(m:List Bool) (H H':AH) (q:Nat),(zbS ok m H H')[q]? = if zb2 m H q=true then (match H'[q]?,H[q]? with | some _,some it=>some (scrubJ ok it) | _,_=>none) else H'[q]?
 | [],H,H',q=>by simp [zbS,zb2]
 | true :: m,[],H',q=>by simp [zbS,zb2]
 | false :: m,[],H',q=>by simp [zbS,zb2]
 | true :: m,it :: H,[],q=>by simp [zbS]
 | false :: m,it :: H,[],q=>by simp [zbS]
 | true :: m,it :: H,x :: H',0=>by cases e:it.isFence <;> simp [zbS,zb2,e]
 | false :: m,it :: H,x :: H',0=>by simp [zbS,zb2]
 | true :: m,it :: H,x :: H',q+1=>by
   rw [zbS,List.getElem?_cons_succ,List.getElem?_cons_succ,List.getElem?_cons_succ,zeL]; exact ziV ok m H H' q
 | false :: m,it :: H,x :: H',q+1=>by
   rw [zbS,List.getElem?_cons_succ,List.getElem?_cons_succ,List.getElem?_cons_succ,zeL]; exact ziV ok m H H' q

theorem zeG (ok:Nat->Bool):∀(m:List Bool) (H H':AH),(zbS ok m H H').length=H'.length
 | [],H,H'=>by simp [zbS]
 | true :: m,[],H'=>by simp [zbS]
 | false :: m,[],H'=>by simp [zbS]
 | true :: m,it :: H,[]=>by simp [zbS]
 | false :: m,it :: H,[]=>by simp [zbS]
 | true :: m,it :: H,x :: H'=>by simp [zbS,zeG ok m H H']
 | false :: m,it :: H,x :: H'=>by simp [zbS,zeG ok m H H']

theorem onlyL_get:∀(m:List Bool) (H:AH) (q:Nat) (it:Item),(zeZ m H)[q]? = some it->it = .gone\/(zb2 m H q=true/\H[q]? = some it)
 | [],[],q,it=>by simp [zeZ]
 | true :: m,[],q,it=>by simp [zeZ]
 | false :: m,[],q,it=>by simp [zeZ]
 | [],x :: H,0,it=>by simp only [zeZ,List.getElem?_cons_zero,Option.some.injEq]; intro h; exact .inl h.symm
 | [],x :: H,q+1,it=>fun h=>by
   have:=onlyL_get [] H q it (by simpa [zeZ] using h)
   rcases this with h | ⟨h,_⟩
   ·exact .inl h
   ·simp [zb2] at h
 | true :: m,x :: H,0,it=>by
   cases e:x.isFence <;> simp [zeZ,zb2,e]
   ·exact .inr
   ·exact fun h=>h.symm
 | false :: m,x :: H,0,it=>by simp only [zeZ,List.getElem?_cons_zero,Option.some.injEq]; intro h; exact .inl h.symm
 | true :: m,x :: H,q+1,it=>fun h=>by
   rw [List.getElem?_cons_succ,zeL]
   exact onlyL_get m H q it (by simpa [zeZ] using h)
 | false :: m,x :: H,q+1,it=>fun h=>by
   rw [List.getElem?_cons_succ,zeL]
   exact onlyL_get m H q it (by simpa [zeZ] using h)

def Item.goneB:Option Item->Bool
 | some .gone=>true
 | _=>false
theorem Item.goneB_eq {x:Option Item} (h:Item.goneB x=true):x=some .gone:=by
 unfold Item.goneB at h; split at h
 ·rfl
 ·cases h

def qbR (W:Base) (R:Nat->Option Obj) (ids:Nat->Option Nat) (Hm:AH) (w:World):Base :=
 { w with R:=R,pins:=fun q=>if Item.goneB Hm[q]? = true then some (ids q) else none,nst:=W.nst,ids0:=W.ids0 }
def znR (own:Nat->Option Nat) (m:List Bool) (H:AH):Nat->Prop:=fun b=>∃p,own b=some p/\zb2 m H p=false
def qbS (own:Nat->Option Nat) (m:List Bool) (H:AH):Nat->Option Nat:=fun b=>match own b with
 | some p=>if zb2 m H p=true then none else some p
 | none=>none
def qaO (own own':Nat->Option Nat) (m:List Bool) (H:AH):Nat->Option Nat:=fun b=>match own b with
 | some p=>if zb2 m H p=true then some p else qbS own' m H b
 | none=>qbS own' m H b

theorem zeI {m:List Bool} {b p:Nat}:qbS own m H b=some p ↔ own b=some p/\zb2 m H p=false:=by
 unfold qbS
 cases h:own b with
 | none=>simp
 | some q =>
   by_cases hq:zb2 m H q=true
   ·simp only [if_pos hq]
    constructor
    ·intro h; cases h
    ·rintro ⟨e,h2⟩; cases e; rw [hq] at h2; cases h2
   ·simp only [if_neg hq,Option.some.injEq]
    constructor
    ·rintro rfl; exact ⟨rfl,by simpa using hq⟩
    ·exact fun h=>h.1

theorem Rep.mask (hR:Rep W D R ids own H w) (m:List Bool):Rep (qbR W R ids (zfI m H) w) (znR own m H) R ids (qbS own m H) (zfI m H) w:=by
 refine ⟨rfl,rfl,rfl,Nat.le_refl _,fun b p hb=>?_,fun _ _ _=>rfl,hR.ro,fun p it hp=>?_,fun p hp=>hR.blind p (by rwa [zcY] at hp),fun _ _ h=>h,fun _ _ h=>h,fun p o hp=>?_,fun h=>?_⟩
 ·obtain ⟨h1,h2⟩:=zeI.1 hb
  obtain ⟨g1,g2,g3,_⟩:=hR.owns b p h1
  exact ⟨g1,by rwa [zcY],g3,.inl ⟨p,h1,h2⟩⟩
 ·rw [zfC] at hp
  split at hp
  ·cases hp; trivial
  ·rename_i hh
   refine (hR.items p it hp).mono (fun b=>?_) (fun _ _=>rfl) rfl (fun _ _ e=>e) (fun _ _ e=>e)
   rw [zeI]
   exact ⟨fun h=>⟨h,by simpa using hh⟩,fun h=>h.1⟩
 ·simp only [qbR] at hp
  split at hp
  ·rename_i hg; cases hp; exact ⟨rfl,Item.goneB_eq hg⟩
  ·cases hp
 ·simp only [qbR] at h
  rw [zfC] at h
  split at h
  ·cases h
  ·exact hR.stay h

def okM (m:List Bool) (H:AH):Nat->Bool:=fun q=>Item.goneB (zfI m H)[q]?

theorem Rep.rest (hR:Rep W D R ids own H w) {m:List Bool} (h:Rep (qbR W R ids (zfI m H) w) (znR own m H) R' ids' own' H' w') :
  Rep W D R' ids' (qaO own own' m H) (zbS (okM m H) m H H') w':=by
 have hpin:∀q,Item.goneB (zfI m H)[q]? = true->ids' q=ids q/\H'[q]? = some .gone:=fun q hq=>h.pins q (ids q) (by simp [qbR,hq])
 have hheld:∀q,zb2 m H q=true->Item.goneB (zfI m H)[q]? = true:=fun q hq=>by rw [zfC,if_pos hq]; rfl
 have hkeep:∀b p,own b=some p->zb2 m H p=true->w'.heap[b]? = w.heap[b]?:=fun b p hb hp =>
  h.keep b (hR.owns b p hb).1 (fun ⟨q,hq,hq'⟩=>by rw [hb] at hq; cases hq; rw [hp] at hq'; cases hq')
 have hfresh:∀b q,own' b=some q->∀p,own b=some p->zb2 m H p=true->False:=fun b q hb p hp hh=>by
  rcases (h.owns b q hb).2.2.2 with ⟨p',e,h2⟩ | h2
  ·rw [hp] at e; cases e; rw [hh] at h2; cases h2
  ·have:=(hR.owns b p hp).1
   simp only [qbR] at h2
   omega
 have hrest:∀b p,qaO own own' m H b=some p ↔ (own b=some p/\zb2 m H p=true)\/(own' b=some p/\zb2 m H p=false):=fun b p=>by
  unfold qaO
  cases hb:own b with
  | none=>simp [zeI]
  | some q =>
    by_cases hq:zb2 m H q=true
    ·simp only [if_pos hq,Option.some.injEq]
     constructor
     ·rintro rfl; exact .inl ⟨rfl,hq⟩
     ·rintro (⟨e,_⟩ | ⟨e,_⟩)
      ·exact e
      ·exact (hfresh b p e q hb hq).elim
    ·simp only [if_neg hq,zeI]
     constructor
     ·exact .inr
     ·rintro (⟨e,h2⟩ | h2)
      ·cases e; exact absurd h2 hq
      ·exact h2
 refine ⟨h.os.trans hR.os,h.tape.trans hR.tape,h.output.trans hR.output,Nat.le_trans hR.size h.size,fun b p hb=>?_,fun b hb hd=>?_,h.ro,fun p it hp=>?_,
  fun p hp=>h.blind p (by rwa [zeG] at hp),fun b o hb=>h.low b o (hR.low b o hb),fun b o hb=>?_,fun p o hp=>?_,fun hf=>?_⟩
 ·rw [zeG]
  rcases (hrest b p).1 hb with ⟨h1,h2⟩ | ⟨h1,h2⟩
  ·obtain ⟨g1,g2,g3,g4⟩:=hR.owns b p h1
   refine ⟨Nat.lt_of_lt_of_le g1 h.size,lt_of_some (hpin p (hheld p h2)).2,?_,g4⟩
   cases hx:R' b with
   | none=>rfl
   | some o =>
     have k:=h.high b o hx
     simp only [qbR] at k; rw [g3] at k; cases k
  ·obtain ⟨g1,g2,g3,g4⟩:=h.owns b p h1
   refine ⟨g1,g2,g3,?_⟩
   rcases g4 with ⟨q,k1,_⟩ | g4
   ·exact (hR.owns b q k1).2.2.2
   ·exact .inr (Nat.le_trans hR.size g4)
 ·rw [h.keep b (Nat.lt_of_lt_of_le hb hR.size) (fun ⟨q,k1,_⟩=>?_)]
  ·exact hR.keep b hb hd
  ·rcases (hR.owns b q k1).2.2.2 with k | k
   ·exact hd k
   ·omega
 ·rw [ziV] at hp
  split at hp
  ·rename_i hh
   split at hp
   ·rename_i x it0 hx hit
    cases hp
    refine (hR.items p it0 hit).move (fun b=>?_) (fun b hb=>hkeep b p hb hh) (hpin p (hheld p hh)).1 (fun q hq b hb=>(hpin q hq).1.trans hb) h.low
    rw [hrest]
    exact ⟨fun k => .inl ⟨k,hh⟩,fun k=>by rcases k with k | k; exact k.1; rw [hh] at k; cases k.2⟩
   ·cases hp
  ·rename_i hh
   refine (h.items p it hp).mono (fun b=>?_) (fun _ _=>rfl) rfl (fun _ _ e=>e) (fun _ _ e=>e)
   rw [hrest]
   exact ⟨fun k => .inr ⟨k,by simpa using hh⟩,fun k=>by rcases k with k | k; exact absurd k.2 hh; exact k.1⟩
 ·exact hR.high b o (h.high b o hb)
 ·obtain ⟨k1,k2⟩:=hR.pins p o hp
  have hg:Item.goneB (zfI m H)[p]? = true:=by
   rw [zfC]
   split
   ·rfl
   ·rw [k2]; rfl
  refine ⟨(hpin p hg).1.trans k1,?_⟩
  rw [ziV]
  split
  ·rw [(hpin p hg).2,k2]; rfl
  ·exact (hpin p hg).2
 ·rw [ziV] at hf
  split at hf
  ·split at hf
   ·rename_i hh _ _ x it0 hx hit
    simp only [zb2] at hh
    split at hh
    ·rename_i it1 _ h1
     rw [hit] at h1; cases h1
     cases it0 <;> simp [scrubJ,Item.isFence] at hf hh
    ·cases hh
   ·cases hf
  ·exact h.stay hf

def zgE (R:Nat->Option Obj) (ids:Nat->Option Nat) (Hm:AH) (w:World) (n:Nat) (i0:Nat->Option Nat):Base :=
 { w with R:=R,pins:=fun q=>if Item.goneB Hm[q]? = true then some (ids q) else none,nst:=n,ids0:=i0 }
def unF (it:Item):Item:=match it with
 | .fence => .junk
 | it=>it
theorem qq6 (it:Item):unF it≠.fence:=by cases it <;> simp [unF]
theorem qhZ {S:Nat->Prop} {p:Nat} {it:Item} (h:Sat R ids S w p it):Sat R ids S w p (unF it):=by
 cases it <;> first
  | exact h
  | trivial
def maskK (m:List Bool) (H:AH):AH:=(zfI m H).map unF++[.fence]
theorem zpB {m:List Bool} {q:Nat} (h:q<H.length):(maskK m H)[q]? = if zb2 m H q=true then some Item.gone else H[q]?.map unF:=by
 unfold maskK
 rw [List.getElem?_append_left (by simpa [zcY] using h),List.getElem?_map,zfC]
 split
 ·rfl
 ·rfl
theorem qkS {m:List Bool}:(maskK m H)[H.length]? = some .fence:=by
 unfold maskK
 rw [List.getElem?_append_right (by simp [zcY])]
 simp [zcY]
theorem zi1 {m:List Bool}:(maskK m H).length=H.length+1:=by simp [maskK,zcY]
def restK:List Bool->AH->AH->AH
 | _,[],H'=>H'.map unF
 | true :: m,it :: H,_ :: H'=>it :: restK m H H'
 | false :: m,it :: H,x :: H'=>(match it.isFence with | true=>it | false=>unF x) :: restK m H H'
 | [],it :: H,x :: H'=>(match it.isFence with | true=>it | false=>unF x) :: restK [] H H'
 | _,_ :: _,[]=>[]
theorem zhD:∀(m:List Bool) (H H':AH) (q:Nat),(restK m H H')[q]? = match H'[q]? with
  | none=>none
  | some x=>match H[q]? with
    | none=>some (unF x)
    | some it=>if it.isFence=true\/zb2 m H q=true then some it else some (unF x)
 | m,[],H',q=>by
   have:restK m [] H'=H'.map unF:=by cases m <;> simp [restK]
   rw [this,List.getElem?_map]
   cases H'[q]? <;> simp
 | m,it :: H,[],q=>by
   have:restK m (it :: H) []=[]:=by
    cases m with
    | nil=>rfl
    | cons b m=>cases b <;> rfl
   rw [this]; simp
 | [],it :: H,x :: H',0=>by cases e:it.isFence <;> simp [restK,zb2,e]
 | true :: m,it :: H,x :: H',0=>by cases e:it.isFence <;> simp [restK,zb2,e]
 | false :: m,it :: H,x :: H',0=>by cases e:it.isFence <;> simp [restK,zb2,e]
 | [],it :: H,x :: H',q+1=>by
   have:=zhD [] H H' q
   rw [restK,List.getElem?_cons_succ,List.getElem?_cons_succ,List.getElem?_cons_succ,this]
   simp [zb2]
 | true :: m,it :: H,x :: H',q+1=>by
   rw [restK,List.getElem?_cons_succ,List.getElem?_cons_succ,List.getElem?_cons_succ,zeL]; exact zhD m H H' q
 | false :: m,it :: H,x :: H',q+1=>by
   rw [restK,List.getElem?_cons_succ,List.getElem?_cons_succ,List.getElem?_cons_succ,zeL]; exact zhD m H H' q
theorem ze9:∀(m:List Bool) (H H':AH),(restK m H H').length=H'.length
 | m,[],H'=>by
   have:restK m [] H'=H'.map unF:=by cases m <;> simp [restK]
   rw [this]; simp
 | m,it :: H,[]=>by
   have:restK m (it :: H) []=[]:=by
    cases m with
    | nil=>rfl
    | cons b m=>cases b <;> rfl
   rw [this]
 | [],it :: H,x :: H'=>by simp [restK,ze9 [] H H']
 | true :: m,it :: H,x :: H'=>by simp [restK,ze9 m H H']
 | false :: m,it :: H,x :: H'=>by simp [restK,ze9 m H H']

theorem Rep.maskK (hR:Rep W D R ids own H w) (m:List Bool):Rep (zgE R ids (Sx.maskK m H) w H.length ids) (znR own m H) R ids (qbS own m H) (Sx.maskK m H) w:=by
 refine ⟨rfl,rfl,rfl,Nat.le_refl _,fun b p hb=>?_,fun _ _ _=>rfl,hR.ro,fun p it hp=>?_,fun p hp=>hR.blind p (by rw [zi1] at hp; omega),fun _ _ h=>h,fun _ _ h=>h,fun p o hp=>?_,fun _ _ _=>rfl⟩
 ·obtain ⟨h1,h2⟩:=zeI.1 hb
  obtain ⟨g1,g2,g3,_⟩:=hR.owns b p h1
  exact ⟨g1,by rw [zi1]; omega,g3,.inl ⟨p,h1,h2⟩⟩
 ·rcases Nat.lt_trichotomy p H.length with hlt | heq | hgt
  ·rw [zpB hlt] at hp
   split at hp
   ·cases hp; trivial
   ·rename_i hh
    cases hx:H[p]? with
    | none=>rw [hx] at hp; cases hp
    | some x =>
      rw [hx] at hp
      cases hp
      refine qhZ ((hR.items p x hx).mono (fun b=>?_) (fun _ _=>rfl) rfl (fun _ _ e=>e) (fun _ _ e=>e))
      rw [zeI]
      exact ⟨fun h=>⟨h,by simpa using hh⟩,fun h=>h.1⟩
  ·subst heq
   rw [qkS] at hp; cases hp; trivial
  ·rw [List.getElem?_eq_none (by rw [zi1]; omega)] at hp; cases hp
 ·simp only [zgE] at hp
  split at hp
  ·rename_i hg; cases hp; exact ⟨rfl,Item.goneB_eq hg⟩
  ·cases hp

theorem Rep.restK (hR:Rep W D R ids own H w) {m:List Bool} (h:Rep (zgE R ids (Sx.maskK m H) w H.length ids) (znR own m H) R' ids' own' H' w') (hf:H'[H.length]? = some .fence) :
  Rep W D R' ids' (qaO own own' m H) (Sx.restK m H H') w':=by
 have hid:∀q,q<H.length->ids' q=ids q:=fun q hq=>h.stay hf q hq
 have hpin:∀q,Item.goneB (Sx.maskK m H)[q]? = true->H'[q]? = some Item.gone:=fun q hq=>(h.pins q (ids q) (by simp [zgE,hq])).2
 have hhl:∀q,zb2 m H q=true->q<H.length:=fun q hq=>by
  unfold zb2 at hq
  split at hq
  ·rename_i e; exact lt_of_some e
  ·cases hq
 have hheld:∀q,zb2 m H q=true->Item.goneB (Sx.maskK m H)[q]? = true:=fun q hq=>by rw [zpB (hhl q hq),if_pos hq]; rfl
 have hkeep:∀b p,own b=some p->zb2 m H p=true->w'.heap[b]? = w.heap[b]?:=fun b p hb hp =>
  h.keep b (hR.owns b p hb).1 (fun ⟨q,hq,hq'⟩=>by rw [hb] at hq; cases hq; rw [hp] at hq'; cases hq')
 have hfresh:∀b q,own' b=some q->∀p,own b=some p->zb2 m H p=true->False:=fun b q hb p hp hh=>by
  rcases (h.owns b q hb).2.2.2 with ⟨p',e,h2⟩ | h2
  ·rw [hp] at e; cases e; rw [hh] at h2; cases h2
  ·have:=(hR.owns b p hp).1
   simp only [zgE] at h2
   omega
 have hrest:∀b p,qaO own own' m H b=some p ↔ (own b=some p/\zb2 m H p=true)\/(own' b=some p/\zb2 m H p=false):=fun b p=>by
  unfold qaO
  cases hb:own b with
  | none=>simp [zeI]
  | some q =>
    by_cases hq:zb2 m H q=true
    ·simp only [if_pos hq,Option.some.injEq]
     constructor
     ·rintro rfl; exact .inl ⟨rfl,hq⟩
     ·rintro (⟨e,_⟩ | ⟨e,_⟩)
      ·exact e
      ·exact (hfresh b p e q hb hq).elim
    ·simp only [if_neg hq,zeI]
     constructor
     ·exact .inr
     ·rintro (⟨e,h2⟩ | h2)
      ·cases e; exact absurd h2 hq
      ·exact h2
 have hn:∀(q:Nat) (it:Item),(Sx.restK m H H')[q]? = some it->it=Item.fence->H[q]? = some Item.fence:=fun q it hq e=>by
  subst e
  rw [zhD] at hq
  split at hq
  ·cases hq
  ·rename_i x hx
   split at hq
   ·exact absurd (Option.some.inj hq) (qq6 x)
   ·rename_i it hit
    split at hq
    ·cases hq; exact hit
    ·exact absurd (Option.some.inj hq) (qq6 x)
 refine ⟨h.os.trans hR.os,h.tape.trans hR.tape,h.output.trans hR.output,Nat.le_trans hR.size h.size,fun b p hb=>?_,fun b hb hd=>?_,h.ro,fun p it hp=>?_,
  fun p hp=>h.blind p (by rwa [ze9] at hp),fun b o hb=>h.low b o (hR.low b o hb),fun b o hb=>?_,fun p o hp=>?_,fun hf' q hq=>?_⟩
 ·rw [ze9]
  rcases (hrest b p).1 hb with ⟨h1,h2⟩ | ⟨h1,h2⟩
  ·obtain ⟨g1,g2,g3,g4⟩:=hR.owns b p h1
   refine ⟨Nat.lt_of_lt_of_le g1 h.size,lt_of_some (hpin p (hheld p h2)),?_,g4⟩
   cases hx:R' b with
   | none=>rfl
   | some o =>
     have k:=h.high b o hx
     simp only [zgE] at k; rw [g3] at k; cases k
  ·obtain ⟨g1,g2,g3,g4⟩:=h.owns b p h1
   refine ⟨g1,g2,g3,?_⟩
   rcases g4 with ⟨q,k1,_⟩ | g4
   ·exact (hR.owns b q k1).2.2.2
   ·exact .inr (Nat.le_trans hR.size g4)
 ·rw [h.keep b (Nat.lt_of_lt_of_le hb hR.size) (fun ⟨q,k1,_⟩=>?_)]
  ·exact hR.keep b hb hd
  ·rcases (hR.owns b q k1).2.2.2 with k | k
   ·exact hd k
   ·omega
 ·rw [zhD] at hp
  split at hp
  ·cases hp
  ·rename_i x hx
   have mk:zb2 m H p=false->Sat R' ids' (fun b=>qaO own own' m H b=some p) w' p (unF x):=fun hh =>
    qhZ ((h.items p x hx).mono (fun b=>by
     rw [hrest]
     exact ⟨fun k => .inr ⟨k,hh⟩,fun k=>by rcases k with k | k; rw [hh] at k; cases k.2; exact k.1⟩) (fun _ _=>rfl) rfl (fun _ _ e=>e) (fun _ _ e=>e))
   split at hp
   ·rename_i hit
    cases hp
    refine mk ?_
    unfold zb2
    rw [hit]
    cases m[p]? with
    | none=>rfl
    | some b=>cases b <;> rfl
   ·rename_i it0 hit
    split at hp
    ·rename_i hc
     cases hp
     rcases hc with hc | hc
     ·cases it <;> simp [Item.isFence] at hc; trivial
     ·have hlt:=hhl p hc
      refine (hR.items p it hit).mono (fun b=>?_) (fun b hb=>hkeep b p hb hc) (hid p hlt) (fun q b hb=>?_) h.low
      ·rw [hrest]
       exact ⟨fun k => .inl ⟨k,hc⟩,fun k=>by rcases k with k | k; exact k.1; rw [hc] at k; cases k.2⟩
      ·have hql:q<H.length:=by
        rcases Nat.lt_or_ge q H.length with k | k
        ·exact k
        ·rw [hR.blind q k] at hb; cases hb
       rw [hid q hql]; exact hb
    ·rename_i hc
     cases hp
     exact mk (by
      cases e:zb2 m H p with
      | false=>rfl
      | true=>exact absurd (.inr e) hc)
 ·exact hR.high b o (h.high b o hb)
 ·obtain ⟨k1,k2⟩:=hR.pins p o hp
  have hlt:=lt_of_some k2
  have hg:Item.goneB (Sx.maskK m H)[p]? = true:=by
   rw [zpB hlt]
   split
   ·rfl
   ·rw [k2]; rfl
  refine ⟨(hid p hlt).trans k1,?_⟩
  rw [zhD,hpin p hg,k2]
  simp only
  split
  ·rfl
  ·rfl
 ·have hf2:=hn _ _ hf' rfl
  have hql:=Nat.lt_trans hq (lt_of_some hf2)
  rw [hid q hql]
  exact hR.stay hf2 q hq

theorem Rep.only (hR:Rep W D R ids own H w) (m:List Bool):View R ids own (zeZ m H) w :=
 ⟨hR.ro,fun p it hp=>by
  rcases onlyL_get m H p it hp with rfl | ⟨_,h⟩
  ·trivial
  ·exact hR.items p it h⟩

theorem Rep.agr (hR:Rep W D R ids own H w) {m:List Bool} {w2:World} (h:∀b,b<w.heap.size->¬znR own m H b->w2.heap[b]? = w.heap[b]?):Agr R own (zeZ m H) w w2:=by
 refine ⟨fun b o hb=>?_,fun b p it hb hp hg=>?_⟩
 ·have hw:=hR.ro b o hb
  rw [h b (lt_of_some' hw) (fun ⟨q,k,_⟩=>by have:=(hR.owns b q k).2.2.1; rw [hb] at this; cases this)]
  exact hw
 ·rcases onlyL_get m H p it hp with rfl | ⟨k,_⟩
  ·cases hg
  ·exact h b (hR.owns b p hb).1 (fun ⟨q,k1,k2⟩=>by rw [hb] at k1; cases k1; rw [k] at k2; cases k2)
where lt_of_some' {a:Array Obj} {i:Nat} {x:Obj} (h:a[i]? = some x):i<a.size:=(Array.getElem?_eq_some_iff.1 h).1

end Go.Sx
