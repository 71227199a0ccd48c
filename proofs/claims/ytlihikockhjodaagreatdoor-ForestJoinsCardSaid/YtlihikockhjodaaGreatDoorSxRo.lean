import Derived.Test.YtlihikockhjodaaGreatDoorSxO

namespace Go.Sx
variable {W W':Base} {D D':Nat->Prop} {R R':Nat->Option Obj} {ids ids' own own':Nat->Option Nat} {P:Program} {tb:TB} {sp:SP} {w w':World} {H H':AH}

def zqH (ρ:Nat->Option Nat) (a:AV):AV:=match a with
 | .ptr p path off=>match ρ p with
   | some q => .ptr q path off
   | none => .cell
 | .sl p path off es lo n cap=>match ρ p with
   | some q => .sl q path off es lo n cap
   | none => .cell
 | .agg _ => .any
 | .tup _ => .any
 | a=>a
def renA (ρ:Nat->Option Nat):Nat->AV->AV
 | 0,a=>zqH ρ a
 | k+1,a=>match a with
   | .agg l => .agg (l.map (zqH ρ))
   | .tup l => .tup (l.map (renA ρ k))
   | a=>zqH ρ a
def renI (ρ:Nat->Option Nat):Item->Item
 | .cells T l => .cells T (l.map (zqH ρ))
 | it=>it

theorem qjI {ρ:Nat->Option Nat} {a:AV} (h:a.one=true):(zqH ρ a).one=true:=by
 cases a with
 | ptr p path off=>simp only [zqH]; cases ρ p <;> rfl
 | sl p path off es lo n cap=>simp only [zqH]; cases ρ p <;> rfl
 | agg=>simp [AV.one] at h
 | tup=>simp [AV.one] at h
 | _=>exact h

theorem zu0 {ρ:Nat->Option Nat} (hi:∀q p b,ρ q=some p->ids q=some b->ids' p=some b) {a:AV} {v:Value} (h:V R ids a v):V R ids' (zqH ρ a) v:=by
 cases h with
 | any=>exact .any _
 | cell _ h=>exact .cell _ h
 | fn f=>exact .fn f
 | int k n=>exact .int k n
 | bool b=>exact .bool b
 | str l h=>exact .str l h
 | nilp=>exact .nilp
 | nils=>exact .nils
 | ptr p path off b hb =>
   simp only [zqH]
   split
   ·rename_i q hq; exact .ptr q path off b (hi _ _ _ hq hb)
   ·exact .cell _ rfl
 | rp segs off b o cs h3 h4=>exact .rp segs off b o cs h3 h4
 | sl p path off es lo n cap a h1 h2 h3 =>
   simp only [zqH]
   split
   ·rename_i q hq; exact .sl q path off es lo n cap a (fun hc=>let ⟨b,hb,e⟩:=h1 hc; ⟨b,hi _ _ _ hq hb,e⟩) h2 h3
   ·exact .cell _ rfl
 | ro es n f b o cap cs h3 h4 h5 h6 h7=>exact .ro es n f b o cap cs h3 h4 h5 h6 h7
 | ro0 es f a cap hc=>exact .ro0 es f a cap hc
 | agg l cs hc=>exact .any _
 | tup l cs hc=>exact .any _

theorem znE {ρ:Nat->Option Nat} (hi:∀q p b,ρ q=some p->ids q=some b->ids' p=some b):∀{l:List AV} {vs:List Value},Vs R ids l vs->Vs R ids' (l.map (zqH ρ)) vs
 | _,_,.nil => .nil
 | _,_,.one a v as vs h1 h2 h3 => .one _ v _ vs (qjI h1) (zu0 hi h2) (znE hi h3)
 | _,_,.arr es n f cs as ws vs h1 h2 h3 h4 => .arr es n f cs _ ws vs h1 h2 h3 (znE hi h4)

theorem Ts.mapA {g:AV->AV} (hg:∀a v,V R ids a v->V R ids' (g a) v):∀{l:List AV} {vs:List Value},Ts R ids l vs->Ts R ids' (l.map g) vs
 | _,_,.nil => .nil
 | _,_,.cons a v as vs h1 h2 => .cons _ v _ vs (hg a v h1) (h2.mapA hg)

theorem zuZ {ρ:Nat->Option Nat} (hi:∀q p b,ρ q=some p->ids q=some b->ids' p=some b):∀(k:Nat) {a:AV} {v:Value},V R ids a v->V R ids' (renA ρ k a) v
 | 0,a,v,h=>zu0 hi h
 | k+1,a,v,h=>by
   have h0:=zu0 hi h
   cases h with
   | agg l cs hc=>exact .agg _ cs (znE hi hc)
   | tup l vs hc =>
     exact .tup _ vs (hc.mapA (fun a v h=>zuZ hi k h))
   | _=>exact h0

def plA:AV->Bool
 | .ro .. | .rp .. | .agg _ | .tup _ | .arr ..=>false
 | _=>true
def plG (g:List AV->Prop):List AV->Prop
 | []=>True
 | a :: r=>match a with
   | .arr _ n f=>(∀i,i<n->g (f i))/\plG g r
   | a=>plA a=true/\plG g r
def plL:Nat->List AV->Prop
 | 0=>plG (fun _=>False)
 | k+1=>plG (plL k)
def plT (g:AV->Prop):List AV->Prop
 | []=>True
 | a :: r=>g a/\plT g r
def plV0 (a:AV):Prop:=match a with
 | .agg l=>plL 3 l
 | a=>plA a=true
def plV:Nat->AV->Prop
 | 0,a=>plV0 a
 | k+1,a=>match a with
   | .tup l=>plT (plV k) l
   | a=>plV0 a
def plI:Item->Prop
 | .cells _ l=>plL 3 l
 | .row _ es _ n f=>plL 3 [.arr es n f]
 | .view es n f=>plL 3 [.arr es n f]
 | _=>True
def plH:AH->Prop
 | []=>True
 | it :: r=>plI it/\plH r

theorem qrG {a:AV} {v:Value} (h:V R ids a v) (hp:plA a=true):V R' ids a v:=by
 cases h <;> first
  | (simp [plA] at hp; done)
  | (constructor <;> assumption)

theorem qrF {g:List AV->Prop} (hg:∀{l:List AV} {vs:List Value},g l->Vs R noIds l vs->Vs R' noIds l vs) {ids:Nat->Option Nat}:∀{l:List AV} {vs:List Value},plG g l->Vs R ids l vs->Vs R' ids l vs:=by
 intro l vs hp h
 induction l generalizing vs with
 | nil=>cases h; exact .nil
 | cons x r ih =>
   cases h with
   | one _ v _ vs h1 h2 h3 =>
     have hp':plA x=true/\plG g r:=by
      cases x <;> first
       | exact hp
       | (simp [AV.one] at h1; done)
     exact .one x v r vs h1 (qrG h2 hp'.1) (ih hp'.2 h3)
   | arr es n f cs _ ws vs h1 h2 h3 h4=>exact .arr es n f cs r ws vs h1 h2 (fun i hi=>hg (hp.1 i hi) (h3 i hi)) (ih hp.2 h4)

theorem zx6:∀{k:Nat} {ids:Nat->Option Nat} {l:List AV} {vs:List Value},plL k l->Vs R ids l vs->Vs R' ids l vs
 | 0,_,_,_,hp,h=>qrF (g:=fun _=>False) (fun h _=>h.elim) hp h
 | k+1,_,_,_,hp,h=>qrF (g:=plL k) (fun hp h=>zx6 (k:=k) hp h) hp h

theorem qkB {a:AV} {v:Value} (hp:plV0 a) (h:V R ids a v):V R' ids a v:=by
 unfold plV0 at hp
 split at hp
 ·cases h with
  | agg _ cs hc=>exact .agg _ cs (zx6 hp hc)
 ·exact qrG h hp
theorem plT_ok {g:AV->Prop} (hg:∀{a:AV} {v:Value},g a->V R ids a v->V R' ids a v):∀{l:List AV} {vs:List Value},plT g l->Ts R ids l vs->Ts R' ids l vs:=by
 intro l vs hp h
 induction l generalizing vs with
 | nil=>cases h; exact .nil
 | cons x r ih =>
   cases h with
   | cons _ v _ vs h1 h2=>exact .cons x v r vs (hg hp.1 h1) (ih hp.2 h2)
theorem qdY:∀{k:Nat} {ids:Nat->Option Nat} {a:AV} {v:Value},plV k a->V R ids a v->V R' ids a v
 | 0,ids,a,v,hp,h=>qkB hp h
 | k+1,ids,a,v,hp,h=>by
   unfold plV at hp
   split at hp
   ·cases h with
    | tup l vs hc =>
      exact .tup _ vs (plT_ok (fun hp h=>qdY (k:=k) hp h) hp hc)
   ·exact qkB hp h

theorem qkC {it:Item} {S:Nat->Prop} {p:Nat} (h:plI it) (hs:Sat R ids S w p it):Sat R' ids S w p it:=by
 cases it with
 | cells T l=>obtain ⟨b,cs,h1,h2,h3,h4⟩:=hs; exact ⟨b,cs,h1,h2,h3,zx6 h h4⟩
 | row T es cap n f =>
   rcases hs with h0 | ⟨b,cur,h1,h2,h3,h4,h5,h6,h7⟩
   ·exact .inl h0
   ·exact .inr ⟨b,cur,h1,h2,h3,h4,h5,h6,zx6 h h7⟩
 | view es n f=>obtain ⟨b,cur,T,fr,h1,h2,h3,h4,h5⟩:=hs; exact ⟨b,cur,T,fr,h1,h2,h3,h4,zx6 h h5⟩
 | obj A=>exact hs
 | gone=>trivial
 | junk=>trivial
 | fence=>trivial

def inT:List Nat->Nat->Bool
 | [],_=>false
 | q :: r,p=>Nat.beq q p || inT r p
theorem zg0:∀{τ:List Nat} {p:Nat},inT τ p=true ↔ ∃q:Nat,τ[q]? = some p
 | [],p=>by simp [inT]
 | x :: r,p=>by
   have ih:=zg0 (τ:=r) (p:=p)
   simp only [inT,Bool.or_eq_true,ih]
   constructor
   ·rintro (h | ⟨q,h⟩)
    ·exact ⟨0,by rw [Nat.eq_of_beq_eq_true h]; rfl⟩
    ·exact ⟨q+1,by simpa using h⟩
   ·rintro ⟨q,h⟩
    cases q with
    | zero=>simp at h; subst h; exact .inl (by simp)
    | succ q=>exact .inr ⟨q,by simpa using h⟩

def convR (conv:Bool) (R:Nat->Option Obj) (own:Nat->Option Nat) (τ:List Nat) (w:World):Nat->Option Obj:=fun b=>match R b,conv,own b with
 | some o,_,_=>some o
 | none,true,some p=>if inT τ p=true then none else w.heap[b]?
 | _,_,_=>none

theorem zfR {conv:Bool} {τ:List Nat} {b:Nat} {o:Obj} (h:R b=some o):convR conv R own τ w b=some o:=by simp [convR,h]

theorem Reads.ro {A:World->Prop} {es n:Nat} {f:Nat->List AV} {v:Value} {Rc:Nat->Option Obj} (h:Reads R A es n f v) (hr:∀b o,R b=some o->Rc b=some o)
  (hA:∀w2:World,(∀b o,Rc b=some o->w2.heap[b]? = some o)->A w2) (hw:∀b o,Rc b=some o->w.heap[b]? = some o):V Rc ids' (.ro es n f) v:=by
 obtain ⟨a,cap,rfl,h1,h2,h3⟩:=h
 rcases h3 with rfl | ⟨b,o,cs,rfl,g1,g2,g3⟩
 ·exact .ro0 es f a cap h2
 ·refine .ro es n f b o cap cs h1 h2 g1 (fun i hi j hj=>?_) (fun i hi=>(g3 i hi).into (fun _ _ e=>e) hr)
  let w2:World:={ w with heap:=w.heap.mapIdx fun k x=>if (Rc k).isSome then x else .cells #[] 0 (0,0) }
  have e:=g2 w2 (hA w2 fun k x hk=>by simp [w2,hw k x hk,hk]) i hi j hj
  have hlt:j<(cs i).length:=by rw [g1 i hi]; exact hj
  rw [List.getElem?_eq_getElem hlt] at e ⊢
  simp only [World.cell?,w2,Array.getElem?_mapIdx] at e
  cases hb:Rc b with
  | none =>
    rw [hb] at e
    cases hx:w.heap[b]? with
    | none=>rw [hx] at e; simp at e
    | some x=>rw [hx] at e; simp at e
  | some x =>
    rw [hw b x hb] at e
    simp only [hb,Option.map_some,Option.isSome_some,if_true] at e
    unfold rcell
    rw [hb]
    cases x <;> simp_all

end Go.Sx


namespace Go.Sx
variable {W W':Base} {D D':Nat->Prop} {R R':Nat->Option Obj} {ids ids' own own':Nat->Option Nat} {P:Program} {tb:TB} {sp:SP} {w w':World} {H H':AH}

abbrev zcK (τ:List Nat):Ren:=τ.map some

theorem zd3 {τ:List Nat} {q p:Nat}:(zcK τ)[q]? = some (some p) ↔ τ[q]? = some p:=by
 rw [List.getElem?_map]
 cases τ[q]? <;> simp

def inW (Rc:Nat->Option Obj) (τ:List Nat) (ids:Nat->Option Nat) (w:World):Base :=
 { w with R:=Rc,pins:=fun _=>none,nst:=τ.length,ids0:=zbL (zcK τ) ids }
def inD (own:Nat->Option Nat) (τ:List Nat):Nat->Prop:=fun b=>∃p,own b=some p/\inT τ p=true

theorem zuB (hR:Rep W D R ids own H w) {conv:Bool} {τ:List Nat} {b:Nat} {o:Obj} (h:convR conv R own τ w b=some o):w.heap[b]? = some o:=by
 cases hr:R b with
 | some x=>simp [convR,hr] at h; subst h; exact hR.ro b x hr
 | none =>
   cases conv with
   | false=>simp [convR,hr] at h
   | true =>
     cases ho:own b with
     | none=>simp [convR,hr,ho] at h
     | some p =>
       simp only [convR,hr,ho] at h
       split at h
       ·cases h
       ·exact h

theorem qmM (hR:Rep W D R ids own H w) {conv:Bool} {τ:List Nat} {b p:Nat} (h:own b=some p) (ht:inT τ p=true):convR conv R own τ w b=none:=by
 have:=(hR.owns b p h).2.2.1
 cases conv <;> simp [convR,this,h,ht]

theorem Rep.enter (hR:Rep W D R ids own H w) (conv:Bool) {τ:List Nat} {Hx:AH} (hn:zdQ (zcK τ)=true) (hl:τ.length=Hx.length) (hf:fitH (zcK τ) H 0 Hx) :
  Rep (inW (convR conv R own τ w) τ ids w) (inD own τ) (convR conv R own τ w) (zbL (zcK τ) ids) (zhE (zcK τ) own) (Hx++[.fence]) w:=by
 have hown:∀b q,zhE (zcK τ) own b=some q ↔ ∃p,own b=some p/\τ[q]? = some p:=fun b q=>by
  unfold zhE
  cases e:own b with
  | none=>simp
  | some p =>
    simp only [zdO hn,zd3,Option.some.injEq]
    exact ⟨fun h=>⟨p,rfl,h⟩,fun ⟨p',e',h⟩=>by subst e'; exact h⟩
 refine ⟨rfl,rfl,rfl,Nat.le_refl _,fun b q hb=>?_,fun _ _ _=>rfl,fun b o hb=>zuB hR hb,fun q it hq=>?_,fun q hq=>?_,fun _ _ h=>h,fun _ _ h=>h,fun _ _ h=>by simp [inW] at h,fun _ q _=>rfl⟩
 ·obtain ⟨p,h1,h2⟩:=(hown b q).1 hb
  have ht:inT τ p=true:=zg0.2 ⟨q,h2⟩
  refine ⟨(hR.owns b p h1).1,?_,qmM hR h1 ht,.inl ⟨p,h1,ht⟩⟩
  have:=lt_of_some h2
  simp; omega
 ·rcases Nat.lt_or_ge q Hx.length with hlt | hge
  ·rw [List.getElem?_append_left hlt] at hq
   have h:=zrQ hf hq
   rw [Nat.zero_add] at h
   unfold qg5 at h
   split at h
   ·rename_i hf; cases it <;> simp [Item.isFence] at hf; trivial
   split at h
   ·rename_i p hp
    split at h
    ·rename_i it0 h0
     have hs:=(hR.items p it0 h0).mono (R':=convR conv R own τ w) (fun _=>Iff.rfl) (fun _ _=>rfl) rfl (fun _ _ e=>e) (fun _ _ e=>zfR e)
     refine qcB h hs (fun b=>?_) (by simp [zbL,hp])
     rw [hown]
     exact ⟨fun k=>⟨p,k,zd3.1 hp⟩,fun ⟨p',k,k2⟩=>by rw [zd3.1 hp] at k2; cases k2; exact k⟩
    ·exact h.elim
   ·rename_i hp
    rw [List.getElem?_map] at hp
    cases hq':τ[q]? <;> rw [hq'] at hp <;> simp at hp
   ·exact h.elim
  ·rw [List.getElem?_append_right hge] at hq
   cases hk:q-Hx.length with
   | zero=>rw [hk] at hq; simp at hq; subst hq; trivial
   | succ j=>rw [hk] at hq; simp at hq
 ·simp at hq
  simp [zbL,List.getElem?_eq_none (show τ.length <= q by omega)]

def ze8:AH->List Nat->AH->AH
 | H,p :: τ,it :: r=>ze8 (H.set p it) τ r
 | H,_,_=>H

theorem zbV:∀(H:AH) (τ:List Nat) (r:AH),(ze8 H τ r).length=H.length
 | H,[],_=>by simp [ze8]
 | H,p :: τ,[]=>by simp [ze8]
 | H,p :: τ,it :: r=>by rw [ze8,zbV]; simp

theorem zdJ:∀{H:AH} {τ:List Nat} {r:AH} {p:Nat},inT τ p=false->(ze8 H τ r)[p]? = H[p]?
 | H,[],_,p,_=>by simp [ze8]
 | H,q :: τ,[],p,_=>by simp [ze8]
 | H,q :: τ,it :: r,p,h=>by
   simp only [inT,Bool.or_eq_false_iff] at h
   rw [ze8,zdJ h.2,List.getElem?_set_ne (fun e=>by subst e; simp at h)]

theorem zrE:∀{τ:List Nat} {p:Nat},hasR (zcK τ) p=false->inT τ p=false
 | [],p,_=>rfl
 | q :: τ,p,h=>by
   simp only [zcK,List.map_cons,hasR,Bool.or_eq_false_iff] at h
   simp only [inT,Bool.or_eq_false_iff]
   exact ⟨h.1,zrE h.2⟩

theorem ziQ:∀{H:AH} {τ:List Nat} {r:AH} {q p:Nat},zdQ (zcK τ)=true->τ[q]? = some p->p<H.length->q<r.length->(ze8 H τ r)[p]? = r[q]?
 | H,[],_,q,p,_,h,_,_=>by simp at h
 | H,x :: τ,[],q,p,_,h,_,hl=>by simp at hl
 | H,x :: τ,it :: r,0,p,hn,h,hp,hl=>by
   simp at h; subst h
   simp only [zcK,List.map_cons,zdQ,Bool.and_eq_true,Bool.not_eq_true'] at hn
   rw [ze8,zdJ (zrE hn.1),List.getElem?_set_self hp]; rfl
 | H,x :: τ,it :: r,q+1,p,hn,h,hp,hl=>by
   simp only [zcK,List.map_cons,zdQ,Bool.and_eq_true,Bool.not_eq_true'] at hn
   rw [ze8,ziQ (q:=q) hn.2 (by simpa using h) (by simpa using hp) (by simpa using hl)]
   simp

def outR (τ:List Nat) (hl:Nat):Nat->Option Nat:=fun q=>match τ[q]? with
 | some p=>some p
 | none=>match Nat.blt τ.length q with
   | true=>some (hl+(q-(τ.length+1)))
   | false=>none

def zrB (H:AH) (τ:List Nat) (its new:AH):AH:=ze8 H τ (its.map (renI (outR τ H.length)))++new.map (renI (outR τ H.length))

def zi7 (H:AH):List Nat->Bool
 | []=>true
 | p :: r=>(match H[p]? with
   | some .gone=>false
   | some .fence=>false
   | some _=>true
   | none=>false)&&zi7 H r
theorem zeS:∀{τ:List Nat},zi7 H τ=true->∀{q p:Nat},τ[q]? = some p->p<H.length/\H[p]?≠some .gone/\H[p]?≠some .fence
 | [],_,q,p,h=>by simp at h
 | x :: r,hg,0,p,h=>by
   simp at h; subst h
   simp only [zi7,Bool.and_eq_true] at hg
   have hg:=hg.1
   split at hg
   ·cases hg
   ·cases hg
   ·rename_i it e1 e2 e
    exact ⟨lt_of_some e,by rw [e]; intro k; cases k; exact e1 rfl,by rw [e]; intro k; cases k; exact e2 rfl⟩
   ·cases hg
 | x :: r,hg,q+1,p,h=>by
   simp only [zi7,Bool.and_eq_true] at hg
   exact zeS hg.2 (q:=q) (by simpa using h)

def noF:AH->Bool
 | []=>true
 | it :: r=>!it.isFence&&noF r
theorem zq1:∀{H:AH},noF H=true->∀{q:Nat},H[q]?≠some .fence
 | [],_,q,h=>by simp at h
 | x :: r,hn,0,h=>by simp at h; subst h; simp [noF,Item.isFence] at hn
 | x :: r,hn,q+1,h=>by
   simp only [noF,Bool.and_eq_true] at hn
   exact zq1 hn.2 (q:=q) (by simpa using h)

theorem Sat.out {ρ:Nat->Option Nat} {S S':Nat->Prop} {p q:Nat} {it:Item} (h:Sat R ids S w q it) (hS:∀b,S b ↔ S' b) (hp:ids' p=ids q)
  (hi:∀q p b,ρ q=some p->ids q=some b->ids' p=some b):Sat R ids' S' w p (renI ρ it):=by
 obtain rfl:S=S':=funext fun b=>propext (hS b)
 cases it with
 | cells T l =>
   obtain ⟨b,cs,h1,h2,h3,h4⟩:=h
   exact ⟨b,cs,hp.trans h1,h2,h3,znE hi h4⟩
 | row T es cap n f =>
   rcases h with ⟨h1,h2,h3⟩ | ⟨b,cur,h1,h2,h3,h4,h5,h6,h7⟩
   ·exact .inl ⟨hp.trans h1,h2,h3⟩
   ·exact .inr ⟨b,cur,hp.trans h1,h2,h3,h4,h5,h6,znE hi h7⟩
 | view es n f =>
   obtain ⟨b,cur,T,fr,h1,h2,h3,h4,h5⟩:=h
   exact ⟨b,cur,T,fr,hp.trans h1,h2,h3,h4,znE hi h5⟩
 | obj A =>
   obtain ⟨b,h1,h2,h3⟩:=h
   exact ⟨b,hp.trans h1,h2,h3⟩
 | gone=>trivial
 | junk=>trivial
 | fence=>trivial

theorem zvH:∀{H:AH},plH H->∀{q:Nat} {it:Item},H[q]? = some it->plI it
 | [],_,q,it,h=>by simp at h
 | x :: r,hp,0,it,h=>by simp at h; subst h; exact hp.1
 | x :: r,hp,q+1,it,h=>zvH hp.2 (q:=q) (by simpa using h)

def outI (ids ids':Nat->Option Nat) (n hl:Nat):Nat->Option Nat:=fun p=>if p<hl then ids p else ids' (p-hl+(n+1))
def outO (own own':Nat->Option Nat) (τ:List Nat) (hl:Nat):Nat->Option Nat:=fun b=>match own b with
 | some p=>if inT τ p=true then (own' b).bind (outR τ hl) else some p
 | none=>(own' b).bind (outR τ hl)
def outRO (conv:Bool) (R R':Nat->Option Obj):Nat->Option Obj:=match conv with
 | true=>R
 | false=>R'

section
variable {τ:List Nat} {conv:Bool} {its new:AH}

theorem outR_some {q p hl:Nat} (h:outR τ hl q=some p):τ[q]? = some p\/(τ.length<q/\p=hl+(q-(τ.length+1))):=by
 unfold outR at h
 split at h
 ·rename_i e; cases h; exact .inl e
 ·split at h
  ·rename_i e; cases h; exact .inr ⟨by simpa using e,rfl⟩
  ·cases h

theorem zvJ (hg:zi7 H τ=true) (hl:its.length=τ.length) (h:Rep (inW (convR conv R own τ w) τ ids w) (inD own τ) R' ids' own' (its ++ .fence :: new) w') :
  ∀q p b,outR τ H.length q=some p->ids' q=some b->outI ids ids' τ.length H.length p=some b:=by
 intro q p b hq hb
 rcases outR_some hq with e | ⟨e,rfl⟩
 ·have hp:=(zeS hg e).1
  have hqn:=lt_of_some e
  have:=h.stay (by simp [inW,<- hl]) q hqn
  simp only [inW,zbL,zd3.2 e] at this
  simp [outI,hp,<- this,hb]
 ·simp only [outI,if_neg (show ¬H.length+(q-(τ.length+1))<H.length by omega)]
  rw [show H.length+(q-(τ.length+1))-H.length+(τ.length+1)=q by omega]
  exact hb

theorem zo8 (hR:Rep W D R ids own H w) {n:Nat}:∀q b,ids q=some b->outI ids ids' n H.length q=some b:=by
 intro q b hb
 have:q<H.length:=by
  rcases Nat.lt_or_ge q H.length with h | h
  ·exact h
  ·rw [hR.blind q h] at hb; cases hb
 simp [outI,this,hb]

theorem zl8 (h:Rep (inW (convR conv R own τ w) τ ids w) (inD own τ) R' ids' own' H' w'):∀b o,R b=some o->outRO conv R R' b=some o:=by
 intro b o hb
 cases conv with
 | true=>exact hb
 | false=>exact h.low b o (zfR hb)

theorem Rep.leave (hR:Rep W D R ids own H w) (hn:zdQ (zcK τ)=true) (hg:zi7 H τ=true) (hl:its.length=τ.length) (hnf:noF its=true) (hnf':noF new=true)
  (hpl:conv=true->plH its/\plH new) (h:Rep (inW (convR conv R own τ w) τ ids w) (inD own τ) R' ids' own' (its ++ .fence :: new) w') :
  Rep W D (outRO conv R R') (outI ids ids' τ.length H.length) (outO own own' τ H.length) (zrB H τ its new) w':=by
 have hids:=zvJ hg hl h
 have hsz:w.heap.size <= w'.heap.size:=h.size
 have hlen:(zrB H τ its new).length=H.length+new.length:=by simp [zrB,zbV]
 have hex:∀b p,own b=some p->inT τ p=false->own' b=none:=fun b p hb hp=>by
  cases ho:own' b with
  | none=>rfl
  | some q =>
    rcases (h.owns b q ho).2.2.2 with ⟨p',e,h2⟩ | k
    ·rw [hb] at e; cases e; rw [hp] at h2; cases h2
    ·have:=(hR.owns b p hb).1
     simp only [inW] at k; omega
 have hin:∀b p,own b=some p->D b\/W.heap.size <= b:=fun b p hb=>(hR.owns b p hb).2.2.2
 have hown:∀b p,outO own own' τ H.length b=some p ↔ (own b=some p/\inT τ p=false)\/∃q,own' b=some q/\outR τ H.length q=some p:=fun b p=>by
  unfold outO
  cases hb:own b with
  | none=>simp [Option.bind_eq_some_iff]
  | some p0 =>
    cases ht:inT τ p0 with
    | true =>
      simp only [ht,if_true,Option.bind_eq_some_iff,Option.some.injEq]
      constructor
      ·exact .inr
      ·rintro (⟨rfl,k⟩ | k)
       ·rw [ht] at k; cases k
       ·exact k
    | false =>
      simp only [ht,Bool.false_eq_true,if_false,Option.some.injEq]
      constructor
      ·rintro rfl; exact .inl ⟨rfl,ht⟩
      ·rintro (⟨k,_⟩ | ⟨q,k,_⟩)
       ·exact k
       ·rw [hex b p0 hb ht] at k; cases k
 have hkeep:∀b,b<w.heap.size->¬inD own τ b->w'.heap[b]? = w.heap[b]?:=h.keep
 have hro:∀b o,outRO conv R R' b=some o->w'.heap[b]? = some o:=fun b o hb=>by
  cases conv with
  | true =>
    have hw:=hR.ro b o hb
    rw [hkeep b (Array.getElem?_eq_some_iff.1 hw).1 (fun ⟨p,e,_⟩=>by have:=(hR.owns b p e).2.2.1; rw [show R b=some o from hb] at this; cases this)]
    exact hw
  | false=>exact h.ro b o hb
 refine ⟨h.os.trans hR.os,h.tape.trans hR.tape,h.output.trans hR.output,Nat.le_trans hR.size hsz,fun b p hb=>?_,fun b hb hd=>?_,hro,fun p it hp=>?_,fun p hp=>?_,
  fun b o hb=>zl8 h b o (hR.low b o hb),fun b o hb=>?_,fun p o hp=>?_,fun hf=>?_⟩
 ·rw [hlen]
  rcases (hown b p).1 hb with ⟨h1,h2⟩ | ⟨q,h1,h2⟩
  ·obtain ⟨g1,g2,g3,g4⟩:=hR.owns b p h1
   refine ⟨by omega,by omega,?_,g4⟩
   cases conv with
   | true=>exact g3
   | false =>
     show R' b=none
     cases hx:R' b with
     | none=>rfl
     | some o =>
       have k:=h.high b o hx
       simp only [inW,convR,g3] at k; cases k
  ·obtain ⟨g1,g2,g3,g4⟩:=h.owns b q h1
   have hlq:q<τ.length+1+new.length:=by simp [hl] at g2; omega
   refine ⟨g1,?_,?_,?_⟩
   ·rcases outR_some h2 with e | ⟨e,rfl⟩
    ·have:=(zeS hg e).1; omega
    ·omega
   ·cases conv with
    | true =>
      show R b=none
      cases hx:R b with
      | none=>rfl
      | some o =>
        have hw:=(Array.getElem?_eq_some_iff.1 (hR.ro b o hx)).1
        rcases g4 with ⟨p',k,_⟩ | k
        ·rw [(hR.owns b p' k).2.2.1] at hx; cases hx
        ·simp only [inW] at k; omega
    | false=>exact g3
   ·rcases g4 with ⟨p',k,_⟩ | k
    ·exact hin b p' k
    ·exact .inr (Nat.le_trans hR.size k)
 ·have hb':b<w.heap.size:=Nat.lt_of_lt_of_le hb hR.size
  rw [hkeep b hb' (fun ⟨p,e,_⟩=>by rcases hin b p e with k | k; exact hd k; omega)]
  exact hR.keep b hb hd
 ·rcases Nat.lt_or_ge p H.length with hlt | hge
  ·have hp':(ze8 H τ (its.map (renI (outR τ H.length))))[p]? = some it:=by
    rw [zrB,List.getElem?_append_left (by rw [zbV]; exact hlt)] at hp; exact hp
   cases ht:inT τ p with
   | false =>
     rw [zdJ ht] at hp'
     refine (hR.items p it hp').mono (fun b=>?_) (fun b hb=>?_) (by simp [outI,hlt]) (zo8 hR) (zl8 h)
     ·rw [hown]
      constructor
      ·exact fun k => .inl ⟨k,ht⟩
      ·rintro (k | ⟨q,_,k⟩)
       ·exact k.1
       ·rcases outR_some k with e | ⟨_,e⟩
        ·rw [zg0.2 ⟨q,e⟩] at ht; cases ht
        ·omega
     ·exact hkeep b (hR.owns b p hb).1 (fun ⟨p',e,k⟩=>by rw [hb] at e; cases e; rw [ht] at k; cases k)
   | true =>
     obtain ⟨q,hq⟩:=zg0.1 ht
     have hqn:=lt_of_some hq
     rw [ziQ (q:=q) hn hq hlt (by simp; omega),List.getElem?_map] at hp'
     cases hi:its[q]? with
     | none=>rw [hi] at hp'; cases hp'
     | some it0 =>
       rw [hi] at hp'
       simp only [Option.map_some,Option.some.injEq] at hp'
       subst hp'
       have hs:=h.items q it0 (by rw [List.getElem?_append_left (by omega)]; exact hi)
       have hs':Sat (outRO conv R R') ids' (fun b=>own' b=some q) w' q it0:=by
        cases conv with
        | true=>exact qkC (zvH (hpl rfl).1 hi) hs
        | false=>exact hs
       refine hs'.out (fun b=>?_) ?_ hids
       ·rw [hown]
        constructor
        ·exact fun k => .inr ⟨q,k,by simp [outR,hq]⟩
        ·rintro (⟨_,k⟩ | ⟨q',k,k2⟩)
         ·rw [ht] at k; cases k
         ·rcases outR_some k2 with e | ⟨_,e⟩
          ·have e1:=(zdO hn).2 (zd3.2 e)
           have e2:=(zdO hn).2 (zd3.2 hq)
           rw [e1] at e2; cases e2; exact k
          ·omega
       ·have:=h.stay (by simp [inW,<- hl]) q hqn
        simp only [inW,zbL,zd3.2 hq] at this
        simp [outI,hlt,this]
  ·rw [zrB,List.getElem?_append_right (by rw [zbV]; exact hge),zbV,List.getElem?_map] at hp
   cases hi:new[p-H.length]? with
   | none=>rw [hi] at hp; cases hp
   | some it0 =>
     rw [hi] at hp
     simp only [Option.map_some,Option.some.injEq] at hp
     subst hp
     have hs:=h.items (p-H.length+(τ.length+1)) it0 (by
      rw [List.getElem?_append_right (by omega),show p-H.length+(τ.length+1)-its.length=(p-H.length)+1 by omega]; simpa using hi)
     have hs':Sat (outRO conv R R') ids' (fun b=>own' b=some (p-H.length+(τ.length+1))) w' (p-H.length+(τ.length+1)) it0:=by
      cases conv with
      | true=>exact qkC (zvH (hpl rfl).2 hi) hs
      | false=>exact hs
     refine hs'.out (fun b=>?_) (by simp [outI,Nat.not_lt.2 hge]) hids
     rw [hown]
     constructor
     ·refine fun k => .inr ⟨_,k,?_⟩
      have:τ[p-H.length+(τ.length+1)]? = none:=List.getElem?_eq_none (by omega)
      have hb:Nat.blt τ.length (p-H.length+(τ.length+1))=true:=by rw [Nat.blt_eq]; omega
      simp only [outR,this,hb,Option.some.injEq]
      omega
     ·rintro (⟨k,_⟩ | ⟨q',k,k2⟩)
      ·have:=(hR.owns b p k).2.1; omega
      ·rcases outR_some k2 with e | ⟨e1,e⟩
       ·have:=(zeS hg e).1; omega
       ·rw [show p-H.length+(τ.length+1)=q' by omega]; exact k
 ·rw [hlen] at hp
  simp only [outI,if_neg (show ¬p<H.length by omega)]
  exact h.blind _ (by simp; omega)
 ·cases conv with
  | true=>exact hR.high b o hb
  | false =>
    have:convR false R own τ w b=some o:=h.high b o hb
    cases hr:R b with
    | none=>simp [convR,hr] at this
    | some x=>simp [convR,hr] at this; subst this; exact hR.high b x hr
 ·obtain ⟨h1,h2⟩:=hR.pins p o hp
  have hlt:=lt_of_some h2
  have ht:inT τ p=false:=by
   cases ht:inT τ p with
   | false=>rfl
   | true=>obtain ⟨q,hq⟩:=zg0.1 ht; exact absurd h2 (zeS hg hq).2.1
  refine ⟨by simp [outI,hlt,h1],?_⟩
  rw [zrB,List.getElem?_append_left (by rw [zbV]; exact hlt),zdJ ht]
  exact h2
 ·have hlt:W.nst<H.length:=by
   rcases Nat.lt_or_ge W.nst H.length with k | k
   ·exact k
   ·rw [zrB,List.getElem?_append_right (by rw [zbV]; exact k),zbV,List.getElem?_map] at hf
    cases hi:new[W.nst-H.length]? with
    | none=>rw [hi] at hf; cases hf
    | some x =>
      rw [hi] at hf
      simp only [Option.map_some,Option.some.injEq] at hf
      have:x = .fence:=by cases x <;> simp [renI] at hf ⊢
      subst this
      exact absurd hi (zq1 hnf')
  have hf':(ze8 H τ (its.map (renI (outR τ H.length))))[W.nst]? = some .fence:=by
   rw [zrB,List.getElem?_append_left (by rw [zbV]; exact hlt)] at hf; exact hf
  have ht:inT τ W.nst=false:=by
   cases ht:inT τ W.nst with
   | false=>rfl
   | true =>
     obtain ⟨q,hq⟩:=zg0.1 ht
     have hqn:=lt_of_some hq
     rw [ziQ (q:=q) hn hq hlt (by simp; omega),List.getElem?_map] at hf'
     cases hi:its[q]? with
     | none=>rw [hi] at hf'; cases hf'
     | some x =>
       rw [hi] at hf'
       simp only [Option.map_some,Option.some.injEq] at hf'
       have:x = .fence:=by cases x <;> simp [renI] at hf' ⊢
       subst this
       exact absurd hi (zq1 hnf)
  rw [zdJ ht] at hf'
  intro q hq
  simp only [outI,if_pos (Nat.lt_trans hq hlt)]
  exact hR.stay hf' q hq

end
end Go.Sx


namespace Go.Sx
variable {W W':Base} {D D':Nat->Prop} {R R':Nat->Option Obj} {ids ids' own own':Nat->Option Nat} {P:Program} {tb:TB} {sp:SP} {w w':World} {H H':AH}

def noR:Nat->Option Obj:=fun _=>none

def Opens (its:AH) (b:Nat) (S:Nat->Prop) (w:World):Prop :=
 ∃(ids own:Nat->Option Nat),ids 0=some b/\(∀x p,own x=some p->S x/\p<its.length)/\(∀p,its.length <= p->ids p=none) /\
  ∀p it,its[p]? = some it->Sat noR ids (fun x=>own x=some p) w p it

theorem Opens.frame {its:AH} {b:Nat} {S:Nat->Prop} (hw:∀x,S x->w'.heap[x]? = w.heap[x]?) (h:Opens its b S w):Opens its b S w':=by
 obtain ⟨ids,own,h0,h1,h2,h3⟩:=h
 exact ⟨ids,own,h0,h1,h2,fun p it hp=>(h3 p it hp).mono (fun _=>Iff.rfl) (fun x hx=>hw x (h1 x p hx).1) rfl (fun _ _ e=>e) (fun _ _ e=>e)⟩

def qfU:AH->Bool
 | .cells .. :: _=>true
 | .obj _ :: _=>true
 | _=>false

structure Up (G:Type) (fam:G->AH) where
 A:Ob
 up:∀b S w,(∃g,Opens (fam g) b S w)->A.holds b S w

structure Opn where
 tag:List (List Int)
 G:Type
 fam:G->AH
 pl:∀g,plH (fam g)
 nf:∀g,noF (fam g)=true
 root:∀g,qfU (fam g)=true
 up:Option (Up G fam):=none

def Opn.ob (o:Opn):Ob where
 tag:=o.tag
 holds:=fun b S w=>∃g,Opens (o.fam g) b S w
 here:=fun _ _ _ _ hw ⟨g,h⟩=>⟨g,h.frame hw⟩

def Opn.out (o:Opn):Ob:=match o.up with
 | none=>o.ob
 | some u=>u.A
theorem Opn.out_ok (o:Opn) {b:Nat} {S:Nat->Prop} {w:World} (h:∃g,Opens (o.fam g) b S w):o.out.holds b S w:=by
 unfold Opn.out
 split
 ·exact h
 ·rename_i u _; exact u.up b S w h

structure OpA where
 tag:List (List Int)
 alts:List Opn
 peek:List AV:=[]
 pk:peek=[]\/(peek.all AV.flat=true/\∀q∈alts,∀g,∃T l r,q.fam g = .cells T (peek++l) :: r):=by exact .inl rfl
theorem takeS_append:∀(l r:List AV),za7 (l++r) (zf5 l)=some l\/∃a∈l,a.size=0
 | [],r=>by left; cases r <;> rfl
 | a :: l,r=>by
   by_cases h:a.size=0
   ·exact .inr ⟨a,List.mem_cons_self ..,h⟩
   ·rcases takeS_append l r with k | ⟨b,hb,k⟩
    ·left
     obtain ⟨m,hm⟩:∃m,zf5 (a :: l)=m+1:=⟨zf5 (a :: l)-1,by simp only [zf5]; omega⟩
     rw [hm,List.cons_append,za7]
     have hb:Nat.ble a.size (m+1)=true:=Nat.ble_eq_true_of_le (by simp only [zf5] at hm; omega)
     rw [hb]
     have e:m+1-a.size=zf5 l:=by simp only [zf5] at hm; omega
     simp only [e,k]
    ·exact .inr ⟨b,List.mem_cons_of_mem _ hb,k⟩
def OpA.ob (o:OpA):Ob where
 tag:=o.tag
 holds:=fun b S w=>∃q,q∈o.alts/\q.ob.holds b S w
 here:=fun b S w w' hw ⟨q,h,k⟩=>⟨q,h,q.ob.here b S w w' hw k⟩
 peek:=match o.peek.all AV.one with
  | true=>o.peek
  | false=>[]
 peekOk:=fun b S w ⟨q,hq,g,ids,own,h0,_,_,h3⟩=>by
  split
  ·rename_i hone
   rcases o.pk with e | ⟨hf,hp⟩
   ·exact .inl e
   ·right
    obtain ⟨T,l,r,e⟩:=hp q hq g
    have hs:=h3 0 (.cells T (o.peek++l)) (by rw [e]; rfl)
    obtain ⟨b',cs,hb,_,hw,hv⟩:=hs
    rw [h0] at hb; cases hb
    rcases takeS_append o.peek l with ht | ⟨a,ha,hz⟩
    ·obtain ⟨t1,t2⟩:=ze4 hv ht
     exact ⟨cs,T,_,hw,by simpa using t2,Vs.unbound hf t1⟩
    ·have:a.one=true:=List.all_eq_true.1 hone a ha
     cases a <;> simp_all [AV.one,AV.size]
  ·exact .inl rfl

def zh3 (p n:Nat):Nat->Option Nat
 | 0=>some p
 | j+1=>some (n+j)

def zg4 (H:AH) (p:Nat):AH->AH
 | []=>H
 | it0 :: r=>H.set p (renI (zh3 p H.length) it0)++r.map (renI (zh3 p H.length))

theorem ztD {ρ:Nat->Option Nat} {it:Item} (h:renI ρ it = .fence):it = .fence:=by cases it <;> simp_all [renI]

theorem Rep.open (hR:Rep W D R ids own H w) {p:Nat} {o:Opn} (hp:H[p]? = some (.obj o.ob)):∃g ids' own',Rep W D R ids' own' (zg4 H p (o.fam g)) w/\∀q b,ids q=some b->ids' q=some b:=by
 obtain ⟨b,hb,hS,g,ids0,own0,h0,h1,h2,h3⟩:=hR.items p _ hp
 have hpn:p<H.length:=lt_of_some hp
 have hnf:=o.nf g
 have hroot:=o.root g
 generalize hits:o.fam g=its at *
 cases its with
 | nil=>simp [qfU] at hroot
 | cons it0 r =>
   refine ⟨g,fun q=>if q<H.length then ids q else ids0 (q-H.length+1),fun x=>match own x with
    | some q=>if q=p then (own0 x).bind (zh3 p H.length) else some q
    | none=>none,?_,?_⟩
   ·rw [hits]
    have hlen:(zg4 H p (it0 :: r)).length=H.length+r.length:=by simp [zg4]
    have hmono:∀q b,ids q=some b->(if q<H.length then ids q else ids0 (q-H.length+1))=some b:=fun q b hq=>by
     have:q<H.length:=by
      rcases Nat.lt_or_ge q H.length with h | h
      ·exact h
      ·rw [hR.blind q h] at hq; cases hq
     rw [if_pos this]; exact hq
    have hown:∀x q,(match own x with
      | some q=>if q=p then (own0 x).bind (zh3 p H.length) else some q
      | none=>none)=some q ↔ (own x=some q/\q≠p)\/(own x=some p/\∃i,own0 x=some i/\zh3 p H.length i=some q):=fun x q=>by
     cases hx:own x with
     | none=>simp
     | some q0 =>
       by_cases e:q0=p
       ·subst e
        simp only [if_true,Option.bind_eq_some_iff,Option.some.injEq]
        constructor
        ·exact fun h => .inr ⟨trivial,h⟩
        ·rintro (⟨h,h'⟩ | ⟨_,h⟩)
         ·exact absurd h.symm h'
         ·exact h
       ·simp only [if_neg e,Option.some.injEq]
        constructor
        ·rintro rfl; exact .inl ⟨rfl,e⟩
        ·rintro (⟨h,_⟩ | ⟨h,_⟩)
         ·exact h
         ·exact absurd h e
    have hsub:∀i q,zh3 p H.length i=some q->i<r.length+1->(i=0/\q=p)\/(0<i/\q=H.length+(i-1)):=fun i q h _=>by
     cases i with
     | zero=>simp [zh3] at h; exact .inl ⟨rfl,h.symm⟩
     | succ j=>simp [zh3] at h; exact .inr ⟨by omega,by omega⟩
    have hget:∀q it,(zg4 H p (it0 :: r))[q]? = some it->(q≠p/\q<H.length/\H[q]? = some it)\/(q=p/\it=renI (zh3 p H.length) it0)\/(∃j x,q=H.length+j/\r[j]? = some x/\it=renI (zh3 p H.length) x):=fun q it h=>by
     unfold zg4 at h
     rcases Nat.lt_or_ge q H.length with hlt | hge
     ·rw [List.getElem?_append_left (by simpa using hlt)] at h
      by_cases e:q=p
      ·subst e; rw [List.getElem?_set_self hlt] at h; cases h; exact .inr (.inl ⟨rfl,rfl⟩)
      ·rw [List.getElem?_set_ne (fun k=>e k.symm)] at h; exact .inl ⟨e,hlt,h⟩
     ·rw [List.getElem?_append_right (by simpa using hge),List.length_set,List.getElem?_map] at h
      cases hx:r[q-H.length]? with
      | none=>rw [hx] at h; cases h
      | some x=>rw [hx] at h; cases h; exact .inr (.inr ⟨q-H.length,x,by omega,hx,rfl⟩)
    have hin:∀(i q:Nat),zh3 p H.length i=some q->(if q<H.length then ids q else ids0 (q-H.length+1))=ids0 i:=fun i q h=>by
     cases i with
     | zero=>simp [zh3] at h; subst h; rw [if_pos hpn,h0,hb]
     | succ j=>simp [zh3] at h; subst h; rw [if_neg (by omega)]; congr 1; omega
    refine ⟨hR.os,hR.tape,hR.output,hR.size,fun x q hx=>?_,hR.keep,hR.ro,fun q it hq=>?_,fun q hq=>?_,hR.low,hR.high,fun q y hy=>?_,fun hf q hq=>?_⟩
    ·rcases (hown x q).1 hx with ⟨k,_⟩ | ⟨k,i,k1,k2⟩
     ·obtain ⟨g1,g2,g3⟩:=hR.owns x q k
      exact ⟨g1,by omega,g3⟩
     ·obtain ⟨g1,g2,g3⟩:=hR.owns x p k
      have hi:=(h1 x i k1).2
      simp only [List.length_cons] at hi
      refine ⟨g1,?_,g3⟩
      rcases hsub i q k2 hi with ⟨_,rfl⟩ | ⟨_,rfl⟩ <;> omega
    ·rcases hget q it hq with ⟨k1,k2,k3⟩ | ⟨rfl,rfl⟩ | ⟨j,x,rfl,k2,rfl⟩
     ·refine (hR.items q it k3).mono (fun x=>?_) (fun _ _=>rfl) (by rw [if_pos k2]) hmono (fun _ _ e=>e)
      rw [hown]
      constructor
      ·exact fun h => .inl ⟨h,k1⟩
      ·rintro (⟨h,_⟩ | ⟨h,i,g1,g2⟩)
       ·exact h
       ·have hi:=(h1 x i g1).2
        simp only [List.length_cons] at hi
        rcases hsub i q g2 hi with ⟨_,e⟩ | ⟨_,e⟩
        ·exact absurd e k1
        ·omega
     ·have hs:=(h3 0 it0 rfl).out (ρ:=zh3 q H.length) (ids':=fun q'=>if q'<H.length then ids q' else ids0 (q'-H.length+1)) (p:=q) (S':=fun x=>(match own x with
        | some q'=>if q'=q then (own0 x).bind (zh3 q H.length) else some q'
        | none=>none)=some q) (fun x=>by
        rw [hown]
        constructor
        ·exact fun h => .inr ⟨(h1 x 0 h).1,0,h,rfl⟩
        ·rintro (⟨_,h⟩ | ⟨_,i,g1,g2⟩)
         ·exact absurd rfl h
         ·have hi:=(h1 x i g1).2
          simp only [List.length_cons] at hi
          rcases hsub i q g2 hi with ⟨rfl,_⟩ | ⟨_,e⟩
          ·exact g1
          ·omega) (hin 0 q rfl) (fun i q' b' hr hb'=>by rw [hin i q' hr]; exact hb')
      exact hs.mono (fun _=>Iff.rfl) (fun _ _=>rfl) rfl (fun _ _ e=>e) (fun _ _ e=>by cases e)
     ·have hs:=(h3 (j+1) x (by simpa using k2)).out (ρ:=zh3 p H.length) (ids':=fun q'=>if q'<H.length then ids q' else ids0 (q'-H.length+1)) (p:=H.length+j) (S':=fun x=>(match own x with
        | some q'=>if q'=p then (own0 x).bind (zh3 p H.length) else some q'
        | none=>none)=some (H.length+j)) (fun x=>by
        rw [hown]
        constructor
        ·exact fun h => .inr ⟨(h1 x _ h).1,j+1,h,rfl⟩
        ·rintro (⟨h,_⟩ | ⟨_,i,g1,g2⟩)
         ·have:=(hR.owns x _ h).2.1; omega
         ·have hi:=(h1 x i g1).2
          simp only [List.length_cons] at hi
          rcases hsub i _ g2 hi with ⟨_,e⟩ | ⟨k,e⟩
          ·omega
          ·rw [g1]; congr 1; omega) (hin (j+1) _ rfl) (fun i q' b' hr hb'=>by rw [hin i q' hr]; exact hb')
      exact hs.mono (fun _=>Iff.rfl) (fun _ _=>rfl) rfl (fun _ _ e=>e) (fun _ _ e=>by cases e)
    ·rw [hlen] at hq
     simp only [if_neg (show ¬q<H.length by omega)]
     exact h2 _ (by simp only [List.length_cons]; omega)
    ·obtain ⟨k1,k2⟩:=hR.pins q y hy
     have hlt:=lt_of_some k2
     have hne:q≠p:=fun e=>by subst e; rw [hp] at k2; cases k2
     refine ⟨by simp only [if_pos hlt]; exact k1,?_⟩
     unfold zg4
     rw [List.getElem?_append_left (by simpa using hlt),List.getElem?_set_ne (fun k=>hne k.symm)]; exact k2
    ·have hf':H[W.nst]? = some .fence:=by
      rcases hget _ _ hf with ⟨_,_,k⟩ | ⟨_,k⟩ | ⟨j,x,_,k2,k⟩
      ·exact k
      ·have:=ztD k.symm
       subst this
       simp [noF,Item.isFence] at hnf
      ·have:=ztD k.symm
       subst this
       exact absurd (show (it0 :: r)[j+1]? = some .fence by simpa using k2) (zq1 hnf)
     have:q<H.length:=Nat.lt_trans hq (lt_of_some hf')
     simp only [if_pos this]
     exact hR.stay hf' q hq
   ·intro q b' hq
    have:q<H.length:=by
     rcases Nat.lt_or_ge q H.length with h | h
     ·exact h
     ·rw [hR.blind q h] at hq; cases hq
    simp only [if_pos this]; exact hq

def ziB (H:AH) (p:Nat) (r:List Nat) (A:Ob):AH:=ze8 H (p :: r) (.obj A :: r.map fun _ => .junk)

theorem Rep.close (hR:Rep W D R ids own H w) {p:Nat} {r:List Nat} {o:Opn} {g:o.G} (hn:zdQ (zcK (p :: r))=true) (hg:zi7 H (p :: r)=true) (hl:(p :: r).length=(o.fam g).length) (hf:fitH (zcK (p :: r)) H 0 (o.fam g)) :
  ∃own',Rep W D R ids own' (ziB H p r o.out) w:=by
 have hlen:(ziB H p r o.out).length=H.length:=by rw [ziB,zbV]
 have hpl:inT (p :: r) p=true:=by simp [inT]
 refine ⟨fun x=>match own x with
  | some q=>if inT (p :: r) q=true then some p else some q
  | none=>none,?_⟩
 have hown:∀x q,(match own x with
   | some q=>if inT (p :: r) q=true then some p else some q
   | none=>none)=some q ↔ (own x=some q/\inT (p :: r) q=false)\/(q=p/\∃q',own x=some q'/\inT (p :: r) q'=true):=fun x q=>by
  cases hx:own x with
  | none=>simp
  | some q0 =>
    cases ht:inT (p :: r) q0 with
    | true =>
      simp only [ht,if_true,Option.some.injEq]
      constructor
      ·rintro rfl; exact .inr ⟨rfl,q0,rfl,ht⟩
      ·rintro (⟨rfl,h⟩ | ⟨rfl,_⟩)
       ·rw [ht] at h; cases h
       ·rfl
    | false =>
      simp only [ht,Bool.false_eq_true,if_false,Option.some.injEq]
      constructor
      ·rintro rfl; exact .inl ⟨rfl,ht⟩
      ·rintro (⟨h,_⟩ | ⟨_,q',rfl,h⟩)
       ·exact h
       ·rw [ht] at h; cases h
 have hget:∀q,(ziB H p r o.out)[q]? = if inT (p :: r) q=true then (if q=p then some (.obj o.out) else some .junk) else H[q]?:=fun q=>by
  unfold ziB
  cases ht:inT (p :: r) q with
  | false=>rw [zdJ ht]; simp
  | true =>
    obtain ⟨i,hi⟩:=zg0.1 ht
    have hq:=(zeS hg hi).1
    rw [ziQ hn hi hq (by simpa using lt_of_some hi)]
    simp only [if_true]
    cases i with
    | zero=>simp at hi; subst hi; simp
    | succ j =>
      have hj:r[j]? = some q:=by simpa using hi
      have hne:q≠p:=fun e=>by
       subst e
       have h0:(zcK (q :: r))[0]? = some (some q):=rfl
       have hj':(zcK (q :: r))[j+1]? = some (some q):=by rw [zd3]; exact hi
       have a:=(zdO hn).2 h0
       have b:=(zdO hn).2 hj'
       rw [a] at b; cases b
      rw [if_neg hne]
      simp [hj]
 refine ⟨hR.os,hR.tape,hR.output,hR.size,fun x q hx=>?_,hR.keep,hR.ro,fun q it hq=>?_,fun q hq=>hR.blind q (by rwa [hlen] at hq),hR.low,hR.high,fun q y hy=>?_,fun hfe q hq=>?_⟩
 ·rw [hlen]
  rcases (hown x q).1 hx with ⟨k,_⟩ | ⟨rfl,q',k,_⟩
  ·exact hR.owns x q k
  ·obtain ⟨g1,g2,g3⟩:=hR.owns x q' k
   exact ⟨g1,(zeS hg (q:=0) rfl).1,g3⟩
 ·rw [hget] at hq
  split at hq
  ·rename_i ht
   split at hq
   ·rename_i e
    subst e
    cases hq
    have hit:∀i it,(o.fam g)[i]? = some it->Sat R (zbL (zcK (q :: r)) ids) (fun x=>zhE (zcK (q :: r)) own x=some i) w i it:=fun i it hi=>by
     have h:=zrQ hf hi
     rw [Nat.zero_add] at h
     unfold qg5 at h
     have hnf:it.isFence=false:=by
      cases e:it.isFence with
      | false=>rfl
      | true =>
        have:it = .fence:=by cases it <;> simp_all [Item.isFence]
        subst this
        exact absurd hi (zq1 (o.nf g))
     rw [hnf] at h
     simp only at h
     have hil:i<(q :: r).length:=by rw [hl]; exact lt_of_some hi
     have hσ:(zcK (q :: r))[i]? = some (some (q :: r)[i]):=by rw [zd3]; exact List.getElem?_eq_getElem hil
     rw [hσ] at h
     simp only at h
     split at h
     ·rename_i it0 h0
      refine qcB h (hR.items _ it0 h0) (fun x=>?_) (by simp only [zbL,hσ])
      unfold zhE
      cases hx:own x with
      | none=>simp
      | some q0 =>
        simp only [Option.some.injEq]
        rw [zdO hn,hσ]
        simp [eq_comm]
     ·exact h.elim
    have hr0:∃b,ids q=some b/\own b=some q:=by
     have hroot:=o.root g
     generalize o.fam g=its at *
     cases its with
     | nil=>simp [qfU] at hroot
     | cons it0 rr =>
       have hs:=hit 0 it0 rfl
       have e0:zbL (zcK (q :: r)) ids 0=ids q:=by simp [zbL]
       have e1:∀b,zhE (zcK (q :: r)) own b=some 0->own b=some q:=fun b hb=>by
        unfold zhE at hb
        cases hx:own b with
        | none=>rw [hx] at hb; cases hb
        | some q0 =>
          rw [hx] at hb
          simp only at hb
          have:=(zdO hn).1 hb
          simp at this; rw [this]
       cases it0 with
       | cells T l=>obtain ⟨b,cs,k1,k2,_⟩:=hs; exact ⟨b,by rw [<- e0]; exact k1,e1 b k2⟩
       | obj A=>obtain ⟨b,k1,k2,_⟩:=hs; exact ⟨b,by rw [<- e0]; exact k1,e1 b k2⟩
       | _=>simp [qfU] at hroot
    obtain ⟨b,hb,hob⟩:=hr0
    refine ⟨b,hb,?_,o.out_ok ⟨g,zbL (zcK (q :: r)) ids,zhE (zcK (q :: r)) own,by simp [zbL,hb],fun x i hx=>?_,fun i hi=>?_,fun i it hi=>qkC (zvH (o.pl g) hi) (hit i it hi)⟩⟩
    ·exact (hown b q).2 (.inr ⟨rfl,q,hob,hpl⟩)
    ·unfold zhE at hx
     cases hy:own x with
     | none=>rw [hy] at hx; cases hx
     | some q0 =>
       rw [hy] at hx
       simp only at hx
       have hσ:=(zdO hn).1 hx
       have hi:=zd3.1 hσ
       refine ⟨?_,by rw [<- hl]; exact lt_of_some hi⟩
       exact (hown x q).2 (.inr ⟨rfl,q0,hy,zg0.2 ⟨i,hi⟩⟩)
    ·have:(zcK (q :: r))[i]? = none:=List.getElem?_eq_none (by rw [List.length_map,hl]; exact hi)
     simp only [zbL,this]
   ·cases hq; trivial
  ·rename_i ht
   have ht:inT (p :: r) q=false:=by simpa using ht
   refine (hR.items q it hq).mono (fun x=>?_) (fun _ _=>rfl) rfl (fun _ _ e=>e) (fun _ _ e=>e)
   rw [hown]
   constructor
   ·exact fun h => .inl ⟨h,ht⟩
   ·rintro (⟨h,_⟩ | ⟨rfl,_⟩)
    ·exact h
    ·rw [hpl] at ht; cases ht
 ·obtain ⟨k1,k2⟩:=hR.pins q y hy
  refine ⟨k1,?_⟩
  rw [hget]
  cases ht:inT (p :: r) q with
  | false=>simpa using k2
  | true =>
    obtain ⟨i,hi⟩:=zg0.1 ht
    exact absurd k2 (zeS hg hi).2.1
 ·refine hR.stay ?_ q hq
  rw [hget] at hfe
  split at hfe
  ·split at hfe <;> cases hfe
  ·exact hfe

def qnK (n:Nat) (H:AH) (p:Nat):AH->AH
 | []=>H
 | it0 :: r=>H.set p (renI (zh3 p n) it0)++r.map (renI (zh3 p n))
theorem zz1 (H:AH) (p:Nat) (l:AH):qnK H.length H p l=zg4 H p l:=by cases l <;> rfl
def lenP {α β:Type _}:List α->List β->Prop
 | [],[]=>True
 | _ :: a,_ :: b=>lenP a b
 | _,_=>False
theorem qk3 {α β:Type _}:∀{a:List α} {b:List β},lenP a b->a.length=b.length
 | [],[],_=>rfl
 | _ :: a,_ :: b,h=>congrArg (· + 1) (qk3 (a:=a) (b:=b) h)
 | [],_ :: _,h=>h.elim
 | _ :: _,[],h=>h.elim
def znM:List (Nat×Opn)->AH->(AH->Prop)->Prop
 | [],H,K=>K H
 | (p,o) :: r,H,K=>match H[p]? with
   | some (.obj A)=>A=o.ob/\zoV H.length (fun n=>∀g,znM r (qnK n H p (o.fam g)) K)
   | _=>False

def zcC:List (Nat×List Nat×Opn)->AH->(AH->Prop)->Prop
 | [],H,K=>K H
 | (p,r,o) :: l,H,K=>match zdQ (zcK (p :: r))&&zi7 H (p :: r) with
   | true=>∃g,(lenP (p :: r) (o.fam g)/\fitH (zcK (p :: r)) H 0 (o.fam g))/\match o.up with
     | none=>zcC l (ziB H p r o.ob) K
     | some u=>zcC l (ziB H p r u.A) K
   | false=>False

theorem zj3:∀{l:List (Nat×Opn)} {H:AH} {ids own:Nat->Option Nat} {K:AH->Prop},Rep W D R ids own H w->znM l H K->∃H' ids' own',Rep W D R ids' own' H' w/\(∀q b,ids q=some b->ids' q=some b)/\K H'
 | [],H,ids,own,K,hR,h=>⟨H,ids,own,hR,fun _ _ e=>e,h⟩
 | (p,o) :: r,H,ids,own,K,hR,h=>by
   unfold znM at h
   split at h
   ·rename_i A hp
    obtain ⟨rfl,h⟩:=h
    rw [zgH] at h
    obtain ⟨g,ids',own',h1,h2⟩:=hR.open hp
    rw [<- zz1] at h1
    obtain ⟨H',ids2,own2,k1,k2,k3⟩:=zj3 h1 (h g)
    exact ⟨H',ids2,own2,k1,fun q b e=>k2 q b (h2 q b e),k3⟩
   ·exact h.elim

def qcX:List Opn->(Opn->Prop)->Prop
 | [],_=>True
 | o :: l,P=>P o/\qcX l P
theorem qcW {l:List Opn} {P:Opn->Prop} {o:Opn} (h:qcX l P) (ho:o∈l):P o:=by
 induction l with
 | nil=>cases ho
 | cons a r ih =>
   rcases List.mem_cons.1 ho with rfl | k
   ·exact h.1
   ·exact ih h.2 k
def zpA:List (Nat×OpA)->AH->(AH->Prop)->Prop
 | [],H,K=>K H
 | (p,oa) :: r,H,K=>match H[p]? with
   | some (.obj A)=>A=oa.ob/\zoV H.length (fun n=>qcX oa.alts (fun o=>∀g,zpA r (qnK n H p (o.fam g)) K))
   | _=>False
theorem Rep.reobj (hR:Rep W D R ids own H w) {p b:Nat} {A B:Ob} (hp:H[p]? = some (.obj A)) (hb:ids p=some b) (ho:own b=some p) (hB:B.holds b (fun x=>own x=some p) w):Rep W D R ids own (H.set p (.obj B)) w:=by
 have hlt:p<H.length:=lt_of_some hp
 refine ⟨hR.os,hR.tape,hR.output,hR.size,fun x q hx=>by rw [List.length_set]; exact hR.owns x q hx,hR.keep,hR.ro,fun q it hq=>?_,fun q hq=>hR.blind q (by rwa [List.length_set] at hq),hR.low,hR.high,fun q y hy=>?_,fun hfe q hq=>?_⟩
 ·by_cases e:q=p
  ·subst e
   rw [List.getElem?_set_self hlt] at hq
   cases hq
   exact ⟨b,hb,ho,hB⟩
  ·rw [List.getElem?_set_ne (fun k=>e k.symm)] at hq
   exact hR.items q it hq
 ·obtain ⟨k1,k2⟩:=hR.pins q y hy
  have hne:q≠p:=fun e=>by subst e; rw [hp] at k2; cases k2
  exact ⟨k1,by rw [List.getElem?_set_ne (fun k=>hne k.symm)]; exact k2⟩
 ·refine hR.stay ?_ q hq
  by_cases e:W.nst=p
  ·rw [e,List.getElem?_set_self hlt] at hfe; cases hfe
  ·rwa [List.getElem?_set_ne (fun k=>e k.symm)] at hfe
theorem qc4 {H:AH} {p:Nat} {it:Item} {its:AH} (h:qfU its=true):zg4 (H.set p it) p its=zg4 H p its:=by
 cases its with
 | nil=>simp [qfU] at h
 | cons a r=>simp [zg4]
theorem zqY:∀{l:List (Nat×OpA)} {H:AH} {ids own:Nat->Option Nat} {K:AH->Prop},Rep W D R ids own H w->zpA l H K->∃H' ids' own',Rep W D R ids' own' H' w/\(∀q b,ids q=some b->ids' q=some b)/\K H'
 | [],H,ids,own,K,hR,h=>⟨H,ids,own,hR,fun _ _ e=>e,h⟩
 | (p,oa) :: r,H,ids,own,K,hR,h=>by
   unfold zpA at h
   split at h
   ·rename_i A hp
    obtain ⟨rfl,h⟩:=h
    rw [zgH] at h
    obtain ⟨b,hb,ho,q,hq,hh⟩:=hR.items p _ hp
    have hR2:=hR.reobj hp hb ho hh
    obtain ⟨g,ids',own',h1,h2⟩:=hR2.open (p:=p) (o:=q) (by rw [List.getElem?_set_self (lt_of_some hp)])
    rw [qc4 (q.root g),<- zz1] at h1
    obtain ⟨H',ids2,own2,k1,k2,k3⟩:=zqY h1 (qcW h hq g)
    exact ⟨H',ids2,own2,k1,fun q b e=>k2 q b (h2 q b e),k3⟩
   ·exact h.elim

theorem zeD:∀{l:List (Nat×List Nat×Opn)} {H:AH} {own:Nat->Option Nat} {K:AH->Prop},Rep W D R ids own H w->zcC l H K->∃H' own',Rep W D R ids own' H' w/\K H'
 | [],H,own,K,hR,h=>⟨H,own,hR,h⟩
 | (p,r,o) :: l,H,own,K,hR,h=>by
   unfold zcC at h
   split at h
   ·rename_i hb
    simp only [Bool.and_eq_true] at hb
    obtain ⟨g,⟨h1,h2⟩,h3⟩:=h
    obtain ⟨own',hR'⟩:=hR.close hb.1 hb.2 (qk3 h1) h2
    refine zeD (l:=l) hR' ?_
    unfold Opn.out
    split at h3
    ·exact h3
    ·exact h3
   ·exact h.elim

end Go.Sx
