import Derived.Test.YtlihikockhjodaaGreatDoorSxN

namespace Go.Sx
variable {W W':Base} {D D':Nat->Prop} {R R':Nat->Option Obj} {ids ids' own own':Nat->Option Nat} {P:Program} {tb:TB} {sp:SP} {w w':World} {H H':AH}

abbrev Ren:=List (Option Nat)

def zbL (σ:Ren) (ids:Nat->Option Nat):Nat->Option Nat:=fun p=>match σ[p]? with
 | some (some q)=>ids q
 | _=>none
def qbB:Ren->Nat->Option Nat
 | [],_=>none
 | some q :: r,x=>if q=x then some 0 else (qbB r x).map (· + 1)
 | none :: r,x=>(qbB r x).map (· + 1)
def zhE (σ:Ren) (own:Nat->Option Nat):Nat->Option Nat:=fun b=>match own b with
 | some q=>qbB σ q
 | none=>none

def hasR:Ren->Nat->Bool
 | [],_=>false
 | some q :: r,x=>Nat.beq q x || hasR r x
 | none :: r,x=>hasR r x
def zdQ:Ren->Bool
 | []=>true
 | some q :: r=>!hasR r q&&zdQ r
 | none :: r=>zdQ r

theorem qb4:∀{σ:Ren} {p q:Nat},σ[p]? = some (some q)->hasR σ q=true
 | [],p,q,h=>by simp at h
 | some x :: r,0,q,h=>by simp at h; subst h; simp [hasR]
 | none :: r,0,q,h=>by simp at h
 | some x :: r,p+1,q,h=>by simp [hasR,qb4 (σ:=r) (p:=p) (by simpa using h)]
 | none :: r,p+1,q,h=>by simp [hasR,qb4 (σ:=r) (p:=p) (by simpa using h)]

theorem zdO:∀{σ:Ren},zdQ σ=true->∀{p q:Nat},qbB σ q=some p ↔ σ[p]? = some (some q)
 | [],_,p,q=>by simp [qbB]
 | some x :: r,h,p,q=>by
   simp only [zdQ,Bool.and_eq_true,Bool.not_eq_true'] at h
   have ih:=fun p=>zdO (σ:=r) h.2 (p:=p) (q:=q)
   unfold qbB
   by_cases e:x=q
   ·subst e
    simp only [if_true,Option.some.injEq]
    cases p with
    | zero=>simp
    | succ p =>
      simp only [List.getElem?_cons_succ]
      constructor
      ·intro h; omega
      ·intro h2; have:=qb4 h2; rw [h.1] at this; cases this
   ·simp only [if_neg e,Option.map_eq_some_iff]
    cases p with
    | zero=>simp [e]
    | succ p =>
      simp only [List.getElem?_cons_succ,<- ih p]
      constructor
      ·rintro ⟨k,h1,h2⟩; have:k=p:=by omega
       subst this; exact h1
      ·exact fun h=>⟨p,h,rfl⟩
 | none :: r,h,p,q=>by
   have ih:=fun p=>zdO (σ:=r) (by simpa [zdQ] using h) (p:=p) (q:=q)
   unfold qbB
   simp only [Option.map_eq_some_iff]
   cases p with
   | zero=>simp
   | succ p =>
     simp only [List.getElem?_cons_succ,<- ih p]
     constructor
     ·rintro ⟨k,h1,h2⟩; have:k=p:=by omega
      subst this; exact h1
     ·exact fun h=>⟨p,h,rfl⟩

def refOk (σ:Ren) (p p':Nat):Prop:=match σ[p']? with
 | some (some q)=>Nat.beq q p=true
 | _=>False
theorem refOk.get {σ:Ren} {p p':Nat} (h:refOk σ p p'):σ[p']? = some (some p):=by
 unfold refOk at h
 split at h
 ·rename_i q e; rw [e,Nat.eq_of_beq_eq_true h]
 ·exact h.elim
theorem refOk.eq {σ:Ren} {p p':Nat} (h:refOk σ p p'):zbL σ ids p'=ids p:=by simp [zbL,h.get]

def kEq (k k':IntKind):Prop:=match (decide (k=k')) with
 | true=>True
 | false=>False
theorem kEq.eq {k k':IntKind} (h:kEq k k'):k=k':=by
 unfold kEq at h
 split at h
 ·rename_i e; exact of_decide_eq_true e
 ·exact h.elim

def fitS (f:AV->AV->Prop):List AV->List AV->Prop
 | [],[]=>True
 | .arr es n f1 :: r,.arr es' n' f' :: r'=>es=es'/\n=n'/\(∀i,i<n->f1 i=f' i)/\fitS f r r'
 | a :: r,a' :: r'=>match a.one,a'.one with
   | true,true=>f a a'/\fitS f r r'
   | _,_=>False
 | _,_=>False
def fitT (f:AV->AV->Prop):List AV->List AV->Prop
 | [],[]=>True
 | a :: r,a' :: r'=>f a a'/\fitT f r r'
 | _,_=>False

def fitV (σ:Ren):Nat->AV->AV->Prop
 | 0,a,a'=>match a,a' with
   | _,.any=>True
   | a,.cell=>a.one=true
   | .int k n,.int k' n'=>kEq k k'/\n=n'
   | .bool b,.bool b'=>b=b'
   | .fn f,.fn f'=>f=f'
   | .str l,.str l'=>l=l'
   | .nilp,.nilp=>True
   | .nils,.nils=>True
   | .nils,.sl _ _ _ _ _ n cap=>n=0/\cap=0
   | .ptr p path off,.ptr p' path' off'=>refOk σ p p'/\path=path'/\off=off'
   | .sl p path off es lo n cap,.sl p' path' off' es' lo' n' cap'=>refOk σ p p'/\path=path'/\off=off'/\es=es'/\lo=lo'/\n=n'/\cap=cap'
   | .ro es n f,.ro es' n' f'=>es=es'/\n=n'/\∀i,i<n->f i=f' i
   | .rp s off,.rp s' off'=>s=s'/\off=off'
   | _,_=>False
 | k+1,a,a'=>match a,a' with
   | .agg l,.agg l'=>fitS (fitV σ k) l l'
   | .tup l,.tup l'=>fitT (fitV σ k) l l'
   | a,a'=>fitV σ k a a'

theorem V.ro_change {es n:Nat} {f f':Nat->List AV} {v:Value} (h:V R ids (.ro es n f) v) (hf:∀i,i<n->f i=f' i):V R ids' (.ro es n f') v:=by
 cases h with
 | ro _ _ _ b o cap cs h1 h2 h3 h4 h5=>exact .ro es n f' b o cap cs h1 h2 h3 h4 (fun i hi=>by rw [<- hf i hi]; exact h5 i hi)
 | ro0 _ _ a cap h=>exact .ro0 es f' a cap h

theorem ql0 {σ:Ren} {g:AV->AV->Prop} (hg:∀{a a':AV} {v:Value},g a a'->V R ids a v->V R (zbL σ ids) a' v):∀{a a':List AV} {v:List Value},fitS g a a'->Vs R ids a v->Vs R (zbL σ ids) a' v:=by
 intro a a' v h hv
 induction a generalizing a' v with
 | nil =>
   cases a' with
   | nil=>cases hv; exact .nil
   | cons=>exact h.elim
 | cons x r ih =>
   unfold fitS at h
   split at h
   ·exact absurd (by assumption) (List.cons_ne_nil x r)
   ·rename_i e1
    cases e1
    obtain ⟨rfl,rfl,h1,h2⟩:=h
    cases hv with
    | one _ _ _ _ ho=>simp [AV.one] at ho
    | arr _ _ _ cs _ ws vs g1 g2 g3 g4=>exact .arr _ _ _ cs _ ws vs g1 g2 (fun i hi=>by rw [<- h1 i hi]; exact g3 i hi) (ih h2 g4)
   ·rename_i e1
    cases e1
    split at h
    ·rename_i h1 h2
     cases hv with
     | one _ v _ vs ho g1 g2=>exact .one _ v _ vs h2 (hg h.1 g1) (ih h.2 g2)
     | arr=>simp [AV.one] at h1
    ·exact h.elim
   ·exact h.elim

theorem qlZ {σ:Ren} {g:AV->AV->Prop} (hg:∀{a a':AV} {v:Value},g a a'->V R ids a v->V R (zbL σ ids) a' v):∀{a a':List AV} {v:List Value},fitT g a a'->Ts R ids a v->Ts R (zbL σ ids) a' v:=by
 intro a a' v h hv
 induction a generalizing a' v with
 | nil =>
   cases a' with
   | nil=>cases hv; exact .nil
   | cons=>exact h.elim
 | cons x r ih =>
   cases a' with
   | nil=>exact h.elim
   | cons y r' =>
     cases hv with
     | cons _ v _ vs g1 g2=>exact .cons _ v _ vs (hg h.1 g1) (ih h.2 g2)

theorem zlA {σ:Ren}:∀{k:Nat} {a a':AV} {v:Value},fitV σ k a a'->V R ids a v->V R (zbL σ ids) a' v
 | 0,a,a',v,h,hv=>by
   unfold fitV at h
   split at h
   ·exact .any _
   ·exact .cell _ (hv.oneCell h)
   ·obtain ⟨h1,rfl⟩:=h; obtain rfl:=h1.eq; obtain rfl:=hv.int_inv; exact .int _ _
   ·subst h; obtain rfl:=hv.bool_inv; exact .bool _
   ·subst h; obtain rfl:=hv.fn_inv; exact .fn _
   ·subst h; obtain ⟨h,rfl⟩:=hv.str_inv; exact .str _ h
   ·obtain rfl:=hv.nilp_inv; exact .nilp
   ·cases hv; exact .nils
   ·obtain ⟨rfl,rfl⟩:=h; cases hv; exact .sl _ _ _ _ _ 0 0 none (fun h=>absurd rfl h) (Nat.le_refl _) (Nat.zero_le _)
   ·obtain ⟨h1,rfl,rfl⟩:=h
    cases hv with
    | ptr _ _ _ b hb=>exact .ptr _ _ _ b (by rw [h1.eq]; exact hb)
   ·obtain ⟨h1,rfl,rfl,rfl,rfl,rfl,rfl⟩:=h
    cases hv with
    | sl _ _ _ _ _ _ _ a g1 g2 g3=>exact .sl _ _ _ _ _ _ _ a (fun hc=>by rw [h1.eq]; exact g1 hc) g2 g3
   ·obtain ⟨rfl,rfl,h⟩:=h; exact hv.ro_change h
   ·obtain ⟨rfl,rfl⟩:=h
    cases hv with
    | rp _ _ b o cs g1 g2=>exact .rp _ _ b o cs g1 g2
   ·exact h.elim
 | k+1,a,a',v,h,hv=>by
   unfold fitV at h
   split at h
   ·cases hv with
    | agg _ cs hc=>exact .agg _ cs (ql0 (fun h hv=>zlA (k:=k) h hv) h hc)
   ·cases hv with
    | tup _ cs hc=>exact .tup _ cs (qlZ (fun h hv=>zlA (k:=k) h hv) h hc)
   ·exact zlA (k:=k) h hv

theorem Vs.arr_change {es n:Nat} {f f':Nat->List AV} {cs:List Value} (h:Vs R ids [.arr es n f] cs) (hf:∀i,i<n->f i=f' i):Vs R ids' [.arr es n f'] cs:=by
 cases h with
 | one _ _ _ _ ho=>simp [AV.one] at ho
 | arr _ _ _ c _ ws vs g1 g2 g3 g4 =>
   cases g4
   exact .arr es n f' c [] ws [] g1 g2 (fun i hi=>by rw [<- hf i hi]; exact g3 i hi) .nil

def fitI (σ:Ren):Item->Item->Prop
 | _,.gone=>True
 | .cells T l,.cells T' l'=>T=T'/\fitS (fitV σ 0) l l'
 | .row T es cap n f,.row T' es' cap' n' f'=>T=T'/\es=es'/\cap=cap'/\n' <= n/\∀i,i<n'->f i=f' i
 | .row _ es cap n f,.view es' n' f'=>es=es'/\cap≠0/\n' <= n/\∀i,i<n'->f i=f' i
 | .view es n f,.view es' n' f'=>es=es'/\n' <= n/\∀i,i<n'->f i=f' i
 | .obj A,.obj A'=>A=A'
 | _,_=>False

theorem qcB {σ:Ren} {it it':Item} {q p:Nat} {S S':Nat->Prop} (h:fitI σ it it') (hs:Sat R ids S w q it) (hS:∀b,S b ↔ S' b) (hp:zbL σ ids p=ids q):Sat R (zbL σ ids) S' w p it':=by
 obtain rfl:S=S':=funext fun b=>propext (hS b)
 unfold fitI at h
 split at h
 ·trivial
 ·obtain ⟨rfl,h⟩:=h
  obtain ⟨b,cs,h1,h2,h3,h4⟩:=hs
  exact ⟨b,cs,hp.trans h1,h2,h3,ql0 (fun h hv=>zlA h hv) h h4⟩
 ·obtain ⟨rfl,rfl,rfl,hn,hf⟩:=h
  rcases hs with ⟨h1,h2,h3⟩ | ⟨b,cur,h1,h2,h3,h4,h5,h6,h7⟩
  ·exact .inl ⟨hp.trans h1,by omega,h3⟩
  ·refine .inr ⟨b,cur,hp.trans h1,h2,h3,Nat.le_trans hn h4,h5,h6,?_⟩
   have hle:=h7.arr_le hn
   rw [List.take_take,Nat.min_eq_left (Nat.mul_le_mul_left _ hn)] at hle
   exact hle.arr_change hf
 ·obtain ⟨rfl,hc,hn,hf⟩:=h
  rcases hs with ⟨h1,h2,h3⟩ | ⟨b,cur,h1,h2,h3,h4,h5,h6,h7⟩
  ·exact absurd h3 hc
  ·have hle:=h7.arr_le hn
   rw [List.take_take,Nat.min_eq_left (Nat.mul_le_mul_left _ hn)] at hle
   refine ⟨b,cur,_,_,hp.trans h1,h2,h3,?_,hle.arr_change hf⟩
   rw [h6,Nat.mul_comm]; exact Nat.mul_le_mul_right _ (Nat.le_trans hn h4)
 ·obtain ⟨rfl,hn,hf⟩:=h
  obtain ⟨b,cur,T,fr,h1,h2,h3,h4,h5⟩:=hs
  have hle:=h5.arr_le hn
  rw [List.take_take,Nat.min_eq_left (Nat.mul_le_mul_left _ hn)] at hle
  exact ⟨b,cur,T,fr,hp.trans h1,h2,h3,Nat.le_trans (Nat.mul_le_mul_left _ hn) h4,hle.arr_change hf⟩
 ·subst h
  obtain ⟨b,h1,h2,h3⟩:=hs
  exact ⟨b,hp.trans h1,h2,h3⟩
 ·exact h.elim

def qp8 (σ:Ren):Nat->Bool
 | 0=>true
 | k+1=>(match σ[k]? with
   | some (some x)=>Nat.beq x k
   | _=>false)&&qp8 σ k
def ql8 (H:AH) (i:Nat):Bool:=match H[i]? with
 | some .fence=>true
 | _=>false
theorem zyY {σ:Ren}:∀{k:Nat},qp8 σ k=true->∀q,q<k->σ[q]? = some (some q)
 | 0,_,q,h=>by omega
 | k+1,h,q,hq=>by
   simp only [qp8,Bool.and_eq_true] at h
   by_cases e:q=k
   ·subst e
    have h:=h.1
    split at h
    ·rename_i x e; rw [e,Nat.eq_of_beq_eq_true h]
    ·cases h
   ·exact zyY h.2 q (by omega)

def qg5 (σ:Ren) (H:AH) (i:Nat) (it':Item):Prop:=match it'.isFence with
 | true=>(qp8 σ i&&ql8 H i)=true
 | false=>match σ[i]? with
  | some (some q)=>match H[q]? with
    | some it=>fitI σ it it'
    | none=>False
  | some none=>match it' with
    | .row _ _ cap n _=>cap=0/\n=0
    | .gone=>True
    | _=>False
  | none=>False
def fitH (σ:Ren) (H:AH):Nat->AH->Prop
 | _,[]=>True
 | i,it' :: r=>qg5 σ H i it'/\fitH σ H (i+1) r

theorem zrQ {σ:Ren}:∀{k:Nat} {H':AH},fitH σ H k H'->∀{p:Nat} {it:Item},H'[p]? = some it->qg5 σ H (k+p) it
 | k,[],_,p,it,hp=>by simp at hp
 | k,x :: r,h,0,it,hp=>by simp at hp; subst hp; exact h.1
 | k,x :: r,h,p+1,it,hp=>by
   have:=zrQ (k:=k+1) h.2 (p:=p) (it:=it) (by simpa using hp)
   rwa [Nat.add_assoc,Nat.add_comm 1] at this

def qfK (σ:Ren) (H':AH):Nat->AH->Bool
 | _,[]=>true
 | q,it :: r=>(match it with
   | .gone=>(match σ[q]? with
     | some (some x)=>Nat.beq x q&&Item.goneB H'[q]?
     | _=>false)
   | _=>true)&&qfK σ H' (q+1) r

theorem qdI {σ:Ren}:∀{k:Nat} {H:AH},qfK σ H' k H=true->∀{p:Nat},H[p]? = some .gone->σ[k+p]? = some (some (k+p))/\H'[k+p]? = some .gone
 | k,[],_,p,hp=>by simp at hp
 | k,x :: r,h,0,hp=>by
   simp at hp; subst hp
   simp only [qfK,Bool.and_eq_true] at h
   have h:=h.1
   split at h
   ·rename_i y e
    simp only [Bool.and_eq_true] at h
    exact ⟨by rw [Nat.add_zero,e,Nat.eq_of_beq_eq_true h.1],Item.goneB_eq h.2⟩
   ·cases h
 | k,x :: r,h,p+1,hp=>by
   simp only [qfK,Bool.and_eq_true] at h
   have:=qdI (k:=k+1) h.2 (p:=p) (by simpa using hp)
   rwa [Nat.add_assoc,Nat.add_comm 1] at this

theorem Rep.ren (hR:Rep W D R ids own H w) {σ:Ren} (hn:zdQ σ=true) (hl:σ.length=H'.length) (hg:qfK σ H' 0 H=true) (hf:fitH σ H 0 H'):Rep W D R (zbL σ ids) (zhE σ own) H' w:=by
 have hown:∀b p,zhE σ own b=some p ↔ ∃q,own b=some q/\σ[p]? = some (some q):=fun b p=>by
  unfold zhE
  cases e:own b with
  | none=>simp
  | some q =>
    simp only [zdO hn,Option.some.injEq]
    exact ⟨fun h=>⟨q,rfl,h⟩,fun ⟨q',e',h⟩=>by subst e'; exact h⟩
 refine ⟨hR.os,hR.tape,hR.output,hR.size,fun b p hb=>?_,hR.keep,hR.ro,fun p it hp=>?_,fun p hp=>?_,hR.low,hR.high,fun p o hp=>?_,fun h=>?_⟩
 ·obtain ⟨q,h1,h2⟩:=(hown b p).1 hb
  obtain ⟨g1,g2,g3,g4⟩:=hR.owns b q h1
  exact ⟨g1,by rw [<- hl]; exact lt_of_some h2,g3,g4⟩
 ·have h:=zrQ hf hp
  rw [Nat.zero_add] at h
  unfold qg5 at h
  split at h
  ·rename_i hf; cases it <;> simp [Item.isFence] at hf; trivial
  split at h
  ·rename_i q hq
   split at h
   ·rename_i it0 h0
    refine qcB h (hR.items q it0 h0) (fun b=>?_) (by simp [zbL,hq])
    rw [hown]
    exact ⟨fun k=>⟨q,k,hq⟩,fun ⟨q',k,k2⟩=>by rw [hq] at k2; cases k2; exact k⟩
   ·exact h.elim
  ·rename_i hq
   split at h
   ·obtain ⟨rfl,rfl⟩:=h
    exact .inl ⟨by simp [zbL,hq],rfl,rfl⟩
   ·trivial
   ·exact h.elim
  ·exact h.elim
 ·simp [zbL,List.getElem?_eq_none (show σ.length <= p by omega)]
 ·obtain ⟨h1,h2⟩:=hR.pins p o hp
  obtain ⟨g1,g2⟩:=qdI hg h2
  rw [Nat.zero_add] at g1 g2
  exact ⟨by simp [zbL,g1,h1],g2⟩
 ·have hf:=zrQ hf h
  rw [Nat.zero_add] at hf
  simp only [qg5,Item.isFence,Bool.and_eq_true] at hf
  have h2:H[W.nst]? = some .fence:=by
   have:=hf.2
   unfold ql8 at this
   split at this
   ·assumption
   ·cases this
  intro q hq
  simp only [zbL,zyY hf.1 q hq]
  exact hR.stay h2 q hq

def zdS (σ:Ren) (F:Fr) (H:AH) (F':Fr) (H':AH):Prop:=match zdQ σ&&(Nat.beq σ.length H'.length&&qfK σ H' 0 H) with
 | true=>fitT (fitV σ 3) F F'/\fitH σ H 0 H'
 | false=>False

theorem zjE {σ:Ren} {F F':Fr} {tmps:List Value} (h:zdS σ F H F' H') (hF:Ts R ids F tmps) (hR:Rep W D R ids own H w):Ts R (zbL σ ids) F' tmps/\Rep W D R (zbL σ ids) (zhE σ own) H' w:=by
 unfold zdS at h
 split at h
 ·rename_i hb
  simp only [Bool.and_eq_true] at hb
  exact ⟨qlZ (fun h hv=>zlA h hv) h.1 hF,hR.ren hb.1 (Nat.eq_of_beq_eq_true hb.2.1) hb.2.2 h.2⟩
 ·exact h.elim

def qp7 (n n':Nat):Ren:=(List.range n').map fun p=>match Nat.blt p n with
 | true=>some p
 | false=>none

end Go.Sx
