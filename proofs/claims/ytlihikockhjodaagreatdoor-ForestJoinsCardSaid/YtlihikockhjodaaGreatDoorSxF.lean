import Derived.Test.YtlihikockhjodaaGreatDoorSxD

namespace Go.Sx
variable {W W':Base} {D D':Nat->Prop} {R R':Nat->Option Obj} {ids ids' own own':Nat->Option Nat} {P:Program} {tb:TB} {w w':World} {H H':AH}

def okA (ok:Nat->Bool):Nat->AV->Bool
 | _,.ptr q _ _=>ok q
 | _,.sl q ..=>ok q
 | 0,.agg _=>false
 | 0,.tup _=>false
 | n+1,.agg l=>l.all (okA ok n)
 | n+1,.tup l=>l.all (okA ok n)
 | _,_=>true

abbrev noP (p:Nat):Nat->AV->Bool:=okA (fun q=>!Nat.beq q p)

theorem zi0 {q p:Nat} (h:(!Nat.beq q p)=true):q≠p:=by
 intro e; subst e; simp at h

theorem okA_ptr {ok:Nat->Bool} {q off n:Nat} {path:List (Nat×Nat×Nat)} (h:okA ok n (.ptr q path off)=true):ok q=true:=by cases n <;> simpa [okA] using h
theorem okA_sl {ok:Nat->Bool} {q off es lo m cap n:Nat} {path:List (Nat×Nat×Nat)} (h:okA ok n (.sl q path off es lo m cap)=true):ok q=true:=by cases n <;> simpa [okA] using h
theorem okA_agg {ok:Nat->Bool} {n:Nat} {l:List AV} (h:okA ok (n+1) (.agg l)=true):l.all (okA ok n)=true:=by simpa only [okA] using h
theorem okA_tup {ok:Nat->Bool} {n:Nat} {l:List AV} (h:okA ok (n+1) (.tup l)=true):l.all (okA ok n)=true:=by simpa only [okA] using h
theorem zeN {f:AV->Bool} {a:AV} {l:List AV} (h:(a :: l).all f=true):f a=true/\l.all f=true:=Bool.and_eq_true_iff.1 (by simpa only [List.all_cons] using h)

mutual
theorem V.keep {ok:Nat->Bool}:∀{n:Nat} {ids ids':Nat->Option Nat} {a:AV} {v:Value},(∀q,ok q=true->∀b,ids q=some b->ids' q=some b)->V R ids a v->okA ok n a=true->V R ids' a v
 | _,_,_,_,_,_,.any v,_ => .any v
 | _,_,_,_,_,_,.cell v hv,_ => .cell v hv
 | _,_,_,_,_,_,.fn f,_ => .fn f
 | _,_,_,_,_,_,.int k n,_ => .int k n
 | _,_,_,_,_,_,.bool b,_ => .bool b
 | _,_,_,_,_,_,.str l hl,_ => .str l hl
 | _,_,_,_,_,_,.nilp,_ => .nilp
 | _,_,_,_,_,_,.nils,_ => .nils
 | _,_,_,_,_,hi,.ptr q path off b hb,hn => .ptr q path off b (hi q (okA_ptr hn) b hb)
 | _,_,_,_,_,_,.rp segs off b o cs h3 h4,_ => .rp segs off b o cs h3 h4
 | _,_,_,_,_,hi,.sl q path off es lo m cap a h1 h2 h3,hn =>
   .sl q path off es lo m cap a (fun hc=>let ⟨b,hb,e⟩:=h1 hc; ⟨b,hi q (okA_sl hn) b hb,e⟩) h2 h3
 | _,_,_,_,_,_,.ro es n f b o cap cs h3 h4 h5 h6 h7,_ => .ro es n f b o cap cs h3 h4 h5 h6 h7
 | _,_,_,_,_,_,.ro0 es f a cap hc,_ => .ro0 es f a cap hc
 | 0,_,_,_,_,_,.agg l cs hc,hn=>by simp [okA] at hn
 | n+1,_,_,_,_,hi,.agg l cs hc,hn => .agg l cs (Vs.keep (n:=n) hi hc (okA_agg hn))
 | 0,_,_,_,_,_,.tup l cs hc,hn=>by simp [okA] at hn
 | n+1,_,_,_,_,hi,.tup l vs hc,hn => .tup l vs (Ts.keep (n:=n) hi hc (okA_tup hn))
theorem Vs.keep {ok:Nat->Bool}:∀{n:Nat} {ids ids':Nat->Option Nat} {a:List AV} {v:List Value},(∀q,ok q=true->∀b,ids q=some b->ids' q=some b)->Vs R ids a v->a.all (okA ok n)=true->Vs R ids' a v
 | _,_,_,_,_,_,.nil,_ => .nil
 | _,_,_,_,_,hi,.one a v as vs h1 h2 h3,hn =>
   .one a v as vs h1 (V.keep hi h2 (zeN hn).1) (Vs.keep hi h3 (zeN hn).2)
 | _,_,_,_,_,hi,.arr es n f cs as ws vs h1 h2 h3 h4,hn =>
   .arr es n f cs as ws vs h1 h2 h3 (Vs.keep hi h4 (zeN hn).2)
theorem Ts.keep {ok:Nat->Bool}:∀{n:Nat} {ids ids':Nat->Option Nat} {a:List AV} {v:List Value},(∀q,ok q=true->∀b,ids q=some b->ids' q=some b)->Ts R ids a v->a.all (okA ok n)=true->Ts R ids' a v
 | _,_,_,_,_,_,.nil,_ => .nil
 | _,_,_,_,_,hi,.cons a v as vs h1 h2,hn =>
   .cons a v as vs (V.keep hi h1 (zeN hn).1) (Ts.keep hi h2 (zeN hn).2)
end

theorem V.change {p n:Nat} {a:AV} {v:Value} (hi:∀q,q≠p->∀b,ids q=some b->ids' q=some b) (h:V R ids a v) (hn:noP p n a=true):V R ids' a v:=h.keep (fun q hq=>hi q (zi0 hq)) hn
theorem Vs.change {p n:Nat} {a:List AV} {v:List Value} (hi:∀q,q≠p->∀b,ids q=some b->ids' q=some b) (h:Vs R ids a v) (hn:a.all (noP p n)=true):Vs R ids' a v:=h.keep (fun q hq=>hi q (zi0 hq)) hn
theorem Ts.change {p n:Nat} {a:List AV} {v:List Value} (hi:∀q,q≠p->∀b,ids q=some b->ids' q=some b) (h:Ts R ids a v) (hn:a.all (noP p n)=true):Ts R ids' a v:=h.keep (fun q hq=>hi q (zi0 hq)) hn

def scrubF (ok:Nat->Bool) (F:Fr):Fr:=F.map fun a=>match okA ok 3 a with
 | true=>a
 | false => .any
def scrubC (ok:Nat->Bool) (l:List AV):List AV:=l.map fun a=>match okA ok 0 a with
 | true=>a
 | false => .cell
def scrubJ (ok:Nat->Bool):Item->Item
 | .cells T l => .cells T (scrubC ok l)
 | it=>it
abbrev scrub (p:Nat) (F:Fr):Fr:=scrubF (fun q=>!Nat.beq q p) F
abbrev scrubL (p:Nat) (l:List AV):List AV:=scrubC (fun q=>!Nat.beq q p) l
abbrev qdQ (p:Nat) (it:Item):Item:=scrubJ (fun q=>!Nat.beq q p) it

theorem Ts.scrubF {ok:Nat->Bool} {F:Fr} {vs:List Value} (hi:∀q,ok q=true->∀b,ids q=some b->ids' q=some b) (h:Ts R ids F vs):Ts R ids' (scrubF ok F) vs:=by
 match h with
 | .nil=>exact .nil
 | .cons a v as vs h1 h2 =>
   refine .cons _ v _ vs ?_ (h2.scrubF hi)
   cases hn:okA ok 3 a with
   | true=>simp only [hn]; exact V.keep hi h1 hn
   | false=>simp only [hn]; exact .any _
theorem Ts.scrub {p:Nat} {F:Fr} {vs:List Value} (hi:∀q,q≠p->∀b,ids q=some b->ids' q=some b) (h:Ts R ids F vs):Ts R ids' (scrub p F) vs:=h.scrubF (fun q hq=>hi q (zi0 hq))

theorem V.oneCell {a:AV} {v:Value} (h:V R ids a v) (ho:a.one=true):v.oneCell'=true:=by
 cases h <;> first
  | rfl
  | assumption
  | simp [AV.one] at ho

theorem Vs.oneCell':∀{ids:Nat->Option Nat} {as:List AV} {vs:List Value},Vs R ids as vs->∀v∈vs,v.oneCell'=true
 | _,_,_,.nil=>fun v hv=>by simp at hv
 | _,_,_,.one a v as vs h1 h2 h3=>fun u hu=>by
   rcases List.mem_cons.1 hu with rfl | hu
   ·exact h2.oneCell h1
   ·exact Vs.oneCell' h3 u hu
 | _,_,_,.arr es n f cs as ws vs h1 h2 h3 h4=>fun u hu=>by
   rcases List.mem_append.1 hu with hu | hu
   ·obtain ⟨j,hj,rfl⟩:=List.getElem_of_mem hu
    have hes:0<es:=by
     rcases Nat.eq_zero_or_pos es with e | e
     ·subst e; rw [Nat.zero_mul] at h1; omega
     ·exact e
    have hi:j / es<n:=Nat.div_lt_of_lt_mul (by omega)
    refine Vs.oneCell' (h3 (j / es) hi) ws[j] ?_
    rw [<- h2 _ hi]
    refine List.mem_iff_getElem?.2 ⟨j % es,?_⟩
    have hm:=Nat.mod_lt j hes
    rw [List.getElem?_take,if_pos hm,List.getElem?_drop,Nat.div_add_mod' j es]
    simp [hj]
   ·exact Vs.oneCell' h4 u hu
theorem Vs.oneCell {as:List AV} {vs:List Value} (h:Vs R ids as vs):∀v∈vs,v.oneCell'=true:=Vs.oneCell' h

theorem Vs.scrubC {ok:Nat->Bool} {l:List AV} {vs:List Value} (hi:∀q,ok q=true->∀b,ids q=some b->ids' q=some b) (h:Vs R ids l vs):Vs R ids' (scrubC ok l) vs:=by
 match h with
 | .nil=>exact .nil
 | .one a v as vs h1 h2 h3 =>
   cases hn:okA ok 0 a with
   | true=>simp only [Sx.scrubC,List.map_cons,hn]; exact .one a v _ vs h1 (V.keep hi h2 hn) (h3.scrubC hi)
   | false=>simp only [Sx.scrubC,List.map_cons,hn]; exact .one .cell v _ vs rfl (.cell _ (h2.oneCell h1)) (h3.scrubC hi)
 | .arr es n f cs as ws vs h1 h2 h3 h4=>exact .arr es n f cs _ ws vs h1 h2 h3 (h4.scrubC hi)
theorem Vs.scrubL {p:Nat} {l:List AV} {vs:List Value} (hi:∀q,q≠p->∀b,ids q=some b->ids' q=some b) (h:Vs R ids l vs):Vs R ids' (scrubL p l) vs:=h.scrubC (fun q hq=>hi q (zi0 hq))

theorem Sat.mono {S S':Nat->Prop} {p:Nat} {it:Item} (h:Sat R ids S w p it) (hS:∀b,S b ↔ S' b) (hw:∀b,S b->w'.heap[b]? = w.heap[b]?) (hp:ids' p=ids p)
  (hi:∀q b,ids q=some b->ids' q=some b) (hr:∀b o,R b=some o->R' b=some o):Sat R' ids' S' w' p it:=by
 obtain rfl:S=S':=funext fun b=>propext (hS b)
 cases it with
 | cells T l =>
   obtain ⟨b,cs,h1,h2,h3,h4⟩:=h
   exact ⟨b,cs,hp.trans h1,h2,(hw b h2).trans h3,h4.into hi hr⟩
 | row T es cap n f =>
   rcases h with ⟨h1,h2,h3⟩ | ⟨b,cur,h1,h2,h3,h4,h5,h6,h7⟩
   ·exact .inl ⟨hp.trans h1,h2,h3⟩
   ·exact .inr ⟨b,cur,hp.trans h1,h2,(hw b h2).trans h3,h4,h5,h6,h7.into hi hr⟩
 | view es n f =>
   obtain ⟨b,cur,T,fr,h1,h2,h3,h4,h5⟩:=h
   exact ⟨b,cur,T,fr,hp.trans h1,h2,(hw b h2).trans h3,h4,h5.into hi hr⟩
 | obj A =>
   obtain ⟨b,h1,h2,h3⟩:=h
   exact ⟨b,hp.trans h1,h2,A.here b S w w' hw h3⟩
 | gone=>trivial
 | junk=>trivial
 | fence=>trivial

def upd {α:Type} (f:Nat->α) (k:Nat) (x:α):Nat->α:=fun j=>if j=k then x else f j
theorem zbU {α:Type} (f:Nat->α) (k:Nat) (x:α):upd f k x k=x:=by simp [upd]
theorem zbG {α:Type} (f:Nat->α) {k j:Nat} (x:α) (h:j≠k):upd f k x j=f j:=by simp [upd,h]

theorem lt_of_some {α:Type} {l:List α} {i:Nat} {x:α} (h:l[i]? = some x):i<l.length:=(List.getElem?_eq_some_iff.1 h).1

theorem zjF {H:AH} {it:Item} {k:Nat} (hnf:it≠.fence) (h:(H++[it])[k]? = some .fence):H[k]? = some .fence:=by
 rcases Nat.lt_or_ge k H.length with hlt | hge
 ·rwa [List.getElem?_append_left hlt] at h
 ·rw [List.getElem?_append_right hge] at h
  cases hk:k-H.length with
  | zero=>rw [hk] at h; simp at h; exact absurd h hnf
  | succ j=>rw [hk] at h; simp at h
theorem zmQ {H:AH} {it:Item} {p k:Nat} (hnf:it≠.fence) (h:(H.set p it)[k]? = some .fence):H[k]? = some .fence:=by
 by_cases e:p=k
 ·subst e
  rcases Nat.lt_or_ge p H.length with hlt | hge
  ·rw [List.getElem?_set_self hlt] at h; cases h; exact absurd rfl hnf
  ·rw [List.getElem?_eq_none (by simpa using hge)] at h; cases h
 ·rwa [List.getElem?_set_ne e] at h
theorem zzH {H:AH} {ok:Nat->Bool} {k:Nat} (h:(H.map (scrubJ ok))[k]? = some .fence):H[k]? = some .fence:=by
 rw [List.getElem?_map] at h
 cases hk:H[k]? with
 | none=>rw [hk] at h; cases h
 | some it =>
   rw [hk] at h
   simp only [Option.map_some,Option.some.injEq] at h
   cases it <;> simp [scrubJ] at h ⊢
def Item.isFence:Item->Bool
 | .fence=>true
 | _=>false

def lowF:Nat->AH->Bool
 | _,[]=>true
 | 0,l=>l.all (fun it=>!it.isFence)
 | p+1,_ :: r=>lowF p r
theorem qkY:∀{p:Nat} {H:AH},lowF p H=true->∀k,H[k]? = some .fence->k<p
 | _,[],_,k,hk=>by simp at hk
 | 0,x :: r,h,k,hk=>by
   have h':(x :: r).all (fun it=>!it.isFence)=true:=by simpa [lowF] using h
   have:=List.all_eq_true.1 h' _ (List.mem_of_getElem? hk)
   simp [Item.isFence] at this
 | p+1,x :: r,h,0,hk=>by omega
 | p+1,x :: r,h,k+1,hk=>by
   have:=qkY (p:=p) (H:=r) (by simpa [lowF] using h) k (by simpa using hk)
   omega

theorem Rep.push (hR:Rep W D R ids own H w) {o:Obj} {it:Item} (hh:w'.heap=w.heap.push o) (h1:w'.os=w.os) (h2:w'.tape=w.tape) (h3:w'.output=w.output)
  (hit:Sat R (upd ids H.length (some w.heap.size)) (fun b=>b=w.heap.size) w' H.length it) (hnf:it≠.fence:=by simp) :
  Rep W D R (upd ids H.length (some w.heap.size)) (upd own w.heap.size (some H.length)) (H++[it]) w'/\(∀q b,ids q=some b->upd ids H.length (some w.heap.size) q=some b):=by
 have hid:∀q b,ids q=some b->upd ids H.length (some w.heap.size) q=some b:=fun q b hq=>by
  rw [zbG]; exact hq
  intro e; rw [hR.blind q (by omega)] at hq; cases hq
 have hold:∀b,b<w.heap.size->w'.heap[b]? = w.heap[b]?:=fun b hb=>by rw [hh,Array.getElem?_push,if_neg (by omega)]
 refine ⟨⟨h1.trans hR.os,h2.trans hR.tape,h3.trans hR.output,by rw [hh,Array.size_push]; have:=hR.size; omega,?_,?_,?_,?_,?_,hR.low,hR.high,fun q b hq=>⟨by rw [zbG _ _ (Nat.ne_of_lt (lt_of_some (hR.pins q b hq).2))]; exact (hR.pins q b hq).1,by rw [List.getElem?_append_left (lt_of_some (hR.pins q b hq).2)]; exact (hR.pins q b hq).2⟩,fun h q hq=>by rw [zbG _ _ (Nat.ne_of_lt (Nat.lt_trans hq (lt_of_some (zjF hnf h))))]; exact hR.stay (zjF hnf h) q hq⟩,hid⟩
 ·intro b p hb
  by_cases e:b=w.heap.size
  ·subst e
   rw [zbU] at hb; cases hb
   refine ⟨by rw [hh,Array.size_push]; omega,by simp,?_,.inr hR.size⟩
   cases hq:R w.heap.size with
   | none=>rfl
   | some x=>have:=hR.ro _ _ hq; simp at this
  ·rw [zbG _ _ e] at hb
   have:=hR.owns b p hb
   exact ⟨by rw [hh,Array.size_push]; omega,by simp; omega,this.2.2⟩
 ·intro b hb hd
  have:=hR.size
  rw [hold b (by omega)]; exact hR.keep b hb hd
 ·intro b x hb
  have hx:=hR.ro b x hb
  rw [hold b (Array.getElem?_eq_some_iff.1 hx).1]; exact hx
 ·intro p x hp
  by_cases e:p=H.length
  ·subst e
   rw [List.getElem?_append_right (Nat.le_refl _),Nat.sub_self] at hp
   cases hp
   exact hit.mono (fun b=>by
    by_cases e:b=w.heap.size
    ·subst e; simp [zbU]
    ·simp only [zbG _ _ e,e,false_iff]
     intro hb; have:=(hR.owns b _ hb).2.1; omega) (fun _ _=>rfl) rfl (fun _ _ e=>e) (fun _ _ e=>e)
  ·have hp':H[p]? = some x:=by
    rcases Nat.lt_or_ge p H.length with hlt | hge
    ·rwa [List.getElem?_append_left hlt] at hp
    ·rw [List.getElem?_eq_none (by simp; omega)] at hp; cases hp
   refine (hR.items p x hp').mono (fun b=>?_) (fun b hb=>hold b (hR.owns b p hb).1) (by rw [zbG _ _ e]) hid (fun _ _ e=>e)
   by_cases e':b=w.heap.size
   ·subst e'
    rw [zbU]
    constructor
    ·intro hb; have:=(hR.owns _ _ hb).1; omega
    ·intro hb; cases hb; omega
   ·rw [zbG _ _ e']
 ·intro p hp
  simp at hp
  rw [zbG _ _ (by omega)]; exact hR.blind p (by omega)

theorem Rep.put (hR:Rep W D R ids own H w) {p b:Nat} {it:Item} (hnf:it≠.fence:=by simp) (hng:H[p]?≠some .gone) (hb:own b=some p) (hs:w'.heap.size=w.heap.size) (ho:∀k,k≠b->w'.heap[k]? = w.heap[k]?)
  (h1:w'.os=w.os) (h2:w'.tape=w.tape) (h3:w'.output=w.output) (hit:Sat R ids (fun b=>own b=some p) w' p it):Rep W D R ids own (H.set p it) w':=by
 obtain ⟨g1,g2,g3,g4⟩:=hR.owns b p hb
 refine ⟨h1.trans hR.os,h2.trans hR.tape,h3.trans hR.output,by rw [hs]; exact hR.size,?_,?_,?_,?_,?_,hR.low,hR.high,fun q b hq=>⟨(hR.pins q b hq).1,by rw [List.getElem?_set_ne (fun e=>by subst e; exact hng (hR.pins _ b hq).2)]; exact (hR.pins q b hq).2⟩,fun h=>hR.stay (zmQ hnf h)⟩
 ·intro b' p' hb'
  have:=hR.owns b' p' hb'
  rw [hs,List.length_set]; exact this
 ·intro k hk hd
  rw [ho k (fun e=>by subst e; rcases g4 with g | g; exact hd g; omega)]
  exact hR.keep k hk hd
 ·intro k x hk
  rw [ho k (fun e=>by subst e; rw [g3] at hk; cases hk)]
  exact hR.ro k x hk
 ·intro q x hq
  by_cases e:q=p
  ·subst e
   rw [List.getElem?_set_self g2] at hq; cases hq; exact hit
  ·rw [List.getElem?_set_ne (fun e'=>e e'.symm)] at hq
   exact (hR.items q x hq).mono (fun _=>Iff.rfl) (fun k hk=>ho k (fun e'=>by subst e'; rw [hb] at hk; cases hk; exact e rfl)) rfl (fun _ _ e=>e) (fun _ _ e=>e)
 ·intro q hq
  rw [List.length_set] at hq; exact hR.blind q hq

theorem Rep.same (hR:Rep W D R ids own H w) (hh:w'.heap=w.heap) (h1:w'.os=w.os) (h2:w'.tape=w.tape) (h3:w'.output=w.output):Rep W D R ids own H w':=by
 refine ⟨h1.trans hR.os,h2.trans hR.tape,h3.trans hR.output,by rw [hh]; exact hR.size,by rw [hh]; exact hR.owns,by rw [hh]; exact hR.keep,by rw [hh]; exact hR.ro,?_,hR.blind,hR.low,hR.high,hR.pins,hR.stay⟩
 intro p it hp
 exact (hR.items p it hp).mono (fun _=>Iff.rfl) (fun b _=>by rw [hh]) rfl (fun _ _ e=>e) (fun _ _ e=>e)

theorem Rep.swap (hR:Rep W D R ids own H w) {p:Nat} {o:Obj} {it:Item} (hfen:lowF p H=true) (hnf:it≠.fence:=by simp) (hng:H[p]?≠some .gone) (hp:p<H.length) (hh:w'.heap=w.heap.push o) (h1:w'.os=w.os) (h2:w'.tape=w.tape) (h3:w'.output=w.output)
  (hit:Sat R (upd ids p (some w.heap.size)) (fun b=>b=w.heap.size) w' p it) :
  Rep W D R (upd ids p (some w.heap.size)) (fun b=>if b=w.heap.size then some p else if own b=some p then none else own b) ((H.map (qdQ p)).set p it) w':=by
 have hid:∀q,q≠p->∀b,ids q=some b->upd ids p (some w.heap.size) q=some b:=fun q hq b hb=>by rw [zbG _ _ hq]; exact hb
 have hold:∀b,b<w.heap.size->w'.heap[b]? = w.heap[b]?:=fun b hb=>by rw [hh,Array.getElem?_push,if_neg (by omega)]
 refine ⟨h1.trans hR.os,h2.trans hR.tape,h3.trans hR.output,by rw [hh,Array.size_push]; have:=hR.size; omega,?_,?_,?_,?_,?_,hR.low,hR.high,fun q b hq=>?_,fun h q hq=>?_⟩
 case refine_7 =>
  have hf:=zzH (zmQ hnf h)
  have:=qkY hfen _ hf
  rw [zbG _ _ (by omega)]; exact hR.stay hf q hq
 case refine_6 =>
  have hqp:q≠p:=fun e=>by subst e; exact hng (hR.pins _ b hq).2
  exact ⟨by rw [zbG _ _ hqp]; exact (hR.pins q b hq).1,by rw [List.getElem?_set_ne (fun e=>hqp e.symm),List.getElem?_map,(hR.pins q b hq).2]; rfl⟩
 ·intro b q hb
  by_cases e:b=w.heap.size
  ·subst e
   simp only [if_true,Option.some.injEq] at hb; subst hb
   refine ⟨by rw [hh,Array.size_push]; omega,by simpa using hp,?_,.inr hR.size⟩
   cases hq:R w.heap.size with
   | none=>rfl
   | some x=>have:=hR.ro _ _ hq; simp at this
  ·simp only [if_neg e] at hb
   split at hb
   ·cases hb
   ·have:=hR.owns b q hb
    exact ⟨by rw [hh,Array.size_push]; omega,by simpa using this.2.1,this.2.2⟩
 ·intro b hb hd
  have:=hR.size
  rw [hold b (by omega)]; exact hR.keep b hb hd
 ·intro b x hb
  have hx:=hR.ro b x hb
  rw [hold b (Array.getElem?_eq_some_iff.1 hx).1]; exact hx
 ·intro q x hq
  by_cases e:q=p
  ·subst e
   rw [List.getElem?_set_self (by simpa using hp)] at hq; cases hq
   exact hit.mono (fun b=>by
    by_cases e:b=w.heap.size
    ·simp [e]
    ·simp only [e,if_false,false_iff]
     split
     ·simp
     ·assumption) (fun _ _=>rfl) rfl (fun _ _ e=>e) (fun _ _ e=>e)
  ·rw [List.getElem?_set_ne (fun e'=>e e'.symm),List.getElem?_map] at hq
   cases hq':H[q]? with
   | none=>rw [hq'] at hq; cases hq
   | some y =>
     rw [hq'] at hq
     simp only [Option.map_some,Option.some.injEq] at hq
     subst hq
     have hy:=hR.items q y hq'
     have hS:∀b,own b=some q ↔ (if b=w.heap.size then some p else if own b=some p then none else own b)=some q:=fun b=>by
      by_cases e1:b=w.heap.size
      ·subst e1
       simp only [if_true,Option.some.injEq]
       exact ⟨fun hb=>by have:=(hR.owns _ _ hb).1; omega,fun e'=>absurd e'.symm e⟩
      ·simp only [if_neg e1]
       by_cases e2:own b=some p
       ·simp only [e2,if_true]
        simp; omega
       ·simp only [if_neg e2]
     have hw:∀b,own b=some q->w'.heap[b]? = w.heap[b]?:=fun b hb=>hold b (hR.owns b q hb).1
     have e1:(fun b=>own b=some q)=(fun b=>(if b=w.heap.size then some p else if own b=some p then none else own b)=some q):=funext fun b=>propext (hS b)
     rw [<- e1]
     cases y with
     | cells T l =>
       obtain ⟨b,cs,k1,k2,k3,k4⟩:=hy
       exact ⟨b,cs,hid q e b k1,k2,(hw b k2).trans k3,k4.scrubL hid⟩
     | row T es cap n f =>
       rcases hy with ⟨k1,k2,k3⟩ | ⟨b,cur,k1,k2,k3,k4,k5,k6,k7⟩
       ·exact .inl ⟨by rw [zbG _ _ e]; exact k1,k2,k3⟩
       ·exact .inr ⟨b,cur,hid q e b k1,k2,(hw b k2).trans k3,k4,k5,k6,Vs.change (n:=0) hid k7 (by simp [okA])⟩
     | view es n f =>
       obtain ⟨b,cur,T,fr,k1,k2,k3,k4,k5⟩:=hy
       exact ⟨b,cur,T,fr,hid q e b k1,k2,(hw b k2).trans k3,k4,Vs.change (n:=0) hid k5 (by simp [okA])⟩
     | obj A =>
       obtain ⟨b,k1,k2,k3⟩:=hy
       exact ⟨b,hid q e b k1,k2,A.here b _ w w' hw k3⟩
     | gone=>trivial
     | junk=>trivial
     | fence=>trivial
 ·intro q hq
  simp at hq
  rw [zbG _ _ (by omega)]; exact hR.blind q (by omega)

end Go.Sx


namespace Go.Sx
variable {W W':Base} {D D':Nat->Prop} {R R':Nat->Option Obj} {ids ids' own own':Nat->Option Nat} {P:Program} {tb:TB} {w w':World} {H H':AH}

def Goes (P:Program) (s:Sem Next) (w:World) (G:Value->World->Prop):Prop :=
 (∃v w',s.run P w = .ok (.value v) w'/\G v w')\/(∃w',s.run P w = .ok .skip w'/\G undef w') \/
  ∃f args w',s.run P w = .ok (.enter f args) w'/\Calls P f args w' (fun e w''=>∃v,e = .returned v/\G v w'')

theorem Goes.wp {o:Oper} {a:Act} {next:Act->World->Prop} {Q:Exit->Act->World->Prop} (h:Goes P (execOp a.eval o) w (fun v w'=>next (a.put o.dst v) w')):o.wp P a w next Q:=by
 unfold Oper.wp
 rcases h with ⟨v,w',hr,hg⟩ | ⟨w',hr,hg⟩ | ⟨f,args,w',hr,hc⟩
 ·rw [hr]; exact hg
 ·rw [hr]; exact hg
 ·rw [hr]
  exact hc.mono fun e w'' ⟨v,he,hg⟩=>by subst he; exact hg

def zd7 (W:Base) (D:Nat->Prop) (tmps:List Value) (K:AV->Fr->AH->Prop) (v:Value) (w':World):Prop :=
 ∃av F' H' R' ids' own',V R' ids' av v/\Ts R' ids' F' tmps/\Rep W D R' ids' own' H' w'/\K av F' H'

def zzO (a:AV):Option (List AV):=match a with
 | .agg l=>some l
 | a=>match a.one with
   | true=>some [a]
   | false=>none

theorem zr3 {a:AV} {v:Value} {l:List AV} (h:V R ids a v) (hc:zzO a=some l):Vs R ids l v.cells.toList:=by
 unfold zzO at hc
 split at hc
 ·cases hc
  obtain ⟨cs,rfl,hv⟩:=h.agg_inv
  simpa [Value.cells] using hv
 ·split at hc
  ·rename_i hone
   cases hc
   have ho:=h.oneCell hone
   have e:v.cells.toList=[v]:=by cases v <;> simp_all [Value.cells,Value.oneCell']
   rw [e]
   exact .one a v [] [] hone h .nil
  ·cases hc

def putA (segs:List AV) (off m:Nat) (new:List AV):Option (List AV):=match segs with
 | .arr es n f :: r=>match Nat.beq es m,Nat.beq (off % es) 0,Nat.blt (off / es) n,new.all AV.flat with
   | true,true,true,true=>some (.arr es n (updf f (off / es) new) :: r)
   | _,_,_,_=>putS segs off m new
 | _=>putS segs off m new

theorem putA_ok {segs s' new:List AV} {cs c:List Value} {off m:Nat} (h:Vs R ids segs cs) (hp:putA segs off m new=some s') (hn:Vs R ids new c) (hc:c.length=m) :
  Vs R ids s' (cs.take off++(c++cs.drop (off+m)))/\off+m <= cs.length:=by
 unfold putA at hp
 split at hp
 ·rename_i es n f r
  split at hp
  ·rename_i h1 h2 h3 h4
   cases hp
   have e1:=Nat.eq_of_beq_eq_true h1
   subst e1
   have e2:=Nat.eq_of_beq_eq_true h2
   have e3:off / es<n:=by simpa [Nat.blt_eq] using h3
   have e4:off / es*es=off:=by have:=Nat.div_add_mod' off es; omega
   have:=h.elem_put (i:=off / es) e3 (hn.unbound h4) hc
   have hl:=(h.elem (i:=off / es) e3).2
   rw [e4,List.append_assoc] at this
   rw [e4] at hl
   exact ⟨this,hl⟩
  ·exact qa5 h hp hn
 ·exact qa5 h hp hn

def zzE (place:Nat->Option (Nat×Nat)):List AV->List (Nat×AV)->Option (List AV)
 | segs,[]=>some segs
 | segs,(i,x) :: r=>match place i,zzO x with
   | some (off,size),some new=>match Nat.beq (zf5 new) size with
     | true=>match putA segs off size new with
       | some s=>zzE place s r
       | none=>none
     | false=>none
   | _,_=>none

theorem zzA (off:Nat):∀(v:List Value) (k:Nat) (cs:Array Value),off+k+v.length <= cs.size ->
  ((v.zipIdx k).foldl (fun cs (c,j)=>cs.setIfInBounds (off+j) c) cs).toList=cs.toList.take (off+k)++(v++cs.toList.drop (off+k+v.length))
 | [],k,cs,h=>by simp
 | x :: v,k,cs,h=>by
   simp only [List.zipIdx_cons,List.foldl_cons,List.length_cons] at h ⊢
   rw [zzA off v (k+1) _ (by simp; omega)]
   apply List.ext_getElem?
   intro q
   simp only [List.getElem?_append,List.getElem?_take,List.getElem?_drop,List.length_take,Array.toList_setIfInBounds,List.getElem?_set,List.length_set,Array.length_toList,List.length_cons]
   have e1:min (off+(k+1)) cs.size=off+k+1:=by omega
   have e2:min (off+k) cs.size=off+k:=by omega
   simp only [e1,e2]
   by_cases h1:q<off+k
   ·have a1:q<off+k+1:=by omega
    have a2:q<off+(k+1):=by omega
    have a3:off+k≠q:=by omega
    simp [h1,a1,a2,a3]
   ·by_cases h2:q=off+k
    ·subst h2
     have:off+k<cs.size:=by omega
     simp [this,Nat.add_assoc]
    ·have a1:¬q<off+k+1:=by omega
     obtain ⟨d,rfl⟩:∃d,q=off+k+1+d:=⟨q-(off+k+1),by omega⟩
     have a2:¬off+k+1+d<off+(k+1):=by omega
     have a3:off+k+1+d-(off+k)=d+1:=by omega
     have a4:off+k+1+d-(off+k+1)=d:=by omega
     simp only [h1,a1,if_false,a3,a4,List.getElem?_cons_succ,Nat.add_lt_add_iff_right]
     split
     ·rfl
     ·rw [if_neg (by omega)]
      congr 1
      omega

theorem zkA {place:Nat->Option (Nat×Nat)}:∀{parts:List (Nat×AV)} {vparts:List (Nat×Value)} {segs s':List AV} {cs:List Value},Vs R ids segs cs ->
  parts.map (·.1)=vparts.map (·.1)->Ts R ids (parts.map (·.2)) (vparts.map (·.2))->zzE place segs parts=some s' ->
  ∃cs',Instr.fill place cs.toArray vparts=some cs'/\Vs R ids s' cs'.toList/\cs'.size=cs.length
 | [],vparts,segs,s',cs,h,he,ht,hf=>by
   cases vparts with
   | cons x r=>simp at he
   | nil=>simp only [zzE,Option.some.injEq] at hf; subst hf; exact ⟨_,rfl,h,rfl⟩
 | (i,x) :: r,vparts,segs,s',cs,h,he,ht,hf=>by
   cases vparts with
   | nil=>simp at he
   | cons y vr =>
     obtain ⟨i',v⟩:=y
     simp only [List.map_cons,List.cons.injEq] at he
     obtain ⟨rfl,he⟩:=he
     simp only [List.map_cons] at ht
     cases ht with
     | cons _ _ _ _ hx hr =>
     unfold zzE at hf
     split at hf
     ·rename_i off size new hp hc
      split at hf
      ·rename_i hb
       have hsz:=Nat.eq_of_beq_eq_true hb
       split at hf
       ·rename_i s hs
        have hn:=zr3 hx hc
        have hl:v.cells.toList.length=size:=by rw [hn.length,hsz]
        obtain ⟨g1,g2⟩:=putA_ok h hs hn hl
        have hl':v.cells.size=size:=by simpa using hl
        have e:(v.cells.zipIdx.foldl (fun cs (c,j)=>cs.setIfInBounds (off+j) c) cs.toArray).toList=cs.take off++(v.cells.toList++cs.drop (off+size)):=by
         have:=zzA off v.cells.toList 0 cs.toArray (by simp; omega)
         rw [<- Array.foldl_toList,Array.toList_zipIdx]
         simpa [hl'] using this
        obtain ⟨cs',k1,k2,k3⟩:=zkA g1 he hr hf
        refine ⟨cs',?_,k2,by rw [k3]; simp; omega⟩
        unfold Instr.fill
        simp only [hp,hl']
        rw [if_neg (by simp; omega)]
        rw [<- k1]
        congr 1
        apply Array.ext'
        rw [e]
       ·cases hf
      ·cases hf
     ·cases hf

end Go.Sx
