import Derived.Test.YtlihikockhjodaaGreatDoorSxP
import Derived.Below
import Derived.OpenShut
import Derived.WideShapes
import Derived.Lib.SmallJoins

namespace Go.Sx
variable {W W':Base} {D D':Nat->Prop} {R R':Nat->Option Obj} {ids ids' own own':Nat->Option Nat} {P:Program} {tb:TB} {sp:SP} {w w':World} {H H':AH}

structure Ctr where
 X:Type
 Y:Type
 conv:Bool
 tau:List AV->AH->List Nat
 pre:X->Prop
 args:X->List AV
 heap:X->AH
 Q:X->Y->Prop
 res:X->Y->AV
 its:X->Y->AH
 new:X->Y->AH

structure CtrOk (C:Ctr):Prop where
 len:∀x y,C.pre x->C.Q x y->(C.its x y).length=(C.heap x).length
 noF:∀x y,C.pre x->C.Q x y->Sx.noF (C.its x y)=true/\Sx.noF (C.new x y)=true
 plain:∀x y,C.conv=true->C.pre x->C.Q x y->(plH (C.its x y)/\plH (C.new x y))/\plV 2 (C.res x y)

def zsO (H:AH) (τ:List Nat):AH:=ze8 H τ (τ.map fun _ => .gone)

def ql2 (H:AH):List AV->Nat->(Nat->List AV)->Prop
 | [],_,_=>True
 | a :: r,i,f=>(match f i with
   | [b]=>match b with
     | .ro es n g=>slC H es a (fun n1 f1=>n1=n/\∀j,j<n->f1 j=g j)
     | b=>match b.one with
       | true=>fitV [] 0 a b
       | false=>False
   | _=>False)/\ql2 H r (i+1) f

def zwG (H:AH):AV->Option (List AV)
 | .sl p path off es lo _ _=>match H[p]? with
   | some (.cells _ l)=>match path,off,es,lo with
     | [],0,1,0=>match l.all AV.one with
       | true=>some l
       | false=>none
     | _,_,_,_=>none
   | _=>none
 | _=>none

def zlB (conv:Bool) (H:AH) (τ:List Nat) (a a':AV):Prop:=match conv,a' with
 | true,.ro es n f=>match zwG H a with
   | some l=>match a with
     | .sl _ _ _ _ _ m _=>es=1/\m=n/\m <= l.length/\ql2 H l 0 f
     | _=>False
   | none=>slC H es a (fun n1 f1=>n1=n/\∀i,i<n->f1 i=f i)
 | _,a'=>fitV (zcK τ) 3 a a'
def zt5 (conv:Bool) (H:AH) (τ:List Nat) (a a':AV):Prop:=match a,a' with
 | .agg l,.agg l'=>fitS (zlB conv H τ) l l'
 | a,a'=>zlB conv H τ a a'

theorem qqG {g:AV->AV->Prop} (hr:∀b o,R b=some o->R' b=some o) (hg:∀{a a':AV} {v:Value},g a a'->V R ids a v->V R' ids' a' v):∀{a a':List AV} {v:List Value},fitS g a a'->Vs R ids a v->Vs R' ids' a' v:=by
 intro a a' v h hv
 induction a generalizing a' v with
 | nil =>
   cases a' with
   | nil=>cases hv; exact .nil
   | cons=>exact h.elim
 | cons x r ih =>
   unfold fitS at h
   split at h
   ·exact absurd (by assumption) (List.cons_ne_nil x r)
   ·rename_i e1
    cases e1
    obtain ⟨rfl,rfl,h1,h2⟩:=h
    cases hv with
    | one _ _ _ _ ho=>simp [AV.one] at ho
    | arr _ _ _ cs _ ws vs g1 g2 g3 g4=>exact .arr _ _ _ cs _ ws vs g1 g2 (fun i hi=>by rw [<- h1 i hi]; exact (g3 i hi).into (fun _ _ e=>e) hr) (ih h2 g4)
   ·rename_i e1
    cases e1
    split at h
    ·rename_i h1 h2
     cases hv with
     | one _ v _ vs ho g1 g2=>exact .one _ v _ vs h2 (hg h.1 g1) (ih h.2 g2)
     | arr=>simp [AV.one] at h1
    ·exact h.elim
   ·exact h.elim

theorem qeO {g:AV->AV->Prop} (hg:∀{a a':AV} {v:Value},g a a'->V R ids a v->V R' ids' a' v):∀{a a':List AV} {v:List Value},fitT g a a'->Ts R ids a v->Ts R' ids' a' v:=by
 intro a a' v h hv
 induction a generalizing a' v with
 | nil =>
   cases a' with
   | nil=>cases hv; exact .nil
   | cons=>exact h.elim
 | cons x r ih =>
   cases a' with
   | nil=>exact h.elim
   | cons y r' =>
     cases hv with
     | cons _ v _ vs g1 g2=>exact .cons _ v _ vs (hg h.1 g1) (ih h.2 g2)

theorem hideT_get {τ:List Nat} (hn:zdQ (zcK τ)=true) (hg:zi7 H τ=true) {p:Nat} {it:Item} (h:(zsO H τ)[p]? = some it):it = .gone\/(inT τ p=false/\H[p]? = some it):=by
 unfold zsO at h
 cases ht:inT τ p with
 | false=>rw [zdJ ht] at h; exact .inr ⟨rfl,h⟩
 | true =>
   obtain ⟨q,hq⟩:=zg0.1 ht
   rw [ziQ hn hq (zeS hg hq).1 (by simpa using lt_of_some hq),List.getElem?_map,hq] at h
   simp at h
   exact .inl h.symm

theorem qlM (hR:Rep W D R ids own H w) {τ:List Nat} (hn:zdQ (zcK τ)=true) (hg:zi7 H τ=true):View R ids own (zsO H τ) w:=⟨hR.ro,fun p it hp=>by
 rcases hideT_get hn hg hp with rfl | ⟨_,k⟩
 ·trivial
 ·exact hR.items p it k⟩

theorem qp9 (hR:Rep W D R ids own H w) {τ:List Nat} (hn:zdQ (zcK τ)=true) (hg:zi7 H τ=true) {w2:World} (h2:∀b o,convR true R own τ w b=some o->w2.heap[b]? = some o):Agr R own (zsO H τ) w w2 :=
 ⟨fun b o hb=>h2 b o (zfR hb),fun b p it hb hp hgone=>by
  rcases hideT_get hn hg hp with rfl | ⟨k,_⟩
  ·cases hgone
  ·have hlt:=(hR.owns b p hb).1
   have:convR true R own τ w b=some w.heap[b]:=by
    simp [convR,(hR.owns b p hb).2.2.1,hb,k,hlt]
   rw [h2 b _ this]; simp [hlt]⟩

theorem qrA (hR:Rep W D R ids own H w) {τ:List Nat} (hn:zdQ (zcK τ)=true) (hg:zi7 H τ=true) {es n:Nat} {f:Nat->List AV} {a:AV} {v:Value}
  (h:slC (zsO H τ) es a (fun n1 f1=>n1=n/\∀i,i<n->f1 i=f i)) (hv:V R ids a v):V (convR true R own τ w) ids' (.ro es n f) v:=by
 obtain ⟨n1,f1,⟨rfl,hf⟩,hr⟩:=qiW (qlM hR hn hg) hv h
 have:=hr.ro (w:=w) (ids':=ids') (Rc:=convR true R own τ w) (fun b o hb=>zfR hb) (fun w2 h2=>qp9 hR hn hg h2) (fun b o hb=>zuB hR hb)
 exact this.ro_change hf

theorem ren_nil:zbL [] ids=noIds:=by funext p; simp [zbL,noIds]

theorem ql1 (hR:Rep W D R ids own H w) {τ:List Nat} (hn:zdQ (zcK τ)=true) (hg:zi7 H τ=true) {f:Nat->List AV}:∀{l:List AV} {cs:List Value} {k:Nat},l.all AV.one=true->ql2 (zsO H τ) l k f->Vs R ids l cs ->
  cs.length=l.length/\∀i,i<l.length->∃c,cs[i]? = some c/\Vs (convR true R own τ w) noIds (f (k+i)) [c]:=by
 intro l
 induction l with
 | nil=>intro cs k _ _ hv; cases hv; exact ⟨rfl,fun i hi=>absurd hi (Nat.not_lt_zero _)⟩
 | cons a r ih =>
   intro cs k ho h hv
   obtain ⟨ho1,ho2⟩:=zeN ho
   cases hv with
   | arr=>simp [AV.one] at ho1
   | one _ v _ vs _ h2 h3 =>
     obtain ⟨g1,g2⟩:=h
     obtain ⟨i1,i2⟩:=ih ho2 g2 h3
     refine ⟨by simp [i1],fun i hi=>?_⟩
     cases i with
     | succ i =>
       obtain ⟨c,c1,c2⟩:=i2 i (by simpa using hi)
       exact ⟨c,by simpa using c1,by rwa [show k+(i+1)=k+1+i by omega]⟩
     | zero =>
       refine ⟨v,rfl,?_⟩
       rw [Nat.add_zero]
       split at g1
       ·rename_i b hb
        rw [hb]
        split at g1
        ·exact .one _ _ _ _ rfl (qrA hR hn hg g1 h2) .nil
        ·split at g1
         ·rename_i hone
          have:=zlA g1 h2
          rw [ren_nil] at this
          exact .one _ _ _ _ hone (this.into (fun _ _ e=>e) (fun b o hb=>zfR hb)) .nil
         ·exact g1.elim
       ·exact g1.elim

theorem zt4 (hR:Rep W D R ids own H w) {conv:Bool} {τ:List Nat} (hn:zdQ (zcK τ)=true) (hg:zi7 H τ=true) {a a':AV} {v:Value} (h:zlB conv (zsO H τ) τ a a') (hv:V R ids a v) :
  V (convR conv R own τ w) (zbL (zcK τ) ids) a' v:=by
 unfold zlB at h
 split at h
 ·rename_i es n f
  split at h
  ·rename_i l hl
   unfold zwG at hl
   split at hl
   ·rename_i p path off es' lo m cap
    split at hl
    ·rename_i T l' hp
     split at hl
     ·split at hl
      ·rename_i hall
       cases hl
       obtain ⟨rfl,rfl,hm,hels⟩:=h
       rcases hideT_get hn hg hp with e | ⟨ht,hp'⟩
       ·cases e
       obtain ⟨b,cs,hb,ho,hw,hvs⟩:=hR.items p _ hp'
       obtain ⟨e1,e2⟩:=ql1 hR hn hg hall hels hvs
       cases hv with
       | sl _ _ _ _ _ _ _ a g1 g2 g3 =>
         rcases Nat.eq_zero_or_pos m with rfl | hpos
         ·exact .ro0 1 f a cap g3
         ·obtain ⟨b',hb',rfl⟩:=g1 (by omega)
          rw [hb] at hb'; cases hb'
          simp only [poff,Nat.zero_add,Nat.zero_mul]
          have hRc:convR true R own τ w b=some (.cells cs T (0,0)):=by
           simp [convR,(hR.owns b p ho).2.2.1,ho,ht,hw]
          refine .ro 1 m f b 0 cap (fun i=>[cs.toList.getD i default]) g2 g3 (fun _ _=>rfl) (fun i hi j hj=>?_) (fun i hi=>?_)
          ·obtain rfl:j=0:=by omega
           obtain ⟨c,c1,_⟩:=e2 i (by omega)
           have c1':cs[i]? = some c:=by simpa using c1
           have c2:cs.toList[i]? = some c:=c1
           simp only [Nat.zero_add,Nat.mul_one,Nat.add_zero,rcell,hRc,List.getD_eq_getElem?_getD,c2,c1']
           rfl
          ·obtain ⟨c,c1,c2⟩:=e2 i (by omega)
           rw [Nat.zero_add] at c2
           rw [List.getD_eq_getElem?_getD,c1]
           exact c2
      ·cases hl
     ·cases hl
    ·cases hl
   ·cases hl
  ·exact qrA hR hn hg h hv
 ·exact (zlA h hv).into (fun _ _ e=>e) (fun b o hb=>zfR hb)

theorem zzD (hR:Rep W D R ids own H w) {conv:Bool} {τ:List Nat} (hn:zdQ (zcK τ)=true) (hg:zi7 H τ=true) {a a':AV} {v:Value} (h:zt5 conv (zsO H τ) τ a a') (hv:V R ids a v) :
  V (convR conv R own τ w) (zbL (zcK τ) ids) a' v:=by
 unfold zt5 at h
 split at h
 ·cases hv with
  | agg _ cs hc=>exact .agg _ cs (qqG (fun b o hb=>zfR hb) (fun h hv=>zt4 hR hn hg h hv) h hc)
 ·exact zt4 hR hn hg h hv

def zaA (C:Ctr):Spec:=fun args H K=>match zdQ (zcK (C.tau args H))&&zi7 H (C.tau args H) with
 | true=>∃x,(fitT (zt5 C.conv (zsO H (C.tau args H)) (C.tau args H)) args (C.args x)/\(Nat.beq (C.tau args H).length (C.heap x).length=true/\fitH (zcK (C.tau args H)) H 0 (C.heap x))) /\
   C.pre x/\∀y,C.Q x y->K (renA (outR (C.tau args H) H.length) 3 (C.res x y)) (zrB H (C.tau args H) (C.its x y) (C.new x y))
 | false=>False

def resOne (tmps:Array Value):ResultVar->Sem Value
 | .tmp t=>pure (tmps.getD t undef)
 | .cell a t=>do loadVar t (<- asAddr (tmps.getD a undef))
theorem qfZ (fn:Func) (tmps:Array Value):results fn tmps=(do
  let vs <- fn.results.mapM (resOne tmps)
  pure (if h:vs.size=1 then vs[0] else .tuple vs)):=rfl

theorem aRes_ok (ht:TBok P tb) (hR:View R ids own H w) {F:Fr} {tmps:Array Value} (hF:Ts R ids F tmps.toList):∀{l:List ResultVar} {K:List AV->Prop},aRes tb l F H K ->
  ∃as vs,(l.mapM (resOne tmps)).run P w = .ok vs w/\Ts R ids as vs/\K as:=by
 intro l
 induction l with
 | nil=>intro K h; exact ⟨[],[],by simp,.nil,h⟩
 | cons r l ih =>
   intro K h
   have hget:∀t,V R ids (F.getD t .any) (tmps.getD t undef):=fun t=>by
    have:=hF.get t undef
    simpa [Array.getD_eq_getD_getElem?,List.getD_eq_getElem?_getD] using this
   cases r with
   | tmp t =>
     obtain ⟨as,vs,h1,h2,h3⟩:=ih h
     refine ⟨_,tmps.getD t undef :: vs,?_,.cons _ _ _ _ (hget t) h2,h3⟩
     simp only [List.mapM_cons,resOne,Sem.run_bind,Sem.run_pure,Result.andThen_ok,h1]
   | cell a t =>
     obtain ⟨av,v,g1,g2,g3⟩:=zwR (P:=P) ht hR (hget a) h
     obtain ⟨as,vs,h1,h2,h3⟩:=ih g3
     have g1:=g1 w hR.refl
     have hp:∃ad,tmps.getD a undef = .pointer (some ad):=by
      have hv:=hget a
      simp only [aRes] at h
      unfold qhK at h
      split at h
      ·rename_i e; rw [e] at hv; obtain ⟨b,_,k⟩:=hv.ptr_some; exact ⟨_,k⟩
      ·rename_i e; rw [e] at hv; obtain ⟨b,k⟩:=hv.rp_some; exact ⟨_,k⟩
      ·exact h.elim
     obtain ⟨ad,had⟩:=hp
     rw [had] at g1
     have g1':(loadVar t ad).run P w = .ok v w:=by simpa [Instr.loadAt,Instr.sureAddr] using g1
     refine ⟨_,v :: vs,?_,.cons _ _ _ _ g2 h2,h3⟩
     have ha:(asAddr (tmps.getD a undef)).run P w = .ok ad w:=by rw [had]; simp [asAddr]
     simp only [List.mapM_cons,resOne,Sem.run_bind,ha,Sem.run_pure,Result.andThen_ok,g1',h1]

theorem ztC (ht:TBok P tb) (hR:View R ids own H w) {fn:Func} {F:Fr} {tmps:Array Value} {K:AV->Prop} (hF:Ts R ids F tmps.toList) (h:aRes tb fn.results.toList F H (fun l=>K (zhG l))) :
  ∃av v,(results fn tmps).run P w = .ok v w/\V R ids av v/\K av:=by
 obtain ⟨as,vs,h1,h2,h3⟩:=aRes_ok (P:=P) ht hR (K:=fun l=>K (zhG l)) hF h
 have hm:(fn.results.mapM (resOne tmps)).run P w = .ok vs.toArray w:=by
  rw [Array.mapM_eq_mapM_toList]
  simp only [Sem.run_map,h1,Result.andThen_ok]
 refine ⟨zhG as,if h:vs.toArray.size=1 then vs.toArray[0] else .tuple vs.toArray,?_,?_,h3⟩
 ·rw [qfZ,Sem.run_bind,hm]
  simp
 ·cases h2 with
  | nil=>exact .tup [] [] .nil
  | cons a v as vs g1 g2 =>
    cases g2 with
    | nil=>exact g1
    | cons b u bs us k1 k2=>exact .tup _ _ (.cons _ _ _ _ g1 (.cons _ _ _ _ k1 k2))

end Go.Sx


namespace Go.Sx
variable {W W':Base} {D D':Nat->Prop} {R R':Nat->Option Obj} {ids ids' own own':Nat->Option Nat} {P:Program} {tb:TB} {sp:SP} {w w':World} {H H':AH}

def zcA (tb:TB) (sp:SP) (fn:Func) (C:Ctr) (an:C.X->An) (σ:C.X->AV->AH->Option Ren) (op:C.X->List (Nat×Opn)) (cl:C.X->C.Y->AV->AH->List (Nat×List Nat×Opn)):Prop:=match fn.body with
 | some c=>∀x,C.pre x->znM (op x) (C.heap x++[.fence]) (fun H0=>aFn tb sp (an x) fn.ntmps fn.results.toList c (C.args x) H0 (fun av H' =>
   ∃y,zcC (cl x y av H') H' (fun H'=>zdS (zgA (σ x av H') H'.length (C.its x y ++ .fence :: C.new x y).length) [av] H' [C.res x y] (C.its x y ++ .fence :: C.new x y)/\C.Q x y)))
 | none=>False

def fnVC (tb:TB) (sp:SP) (fn:Func) (C:Ctr) (an:C.X->An) (σ:C.X->Option Ren):Prop:=zcA tb sp fn C an (fun x _ _=>σ x) (fun _=>[]) (fun _ _ _ _=>[])

theorem Ts.append {as bs:List AV} {vs us:List Value} (h:Ts R ids as vs) (h':Ts R ids bs us):Ts R ids (as++bs) (vs++us):=by
 induction as generalizing vs with
 | nil=>cases h; exact h'
 | cons a r ih =>
   cases h with
   | cons _ v _ vs h1 h2=>exact .cons _ _ _ _ h1 (ih h2)

theorem Ts.undefs:∀n,Ts R ids (List.replicate n (.tup [])) (List.replicate n undef)
 | 0 => .nil
 | n+1 => .cons _ _ _ _ V.undef (Ts.undefs n)

theorem Code.wp_body {fn:Func} {G:Ending->World->Prop} {K:Ex->Fr->AH->Prop} {c:Code} {a:Act} (h:c.wp P (Post W D K) a w) (hx:∀id F H,¬K (.exit id) F H)
  (hn:∀a w,Told W D (K .normal) a w->a.defers=[]/\∃v,(results fn a.tmps).run P w = .ok v w/\G (.returned v) w)
  (hr:∀a w,Told W D (K .ret) a w->a.defers=[]/\∃v,(results fn a.tmps).run P w = .ok v w/\G (.returned v) w):c.wp P (bodyPost P fn G) a w:=by
 refine wp_mono h fun e a w q=>?_
 cases e with
 | normal=>exact hn a w q
 | exit id=>obtain ⟨_,F,H,_,_,_,_,_,k⟩:=q; exact (hx id F H k).elim
 | ret=>exact hr a w q
 | goto l=>exact q.elim
 | panic c=>exact q.elim
 | outgrown=>exact q.elim

theorem za0 (hm:P.follows .mixedOrders=true) (ht:TBok P tb) (hs:SPok P sp) {f:Nat} {fn:Func} (hf:P.funcs[f]? = some fn) (hname:(fn.name == "runtime.NumGoroutine")=false) {C:Ctr} (hC:CtrOk C)
  {an:C.X->An} {σ:C.X->AV->AH->Option Ren} {op:C.X->List (Nat×Opn)} {cl:C.X->C.Y->AV->AH->List (Nat×List Nat×Opn)} (hv:zcA tb sp fn C an σ op cl):SpecOk P f (zaA C):=by
 unfold zcA at hv
 split at hv
 ·rename_i c hb
  refine ⟨⟨fn,hf,hname,by rw [hb]; rfl⟩,fun W D R ids own H w args vals K hgl hargs hR h=>?_⟩
  unfold zaA at h
  split at h
  ·rename_i hng
   simp only [Bool.and_eq_true] at hng
   obtain ⟨hn,hg⟩:=hng
   obtain ⟨x,⟨ha,hl,hh⟩,hx,hK⟩:=h
   have hl:=Nat.eq_of_beq_eq_true hl
   generalize hτ:C.tau args H=τ at *
   have henter0:=hR.enter C.conv hn hl hh
   obtain ⟨H0,ids0,own0,henter,hids0,hv0⟩:=zj3 henter0 (hv x hx)
   have hvals0:Ts (convR C.conv R own τ w) (zbL (zcK τ) ids) (C.args x) vals:=qeO (fun h hv=>zzD hR hn hg h hv) ha hargs
   have hvals:=hvals0.into hids0 (fun _ _ e=>e)
   have hlen:(C.args x).length=vals.length:=hvals.length
   refine calls_of_wp hf hb ?_
   refine Code.wp_body (zdY hm ht ⟨hs,hgl.of fun b o hb=>zfR (hR.low b o hb)⟩ c (an:=an x) (K:=fun e F H=>match e with
    | .exit _=>False
    | _=>aRes tb fn.results.toList F H (fun l=>∃y,zcC (cl x y (zhG l) H) H (fun H=>zdS (zgA (σ x (zhG l) H) H.length (C.its x y ++ .fence :: C.new x y).length) [zhG l] H [C.res x y] (C.its x y ++ .fence :: C.new x y)/\C.Q x y)))
    ⟨rfl,_,_,_,_,_,?_,henter,hv0⟩) (fun id F H h=>h) ?_ ?_
   ·have:=hvals.append (Ts.undefs (R:=convR C.conv R own τ w) (ids:=ids0) (fn.ntmps-(C.args x).length))
    simpa [hlen] using this
   all_goals
    intro a w' ⟨hd,F,H',R',ids',own',hF',hR',hr⟩
    refine ⟨hd,?_⟩
    obtain ⟨av,v,h1,h2,y,hcl⟩:=ztC (P:=P) ht hR'.view (K:=fun av=>∃y,zcC (cl x y av H') H' (fun H'=>zdS (zgA (σ x av H') H'.length (C.its x y ++ .fence :: C.new x y).length) [av] H' [C.res x y] (C.its x y ++ .fence :: C.new x y)/\C.Q x y)) hF' hr
    obtain ⟨H'',own'',hR',hfit,hQ⟩:=zeD hR' hcl
    obtain ⟨k1,k2⟩:=zjE hfit (.cons _ _ _ _ h2 .nil) hR'
    have hv2:V R' (zbL (zgA (σ x av H'') H''.length (C.its x y ++ .fence :: C.new x y).length) ids') (C.res x y) v:=by
     cases k1 with
     | cons _ _ _ _ h _=>exact h
    have hits:(C.its x y).length=τ.length:=(hC.len x y hx hQ).trans hl.symm
    obtain ⟨f1,f2⟩:=hC.noF x y hx hQ
    have hleave:=hR.leave hn hg hits f1 f2 (fun hc=>(hC.plain x y hc hx hQ).1) k2
    refine ⟨v,h1,v,rfl,_,_,_,_,_,?_,hleave,zo8 hR,zl8 k2,hK y hQ⟩
    refine zuZ (zvJ hg hits k2) 3 ?_
    cases hc:C.conv with
    | true=>exact qdY (hC.plain x y hc hx hQ).2 hv2
    | false=>exact hv2
  ·exact h.elim
 ·exact hv.elim

theorem zaK (hm:P.follows .mixedOrders=true) (ht:TBok P tb) (hs:SPok P sp) {f:Nat} {fn:Func} (hf:P.funcs[f]? = some fn) (hname:(fn.name == "runtime.NumGoroutine")=false) {C:Ctr} (hC:CtrOk C)
  {an:C.X->An} {σ:C.X->Option Ren} (hv:fnVC tb sp fn C an σ):SpecOk P f (zaA C):=za0 hm ht hs hf hname hC hv

def zdF (s1 s2:Spec):Spec:=fun args H K=>match args with
 | .ptr p _ _ :: _=>match H[p]? with
   | some (.obj _)=>s1 args H K
   | _=>s2 args H K
 | _=>s2 args H K
theorem zbR {f:Nat} {s1 s2:Spec} (h1:SpecOk P f s1) (h2:SpecOk P f s2):SpecOk P f (zdF s1 s2):=by
 refine ⟨h1.fn,fun W D R ids own H w args vals K hgl hargs hR h=>?_⟩
 unfold zdF at h
 split at h
 ·split at h
  ·exact h1.ok W D R ids own H w _ vals K hgl hargs hR h
  ·exact h2.ok W D R ids own H w _ vals K hgl hargs hR h
 ·exact h2.ok W D R ids own H w _ vals K hgl hargs hR h

def zxD (s1 s2:Spec):Spec:=fun args H K=>match args with
 | .ptr p _ _ :: .ptr q _ _ :: _=>match Nat.beq p q with
   | true=>s1 args H K
   | false=>s2 args H K
 | _=>s2 args H K
theorem zp6 {f:Nat} {s1 s2:Spec} (h1:SpecOk P f s1) (h2:SpecOk P f s2):SpecOk P f (zxD s1 s2):=by
 refine ⟨h1.fn,fun W D R ids own H w args vals K hgl hargs hR h=>?_⟩
 unfold zxD at h
 split at h
 ·split at h
  ·exact h1.ok W D R ids own H w _ vals K hgl hargs hR h
  ·exact h2.ok W D R ids own H w _ vals K hgl hargs hR h
 ·exact h2.ok W D R ids own H w _ vals K hgl hargs hR h

def ze5 (g:List AV->Bool) (s1 s2:Spec):Spec:=fun args H K=>match g args with
 | true=>s1 args H K
 | false=>s2 args H K
theorem zdG {f:Nat} {g:List AV->Bool} {s1 s2:Spec} (h1:SpecOk P f s1) (h2:SpecOk P f s2):SpecOk P f (ze5 g s1 s2):=by
 refine ⟨h1.fn,fun W D R ids own H w args vals K hgl hargs hR h=>?_⟩
 unfold ze5 at h
 split at h
 ·exact h1.ok W D R ids own H w _ vals K hgl hargs hR h
 ·exact h2.ok W D R ids own H w _ vals K hgl hargs hR h

def qrQ (i:Nat) (n:Int) (args:List AV):Bool:=match args[i]? with
 | some (.int _ m)=>decide (m=n)
 | _=>false
def qeU (i:Nat) (args:List AV):Bool:=match args[i]? with
 | some .nilp=>true
 | _=>false

theorem TBok0.nil:TBok0 P []:=fun _ h=>by simp at h
theorem TBok0.cons {t:Nat} {ti:TI} {r:TB} (h:TIok P t ti) (hr:TBok0 P r):TBok0 P ((t,ti) :: r):=fun x hx=>by
 rcases List.mem_cons.1 hx with rfl | hx
 ·exact h
 ·exact hr x hx
theorem SPok.nil:SPok P []:=fun _ h=>by simp at h
theorem SPok.cons {f:Nat} {s:Spec} {r:SP} (h:SpecOk P f s) (hr:SPok P r):SPok P ((f,s) :: r):=fun x hx=>by
 rcases List.mem_cons.1 hx with rfl | hx
 ·exact h
 ·exact hr x hx

def Tr:Nat->Prop->Prop
 | 0,p=>p
 | n+1,p=>True/\Tr n p
theorem Tr_eq:∀n p,Tr n p=p
 | 0,_=>rfl
 | n+1,p=>by simp [Tr,Tr_eq n p]

def Exx (T:Type) (p:T->Prop):Prop:=∃x,p x

def zbN (X:Type) (pre:X->Prop) (args:X->List AV) (res:X->AV):Ctr where
 X:=X
 Y:=Unit
 conv:=true
 tau:=fun _ _=>[]
 pre:=pre
 args:=args
 heap:=fun _=>[]
 Q:=fun _ _=>True
 res:=fun x _=>res x
 its:=fun _ _=>[]
 new:=fun _ _=>[]
theorem zaO {X:Type} {pre:X->Prop} {args:X->List AV} {res:X->AV} (h:∀x,plV 2 (res x)):CtrOk (zbN X pre args res) :=
 ⟨fun _ _ _ _=>rfl,fun _ _ _ _=>⟨rfl,rfl⟩,fun x _ _ _ _=>⟨⟨trivial,trivial⟩,h x⟩⟩

theorem BC_iff {b:Bool} {t e:Prop}:BC b t e ↔ (b=true->t)/\(b=false->e):=by cases b <;> simp [BC]

def frm0 (l:List (Nat×AV)):Nat->Nat->Fr
 | _,0=>[]
 | i,n+1=>(match lkN l i with
   | some a=>a
   | none => .any) :: frm0 l (i+1) n
def frm (n:Nat) (l:List (Nat×AV)):Fr:=frm0 l 0 n

end Go.Sx


namespace Go.Sx
open Go.RowKit
variable {P:Program}

def roAll (w:World):Nat->Option Obj:=fun b=>w.heap[b]?

theorem lawOk {f:Nat} {X:Type} {pre:X->Prop} {args:X->List AV} (h:SpecOk P f (zaA (zbN X pre args fun _ => .bool true))) (w:World) (hgl:hasTab P=true->∃cs T fr,cs.toList=tabCells/\w.heap[0]? = some (.cells cs T fr)) (x:X) (hx:pre x)
  (hfit:fitT (zt5 true [] []) (args x) (args x)) {vals:List Value} (hv:Ts (roAll w) noIds (args x) vals):Calls P f vals.toArray w fun e w'=>e = .returned (.bool true)/\Below w.heap.size w w':=by
 refine (h.ok { w with R:=roAll w,pins:=fun _=>none,nst:=0,ids0:=noIds } (fun _=>False) (roAll w) noIds (fun _=>none) [] w (args x) vals (fun av _=>av = .bool true) hgl hv ?_ ?_).mono ?_
 ·exact ⟨rfl,rfl,rfl,Nat.le_refl _,fun b p hb=>(by cases hb),fun _ _ _=>rfl,fun _ _ hb=>hb,fun p it hp=>(by simp at hp),fun _ _=>rfl,fun _ _ hb=>hb,fun _ _ hb=>hb,fun _ _ hb=>(by cases hb),fun _ q _=>rfl⟩
 ·exact ⟨x,⟨hfit,rfl,trivial⟩,hx,fun _ _=>rfl⟩
 ·rintro e w' ⟨v,rfl,av,H',R',ids',own',h1,h2,_,_,rfl⟩
  rw [h1.bool_inv]
  exact ⟨rfl,⟨h2.os,h2.tape,h2.output,h2.size,fun k hk=>h2.keep k hk (fun hf=>hf)⟩⟩

theorem wf_i64 {n:Int} (h:(Lit.int .i64 n).wf=true):I64 n:=by
 simp only [Lit.wf,Bool.and_eq_true,decide_eq_true_eq] at h
 have e1:IntKind.min .i64 = -9223372036854775808:=by decide
 have e2:IntKind.max .i64=9223372036854775807:=by decide
 rw [e1,e2] at h; exact h
end Go.Sx


namespace Go.Sx
open Go.RowKit Go.ChangeShapes Go.WideShapes Go.Joins Go.Deep
variable {P:Program} {w:World} {base:Nat} {spare:Nat->Bool} {held:Bool} {HH:Type} {enc:TypeId×Value->HH}

end Go.Sx


namespace Go.Sx

theorem zfK {k:IntKind} (hs:k.signed=false) {a:Nat} (ha:a<2 ^ k.bits):k.wrap (a:Int)=a:=by
 unfold IntKind.wrap
 simp only [hs,Bool.false_and,Bool.false_eq_true,if_false]
 have h:((2 ^ k.bits:Nat):Int)=(2:Int) ^ k.bits:=by norm_cast
 rw [<- h]
 exact_mod_cast Nat.mod_eq_of_lt ha

theorem zc3 {n a:Nat} (ha:a<2 ^ n):(BitVec.ofInt n (a:Int)).toNat=a:=by
 rw [BitVec.ofInt_natCast,BitVec.toNat_ofNat,Nat.mod_eq_of_lt ha]

theorem zwI {k:IntKind} (hs:k.signed=false) {a b:Nat} (ha:a<2 ^ k.bits) (hb:b<2 ^ k.bits):bits .xor k (a:Int) (b:Int)=((a ^^^ b:Nat):Int):=by
 unfold bits
 simp only [BitVec.toNat_xor,zc3 ha,zc3 hb]
 exact zfK hs (Nat.xor_lt_two_pow ha hb)
theorem zpM {k:IntKind} (hs:k.signed=false) {a b:Nat} (ha:a<2 ^ k.bits) (hb:b<2 ^ k.bits):bits .and k (a:Int) (b:Int)=((a &&& b:Nat):Int):=by
 unfold bits
 simp only [BitVec.toNat_and,zc3 ha,zc3 hb]
 exact zfK hs (Nat.and_lt_two_pow _ hb)
theorem qmR {k:IntKind} (hs:k.signed=false) {a b:Nat} (ha:a<2 ^ k.bits) (hb:b<2 ^ k.bits):bits .or k (a:Int) (b:Int)=((a ||| b:Nat):Int):=by
 unfold bits
 simp only [BitVec.toNat_or,zc3 ha,zc3 hb]
 exact zfK hs (Nat.or_lt_two_pow ha hb)

theorem zuR {a i:Nat} {n:Nat} (h:i <= n):(a:Int).fdiv (2 ^ min i n)=((a / 2 ^ i:Nat):Int):=by
 rw [Nat.min_eq_left h,Int.fdiv_eq_ediv_of_nonneg _ (by exact_mod_cast Nat.zero_le _)]
 norm_cast
theorem qiX {k:IntKind} (hs:k.signed=false) {a i n:Nat} (h:i <= n) (ha:a*2 ^ i<2 ^ k.bits):k.wrap ((a:Int)*2 ^ min i n)=((a*2 ^ i:Nat):Int):=by
 rw [Nat.min_eq_left h]
 have:(a:Int)*2 ^ i=((a*2 ^ i:Nat):Int):=by norm_cast
 rw [this,zfK hs ha]
theorem znL {a b i:Nat} (h:a<2 ^ i):a ||| b*2 ^ i=a+b*2 ^ i:=by
 rw [Nat.or_comm,Nat.mul_comm b,<- Nat.two_pow_add_eq_or_of_lt h,Nat.add_comm]
end Go.Sx


namespace Go.Sx

theorem zeJ {α:Type} {l m:List α} (d:α) (h1:l.length=m.length) (h2:∀i,i<m.length->l.getD i d=m.getD i d):l=m:=by
 refine List.ext_getElem h1 fun i hi hj=>?_
 have:=h2 i hj
 rwa [List.getD_eq_getElem?_getD,List.getD_eq_getElem?_getD,List.getElem?_eq_getElem hi,List.getElem?_eq_getElem hj] at this

theorem int1 {k:IntKind} {a b:Int}:([AV.int k a]=[AV.int k b]) ↔ a=b:=by simp
theorem nat1 {k:IntKind} {a b:Nat}:([AV.int k (a:Int)]=[AV.int k (b:Int)]) ↔ a=b:=by simp [Int.ofNat_inj]

theorem nats_iff {k:IntKind} {l m:List Nat}:(l.length=m.length/\∀i,i<m.length->[AV.int k ((l.getD i 0:Nat):Int)]=[AV.int k ((m.getD i 0:Nat):Int)]) ↔ l=m :=
 ⟨fun h=>zeJ 0 h.1 fun i hi=>nat1.1 (h.2 i hi),fun h=>by subst h; exact ⟨rfl,fun _ _=>rfl⟩⟩
theorem nats_iff' {k:IntKind} {l m:List Nat} {P:Prop}:(l.length=m.length/\(∀i,i<m.length->[AV.int k ((l.getD i 0:Nat):Int)]=[AV.int k ((m.getD i 0:Nat):Int)])/\P) ↔ (l=m/\P):=by
 rw [<- and_assoc,nats_iff]
theorem ints_iff {k:IntKind} {l m:List Int}:(l.length=m.length/\∀i,i<m.length->[AV.int k (l.getD i 0)]=[AV.int k (m.getD i 0)]) ↔ l=m :=
 ⟨fun h=>zeJ 0 h.1 fun i hi=>int1.1 (h.2 i hi),fun h=>by subst h; exact ⟨rfl,fun _ _=>rfl⟩⟩
theorem ints_iff' {k:IntKind} {l m:List Int} {P:Prop}:(l.length=m.length/\(∀i,i<m.length->[AV.int k (l.getD i 0)]=[AV.int k (m.getD i 0)])/\P) ↔ (l=m/\P):=by
 rw [<- and_assoc,ints_iff]

theorem ro_nats {k:IntKind} {l m:List Nat}:(AV.ro 1 l.length (fun i=>[AV.int k ((l.getD i 0:Nat):Int)])=AV.ro 1 m.length (fun i=>[AV.int k ((m.getD i 0:Nat):Int)])) ↔ l=m:=by
 constructor
 ·intro h
  simp only [AV.ro.injEq,true_and] at h
  refine zeJ 0 h.1 fun i _=>nat1.1 (congrFun h.2 i)
 ·intro h; subst h; rfl
theorem qdR {k:IntKind} {l m:List Nat}:([AV.ro 1 l.length (fun i=>[AV.int k ((l.getD i 0:Nat):Int)])]=[AV.ro 1 m.length (fun i=>[AV.int k ((m.getD i 0:Nat):Int)])]) ↔ l=m:=by
 rw [<- ro_nats (k:=k)]; simp
theorem natss_iff {k:IntKind} {l m:List (List Nat)}:(l.length=m.length/\∀i,i<m.length->[AV.ro 1 (l.getD i []).length (fun j=>[AV.int k (((l.getD i []).getD j 0:Nat):Int)])]=[AV.ro 1 (m.getD i []).length (fun j=>[AV.int k (((m.getD i []).getD j 0:Nat):Int)])]) ↔ l=m :=
 ⟨fun h=>zeJ [] h.1 fun i hi=>qdR.1 (h.2 i hi),fun h=>by subst h; exact ⟨rfl,fun _ _=>rfl⟩⟩
theorem natss_iff' {k:IntKind} {l m:List (List Nat)} {P:Prop}:(l.length=m.length/\(∀i,i<m.length->[AV.ro 1 (l.getD i []).length (fun j=>[AV.int k (((l.getD i []).getD j 0:Nat):Int)])]=[AV.ro 1 (m.getD i []).length (fun j=>[AV.int k (((m.getD i []).getD j 0:Nat):Int)])])/\P) ↔ (l=m/\P):=by
 rw [<- and_assoc,natss_iff]

theorem one_iff {k:IntKind} {l:List Nat} {m:List (List Nat)} {P:Prop}:(1=m.length/\(∀i,i<m.length->(if i=0 then [AV.ro 1 l.length fun i=>[AV.int k ((l.getD i 0:Nat):Int)]] else [AV.nils]) =
  [AV.ro 1 (m.getD i []).length fun j=>[AV.int k (((m.getD i []).getD j 0:Nat):Int)]])/\P) ↔ ([l]=m/\P):=by
 rw [<- and_assoc]
 refine and_congr_left fun _=>⟨fun ⟨h1,h2⟩=>?_,fun h=>?_⟩
 ·match m,h1 with
  | [a],_ =>
    have:=h2 0 (by simp)
    simp only [if_true,List.getD_cons_zero] at this
    rw [qdR.1 this]
 ·subst h
  refine ⟨rfl,fun i hi=>?_⟩
  have:i=0:=by simpa using hi
  subst this; rfl
theorem two_iff {k:IntKind} {l r:List Nat} {m:List (List Nat)} {P:Prop}:(2=m.length/\(∀i,i<m.length->(if i=1 then [AV.ro 1 r.length fun i=>[AV.int k ((r.getD i 0:Nat):Int)]] else
   if i=0 then [AV.ro 1 l.length fun i=>[AV.int k ((l.getD i 0:Nat):Int)]] else [AV.nils]) =
  [AV.ro 1 (m.getD i []).length fun j=>[AV.int k (((m.getD i []).getD j 0:Nat):Int)]])/\P) ↔ ([l,r]=m/\P):=by
 rw [<- and_assoc]
 refine and_congr_left fun _=>⟨fun ⟨h1,h2⟩=>?_,fun h=>?_⟩
 ·match m,h1 with
  | [a,b],_ =>
    have e0:=h2 0 (by simp)
    have e1:=h2 1 (by simp)
    simp at e0 e1
    have f0:l=a:=zeJ 0 e0.1 fun i _=>by have:=congrFun e0.2 i; simpa [Int.ofNat_inj,List.getD_eq_getElem?_getD] using this
    have f1:r=b:=zeJ 0 e1.1 fun i _=>by have:=congrFun e1.2 i; simpa [Int.ofNat_inj,List.getD_eq_getElem?_getD] using this
    rw [f0,f1]
 ·subst h
  refine ⟨rfl,fun i hi=>?_⟩
  have:i=0\/i=1:=by simp at hi; omega
  rcases this with rfl | rfl <;> rfl

theorem one_get {α:Type} {d a:α} {m:List α} {P:Prop}:(1=m.length/\a=m.getD 0 d/\P) ↔ ([a]=m/\P):=by
 rw [<- and_assoc]
 refine and_congr_left fun _=>⟨fun ⟨h1,h2⟩=>?_,fun h=>by subst h; exact ⟨rfl,rfl⟩⟩
 match m,h1 with
 | [b],_=>rw [h2]; rfl

end Go.Sx
namespace Yard

noncomputable def bOf (p:Prop):Bool:=@decide p (Classical.propDecidable p)
theorem bOf_true {p:Prop}:(bOf p=true)=p:=by unfold bOf; simp
theorem bOf_false {p:Prop}:(bOf p=false) = ¬p:=by unfold bOf; simp
theorem true_bOf {p:Prop}:(true=bOf p)=p:=(propext eq_comm).trans bOf_true
theorem false_bOf {p:Prop}:(false=bOf p) = ¬p:=(propext eq_comm).trans bOf_false
end Yard
namespace Go.Sx

def zaC:Prop:=([]:List (Nat×Nat×Nat))=[]
theorem nilnil:zaC=True:=by simp [zaC]

theorem nat_cast_inj {a b:Nat}:((a:Int)=(b:Int)) ↔ a=b:=Int.ofNat_inj

theorem int_ite {k:IntKind} {j i:Nat} {x y:Int}:([AV.int k (if j=i then x else y)]:List AV)=if j=i then [AV.int k x] else [AV.int k y]:=by split <;> rfl

end Go.Sx
