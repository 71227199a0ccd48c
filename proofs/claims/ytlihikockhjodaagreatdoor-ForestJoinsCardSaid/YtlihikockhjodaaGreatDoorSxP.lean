import Derived.Test.YtlihikockhjodaaGreatDoorSxRo
import Derived.Deep.LoopGhost
import Derived.Calls

set_option linter.unusedVariables false
namespace Go.Sx
variable {W W':Base} {D D':Nat->Prop} {R R':Nat->Option Obj} {ids ids' own own':Nat->Option Nat} {P:Program} {tb:TB} {sp:SP} {w w':World} {H H':AH}

inductive Ex where
 | normal
 | exit (id:Nat)
 | ret

structure LA where
 T:Type
 F:T->Fr
 H:T->AH
 σ₁:Option Ren:=none
 σ₂:Option Ren:=none
 ρ₁:Fr->AH->Option Ren:=fun _ _=>none
 ρ₂:Fr->AH->Option Ren:=fun _ _=>none

structure OpE where
 p:Nat
 subs:List Nat:=[]
 Y:Type
 o:Y->Opn
def openE:List OpE->AH->(AH->Prop)->Prop
 | [],H,K=>K H
 | q :: r,H,K=>∃y:q.Y,znM [(q.p,q.o y)] H (fun H=>openE r H K)
def closeE:List OpE->AH->(AH->Prop)->Prop
 | [],H,K=>K H
 | q :: r,H,K=>∃y:q.Y,zcC [(q.p,q.subs,q.o y)] H (fun H=>closeE r H K)

structure OpAE where
 p:Nat
 Y:Type
 o:Y->OpA
structure ClH where
 Y:Type
 f:Y->AH->List (Nat×List Nat×Opn)
def openA:List OpAE->AH->(AH->Prop)->Prop
 | [],H,K=>K H
 | q :: r,H,K=>∃y:q.Y,zpA [(q.p,q.o y)] H (fun H=>openA r H K)
def closeH:List ClH->AH->(AH->Prop)->Prop
 | [],H,K=>K H
 | q :: r,H,K=>∃y:q.Y,zcC (q.f y H) H (fun H=>closeH r H K)

structure An where
 loops:List (Nat×LA):=[]
 loose:List (Nat×List Nat):=[]
 closes:List (Nat×List (Nat×List Nat×Opn)):=[]
 unroll:List (Nat×Nat):=[]
 joins:List (Nat×LA):=[]
 loops2:List (Nat×LA×LA):=[]
 opensE:List (Nat×List OpE):=[]
 closesE:List (Nat×List OpE):=[]
 push:List (Nat×List (TypeId×Nat)):=[]
 opensA:List (Nat×List OpAE):=[]
 closesH:List (Nat×List ClH):=[]

def zqR:List (TypeId×Nat)->AH->(AH->Prop)->Prop
 | [],H,K=>K H
 | (e,es) :: r,H,K=>zqR r (H++[.row e es 0 0 (fun _=>[])]) K
theorem ztH:∀{l:List (TypeId×Nat)} {H:AH} {K:AH->Prop},Rep W D R ids own H w->zqR l H K->∃H',Rep W D R ids own H' w/\K H'
 | [],H,K,hR,h=>⟨H,hR,h⟩
 | (e,es) :: r,H,K,hR,h=>ztH (hR.pushNil e es _) h

def lkN {α:Type _}:List (Nat×α)->Nat->Option α
 | [],_=>none
 | (k,x) :: r,n=>match Nat.beq k n with
   | true=>some x
   | false=>lkN r n

def zeB:Code->Nat
 | .region id _ _=>id
 | .seq a b=>match a with
   | .skip=>zeB b
   | .label _=>zeB b
   | a=>zeB a
 | .cond _ a _=>zeB a
 | .block _ c=>zeB c
 | .loop c=>zeB c
 | .scope c=>zeB c
 | _=>0

def looseOf (an:An) (id:Nat):List Nat:=match lkN an.loose id with
 | some l=>l
 | none=>[]
def qd0 (an:An) (id:Nat):List OpE:=match lkN an.opensE id with
 | some l=>l
 | none=>[]
def zzN (an:An) (id:Nat):List OpE:=match lkN an.closesE id with
 | some l=>l
 | none=>[]
def qd1 (an:An) (id:Nat):List OpAE:=match lkN an.opensA id with
 | some l=>l
 | none=>[]
def zzM (an:An) (id:Nat):List ClH:=match lkN an.closesH id with
 | some l=>l
 | none=>[]
def qrC (an:An) (id:Nat):List (TypeId×Nat):=match lkN an.push id with
 | some l=>l
 | none=>[]
def qeT (an:An) (id:Nat):List (Nat×List Nat×Opn):=match lkN an.closes id with
 | some l=>l
 | none=>[]
def zgA (o:Option Ren) (n n':Nat):Ren:=match o with
 | some σ=>σ
 | none=>qp7 n n'
def zqU (a b:Option Ren):Option Ren:=match a with
 | some s=>some s
 | none=>b

def qc3 (body:Fr->AH->(Ex->Fr->AH->Prop)->Prop):Nat->Fr->AH->(Ex->Fr->AH->Prop)->Prop
 | 0,_,_,_=>False
 | n+1,F,H,K=>body F H (fun e F H=>match e with
   | .normal=>qc3 body n F H K
   | e=>K e F H)

def ziF (tb:TB) (sp:SP) (an:An):Code->Fr->AH->(Ex->Fr->AH->Prop)->Prop
 | .skip,F,H,K=>K .normal F H
 | .label _,F,H,K=>K .normal F H
 | .region id ops draw,F,H,K=>match draw with
   | false=>zqR (qrC an id) H (fun H=>zcC (qeT an id) H (fun H=>closeE (zzN an id) H (fun H=>closeH (zzM an id) H (fun H=>openE (qd0 an id) H (fun H=>openA (qd1 an id) H (fun H=>aOps tb sp ops.toList ops.toList F H (K .normal)))))))
   | true=>zqR (qrC an id) H (fun H=>zcC (qeT an id) H (fun H=>closeE (zzN an id) H (fun H=>closeH (zzM an id) H (fun H=>openE (qd0 an id) H (fun H=>openA (qd1 an id) H (fun H=>qc7 tb sp ops (looseOf an id) F H (K .normal)))))))
 | .seq x y,F,H,K=>match lkN an.joins (zeB y) with
   | some A=>∃I:A.T->Prop,(ziF tb sp an x F H (fun e F H=>match e with
     | .normal=>∃t,I t/\zdS (zgA (zqU (A.ρ₁ F H) A.σ₁) H.length (A.H t).length) F H (A.F t) (A.H t)
     | e=>K e F H))/\∀t,I t->ziF tb sp an y (A.F t) (A.H t) K
   | none=>ziF tb sp an x F H (fun e F H=>match e with
     | .normal=>ziF tb sp an y F H K
     | e=>K e F H)
 | .cond c x y,F,H,K=>match ev F c with
   | .bool b=>BC b (ziF tb sp an x F H K) (ziF tb sp an y F H K)
   | _=>False
 | .block id c,F,H,K=>ziF tb sp an c F H (fun e F H=>match e with
   | .exit j=>match Nat.beq j id with
     | true=>K .normal F H
     | false=>K (.exit j) F H
   | e=>K e F H)
 | .exit id,F,H,K=>K (.exit id) F H
 | .ret,F,H,K=>K .ret F H
 | .loop c,F,H,K=>match lkN an.loops (zeB c) with
   | some A=>∃(I:A.T->Prop) (m:A.T->Nat),(∃t,I t/\zdS (zgA (zqU (A.ρ₁ F H) A.σ₁) H.length (A.H t).length) F H (A.F t) (A.H t)) /\
     ∀t,I t->ziF tb sp an c (A.F t) (A.H t) (fun e F' H'=>match e with
      | .normal=>∃t',(I t'/\m t'<m t)/\zdS (zgA (zqU (A.ρ₂ F' H') A.σ₂) H'.length (A.H t').length) F' H' (A.F t') (A.H t')
      | e=>K e F' H')
   | none=>match lkN an.unroll (zeB c) with
     | some n=>qc3 (fun F H K=>ziF tb sp an c F H K) n F H K
     | none=>match lkN an.loops2 (zeB c) with
       | some (A,B)=>∃(I:A.T->Prop) (J:B.T->Prop) (m:A.T->Nat) (n:B.T->Nat),
         ((∃t,I t/\zdS (zgA (zqU (A.ρ₁ F H) A.σ₁) H.length (A.H t).length) F H (A.F t) (A.H t))\/(∃t,J t/\zdS (zgA (zqU (B.ρ₁ F H) B.σ₁) H.length (B.H t).length) F H (B.F t) (B.H t))) /\
         (∀t,I t->ziF tb sp an c (A.F t) (A.H t) (fun e F' H'=>match e with
          | .normal=>(∃t',(I t'/\m t'<m t)/\zdS (zgA (zqU (A.ρ₂ F' H') A.σ₂) H'.length (A.H t').length) F' H' (A.F t') (A.H t'))\/(∃t',(J t'/\n t'<m t)/\zdS (zgA (zqU (B.ρ₂ F' H') B.σ₂) H'.length (B.H t').length) F' H' (B.F t') (B.H t'))
          | e=>K e F' H')) /\
         (∀t,J t->ziF tb sp an c (B.F t) (B.H t) (fun e F' H'=>match e with
          | .normal=>(∃t',(I t'/\m t'<n t)/\zdS (zgA (zqU (A.ρ₂ F' H') A.σ₂) H'.length (A.H t').length) F' H' (A.F t') (A.H t'))\/(∃t',(J t'/\n t'<n t)/\zdS (zgA (zqU (B.ρ₂ F' H') B.σ₂) H'.length (B.H t').length) F' H' (B.F t') (B.H t'))
          | e=>K e F' H'))
       | none=>False
 | _,_,_,_=>False

def Post (W:Base) (D:Nat->Prop) (K:Ex->Fr->AH->Prop):Exit->Act->World->Prop
 | .normal,a,w=>Told W D (K .normal) a w
 | .exit id,a,w=>Told W D (K (.exit id)) a w
 | .ret,a,w=>Told W D (K .ret) a w
 | _,_,_=>False

theorem Told.fit {σ:Ren} {F':Fr} {a:Act} (h:Told W D (fun F H=>zdS σ F H F' H') a w):Told W D (fun F H=>F=F'/\H=H') a w:=by
 obtain ⟨hd,F,H,R,ids,own,hF,hR,h⟩:=h
 obtain ⟨h1,h2⟩:=zjE h hF hR
 exact ⟨hd,F',H',R,_,_,h1,h2,rfl,rfl⟩

theorem Told.close {l:List (Nat×List Nat×Opn)} {X:Fr->AH->Prop} {a:Act} (h:Told W D (fun F H=>zcC l H (fun H=>X F H)) a w):Told W D X a w:=by
 obtain ⟨hd,F,H,R,ids,own,hF,hR,h⟩:=h
 obtain ⟨H',own',h1,h2⟩:=zeD hR h
 exact ⟨hd,F,H',R,ids,own',hF,h1,h2⟩

theorem Told.push {l:List (TypeId×Nat)} {X:Fr->AH->Prop} {a:Act} (h:Told W D (fun F H=>zqR l H (fun H=>X F H)) a w):Told W D X a w:=by
 obtain ⟨hd,F,H,R,ids,own,hF,hR,h⟩:=h
 obtain ⟨H',h1,h2⟩:=ztH hR h
 exact ⟨hd,F,H',R,ids,own,hF,h1,h2⟩

theorem Told.openE {l:List OpE} {X:Fr->AH->Prop} {a:Act} (h:Told W D (fun F H=>openE l H (fun H=>X F H)) a w):Told W D X a w:=by
 induction l with
 | nil=>exact h
 | cons q r ih =>
   obtain ⟨hd,F,H,R,ids,own,hF,hR,y,h⟩:=h
   obtain ⟨H',ids',own',h1,h2,h3⟩:=zj3 hR h
   exact ih ⟨hd,F,H',R,ids',own',hF.into h2 (fun _ _ e=>e),h1,h3⟩
theorem Told.openA {l:List OpAE} {X:Fr->AH->Prop} {a:Act} (h:Told W D (fun F H=>openA l H (fun H=>X F H)) a w):Told W D X a w:=by
 induction l with
 | nil=>exact h
 | cons q r ih =>
   obtain ⟨hd,F,H,R,ids,own,hF,hR,y,h⟩:=h
   obtain ⟨H',ids',own',h1,h2,h3⟩:=zqY hR h
   exact ih ⟨hd,F,H',R,ids',own',hF.into h2 (fun _ _ e=>e),h1,h3⟩
theorem Told.closeH {l:List ClH} {X:Fr->AH->Prop} {a:Act} (h:Told W D (fun F H=>closeH l H (fun H=>X F H)) a w):Told W D X a w:=by
 induction l with
 | nil=>exact h
 | cons q r ih =>
   obtain ⟨hd,F,H,R,ids,own,hF,hR,y,h⟩:=h
   obtain ⟨H',own',h1,h2⟩:=zeD hR h
   exact ih ⟨hd,F,H',R,ids,own',hF,h1,h2⟩
theorem Told.closeE {l:List OpE} {X:Fr->AH->Prop} {a:Act} (h:Told W D (fun F H=>closeE l H (fun H=>X F H)) a w):Told W D X a w:=by
 induction l with
 | nil=>exact h
 | cons q r ih =>
   obtain ⟨hd,F,H,R,ids,own,hF,hR,y,h⟩:=h
   obtain ⟨H',own',h1,h2⟩:=zeD hR h
   exact ih ⟨hd,F,H',R,ids,own',hF,h1,h2⟩

theorem zdY (hm:P.follows .mixedOrders=true) (ht:TBok P tb) (hs:SPg P W sp) {an:An}:∀(c:Code) {K:Ex->Fr->AH->Prop} {a:Act} {w:World},
  Told W D (fun F H=>ziF tb sp an c F H K) a w->c.wp P (Post W D K) a w
 | .skip,K,a,w,h=>wp_skip h
 | .label _,K,a,w,h=>wp_label h
 | .region id ops false,K,a,w,h=>wp_region_list (by
   have:=zwQ (Q:=Post W D K) ht hs (fun _ _ h=>h) ops.toList (Told.openA (Told.openE (Told.closeH (Told.closeE (Told.close (Told.push h))))))
   simpa using this)
 | .region id ops true,K,a,w,h=>qhN hm ht hs (Q:=Post W D K) (fun _ _ _ h=>h) (fun _ _ h=>h) (Told.openA (Told.openE (Told.closeH (Told.closeE (Told.close (Told.push h))))))
 | .seq x y,K,a,w,h=>by
   cases hj:lkN an.joins (zeB y) with
   | none =>
     unfold ziF at h
     simp only [hj] at h
     refine wp_seq (wp_mono (zdY hm ht hs x h) fun e a w q=>?_)
     cases e with
     | normal=>exact zdY hm ht hs y q
     | exit id=>exact q
     | ret=>exact q
     | goto l=>exact q
     | panic c=>exact q
     | outgrown=>exact q
   | some A =>
     unfold ziF at h
     simp only [hj] at h
     obtain ⟨hd,F,H,R,ids,own,hF,hR,I,hx,hy⟩:=h
     refine wp_seq (wp_mono (zdY hm ht hs x ⟨hd,F,H,R,ids,own,hF,hR,hx⟩) fun e a w q=>?_)
     cases e with
     | normal =>
       obtain ⟨hd2,F2,H2,R2,ids2,own2,hF2,hR2,t,hI,hfit⟩:=q
       obtain ⟨h1,h2⟩:=zjE hfit hF2 hR2
       exact zdY hm ht hs y ⟨hd2,_,_,R2,_,_,h1,h2,hy t hI⟩
     | exit id=>exact q
     | ret=>exact q
     | goto l=>exact q
     | panic c=>exact q
     | outgrown=>exact q
 | .cond c x y,K,a,w,⟨hd,F,H,R,ids,own,hF,hR,h⟩=>by
   unfold ziF at h
   split at h
   ·rename_i b hb
    have hv:=ev_ok hF c
    rw [hb] at hv
    refine wp_cond_split (t:=b) hv.bool_inv (fun e=>?_) (fun e=>?_)
    ·subst e; exact zdY hm ht hs x ⟨hd,F,H,R,ids,own,hF,hR,h⟩
    ·subst e; exact zdY hm ht hs y ⟨hd,F,H,R,ids,own,hF,hR,h⟩
   ·exact h.elim
 | .block id c,K,a,w,h=>by
   refine wp_block (wp_mono (zdY hm ht hs c h) fun e a w q=>?_)
   cases e with
   | normal=>exact q
   | exit j =>
     simp only [Exit.inBlock]
     obtain ⟨hd,F,H,R,ids,own,hF,hR,q⟩:=q
     simp only at q
     split at q
     ·rename_i e
      have:=Nat.eq_of_beq_eq_true e
      subst this
      simp only [if_true]
      exact ⟨hd,F,H,R,ids,own,hF,hR,q⟩
     ·rename_i e
      rw [if_neg (fun e'=>by subst e'; simp at e)]
      exact ⟨hd,F,H,R,ids,own,hF,hR,q⟩
   | ret=>exact q
   | goto l=>exact q
   | panic c=>exact q
   | outgrown=>exact q
 | .exit id,K,a,w,h=>wp_exit h
 | .ret,K,a,w,h=>wp_ret h
 | .loop c,K,a,w,⟨hd,F,H,R,ids,own,hF,hR,h⟩=>by
   unfold ziF at h
   split at h
   ·rename_i A hA
    obtain ⟨I,m,⟨t0,h0,hf0⟩,hr⟩:=h
    refine wp_loop_ghost (fun n a w=>∃t,(I t/\m t=n)/\Told W D (fun F H=>F=A.F t/\H=A.H t) a w) (m t0) ⟨t0,⟨h0,rfl⟩,Told.fit ⟨hd,F,H,R,ids,own,hF,hR,hf0⟩⟩ ?_
    rintro n a w ⟨t,⟨hI,rfl⟩,hd,F1,H1,R1,ids1,own1,hF1,hR1,rfl,rfl⟩
    refine wp_mono (zdY hm ht hs c ⟨hd,_,_,R1,ids1,own1,hF1,hR1,hr t hI⟩) fun e a w q=>?_
    cases e with
    | normal =>
      obtain ⟨hd,F2,H2,R2,ids2,own2,hF2,hR2,t',⟨g1,g2⟩,g3⟩:=q
      exact ⟨m t',g2,t',⟨g1,rfl⟩,Told.fit ⟨hd,F2,H2,R2,ids2,own2,hF2,hR2,g3⟩⟩
    | exit id=>exact q
    | ret=>exact q
    | goto l=>exact q
    | panic c=>exact q
    | outgrown=>exact q
   ·split at h
    ·rename_i n _
     refine wp_loop_ghost (fun n a w=>Told W D (fun F H=>qc3 (fun F H K=>ziF tb sp an c F H K) n F H K) a w) n ⟨hd,F,H,R,ids,own,hF,hR,h⟩ ?_
     intro n a w hT
     cases n with
     | zero=>obtain ⟨_,_,_,_,_,_,_,_,h⟩:=hT; exact h.elim
     | succ n =>
       refine wp_mono (zdY hm ht hs c hT) fun e a w q=>?_
       cases e with
       | normal=>exact ⟨n,Nat.lt_succ_self n,q⟩
       | exit id=>exact q
       | ret=>exact q
       | goto l=>exact q
       | panic c=>exact q
       | outgrown=>exact q
    ·split at h
     ·rename_i A B _
      obtain ⟨I,J,m,n,h0,hA,hB⟩:=h
      have start:∃k,(fun k a w=>(∃t,(I t/\m t=k)/\Told W D (fun F H=>F=A.F t/\H=A.H t) a w)\/(∃t,(J t/\n t=k)/\Told W D (fun F H=>F=B.F t/\H=B.H t) a w)) k a w:=by
       rcases h0 with ⟨t,ht,hf⟩ | ⟨t,ht,hf⟩
       ·exact ⟨m t,.inl ⟨t,⟨ht,rfl⟩,Told.fit ⟨hd,F,H,R,ids,own,hF,hR,hf⟩⟩⟩
       ·exact ⟨n t,.inr ⟨t,⟨ht,rfl⟩,Told.fit ⟨hd,F,H,R,ids,own,hF,hR,hf⟩⟩⟩
      obtain ⟨k0,hk0⟩:=start
      refine wp_loop_ghost (fun k a w=>(∃t,(I t/\m t=k)/\Told W D (fun F H=>F=A.F t/\H=A.H t) a w)\/(∃t,(J t/\n t=k)/\Told W D (fun F H=>F=B.F t/\H=B.H t) a w)) k0 hk0 ?_
      have both:∀(k:Nat) (a:Act) (w:World),Told W D (fun F' H'=>(∃t',(I t'/\m t'<k)/\zdS (zgA (zqU (A.ρ₂ F' H') A.σ₂) H'.length (A.H t').length) F' H' (A.F t') (A.H t'))\/(∃t',(J t'/\n t'<k)/\zdS (zgA (zqU (B.ρ₂ F' H') B.σ₂) H'.length (B.H t').length) F' H' (B.F t') (B.H t'))) a w ->
        ∃k',k'<k/\((∃t,(I t/\m t=k')/\Told W D (fun F H=>F=A.F t/\H=A.H t) a w)\/(∃t,(J t/\n t=k')/\Told W D (fun F H=>F=B.F t/\H=B.H t) a w)):=fun k a w hT=>by
       obtain ⟨hd,F2,H2,R2,ids2,own2,hF2,hR2,hq⟩:=hT
       rcases hq with ⟨t',⟨g1,g2⟩,g3⟩ | ⟨t',⟨g1,g2⟩,g3⟩
       ·exact ⟨m t',g2,.inl ⟨t',⟨g1,rfl⟩,Told.fit ⟨hd,F2,H2,R2,ids2,own2,hF2,hR2,g3⟩⟩⟩
       ·exact ⟨n t',g2,.inr ⟨t',⟨g1,rfl⟩,Told.fit ⟨hd,F2,H2,R2,ids2,own2,hF2,hR2,g3⟩⟩⟩
      rintro k a w (⟨t,⟨hI,rfl⟩,hd,F1,H1,R1,ids1,own1,hF1,hR1,rfl,rfl⟩ | ⟨t,⟨hI,rfl⟩,hd,F1,H1,R1,ids1,own1,hF1,hR1,rfl,rfl⟩)
      ·refine wp_mono (zdY hm ht hs c ⟨hd,_,_,R1,ids1,own1,hF1,hR1,hA t hI⟩) fun e a w q=>?_
       cases e with
       | normal=>exact both _ _ _ q
       | exit id=>exact q
       | ret=>exact q
       | goto l=>exact q
       | panic c=>exact q
       | outgrown=>exact q
      ·refine wp_mono (zdY hm ht hs c ⟨hd,_,_,R1,ids1,own1,hF1,hR1,hB t hI⟩) fun e a w q=>?_
       cases e with
       | normal=>exact both _ _ _ q
       | exit id=>exact q
       | ret=>exact q
       | goto l=>exact q
       | panic c=>exact q
       | outgrown=>exact q
     ·exact h.elim
 | .rangeFunc ..,K,a,w,⟨hd,F,H,R,ids,own,hF,hR,h⟩=>h.elim
 | .scope ..,K,a,w,⟨hd,F,H,R,ids,own,hF,hR,h⟩=>h.elim
 | .goto ..,K,a,w,⟨hd,F,H,R,ids,own,hF,hR,h⟩=>h.elim
 | .refuse ..,K,a,w,⟨hd,F,H,R,ids,own,hF,hR,h⟩=>h.elim

def aRes (tb:TB):List ResultVar->Fr->AH->(List AV->Prop)->Prop
 | [],_,_,K=>K []
 | .tmp t :: r,F,H,K=>aRes tb r F H (fun l=>K (F.getD t .any :: l))
 | .cell a t :: r,F,H,K=>qhK tb H t (F.getD a .any) (fun x=>aRes tb r F H (fun l=>K (x :: l)))

def zhG:List AV->AV
 | [a]=>a
 | l => .tup l

def aFn (tb:TB) (sp:SP) (an:An) (ntmps:Nat) (results:List ResultVar) (body:Code) (args:List AV) (H:AH) (K:AV->AH->Prop):Prop :=
 ziF tb sp an body (args++List.replicate (ntmps-args.length) (.tup [])) H (fun e F H=>match e with
  | .exit _=>False
  | _=>aRes tb results F H (fun l=>K (zhG l) H))

end Go.Sx
