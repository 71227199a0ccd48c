import Derived.Test.YtlihikockhjodaaGreatDoorSxK
import Derived.OrdersHeld

namespace Go.Sx
variable {W W':Base} {D D':Nat->Prop} {R R':Nat->Option Obj} {ids ids' own own':Nat->Option Nat} {P:Program} {tb:TB} {sp:SP} {w w':World} {H H':AH}

theorem zdW {s:Sem Value} {G:Value->World->Prop} (h:∃v w',s.run P w = .ok v w'/\G v w'):Goes P (do pure (.value (<- s))) w G:=by
 obtain ⟨v,w',hr,hg⟩:=h
 exact .inl ⟨v,w',by simp [hr],hg⟩

theorem zqW {F:Fr} {a:Act} (ps:Array (Nat×Operand)):(ps.toList.map fun p=>(p.1,ev F p.2)).map (·.1)=(ps.map fun (i,x)=>(i,a.eval x)).toList.map (·.1):=by
 simp [List.map_map,Function.comp_def]

theorem zqV {F:Fr} {a:Act} (hF:Ts R ids F a.tmps.toList) (ps:Array (Nat×Operand)) :
  Ts R ids ((ps.toList.map fun p=>(p.1,ev F p.2)).map (·.2)) ((ps.map fun (i,x)=>(i,a.eval x)).toList.map (·.2)):=by
 have:=zrR hF (ps.toList.map (·.2))
 simpa [List.map_map,Function.comp_def] using this

theorem zkG (ht:TBok P tb) {o:Oper} {a:Act} {F:Fr} {K:AV->Fr->AH->Prop} (hF:Ts R ids F a.tmps.toList) (hR:Rep W D R ids own H w) (h:zwP tb o.op F H (fun av=>K av F H)) :
  Goes P (execOp a.eval o) w (zd7 W D a.tmps.toList K):=by
 obtain ⟨av,v,h1,h2,h3⟩:=qqX (P:=P) ht hF hR.view h
 exact .inl ⟨v,w,h1 w hR.view.refl,av,F,H,R,ids,own,h2,hF,hR,h3⟩

theorem V.fn_inv {f:Nat} {v:Value} (h:V R ids (.fn f) v):v = .func (.func f) #[] #[]:=by cases h; rfl

theorem tab_in {cs:Array Value} {T:TypeId} {fr:Nat×Nat} (hcs:cs.toList=tabCells) (h:R 0=some (.cells cs T fr)):V R ids (.rp [qiG] 0) (.pointer (some ⟨0,0,none⟩)):=by
 have hl:tabCells.length=64:=by simp [tabCells,tabList]
 refine .rp [qiG] 0 0 0 tabCells (fun j hj=>?_) ?_
 ·simp only [rcell,h,Nat.zero_add]
  rw [<- hcs]; simp
 ·have:=Vs.arr (R:=R) (ids:=noIds) 1 64 (fun j=>[.int .u8 ((tabList.getD j 0:Nat):Int)]) (fun j=>[.int .u8 ((tabList.getD j 0:Nat):Int)]) [] tabCells [] (by rw [hl]) (fun i hi=>?_) (fun i _ => .one _ _ _ _ rfl (.int _ _) .nil) .nil
  ·rwa [List.append_nil] at this
  ·rw [Nat.mul_one]
   have hi':i<tabList.length:=by simp [tabList]; omega
   have hi2:i<tabCells.length:=by omega
   rw [List.drop_eq_getElem_cons hi2,List.take_succ_cons,List.take_zero]
   simp only [tabCells,List.getElem_map]
   rw [List.getD_eq_getElem?_getD,List.getElem?_eq_getElem hi']; rfl

theorem qnL (ht:TBok P tb) (hs:SPg P W sp) {o:Oper} {a:Act} {F:Fr} {K:AV->Fr->AH->Prop} (hF:Ts R ids F a.tmps.toList) (hR:Rep W D R ids own H w) (h:aOp tb sp o.op F H K) :
  Goes P (execOp a.eval o) w (zd7 W D a.tmps.toList K):=by
 unfold aOp at h
 split at h
 ·rename_i t hop
  unfold execOp; simp only [hop]
  exact zdW (qnY ht hF hR h)
 ·rename_i t x hop
  unfold execOp; simp only [hop]
  exact zdW (aBox_ok (ev_ok hF x) hF hR h)
 ·rename_i t ps hop
  unfold execOp; simp only [hop]
  obtain ⟨av,v,h1,h2,h3⟩:=qnX (P:=P) (w:=w) ht (zqW ps) (zqV hF ps) h
  exact zdW ⟨v,w,h1,av,F,H,R,ids,own,h2,hF,hR,h3⟩
 ·rename_i t n ps hop
  unfold execOp; simp only [hop]
  exact zdW (zsV ht (zqW ps) (zqV hF ps) hF hR h)
 ·rename_i t x y hop
  unfold execOp; simp only [hop]
  obtain ⟨w',H',h1,h2,h3⟩:=qnG (P:=P) ht (ev_ok hF x) (ev_ok hF y) hR h
  exact .inr (.inl ⟨w',by simp [h1],.any,F,H',R,ids,own,.any _,hF,h2,h3⟩)
 ·rename_i t l c hop
  unfold execOp; simp only [hop]
  exact zdW (qqZ ht (ev_ok hF l) (ev_ok hF c) hF hR h)
 ·rename_i f hop
  unfold execOp; simp only [hop]
  exact zdW ⟨.func (.func f) #[] #[],w,by simp [Instr.makeFunc],.fn f,F,H,R,ids,own,.fn f,hF,hR,h⟩
 ·rename_i s d x hop
  split at h
  ·split at h
   ·unfold execOp; simp only [hop]
    exact zdW (aOct_ok ht (ev_ok hF x) hF hR h)
   ·exact zkG ht hF hR (by rw [hop]; exact h)
  ·split at h
   ·unfold execOp; simp only [hop]
    exact zdW (qqY ht (ev_ok hF x) hF hR h)
   ·exact zkG ht hF hR (by rw [hop]; exact h)
  ·exact zkG ht hF hR (by rw [hop]; exact h)
 ·rename_i t i hop
  split at h
  ·rename_i hflag
   obtain ⟨cs,T,fr,hcs,hR0⟩:=hs.gl (ht.2 hflag)
   obtain ⟨av,v,h1,h2,h3⟩:=zmY (P:=P) ht (tab_in hcs (hR.low _ _ hR0)) (ev_ok hF i) h
   unfold execOp; simp only [hop]
   exact zdW ⟨v,w,h1 w,av,F,H,R,ids,own,h2,hF,hR,h3⟩
  ·exact h.elim
 ·rename_i s x t xt hop
  unfold execOp; simp only [hop]
  obtain ⟨v,w',h1,h2⟩:=qhO (ty:=o.type) ht (ev_ok hF s) (ev_ok hF x) hF hR h
  exact .inl ⟨v,w',by simp [resolve,invoke,builtin,h1],h2⟩
 ·rename_i s x t xt hop
  unfold execOp; simp only [hop]
  obtain ⟨v,w',h1,h2⟩:=qq1 (ty:=o.type) ht (ev_ok hF s) (ev_ok hF x) hF hR h
  exact .inl ⟨v,w',by simp [resolve,invoke,builtin,h1],h2⟩
 ·rename_i s t hop
  unfold execOp; simp only [hop]
  obtain ⟨v,w',h1,h2⟩:=qnV (ty:=o.type) ht (ev_ok hF s) hF hR h
  exact .inl ⟨v,w',by simp [resolve,invoke,builtin,h1],h2⟩
 ·rename_i g args _ hop
  have hg:=ev_ok hF g
  split at h
  ·rename_i f he
   rw [he] at hg
   have e:=hg.fn_inv
   obtain ⟨h1,h2⟩:=qq3 (P:=P) hs (zrR hF args.toList) hF hR h
   refine .inr (.inr ⟨f,(args.toList.map a.eval).toArray,w,?_,h2⟩)
   unfold execOp; rw [hop]
   have e2:(args.toList.map a.eval).toArray=args.map a.eval:=by rw [<- Array.toList_map]
   rw [e2] at h1 ⊢
   simp [resolve,e,Deferred.ofValue,invoke,h1]
  ·exact h.elim
 ·exact zkG ht hF hR h

theorem qoP {α:Type} {l:List α} {i:Nat} {x:α} (h:l[i]? = some x):l.set i x=l:=by
 apply List.ext_getElem?
 intro k
 by_cases e:i=k
 ·subst e
  rcases Nat.lt_or_ge i l.length with hl | hl
  ·rw [List.getElem?_set_self hl,h]
  ·rw [List.getElem?_eq_none hl] at h; cases h
 ·rw [List.getElem?_set_ne e]

def setD (F:Fr) (dst:Option Nat) (a:AV):Fr:=match dst with
 | some d=>F.set d a
 | none=>F

theorem Ts.put {F:Fr} {a:Act} (h:Ts R ids F a.tmps.toList) (dst:Option Nat) {av:AV} {v:Value} (hv:V R ids av v):Ts R ids (setD F dst av) (a.put dst v).tmps.toList:=by
 cases dst with
 | none=>exact h
 | some d =>
   have:=h.set d hv
   simpa [setD,Act.put] using this

def Told (W:Base) (D:Nat->Prop) (K:Fr->AH->Prop) (a:Act) (w:World):Prop :=
 a.defers=[]/\∃F H R ids own,Ts R ids F a.tmps.toList/\Rep W D R ids own H w/\K F H

def zsI (all:List Oper) (g:Option (Nat×Bool)) (F:Fr) (run skip:Fr->Prop):Prop:=match g with
 | none=>run F
 | some (j,want)=>match all[j]? with
   | some oj=>match oj.dst with
     | some d=>match F.getD d .any with
       | .bool b=>BC b (match want with | true=>run (F.set d (.bool true)) | false=>skip (F.set d (.bool true))) (match want with | true=>skip (F.set d (.bool false)) | false=>run (F.set d (.bool false)))
       | .tup []=>skip F
       | _=>False
     | none=>False
   | none=>False

theorem aGuard_ok {all:List Oper} {o:Oper} {a:Act} {F:Fr} {run skip:Fr->Prop} (hF:Ts R ids F a.tmps.toList) (h:zsI all o.guard F run skip) :
  (Region.wanted o (yielded all.toArray a.tmps)=true/\∃F',Ts R ids F' a.tmps.toList/\run F')\/(Region.wanted o (yielded all.toArray a.tmps)=false/\∃F',Ts R ids F' a.tmps.toList/\skip F'):=by
 unfold zsI at h
 unfold Region.wanted
 split at h
 ·rename_i hg; rw [hg]; exact .inl ⟨rfl,F,hF,h⟩
 ·rename_i j want hg
  rw [hg]
  show ((yielded all.toArray a.tmps j == some want)=true/\_)\/((yielded all.toArray a.tmps j == some want)=false/\_)
  split at h
  ·rename_i oj hj
   split at h
   ·rename_i d hd
    have hv:=hF.get d undef
    have hy:yielded all.toArray a.tmps j=(match a.tmps[d]? with | some (.bool b)=>some b | _=>none):=by
     simp [yielded,hj,hd]
     rfl
    have hself:∀b,F.getD d .any = .bool b->a.tmps[d]? = some (.bool b):=fun b hb=>by
     rw [hb] at hv
     have e:=hv.bool_inv
     rw [List.getD_eq_getElem?_getD,Array.getElem?_toList] at e
     cases hq:a.tmps[d]? with
     | none=>rw [hq] at e; simp [undef] at e
     | some x=>rw [hq] at e; simp at e; rw [e]
    have hset:∀b,F.getD d .any = .bool b->Ts R ids (F.set d (.bool b)) a.tmps.toList:=fun b hb=>by
     have:=hF.set d (.bool (R:=R) (ids:=ids) b)
     have e:a.tmps.toList.set d (.bool b)=a.tmps.toList:=by
      have hs:=hself b hb
      rw [<- Array.getElem?_toList] at hs
      exact qoP hs
     rwa [e] at this
    split at h
    ·rename_i b hb
     have e:=hself b hb
     have hs:=hset b hb
     rw [hy,e]
     cases b <;> cases want <;> simp only [BC] at h
     ·exact .inl ⟨rfl,_,hs,h⟩
     ·exact .inr ⟨rfl,_,hs,h⟩
     ·exact .inr ⟨rfl,_,hs,h⟩
     ·exact .inl ⟨rfl,_,hs,h⟩
    ·rename_i hb
     rw [hb] at hv
     obtain ⟨cs,e,hcs⟩:=hv.tup_inv
     cases hcs
     rw [hy]
     rw [List.getD_eq_getElem?_getD,Array.getElem?_toList] at e
     refine .inr ⟨?_,F,hF,h⟩
     cases hq:a.tmps[d]? with
     | none=>simp
     | some x=>rw [hq] at e; simp at e; subst e; simp
    ·exact h.elim
   ·exact h.elim
  ·exact h.elim

def zmO {α:Type _}:List α->(List α->Prop)->Prop
 | [],k=>k []
 | a :: r,k=>zmO r (fun r'=>k (a :: r'))
theorem zmN {α:Type _}:∀(l:List α) (k:List α->Prop),zmO l k=k l
 | [],_=>rfl
 | a :: r,k=>by rw [zmO,zmN r]
def zoV:Nat->(Nat->Prop)->Prop
 | 0,k=>k 0
 | n+1,k=>k (n+1)
theorem zgH (n:Nat) (k:Nat->Prop):zoV n k=k n:=by cases n <;> rfl
def zrO:List Nat->(List Nat->Prop)->Prop
 | [],k=>k []
 | a :: r,k=>zoV a (fun a=>zrO r (fun r'=>k (a :: r')))
theorem zn2:∀(l:List Nat) (k:List Nat->Prop),zrO l k=k l
 | [],_=>rfl
 | a :: r,k=>by rw [zrO,zgH,zn2 r]

def zv8:AV->(AV->Prop)->Prop
 | .ptr p a b,k=>zoV p (fun p=>k (.ptr p a b))
 | .sl p a b c d e f,k=>zoV p (fun p=>k (.sl p a b c d e f))
 | a,k=>k a
theorem zt1 (a:AV) (k:AV->Prop):zv8 a k=k a:=by
 unfold zv8
 split
 ·exact zgH _ (fun p=>k (.ptr p _ _))
 ·exact zgH _ (fun p=>k (.sl p _ _ _ _ _ _))
 ·rfl
def zrM:List AV->(List AV->Prop)->Prop
 | [],k=>k []
 | a :: r,k=>zv8 a (fun a=>zrM r (fun r'=>k (a :: r')))
theorem zn1:∀(l:List AV) (k:List AV->Prop),zrM l k=k l
 | [],_=>rfl
 | a :: r,k=>by rw [zrM,zt1,zn1 r]
def qeM:AV->(AV->Prop)->Prop
 | .tup l,k=>zrM l (fun l=>k (.tup l))
 | a,k=>zv8 a k
theorem zrN (a:AV) (k:AV->Prop):qeM a k=k a:=by
 unfold qeM
 split
 ·exact zn1 _ (fun l=>k (.tup l))
 ·exact zt1 _ k

def qlX:Item->(Item->Prop)->Prop
 | .cells t l,k=>zrM l (fun l=>k (.cells t l))
 | .row t a b c f,k=>k (.row t a b c f)
 | .view a b f,k=>k (.view a b f)
 | .obj o,k=>k (.obj o)
 | .gone,k=>k .gone
 | .junk,k=>k .junk
 | .fence,k=>k .fence
theorem qlW (a:Item) (k:Item->Prop):qlX a k=k a:=by
 unfold qlX
 split
 ·exact zn1 _ (fun l=>k (.cells _ l))
 all_goals rfl
def zjC:AH->(AH->Prop)->Prop
 | [],k=>k []
 | a :: r,k=>qlX a (fun a=>zjC r (fun r'=>k (a :: r')))
theorem zfX:∀(l:AH) (k:AH->Prop),zjC l k=k l
 | [],_=>rfl
 | a :: r,k=>by rw [zjC,qlW,zfX r]

def zk9 (F:Fr) (H:AH) (k:Fr->AH->Prop):Prop:=zmO F (fun F=>zjC H (fun H=>k F H))
theorem zhO (F:Fr) (H:AH) (k:Fr->AH->Prop):zk9 F H k=k F H:=by rw [zk9,zmN,zfX]

def aOps (tb:TB) (sp:SP) (all:List Oper):List Oper->Fr->AH->(Fr->AH->Prop)->Prop
 | [],F,H,K=>K F H
 | o :: r,F,H,K=>zsI all o.guard F
     (fun F=>aOp tb sp o.op F H (fun av F' H'=>qeM av (fun av=>zk9 (setD F' o.dst av) H' (fun F' H'=>aOps tb sp all r F' H' K))))
     (fun F=>zk9 (setD F o.dst (.tup [])) H (fun F H=>aOps tb sp all r F H K))

theorem V.undef:V R ids (.tup []) undef := .tup [] [] .nil

theorem zwQ (ht:TBok P tb) (hs:SPg P W sp) {all:List Oper} {Q:Exit->Act->World->Prop} {K:Fr->AH->Prop} (hQ:∀a w,Told W D K a w->Q .normal a w):∀(r:List Oper) {a:Act} {w:World},
  Told W D (fun F H=>aOps tb sp all r F H K) a w->wpList P all.toArray Q r a w
 | [],a,w,h=>hQ a w h
 | o :: r,a,w,⟨hd,F,H,R,ids,own,hF,hR,h⟩=>by
   unfold aOps at h
   simp only [zrN,zhO] at h
   unfold wpList
   rcases aGuard_ok hF h with ⟨hw,F',hF',h⟩ | ⟨hw,F',hF',h⟩
   ·rw [if_pos hw]
    refine .inl (Goes.wp ?_)
    have hg:=qnL (P:=P) ht hs hF' hR h
    have conv:∀v w',zd7 W D a.tmps.toList (fun av F' H'=>aOps tb sp all r (setD F' o.dst av) H' K) v w'->wpList P all.toArray Q r (a.put o.dst v) w':=by
     rintro v w' ⟨av,F2,H2,R2,ids2,own2,g1,g2,g3,g4⟩
     refine zwQ ht hs hQ r ⟨?_,_,H2,R2,ids2,own2,g2.put (a:=a) o.dst g1,g3,g4⟩
     cases o.dst <;> exact hd
    rcases hg with ⟨v,w',h1,h2⟩ | ⟨w',h1,h2⟩ | ⟨f,args,w',h1,h2⟩
    ·exact .inl ⟨v,w',h1,conv _ _ h2⟩
    ·exact .inr (.inl ⟨w',h1,conv _ _ h2⟩)
    ·exact .inr (.inr ⟨f,args,w',h1,h2.mono fun e w'' ⟨v,he,hg⟩=>⟨v,he,conv _ _ hg⟩⟩)
   ·rw [if_neg (by simp [hw])]
    refine zwQ ht hs hQ r ⟨?_,_,H,R,ids,own,hF'.put (a:=a) o.dst V.undef,hR,h⟩
    cases o.dst <;> exact hd

end Go.Sx
