import Derived.Test.YtlihikockhjodaaGreatDoorSxM
import Derived.StillTail

namespace Go.Sx
variable {W W':Base} {D D':Nat->Prop} {R R':Nat->Option Obj} {ids ids' own own':Nat->Option Nat} {P:Program} {tb:TB} {sp:SP} {w w':World} {H H':AH}

def Item.isGoneAt (H:AH) (p:Nat):Bool:=match H[p]? with
 | some it=>it.isGone
 | none=>true

def zuC (_:Bool) (F:Fr) (H:AH):Op->Bool
 | .load _ x=>match ev F x with
   | .ptr p _ _=>!Item.isGoneAt H p
   | .rp ..=>true
   | _=>false
 | .convert _ _ x=>match ev F x with
   | .sl p ..=>!Item.isGoneAt H p
   | .int ..=>true
   | .str ..=>true
   | .ro ..=>true
   | _=>false
 | .move _ | .assign _ | .pick .. | .nilCheck _ | .binOp .. | .unOp .. | .fieldAddr .. | .field .. | .indexAddr .. | .index .. | .extract .. | .slice .. | .build ..=>true
 | .makeFunc (.func _) ⟨[]⟩ ⟨[]⟩=>true
 | .call ⟨.builtin .len,_,_⟩=>true
 | .call ⟨.builtin .min,_,_⟩=>true
 | .call ⟨.builtin .max,_,_⟩=>true
 | _=>false

def notOct (tb:TB) (F:Fr):Op->Bool
 | .convert _ d x=>match ev F x with
   | .str ..=>(match zfJ tb d with
     | .slice _=>false
     | _=>true)
   | _=>true
 | _=>true
def candT (tb:TB) (c:Bool) (F:Fr) (H:AH) (op:Op):Bool:=match zuC c F H op with
 | true=>notOct tb F op
 | false=>false
theorem qhE {c:Bool} {F:Fr} {H:AH} {op:Op} (h:candT tb c F H op=true):zuC c F H op=true:=by
 unfold candT at h
 split at h
 ·assumption
 ·cases h

theorem candOp_free {F:Fr} {H:AH} {op:Op} (h:zuC false F H op=true):zy4 op=true\/(∃t x,op = .load t x)\/∃s d x,op = .convert s d x:=by
 cases op <;> first
  | exact .inl rfl
  | exact .inr (.inl ⟨_,_,rfl⟩)
  | exact .inr (.inr ⟨_,_,_,rfl⟩)
  | simp [zuC] at h

def qnF (tb:TB) (op:Op) (F:Fr) (H:AH) (K:AV->Prop):Prop:=match op with
 | .build t ps=>zz2 tb t (ps.toList.map fun p=>(p.1,ev F p.2)) K
 | .makeFunc (.func f) ⟨[]⟩ ⟨[]⟩=>K (.fn f)
 | op=>zwP tb op F H K

theorem zwO (ht:TBok P tb) {o:Oper} {a:Act} {F:Fr} {K:AV->Prop} (hF:Ts R ids F a.tmps.toList) (hR:View R ids own H w) (h:qnF tb o.op F H K) :
  ∃av v,(∀w2,(zy4 o.op=true\/Agr R own H w w2)->(execOp a.eval o).run P w2 = .ok (.value v) w2)/\V R ids av v/\K av:=by
 unfold qnF at h
 split at h
 ·rename_i t ps hop
  obtain ⟨av,v,h1,h2⟩:=zuE (P:=P) ht (zqW ps) (zqV hF ps) h
  exact ⟨av,v,fun w2 _=>by unfold execOp; simp only [hop]; simp [h1 w2],h2⟩
 ·rename_i f hop
  exact ⟨.fn f,.func (.func f) #[] #[],fun w2 _=>by unfold execOp; simp only [hop]; simp [Instr.makeFunc],.fn f,h⟩
 ·exact zz0 ht hF hR h

def scrH (Hh:AH) (a:AV):AV:=match okA (fun q=>!Item.isGoneAt Hh q) 3 a with
 | true=>a
 | false => .any

def qnE (tb:TB) (op:Op) (F:Fr) (Hh:AH) (K:AV->Prop):Prop:=match op with
 | .load t x=>match okA (fun q=>!Item.isGoneAt Hh q) 0 (ev F x) with
   | true=>qhK tb Hh t (ev F x) (fun av=>K (scrH Hh av))
   | false=>False
 | .convert s d x=>match okA (fun q=>!Item.isGoneAt Hh q) 0 (ev F x) with
   | true=>qq2 tb Hh s d (ev F x) (fun av=>K (scrH Hh av))
   | false=>False
 | op=>qnF tb op F [] K

theorem zyZ {m:List Bool} {H:AH} {p:Nat} (h:Item.isGoneAt (zeZ m H) p=false):zb2 m H p=true:=by
 unfold Item.isGoneAt at h
 split at h
 ·rename_i it hp
  rcases onlyL_get m H p it hp with rfl | ⟨k,_⟩
  ·simp [Item.isGone] at h
  ·exact k
 ·cases h

def allL:List Nat->(Nat->Prop)->Prop
 | [],_=>True
 | [i],f=>f i
 | i :: r,f=>f i/\allL r f

theorem zwM:∀{l:List Nat} {f:Nat->Prop},allL l f->∀i∈l,f i
 | [],_,_,i,hi=>by simp at hi
 | [j],f,h,i,hi=>by simp at hi; subst hi; exact h
 | j :: k :: r,f,h,i,hi=>by
   rcases List.mem_cons.1 hi with e | hi
   ·subst e; exact h.1
   ·exact zwM h.2 i hi

def offB:List (Nat×Bool)->Option (Nat×Bool)->Bool
 | _,none=>false
 | [],some _=>false
 | (j,b) :: r,some (i,c)=>match Nat.beq j i,b,c with
   | true,true,true=>true
   | true,false,false=>true
   | _,_,_=>offB r (some (i,c))
def qrT (off:List (Nat×Bool)):Option (Nat×Bool)->List (Nat×Bool)
 | none=>off
 | some g=>g :: off

def bitB (L i:Nat):Bool:=Nat.beq (Nat.land (Nat.shiftRight L i) 1) 1
theorem bitB_eq (L i:Nat):bitB L i=L.testBit i:=by
 have h:bitB L i=((L >>> i &&& 1) == 1):=by
  rw [Bool.eq_iff_iff,beq_iff_eq]
  exact ⟨fun h=>Nat.eq_of_beq_eq_true h,fun h=>by
   show Nat.beq (L >>> i &&& 1) 1=true
   rw [h]; rfl⟩
 rw [h,Nat.testBit]
 have:1 &&& L >>> i=L >>> i &&& 1:=Nat.and_comm _ _
 rw [this,Nat.and_one_is_mod]
 rcases Nat.mod_two_eq_zero_or_one (L >>> i) with e | e <;> simp [e]

def zdC:List Nat->Nat
 | []=>0
 | i :: r=>Nat.lor (Nat.pow 2 i) (zdC r)
theorem zyG:∀(l:List Nat) (i:Nat),(zdC l).testBit i=l.contains i
 | [],i=>by simp [zdC]
 | a :: r,i=>by
   have h:zdC (a :: r)=2 ^ a ||| zdC r:=rfl
   rw [h,Nat.testBit_or,zyG r i,Nat.testBit_two_pow,List.contains_cons]
   by_cases e:a=i
   ·subst e; simp
   ·have:¬i=a:=fun k=>e k.symm
    simp [e,this]

def zkM (o:Oper):Nat:=zdC ((o.after.toList.filter (Region.binds .any)).map (·.on))
def subB (m L:Nat):Bool:=Nat.beq (Nat.land m L) m
theorem qdG {m L:Nat}:subB m L=true ↔ ∀i,m.testBit i=true->L.testBit i=true:=by
 have h:subB m L=true ↔ m &&& L=m:=⟨fun h=>Nat.eq_of_beq_eq_true h,fun h=>by
  show Nat.beq (m &&& L) m=true
  rw [h]; exact Nat.beq_refl m⟩
 rw [h]
 constructor
 ·intro e i hi
  rw [<- e,Nat.testBit_and,Bool.and_eq_true] at hi; exact hi.2
 ·intro k
  apply Nat.eq_of_testBit_eq
  intro i
  rw [Nat.testBit_and]
  cases e:m.testBit i with
  | false=>rfl
  | true=>rw [k i e]; rfl

structure LM (ops:Array Oper) (L:Nat) (listed:Array Bool):Prop where
 size:listed.size=ops.size
 bit:∀i,L.testBit i=listed.getD i false

theorem LM.zero (ops:Array Oper):LM ops 0 (Array.replicate ops.size false):=⟨by simp,fun i=>by
 rw [Nat.zero_testBit,Array.getD_eq_getD_getElem?]
 by_cases h:i<ops.size
 ·simp [h]
 ·simp [h]⟩
theorem LM.set {ops:Array Oper} {L:Nat} {listed:Array Bool} (h:LM ops L listed) {i:Nat} (hi:i<ops.size):LM ops (Nat.lor (Nat.pow 2 i) L) (listed.setIfInBounds i true):=⟨by simp [h.size],fun j=>by
 have e:Nat.lor (Nat.pow 2 i) L=2 ^ i ||| L:=rfl
 rw [e,Nat.testBit_or,Nat.testBit_two_pow,h.bit,Array.getD_eq_getD_getElem?,Array.getD_eq_getD_getElem?,Array.getElem?_setIfInBounds]
 by_cases k:i=j
 ·subst k
  simp [h.size,hi]
 ·simp [k]⟩

def zoO:List Nat->Nat->Nat->List Nat
 | [],_,_=>[]
 | m :: r,i,L=>match bitB L i,subB m L with
   | false,true=>i :: zoO r (i+1) L
   | _,_=>zoO r (i+1) L

theorem zx0 (L:Nat):∀(l:List Nat) (i:Nat),zoO l i L=(List.range' i l.length).filter fun k=>!L.testBit k&&subB (l.getD (k-i) 0) L
 | [],i=>by simp [zoO]
 | m :: r,i=>by
   have ih:=zx0 L r (i+1)
   have hc:(List.range' (i+1) r.length).filter (fun k=>!L.testBit k&&subB ((m :: r).getD (k-i) 0) L)=(List.range' (i+1) r.length).filter (fun k=>!L.testBit k&&subB (r.getD (k-(i+1)) 0) L):=by
    refine List.filter_congr fun k hk=>?_
    have hk:i+1 <= k:=(List.mem_range'_1.1 hk).1
    rw [show k-i=(k-(i+1))+1 by omega,List.getD_cons_succ]
   rw [List.length_cons,List.range'_succ,List.filter_cons,hc,<- ih]
   simp only [zoO,bitB_eq,Nat.sub_self,List.getD_cons_zero]
   cases L.testBit i <;> cases subB m L <;> rfl

theorem zl4 {ops:Array Oper} {L:Nat} {listed:Array Bool} (h:LM ops L listed):zoO (ops.toList.map zkM) 0 L=Region.ready .any ops listed:=by
 rw [zx0,Region.ready,List.length_map,Array.length_toList,<- List.range_eq_range']
 refine List.filter_congr fun k hk=>?_
 have hk:k<ops.size:=List.mem_range.1 hk
 have e1:listed.getD k true=L.testBit k:=by
  rw [h.bit,Array.getD_eq_getD_getElem?,Array.getD_eq_getD_getElem?]
  have:k<listed.size:=by rw [h.size]; exact hk
  simp [this]
 rw [e1,Nat.sub_zero]
 congr 1
 have e2:(ops.toList.map zkM).getD k 0=zkM ops[k]:=by
  rw [List.getD_eq_getElem?_getD,List.getElem?_map]; simp [hk]
 rw [e2]
 have e3:ops[k]? = some ops[k]:=by simp [hk]
 rw [e3]
 simp only [Option.map_some,Option.getD_some]
 rw [Bool.eq_iff_iff,qdG,Array.all_eq_true_iff_forall_mem]
 simp only [zkM,zyG]
 constructor
 ·intro g e he
  simp only [Bool.or_eq_true,Bool.not_eq_true']
  by_cases hb:Region.binds .any e=true
  ·right
   rw [<- h.bit]
   refine g e.on ?_
   rw [List.contains_iff_mem]
   exact List.mem_map.2 ⟨e,List.mem_filter.2 ⟨by simpa using he,hb⟩,rfl⟩
  ·left; simpa using hb
 ·intro g i hi
  rw [List.contains_iff_mem] at hi
  obtain ⟨e,he,rfl⟩:=List.mem_map.1 hi
  obtain ⟨he,hb⟩:=List.mem_filter.1 he
  have:=g e (by simpa using he)
  rw [hb] at this
  simp only [Bool.not_true,Bool.false_or] at this
  rw [h.bit]; exact this

def zgK (ops:Array Oper) (oi:Oper) (i:Nat):Nat->List Oper->Nat
 | _,[]=>0
 | j,oj :: r=>match Nat.beq j i || (oj.after.toList.any (fun e=>Region.binds .any e&&Nat.beq e.on i) || oi.apart ops oj) with
   | true=>Nat.lor (Nat.pow 2 j) (zgK ops oi i (j+1) r)
   | false=>zgK ops oi i (j+1) r
theorem zsB (ops:Array Oper) (oi:Oper) (i:Nat):∀(l:List Oper) (j k:Nat),(zgK ops oi i j l).testBit k=true->j <= k/\∃oj,l[k-j]? = some oj/\(k=i\/oj.after.any (fun e=>Region.binds .any e&&e.on == i)=true\/oi.apart ops oj=true)
 | [],j,k,h=>by simp [zgK] at h
 | oj :: r,j,k,h=>by
   have go:(zgK ops oi i (j+1) r).testBit k=true->j <= k/\∃oj',(oj :: r)[k-j]? = some oj'/\(k=i\/oj'.after.any (fun e=>Region.binds .any e&&e.on == i)=true\/oi.apart ops oj'=true):=fun h=>by
    obtain ⟨h1,o,h2,h3⟩:=zsB ops oi i r (j+1) k h
    refine ⟨by omega,o,?_,h3⟩
    rw [show k-j=(k-(j+1))+1 by omega,List.getElem?_cons_succ]; exact h2
   simp only [zgK] at h
   split at h
   ·rename_i hc
    have e:Nat.lor (Nat.pow 2 j) (zgK ops oi i (j+1) r)=2 ^ j ||| zgK ops oi i (j+1) r:=rfl
    rw [e,Nat.testBit_or,Nat.testBit_two_pow,Bool.or_eq_true,decide_eq_true_eq] at h
    rcases h with rfl | h
    ·refine ⟨Nat.le_refl _,oj,by simp,?_⟩
     simp only [Bool.or_eq_true] at hc
     rcases hc with hc | hc | hc
     ·exact .inl (Nat.eq_of_beq_eq_true hc)
     ·right; left
      rw [List.any_eq_true] at hc
      obtain ⟨e,he,hb⟩:=hc
      rw [Array.any_eq_true']
      refine ⟨e,by simpa using he,?_⟩
      simp only [Bool.and_eq_true] at hb ⊢
      exact ⟨hb.1,by rw [Nat.eq_of_beq_eq_true hb.2]; simp⟩
     ·exact .inr (.inr hc)
    ·exact go h
   ·exact go h

def freeB (ops:Array Oper) (full L i:Nat):Bool:=match ops[i]? with
 | some oi=>subB full (Nat.lor L (zgK ops oi i 0 ops.toList))
 | none=>false
def zjA:Nat->Nat
 | 0=>0
 | n+1=>Nat.lor (Nat.pow 2 n) (zjA n)
theorem zt0:∀(n k:Nat),k<n->(zjA n).testBit k=true
 | n+1,k,h=>by
   have e:zjA (n+1)=2 ^ n ||| zjA n:=rfl
   rw [e,Nat.testBit_or,Nat.testBit_two_pow]
   by_cases hk:k<n
   ·rw [zt0 n k hk]; simp
   ·have:n=k:=by omega
    simp [this]
theorem qeK {ops:Array Oper} {L i:Nat} {listed:Array Bool} (h:LM ops L listed) (hf:freeB ops (zjA ops.size) L i=true):Region.free .any ops listed i=true:=by
 unfold freeB at hf
 unfold Region.free
 split at hf
 ·rename_i oi hi
  rw [hi]
  simp only
  rw [List.all_eq_true]
  intro j hj
  have hj:j<ops.size:=List.mem_range.1 hj
  have:=qdG.1 hf j (zt0 _ j hj)
  have e:Nat.lor L (zgK ops oi i 0 ops.toList)=L ||| zgK ops oi i 0 ops.toList:=rfl
  rw [e,Nat.testBit_or,Bool.or_eq_true] at this
  simp only [Bool.or_eq_true]
  rcases this with k | k
  ·left; right
   rw [h.bit,Array.getD_eq_getD_getElem?] at k
   rw [Array.getD_eq_getD_getElem?]
   cases hl:listed[j]? with
   | none=>rfl
   | some b=>rw [hl] at k; exact k
  ·obtain ⟨_,oj,h2,h3⟩:=zsB ops oi i _ _ _ k
   have h2:ops[j]? = some oj:=by simpa using h2
   rw [h2]
   simp only [Bool.or_eq_true]
   rcases h3 with rfl | h3 | h3
   ·left; left; simp
   ·exact .inr (.inl h3)
   ·exact .inr (.inr h3)
 ·cases hf

def aAny (tb:TB) (sp:SP) (ops:Array Oper) (nd:List Nat) (full:Nat) (Hh:AH):Nat->List (Nat×Bool)->Bool->Nat->Fr->AH->(Fr->AH->Prop)->Prop
 | 0,_,_,L,F,H,K=>match zoO nd 0 L with
   | []=>K F H
   | _=>False
 | fuel+1,off,clean,L,F,H,K=>match zoO nd 0 L with
   | []=>K F H
   | i0 :: r0=>match (i0 :: r0).find? (fun i=>match ops[i]? with
     | some o=>(offB off o.guard || candT tb clean F Hh o.op)&&freeB ops full L i
     | none=>false) with
    | some i=>match ops[i]? with
      | some o=>match offB off o.guard with
        | true=>zsI ops.toList o.guard F (fun _=>False)
          (fun F=>zmO (setD F o.dst (.tup [])) (fun F=>aAny tb sp ops nd full Hh fuel off clean (Nat.lor (Nat.pow 2 i) L) F H K))
        | false=>zsI ops.toList o.guard F
          (fun F=>match clean with
           | true=>qnF tb o.op F Hh (fun av=>zmO (setD F o.dst av) (fun F=>aAny tb sp ops nd full Hh fuel off true (Nat.lor (Nat.pow 2 i) L) F H K))
           | false=>qnE tb o.op F Hh (fun av=>zmO (setD F o.dst av) (fun F=>aAny tb sp ops nd full Hh fuel off false (Nat.lor (Nat.pow 2 i) L) F H K)))
          (fun F=>zmO (setD F o.dst (.tup [])) (fun F=>aAny tb sp ops nd full Hh fuel (qrT off o.guard) clean (Nat.lor (Nat.pow 2 i) L) F H K))
      | none=>False
    | none=>allL (i0 :: r0) (fun i=>match ops[i]? with
      | some o=>zsI ops.toList o.guard F
        (fun F=>aOp tb sp o.op F H (fun av F' H'=>qeM av (fun av=>zk9 (setD F' o.dst av) H' (fun F' H'=>aAny tb sp ops nd full Hh fuel off false (Nat.lor (Nat.pow 2 i) L) F' H' K))))
        (fun F=>zmO (setD F o.dst (.tup [])) (fun F=>aAny tb sp ops nd full Hh fuel (qrT off o.guard) clean (Nat.lor (Nat.pow 2 i) L) F H K))
      | none=>False)

section
variable {ops:Array Oper} {Q:Exit->Act->World->Prop} {K:Fr->AH->Prop} {m:List Bool} {H0:AH} {w0:World} {R0:Nat->Option Obj} {ids0 own0:Nat->Option Nat} {Hm:AH} {nf:Nat} {jds:Nat->Option Nat}

def Held (own:Nat->Option Nat) (m:List Bool) (H:AH) (w w2:World):Prop:=∀b,b<w.heap.size->¬znR own m H b->w2.heap[b]? = w.heap[b]?

theorem zcF (a:Act) (dst:Option Nat) (v:Value):(a.put dst v).defers=a.defers:=by cases dst <;> rfl

theorem qnD (ht:TBok P tb) (hR0:Rep W D R0 ids0 own0 H0 w0) (hgo:∀q,zb2 m H0 q=true->Item.goneB Hm[q]? = true) (hR:Rep (zgE R0 ids0 Hm w0 nf jds) (znR own0 m H0) R ids own H w) {o:Oper} {a:Act} {F F0:Fr} {K:AV->Prop} (hF:Ts R ids F a.tmps.toList)
  (hc:zuC false F0 (zeZ m H0) o.op=true) (h:qnE tb o.op F (zeZ m H0) K):∃av v,(∀w2,Held own0 m H0 w0 w2->(execOp a.eval o).run P w2 = .ok (.value v) w2)/\V R ids av v/\K av:=by
 unfold qnE at h
 have hpin:∀q,Item.isGoneAt (zeZ m H0) q=false->ids q=ids0 q:=fun q hq=>by
  have hh:=zyZ hq
  have:=hR.pins q (ids0 q) (by simp only [zgE]; rw [if_pos (hgo q hh)])
  exact this.1
 have hback:∀{x:AV} {v:Value},okA (fun q=>!Item.isGoneAt (zeZ m H0) q) 0 x=true->V R ids x v->V R0 ids0 x v:=fun {x v} ho hv =>
  (hv.keep (ids':=ids0) (fun q hq b hb=>by rw [<- hpin q (by simpa using hq)]; exact hb) ho).into (fun _ _ e=>e) hR.high
 have hscr:∀{av:AV} {v:Value},V R0 ids0 av v->V R ids (scrH (zeZ m H0) av) v:=fun {av v} h2=>by
  unfold scrH
  split
  ·rename_i hok
   exact (h2.keep (ids':=ids) (fun q hq b hb=>by rw [hpin q (by simpa using hq)]; exact hb) hok).into (fun _ _ e=>e) hR.low
  ·exact .any _
 split at h
 ·rename_i t x hop
  split at h
  ·rename_i hok
   obtain ⟨av,v,h1,h2,h3⟩:=zwR (P:=P) ht (hR0.only m) (hback hok (ev_ok hF x)) h
   refine ⟨_,v,fun w2 hw=>?_,hscr h2,h3⟩
   unfold execOp; simp only [hop]; simp [h1 w2 (hR0.agr hw)]
  ·exact h.elim
 ·rename_i s d x hop
  split at h
  ·rename_i hok
   obtain ⟨av,v,h1,h2,h3⟩:=qe0 (P:=P) ht (hR0.only m) (hback hok (ev_ok hF x)) h
   refine ⟨_,v,fun w2 hw=>?_,hscr h2,h3⟩
   unfold execOp; simp only [hop]; simp [h1 w2 (hR0.agr hw)]
  ·exact h.elim
 ·rename_i hno hno2
  obtain ⟨av,v,h1,h2,h3⟩:=zwO (P:=P) (o:=o) (a:=a) (own:=own) (w:=w) ht hF ⟨hR.ro,fun p it hp=>by simp at hp⟩ h
  refine ⟨av,v,fun w2 _=>h1 w2 (.inl ?_),h2,h3⟩
  rcases candOp_free hc with k | ⟨t,x,k⟩ | ⟨s,d,x,k⟩
  ·exact k
  ·exact (hno t x k).elim
  ·exact (hno2 s d x k).elim

theorem SPg.mask {sp:SP} (hs:SPg P W sp) (hR:Rep W D R0 ids0 own0 H0 w0) (Hm:AH) (w:World):SPg P (zgE R0 ids0 Hm w nf jds) sp:=⟨hs.sp,hs.gl.of hR.low⟩

theorem zf1 (ht:TBok P tb) (hs:SPg P W sp) (hR0:Rep W D R0 ids0 own0 H0 w0) (hgo:∀q,zb2 m H0 q=true->Item.goneB Hm[q]? = true) (hsel:Region.noSelect ops=true) (hP:∀c a w,¬Q (.panic c) a w) (hQ:∀a w,Told (zgE R0 ids0 Hm w0 nf jds) (znR own0 m H0) K a w->Q .normal a w) :
  ∀(fuel:Nat) (off:List (Nat×Bool)) (L:Nat) (listed:Array Bool) {a:Act} {w:World},Told (zgE R0 ids0 Hm w0 nf jds) (znR own0 m H0) (fun F H=>aAny tb sp ops (ops.toList.map zkM) (zjA ops.size) (zeZ m H0) fuel off false L F H K) a w->LM ops L listed ->
   wpAnyH P .any ops Q (Held own0 m H0 w0) fuel listed a w
 | 0,off,L,listed,a,w,⟨hd,F,H,R,ids,own,hF,hR,h⟩,hL=>by
   unfold aAny at h
   rw [zl4 hL] at h
   split at h
   ·rename_i hr; exact wpAnyH_done hr (hQ a w ⟨hd,F,H,R,ids,own,hF,hR,h⟩) 0
   ·exact h.elim
 | fuel+1,off,L,listed,a,w,⟨hd,F,H,R,ids,own,hF,hR,h⟩,hL=>by
   have hS:Held own0 m H0 w0 w:=hR.keep
   unfold aAny at h
   simp only [zmN,zrN,zhO] at h
   rw [zl4 hL] at h
   split at h
   ·rename_i hr; exact wpAnyH_done hr (hQ a w ⟨hd,F,H,R,ids,own,hF,hR,h⟩) _
   ·rename_i i0 r0 hr
    split at h
    ·rename_i i hfind
     split at h
     ·rename_i o ho
      have hc:=List.find?_some hfind
      simp only [ho,Bool.and_eq_true] at hc
      have hmem:=List.mem_of_find?_eq_some hfind
      have hfr:=qeK hL hc.2
      have hL':=hL.set (Array.getElem?_eq_some_iff.1 ho).1
      split at h
      ·refine match aGuard_ok hF h with
        | .inl ⟨_,_,_,h⟩=>h.elim
        | .inr ⟨hw,F',hF',h⟩=>?_
       refine wpAnyH_take (v:=undef) ho hsel hfr (by rw [hr]; simpa using hmem) (fun c a w hq=>(hP c _ _ hq).elim) (.inr ⟨hw,rfl⟩) hS ?_
       exact zf1 ht hs hR0 hgo hsel hP hQ fuel _ _ _ ⟨by rw [zcF]; exact hd,_,H,R,ids,own,hF'.put (a:=a) o.dst V.undef,hR,h⟩ hL'
      rename_i hoff
      simp only [hoff,Bool.false_or] at hc
      refine match aGuard_ok hF h with
       | .inl ⟨hw,F',hF',h⟩=>?_
       | .inr ⟨hw,F',hF',h⟩=>?_
      ·obtain ⟨av,v,h1,h2,h3⟩:=qnD (P:=P) (o:=o) (a:=a) ht hR0 hgo hR hF' (qhE hc.1) h
       refine wpAnyH_take (v:=v) ho hsel hfr (by rw [hr]; simpa using hmem) (fun c a w hq=>(hP c _ _ hq).elim) (.inl ⟨hw,fun w2 h2=>h1 w2 h2⟩) hS ?_
       exact zf1 ht hs hR0 hgo hsel hP hQ fuel _ _ _ ⟨by rw [zcF]; exact hd,_,H,R,ids,own,hF'.put (a:=a) o.dst h2,hR,h3⟩ hL'
      ·refine wpAnyH_take (v:=undef) ho hsel hfr (by rw [hr]; simpa using hmem) (fun c a w hq=>(hP c _ _ hq).elim) (.inr ⟨hw,rfl⟩) hS ?_
       exact zf1 ht hs hR0 hgo hsel hP hQ fuel _ _ _ ⟨by rw [zcF]; exact hd,_,H,R,ids,own,hF'.put (a:=a) o.dst V.undef,hR,h⟩ hL'
     ·exact h.elim
    ·refine wpAnyH_all hr (by simp) fun i hi=>?_
     have hh:=zwM h i hi
     split at hh
     ·rename_i o ho
      have hL':=hL.set (Array.getElem?_eq_some_iff.1 ho).1
      unfold wpOp
      simp only [ho]
      refine match aGuard_ok hF hh with
       | .inl ⟨hw,F',hF',h⟩=>?_
       | .inr ⟨hw,F',hF',h⟩=>?_
      ·rw [if_pos hw]
       refine .inl (Goes.wp ?_)
       have hg:=qnL (P:=P) (o:=o) ht (hs.mask hR0 _ _) hF' hR h
       have conv:∀v w',zd7 (zgE R0 ids0 Hm w0 nf jds) (znR own0 m H0) a.tmps.toList (fun av F' H'=>aAny tb sp ops (ops.toList.map zkM) (zjA ops.size) (zeZ m H0) fuel off false (Nat.lor (Nat.pow 2 i) L) (setD F' o.dst av) H' K) v w' ->
         (Held own0 m H0 w0 w'/\wpAnyH P .any ops Q (Held own0 m H0 w0) fuel (listed.setIfInBounds i true) (a.put o.dst v) w'):=by
        rintro v w' ⟨av,F2,H2,R2,ids2,own2,g1,g2,g3,g4⟩
        exact ⟨g3.keep,zf1 ht hs hR0 hgo hsel hP hQ fuel _ _ _ ⟨by rw [zcF]; exact hd,_,H2,R2,ids2,own2,g2.put (a:=a) o.dst g1,g3,g4⟩ hL'⟩
       rcases hg with ⟨v,w',h1,h2⟩ | ⟨w',h1,h2⟩ | ⟨f,args,w',h1,h2⟩
       ·exact .inl ⟨v,w',h1,conv _ _ h2⟩
       ·exact .inr (.inl ⟨w',h1,conv _ _ h2⟩)
       ·exact .inr (.inr ⟨f,args,w',h1,h2.mono fun e w'' ⟨v,he,hg⟩=>⟨v,he,conv _ _ hg⟩⟩)
      ·rw [if_neg (by simp [hw])]
       exact ⟨hS,zf1 ht hs hR0 hgo hsel hP hQ fuel _ _ _ ⟨by rw [zcF]; exact hd,_,H,R,ids,own,hF'.put (a:=a) o.dst V.undef,hR,h⟩ hL'⟩
     ·exact hh.elim

theorem zf2 (ht:TBok P tb) (hs:SPg P W sp) (hR:Rep W D R0 ids0 own0 H0 w0) (hgo:∀q,zb2 m H0 q=true->Item.goneB Hm[q]? = true) (hRm:Rep (zgE R0 ids0 Hm w0 nf jds) (znR own0 m H0) R0 ids0 (qbS own0 m H0) Hm w0) (hsel:Region.noSelect ops=true) (hP:∀c a w,¬Q (.panic c) a w)
  (hQ:∀a w,Told (zgE R0 ids0 Hm w0 nf jds) (znR own0 m H0) K a w->Q .normal a w) :
  ∀(fuel:Nat) (off:List (Nat×Bool)) (L:Nat) (listed:Array Bool) {a:Act} {F:Fr},a.defers=[]->Ts R0 ids0 F a.tmps.toList->aAny tb sp ops (ops.toList.map zkM) (zjA ops.size) (zeZ m H0) fuel off true L F Hm K->LM ops L listed ->
   wpAnyH P .any ops Q (Held own0 m H0 w0) fuel listed a w0
 | 0,off,L,listed,a,F,hd,hF,h,hL=>by
   unfold aAny at h
   rw [zl4 hL] at h
   split at h
   ·rename_i hr; exact wpAnyH_done hr (hQ a w0 ⟨hd,F,_,R0,ids0,_,hF,hRm,h⟩) 0
   ·exact h.elim
 | fuel+1,off,L,listed,a,F,hd,hF,h,hL=>by
   have hS:Held own0 m H0 w0 w0:=fun _ _ _=>rfl
   unfold aAny at h
   simp only [zmN,zrN,zhO] at h
   rw [zl4 hL] at h
   split at h
   ·rename_i hr; exact wpAnyH_done hr (hQ a w0 ⟨hd,F,_,R0,ids0,_,hF,hRm,h⟩) _
   ·rename_i i0 r0 hr
    split at h
    ·rename_i i hfind
     split at h
     ·rename_i o ho
      have hc:=List.find?_some hfind
      simp only [ho,Bool.and_eq_true] at hc
      have hmem:=List.mem_of_find?_eq_some hfind
      have hfr:=qeK hL hc.2
      have hL':=hL.set (Array.getElem?_eq_some_iff.1 ho).1
      split at h
      ·refine match aGuard_ok hF h with
        | .inl ⟨_,_,_,h⟩=>h.elim
        | .inr ⟨hw,F',hF',h⟩=>?_
       refine wpAnyH_take (v:=undef) ho hsel hfr (by rw [hr]; simpa using hmem) (fun c a w hq=>(hP c _ _ hq).elim) (.inr ⟨hw,rfl⟩) hS ?_
       exact zf2 ht hs hR hgo hRm hsel hP hQ fuel _ _ _ (by rw [zcF]; exact hd) (hF'.put (a:=a) o.dst V.undef) h hL'
      rename_i hoff
      simp only [hoff,Bool.false_or] at hc
      refine match aGuard_ok hF h with
       | .inl ⟨hw,F',hF',h⟩=>?_
       | .inr ⟨hw,F',hF',h⟩=>?_
      ·obtain ⟨av,v,h1,h2,h3⟩:=zwO (P:=P) (o:=o) (a:=a) ht hF' (hR.only m) h
       refine wpAnyH_take (v:=v) ho hsel hfr (by rw [hr]; simpa using hmem) (fun c a w hq=>(hP c _ _ hq).elim) (.inl ⟨hw,fun w2 h2=>h1 w2 (.inr (hR.agr h2))⟩) hS ?_
       exact zf2 ht hs hR hgo hRm hsel hP hQ fuel _ _ _ (by rw [zcF]; exact hd) (hF'.put (a:=a) o.dst h2) h3 hL'
      ·refine wpAnyH_take (v:=undef) ho hsel hfr (by rw [hr]; simpa using hmem) (fun c a w hq=>(hP c _ _ hq).elim) (.inr ⟨hw,rfl⟩) hS ?_
       exact zf2 ht hs hR hgo hRm hsel hP hQ fuel _ _ _ (by rw [zcF]; exact hd) (hF'.put (a:=a) o.dst V.undef) h hL'
     ·exact h.elim
    ·refine wpAnyH_all hr (by simp) fun i hi=>?_
     have hh:=zwM h i hi
     split at hh
     ·rename_i o ho
      have hL':=hL.set (Array.getElem?_eq_some_iff.1 ho).1
      unfold wpOp
      simp only [ho]
      refine match aGuard_ok hF hh with
       | .inl ⟨hw,F',hF',h⟩=>?_
       | .inr ⟨hw,F',hF',h⟩=>?_
      ·rw [if_pos hw]
       refine .inl (Goes.wp ?_)
       have hg:=qnL (P:=P) (o:=o) ht (hs.mask hR _ _) hF' hRm h
       have conv:∀v w',zd7 (zgE R0 ids0 Hm w0 nf jds) (znR own0 m H0) a.tmps.toList (fun av F' H'=>aAny tb sp ops (ops.toList.map zkM) (zjA ops.size) (zeZ m H0) fuel off false (Nat.lor (Nat.pow 2 i) L) (setD F' o.dst av) H' K) v w' ->
         (Held own0 m H0 w0 w'/\wpAnyH P .any ops Q (Held own0 m H0 w0) fuel (listed.setIfInBounds i true) (a.put o.dst v) w'):=by
        rintro v w' ⟨av,F2,H2,R2,ids2,own2,g1,g2,g3,g4⟩
        exact ⟨g3.keep,zf1 ht hs hR hgo hsel hP hQ fuel _ _ _ ⟨by rw [zcF]; exact hd,_,H2,R2,ids2,own2,g2.put (a:=a) o.dst g1,g3,g4⟩ hL'⟩
       rcases hg with ⟨v,w',h1,h2⟩ | ⟨w',h1,h2⟩ | ⟨f,args,w',h1,h2⟩
       ·exact .inl ⟨v,w',h1,conv _ _ h2⟩
       ·exact .inr (.inl ⟨w',h1,conv _ _ h2⟩)
       ·exact .inr (.inr ⟨f,args,w',h1,h2.mono fun e w'' ⟨v,he,hg⟩=>⟨v,he,conv _ _ hg⟩⟩)
      ·rw [if_neg (by simp [hw])]
       exact ⟨hS,zf2 ht hs hR hgo hRm hsel hP hQ fuel _ _ _ (by rw [zcF]; exact hd) (hF'.put (a:=a) o.dst V.undef) h hL'⟩
     ·exact hh.elim
end

def qhL (tb:TB) (all:List Oper) (H:AH):List Oper->Fr->(Fr->Prop)->Prop
 | [],F,K=>K F
 | o :: r,F,K=>zsI all o.guard F (fun F=>qnF tb o.op F H (fun av=>qhL tb all H r (setD F o.dst av) K)) (fun F=>qhL tb all H r (setD F o.dst (.tup [])) K)

theorem zpN (ht:TBok P tb) {all:List Oper} (hR:Rep W D R ids own H w) {Q:Act->Prop} {K:Fr->Prop} (hQ:∀a F,a.defers=[]->Ts R ids F a.tmps.toList->K F->Q a):∀(r:List Oper) {a:Act} {F:Fr},
  a.defers=[]->Ts R ids F a.tmps.toList->qhL tb all H r F K->wpStill P all.toArray w Q r a
 | [],a,F,hd,hF,h=>hQ a F hd hF h
 | o :: r,a,F,hd,hF,h=>by
   unfold qhL at h
   unfold wpStill
   rcases aGuard_ok hF h with ⟨hw,F',hF',h⟩ | ⟨hw,F',hF',h⟩
   ·rw [if_pos hw]
    obtain ⟨av,v,h1,h2,h3⟩:=zwO (P:=P) (o:=o) (a:=a) ht hF' hR.view h
    unfold Oper.still
    rw [h1 w (.inr hR.view.refl)]
    exact ⟨rfl,zpN ht hR hQ r (by rw [zcF]; exact hd) (hF'.put (a:=a) o.dst h2) h3⟩
   ·rw [if_neg (by simp [hw])]
    exact zpN ht hR hQ r (by rw [zcF]; exact hd) (hF'.put (a:=a) o.dst V.undef) h

def qgU:List Oper->Nat
 | []=>0
 | o :: r=>match zuC true [] [.cells 0 []] (match o.op with | .load .. => .move (.tmp 0) | .convert .. => .move (.tmp 0) | op=>op) with
   | true=>qgU r+1
   | false=>0

def zmC (loose:List Nat) (n:Nat):List Bool:=(List.range n).map fun q=>!loose.any (Nat.beq q)

def qnU (tb:TB) (sp:SP) (ops:Array Oper) (loose:List Nat) (F:Fr) (H:AH) (K:Fr->AH->Prop):Prop :=
 match Nat.beq (qgU ops.toList) ops.size&&Region.lexB .any ops with
 | true=>qhL tb ops.toList H ops.toList F (fun F=>K F H)
 | false=>match Region.lexTailB .any ops (qgU ops.toList) with
   | true=>qhL tb ops.toList H (ops.toList.take (qgU ops.toList)) F (fun F=>aOps tb sp ops.toList (ops.toList.drop (qgU ops.toList)) F H K)
   | false=>match Region.noSelect ops with
     | true=>zrO (ops.toList.map zkM) (fun nd=>zoV (zjA ops.size) (fun full=>zjC (zeZ (zmC loose H.length) H) (fun Hh=>zjC (zfI (zmC loose H.length) H) (fun Hm=>aAny tb sp ops nd full Hh ops.size [] true 0 F Hm
       (fun F' H'=>zk9 F' (zbS (okM (zmC loose H.length) H) (zmC loose H.length) H H') K)))))
     | false=>False

def qc6 (tb:TB) (sp:SP) (ops:Array Oper) (loose:List Nat) (F:Fr) (H:AH) (K:Fr->AH->Prop):Prop :=
 match Region.noSelect ops with
 | true=>zrO (ops.toList.map zkM) (fun nd=>zoV (zjA ops.size) (fun full=>zjC (zeZ (zmC loose H.length) H) (fun Hh=>zjC (maskK (zmC loose H.length) H) (fun Hm=>aAny tb sp ops nd full Hh ops.size [] true 0 F Hm
   (fun F' H'=>match H'[H.length]? with
    | some .fence=>zk9 F' (restK (zmC loose H.length) H H') K
    | _=>False)))))
 | false=>False
def keptB:List Nat->Bool
 | a :: _=>Nat.beq a 1000
 | []=>false

def qc7 (tb:TB) (sp:SP) (ops:Array Oper) (loose:List Nat) (F:Fr) (H:AH) (K:Fr->AH->Prop):Prop:=match keptB loose with
 | true=>qc6 tb sp ops loose F H K
 | false=>qnU tb sp ops loose F H K

theorem qnT (hm:P.follows .mixedOrders=true) (ht:TBok P tb) (hs:SPg P W sp) {id:Nat} {ops:Array Oper} {loose:List Nat} {Q:Exit->Act->World->Prop} {K:Fr->AH->Prop} (hP:∀c a w,¬Q (.panic c) a w)
  (hQ:∀a w,Told W D K a w->Q .normal a w) {a:Act} (h:Told W D (fun F H=>qnU tb sp ops loose F H K) a w):(Code.region id ops true).wp P Q a w:=by
 obtain ⟨hd,F,H,R,ids,own,hF,hR,h⟩:=h
 have hR1:Rep W D R ids own H { w with drawn:=w.drawn+1 }:=hR.same rfl rfl rfl rfl
 unfold qnU at h
 split at h
 ·rename_i hb
  simp only [Bool.and_eq_true] at hb
  refine wp_region_still hm hb.2 ?_
  have:=zpN (P:=P) ht hR1 (Q:=fun a'=>Q .normal a' { w with drawn:=w.drawn+1 }) (K:=fun F=>K F H) (fun a' F' hd' hF' hk=>hQ _ _ ⟨hd',F',H,R,ids,own,hF',hR1,hk⟩) ops.toList hd hF h
  simpa using this
 ·split at h
  ·rename_i hb
   have e:ops=ops.toList.toArray:=by simp
   rw [e]
   refine wp_region_still_tail (qgU ops.toList) hm (by rw [<- e]; exact hb) ?_
   refine zpN (P:=P) ht hR1 (fun a' F' hd' hF' hk=>?_) _ hd hF h
   exact zwQ ht hs hQ _ ⟨hd',F',H,R,ids,own,hF',hR1,hk⟩
  ·split at h
   ·rename_i hsel
    refine wp_region_held (S:=Held own (zmC loose H.length) H { w with drawn:=w.drawn+1 }) hm ?_
    rw [zn2,zgH,zfX,zfX] at h
    simp only [zhO] at h
    refine zf2 (nf:=W.nst) (jds:=W.ids0) ht hs hR1 (fun q hq=>by rw [zfC,if_pos hq]; rfl) (hR1.mask _) hsel hP (fun a' w' ⟨hd',F',H',R',ids',own',hF',hR',hk⟩=>?_) _ _ _ _ hd hF h (LM.zero ops)
    exact hQ _ _ ⟨hd',F',_,R',ids',_,hF',hR1.rest hR',hk⟩
   ·exact h.elim
theorem qhM (hm:P.follows .mixedOrders=true) (ht:TBok P tb) (hs:SPg P W sp) {id:Nat} {ops:Array Oper} {loose:List Nat} {Q:Exit->Act->World->Prop} {K:Fr->AH->Prop} (hP:∀c a w,¬Q (.panic c) a w)
  (hQ:∀a w,Told W D K a w->Q .normal a w) {a:Act} (h:Told W D (fun F H=>qc6 tb sp ops loose F H K) a w):(Code.region id ops true).wp P Q a w:=by
 obtain ⟨hd,F,H,R,ids,own,hF,hR,h⟩:=h
 have hR1:Rep W D R ids own H { w with drawn:=w.drawn+1 }:=hR.same rfl rfl rfl rfl
 unfold qc6 at h
 split at h
 ·rename_i hsel
  refine wp_region_held (S:=Held own (zmC loose H.length) H { w with drawn:=w.drawn+1 }) hm ?_
  rw [zn2,zgH,zfX,zfX] at h
  simp only [zhO] at h
  refine zf2 ht hs hR1 (fun q hq=>?_) (hR1.maskK _) hsel hP (fun a' w' ⟨hd',F',H',R',ids',own',hF',hR',hk⟩=>?_) _ _ _ _ hd hF h (LM.zero ops)
  ·have hlt:q<H.length:=by
    unfold zb2 at hq
    split at hq
    ·rename_i e; exact lt_of_some e
    ·cases hq
   rw [zpB hlt,if_pos hq]; rfl
  ·simp only at hk
   split at hk
   ·rename_i hf
    exact hQ _ _ ⟨hd',F',_,R',ids',_,hF',hR1.restK hR' hf,hk⟩
   ·exact hk.elim
 ·exact h.elim
theorem qhN (hm:P.follows .mixedOrders=true) (ht:TBok P tb) (hs:SPg P W sp) {id:Nat} {ops:Array Oper} {loose:List Nat} {Q:Exit->Act->World->Prop} {K:Fr->AH->Prop} (hP:∀c a w,¬Q (.panic c) a w)
  (hQ:∀a w,Told W D K a w->Q .normal a w) {a:Act} (h:Told W D (fun F H=>qc7 tb sp ops loose F H K) a w):(Code.region id ops true).wp P Q a w:=by
 unfold qc7 at h
 cases hk:keptB loose with
 | true=>simp only [hk] at h; exact qhM hm ht hs hP hQ h
 | false=>simp only [hk] at h; exact qnT hm ht hs hP hQ h

end Go.Sx
