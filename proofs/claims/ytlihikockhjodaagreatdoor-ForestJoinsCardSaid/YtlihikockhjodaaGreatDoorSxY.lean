import Derived.Test.YtlihikockhjodaaGreatDoorSxX
import Derived.Deep.Slices

namespace Go.Sx
open Go.RowKit Go.ChangeShapes Go.WideShapes
variable {P:Program} {w:World} {base:Nat} {spare:Nat->Bool} {held:Bool} {HH:Type} {encd:TypeId×Value->HH}

mutual
inductive TT where
 | int (k:IntKind)
 | nat (k:IntKind)
 | bool
 | txt
 | slice (e:TT)
 | arr (n:Nat) (e:TT)
 | fields (f:TF)
inductive TF where
 | one (t:TT)
 | cons (t:TT) (r:TF)
end

mutual
def El:TT->Type
 | .int _=>Int
 | .nat _=>Nat
 | .bool=>Bool
 | .txt=>List Int
 | .slice e=>List (El e)
 | .arr _ e=>List (El e)
 | .fields f=>ElF f
def ElF:TF->Type
 | .one t=>El t
 | .cons t r=>El t×ElF r
end

mutual
def szT:TT->Nat
 | .arr n e=>n*szT e
 | .fields f=>szF f
 | _=>1
def szF:TF->Nat
 | .one t=>szT t
 | .cons t r=>szT t+szF r
end

mutual
def dfl:(t:TT)->El t
 | .int _=>(0:Int)
 | .nat _=>(0:Nat)
 | .bool=>false
 | .txt=>([]:List Int)
 | .slice e=>([]:List (El e))
 | .arr _ e=>([]:List (El e))
 | .fields f=>dflF f
def dflF:(f:TF)->ElF f
 | .one t=>dfl t
 | .cons t r=>(dfl t,dflF r)
end

mutual
def encT:(t:TT)->El t->List AV
 | .int k,n=>[.int k n]
 | .nat k,n=>[.int k (@Nat.cast Int _ n)]
 | .bool,b=>[.bool b]
 | .txt,l=>[.str l]
 | .slice e,l=>[.ro (szT e) (List.length l) (fun i=>encT e (List.getD l i (dfl e)))]
 | .arr n e,l=>[.arr (szT e) n (fun i=>encT e (List.getD l i (dfl e)))]
 | .fields f,x=>encF f x
def encF:(f:TF)->ElF f->List AV
 | .one t,x=>encT t x
 | .cons t r,x=>encT t x.1++encF r x.2
end

mutual
def wfT:(t:TT)->El t->Prop
 | .int k,n=>(Lit.int k n).wf=true
 | .nat k,n=>@LT.lt Nat _ n (2 ^ k.bits)
 | .bool,_=>True
 | .txt,l=>zgL l/\List.length l <= maxLen
 | .slice e,l=>List.length l <= maxLen/\∀x,List.Mem x l->wfT e x
 | .arr n e,l=>List.length l=n/\∀x,List.Mem x l->wfT e x
 | .fields f,x=>wfF f x
def wfF:(f:TF)->ElF f->Prop
 | .one t,x=>wfT t x
 | .cons t r,x=>wfT t x.1/\wfF r x.2
end

def topT:(t:TT)->El t->AV
 | .int k,n => .int k n
 | .nat k,n => .int k (@Nat.cast Int _ n)
 | .bool,b => .bool b
 | .txt,l => .str l
 | .slice e,l => .ro (szT e) (List.length l) (fun i=>encT e (List.getD l i (dfl e)))
 | .arr n e,l => .agg [.arr (szT e) n (fun i=>encT e (List.getD l i (dfl e)))]
 | .fields f,x => .agg (encF f x)

mutual
def ttB (P:Program):TT->TypeId->Bool
 | .int k,ty=>match P.underlying ty with
   | some (.int k')=>kb k' k
   | _=>false
 | .nat k,ty=>match P.underlying ty with
   | some (.int k')=>kb k' k && !k.signed
   | _=>false
 | .bool,ty=>match P.underlying ty with
   | some .bool=>true
   | _=>false
 | .txt,ty=>match P.underlying ty with
   | some .string=>true
   | _=>false
 | .slice e,ty=>match P.underlying ty with
   | some (.slice e')=>Nat.beq (P.cellsOf e') (szT e)&&(Nat.ble 1 (szT e)&&ttB P e e')
   | _=>false
 | .arr n e,ty=>match P.underlying ty with
   | some (.array n' e')=>Nat.beq n' n&&(Nat.beq (P.cellsOf e') (szT e)&&(Nat.beq (P.cellsOf ty) (n*szT e)&&ttB P e e'))
   | _=>false
 | .fields f,ty=>match P.underlying ty with
   | some (.struct fs)=>Nat.beq (P.cellsOf ty) (szF f)&&tfB P f 0 fs.toList
   | _=>false
def tfB (P:Program):TF->Nat->List Field->Bool
 | .one t,off,[fd]=>Nat.beq fd.offset off&&(Nat.beq (P.cellsOf fd.type) (szT t)&&ttB P t fd.type)
 | .cons t r,off,fd :: fs=>Nat.beq fd.offset off&&(Nat.beq (P.cellsOf fd.type) (szT t)&&(ttB P t fd.type&&tfB P r (off+szT t) fs))
 | _,_,_=>false
end

theorem Vs.one1 {R:Nat->Option Obj} {ids:Nat->Option Nat} {a:AV} {v:Value} (h:Vs R ids [a] #[v].toList) (ha:a.one=true):V R ids a v:=by
 have:∀l:List Value,l=[v]->Vs R ids [a] l->V R ids a v:=fun l hl h=>by
  cases h with
  | one _ _ _ _ _ k _=>cases hl; exact k
  | arr=>simp [AV.one] at ha
 exact this _ rfl h

theorem ziA {α:Type} (d:α) {p:Nat->α->Prop}:∀n,(∀i,i<n->∃a,p i a)->∃l:List α,l.length=n/\∀i,i<n->p i (l.getD i d)
 | 0,_=>⟨[],rfl,fun i hi=>absurd hi (Nat.not_lt_zero _)⟩
 | n+1,h=>by
   obtain ⟨l,h1,h2⟩:=ziA d n fun i hi=>h i (by omega)
   obtain ⟨a,ha⟩:=h n (by omega)
   refine ⟨l++[a],by simp [h1],fun i hi=>?_⟩
   by_cases e:i<n
   ·rw [List.getD_eq_getElem?_getD,List.getElem?_append_left (by omega),<- List.getD_eq_getElem?_getD]; exact h2 i e
   ·have:i=n:=by omega
    subst this
    rw [List.getD_eq_getElem?_getD,List.getElem?_append_right (by omega),h1,Nat.sub_self]; exact ha

theorem zvP {α:Type} {l:List α} {d x:α} (h:List.Mem x l):∃i,i<l.length/\l.getD i d=x:=by
 obtain ⟨i,hi,rfl⟩:=List.mem_iff_getElem.1 h
 exact ⟨i,hi,by rw [List.getD_eq_getElem?_getD,List.getElem?_eq_getElem hi]; rfl⟩

theorem zr2 {a:Addr} {n:Nat} {cs:List Value} (h:w.cells? base a n=some cs):cs.length=n/\∀j,j<n->w.cell? (a.add j)=cs[j]?:=by
 unfold World.cells? at h
 split at h
 ·exact ⟨by simpa using mapM_some_length h,fun j hj=>mapM_some_get h j j (by simp [hj])⟩
 ·cases h

theorem qmQ (y:Addr) (u:Value) (hu:w.cell? y=some u):rcell (roAll w) y.block y.off=some u/\y.spot=none:=by
 unfold World.cell? at hu
 unfold rcell roAll
 cases hb:w.heap[y.block]? with
 | none=>rw [hb] at hu; cases hu
 | some o =>
   rw [hb] at hu
   cases o with
   | cells c T fr =>
     simp only at hu ⊢
     by_cases hs:y.spot.isSome=true
     ·rw [if_pos hs] at hu; cases hu
     ·rw [if_neg hs] at hu
      exact ⟨hu,by simpa using hs⟩
   | _=>simp at hu

theorem qnB (b o:Nat) (i:Nat):(Addr.add ⟨b,o,none⟩ i)=⟨b,o+i,none⟩:=by
 by_cases e:i=0
 ·subst e; simp [Addr.add]
 ·simp [Addr.add,e]

mutual
theorem trod_enc:∀(t:TT) {ty fuel:Nat} {cs:List Value} {x:DataW HH×List MemPlace},ttB P t ty=true->DataW.trod encd P w base spare held fuel ty cs=some x ->
  ∃e:El t,wfT t e/\cs.length=szT t/\Vs (roAll w) noIds (encT t e) cs
 | .int k,ty,fuel,cs,x,hb,h=>by
   unfold ttB at hb
   split at hb
   ·rename_i k' hu
    obtain rfl:=qgP hb
    obtain ⟨n,rfl,_,hw⟩:=DataW.trod_int hu h
    exact ⟨n,hw,rfl,.one _ _ _ _ rfl (.int _ _) .nil⟩
   ·cases hb
 | .nat k,ty,fuel,cs,x,hb,h=>by
   unfold ttB at hb
   split at hb
   ·rename_i k' hu
    simp only [Bool.and_eq_true,Bool.not_eq_true'] at hb
    obtain ⟨hk,hs⟩:=hb
    obtain rfl:=qgP hk
    obtain ⟨n,rfl,_,hw⟩:=DataW.trod_int hu h
    have hb:0 <= n/\n<2 ^ k'.bits:=by
     simp only [Lit.wf,Bool.and_eq_true,decide_eq_true_eq,IntKind.min,IntKind.max,hs] at hw
     revert hw
     cases k' <;> simp_all [IntKind.bits,IntKind.signed] <;> omega
    refine ⟨n.toNat,?_,rfl,?_⟩
    ·have:(n.toNat:Int)<2 ^ k'.bits:=by omega
     exact_mod_cast this
    ·have e:((n.toNat:Nat):Int)=n:=by omega
     show Vs _ _ [.int k' ((n.toNat:Nat):Int)] _
     rw [e]
     exact .one _ _ _ _ rfl (.int _ _) .nil
   ·cases hb
 | .bool,ty,fuel,cs,x,hb,h=>by
   unfold ttB at hb
   split at hb
   ·rename_i hu
    obtain ⟨b,rfl,_⟩:=DataW.trod_bool hu h
    exact ⟨b,trivial,rfl,.one _ _ _ _ rfl (.bool _) .nil⟩
   ·cases hb
 | .txt,ty,fuel,cs,x,hb,h=>by
   unfold ttB at hb
   split at hb
   ·rename_i hu
    obtain ⟨s,rfl,_,hl⟩:=DataW.trod_string hu h
    refine ⟨s.data.toList.map fun c=>(c.toNat:Int),⟨zk3 s,by simpa using hl⟩,rfl,.one _ _ _ _ rfl ?_ .nil⟩
    conv=>rhs; rw [<- zoW s]
    exact .str _ (zk3 s)
   ·cases hb
 | .slice e,ty,fuel,cs,x,hb,h=>by
   unfold ttB at hb
   split at hb
   ·rename_i e' hu
    simp only [Bool.and_eq_true] at hb
    obtain ⟨hc,hz,he⟩:=hb
    have hc:=Nat.eq_of_beq_eq_true hc
    have hz:1 <= szT e:=Nat.le_of_ble_eq_true hz
    rcases Deep.open_slice hu h with ⟨rfl,_⟩ | ⟨a,len,cap,m,n,Df,Pl,rfl,_,hlc,hcm,hm,_,hall⟩
    ·refine ⟨([]:List (El e)),⟨Nat.zero_le _,fun x hx=>(by cases hx)⟩,rfl,.one _ _ _ _ rfl ?_ .nil⟩
     exact .ro0 _ _ none 0 (Nat.zero_le _)
    ·have hlm:len <= m:=by rw [hm]; split <;> omega
     have hel:∀i,i<len->∃y:El e,wfT e y/\∃cs',w.cells? base (a.add (i*P.cellsOf e')) (P.cellsOf e')=some cs'/\Vs (roAll w) noIds (encT e y) cs':=fun i hi=>by
      obtain ⟨cs',h1,h2⟩:=hall i (by omega)
      obtain ⟨y,g1,_,g3⟩:=trod_enc e he h2
      exact ⟨y,g1,cs',h1,g3⟩
     obtain ⟨l,hl,hp⟩:=ziA (dfl e) len hel
     refine ⟨l,⟨by rw [hl]; exact Nat.le_trans hlc hcm,fun x hx=>?_⟩,rfl,.one _ _ _ _ rfl ?_ .nil⟩
     ·obtain ⟨i,hi,rfl⟩:=zvP (d:=dfl e) hx
      exact (hp i (by omega)).1
     ·show V _ _ (.ro (szT e) l.length _) _
      rw [hl]
      rcases Nat.eq_zero_or_pos len with rfl | hpos
      ·exact .ro0 _ _ _ cap hcm
      ·have hsp:a.spot=none:=by
        obtain ⟨_,cs',h1,_⟩:=hp 0 hpos
        obtain ⟨g1,g2⟩:=zr2 h1
        have:=g2 0 (by rw [hc]; exact hz)
        rw [List.getElem?_eq_getElem (by omega)] at this
        have:=(qmQ _ _ this).2
        simpa [Addr.add] using this
       obtain ⟨b,o,s⟩:=a
       simp only at hsp
       subst hsp
       have hcs:∀i,i<len->∃cs',(w.cells? base (Addr.add ⟨b,o,none⟩ (i*P.cellsOf e')) (P.cellsOf e')=some cs'/\Vs (roAll w) noIds (encT e (l.getD i (dfl e))) cs'):=fun i hi=>(hp i hi).2
       obtain ⟨css,hcl,hcp⟩:=ziA ([]:List Value) len hcs
       refine .ro (szT e) len _ b o cap (fun i=>css.getD i []) hlc hcm (fun i hi=>?_) (fun i hi j hj=>?_) (fun i hi=>(hcp i hi).2)
       ·rw [(zr2 (hcp i hi).1).1,hc]
       ·have g:=(zr2 (hcp i hi).1)
        have:=g.2 j (by rw [hc]; exact hj)
        rw [qnB,qnB,hc] at this
        rw [List.getElem?_eq_getElem (by rw [g.1,hc]; exact hj)] at this ⊢
        exact (qmQ _ _ this).1
   ·cases hb
 | .arr n e,ty,fuel,cs,x,hb,h=>by
   unfold ttB at hb
   split at hb
   ·rename_i n' e' hu
    simp only [Bool.and_eq_true] at hb
    obtain ⟨hn,hc,hC,he⟩:=hb
    obtain rfl:=Nat.eq_of_beq_eq_true hn
    have hc:=Nat.eq_of_beq_eq_true hc
    have hC:=Nat.eq_of_beq_eq_true hC
    obtain ⟨xs,m,_,_,hlen,hxs,hall⟩:=DataW.trod_array hu h
    have hel:∀i,i<n'->∃y:El e,wfT e y/\Vs (roAll w) noIds (encT e y) ((cs.drop (i*szT e)).take (szT e)):=fun i hi=>by
     have:=hall i hi
     rw [List.getElem?_eq_getElem (by omega),hc] at this
     obtain ⟨y,g1,_,g3⟩:=trod_enc e he this
     exact ⟨y,g1,g3⟩
    obtain ⟨l,hl,hp⟩:=ziA (dfl e) n' hel
    refine ⟨l,⟨hl,fun x hx=>?_⟩,by rw [hlen,hC]; rfl,?_⟩
    ·obtain ⟨i,hi,rfl⟩:=zvP (d:=dfl e) hx
     exact (hp i (by omega)).1
    ·have:=Vs.arr (R:=roAll w) (ids:=noIds) (szT e) n' (fun i=>encT e (l.getD i (dfl e))) (fun i=>(cs.drop (i*szT e)).take (szT e)) [] cs [] (by rw [hlen,hC,Nat.mul_comm]) (fun i hi=>rfl) (fun i hi=>(hp i hi).2) .nil
     rwa [List.append_nil] at this
   ·cases hb
 | .fields f,ty,fuel,cs,x,hb,h=>by
   unfold ttB at hb
   split at hb
   ·rename_i fs hu
    simp only [Bool.and_eq_true] at hb
    obtain ⟨hC,hf⟩:=hb
    have hC:=Nat.eq_of_beq_eq_true hC
    obtain ⟨xs,m,_,_,hlen,hxs,hall⟩:=DataW.trod_struct hu h
    have hl:cs.length=szF f:=by rw [hlen,hC]
    obtain ⟨e,g1,g2⟩:=trod_encF f (off:=0) (fs:=fs.toList) (cs:=cs) hf (fun fd hfd=>by
     obtain ⟨i,hi⟩:=List.mem_iff_getElem?.1 hfd
     have hi':fs[i]? = some fd:=by simpa using hi
     have:=hall i fd hi'
     have hlt:i<xs.length:=by rw [hxs]; exact (Array.getElem?_eq_some_iff.1 hi').1
     rw [List.getElem?_eq_getElem hlt] at this
     exact ⟨m,_,this⟩)
    refine ⟨e,g1,hl,?_⟩
    rw [List.drop_zero,List.take_of_length_le (by omega)] at g2
    exact g2
   ·cases hb
theorem trod_encF:∀(f:TF) {off:Nat} {fs:List Field} {cs:List Value},tfB P f off fs=true->(∀fd∈fs,∃fuel x,DataW.trod encd P w base spare held fuel fd.type ((cs.drop fd.offset).take (P.cellsOf fd.type))=some x) ->
  ∃e:ElF f,wfF f e/\Vs (roAll w) noIds (encF f e) ((cs.drop off).take (szF f))
 | .one t,off,fs,cs,hb,h=>by
   unfold tfB at hb
   split at hb
   ·rename_i t' off' fd e1
    cases e1
    simp only [Bool.and_eq_true] at hb
    obtain ⟨ho,hc,ht⟩:=hb
    have ho:=Nat.eq_of_beq_eq_true ho
    have hc:=Nat.eq_of_beq_eq_true hc
    obtain ⟨fuel,x,hx⟩:=h _ List.mem_cons_self
    obtain ⟨e,g1,_,g3⟩:=trod_enc t ht hx
    rw [ho,hc] at g3
    exact ⟨e,g1,g3⟩
   ·rename_i e1; cases e1
   ·cases hb
 | .cons t r,off,fs,cs,hb,h=>by
   unfold tfB at hb
   split at hb
   ·rename_i e1; cases e1
   ·rename_i off' _ _ _ _ e1
    cases e1
    simp only [Bool.and_eq_true] at hb
    obtain ⟨ho,hc,ht,hr⟩:=hb
    have ho:=Nat.eq_of_beq_eq_true ho
    have hc:=Nat.eq_of_beq_eq_true hc
    obtain ⟨fuel,x,hx⟩:=h _ List.mem_cons_self
    obtain ⟨e,g1,_,g3⟩:=trod_enc t ht hx
    obtain ⟨e',k1,k2⟩:=trod_encF r hr (fun fd hfd=>h fd (List.mem_cons_of_mem _ hfd))
    rw [ho,hc] at g3
    refine ⟨(e,e'),⟨g1,k1⟩,?_⟩
    show Vs _ _ (encT t e++encF r e') ((cs.drop _).take (szT t+szF r))
    rw [List.take_add,List.drop_drop]
    exact g3.append k2
   ·cases hb
end

theorem top_in {t:TT} {ty b0:Nat} {v:Value} {d:DataW HH} {p:List MemPlace} (hb:ttB P t ty=true) (hv:Value.okWide P w .any b0 ty v) (h:DataW.Trod encd P w base spare held ty v d p) :
  ∃e:El t,wfT t e/\V (roAll w) noIds (topT t e) v:=by
 obtain ⟨fuel,hf⟩:=h
 obtain ⟨e,h1,_,h3⟩:=trod_enc t hb hf
 refine ⟨e,h1,?_⟩
 have one:∀{a:AV},a.one=true->(∀cs,v≠.agg cs)->Vs (roAll w) noIds [a] v.cells.toList->V (roAll w) noIds a v:=fun {a} ha hn hvs=>by
  have:v.cells = #[v]:=by
   cases v <;> first | rfl | (exact absurd rfl (hn _))
  rw [this] at hvs
  exact hvs.one1 ha
 cases t with
 | int k =>
   unfold ttB at hb; split at hb
   ·rename_i hu; obtain ⟨n,rfl⟩:=okWide_int hu hv; exact one rfl (fun _ e=>by cases e) h3
   ·cases hb
 | nat k =>
   unfold ttB at hb; split at hb
   ·rename_i hu; obtain ⟨n,rfl⟩:=okWide_int hu hv; exact one rfl (fun _ e=>by cases e) h3
   ·cases hb
 | bool =>
   unfold ttB at hb; split at hb
   ·rename_i hu; obtain ⟨n,rfl⟩:=okWide_bool hu hv; exact one rfl (fun _ e=>by cases e) h3
   ·cases hb
 | txt =>
   unfold ttB at hb; split at hb
   ·rename_i hu; obtain ⟨n,rfl⟩:=okWide_string hu hv; exact one rfl (fun _ e=>by cases e) h3
   ·cases hb
 | slice e' =>
   unfold ttB at hb; split at hb
   ·rename_i hu; obtain ⟨a,l,c,rfl⟩:=okWide_slice hu hv; exact one rfl (fun _ e=>by cases e) h3
   ·cases hb
 | arr n e' =>
   unfold ttB at hb; split at hb
   ·rename_i hu
    simp only [Value.okWide,hu] at hv
    obtain ⟨cs,rfl,_⟩:=hv
    exact .agg _ _ h3
   ·cases hb
 | fields f =>
   unfold ttB at hb; split at hb
   ·rename_i hu
    simp only [Value.okWide,hu] at hv
    obtain ⟨cs,rfl,_⟩:=hv
    exact .agg _ _ h3
   ·cases hb

theorem zzC {g:AV->AV->Prop}:∀{l:List AV},(∀a∈l,a.one=true->g a a)->(∀a∈l,a.one=true\/∃es n f,a = .arr es n f)->fitS g l l
 | [],_,_=>trivial
 | a :: r,h,k=>by
   have ih:=zzC (g:=g) (l:=r) (fun a ha=>h a (List.mem_cons_of_mem _ ha)) (fun a ha=>k a (List.mem_cons_of_mem _ ha))
   rcases k a List.mem_cons_self with h1 | ⟨es,n,f,rfl⟩
   ·have hg:=h a List.mem_cons_self h1
    cases a <;> first | exact ⟨hg,ih⟩ | (simp [AV.one] at h1)
   ·exact ⟨rfl,rfl,fun _ _=>rfl,ih⟩

def AV.cellB:AV->Bool
 | .int .. | .bool _ | .str _ | .ro .. | .arr ..=>true
 | _=>false
mutual
theorem enc_cell:∀(t:TT) (e:El t),∀a∈encT t e,a.cellB=true
 | .int k,e,a,h=>by cases List.mem_singleton.1 h; rfl
 | .nat k,e,a,h=>by cases List.mem_singleton.1 h; rfl
 | .bool,e,a,h=>by cases List.mem_singleton.1 h; rfl
 | .txt,e,a,h=>by cases List.mem_singleton.1 h; rfl
 | .slice t,e,a,h=>by cases List.mem_singleton.1 h; rfl
 | .arr n t,e,a,h=>by cases List.mem_singleton.1 h; rfl
 | .fields f,e,a,h=>encF_cell f e a h
theorem encF_cell:∀(f:TF) (e:ElF f),∀a∈encF f e,a.cellB=true
 | .one t,e,a,h=>enc_cell t e a h
 | .cons t r,e,a,h=>by
   rcases List.mem_append.1 h with h | h
   ·exact enc_cell t _ a h
   ·exact encF_cell r _ a h
end

theorem zn3 {a:AV} (h:a.cellB=true) (h1:a.one=true):zlB true [] [] a a:=by
 cases a <;> first | (simp [AV.cellB] at h; done) | (simp [AV.one] at h1; done) | skip
 ·rename_i k n; cases k <;> exact ⟨trivial,rfl⟩
 ·exact rfl
 ·exact rfl
 ·rename_i es n f
  unfold zlB
  have hb:Nat.beq es es=true:=Nat.beq_refl es
  simp only [zwG,slC,hb]
  exact ⟨trivial,fun _ _=>trivial⟩

theorem qlY {l:List AV} (h:∀a∈l,a.cellB=true):fitS (zlB true [] []) l l :=
 zzC (fun a ha h1=>zn3 (h a ha) h1) fun a ha=>by
  have:=h a ha
  cases a <;> simp_all [AV.cellB,AV.one]

theorem fit_top (t:TT) (e:El t):zt5 true [] [] (topT t e) (topT t e):=by
 cases t with
 | int k=>exact zn3 (a := .int k e) rfl rfl
 | nat k=>exact zn3 (a := .int k _) rfl rfl
 | bool=>exact zn3 (a := .bool e) rfl rfl
 | txt=>exact zn3 (a := .str e) rfl rfl
 | slice t=>exact zn3 (a := .ro _ _ _) rfl rfl
 | arr n t=>exact qlY (enc_cell (.arr n t) e)
 | fields f=>exact qlY (encF_cell f e)

end Go.Sx
