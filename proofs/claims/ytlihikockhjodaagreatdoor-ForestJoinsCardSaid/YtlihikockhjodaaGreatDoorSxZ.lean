import Derived.Test.YtlihikockhjodaaGreatDoorSxY

set_option linter.unusedVariables false
namespace Go.Sx

abbrev qgK (k:IntKind) (l:List Nat):AV := .ro 1 l.length (fun i=>[.int k ((l.getD i 0:Nat):Int)])
abbrev rowN (T:TypeId) (k:IntKind) (cap:Nat) (l:List Nat):Item := .row T 1 cap l.length (fun i=>[.int k ((l.getD i 0:Nat):Int)])
abbrev rowI (T:TypeId) (k:IntKind) (cap:Nat) (l:List Int):Item := .row T 1 cap l.length (fun i=>[.int k (l.getD i 0)])
end Go.Sx
namespace Yard
theorem str_inj {l m:List Nat}:(cstr l=cstr m) ↔ l=m:=by
 constructor
 ·intro h
  have:=congrArg (List.map Int.toNat) h
  simpa [cstr,Function.comp_def] using this
 ·intro h; rw [h]
theorem str_append {l m:List Nat}:cstr l++cstr m=cstr (l++m):=by simp [cstr]
theorem str_length {l:List Nat}:(cstr l).length=l.length:=by simp [cstr]
theorem str_getD {l:List Nat} {i:Nat}:(cstr l).getD i 0=((l.getD i 0:Nat):Int):=by
 unfold cstr
 rw [List.getD_eq_getElem?_getD,List.getD_eq_getElem?_getD,List.getElem?_map]
 cases l[i]? <;> rfl
theorem str_take {l:List Nat} {a b:Nat}:((cstr l).take a).drop b=cstr ((l.take a).drop b):=by
 simp [cstr,List.map_take,List.map_drop]
theorem lit1_iff {k:Go.IntKind} {a:Nat} {d:List Go.Sx.AV} {m:List Nat} {P:Prop}:(1=m.length/\(∀i,i<m.length->(if i=0 then [Go.Sx.AV.int k ((a:Nat):Int)] else d)=[Go.Sx.AV.int k ((m.getD i 0:Nat):Int)])/\P) ↔ ([a]=m/\P):=by
 rw [<- and_assoc]
 refine and_congr_left fun _=>⟨fun ⟨h1,h2⟩=>?_,fun h=>?_⟩
 ·match m,h1 with
  | [b],_ =>
    have:=h2 0 (by simp)
    rw [if_pos rfl] at this
    rw [Go.Sx.nat1.1 this]; rfl
 ·subst h
  refine ⟨rfl,fun i hi=>?_⟩
  have:i=0:=by simpa using hi
  subst this; rfl
end Yard
namespace Go.Sx
abbrev strN (l:List Nat):AV := .str (Yard.cstr l)

theorem zaH {α:Type} {l m:List α} {d:α} {i:Nat}:(l++m).getD i d=if i<l.length then l.getD i d else m.getD (i-l.length) d:=by
 rw [List.getD_eq_getElem?_getD,List.getD_eq_getElem?_getD,List.getD_eq_getElem?_getD]
 by_cases h:i<l.length
 ·rw [if_pos h,List.getElem?_append_left h]
 ·rw [if_neg h,List.getElem?_append_right (by omega)]
theorem za9 {α:Type} {l:List α} {d:α} {i n:Nat}:(l.take n).getD i d=if i<n then l.getD i d else d:=by
 rw [List.getD_eq_getElem?_getD,List.getD_eq_getElem?_getD,List.getElem?_take]
 split <;> rfl
theorem za4 {α:Type} {l:List α} {d:α} {i n:Nat}:(l.drop n).getD i d=l.getD (n+i) d:=by
 rw [List.getD_eq_getElem?_getD,List.getD_eq_getElem?_getD,List.getElem?_drop]
theorem zg2 {α:Type} {d x:α} {i n:Nat}:(List.replicate n x).getD i d=if i<n then x else d:=by
 rw [List.getD_eq_getElem?_getD,List.getElem?_replicate]
 split <;> rfl
theorem zv2 {α:Type} {l:List α} {d v:α} {i j:Nat} (hj:j<l.length):(l.set j v).getD i d=if i=j then v else l.getD i d:=by
 rw [List.getD_eq_getElem?_getD,List.getD_eq_getElem?_getD,List.getElem?_set]
 by_cases h:j=i
 ·subst h; rw [if_pos rfl,if_pos hj,if_pos rfl]; rfl
 ·rw [if_neg h,if_neg (fun e=>h e.symm)]
theorem zfO {α:Type} {d:α} {f:Nat->α} {i n:Nat}:((List.range n).map f).getD i d=if i<n then f i else d:=by
 rw [List.getD_eq_getElem?_getD,List.getElem?_map]
 by_cases h:i<n
 ·rw [if_pos h,List.getElem?_range h]; rfl
 ·rw [if_neg h,List.getElem?_eq_none (by simp; omega)]; rfl
theorem getD_mem {α:Type} {l:List α} {d:α} {p:α->Prop} (h:∀x∈l,p x) (hd:p d) (i:Nat):p (l.getD i d):=by
 rw [List.getD_eq_getElem?_getD]
 cases e:l[i]? with
 | none=>exact hd
 | some x=>exact h x (List.mem_of_getElem? e)
theorem zc4 {α:Type} {l:List α} {i:Nat} (d:α) (h:i<l.length):l.take (i+1)=l.take i++[l.getD i d]:=by
 rw [List.take_add_one,List.getElem?_eq_getElem h,List.getD_eq_getElem?_getD,List.getElem?_eq_getElem h]; rfl
theorem zbF {α:Type} {l m:List α} (d:α) (h1:l.length=m.length) (h2:∀i,i<m.length->l.getD i d=m.getD i d):l=m:=zeJ d h1 h2

def rowC (X:Type) (pre:X->Prop) (args:X->List AV) (T:TypeId) (k:IntKind) (l:X->List Nat) (res:X->AV->AV):Ctr where
 X:=X
 Y:=Nat
 conv:=true
 tau:=fun _ _=>[]
 pre:=pre
 args:=args
 heap:=fun _=>[]
 Q:=fun x cap=>(l x).length <= cap
 res:=fun x cap=>res x (.sl 1 [] 0 1 0 (l x).length cap)
 its:=fun _ _=>[]
 new:=fun x cap=>[rowN T k cap (l x)]
theorem zgW {X:Type} {pre:X->Prop} {args:X->List AV} {T:TypeId} {k:IntKind} {l:X->List Nat} {res:X->AV->AV} (h:∀x n cap,plV 2 (res x (.sl 1 [] 0 1 0 n cap))):CtrOk (rowC X pre args T k l res) :=
 ⟨fun _ _ _ _=>rfl,fun _ _ _ _=>⟨rfl,rfl⟩,fun x cap _ _ _=>⟨⟨trivial,⟨⟨fun _ _=>⟨rfl,trivial⟩,trivial⟩,trivial⟩⟩,h _ _ _⟩⟩
def qo0 (X:Type) (pre:X->Prop) (args:X->List AV) (T:TypeId) (k:IntKind) (l:X->List Int) (res:X->AV->AV):Ctr where
 X:=X
 Y:=Nat
 conv:=true
 tau:=fun _ _=>[]
 pre:=pre
 args:=args
 heap:=fun _=>[]
 Q:=fun x cap=>(l x).length <= cap/\cap <= 9223372036854775807
 res:=fun x cap=>res x (.sl 1 [] 0 1 0 (l x).length cap)
 its:=fun _ _=>[]
 new:=fun x cap=>[rowI T k cap (l x)]
theorem zo6 {X:Type} {pre:X->Prop} {args:X->List AV} {T:TypeId} {k:IntKind} {l:X->List Int} {res:X->AV->AV} (h:∀x n cap,plV 2 (res x (.sl 1 [] 0 1 0 n cap))):CtrOk (qo0 X pre args T k l res) :=
 ⟨fun _ _ _ _=>rfl,fun _ _ _ _=>⟨rfl,rfl⟩,fun x cap _ _ _=>⟨⟨trivial,⟨⟨fun _ _=>⟨rfl,trivial⟩,trivial⟩,trivial⟩⟩,h _ _ _⟩⟩

structure Out (X:Type) where
 Y:Type
 Q:X->Y->Prop
 res:X->Y->AV
 its:X->Y->AH
 new:X->Y->AH

structure Ctr2 where
 X:Type
 conv:Bool
 tau:List AV->AH->List Nat
 pre:X->Prop
 args:X->List AV
 heap:X->AH
 p:X->Prop
 a:Out X
 b:Out X
def Ctr2.ctrA (C:Ctr2):Ctr:={ X:=C.X,Y:=C.a.Y,conv:=C.conv,tau:=C.tau,pre:=fun x=>C.pre x/\C.p x,args:=C.args,heap:=C.heap,Q:=C.a.Q,res:=C.a.res,its:=C.a.its,new:=C.a.new }
def Ctr2.ctrB (C:Ctr2):Ctr:={ X:=C.X,Y:=C.b.Y,conv:=C.conv,tau:=C.tau,pre:=fun x=>C.pre x/\¬C.p x,args:=C.args,heap:=C.heap,Q:=C.b.Q,res:=C.b.res,its:=C.b.its,new:=C.b.new }
def ziC (C:Ctr2):Spec:=fun args H K=>match zdQ (zcK (C.tau args H))&&zi7 H (C.tau args H) with
 | true=>∃x,(fitT (zt5 C.conv (zsO H (C.tau args H)) (C.tau args H)) args (C.args x)/\(Nat.beq (C.tau args H).length (C.heap x).length=true/\fitH (zcK (C.tau args H)) H 0 (C.heap x))) /\
   C.pre x/\(C.p x->∀y,C.a.Q x y->K (renA (outR (C.tau args H) H.length) 3 (C.a.res x y)) (zrB H (C.tau args H) (C.a.its x y) (C.a.new x y))) /\
    (¬C.p x->∀y,C.b.Q x y->K (renA (outR (C.tau args H) H.length) 3 (C.b.res x y)) (zrB H (C.tau args H) (C.b.its x y) (C.b.new x y)))
 | false=>False
def qg3 (tb:TB) (sp:SP) (fn:Func) (C:Ctr2) (an:C.X->An) (σ:C.X->AV->AH->Option Ren) (op:C.X->List (Nat×Opn)) (clA:C.X->C.a.Y->AV->AH->List (Nat×List Nat×Opn)) (clB:C.X->C.b.Y->AV->AH->List (Nat×List Nat×Opn)):Prop:=match fn.body with
 | some c=>∀x,C.pre x->znM (op x) (C.heap x++[.fence]) (fun H0=>aFn tb sp (an x) fn.ntmps fn.results.toList c (C.args x) H0 (fun av H' =>
   (C.p x/\∃y,zcC (clA x y av H') H' (fun H'=>zdS (zgA (σ x av H') H'.length (C.a.its x y ++ .fence :: C.a.new x y).length) [av] H' [C.a.res x y] (C.a.its x y ++ .fence :: C.a.new x y)/\C.a.Q x y)) \/
   (¬C.p x/\∃y,zcC (clB x y av H') H' (fun H'=>zdS (zgA (σ x av H') H'.length (C.b.its x y ++ .fence :: C.b.new x y).length) [av] H' [C.b.res x y] (C.b.its x y ++ .fence :: C.b.new x y)/\C.b.Q x y))))
 | none=>False

theorem zuO {P:Program} {tb:TB} {sp:SP} (hm:P.follows .mixedOrders=true) (ht:TBok P tb) (hs:SPok P sp) {f:Nat} {fn:Func} (hf:P.funcs[f]? = some fn) (hname:(fn.name == "runtime.NumGoroutine")=false) {C:Ctr2} (hA:CtrOk C.ctrA) (hB:CtrOk C.ctrB)
  {an:C.X->An} {σ:C.X->AV->AH->Option Ren} {op:C.X->List (Nat×Opn)} {clA:C.X->C.a.Y->AV->AH->List (Nat×List Nat×Opn)} {clB:C.X->C.b.Y->AV->AH->List (Nat×List Nat×Opn)} (hv:qg3 tb sp fn C an σ op clA clB):SpecOk P f (ziC C):=by
 unfold qg3 at hv
 split at hv
 ·rename_i c hb
  refine ⟨⟨fn,hf,hname,by rw [hb]; rfl⟩,fun W D R ids own H w args vals K hgl hargs hR h=>?_⟩
  unfold ziC at h
  split at h
  ·rename_i hng
   simp only [Bool.and_eq_true] at hng
   obtain ⟨hn,hg⟩:=hng
   obtain ⟨x,⟨ha,hl,hh⟩,hx,hKa,hKb⟩:=h
   have hl:=Nat.eq_of_beq_eq_true hl
   generalize hτ:C.tau args H=τ at *
   have henter0:=hR.enter C.conv hn hl hh
   obtain ⟨H0,ids0,own0,henter,hids0,hv0⟩:=zj3 henter0 (hv x hx)
   have hvals0:Ts (convR C.conv R own τ w) (zbL (zcK τ) ids) (C.args x) vals:=qeO (fun h hv=>zzD hR hn hg h hv) ha hargs
   have hvals:=hvals0.into hids0 (fun _ _ e=>e)
   have hlen:(C.args x).length=vals.length:=hvals.length
   refine calls_of_wp hf hb ?_
   refine Code.wp_body (zdY hm ht ⟨hs,hgl.of fun b o hb=>zfR (hR.low b o hb)⟩ c (an:=an x) (K:=fun e F H=>match e with
    | .exit _=>False
    | _=>aRes tb fn.results.toList F H (fun l=>(C.p x/\∃y,zcC (clA x y (zhG l) H) H (fun H=>zdS (zgA (σ x (zhG l) H) H.length (C.a.its x y ++ .fence :: C.a.new x y).length) [zhG l] H [C.a.res x y] (C.a.its x y ++ .fence :: C.a.new x y)/\C.a.Q x y)) \/
      (¬C.p x/\∃y,zcC (clB x y (zhG l) H) H (fun H=>zdS (zgA (σ x (zhG l) H) H.length (C.b.its x y ++ .fence :: C.b.new x y).length) [zhG l] H [C.b.res x y] (C.b.its x y ++ .fence :: C.b.new x y)/\C.b.Q x y))))
    ⟨rfl,_,_,_,_,_,?_,henter,hv0⟩) (fun id F H h=>h) ?_ ?_
   ·have:=hvals.append (Ts.undefs (R:=convR C.conv R own τ w) (ids:=ids0) (fn.ntmps-(C.args x).length))
    simpa [hlen] using this
   all_goals
    intro a w' ⟨hd,F,H',R',ids',own',hF',hR',hr⟩
    refine ⟨hd,?_⟩
    obtain ⟨av,v,h1,h2,hcl⟩:=ztC (P:=P) ht hR'.view (K:=fun av=>(C.p x/\∃y,zcC (clA x y av H') H' (fun H'=>zdS (zgA (σ x av H') H'.length (C.a.its x y ++ .fence :: C.a.new x y).length) [av] H' [C.a.res x y] (C.a.its x y ++ .fence :: C.a.new x y)/\C.a.Q x y)) \/
     (¬C.p x/\∃y,zcC (clB x y av H') H' (fun H'=>zdS (zgA (σ x av H') H'.length (C.b.its x y ++ .fence :: C.b.new x y).length) [av] H' [C.b.res x y] (C.b.its x y ++ .fence :: C.b.new x y)/\C.b.Q x y))) hF' hr
    rcases hcl with ⟨hp,y,hcl⟩ | ⟨hp,y,hcl⟩
    ·obtain ⟨H'',own'',hR',hfit,hQ⟩:=zeD hR' hcl
     obtain ⟨k1,k2⟩:=zjE hfit (.cons _ _ _ _ h2 .nil) hR'
     have hv2:V R' (zbL (zgA (σ x av H'') H''.length (C.a.its x y ++ .fence :: C.a.new x y).length) ids') (C.a.res x y) v:=by
      cases k1 with
      | cons _ _ _ _ h _=>exact h
     have hits:(C.a.its x y).length=τ.length:=(hA.len x y ⟨hx,hp⟩ hQ).trans hl.symm
     obtain ⟨f1,f2⟩:=hA.noF x y ⟨hx,hp⟩ hQ
     have hleave:=hR.leave hn hg hits f1 f2 (fun hc=>(hA.plain x y hc ⟨hx,hp⟩ hQ).1) k2
     refine ⟨v,h1,v,rfl,_,_,_,_,_,?_,hleave,zo8 hR,zl8 k2,hKa hp y hQ⟩
     refine zuZ (zvJ hg hits k2) 3 ?_
     cases hc:C.conv with
     | true=>exact qdY (hA.plain x y hc ⟨hx,hp⟩ hQ).2 hv2
     | false=>show V (outRO C.conv R R') _ _ _; rw [hc]; exact hv2
    ·obtain ⟨H'',own'',hR',hfit,hQ⟩:=zeD hR' hcl
     obtain ⟨k1,k2⟩:=zjE hfit (.cons _ _ _ _ h2 .nil) hR'
     have hv2:V R' (zbL (zgA (σ x av H'') H''.length (C.b.its x y ++ .fence :: C.b.new x y).length) ids') (C.b.res x y) v:=by
      cases k1 with
      | cons _ _ _ _ h _=>exact h
     have hits:(C.b.its x y).length=τ.length:=(hB.len x y ⟨hx,hp⟩ hQ).trans hl.symm
     obtain ⟨f1,f2⟩:=hB.noF x y ⟨hx,hp⟩ hQ
     have hleave:=hR.leave hn hg hits f1 f2 (fun hc=>(hB.plain x y hc ⟨hx,hp⟩ hQ).1) k2
     refine ⟨v,h1,v,rfl,_,_,_,_,_,?_,hleave,zo8 hR,zl8 k2,hKb hp y hQ⟩
     refine zuZ (zvJ hg hits k2) 3 ?_
     cases hc:C.conv with
     | true=>exact qdY (hB.plain x y hc ⟨hx,hp⟩ hQ).2 hv2
     | false=>show V (outRO C.conv R R') _ _ _; rw [hc]; exact hv2
  ·exact h.elim
 ·exact hv.elim

end Go.Sx
namespace Yard
abbrev u64 (n:Nat):Go.Sx.AV := .int .u64 (n:Int)
abbrev i64 (n:Int):Go.Sx.AV := .int .i64 n
end Yard

namespace Yard
open Go Go.Sx

theorem std:type_of% (And.intro @and_false <| And.intro @false_and <| And.intro @false_or <| And.intro @or_false <| And.intro @bOf_true <| And.intro @bOf_false <| And.intro @true_bOf <| And.intro @false_bOf <| And.intro @int_ite <| And.intro @merge_o <| And.intro @Tr_eq <| And.intro @true_and <| And.intro @and_true <| And.intro @and_assoc <| And.intro @BC_iff <| And.intro @Bool.not_eq_true' <| And.intro @Bool.not_eq_false' <| And.intro @decide_eq_true_eq <| And.intro @decide_eq_false_iff_not <| And.intro @nat_cast_inj <| And.intro @Int.toNat_natCast <| And.intro @nats_iff <| And.intro @nats_iff' <| And.intro @ints_iff <| And.intro @ints_iff' <| And.intro @natss_iff <| And.intro @natss_iff' <| And.intro @nilnil <| And.intro @litL_eq <| And.intro @str_inj <| And.intro @str_append <| And.intro @str_length <| And.intro @str_getD <| And.intro @str_take <| And.intro @lit1_iff <| And.intro @one_iff <| And.intro @two_iff <| And.intro @one_get <| And.intro @Nat.zero_add <| And.intro @Nat.sub_zero <| And.intro @Nat.not_lt_zero <| And.intro @Nat.le_refl <| And.intro @Bool.false_eq_true <| And.intro @not_true_eq_false <| And.intro @false_implies <| @not_false_eq_true):=And.intro @and_false <| And.intro @false_and <| And.intro @false_or <| And.intro @or_false <| And.intro @bOf_true <| And.intro @bOf_false <| And.intro @true_bOf <| And.intro @false_bOf <| And.intro @int_ite <| And.intro @merge_o <| And.intro @Tr_eq <| And.intro @true_and <| And.intro @and_true <| And.intro @and_assoc <| And.intro @BC_iff <| And.intro @Bool.not_eq_true' <| And.intro @Bool.not_eq_false' <| And.intro @decide_eq_true_eq <| And.intro @decide_eq_false_iff_not <| And.intro @nat_cast_inj <| And.intro @Int.toNat_natCast <| And.intro @nats_iff <| And.intro @nats_iff' <| And.intro @ints_iff <| And.intro @ints_iff' <| And.intro @natss_iff <| And.intro @natss_iff' <| And.intro @nilnil <| And.intro @litL_eq <| And.intro @str_inj <| And.intro @str_append <| And.intro @str_length <| And.intro @str_getD <| And.intro @str_take <| And.intro @lit1_iff <| And.intro @one_iff <| And.intro @two_iff <| And.intro @one_get <| And.intro @Nat.zero_add <| And.intro @Nat.sub_zero <| And.intro @Nat.not_lt_zero <| And.intro @Nat.le_refl <| And.intro @Bool.false_eq_true <| And.intro @not_true_eq_false <| And.intro @false_implies <| @not_false_eq_true
theorem stdU.{u}:type_of% (And.intro @exists_const.{u} <| And.intro @forall_const.{u} <| And.intro @implies_true.{u} <| And.intro @forall_eq.{u} <| And.intro @exists_eq.{u} <| And.intro @exists_eq'.{u} <| And.intro @exists_eq_left.{u} <| And.intro @exists_eq_left'.{u} <| And.intro @exists_eq_right.{u} <| And.intro @exists_and_left.{u} <| And.intro @if_false.{u} <| And.intro @if_true.{u} <| And.intro @List.length_singleton.{u} <| And.intro @List.length_cons.{u} <| @List.length_nil.{u}):=And.intro @exists_const.{u} <| And.intro @forall_const.{u} <| And.intro @implies_true.{u} <| And.intro @forall_eq.{u} <| And.intro @exists_eq.{u} <| And.intro @exists_eq'.{u} <| And.intro @exists_eq_left.{u} <| And.intro @exists_eq_left'.{u} <| And.intro @exists_eq_right.{u} <| And.intro @exists_and_left.{u} <| And.intro @if_false.{u} <| And.intro @if_true.{u} <| And.intro @List.length_singleton.{u} <| And.intro @List.length_cons.{u} <| @List.length_nil.{u}
theorem stdV.{u,v}:type_of% (And.intro @Prod.exists.{u,v} <| And.intro @Prod.forall.{u,v} <| @Prod.mk.injEq.{u,v}):=And.intro @Prod.exists.{u,v} <| And.intro @Prod.forall.{u,v} <| @Prod.mk.injEq.{u,v}
end Yard
