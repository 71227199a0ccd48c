import Derived.Test.YtlihikockhjodaaGreatDoorSlots

namespace Yard
open Go Go.Sx Go.Proofs
set_option linter.unusedVariables false
set_option linter.unusedSimpArgs false
set_option maxRecDepth 4000

theorem zeG {k t:Nat} {b:List Nat} (hb:b.length <= 56):(zbS k t b).length=60:=by
 simp only [zbS,List.length_append,List.length_replicate,List.length_cons,List.length_nil]; omega
theorem qdS {k t:Nat} {b:List Nat} (hk:k<256) (ht:t<256) (hb:∀c∈b,c<256):∀c∈zbS k t b,c<256:=fun c hc=>by
 rcases List.mem_append.1 hc with h | h
 ·rcases List.mem_append.1 h with h | h
  ·simp only [List.mem_cons,List.not_mem_nil,or_false] at h; omega
  ·exact hb c h
 ·have:=(List.mem_replicate.1 h).2; omega
theorem zh0 (k t:Nat) (b:List Nat):(zcD k t b).drop 4=zbS k t b:=by
 rw [zcD,List.drop_append_of_le_length (by rw [zaE]; omega),List.drop_of_length_le (by rw [zaE]; omega),List.nil_append]
theorem qaN (k t:Nat) (b:List Nat):(zcD k t b).take 4=layN (sumN [zbS k t b]) 4:=by
 rw [zcD,List.take_append_of_le_length (by rw [zaE]; omega),List.take_of_length_le (by rw [zaE]; omega)]
theorem zqD {k t:Nat} {b:List Nat} {i:Nat} (h:4 <= i):(zcD k t b).getD i 0=(zbS k t b).getD (i-4) 0:=by
 rw [<- zh0,za4]; congr 1; omega
theorem zf8 (k t:Nat) (b:List Nat):(zcD k t b).drop 8=b++List.replicate (56-b.length) 0:=by
 have:(zcD k t b).drop 8=((zcD k t b).drop 4).drop 4:=by rw [List.drop_drop]
 rw [this,zh0,zbS]
 rfl
theorem zhZ {k t:Nat} {b:List Nat} (hk:0<k) (hk2:k<256) (ht:t<256) (hb:∀c∈b,c<256) (hl:b.length <= 56):zb0 (zcD k t b):=by
 have h64:=zdL (k:=k) (t:=t) hl
 refine ⟨h64,?_,?_,?_⟩
 ·rw [zqD (by omega)]; show k≠0; omega
 ·have hh:hasB (zcD k t b).length 6 2:=⟨by omega,by omega,by omega⟩
  rw [zdP,decide_eq_true hh,Bool.true_and,List.all_eq_true]
  intro c hc
  have:cut (zcD k t b) 6 2=[0,0]:=by
   have e:cut (zcD k t b) 6 2=(((zcD k t b).drop 4).drop 2).take 2:=by rw [List.drop_drop]; rfl
   rw [e,zh0]; rfl
  rw [this] at hc
  simp at hc
  simp [hc]
 ·rw [zh0,qaN,za8,List.take_of_length_le (by rw [zaE]; omega),ze7]
  exact zkQ (zsG fun l hl'=>by rw [List.mem_singleton] at hl'; subst hl'; exact qdS hk2 ht hb)
theorem znC (k t:Nat) (b:List Nat):(zcD k t b).getD 4 0=k:=by rw [zqD (by omega)]; rfl
theorem zlU (k t:Nat) (b:List Nat):(zcD k t b).getD 5 0=t:=by rw [zqD (by omega)]; rfl
theorem zyO (f:Nat->Int):∀k i j:Nat,i<k->j<2->(kidsL f k).getD (2*i+j) 0=(layN (f i).toNat 2).getD j 0
 | 0,_,_,h,_=>absurd h (Nat.not_lt_zero _)
 | k+1,i,j,h,hj=>by
   rw [ze1,zaH,zb1]
   by_cases e:i=k
   ·subst e; rw [if_neg (by omega)]; congr 1; omega
   ·rw [if_pos (by omega),zyO f k i j (by omega) hj]
theorem znB (l:Nat->SeatT):∀k i j:Nat,i<k->j<8->(zbT l k).getD (8*i+j) 0=(layN (l i).gen.toNat 4++layN (l i).next.toNat 4).getD j 0
 | 0,_,_,h,_=>absurd h (Nat.not_lt_zero _)
 | k+1,i,j,h,hj=>by
   rw [zdK,zaH,zbE]
   by_cases e:i=k
   ·subst e; rw [if_neg (by omega)]; congr 1; omega
   ·rw [if_pos (by omega),znB l k i j (by omega) hj]
theorem qgO {t:Nat} {f:Nat->Int} {i:Nat} (hi:i<16) (hk:zgZ (f i)):zd0 (zcD 3 t (kidsL f 16)) i=f i:=by
 have hl:=zb1 f 16
 have e:((zcD 3 t (kidsL f 16)).drop (8+2*i)).take 2=layN (f i).toNat 2:=by
  rw [<- List.drop_drop,zf8]
  refine zbF 0 (by simp only [List.length_take,List.length_drop,List.length_append,List.length_replicate,zaE]; omega) fun j hj=>?_
  rw [zaE] at hj
  rw [za9,if_pos hj,za4,zaH,if_pos (by omega),zyO f 16 i j hi hj]
 unfold zgZ at hk
 rw [zd0,e,ze7 _ _ (by omega)]
 omega
theorem zzI {f:Nat->Int} (h:zeT f):zgF (putFanL f)/\∀i,i<16->zd0 (putFanL f) i=f i:=by
 have hl:=zb1 f 16
 have hk:∀i,i<16->zd0 (putFanL f) i=f i:=fun i hi=>by rw [putFanL,if_pos h]; exact qgO hi (h i hi)
 refine ⟨⟨?_,?_,?_,?_,fun i hi=>by rw [hk i hi]; exact h i hi⟩,hk⟩
 ·rw [putFanL,if_pos h]; exact zhZ (by decide) (by decide) (by decide) (zmE f 16) (by omega)
 ·rw [putFanL,if_pos h,znC]
 ·rw [putFanL,if_pos h,zlU]
 ·rw [putFanL,if_pos h,zf8]
  have hh:hasB (kidsL f 16++List.replicate (56-(kidsL f 16).length) 0).length 32 24:=by
   simp only [List.length_append,List.length_replicate]; exact ⟨by omega,by omega,by omega⟩
  rw [zdP,decide_eq_true hh,Bool.true_and,List.all_eq_true]
  intro c hc
  have e:cut (kidsL f 16++List.replicate (56-(kidsL f 16).length) 0) 32 24=List.replicate 24 0:=by
   show ((kidsL f 16++List.replicate (56-(kidsL f 16).length) 0).drop 32).take 24=_
   rw [List.drop_append_of_le_length (by omega),List.drop_of_length_le (by omega),List.nil_append,List.take_of_length_le (by rw [List.length_replicate]; omega),hl]
  rw [e] at hc
  have:=(List.mem_replicate.1 hc).2
  simp [this]
theorem zq5 (l:Nat->SeatT):∀k i:Nat,i<k->(zcM l k).testBit i=(l i).live
 | 0,_,h=>absurd h (Nat.not_lt_zero _)
 | k+1,i,h=>by
   have hlt:=zgQ l k
   rw [zcM]
   by_cases hk:(l k).live=true
   ·rw [if_pos hk]
    have hor:=znL (a:=zcM l k) (b:=1) (i:=k) hlt
    rw [Nat.one_mul] at hor
    rw [<- hor,Nat.testBit_or,Nat.testBit_two_pow]
    by_cases e:i=k
    ·subst e; simp [hk]
    ·rw [zq5 l k i (by omega)]
     have:¬k=i:=fun h=>e h.symm
     simp [this]
   ·rw [if_neg hk,Nat.add_zero]
    by_cases e:i=k
    ·subst e
     rw [Nat.testBit_lt_two_pow hlt]
     simpa using hk
    ·exact zq5 l k i (by omega)
theorem qaK {l:Nat->SeatT} {i:Nat} (hi:i<7) (hk:za6 (l i)):za1 (zcD 2 (zcM l 7) (zbT l 7)) i=l i:=by
 have hl:=zbE l 7
 have hs:=zo4 hk
 have e1:((zcD 2 (zcM l 7) (zbT l 7)).drop (8+8*i)).take 4=layN (l i).gen.toNat 4:=by
  rw [<- List.drop_drop,zf8]
  refine zbF 0 (by simp only [List.length_take,List.length_drop,List.length_append,List.length_replicate,zaE]; omega) fun j hj=>?_
  rw [zaE] at hj
  rw [za9,if_pos hj,za4,zaH,if_pos (by omega),znB l 7 i j hi (by omega),zaH,if_pos (by rw [zaE]; exact hj)]
 have e2:((zcD 2 (zcM l 7) (zbT l 7)).drop (12+8*i)).take 4=layN (l i).next.toNat 4:=by
  rw [show 12+8*i=8+(8*i+4) by omega,<- List.drop_drop,zf8]
  refine zbF 0 (by simp only [List.length_take,List.length_drop,List.length_append,List.length_replicate,zaE]; omega) fun j hj=>?_
  rw [zaE] at hj
  rw [za9,if_pos hj,za4,zaH,if_pos (by omega),Nat.add_assoc,znB l 7 i (4+j) hi (by omega),zaH,if_neg (by rw [zaE]; omega),zaE]
  congr 1; omega
 have e3:(zcM l 7 / 2 ^ i % 2 == 1)=(l i).live:=by
  have:=zq5 l 7 i hi
  rw [Nat.testBit_eq_decide_div_mod_eq] at this
  rw [<- this]
  rfl
 unfold za1
 rw [zlU,e3,e1,e2,ze7 _ _ (by omega),ze7 _ _ (by omega)]
 have h1:(((l i).gen.toNat:Nat):Int)=(l i).gen:=by omega
 have h2:(((l i).next.toNat:Nat):Int)=(l i).next:=by omega
 rw [h1,h2]
theorem ztS {l:Nat->SeatT} (h:zdR l):zdB (zaU l)/\∀i,i<7->za1 (zaU l) i=l i:=by
 have hl:=zbE l 7
 have h7:=zgQ l 7
 have hk:∀i,i<7->za1 (zaU l) i=l i:=fun i hi=>by rw [zaU,if_pos h]; exact qaK hi (h i hi)
 refine ⟨⟨?_,?_,?_,fun i hi=>by rw [hk i hi]; exact h i hi⟩,hk⟩
 ·rw [zaU,if_pos h]; exact zhZ (by decide) (by decide) (by omega) (ziS l 7) (by omega)
 ·rw [zaU,if_pos h,znC]
 ·rw [zaU,if_pos h,zlU]; omega

theorem zfD (ws:List Nat) (a:Int) (b:List Nat):za2 (zeE ws a b)=za2 ws:=by
 unfold zeE za2
 split
 ·rw [zb8]
 ·rfl
theorem zi4 {ws:List Nat} {a c:Int} {b:List Nat}:zdZ (zeE ws a b) c ↔ zdZ ws c:=by unfold zdZ; rw [zfD]
theorem ztQ {ws:List Nat} {a:Int} {b:List Nat} (ha:zdZ ws a) (hb:Oct b) (h64:b.length=64):zaV (zeE ws a b) a=b:=by
 have hl:=ha
 unfold zdZ za2 at hl
 have hwl:=zeO b
 rw [zaV,if_pos (zi4.2 ha),zeE,if_pos ⟨ha,h64⟩]
 have e:zhI (putW ws (8*a.toNat) (zbZ b)) a.toNat=zbZ b:=by
  refine zbF 0 (by rw [zhI,List.length_take,List.length_drop,zb8]; omega) fun i hi=>?_
  rw [zhI,za9,if_pos (by omega),za4,zj0,if_pos (by omega)]
  congr 1; omega
 rw [e,zx9 hb.1,List.take_of_length_le (by omega)]
theorem ztR {ws:List Nat} {a c:Int} {b:List Nat} (h:c≠a):zaV (zeE ws a b) c=zaV ws c:=by
 unfold zaV
 by_cases hc:zdZ ws c
 ·rw [if_pos hc,if_pos (zi4.2 hc)]
  congr 1
  unfold zeE
  split
  ·rename_i hab
   have ha:=hab.1
   unfold zdZ za2 at hc ha
   have hwl:=zeO b
   refine zbF 0 (by rw [zhI,zhI,List.length_take,List.length_drop,zb8,List.length_take,List.length_drop]) fun i hi=>?_
   rw [zhI,List.length_take,List.length_drop] at hi
   rw [zhI,zhI,za9,if_pos (by omega),za4,za9,if_pos (by omega),za4,zj0,if_neg (by omega)]
  ·rfl
 ·rw [if_neg hc,if_neg (fun k=>hc (zi4.1 k))]


abbrev InS (n m:Nat) (a:Int):Prop:=hasN (n,m) a=true
theorem inS_iff {n m:Nat} {a:Int}:InS n m a ↔ 0 <= a/\a<(n:Int)/\m.testBit a.toNat=true:=by
 show (decide (inSet (n,m) a)&&m.testBit a.toNat)=true ↔ _
 rw [Bool.and_eq_true,decide_eq_true_iff]
 exact and_assoc
theorem qbZ {n m:Nat} {a b:Int}:InS n (add1 n m b) a ↔ InS n m a\/(a=b/\0 <= b/\b<(n:Int)):=by
 rw [inS_iff,inS_iff,zwN,Bool.or_eq_true,decide_eq_true_iff]
 constructor
 ·rintro ⟨h1,h2,h | h⟩
  ·exact .inl ⟨h1,h2,h⟩
  ·exact .inr (by omega)
 ·rintro (⟨h1,h2,h⟩ | h)
  ·exact ⟨h1,h2,.inl h⟩
  ·exact ⟨by omega,by omega,.inr (by omega)⟩
theorem qeB {n m:Nat} {a b:Int}:InS n (drop1 n m b) a ↔ InS n m a/\a≠b:=by
 rw [inS_iff,inS_iff,zrT,Bool.and_eq_true,Bool.not_eq_true',decide_eq_false_iff_not]
 constructor
 ·rintro ⟨h1,h2,h,h3⟩; exact ⟨⟨h1,h2,h⟩,by omega⟩
 ·rintro ⟨⟨h1,h2,h⟩,h3⟩; exact ⟨h1,h2,h,by omega⟩
theorem qlG {n p q:Nat} {a:Int}:InS n (p ||| q) a ↔ InS n p a\/InS n q a:=by
 rw [inS_iff,inS_iff,inS_iff,Nat.testBit_or,Bool.or_eq_true]
 constructor
 ·rintro ⟨h1,h2,h | h⟩
  ·exact .inl ⟨h1,h2,h⟩
  ·exact .inr ⟨h1,h2,h⟩
 ·rintro (⟨h1,h2,h⟩ | ⟨h1,h2,h⟩)
  ·exact ⟨h1,h2,.inl h⟩
  ·exact ⟨h1,h2,.inr h⟩
theorem inS_held {x:AllocT} {a:Int}:InS x.n (zbY x) a ↔ InS x.n x.w a\/InS x.n x.c a\/InS x.n x.e a\/InS x.n x.m a:=by
 unfold zbY
 rw [qlG,qlG,qlG]
 constructor
 ·rintro (((h | h) | h) | h)
  ·exact .inl h
  ·exact .inr (.inl h)
  ·exact .inr (.inr (.inl h))
  ·exact .inr (.inr (.inr h))
 ·rintro (h | h | h | h)
  ·exact .inl (.inl (.inl h))
  ·exact .inl (.inl (.inr h))
  ·exact .inl (.inr h)
  ·exact .inr h
theorem zhR (n m:Nat):(bitsL (n+1) m).length=(bitsL n m).length+if m.testBit n then 1 else 0:=by
 rw [bitsL,List.range_succ,List.filter_append,List.length_append,bitsL]
 congr 1
 by_cases h:m.testBit n=true
 ·simp [h]
 ·simp [h]
theorem qcP {p q g:Nat}:∀n:Nat,(∀i,i<n->i≠g->p.testBit i=true->q.testBit i=true)->(bitsL n p).length <= (bitsL n q).length+if g<n then 1 else 0
 | 0,_=>by simp [bitsL]
 | n+1,h=>by
   have ih:=qcP n fun i hi=>h i (by omega)
   rw [zhR,zhR]
   by_cases e:n=g
   ·subst e
    rw [if_neg (by omega:¬n<n)] at ih
    rw [if_pos (by omega:n<n+1)]
    split <;> split <;> omega
   ·have hn:=h n (by omega) e
    have hg:(g<n+1) ↔ (g<n):=by omega
    simp only [hg]
    by_cases hp:p.testBit n=true
    ·rw [if_pos hp,if_pos (hn hp)]; omega
    ·rw [if_neg hp]; split <;> omega
theorem qlT {s:Nat×Nat}:∀(k a:Nat),s.1<a+k->(∃i,a <= i/\i<s.1/\s.2.testBit i=false)->∃g:Nat,gapF s k a=(g:Int)/\g<s.1/\s.2.testBit g=false
 | 0,a,h,⟨i,h1,h2,_⟩=>by omega
 | k+1,a,h,⟨i,h1,h2,h3⟩=>by
   rw [gapF,if_pos (by omega)]
   by_cases hb:s.2.testBit a=true
   ·rw [if_pos hb]
    refine qlT k (a+1) (by omega) ⟨i,?_,h2,h3⟩
    have:i≠a:=fun e=>by rw [e,hb] at h3; cases h3
    omega
   ·rw [if_neg hb]
    exact ⟨a,rfl,by omega,by simpa using hb⟩
theorem qmS {n m:Nat} (h:∀i,i<n->m.testBit i=true):(bitsL n m).length=n:=by
 rw [bitsL,List.filter_eq_self.2 fun i hi=>h i (List.mem_range.1 hi),List.length_range]
theorem qfC {x:AllocT} (h:¬freeN x <= 0):0 <= gapN (x.n,zbY x) 0/\gapN (x.n,zbY x) 0<(x.n:Int)/\¬InS x.n (zbY x) (gapN (x.n,zbY x) 0):=by
 have hex:∃i,0 <= i/\i<x.n/\(zbY x).testBit i=false:=by
  apply Classical.byContradiction
  intro hn
  apply h
  have:=qmS (n:=x.n) (m:=zbY x) fun i hi=>by
   cases e:(zbY x).testBit i
   ·exact absurd ⟨i,Nat.zero_le _,hi,e⟩ hn
   ·rfl
  unfold freeN; omega
 obtain ⟨g,h1,h2,h3⟩:=qlT (s:=(x.n,zbY x)) (x.n+1) 0 (by simp only; omega) hex
 have e:gapN (x.n,zbY x) 0=(g:Int):=h1
 rw [e]
 simp only at h2
 refine ⟨by omega,by omega,fun k=>?_⟩
 have:=(inS_iff.1 k).2.2
 rw [Int.toNat_natCast,h3] at this
 cases this

structure GoodS (s:StoreT):Prop where
 W:zaG s
 lines:s.a.n <= za2 s.ws
 r0:s.a.r=0
 c0:InS s.a.n s.a.c 0
 c1:InS s.a.n s.a.c 1

structure Step (s:StoreT) (a:Int) (b:List Nat) (r:Wr):Prop where
 e:r.e=0
 good:GoodS r.s
 n:r.s.a.n=s.a.n
 c:r.s.a.c=s.a.c
 e':r.s.a.e=s.a.e
 m:r.s.a.m=s.a.m
 ge:2 <= r.at_
 lt:r.at_<(s.a.n:Int)
 at':zaV r.s.ws r.at_=b
 oth:∀c,c≠r.at_->zaV r.s.ws c=zaV s.ws c
 lns:za2 r.s.ws=za2 s.ws
 w:∀c,InS s.a.n r.s.a.w c ↔ c=r.at_\/(InS s.a.n s.a.w c/\¬(a≠0/\c=a))
 kind:(r.at_=a/\¬InS s.a.n s.a.m a)\/¬InS s.a.n (zbY s.a) r.at_
 free:freeN s.a <= freeN r.s.a+1
 turned:a≠0->r.at_≠a->InS s.a.n s.a.m a
def NoSp (s:StoreT) (r:Wr):Prop:=r.e=10/\r.s=s/\freeN s.a <= 0/\r.at_=0

theorem make_step {s:StoreT} (h:GoodS s) {b:List Nat} (hb:Oct b) (h64:b.length=64):Step s 0 b (makeR s b)\/NoSp s (makeR s b):=by
 by_cases hf:freeN s.a <= 0
 ·right
  have e1:zcJ s.a s.a.r=10:=by rw [zcJ,h.r0,if_pos hf]
  have e2:za7 s.a s.a.r=s.a:=by rw [za7,h.r0,if_pos hf]
  rw [NoSp,makeR,if_pos h64,if_neg (by rw [e1]; decide),e1,e2]
  exact ⟨rfl,rfl,hf,rfl⟩
 ·left
  obtain ⟨g1,g2,g3⟩:=qfC hf
  generalize hg:gapN (s.a.n,zbY s.a) 0=g at *
  have e1:zcJ s.a s.a.r=0:=by rw [zcJ,h.r0,if_neg hf]
  have e2:za7 s.a s.a.r = { s.a with w:=add1 s.a.n s.a.w g }:=by unfold za7; rw [if_neg (by rw [h.r0]; exact hf),hg]
  have e3:zeR s.a s.a.r=g:=by rw [zeR,h.r0,if_neg hf,hg]
  have hin:zdZ s.ws g:=⟨g1,by have:=h.lines; omega⟩
  have e4:zd8 s.ws g b=0:=by rw [zd8,if_pos ⟨hin,h64⟩]
  have hge:2 <= g:=by
   have h0:g≠0:=fun e=>g3 (inS_held.2 (by rw [e]; exact .inr (.inl h.c0)))
   have h1:g≠1:=fun e=>g3 (inS_held.2 (by rw [e]; exact .inr (.inl h.c1)))
   omega
  have hM:makeR s b = { s:={ ws:=zeE s.ws g b,a:={ s.a with w:=add1 s.a.n s.a.w g } },at_:=g,e:=0 }:=by
   rw [makeR,if_pos h64,if_pos e1,e2,e3,zcO]
   simp only [e4,if_true]
  have hW:=znT h.W hb
  rw [hM] at hW ⊢
  refine { e:=rfl,good:=⟨hW,?_,h.r0,h.c0,h.c1⟩,n:=rfl,c:=rfl,e':=rfl,m:=rfl,ge:=hge,lt:=g2,at':=ztQ hin hb h64,oth:=fun c hc=>ztR hc,lns:=zfD _ _ _,w:=fun c=>?_,kind := .inr g3,free:=?_,turned:=fun q=>absurd rfl q }
  ·show s.a.n <= za2 (zeE s.ws g b)
   rw [zfD]; exact h.lines
  ·show InS s.a.n (add1 s.a.n s.a.w g) c ↔ _
   rw [qbZ]
   constructor
   ·rintro (k | k)
    ·exact .inr ⟨k,fun q=>q.1 rfl⟩
    ·exact .inl k.1
   ·rintro (k | k)
    ·exact .inr ⟨k,g1,g2⟩
    ·exact .inl k.1
  ·have:=qcP (p:=add1 s.a.n s.a.w g ||| s.a.c ||| s.a.e ||| s.a.m) (q:=zbY s.a) (g:=g.toNat) s.a.n fun i hi hne hp=>by
    unfold zbY
    simp only [Nat.testBit_or,Bool.or_eq_true,zwN,decide_eq_true_iff] at hp ⊢
    rcases hp with ((hp | hp) | hp) | hp
    ·rcases hp with hp | hp
     ·simp [hp]
     ·omega
    ·simp [hp]
    ·simp [hp]
    ·simp [hp]
   rw [if_pos (by omega)] at this
   show (s.a.n:Int)-((bitsL s.a.n (zbY s.a)).length:Nat) <= (s.a.n:Int)-((bitsL s.a.n (add1 s.a.n s.a.w g ||| s.a.c ||| s.a.e ||| s.a.m)).length:Nat)+1
   omega

theorem zpD {s:StoreT} (h:GoodS s) {b:List Nat} (hb:Oct b) (h64:b.length=64) {a:Int} (ha:a=0\/(2 <= a/\InS s.a.n s.a.w a)):Step s a b (layR s a b true)\/NoSp s (layR s a b true):=by
 rw [layR,if_pos rfl]
 by_cases h0:a=0
 ·rw [if_pos h0,h0]; exact make_step h hb h64
 ·rw [if_neg h0]
  have hin:2 <= a/\InS s.a.n s.a.w a:=by rcases ha with k | k; exact absurd k h0; exact k
  obtain ⟨h2,hw⟩:=hin
  have hr:=inS_iff.1 hw
  rw [ziG,if_pos ⟨h64,hw⟩]
  by_cases ho:ownB s.a a=true
  ·rw [if_pos ho]
   left
   have hm:¬InS s.a.n s.a.m a:=fun k=>by
    unfold ownB at ho
    rw [show hasN (s.a.n,s.a.m) a=true from k] at ho
    simp at ho
   have hil:zdZ s.ws a:=⟨hr.1,by have:=h.lines; omega⟩
   have e4:zd8 s.ws a b=0:=by rw [zd8,if_pos ⟨hil,h64⟩]
   have hM:zcO s a b = { s:={ s with ws:=zeE s.ws a b },at_:=a,e:=0 }:=by
    rw [zcO]; simp only [e4,if_true]
   have hW:=zmZ h.W a hb
   rw [hM] at hW ⊢
   refine { e:=rfl,good:=⟨hW,?_,h.r0,h.c0,h.c1⟩,n:=rfl,c:=rfl,e':=rfl,m:=rfl,ge:=h2,lt:=hr.2.1,at':=ztQ hil hb h64,oth:=fun c hc=>ztR hc,lns:=zfD _ _ _,w:=fun c=>?_,kind := .inl ⟨rfl,hm⟩,free:=?_,turned:=fun _ q=>absurd rfl q }
   ·show s.a.n <= za2 (zeE s.ws a b)
    rw [zfD]; exact h.lines
   ·show InS s.a.n s.a.w c ↔ c=a\/_
    constructor
    ·intro k
     by_cases e:c=a
     ·exact .inl e
     ·exact .inr ⟨k,fun q=>e q.2⟩
    ·rintro (k | k)
     ·rw [k]; exact hw
     ·exact k.1
   ·show freeN s.a <= freeN s.a+1
    omega
  ·rw [if_neg ho]
   have hma:InS s.a.n s.a.m a:=by
    unfold ownB at ho
    rw [show hasN (s.a.n,s.a.w) a=true from hw] at ho
    simpa using ho
   rcases make_step h hb h64 with S | N
   ·left
    rw [if_pos S.e]
    have haw:InS s.a.n (makeR s b).s.a.w a:=(S.w a).2 (.inr ⟨hw,fun q=>q.1 rfl⟩)
    have hne:(makeR s b).at_≠a:=fun e=>by
     rcases S.kind with k | k
     ·have:=S.ge; omega
     ·exact k (inS_held.2 (.inl (by rw [e]; exact hw)))
    have e0:zc2 (makeR s b).s.a a=0:=by rw [zc2,S.n,if_pos haw]
    have hn:=S.n
    refine { e:=e0,good:=⟨⟨S.good.W.1,zv1 S.good.W.2 _⟩,S.good.lines,S.good.r0,S.good.c0,S.good.c1⟩,n:=S.n,c:=S.c,e':=S.e',m:=S.m,ge:=S.ge,lt:=S.lt,at':=S.at',oth:=S.oth,lns:=S.lns,w:=fun c=>?_,kind := .inr ?_,free:=?_,turned:=fun _ _=>hma }
    ·show InS s.a.n (drop1 (makeR s b).s.a.n (makeR s b).s.a.w a) c ↔ c=(makeR s b).at_\/_
     rw [hn,qeB,S.w c]
     constructor
     ·rintro ⟨k | k,q⟩
      ·exact .inl k
      ·exact .inr ⟨k.1,fun z=>q z.2⟩
     ·rintro (k | k)
      ·exact ⟨.inl k,by rw [k]; exact hne⟩
      ·exact ⟨.inr ⟨k.1,fun z=>z.1 rfl⟩,fun z=>k.2 ⟨h0,z⟩⟩
    ·rcases S.kind with k | k
     ·have:=S.ge; omega
     ·exact k
    ·have hf:=S.free
     have:=qcP (p:=drop1 s.a.n (makeR s b).s.a.w a ||| (makeR s b).s.a.c ||| (makeR s b).s.a.e ||| (makeR s b).s.a.m) (q:=zbY (makeR s b).s.a) (g:=s.a.n) s.a.n fun i hi hne2 hp=>by
      unfold zbY
      simp only [Nat.testBit_or,Bool.or_eq_true,zrT,Bool.and_eq_true] at hp ⊢
      rcases hp with ((hp | hp) | hp) | hp
      ·simp [hp.1]
      ·simp [hp]
      ·simp [hp]
      ·simp [hp]
     rw [if_neg (by omega)] at this
     have e:zbY (zg1 (makeR s b).s.a a)=drop1 s.a.n (makeR s b).s.a.w a ||| (makeR s b).s.a.c ||| (makeR s b).s.a.e ||| (makeR s b).s.a.m:=by
      show drop1 (makeR s b).s.a.n (makeR s b).s.a.w a ||| _ ||| _ ||| _=_
      rw [hn]; rfl
     have e2:freeN (makeR s b).s.a <= freeN (zg1 (makeR s b).s.a a):=by
      unfold freeN
      rw [e]
      show ((makeR s b).s.a.n:Int)-((bitsL (makeR s b).s.a.n (zbY (makeR s b).s.a)).length:Nat) <= ((makeR s b).s.a.n:Int)-((bitsL (makeR s b).s.a.n _).length:Nat)
      rw [hn]
      omega
     show freeN s.a <= freeN (zg1 (makeR s b).s.a a)+1
     omega
   ·right
    obtain ⟨n1,n2,n3,n4⟩:=N
    rw [if_neg (by rw [n1]; decide)]
    exact ⟨n1,n2,n3,rfl⟩

theorem zp5 {s:StoreT} {a:Int} {b:List Nat} {r:Wr} (S:Step s a b r) {c:Int} (h:InS s.a.n (zbY s.a) c):InS s.a.n (zbY r.s.a) c:=by
 have hn:=S.n
 have e:=inS_held (x:=r.s.a) (a:=c)
 rw [hn] at e
 rw [e]
 rcases inS_held.1 h with k | k | k | k
 ·by_cases q:a≠0/\c=a
  ·by_cases z:r.at_=a
   ·exact .inl ((S.w c).2 (.inl (by rw [z,q.2])))
   ·rw [S.m,q.2]; exact .inr (.inr (.inr (S.turned q.1 z)))
  ·exact .inl ((S.w c).2 (.inr ⟨k,q⟩))
 ·rw [S.c]; exact .inr (.inl k)
 ·rw [S.e']; exact .inr (.inr (.inl k))
 ·rw [S.m]; exact .inr (.inr (.inr k))
theorem qaC {s:StoreT} {a:Int} {b:List Nat} {r:Wr} (S:Step s a b r):InS s.a.n (zbY r.s.a) r.at_:=by
 have e:=inS_held (x:=r.s.a) (a:=r.at_)
 rw [S.n] at e
 exact e.2 (.inl ((S.w _).2 (.inl rfl)))
theorem zfS {s:StoreT} {a:Int} {b:List Nat} {r:Wr} (S:Step s a b r) {c:Int} (h:InS s.a.n s.a.m c):zaV r.s.ws c=zaV s.ws c:=by
 refine S.oth c fun q=>?_
 rcases S.kind with k | k
 ·exact k.2 (by rw [<- k.1,<- q]; exact h)
 ·exact k (inS_held.2 (.inr (.inr (.inr (by rw [<- q]; exact h)))))


structure ShapeX (X:Int->Prop) (w:Int->Prop) (top:Int) (K:Nat->Int) (F:Nat->Nat->Int):Prop where
 ht:top=0\/(2 <= top/\w top)
 hk:∀i,i<16->K i=0\/(2 <= K i/\w (K i))
 hf:∀i j,i<16->j<16->F i j=0\/(2 <= F i j/\w (F i j))
 d1:∀i,i<16->K i≠0->K i≠top
 d2:∀i j,i<16->j<16->F i j≠0->F i j≠top
 d3:∀i j i',i<16->j<16->i'<16->F i j≠0->F i j≠K i'
 d4:∀i i',i<16->i'<16->K i≠0->K i=K i'->i=i'
 d5:∀i j i' j',i<16->j<16->i'<16->j'<16->F i j≠0->F i j=F i' j'->i=i'/\j=j'
 exX:∀c,w c->c=0\/c=1\/c=top\/(∃i,i<16/\c=K i)\/(∃i j,i<16/\j<16/\c=F i j)\/X c
 xw:∀c,X c->2 <= c/\w c
 x1:∀c,X c->c≠top
 x2:∀c i,X c->i<16->c≠K i
 x3:∀c i j,X c->i<16->j<16->c≠F i j
abbrev noX:Int->Prop:=fun _=>False
abbrev Shape (w:Int->Prop) (top:Int) (K:Nat->Int) (F:Nat->Nat->Int):Prop:=ShapeX noX w top K F
theorem ShapeX.ex {w:Int->Prop} {top:Int} {K:Nat->Int} {F:Nat->Nat->Int} (h:ShapeX noX w top K F) (c:Int) (hc:w c):c=0\/c=1\/c=top\/(∃i,i<16/\c=K i)\/(∃i j,i<16/\j<16/\c=F i j):=by
 rcases h.exX c hc with z | z | z | z | z | z
 ·exact .inl z
 ·exact .inr (.inl z)
 ·exact .inr (.inr (.inl z))
 ·exact .inr (.inr (.inr (.inl z)))
 ·exact .inr (.inr (.inr (.inr z)))
 ·exact z.elim
theorem Shape.of {w:Int->Prop} {top:Int} {K:Nat->Int} {F:Nat->Nat->Int} (ht:top=0\/(2 <= top/\w top)) (hk:∀i,i<16->K i=0\/(2 <= K i/\w (K i))) (hf:∀i j,i<16->j<16->F i j=0\/(2 <= F i j/\w (F i j)))
  (d1:∀i,i<16->K i≠0->K i≠top) (d2:∀i j,i<16->j<16->F i j≠0->F i j≠top) (d3:∀i j i',i<16->j<16->i'<16->F i j≠0->F i j≠K i') (d4:∀i i',i<16->i'<16->K i≠0->K i=K i'->i=i')
  (d5:∀i j i' j',i<16->j<16->i'<16->j'<16->F i j≠0->F i j=F i' j'->i=i'/\j=j') (ex:∀c,w c->c=0\/c=1\/c=top\/(∃i,i<16/\c=K i)\/(∃i j,i<16/\j<16/\c=F i j)):Shape w top K F :=
 ⟨ht,hk,hf,d1,d2,d3,d4,d5,fun c hc=>(ex c hc).imp_right fun z=>z.imp_right fun z=>z.imp_right fun z=>z.imp_right .inl,fun _ h=>h.elim,fun _ h=>h.elim,fun _ _ h=>h.elim,fun _ _ _ h=>h.elim⟩

structure Moved (w w':Int->Prop) (top top' b1 a2 b2 a1:Int):Prop where
 g1:2 <= a1
 g2:2 <= a2
 g3:2 <= top'
 n12:a1≠a2
 n13:a1≠top'
 n23:a2≠top'
 o1:a1=b2\/¬w a1
 o2:a2=b1\/¬w a2
 o3:top'=top\/¬w top'
 w':∀c,w' c ↔ c=a1\/c=a2\/c=top'\/(w c/\¬(b2≠0/\c=b2)/\¬(b1≠0/\c=b1)/\¬(top≠0/\c=top))

theorem qiY {X:Int->Prop} {w w':Int->Prop} {top top' a1 a2:Int} {K K':Nat->Int} {F F':Nat->Nat->Int} {k0 k1:Nat} (h0:k0<16) (h1:k1<16) (h:ShapeX X w top K F) (m:Moved w w' top top' (K k0) a2 (F k0 k1) a1)
  (hK:∀i,i<16->K' i=if i=k0 then a2 else K i) (hF:∀i j,i<16->j<16->F' i j=if i=k0/\j=k1 then a1 else F i j):ShapeX X w' top' K' F':=by
 obtain ⟨ht,hk,hf,d1,d2,d3,d4,d5,ex,xw,x1,x2,x3⟩:=h
 obtain ⟨g1,g2,g3,n12,n13,n23,o1,o2,o3,hw⟩:=m
 have hb1:=hk k0 h0
 have hb2:=hf k0 k1 h0 h1
 have kin:∀i,i<16->i≠k0->K i≠0->w' (K i):=fun i hi hne hz=>by
  have h3:=hk i hi
  refine (hw _).2 (.inr (.inr (.inr ⟨(h3.resolve_left hz).2,?_,?_,?_⟩)))
  ·exact fun q=>d3 k0 k1 i h0 h1 hi q.1 q.2.symm
  ·exact fun q=>hne (d4 i k0 hi h0 hz q.2)
  ·exact fun q=>d1 i hi hz q.2
 have fin:∀i j,i<16->j<16->¬(i=k0/\j=k1)->F i j≠0->w' (F i j):=fun i j hi hj hne hz=>by
  have h3:=hf i j hi hj
  refine (hw _).2 (.inr (.inr (.inr ⟨(h3.resolve_left hz).2,?_,?_,?_⟩)))
  ·exact fun q=>hne (d5 i j k0 k1 hi hj h0 h1 hz q.2)
  ·exact fun q=>d3 i j k0 hi hj h0 hz q.2
  ·exact fun q=>d2 i j hi hj hz q.2
 have kold:∀i,i<16->i≠k0->K i≠0->K i≠a1/\K i≠a2/\K i≠top':=fun i hi hne hz=>by
  have h3:=hk i hi
  have hwi:w (K i):=(h3.resolve_left hz).2
  refine ⟨fun e=>?_,fun e=>?_,fun e=>?_⟩
  ·rcases o1 with q | q
   ·exact d3 k0 k1 i h0 h1 hi (by rw [<- q]; omega) (by rw [<- q,e])
   ·exact q (by rw [<- e]; exact hwi)
  ·rcases o2 with q | q
   ·exact hne (d4 i k0 hi h0 hz (by rw [e,q]))
   ·exact q (by rw [<- e]; exact hwi)
  ·rcases o3 with q | q
   ·exact d1 i hi hz (by rw [e,q])
   ·exact q (by rw [<- e]; exact hwi)
 have fold:∀i j,i<16->j<16->¬(i=k0/\j=k1)->F i j≠0->F i j≠a1/\F i j≠a2/\F i j≠top':=fun i j hi hj hne hz=>by
  have h3:=hf i j hi hj
  have hwi:w (F i j):=(h3.resolve_left hz).2
  refine ⟨fun e=>?_,fun e=>?_,fun e=>?_⟩
  ·rcases o1 with q | q
   ·exact hne (d5 i j k0 k1 hi hj h0 h1 hz (by rw [e,q]))
   ·exact q (by rw [<- e]; exact hwi)
  ·rcases o2 with q | q
   ·exact d3 i j k0 hi hj h0 hz (by rw [e,q])
   ·exact q (by rw [<- e]; exact hwi)
  ·rcases o3 with q | q
   ·exact d2 i j hi hj hz (by rw [e,q])
   ·exact q (by rw [<- e]; exact hwi)
 have wa1:w' a1:=(hw _).2 (.inl rfl)
 have wa2:w' a2:=(hw _).2 (.inr (.inl rfl))
 have wt:w' top':=(hw _).2 (.inr (.inr (.inl rfl)))
 refine ⟨.inr ⟨g3,wt⟩,fun i hi=>?_,fun i j hi hj=>?_,fun i hi=>?_,fun i j hi hj=>?_,fun i j i' hi hj hi'=>?_,fun i i' hi hi'=>?_,fun i j i' j' hi hj hi' hj'=>?_,fun c hc=>?_,fun c hX=>?_,fun c hX=>?_,fun c i hX hi=>?_,fun c i j hX hi hj=>?_⟩
 ·rw [hK i hi]
  split
  ·exact .inr ⟨g2,wa2⟩
  ·rename_i e
   rcases hk i hi with z | z
   ·exact .inl z
   ·exact .inr ⟨z.1,kin i hi e (by omega)⟩
 ·rw [hF i j hi hj]
  split
  ·exact .inr ⟨g1,wa1⟩
  ·rename_i e
   rcases hf i j hi hj with z | z
   ·exact .inl z
   ·exact .inr ⟨z.1,fin i j hi hj e (by omega)⟩
 ·rw [hK i hi]
  split
  ·exact fun _=>n23
  ·rename_i e; exact fun z=>(kold i hi e z).2.2
 ·rw [hF i j hi hj]
  split
  ·exact fun _=>n13
  ·rename_i e; exact fun z=>(fold i j hi hj e z).2.2
 ·rw [hF i j hi hj,hK i' hi']
  split
  ·split
   ·exact fun _=>n12
   ·rename_i e
    intro _ q
    by_cases z:K i'=0
    ·omega
    ·exact (kold i' hi' e z).1 q.symm
  ·rename_i e
   split
   ·exact fun z=>(fold i j hi hj e z).2.1
   ·exact fun z=>d3 i j i' hi hj hi' z
 ·rw [hK i hi,hK i' hi']
  split
  ·rename_i e
   split
   ·rename_i e2; intro _ _; rw [e,e2]
   ·rename_i e2
    intro _ q
    by_cases z:K i'=0
    ·omega
    ·exact absurd q.symm (kold i' hi' e2 z).2.1
  ·rename_i e
   split
   ·intro z q; exact absurd q (kold i hi e z).2.1
   ·intro z q; exact d4 i i' hi hi' z q
 ·rw [hF i j hi hj,hF i' j' hi' hj']
  split
  ·rename_i e
   split
   ·rename_i e2; intro _ _; omega
   ·rename_i e2
    intro _ q
    by_cases z:F i' j'=0
    ·omega
    ·exact absurd q.symm (fold i' j' hi' hj' e2 z).1
  ·rename_i e
   split
   ·intro z q; exact absurd q (fold i j hi hj e z).1
   ·intro z q; exact d5 i j i' j' hi hj hi' hj' z q
 ·rcases (hw c).1 hc with q | q | q | ⟨q1,q2,q3,q4⟩
  ·exact .inr (.inr (.inr (.inr (.inl ⟨k0,k1,h0,h1,by rw [hF k0 k1 h0 h1,if_pos ⟨rfl,rfl⟩,q]⟩))))
  ·exact .inr (.inr (.inr (.inl ⟨k0,h0,by rw [hK k0 h0,if_pos rfl,q]⟩)))
  ·exact .inr (.inr (.inl q))
  ·rcases ex c q1 with z | z | z | ⟨i,hi,z⟩ | ⟨i,j,hi,hj,z⟩ | z
   ·exact .inl z
   ·exact .inr (.inl z)
   ·by_cases e:top=0
    ·exact .inl (by omega)
    ·exact absurd ⟨e,z⟩ q4
   ·by_cases e:i=k0
    ·subst e
     by_cases e2:K i=0
     ·exact .inl (by omega)
     ·exact absurd ⟨e2,z⟩ q3
    ·exact .inr (.inr (.inr (.inl ⟨i,hi,by rw [hK i hi,if_neg e,z]⟩)))
   ·by_cases e:i=k0/\j=k1
    ·obtain ⟨rfl,rfl⟩:=e
     by_cases e2:F i j=0
     ·exact .inl (by omega)
     ·exact absurd ⟨e2,z⟩ q2
    ·exact .inr (.inr (.inr (.inr (.inl ⟨i,j,hi,hj,by rw [hF i j hi hj,if_neg e,z]⟩))))
   ·exact .inr (.inr (.inr (.inr (.inr z))))
 ·exact ⟨(xw c hX).1,(hw _).2 (.inr (.inr (.inr ⟨(xw c hX).2,fun q=>x3 c k0 k1 hX h0 h1 q.2,fun q=>x2 c k0 hX h0 q.2,fun q=>x1 c hX q.2⟩)))⟩
 ·rcases o3 with q | q
  ·rw [q]; exact x1 c hX
  ·exact fun e=>q (e ▸ (xw c hX).2)
 ·rw [hK i hi]
  split
  ·rcases o2 with q | q
   ·rw [q]; exact x2 c k0 hX h0
   ·exact fun e=>q (e ▸ (xw c hX).2)
  ·exact x2 c i hX hi
 ·rw [hF i j hi hj]
  split
  ·rcases o1 with q | q
   ·rw [q]; exact x3 c k0 k1 hX h0 h1
   ·exact fun e=>q (e ▸ (xw c hX).2)
  ·exact x3 c i j hX hi hj

theorem zk6 {ws ws':List Nat} (h:za2 ws'=za2 ws) (a:Int):za3 ws' a=za3 ws a:=by unfold za3; rw [h]
theorem zkB {ws ws':List Nat} {a:Int} (h:za2 ws'=za2 ws) (hl:zaV ws' a=zaV ws a):fanErr ws' a=fanErr ws a/\∀i,fanF ws' a i=fanF ws a i:=by
 unfold fanErr fanF
 rw [zk6 h,hl]
 exact ⟨rfl,fun _=>rfl⟩
theorem zyL {ws ws':List Nat} {a:Int} (h:za2 ws'=za2 ws) (hl:zaV ws' a=zaV ws a):zbI ws' a=zbI ws a/\∀i,zc6 ws' a i=zc6 ws a i:=by
 unfold zbI zc6
 rw [zk6 h,hl]
 exact ⟨rfl,fun _=>rfl⟩
theorem zwB (ws ws':List Nat):fanErr ws' 0=fanErr ws 0/\∀i,fanF ws' 0 i=fanF ws 0 i:=⟨rfl,fun _=>rfl⟩
theorem zyK (ws ws':List Nat):zbI ws' 0=zbI ws 0/\∀i,zc6 ws' 0 i=zc6 ws 0 i:=⟨rfl,fun _=>rfl⟩
theorem qcD {ws:List Nat} {a:Int} {f:Nat->Int} (ha:2 <= a) (hn:a<(za2 ws:Int)) (hl:zaV ws a=putFanL f) (hf:zeT f):fanErr ws a=0/\∀i,i<16->fanF ws a i=f i:=by
 obtain ⟨h1,h2⟩:=zzI hf
 have he:za3 ws a=0:=zcH.2 ⟨by omega,hn⟩
 constructor
 ·rw [fanErr,if_neg (by omega),if_pos he,hl,if_pos h1]
 ·intro i hi
  rw [fanF,if_neg (by omega),hl,zcE,if_pos h1,h2 i hi]
theorem zvS {ws:List Nat} {a:Int} {f:Nat->SeatT} (ha:2 <= a) (hn:a<(za2 ws:Int)) (hl:zaV ws a=zaU f) (hf:zdR f):zbI ws a=0/\∀i,i<7->zc6 ws a i=f i:=by
 obtain ⟨h1,h2⟩:=ztS hf
 have he:za3 ws a=0:=zcH.2 ⟨by omega,hn⟩
 constructor
 ·rw [zbI,if_neg (by omega),if_pos he,hl,if_pos h1]
 ·intro i hi
  rw [zc6,if_neg (by omega),hl,zaW,if_pos h1,h2 i hi]
theorem ql9 (ws:List Nat) (a:Int):zeT (fanF ws a):=fun i hi=>by
 unfold fanF zcE
 split
 ·exact .inl rfl
 ·split
  ·rename_i h; exact h.2.2.2.2 i hi
  ·exact .inl rfl
theorem zjT:za6 seatZ:=by decide
theorem qpY (ws:List Nat) (a:Int):zdR (zc6 ws a):=fun i hi=>by
 unfold zc6 zaW
 split
 ·exact zjT
 ·split
  ·rename_i h; exact h.2.2.2 i hi
  ·exact zjT
theorem qfO (ws:List Nat) (top slot:Int) {x:SeatT} (h:za6 x):zdR (zf6 ws top slot x):=fun i hi=>by
 unfold zf6
 split
 ·exact h
 ·exact qpY _ _ i hi
theorem qi6 (ws:List Nat) (top slot:Int) {a:Int} (h:zgZ a):zeT (ziD ws top slot a):=fun i hi=>by
 unfold ziD
 split
 ·exact h
 ·exact ql9 _ _ i hi
theorem qi2 (ws:List Nat) (top slot:Int) {a:Int} (h:zgZ a):zeT (setTop ws top slot a):=fun i hi=>by
 unfold setTop
 split
 ·exact h
 ·exact ql9 _ _ i hi
theorem zj2 {slot:Int} (h:zbH slot):placeK slot 0<16/\placeK slot 1<16/\placeK slot 2<7:=by
 have:=h.2
 have e0:placeK slot 0=slot.toNat / 7 / 16:=by simp [placeK,h]
 have e1:placeK slot 1=slot.toNat / 7 % 16:=by simp [placeK,h]
 have e2:placeK slot 2=slot.toNat % 7:=by simp [placeK,h]
 omega

def tF (ws:List Nat) (top:Int) (i j:Nat):Int:=fanF ws (fanF ws top i) j
def tS (ws:List Nat) (top:Int) (i j k:Nat):SeatT:=zc6 ws (tF ws top i j) k
structure TreeX (X:Int->Prop) (s:StoreT) (top:Int):Prop where
 sh:ShapeX X (InS s.a.n s.a.w) top (fanF s.ws top) (tF s.ws top)
 et:fanErr s.ws top=0
 ek:∀i,i<16->fanErr s.ws (fanF s.ws top i)=0
 ef:∀i j,i<16->j<16->zbI s.ws (tF s.ws top i j)=0
abbrev qn0 (s:StoreT) (top:Int):Prop:=TreeX noX s top
structure PutX (X:Int->Prop) (s:StoreT) (top slot:Int) (x:SeatT) (r:Wr):Prop where
 e:r.e=0
 good:GoodS r.s
 tree:TreeX X r.s r.at_
 n:r.s.a.n=s.a.n
 c:r.s.a.c=s.a.c
 e':r.s.a.e=s.a.e
 m:r.s.a.m=s.a.m
 lns:za2 r.s.ws=za2 s.ws
 ge:2 <= r.at_
 seats:∀i j k,i<16->j<16->k<7->tS r.s.ws r.at_ i j k=if i=placeK slot 0/\j=placeK slot 1/\k=placeK slot 2 then x else tS s.ws top i j k
 marks:∀c,InS s.a.n s.a.m c->zaV r.s.ws c=zaV s.ws c
 free:freeN s.a <= freeN r.s.a+3
 w01:∀c,c<2->InS s.a.n s.a.w c->InS s.a.n r.s.a.w c
 nzK:∀i,i<16->(fanF r.s.ws r.at_ i≠0 ↔ i=placeK slot 0\/fanF s.ws top i≠0)
 nzF:∀i j,i<16->j<16->(tF r.s.ws r.at_ i j≠0 ↔ (i=placeK slot 0/\j=placeK slot 1)\/tF s.ws top i j≠0)
 oth:∀c,X c->zaV r.s.ws c=zaV s.ws c
structure PutNo (s:StoreT) (r:Wr):Prop where
 e:r.e=10
 at':r.at_=0
 good:GoodS r.s
 n:r.s.a.n=s.a.n
 c:r.s.a.c=s.a.c
 e':r.s.a.e=s.a.e
 m:r.s.a.m=s.a.m
 lns:za2 r.s.ws=za2 s.ws
 marks:∀c,InS s.a.n s.a.m c->zaV r.s.ws c=zaV s.ws c
 free:freeN s.a <= 2
 free':freeN r.s.a <= 0

theorem qa4 {X:Int->Prop} {s s':StoreT} {top slot top' a1 a2:Int} {x:SeatT} (hp:zbH slot) (h:TreeX X s top) (hln:za2 s'.ws=za2 s.ws) (hn:s'.a.n=s.a.n)
  (m:Moved (InS s.a.n s.a.w) (InS s.a.n s'.a.w) top top' (wb1 s.ws top slot) a2 (wb2 s.ws top slot) a1)
  (hV:zbI s'.ws a1=0/\∀k,k<7->zc6 s'.ws a1 k=zf6 s.ws top slot x k)
  (hU:fanErr s'.ws a2=0/\∀j,j<16->fanF s'.ws a2 j=ziD s.ws top slot a1 j)
  (hT:fanErr s'.ws top'=0/\∀i,i<16->fanF s'.ws top' i=setTop s.ws top slot a2 i)
  (hO:∀c,InS s.a.n s.a.w c->c≠wb1 s.ws top slot->c≠wb2 s.ws top slot->c≠top->zaV s'.ws c=zaV s.ws c) :
  TreeX X s' top'/\(∀i j k,i<16->j<16->k<7->tS s'.ws top' i j k=if i=placeK slot 0/\j=placeK slot 1/\k=placeK slot 2 then x else tS s.ws top i j k)
   /\ (∀i,i<16->(fanF s'.ws top' i≠0 ↔ i=placeK slot 0\/fanF s.ws top i≠0))/\(∀i j,i<16->j<16->(tF s'.ws top' i j≠0 ↔ (i=placeK slot 0/\j=placeK slot 1)\/tF s.ws top i j≠0))/\∀c,X c->zaV s'.ws c=zaV s.ws c:=by
 obtain ⟨p0,p1,p2⟩:=zj2 hp
 have hsh:=h.sh
 have hb1:wb1 s.ws top slot=fanF s.ws top (placeK slot 0):=rfl
 have hb2:wb2 s.ws top slot=tF s.ws top (placeK slot 0) (placeK slot 1):=rfl
 have hK:∀i,i<16->fanF s'.ws top' i=if i=placeK slot 0 then a2 else fanF s.ws top i:=fun i hi=>hT.2 i hi
 have hKs:∀i,i<16->i≠placeK slot 0->fanErr s'.ws (fanF s.ws top i)=fanErr s.ws (fanF s.ws top i)/\∀j,fanF s'.ws (fanF s.ws top i) j=fanF s.ws (fanF s.ws top i) j:=fun i hi hne=>by
  by_cases hz:fanF s.ws top i=0
  ·rw [hz]; exact zwB _ _
  ·refine zkB hln (hO _ ((hsh.hk i hi).resolve_left hz).2 ?_ ?_ ?_)
   ·rw [hb1]; exact fun q=>hne (hsh.d4 i _ hi p0 hz q)
   ·rw [hb2]; exact fun q=>hsh.d3 _ _ i p0 p1 hi (by rw [<- q]; exact hz) q.symm
   ·exact hsh.d1 i hi hz
 have hF:∀i j,i<16->j<16->tF s'.ws top' i j=if i=placeK slot 0/\j=placeK slot 1 then a1 else tF s.ws top i j:=fun i j hi hj=>by
  unfold tF
  rw [hK i hi]
  by_cases e:i=placeK slot 0
  ·rw [if_pos e,hU.2 j hj,ziD]
   by_cases e2:j=placeK slot 1
   ·rw [if_pos e2,if_pos ⟨e,e2⟩]
   ·rw [if_neg e2,if_neg (fun q=>e2 q.2),hb1,e]
  ·rw [if_neg e,if_neg (fun q=>e q.1),(hKs i hi e).2 j]
 have hFs:∀i j,i<16->j<16->¬(i=placeK slot 0/\j=placeK slot 1)->zbI s'.ws (tF s.ws top i j)=zbI s.ws (tF s.ws top i j)/\∀k,zc6 s'.ws (tF s.ws top i j) k=zc6 s.ws (tF s.ws top i j) k:=fun i j hi hj hne=>by
  by_cases hz:tF s.ws top i j=0
  ·rw [hz]; exact zyK _ _
  ·refine zyL hln (hO _ ((hsh.hf i j hi hj).resolve_left hz).2 ?_ ?_ ?_)
   ·rw [hb1]; exact hsh.d3 i j _ hi hj p0 hz
   ·rw [hb2]; exact fun q=>hne (hsh.d5 i j _ _ hi hj p0 p1 hz q)
   ·exact hsh.d2 i j hi hj hz
 refine ⟨⟨?_,hT.1,fun i hi=>?_,fun i j hi hj=>?_⟩,fun i j k hi hj hk=>?_,fun i hi=>?_,fun i j hi hj=>?_,fun c hc=>hO c (hsh.xw c hc).2 (hsh.x2 c _ hc p0) (hsh.x3 c _ _ hc p0 p1) (hsh.x1 c hc)⟩
 ·rw [hn]; exact qiY p0 p1 hsh m hK hF
 ·rw [hK i hi]
  split
  ·exact hU.1
  ·rename_i e; rw [(hKs i hi e).1]; exact h.ek i hi
 ·rw [hF i j hi hj]
  split
  ·exact hV.1
  ·rename_i e; rw [(hFs i j hi hj e).1]; exact h.ef i j hi hj
 ·unfold tS
  rw [hF i j hi hj]
  by_cases e:i=placeK slot 0/\j=placeK slot 1
  ·rw [if_pos e,hV.2 k hk,zf6,hb2]
   obtain ⟨rfl,rfl⟩:=e
   by_cases e2:k=placeK slot 2
   ·rw [if_pos e2,if_pos ⟨rfl,rfl,e2⟩]
   ·rw [if_neg e2,if_neg (fun q=>e2 q.2.2)]
  ·rw [if_neg e,if_neg (fun q=>e ⟨q.1,q.2.1⟩),(hFs i j hi hj e).2 k]
 ·rw [hK i hi]
  have:=m.g2
  split
  ·rename_i e; exact ⟨fun _ => .inl e,fun _=>by omega⟩
  ·rename_i e; exact ⟨fun q => .inr q,fun q=>q.resolve_left e⟩
 ·rw [hF i j hi hj]
  have:=m.g1
  split
  ·rename_i e; exact ⟨fun _ => .inl e,fun _=>by omega⟩
  ·rename_i e; exact ⟨fun q => .inr q,fun q=>q.resolve_left e⟩

theorem moved1 {w w1:Int->Prop} {top b1 b2:Int} (h2:2 <= b2) (h1:2 <= b1) (h0:2 <= top) (w2:w b2) (w1':w b1) (w0:w top) (n12:b2≠b1) (n13:b2≠top) (n23:b1≠top)
  (hw:∀c,w1 c ↔ c=b2\/(w c/\¬(b2≠0/\c=b2))):Moved w w1 top top b1 b1 b2 b2 :=
 ⟨h2,h1,h0,n12,n13,n23,.inl rfl,.inl rfl,.inl rfl,fun c=>by rw [hw c]; grind⟩
theorem moved2 {w w1 w2:Int->Prop} {top b1 b2 a1:Int} (h2:2 <= a1) (h1:2 <= b1) (h0:2 <= top) (f1:¬w a1) (w1':w b1) (w0:w top) (n23:b1≠top) (m1:b2≠0->b2≠b1) (m2:b2≠0->b2≠top)
  (hw:∀c,w1 c ↔ c=a1\/(w c/\¬(b2≠0/\c=b2))) (hw2:∀c,w2 c ↔ c=b1\/(w1 c/\¬(b1≠0/\c=b1))):Moved w w2 top top b1 b1 b2 a1 :=
 ⟨h2,h1,h0,fun q=>f1 (q ▸ w1'),fun q=>f1 (q ▸ w0),n23,.inr f1,.inl rfl,.inl rfl,fun c=>by rw [hw2 c,hw c]; grind⟩
theorem moved3 {w w1 w2 w3:Int->Prop} {top b1 b2 a1 a2 a3:Int} (h2:2 <= a1) (h1:2 <= a2) (h0:2 <= a3) (f1:¬w a1) (f2:¬w a2) (n12:a1≠a2) (n13:a1≠a3) (n23:a2≠a3) (w1':b1=0\/w b1) (w0:top=0\/w top) (f3:a3=top\/¬w a3)
  (hw:∀c,w1 c ↔ c=a1\/(w c/\¬(b2≠0/\c=b2))) (hw2:∀c,w2 c ↔ c=a2\/(w1 c/\¬(b1≠0/\c=b1))) (hw3:∀c,w3 c ↔ c=a3\/(w2 c/\¬(top≠0/\c=top))):Moved w w3 top a3 b1 a2 b2 a1 :=
 ⟨h2,h1,h0,n12,n13,n23,.inr f1,.inr f2,f3,fun c=>by
  have m1:b1=0\/a1≠b1:=w1'.imp_right fun k q=>f1 (q ▸ k)
  have m2:top=0\/a1≠top:=w0.imp_right fun k q=>f1 (q ▸ k)
  have m3:top=0\/a2≠top:=w0.imp_right fun k q=>f2 (q ▸ k)
  rw [hw3 c,hw2 c,hw c]
  by_cases hwc:w c
  ·simp only [hwc,true_and]; omega
  ·simp only [hwc,false_and,or_false]; omega⟩
theorem zq3 {w w':Int->Prop} {top top' b1 a2 b2 a1:Int} (m:Moved w w' top top' b1 a2 b2 a1) (h1:b1=0\/2 <= b1) (h2:b2=0\/2 <= b2) (h0:top=0\/2 <= top):∀c,c<2->w c->w' c:=fun c hc hw =>
 (m.w' c).2 (.inr (.inr (.inr ⟨hw,by omega,by omega,by omega⟩)))
theorem qa6 {l:Nat->SeatT} (h:zdR l):(zaU l).length=64:=by
 rw [zaU,if_pos h]; exact zdL (by have:=zbE l 7; omega)
theorem ztG {f:Nat->Int} (h:zeT f):(putFanL f).length=64:=by
 rw [putFanL,if_pos h]; exact zdL (by have:=zb1 f 16; omega)

theorem zpT {X:Int->Prop} {s:StoreT} {top slot:Int} (hp:zbH slot) (h:TreeX X s top):zbA s.ws top slot=0:=by
 obtain ⟨p0,p1,p2⟩:=zj2 hp
 rw [zbA,if_pos hp,if_pos h.et,if_pos (show fanErr s.ws (wb1 s.ws top slot)=0 from h.ek _ p0)]
 exact h.ef _ _ p0 p1

theorem tree_put {X:Int->Prop} {s:StoreT} {top slot:Int} {x:SeatT} (hg:GoodS s) (ht:TreeX X s top) (hp:zbH slot) (hx:za6 x):PutX X s top slot x (putR s top slot x)\/PutNo s (putR s top slot x):=by
 obtain ⟨p0,p1,p2⟩:=zj2 hp
 have hz:=zpT hp ht
 have hsh:=ht.sh
 have hn3:=hg.W.2.1
 have hlf:=qfO s.ws top slot hx
 have hb1:wb1 s.ws top slot=0\/(2 <= wb1 s.ws top slot/\InS s.a.n s.a.w (wb1 s.ws top slot)):=hsh.hk _ p0
 have hb2:wb2 s.ws top slot=0\/(2 <= wb2 s.ws top slot/\InS s.a.n s.a.w (wb2 s.ws top slot)):=hsh.hf _ _ p0 p1
 have z1:wb1 s.ws top slot=0->wb2 s.ws top slot=0:=fun h=>by show fanF s.ws (wb1 s.ws top slot) _=0; rw [h]; rfl
 have z0:top=0->wb1 s.ws top slot=0:=fun h=>by show fanF s.ws top _=0; rw [h]; rfl
 have d21:wb2 s.ws top slot≠0->wb2 s.ws top slot≠wb1 s.ws top slot:=hsh.d3 _ _ _ p0 p1 p0
 have d20:wb2 s.ws top slot≠0->wb2 s.ws top slot≠top:=hsh.d2 _ _ p0 p1
 have d10:wb1 s.ws top slot≠0->wb1 s.ws top slot≠top:=hsh.d1 _ p0
 have e1:put1 s top slot x=layR s (wb2 s.ws top slot) (zaU (zf6 s.ws top slot x)) true:=by rw [put1,decide_eq_true hlf]
 have hR:putR s top slot x=if (put1 s top slot x).e=0 then
    if (put1 s top slot x).at_=wb2 s.ws top slot then zgB s.ws top slot (put1 s top slot x).s (wb1 s.ws top slot)
    else if (put2 s top slot (put1 s top slot x)).e=0 then zgB s.ws top slot (put2 s top slot (put1 s top slot x)).s (put2 s top slot (put1 s top slot x)).at_
    else { s:=(put2 s top slot (put1 s top slot x)).s,at_:=0,e:=(put2 s top slot (put1 s top slot x)).e }
   else { s:=(put1 s top slot x).s,at_:=0,e:=(put1 s top slot x).e }:=by rw [putR,if_pos hx,if_pos hz]
 rw [hR]
 have hS1:=zpD hg (ziW (zf6 s.ws top slot x)) (qa6 hlf) hb2
 rw [<- e1] at hS1
 generalize put1 s top slot x=r1 at hS1 ⊢
 rcases hS1 with S1 | N1
 rotate_left
 ·right
  obtain ⟨n1,n2,n3,_⟩:=N1
  rw [if_neg (by rw [n1]; decide),n2]
  exact { e:=n1,at':=rfl,good:=hg,n:=rfl,c:=rfl,e':=rfl,m:=rfl,lns:=rfl,marks:=fun _ _=>rfl,free:=by omega,free':=n3 }
 have hln1:=S1.lns
 have hlt1:=S1.lt
 have hge1:=S1.ge
 have hlines:=hg.lines
 have k1:zgZ r1.at_ := .inr ⟨S1.ge,by omega⟩
 rw [if_pos S1.e]
 by_cases q1:r1.at_=wb2 s.ws top slot
 ·left
  rw [if_pos q1,zgB,if_pos rfl]
  have g2:2 <= wb2 s.ws top slot:=by omega
  have w2:=(hb2.resolve_left (by omega)).2
  have g1:wb1 s.ws top slot≠0:=fun h=>by have:=z1 h; omega
  have g0:top≠0:=fun h=>g1 (z0 h)
  have hM:Moved (InS s.a.n s.a.w) (InS s.a.n r1.s.a.w) top top (wb1 s.ws top slot) (wb1 s.ws top slot) (wb2 s.ws top slot) (wb2 s.ws top slot) :=
   moved1 g2 (hb1.resolve_left g1).1 (hsh.ht.resolve_left g0).1 w2 (hb1.resolve_left g1).2 (hsh.ht.resolve_left g0).2 (d21 (by omega)) (d20 (by omega)) (d10 g1) (by rw [<- q1]; exact fun c=>(S1.w c).trans (by rw [<- q1]))
  have hV:=zvS S1.ge (by omega) S1.at' hlf
  rw [q1] at hV
  have u:=zkB hln1 (S1.oth (wb1 s.ws top slot) (by rw [q1]; exact (d21 (by omega)).symm))
  have t:=zkB hln1 (S1.oth top (by rw [q1]; exact (d20 (by omega)).symm))
  have F:=qa4 (s':=r1.s) hp ht hln1 S1.n hM hV ⟨by rw [u.1]; exact ht.ek _ p0,fun j hj=>by
   rw [u.2,ziD]; split
   ·rename_i e; rw [e]; rfl
   ·rfl⟩ ⟨by rw [t.1]; exact ht.et,fun i hi=>by
   rw [t.2,setTop]; split
   ·rename_i e; rw [e]; rfl
   ·rfl⟩ (fun c _ _ hc _=>S1.oth c (by rw [q1]; exact hc))
  exact { e:=rfl,good:=S1.good,tree:=F.1,n:=S1.n,c:=S1.c,e':=S1.e',m:=S1.m,lns:=hln1,ge:=(hsh.ht.resolve_left g0).1,seats:=F.2.1,marks:=fun c hc=>zfS S1 hc,free:=by have:=S1.free; show freeN s.a <= freeN r1.s.a+3; omega,w01:=zq3 hM (hb1.imp_right And.left) (hb2.imp_right And.left) (hsh.ht.imp_right And.left),nzK:=F.2.2.1,nzF:=F.2.2.2.1,oth:=F.2.2.2.2 }
 rw [if_neg q1]
 have fr1:¬InS s.a.n (zbY s.a) r1.at_:=S1.kind.resolve_left fun h=>q1 h.1
 have fw1:¬InS s.a.n s.a.w r1.at_:=fun h=>fr1 (inS_held.2 (.inl h))
 have hfn:=qi6 s.ws top slot k1
 have e2:put2 s top slot r1=layR r1.s (wb1 s.ws top slot) (putFanL (ziD s.ws top slot r1.at_)) true:=by rw [put2,decide_eq_true hfn]
 have hb1':wb1 s.ws top slot=0\/(2 <= wb1 s.ws top slot/\InS r1.s.a.n r1.s.a.w (wb1 s.ws top slot)):=by
  rcases hb1 with h | h
  ·exact .inl h
  ·refine .inr ⟨h.1,?_⟩
   rw [S1.n]
   exact (S1.w _).2 (.inr ⟨h.2,fun q=>d21 q.1 q.2.symm⟩)
 have hS2:=zpD S1.good (zeW (ziD s.ws top slot r1.at_)) (ztG hfn) hb1'
 rw [<- e2] at hS2
 generalize put2 s top slot r1=r2 at hS2 ⊢
 rcases hS2 with S2 | N2
 rotate_left
 ·right
  obtain ⟨n1,n2,n3,_⟩:=N2
  rw [if_neg (by rw [n1]; decide),n2]
  exact { e:=n1,at':=rfl,good:=S1.good,n:=S1.n,c:=S1.c,e':=S1.e',m:=S1.m,lns:=hln1,marks:=fun c hc=>zfS S1 hc,free:=by have:=S1.free; omega,free':=n3 }
 have hln2:=S2.lns
 have hlt2:=S2.lt
 have hge2:=S2.ge
 have hn1:=S1.n
 rw [hn1] at hlt2
 have k2:zgZ r2.at_ := .inr ⟨S2.ge,by omega⟩
 have w2:∀c,InS s.a.n r2.s.a.w c ↔ c=r2.at_\/(InS s.a.n r1.s.a.w c/\¬(wb1 s.ws top slot≠0/\c=wb1 s.ws top slot)):=by have:=S2.w; rw [hn1] at this; exact this
 have mk2:∀c,InS s.a.n s.a.m c->zaV r2.s.ws c=zaV s.ws c:=fun c hc=>by
  rw [zfS S2 (by rw [hn1,S1.m]; exact hc),zfS S1 hc]
 have r1b1:wb1 s.ws top slot≠0->r1.at_≠wb1 s.ws top slot:=fun h q=>fw1 (by rw [q]; exact (hb1.resolve_left h).2)
 have r1top:top≠0->r1.at_≠top:=fun h q=>fw1 (by rw [q]; exact (hsh.ht.resolve_left h).2)
 rw [if_pos S2.e]
 by_cases q2:r2.at_=wb1 s.ws top slot
 ·left
  rw [zgB,if_pos q2]
  have g1:wb1 s.ws top slot≠0:=by omega
  have g0:top≠0:=fun h=>g1 (z0 h)
  have hM:Moved (InS s.a.n s.a.w) (InS s.a.n r2.s.a.w) top top (wb1 s.ws top slot) (wb1 s.ws top slot) (wb2 s.ws top slot) r1.at_ :=
   moved2 hge1 (hb1.resolve_left g1).1 (hsh.ht.resolve_left g0).1 fw1 (hb1.resolve_left g1).2 (hsh.ht.resolve_left g0).2 (d10 g1) d21 d20 S1.w (by rw [q2] at w2; exact w2)
  have hV:=zvS (ws:=r2.s.ws) S1.ge (by rw [hln2,hln1]; omega) (by rw [S2.oth _ (by rw [q2]; exact r1b1 g1)]; exact S1.at') hlf
  have hU:=qcD (ws:=r2.s.ws) S2.ge (by rw [hln2,hln1]; omega) S2.at' hfn
  rw [q2] at hU
  have ll:zaV r2.s.ws top=zaV s.ws top:=by rw [S2.oth _ (by rw [q2]; exact (d10 g1).symm),S1.oth _ (r1top g0).symm]
  have t:=zkB (hln2.trans hln1) ll
  have F:=qa4 (s':=r2.s) hp ht (hln2.trans hln1) (S2.n.trans hn1) hM hV hU ⟨by rw [t.1]; exact ht.et,fun i hi=>by
   rw [t.2,setTop]; split
   ·rename_i e; rw [e]; rfl
   ·rfl⟩ (fun c hc c1 _ _=>by rw [S2.oth c (by rw [q2]; exact c1),S1.oth c (fun q=>fw1 (by rw [<- q]; exact hc))])
  exact { e:=rfl,good:=S2.good,tree:=F.1,n:=S2.n.trans hn1,c:=S2.c.trans S1.c,e':=S2.e'.trans S1.e',m:=S2.m.trans S1.m,lns:=hln2.trans hln1,ge:=(hsh.ht.resolve_left g0).1,seats:=F.2.1,marks:=mk2,free:=by have:=S1.free; have:=S2.free; show freeN s.a <= freeN r2.s.a+3; omega,w01:=zq3 hM (hb1.imp_right And.left) (hb2.imp_right And.left) (hsh.ht.imp_right And.left),nzK:=F.2.2.1,nzF:=F.2.2.2.1,oth:=F.2.2.2.2 }
 have fr2:¬InS s.a.n (zbY r1.s.a) r2.at_:=by have:=S2.kind.resolve_left fun h=>q2 h.1; rw [hn1] at this; exact this
 have fw2:¬InS s.a.n s.a.w r2.at_:=fun h=>fr2 (zp5 S1 (inS_held.2 (.inl h)))
 have n12:r1.at_≠r2.at_:=fun q=>fr2 (by rw [<- q]; exact qaC S1)
 have r2top:top≠0->r2.at_≠top:=fun h q=>fw2 (by rw [q]; exact (hsh.ht.resolve_left h).2)
 have htp:=qi2 s.ws top slot k2
 have ht':top=0\/(2 <= top/\InS r2.s.a.n r2.s.a.w top):=by
  rcases hsh.ht with h | h
  ·exact .inl h
  ·refine .inr ⟨h.1,?_⟩
   rw [S2.n,hn1]
   exact (w2 _).2 (.inr ⟨(S1.w _).2 (.inr ⟨h.2,fun q=>d20 q.1 q.2.symm⟩),fun q=>d10 q.1 q.2.symm⟩)
 have e3:zgB s.ws top slot r2.s r2.at_=layR r2.s top (putFanL (setTop s.ws top slot r2.at_)) true:=by rw [zgB,if_neg q2,decide_eq_true htp]
 rw [e3]
 have hS3:=zpD S2.good (zeW (setTop s.ws top slot r2.at_)) (ztG htp) ht'
 generalize layR r2.s top (putFanL (setTop s.ws top slot r2.at_)) true=r3 at hS3 ⊢
 have hn2:r2.s.a.n=s.a.n:=S2.n.trans hn1
 rcases hS3 with S3 | N3
 rotate_left
 ·right
  obtain ⟨n1,n2,n3,n4⟩:=N3
  exact { e:=n1,at':=n4,good:=by rw [n2]; exact S2.good,n:=by rw [n2]; exact hn2,c:=by rw [n2]; exact S2.c.trans S1.c,e':=by rw [n2]; exact S2.e'.trans S1.e',m:=by rw [n2]; exact S2.m.trans S1.m,lns:=by rw [n2]; exact hln2.trans hln1,marks:=fun c hc=>by rw [n2]; exact mk2 c hc,free:=by have:=S1.free; have:=S2.free; omega,free':=by rw [n2]; exact n3 }
 have hln3:=S3.lns
 have hlt3:=S3.lt
 have hge3:=S3.ge
 rw [hn2] at hlt3
 have w3:∀c,InS s.a.n r3.s.a.w c ↔ c=r3.at_\/(InS s.a.n r2.s.a.w c/\¬(top≠0/\c=top)):=by have:=S3.w; rw [hn2] at this; exact this
 left
 have k3:r3.at_=top\/¬InS s.a.n (zbY r2.s.a) r3.at_:=by
  rcases S3.kind with h | h
  ·exact .inl h.1
  ·right; rw [hn2] at h; exact h
 have held2:∀c,InS s.a.n (zbY r1.s.a) c->InS s.a.n (zbY r2.s.a) c:=fun c hc=>by
  have:=zp5 S2 (c:=c) (by rw [hn1]; exact hc)
  rw [hn1] at this; exact this
 have at2:InS s.a.n (zbY r2.s.a) r2.at_:=by have:=qaC S2; rw [hn1] at this; exact this
 have n13:r1.at_≠r3.at_:=fun q=>by
  rcases k3 with h | h
  ·by_cases z:top=0
   ·omega
   ·exact r1top z (by rw [q,h])
  ·exact h (by rw [<- q]; exact held2 _ (qaC S1))
 have n23:r2.at_≠r3.at_:=fun q=>by
  rcases k3 with h | h
  ·by_cases z:top=0
   ·omega
   ·exact r2top z (by rw [q,h])
  ·exact h (by rw [<- q]; exact at2)
 have f3:r3.at_=top\/¬InS s.a.n s.a.w r3.at_:=by
  rcases k3 with h | h
  ·exact .inl h
  ·exact .inr fun k=>h (held2 _ (zp5 S1 (inS_held.2 (.inl k))))
 have hM:Moved (InS s.a.n s.a.w) (InS s.a.n r3.s.a.w) top r3.at_ (wb1 s.ws top slot) r2.at_ (wb2 s.ws top slot) r1.at_ :=
  moved3 hge1 hge2 hge3 fw1 fw2 n12 n13 n23 (hb1.imp_right And.right) (hsh.ht.imp_right And.right) f3 S1.w w2 w3
 have hlnA:za2 r3.s.ws=za2 s.ws:=hln3.trans (hln2.trans hln1)
 have hV:=zvS (ws:=r3.s.ws) S1.ge (by rw [hlnA]; omega) (by rw [S3.oth _ n13,S2.oth _ n12]; exact S1.at') hlf
 have hU:=qcD (ws:=r3.s.ws) S2.ge (by rw [hlnA]; omega) (by rw [S3.oth _ n23]; exact S2.at') hfn
 have hT:=qcD (ws:=r3.s.ws) S3.ge (by rw [hlnA]; omega) S3.at' htp
 have F:=qa4 (s':=r3.s) hp ht hlnA (S3.n.trans hn2) hM hV hU hT (fun c hc c1 c2 c3=>by
  rw [S3.oth c (fun q=>by rcases f3 with h | h; exact c3 (by rw [q,h]); exact h (by rw [<- q]; exact hc)),S2.oth c (fun q=>fw2 (by rw [<- q]; exact hc)),S1.oth c (fun q=>fw1 (by rw [<- q]; exact hc))])
 exact { e:=S3.e,good:=S3.good,tree:=F.1,n:=S3.n.trans hn2,c:=S3.c.trans (S2.c.trans S1.c),e':=S3.e'.trans (S2.e'.trans S1.e'),m:=S3.m.trans (S2.m.trans S1.m),lns:=hlnA,ge:=hge3,seats:=F.2.1,marks:=fun c hc=>(zfS S3 (by rw [hn2,S2.m,S1.m]; exact hc)).trans (mk2 c hc),free:=(by have:=S1.free; have:=S2.free; have:=S3.free; omega),w01:=zq3 hM (hb1.imp_right And.left) (hb2.imp_right And.left) (hsh.ht.imp_right And.left),nzK:=F.2.2.1,nzF:=F.2.2.2.1,oth:=F.2.2.2.2 }

theorem zj7 {n:Nat} {c:Int}:InS n (addL n 0 [0,1]) c ↔ (c=0\/c=1)/\c<(n:Int):=by
 show InS n (add1 n (add1 n 0 0) 1) c ↔ _
 rw [qbZ,qbZ,inS_iff]
 simp only [Nat.zero_testBit,Bool.false_eq_true,and_false,false_or]
 omega
theorem qkX {n:Nat} (h2:2 <= n) (h:n <= 3072):GoodS (zd5 n 0):=by
 have hz:0<2 ^ n:=Nat.pos_of_ne_zero (by simp)
 refine ⟨⟨⟨by show (List.replicate (8*n) 0).length <= _; rw [List.length_replicate]; omega,fun w hw=>by have:w=0:=(List.mem_replicate.1 hw).2; subst this; unfold U64; omega⟩,h,⟨by show (-9223372036854775808:Int) <= 0; omega,by show (0:Int) <= 9223372036854775807; omega⟩,zg3 hz,hz,zg3 hz,zg3 hz⟩,?_,rfl,zj7.2 ⟨.inl rfl,by show (0:Int)<(n:Int); omega⟩,zj7.2 ⟨.inr rfl,by show (1:Int)<(n:Int); omega⟩⟩
 show n <= (List.replicate (8*n) 0).length / 8
 rw [List.length_replicate]; omega
theorem qkW (n:Nat) (r:Int):qn0 (zd5 n r) 0:=by
 refine ⟨Shape.of (.inl rfl) (fun _ _ => .inl rfl) (fun _ _ _ _ => .inl rfl) (fun _ _ h=>absurd rfl h) (fun _ _ _ _ h=>absurd rfl h) (fun _ _ _ _ _ _ h=>absurd rfl h) (fun _ _ _ _ h=>absurd rfl h) (fun _ _ _ _ _ _ _ _ h=>absurd rfl h) (fun c hc=>?_),rfl,fun _ _=>rfl,fun _ _ _ _=>rfl⟩
 have:=(zj7.1 hc).1
 omega
end Yard
