import Derived.Test.YtlihikockhjodaaGreatDoorPutMath

namespace Yard
open Go Go.Sx Go.Proofs
set_option linter.unusedVariables false
set_option linter.unusedSimpArgs false
set_option maxRecDepth 4000

structure Act20 where
 slot:Int
 x:SeatT
 mark:Bool
def qrY (a:Act20):Prop:=I64 a.slot/\zdE a.x
def lastS (l:List Act20) (slot:Int):SeatT:=l.foldl (fun y a=>if a.slot=slot then a.x else y) seatZ
def zmU:Ctr:=zbN Int (fun x=>I64 x) (fun x=>[i64 x]) (fun x => .bool (decide (2 <= x/\x <= 3071)))
def qaL:Ctr:=zbN SeatT zdE (fun x=>[zxL x]) (fun x => .bool (decide (za6 x)))
theorem qqS:(∀(x:Int),
 let q1:Bool:=decide ((2:Int) <= x/\x <= (3071:Int)); -9223372036854775808 <= x/\x <= (9223372036854775807:Int)->BC (decide ((2:Int) <= x)) (Exx Unit fun y=>((decide (x <= (3071:Int))=q1/\True)/\true=true/\True)/\True) (Exx Unit fun y=>((false=q1/\True)/\true=true/\True)/\True))=(fnVC tb [] Tryz.f198 zmU (fun _=>{}) (fun _=>none)):=by kernel_rfl

theorem zn8:SpecOk Tryz.prog 198 (zaA zmU):=by
 refine zaK zaM zaL SPok.nil Tryz.func198 (by decide) (zaO fun _=>rfl) (Eq.mp qqS ?_)
 simp (maxSteps:=10000000) only [std,stdU,stdV,Exx,I64,Nat.reduceMul,Nat.reduceDiv,Nat.reduceAdd,Int.reduceToNat]
 exact fun x _=>⟨fun h=>decide_eq_decide.2 (by omega),fun h=>(decide_eq_false (by omega)).symm⟩

theorem seat09V:(∀(x:SeatT),
 let q1:Prop:=Exx Unit fun y=>((false=decide (za6 x)/\True)/\true=true/\True)/\True; zdE x->BC (decide (x.gen<(0:Int))) q1 (BC (decide ((4294967295:Int)<x.gen)) q1 (BC x.live (BC (decide ((0:Int)<x.gen)) (Exx Int fun x_1=>((Tr 1 (x.next=x_1)/\True)/\true=true/\True)/\(-9223372036854775808 <= x_1/\x_1 <= (9223372036854775807:Int))/\∀(y:Unit),True->Exx Unit fun y=>((decide ((2:Int) <= x_1/\x_1 <= (3071:Int))=decide (za6 x)/\True)/\true=true/\True)/\True) q1) (BC (decide ((0:Int) <= x.next)) (BC (decide (x.next <= (1792:Int))) (BC (!decide (x.gen=(0:Int))) (Exx Unit fun y=>((true=decide (za6 x)/\True)/\true=true/\True)/\True) (Exx Unit fun y=>((decide (x.next=(0:Int))=decide (za6 x)/\True)/\true=true/\True)/\True)) q1) q1))))=(fnVC tb [(198,zaA zmU)] Tryz.f199 qaL (fun _=>{}) (fun _=>none)):=by kernel_rfl

theorem qjB:SpecOk Tryz.prog 199 (zaA qaL):=by
 refine zaK zaM zaL (SPok.cons zn8 SPok.nil) Tryz.func199 (by decide) (zaO fun _=>rfl) (Eq.mp seat09V ?_)
 simp (maxSteps:=10000000) only [std,stdU,stdV,Exx,I64,Nat.reduceMul,Nat.reduceDiv,Nat.reduceAdd,Int.reduceToNat]
 rintro ⟨l,g,n⟩ ⟨⟨h1,h2⟩,h3,h4⟩
 dsimp only at *
 have et:∀g n:Int,za6 ⟨true,g,n⟩ ↔ (1 <= g/\g <= 4294967295/\2 <= n/\n <= 3071):=fun g n=>by simp [za6]
 have ef:∀g n:Int,za6 ⟨false,g,n⟩ ↔ (0 <= g/\g <= 4294967295/\0 <= n/\n <= 1792/\(0<g\/n=0)):=fun g n=>by simp [za6]
 have hno:∀l:Bool,¬(0 <= g/\g <= 4294967295)->false=decide (za6 ⟨l,g,n⟩):=fun l h=>(decide_eq_false (fun k=>by
  cases l
  ·have:=(ef g n).1 k; omega
  ·have:=(et g n).1 k; omega)).symm
 refine ⟨fun h=>hno l (by omega),fun h0=>⟨fun h=>hno l (by omega),fun h5=>⟨fun hl=>?_,fun hl=>?_⟩⟩⟩
 ·subst hl
  exact ⟨fun hg=>⟨h3,h4,decide_eq_decide.2 (by rw [et]; omega)⟩,fun hg=>(decide_eq_false (fun k=>by have:=(et g n).1 k; omega)).symm⟩
 ·subst hl
  exact ⟨fun hn=>⟨fun hn2=>⟨fun hg=>(decide_eq_true ((ef g n).2 (by omega))).symm,fun hg=>decide_eq_decide.2 (by rw [ef]; omega)⟩,fun hn2=>(decide_eq_false (fun k=>by have:=(ef g n).1 k; omega)).symm⟩,fun hn=>(decide_eq_false (fun k=>by have:=(ef g n).1 k; omega)).symm⟩


def znS (s:StoreT):StoreT:={ s with a:=qpX s.a }
theorem qkV {s:StoreT} (h:GoodS s):GoodS (znS s):=⟨⟨h.W.1,qmX h.W.2 2 3⟩,h.lines,h.r0,h.c0,h.c1⟩
theorem qkU {X:Int->Prop} {s:StoreT} {top:Int} (h:TreeX X s top):TreeX X (znS s) top:=⟨h.sh,h.et,h.ek,h.ef⟩
theorem qh2 {X:Int->Prop} {s:StoreT} {top slot:Int} (h:TreeX X s top) (hp:zbH slot):zfQ s.ws top slot=tS s.ws top (placeK slot 0) (placeK slot 1) (placeK slot 2):=by
 rw [zfQ,if_pos (zpT hp h)]; rfl
theorem qj9 {a b:Int} (ha:zbH a) (hb:zbH b) (h:placeK a 0=placeK b 0/\placeK a 1=placeK b 1/\placeK a 2=placeK b 2):a=b:=by
 have:=ha.1
 have:=hb.1
 have e0:placeK a 0=a.toNat / 7 / 16:=by simp [placeK,ha]
 have e1:placeK a 1=a.toNat / 7 % 16:=by simp [placeK,ha]
 have e2:placeK a 2=a.toNat % 7:=by simp [placeK,ha]
 have f0:placeK b 0=b.toNat / 7 / 16:=by simp [placeK,hb]
 have f1:placeK b 1=b.toNat / 7 % 16:=by simp [placeK,hb]
 have f2:placeK b 2=b.toNat % 7:=by simp [placeK,hb]
 omega
def qn1 (s:StoreT) (top:Int) (l:List Act20):Prop:=∀slot,zbH slot->tS s.ws top (placeK slot 0) (placeK slot 1) (placeK slot 2)=lastS l slot
structure Inv (n i:Nat) (s:StoreT) (top:Int) (l:List Act20):Prop where
 good:GoodS s
 tree:qn0 s top
 hn:s.a.n=n
 htop:I64 top
 free:(n:Int)-2 <= freeN s.a+3*i
 seats:qn1 s top l
 acts:∀a∈l,qrY a/\zbH a.slot
 len:l.length <= i
theorem zsZ {X X':Int->Prop} {s0 s':StoreT} {top:Int} (h:TreeX X s0 top) (hs:∀c,InS s0.a.n s0.a.w c->¬X c->zaV s'.ws c=zaV s0.ws c) (hl:za2 s'.ws=za2 s0.ws)
  (hw1:∀c,InS s0.a.n s0.a.w c->¬X c->InS s'.a.n s'.a.w c) (hw2:∀c,InS s'.a.n s'.a.w c->(InS s0.a.n s0.a.w c/\¬X c)\/X' c) (hx:∀c,X' c->2 <= c/\InS s'.a.n s'.a.w c/\(InS s0.a.n s0.a.w c->X c)) :
  TreeX X' s' top/\(∀i,fanF s'.ws top i=fanF s0.ws top i)/\(∀i j,i<16->tF s'.ws top i j=tF s0.ws top i j)/\∀i j k,i<16->j<16->tS s'.ws top i j k=tS s0.ws top i j k:=by
 have g:=h.sh
 have t:fanErr s'.ws top=fanErr s0.ws top/\∀i,fanF s'.ws top i=fanF s0.ws top i:=by
  rcases g.ht with z | z
  ·rw [z]; exact zwB _ _
  ·exact zkB hl (hs _ z.2 fun q=>g.x1 _ q rfl)
 have u:∀i,i<16->fanErr s'.ws (fanF s0.ws top i)=fanErr s0.ws (fanF s0.ws top i)/\∀j,fanF s'.ws (fanF s0.ws top i) j=fanF s0.ws (fanF s0.ws top i) j:=fun i hi=>by
  rcases g.hk i hi with z | z
  ·rw [z]; exact zwB _ _
  ·exact zkB hl (hs _ z.2 fun q=>g.x2 _ i q hi rfl)
 have v:∀i j,i<16->j<16->zbI s'.ws (tF s0.ws top i j)=zbI s0.ws (tF s0.ws top i j)/\∀k,zc6 s'.ws (tF s0.ws top i j) k=zc6 s0.ws (tF s0.ws top i j) k:=fun i j hi hj=>by
  rcases g.hf i j hi hj with z | z
  ·rw [z]; exact zyK _ _
  ·exact zyL hl (hs _ z.2 fun q=>g.x3 _ i j q hi hj rfl)
 have eF:∀i j,i<16->tF s'.ws top i j=tF s0.ws top i j:=fun i j hi=>by
  unfold tF; rw [t.2 i,(u i hi).2 j]
 refine ⟨⟨?_,t.1.trans h.et,fun i hi=>?_,fun i j hi hj=>?_⟩,t.2,eF,fun i j k hi hj=>?_⟩
 ·refine ⟨g.ht.imp_right fun z=>⟨z.1,hw1 _ z.2 fun q=>g.x1 _ q rfl⟩,fun i hi=>?_,fun i j hi hj=>?_,fun i hi=>?_,fun i j hi hj=>?_,fun i j i' hi hj hi'=>?_,fun i i' hi hi'=>?_,fun i j i' j' hi hj hi' hj'=>?_,fun c hc=>?_,fun c hc=>⟨(hx c hc).1,(hx c hc).2.1⟩,fun c hc=>?_,fun c i hc hi=>?_,fun c i j hc hi hj=>?_⟩
  ·rw [t.2]; exact (g.hk i hi).imp_right fun z=>⟨z.1,hw1 _ z.2 fun q=>g.x2 _ i q hi rfl⟩
  ·rw [eF i j hi]; exact (g.hf i j hi hj).imp_right fun z=>⟨z.1,hw1 _ z.2 fun q=>g.x3 _ i j q hi hj rfl⟩
  ·rw [t.2]; exact g.d1 i hi
  ·rw [eF i j hi]; exact g.d2 i j hi hj
  ·rw [eF i j hi,t.2]; exact g.d3 i j i' hi hj hi'
  ·rw [t.2,t.2]; exact g.d4 i i' hi hi'
  ·rw [eF i j hi,eF i' j' hi']; exact g.d5 i j i' j' hi hj hi' hj'
  ·rcases hw2 c hc with ⟨q1,q2⟩ | q
   ·rcases g.exX c q1 with z | z | z | ⟨i,hi,z⟩ | ⟨i,j,hi,hj,z⟩ | z
    ·exact .inl z
    ·exact .inr (.inl z)
    ·exact .inr (.inr (.inl z))
    ·exact .inr (.inr (.inr (.inl ⟨i,hi,by rw [t.2]; exact z⟩)))
    ·exact .inr (.inr (.inr (.inr (.inl ⟨i,j,hi,hj,by rw [eF i j hi]; exact z⟩))))
    ·exact absurd z q2
   ·exact .inr (.inr (.inr (.inr (.inr q))))
  ·intro e
   have k:=hx c hc
   rcases g.ht with z | z
   ·omega
   ·exact g.x1 c (k.2.2 (e ▸ z.2)) e
  ·rw [t.2]; intro e
   have k:=hx c hc
   rcases g.hk i hi with z | z
   ·omega
   ·exact g.x2 c i (k.2.2 (e ▸ z.2)) hi e
  ·rw [eF i j hi]; intro e
   have k:=hx c hc
   rcases g.hf i j hi hj with z | z
   ·omega
   ·exact g.x3 c i j (k.2.2 (e ▸ z.2)) hi hj e
 ·rw [t.2,(u i hi).1]; exact h.ek i hi
 ·rw [eF i j hi,(v i j hi hj).1]; exact h.ef i j hi hj
 ·unfold tS; rw [eF i j hi]; exact (v i j hi hj).2 k
structure Inv0 (n i:Nat) (s:StoreT) (top:Int) (l:List Act20):Prop where
 good:GoodS s
 tree:qn0 s top
 hn:s.a.n=n
 htop:I64 top
 seats:qn1 s top l
 acts:∀a∈l,qrY a/\zbH a.slot
 len:l.length <= i
end Yard
