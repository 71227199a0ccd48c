import Derived.Test.YtlihikockhjodaaGreatDoorPutMath

namespace Yard
open Go Go.Sx Go.Proofs
set_option linter.unusedVariables false
set_option linter.unusedSimpArgs false
set_option maxRecDepth 4000

structure Act20 where
 slot:Int
 x:SeatT
 mark:Bool
def qmU (a:Act20):Prop:=I64 a.slot/\zdZ a.x
def lastS (l:List Act20) (slot:Int):SeatT:=l.foldl (fun y a=>if a.slot=slot then a.x else y) seatZ

def zj7 (s:StoreT):StoreT:={ s with a:=qkO s.a }
theorem qfT {s:StoreT} (h:GoodS s):GoodS (zj7 s):=⟨⟨h.W.1,qhY h.W.2 2 3⟩,h.lines,h.r0,h.c0,h.c1⟩
theorem qfS {X:Int->Prop} {s:StoreT} {top:Int} (h:TreeX X s top):TreeX X (zj7 s) top:=⟨h.sh,h.et,h.ek,h.ef⟩
theorem qdD {X:Int->Prop} {s:StoreT} {top slot:Int} (h:TreeX X s top) (hp:zbC slot):ze6 s.ws top slot=tS s.ws top (placeK slot 0) (placeK slot 1) (placeK slot 2):=by
 rw [ze6,if_pos (znX hp h)]; rfl
theorem qe7 {a b:Int} (ha:zbC a) (hb:zbC b) (h:placeK a 0=placeK b 0/\placeK a 1=placeK b 1/\placeK a 2=placeK b 2):a=b:=by
 have:=ha.1
 have:=hb.1
 have e0:placeK a 0=a.toNat / 7 / 16:=by simp [placeK,ha]
 have e1:placeK a 1=a.toNat / 7 % 16:=by simp [placeK,ha]
 have e2:placeK a 2=a.toNat % 7:=by simp [placeK,ha]
 have f0:placeK b 0=b.toNat / 7 / 16:=by simp [placeK,hb]
 have f1:placeK b 1=b.toNat / 7 % 16:=by simp [placeK,hb]
 have f2:placeK b 2=b.toNat % 7:=by simp [placeK,hb]
 omega
def qi4 (s:StoreT) (top:Int) (l:List Act20):Prop:=∀slot,zbC slot->tS s.ws top (placeK slot 0) (placeK slot 1) (placeK slot 2)=lastS l slot
structure Inv (n i:Nat) (s:StoreT) (top:Int) (l:List Act20):Prop where
 good:GoodS s
 tree:qi3 s top
 hn:s.a.n=n
 htop:I64 top
 free:(n:Int)-2 <= freeN s.a+3*i
 seats:qi4 s top l
 acts:∀a∈l,qmU a/\zbC a.slot
 len:l.length <= i
theorem zqG {X X':Int->Prop} {s0 s':StoreT} {top:Int} (h:TreeX X s0 top) (hs:∀c,InS s0.a.n s0.a.w c->¬X c->zaQ s'.ws c=zaQ s0.ws c) (hl:zaT s'.ws=zaT s0.ws)
  (hw1:∀c,InS s0.a.n s0.a.w c->¬X c->InS s'.a.n s'.a.w c) (hw2:∀c,InS s'.a.n s'.a.w c->(InS s0.a.n s0.a.w c/\¬X c)\/X' c) (hx:∀c,X' c->2 <= c/\InS s'.a.n s'.a.w c/\(InS s0.a.n s0.a.w c->X c)) :
  TreeX X' s' top/\(∀i,fanF s'.ws top i=fanF s0.ws top i)/\(∀i j,i<16->tF s'.ws top i j=tF s0.ws top i j)/\∀i j k,i<16->j<16->tS s'.ws top i j k=tS s0.ws top i j k:=by
 have g:=h.sh
 have t:fanErr s'.ws top=fanErr s0.ws top/\∀i,fanF s'.ws top i=fanF s0.ws top i:=by
  rcases g.ht with z | z
  ·rw [z]; exact zs9 _ _
  ·exact zjF hl (hs _ z.2 fun q=>g.x1 _ q rfl)
 have u:∀i,i<16->fanErr s'.ws (fanF s0.ws top i)=fanErr s0.ws (fanF s0.ws top i)/\∀j,fanF s'.ws (fanF s0.ws top i) j=fanF s0.ws (fanF s0.ws top i) j:=fun i hi=>by
  rcases g.hk i hi with z | z
  ·rw [z]; exact zs9 _ _
  ·exact zjF hl (hs _ z.2 fun q=>g.x2 _ i q hi rfl)
 have v:∀i j,i<16->j<16->zbD s'.ws (tF s0.ws top i j)=zbD s0.ws (tF s0.ws top i j)/\∀k,zcT s'.ws (tF s0.ws top i j) k=zcT s0.ws (tF s0.ws top i j) k:=fun i j hi hj=>by
  rcases g.hf i j hi hj with z | z
  ·rw [z]; exact zu3 _ _
  ·exact zu4 hl (hs _ z.2 fun q=>g.x3 _ i j q hi hj rfl)
 have eF:∀i j,i<16->tF s'.ws top i j=tF s0.ws top i j:=fun i j hi=>by
  unfold tF; rw [t.2 i,(u i hi).2 j]
 refine ⟨⟨?_,t.1.trans h.et,fun i hi=>?_,fun i j hi hj=>?_⟩,t.2,eF,fun i j k hi hj=>?_⟩
 ·refine ⟨g.ht.imp_right fun z=>⟨z.1,hw1 _ z.2 fun q=>g.x1 _ q rfl⟩,fun i hi=>?_,fun i j hi hj=>?_,fun i hi=>?_,fun i j hi hj=>?_,fun i j i' hi hj hi'=>?_,fun i i' hi hi'=>?_,fun i j i' j' hi hj hi' hj'=>?_,fun c hc=>?_,fun c hc=>⟨(hx c hc).1,(hx c hc).2.1⟩,fun c hc=>?_,fun c i hc hi=>?_,fun c i j hc hi hj=>?_⟩
  ·rw [t.2]; exact (g.hk i hi).imp_right fun z=>⟨z.1,hw1 _ z.2 fun q=>g.x2 _ i q hi rfl⟩
  ·rw [eF i j hi]; exact (g.hf i j hi hj).imp_right fun z=>⟨z.1,hw1 _ z.2 fun q=>g.x3 _ i j q hi hj rfl⟩
  ·rw [t.2]; exact g.d1 i hi
  ·rw [eF i j hi]; exact g.d2 i j hi hj
  ·rw [eF i j hi,t.2]; exact g.d3 i j i' hi hj hi'
  ·rw [t.2,t.2]; exact g.d4 i i' hi hi'
  ·rw [eF i j hi,eF i' j' hi']; exact g.d5 i j i' j' hi hj hi' hj'
  ·rcases hw2 c hc with ⟨q1,q2⟩ | q
   ·rcases g.exX c q1 with z | z | z | ⟨i,hi,z⟩ | ⟨i,j,hi,hj,z⟩ | z
    ·exact .inl z
    ·exact .inr (.inl z)
    ·exact .inr (.inr (.inl z))
    ·exact .inr (.inr (.inr (.inl ⟨i,hi,by rw [t.2]; exact z⟩)))
    ·exact .inr (.inr (.inr (.inr (.inl ⟨i,j,hi,hj,by rw [eF i j hi]; exact z⟩))))
    ·exact absurd z q2
   ·exact .inr (.inr (.inr (.inr (.inr q))))
  ·intro e
   have k:=hx c hc
   rcases g.ht with z | z
   ·omega
   ·exact g.x1 c (k.2.2 (e ▸ z.2)) e
  ·rw [t.2]; intro e
   have k:=hx c hc
   rcases g.hk i hi with z | z
   ·omega
   ·exact g.x2 c i (k.2.2 (e ▸ z.2)) hi e
  ·rw [eF i j hi]; intro e
   have k:=hx c hc
   rcases g.hf i j hi hj with z | z
   ·omega
   ·exact g.x3 c i j (k.2.2 (e ▸ z.2)) hi hj e
 ·rw [t.2,(u i hi).1]; exact h.ek i hi
 ·rw [eF i j hi,(v i j hi hj).1]; exact h.ef i j hi hj
 ·unfold tS; rw [eF i j hi]; exact (v i j hi hj).2 k
structure Inv0 (n i:Nat) (s:StoreT) (top:Int) (l:List Act20):Prop where
 good:GoodS s
 tree:qi3 s top
 hn:s.a.n=n
 htop:I64 top
 seats:qi4 s top l
 acts:∀a∈l,qmU a/\zbC a.slot
 len:l.length <= i
end Yard
