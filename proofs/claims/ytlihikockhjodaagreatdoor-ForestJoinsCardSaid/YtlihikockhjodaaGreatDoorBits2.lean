import Derived.Test.YtlihikockhjodaaGreatDoorSxZ
import Derived.Test.YtlihikockhjodaaGreatDoorRef01

namespace Yard
open Go Go.Sx

def zaF (n:Nat):Nat:=(n+63) / 64
def zaX (m j:Nat):Nat:=m / 2 ^ (64*j) % 2 ^ 64
theorem zd2 (m j i:Nat):(zaX m j).testBit i=(decide (i<64)&&m.testBit (64*j+i)):=by
 rw [zaX,Nat.testBit_mod_two_pow,Nat.testBit_div_two_pow,Nat.add_comm i]
theorem zlI (m j:Nat):zaX m j<18446744073709551616:=Nat.mod_lt _ (by decide)
theorem qn6 {m a j:Nat}:zaX (m ||| 2 ^ a) j=if j=a / 64 then zaX m j ||| 2 ^ (a % 64) else zaX m j:=by
 apply Nat.eq_of_testBit_eq
 intro i
 by_cases h:j=a / 64
 ·rw [if_pos h,Nat.testBit_or,zd2,zd2,Nat.testBit_or,Nat.testBit_two_pow,Nat.testBit_two_pow]
  by_cases hi:i<64
  ·have:(a=64*j+i) ↔ (a % 64=i):=by omega
   simp only [hi,decide_true,Bool.true_and,this]
  ·have:¬(a % 64=i):=by omega
   simp [hi,this]
 ·rw [if_neg h,zd2,zd2,Nat.testBit_or,Nat.testBit_two_pow]
  by_cases hi:i<64
  ·have:¬(a=64*j+i):=by omega
   simp [this]
  ·simp [hi]

def clr (m a:Nat):Nat:=m ^^^ (m &&& 2 ^ a)
theorem zlD (m a i:Nat):(clr m a).testBit i=(m.testBit i && !decide (a=i)):=by
 rw [clr,Nat.testBit_xor,Nat.testBit_and,Nat.testBit_two_pow]
 cases m.testBit i <;> cases decide (a=i) <;> rfl
theorem qhV {m a j:Nat}:zaX (clr m a) j=if j=a / 64 then clr (zaX m j) (a % 64) else zaX m j:=by
 apply Nat.eq_of_testBit_eq
 intro i
 by_cases h:j=a / 64
 ·rw [if_pos h,zlD,zd2,zd2,zlD]
  by_cases hi:i<64
  ·have:(a=64*j+i) ↔ (a % 64=i):=by omega
   simp only [hi,decide_true,Bool.true_and,this]
  ·simp [hi]
 ·rw [if_neg h,zd2,zd2,zlD]
  by_cases hi:i<64
  ·have:¬(a=64*j+i):=by omega
   simp [this]
  ·simp [hi]
theorem qmV (w i:Nat):(w / 2 ^ i % 2=1) ↔ w.testBit i=true:=by
 rw [Nat.testBit_eq_decide_div_mod_eq,decide_eq_true_eq]
theorem or_lt {n m a:Nat} (h:m<2 ^ n) (ha:a<n):m ||| 2 ^ a<2 ^ n:=Nat.or_lt_two_pow h (Nat.pow_lt_pow_right (by decide) ha)
theorem qrO {n m a:Nat} (h:m<2 ^ n):clr m a<2 ^ n:=Nat.xor_lt_two_pow h (Nat.lt_of_le_of_lt Nat.and_le_left h)

def inB (n:Nat) (a:Int):Bool:=decide (0 <= a/\a<(n:Int))
def add1 (n m:Nat) (a:Int):Nat:=if inB n a then m ||| 2 ^ a.toNat else m
def drop1 (n m:Nat) (a:Int):Nat:=if inB n a then clr m a.toNat else m
def addL (n m:Nat) (l:List Int):Nat:=l.foldl (add1 n) m
def ziE (n m:Nat) (l:List Int):Nat:=l.foldl (drop1 n) m
def bitsL (n m:Nat):List Nat:=(List.range n).filter m.testBit
def zcU (s:Nat×Nat):List Int:=(bitsL s.1 s.2).map fun i:Nat=>(i:Int)

theorem ztO {w:Nat} (h:w≠0):∃k q,w=2 ^ k*(2*q+1):=by
 induction w using Nat.strongRecOn with
 | _ w ih =>
   by_cases e:w % 2=1
   ·exact ⟨0,w / 2,by omega⟩
   ·obtain ⟨k,q,hk⟩:=ih (w / 2) (by omega) (by omega)
    exact ⟨k+1,q,by rw [Nat.pow_succ,Nat.mul_comm (2 ^ k),Nat.mul_assoc,<- hk]; omega⟩
theorem low_bit {k q i:Nat}:(2 ^ k*(2*q+1)).testBit i=(decide (i=k) || (decide (k<i)&&q.testBit (i-k-1))):=by
 rw [Nat.testBit_two_pow_mul]
 by_cases h:k <= i
 ·by_cases e:i=k
  ·subst e; simp
  ·have:i-k=(i-k-1)+1:=by omega
   rw [this,Nat.testBit_succ]
   simp [e,show k<i by omega,show (2*q+1) / 2=q by omega,h]
 ·simp [h,show ¬i=k by omega,show ¬k<i by omega]

theorem tz_ok:∀k,k<64->tabList.getD (2 ^ k*285870213051353865 % 2 ^ 64 / 2 ^ 58) 0=k:=by decide

def zg6 (n m:Nat):List Nat:=(List.range (zaF n)).map (zaX m)
theorem zuH (n m:Nat):(zg6 n m).length=zaF n:=by simp [zg6]
theorem zpR {n m i:Nat} (h:i<zaF n):(zg6 n m).getD i 0=zaX m i:=by rw [zg6,zfO,if_pos h]
theorem zzQ {n m i:Nat}:i∈bitsL n m ↔ i<n/\m.testBit i=true:=by simp [bitsL]
theorem zn9 (n:Nat):bitsL n 0=[]:=by simp [bitsL]
theorem zmP {n k:Nat} (p:Nat->Bool) (hk:k<n) (hp:p k=true) (hlow:∀i,i<k->p i=false):(List.range n).filter p=k :: (List.range n).filter (fun i=>p i && !decide (k=i)):=by
 have e:n=k+(1+(n-k-1)):=by omega
 rw [e,List.range_add,List.filter_append,List.filter_append,List.range_add,List.map_append,List.filter_append,List.filter_append]
 have h1:(List.range k).filter p=[]:=List.filter_eq_nil_iff.2 fun i hi=>by rw [hlow i (List.mem_range.1 hi)]; simp
 have h2:(List.range k).filter (fun i=>p i && !decide (k=i))=[]:=List.filter_eq_nil_iff.2 fun i hi=>by rw [hlow i (List.mem_range.1 hi)]; simp
 rw [h1,h2]
 simp only [List.nil_append,List.range_succ,List.range_zero,List.map_cons,List.map_nil,Nat.add_zero]
 have h3:[k].filter p=[k]:=by simp [hp]
 have h4:[k].filter (fun i=>p i && !decide (k=i))=[]:=by simp
 rw [h3,h4]
 simp only [List.singleton_append,List.nil_append]
 congr 1
 refine List.filter_congr fun i hi=>?_
 obtain ⟨j,hj,rfl⟩:=List.mem_map.1 hi
 obtain ⟨j',_,rfl⟩:=List.mem_map.1 hj
 have:¬k=k+(1+j'):=by omega
 simp only [decide_eq_false this,Bool.not_false,Bool.and_true]

theorem qd4 {w k q:Nat} (hw:w=2 ^ k*(2*q+1)) (h64:w<2 ^ 64):k<64/\bitsL 64 w=k :: bitsL 64 (clr w k)/\w &&& (w-1)=clr w k/\w &&& (2 ^ 64-w)=2 ^ k:=by
 have hk:k<64:=by
  rcases Nat.lt_or_ge k 64 with h | h
  ·exact h
  ·have h1:2 ^ 64 <= 2 ^ k:=Nat.pow_le_pow_right (by decide) h
   have h2:2 ^ k*1 <= 2 ^ k*(2*q+1):=Nat.mul_le_mul_left _ (by omega)
   omega
 have hb:∀i,w.testBit i=(decide (i=k) || (decide (k<i)&&q.testBit (i-k-1))):=fun i=>by rw [hw,low_bit]
 have hp:0<2 ^ k:=Nat.pos_of_ne_zero (by simp)
 refine ⟨hk,?_,?_,?_⟩
 ·have:=zmP (n:=64) w.testBit hk (by rw [hb]; simp) (fun i hi=>by rw [hb]; simp [show ¬i=k by omega,show ¬k<i by omega])
  rw [bitsL,this,bitsL]
  congr 1
  exact List.filter_congr fun i _=>(zlD w k i).symm
 ·apply Nat.eq_of_testBit_eq
  intro i
  have e:w-1=2 ^ (k+1)*q+(2 ^ k-1):=by
   rw [hw,Nat.pow_succ,Nat.mul_add,Nat.mul_one,Nat.mul_assoc]; omega
  rw [Nat.testBit_and,zlD,hb,e,Nat.testBit_two_pow_mul_add _ (Nat.lt_of_lt_of_le (Nat.sub_lt hp (by decide)) (Nat.pow_le_pow_right (by decide) (by omega)))]
  by_cases h1:i<k+1
  ·rw [if_pos h1,Nat.testBit_two_pow_sub_one]
   by_cases h2:i=k
   ·subst h2; simp
   ·simp [h2,show ¬k<i by omega]
  ·rw [if_neg h1,show i-(k+1)=i-k-1 by omega]
   simp [show ¬i=k by omega,show k<i by omega,show ¬k=i by omega]
 ·apply Nat.eq_of_testBit_eq
  intro i
  have h0:w-1<2 ^ 64:=by omega
  have e:2 ^ 64-w=2 ^ 64-((w-1)+1):=by
   have:0<w:=by rw [hw]; exact Nat.mul_pos hp (by omega)
   omega
  have e2:w-1=2 ^ (k+1)*q+(2 ^ k-1):=by
   rw [hw,Nat.pow_succ,Nat.mul_add,Nat.mul_one,Nat.mul_assoc]; omega
  rw [Nat.testBit_and,hb,e,Nat.testBit_two_pow_sub_succ h0,e2,Nat.testBit_two_pow_mul_add _ (Nat.lt_of_lt_of_le (Nat.sub_lt hp (by decide)) (Nat.pow_le_pow_right (by decide) (by omega))),Nat.testBit_two_pow]
  by_cases h1:i<k+1
  ·rw [if_pos h1,Nat.testBit_two_pow_sub_one]
   by_cases h2:i=k
   ·subst h2; simp [hk]
   ·simp [h2,show ¬k<i by omega,show ¬k=i by omega]
  ·rw [if_neg h1,show i-(k+1)=i-k-1 by omega]
   simp [show ¬i=k by omega,show k<i by omega,show ¬k=i by omega]
   exact fun h _=>h

theorem zuD (m i:Nat):bitsL (64*(i+1)) m=bitsL (64*i) m++(bitsL 64 (zaX m i)).map (64*i + ·):=by
 rw [bitsL,show 64*(i+1)=64*i+64 by omega,List.range_add,List.filter_append,List.filter_map]
 have:(List.range 64).filter (m.testBit ∘ (64*i + ·))=bitsL 64 (zaX m i):=List.filter_congr fun j hj=>by
  rw [zd2,decide_eq_true (List.mem_range.1 hj)]; simp
 rw [this]; rfl
theorem qmU {n k m:Nat} (h:m<2 ^ n) (hk:n <= k):bitsL k m=bitsL n m:=by
 obtain ⟨d,rfl⟩:∃d,k=n+d:=⟨k-n,by omega⟩
 rw [bitsL,List.range_add,List.filter_append,bitsL]
 have:((List.range d).map (n + ·)).filter m.testBit=[]:=List.filter_eq_nil_iff.2 fun j hj=>by
  obtain ⟨i,_,rfl⟩:=List.mem_map.1 hj
  rw [Nat.testBit_lt_two_pow (Nat.lt_of_lt_of_le h (Nat.pow_le_pow_right (by decide) (by omega)))]; simp
 rw [this,List.append_nil]
theorem zr5 {n m:Nat} (h:m<2 ^ n):bitsL (64*zaF n) m=bitsL n m:=qmU h (by unfold zaF; omega)
theorem zmV (n m:Nat):(bitsL n m).length <= n:=by
 have:=List.length_filter_le m.testBit (List.range n)
 simpa [bitsL] using this

end Yard


namespace Yard
open Go Go.Sx Go.Proofs
set_option linter.unusedVariables false
set_option linter.unusedSimpArgs false
set_option maxRecDepth 4000

abbrev zs7 (s:Nat×Nat) (cap:Nat):AH:=[.cells 198 [i64 (s.1:Int),.sl 1 [] 0 1 0 (zaF s.1) cap],.row 111 1 cap (zaF s.1) (fun j=>[u64 (zaX s.2 j)])]
abbrev setO (s:Nat×Nat):Opn:={ tag:=[[(s.1:Int)],[(s.2:Int)]],G:=Nat,fam:=zs7 s,pl:=fun _=>⟨⟨rfl,rfl,trivial⟩,⟨fun _ _=>⟨rfl,trivial⟩,trivial⟩,trivial⟩,nf:=fun _=>rfl,root:=fun _=>rfl }
def setB (s:Nat×Nat):Ob:=(setO s).ob
abbrev setI (s:Nat×Nat):Sx.Item := .obj (setB s)
theorem zaZ {s t:Nat×Nat}:(setB s=setB t) ↔ s=t:=by
 constructor
 ·intro h
  have:=congrArg Ob.tag h
  simp only [setB,Opn.ob,List.cons.injEq,and_true] at this
  exact Prod.ext (Int.ofNat_inj.1 this.1) (Int.ofNat_inj.1 this.2)
 ·intro h; rw [h]
theorem zdI {s t:Nat×Nat}:(setB s=(setO t).ob) ↔ s=t:=zaZ
theorem zcT {s t:Nat×Nat}:((setO s).ob=setB t) ↔ s=t:=zaZ
def SetW (s:Nat×Nat):Prop:=s.1 <= 3072/\s.2<2 ^ s.1
def zgC (args:List AV) (H:AH):List Nat:=match args with
 | .ptr p _ _ :: _=>[p]
 | _=>[]

def zqB (Y:Type) (pre:(Nat×Nat)×Y->Prop) (args:(Nat×Nat)×Y->List AV) (res:(Nat×Nat)×Y->AV):Ctr where
 X:=(Nat×Nat)×Y
 Y:=Unit
 conv:=true
 tau:=zgC
 pre:=fun x=>SetW x.1/\pre x
 args:=fun x => .ptr 0 [] 0 :: args x
 heap:=fun x=>[setI x.1]
 Q:=fun _ _=>True
 res:=fun x _=>res x
 its:=fun x _=>[setI x.1]
 new:=fun _ _=>[]
theorem zjS {Y:Type} {pre:(Nat×Nat)×Y->Prop} {args:(Nat×Nat)×Y->List AV} {res:(Nat×Nat)×Y->AV} (h:∀x,plV 2 (res x)):CtrOk (zqB Y pre args res) :=
 ⟨fun _ _ _ _=>rfl,fun _ _ _ _=>⟨rfl,rfl⟩,fun x _ _ _ _=>⟨⟨⟨trivial,trivial⟩,trivial⟩,h x⟩⟩

def qi3 (args:List AV) (H:AH):List Nat:=match args with
 | .ptr p _ _ :: _=>match H[p]? with
   | some (.cells _ (_ :: .sl q _ _ _ _ _ _ :: _))=>[p,q]
   | _=>[p]
 | _=>[]
def zuS (Y:Type) (pre:(Nat×Nat)×Y->Prop) (args:(Nat×Nat)×Y->List AV) (res:(Nat×Nat)×Y->AV):Ctr where
 X:=Nat×(Nat×Nat)×Y
 Y:=Unit
 conv:=true
 tau:=qi3
 pre:=fun x=>SetW x.2.1/\pre x.2
 args:=fun x => .ptr 0 [] 0 :: args x.2
 heap:=fun x=>zs7 x.2.1 x.1
 Q:=fun _ _=>True
 res:=fun x _=>res x.2
 its:=fun x _=>zs7 x.2.1 x.1
 new:=fun _ _=>[]
theorem setPl (s:Nat×Nat) (cap:Nat):plH (zs7 s cap):=⟨⟨rfl,rfl,trivial⟩,⟨fun _ _=>⟨rfl,trivial⟩,trivial⟩,trivial⟩
theorem zqA {Y:Type} {pre:(Nat×Nat)×Y->Prop} {args:(Nat×Nat)×Y->List AV} {res:(Nat×Nat)×Y->AV} (h:∀x,plV 2 (res x)):CtrOk (zuS Y pre args res) :=
 ⟨fun _ _ _ _=>rfl,fun _ _ _ _=>⟨rfl,rfl⟩,fun x _ _ _ _=>⟨⟨setPl _ _,trivial⟩,h x.2⟩⟩

def inSet (s:Nat×Nat) (at_:Int):Prop:=0 <= at_/\at_<(s.1:Int)
instance (s:Nat×Nat) (at_:Int):Decidable (inSet s at_):=by unfold inSet; infer_instance
def hasN (s:Nat×Nat) (at_:Int):Bool:=decide (inSet s at_)&&s.2.testBit at_.toNat
def zgN:Ctr:=zqB Unit (fun _=>True) (fun _=>[]) (fun x=>i64 (x.1.1:Int))
def zhX:Ctr:=zuS Int (fun x=>I64 x.2) (fun x=>[i64 x.2]) (fun x => .bool (decide (inSet x.1 x.2)))
def znA:Ctr:=zqB Int (fun x=>I64 x.2) (fun x=>[i64 x.2]) (fun x => .bool (hasN x.1 x.2))
def zjR:Ctr:=zuS Int (fun x=>I64 x.2) (fun x=>[i64 x.2]) (fun x => .bool (hasN x.1 x.2))

theorem may_iff {s:Nat×Nat} {a:Int}:(0 <= a->decide (a<(s.1:Int))=decide (inSet s a))/\(¬0 <= a->false=decide (inSet s a)):=by
 unfold inSet
 exact ⟨fun h=>decide_eq_decide.2 (by omega),fun h=>(decide_eq_false (by omega)).symm⟩

theorem qoR:(∀(x:(Nat×Nat)×Unit),
 let q1:Prop:=Tr 1 ((x.1.1:Int)=(x.1.1:Int)); SetW x.1/\True->setB x.1=(setO x.1).ob/\∀(g:Nat),Exx Unit fun y=>Exx Nat fun g_1=>Tr 1 (((198:TypeId)=198/\q1/\(true=true/\zaC/\0=0/\1=1/\0=0/\zaF x.1.1=zaF x.1.1/\g=g_1)/\True)/\((111:TypeId)=111/\1=1/\g=g_1/\zaF x.1.1 <= zaF x.1.1/\∀(i:Nat),
 let q2:List AV:=[AV.int .u64 (↑(zaX x.1.2 i):Int)]; i<zaF x.1.1->q2=q2)/\True)/\((q1/\True)/\(setO x.1).ob=setB x.1/\true=true/\True)/\True)=(zcA tb [] Tryz.f111 zgN (fun _=>{}) (fun _ _ _=>none) (fun x=>[(0,setO x.1)]) (fun x y av H=>[(0,[2],setO x.1)])):=by kernel_rfl

theorem zfT:SpecOk Tryz.prog 111 (zaA zgN):=by
 refine za0 zaM zaL SPok.nil Tryz.func111 (by decide) (zjS fun _=>rfl) (Eq.mp qoR ?_)
 simp (maxSteps:=10000000) only [std,stdU,stdV,Exx,I64,Nat.reduceMul,Nat.reduceDiv,Nat.reduceAdd,Int.reduceToNat,zdI,zcT,zaZ]

theorem qoT:(∀(x:Nat×(Nat×Nat)×Int),
 let q1:Int:=(x.2.1.1:Int);
 let q2:Bool:=decide (inSet x.2.1 x.2.2);
 let q4:Prop:=((198:TypeId)=198/\Tr 1 (q1=q1)/\(true=true/\zaC/\0=0/\1=1/\0=0/\zaF x.2.1.1=zaF x.2.1.1/\x.1=x.1)/\True)/\((111:TypeId)=111/\1=1/\x.1=x.1/\zaF x.2.1.1 <= zaF x.2.1.1/\∀(i:Nat),
 let q3:List AV:=[AV.int .u64 (↑(zaX x.2.1.2 i):Int)]; i<zaF x.2.1.1->q3=q3)/\true=true/\True; SetW x.2.1/\I64 x.2.2->BC (decide ((0:Int) <= x.2.2)) (Exx Unit fun y=>((decide (x.2.2<q1)=q2/\True)/\q4)/\True) (Exx Unit fun y=>((false=q2/\True)/\q4)/\True))=(fnVC tb [] Tryz.f154 zhX (fun _=>{}) (fun _=>none)):=by kernel_rfl

theorem zg9:SpecOk Tryz.prog 154 (zaA zhX):=by
 refine zaK zaM zaL SPok.nil Tryz.func154 (by decide) (zqA fun _=>rfl) (Eq.mp qoT ?_)
 simp (maxSteps:=10000000) only [std,stdU,stdV,Exx,I64,Nat.reduceMul,Nat.reduceDiv,Nat.reduceAdd,Int.reduceToNat]
 exact fun _ _ _ _ _=>may_iff (s:=(_,_))

theorem and1 {w:Nat} (h:w<2 ^ 64):bits .and .u64 (w:Int) 1=((w % 2:Nat):Int):=by
 rw [show (1:Int)=((1:Nat):Int) from rfl,zpM (k := .u64) rfl h (by decide),Nat.and_one_is_mod]
theorem qeH {s:Nat×Nat} {a:Int} (h:inSet s a):decide (bits BinOp.and IntKind.u64 ((zaX s.2 (a.tdiv 64).toNat:Int).fdiv (2 ^ min (a.tmod 64).toNat IntKind.u64.bits)) 1=1)=hasN s a:=by
 have h0:=h
 unfold inSet at h
 obtain ⟨n,rfl⟩:∃n:Nat,a=(n:Int):=⟨a.toNat,by omega⟩
 have e1:((n:Int).tdiv 64).toNat=n / 64:=rfl
 have e2:((n:Int).tmod 64).toNat=n % 64:=rfl
 have h1:=zlI s.2 (n / 64)
 rw [e1,e2,zuR (n:=IntKind.u64.bits) (show n % 64 <= 64 by omega),and1 (Nat.lt_of_le_of_lt (Nat.div_le_self _ _) h1),hasN,decide_eq_true h0,Bool.true_and]
 have:(((zaX s.2 (n / 64) / 2 ^ (n % 64) % 2:Nat):Int)=1) ↔ (zaX s.2 (n / 64)).testBit (n % 64)=true:=by rw [<- qmV]; omega
 have this:decide (((zaX s.2 (n / 64) / 2 ^ (n % 64) % 2:Nat):Int)=1)=(zaX s.2 (n / 64)).testBit (n % 64):=by rw [Bool.eq_iff_iff,decide_eq_true_eq]; exact this
 rw [this,zd2,Int.toNat_natCast]
 have e3:64*(n / 64)+n % 64=n:=by omega
 have e4:n % 64<64:=by omega
 simp [e3,e4]
theorem zhM {s:Nat×Nat} {a:Int} (hs:SetW s) (h:inSet s a):0 <= a.tdiv 64/\a.tdiv 64<(zaF s.1:Int)/\(a.tdiv 64).toNat<zaF s.1/\0 <= a.tmod 64/\-9223372036854775808 <= a.tdiv 64/\a.tdiv 64 <= 9223372036854775807:=by
 unfold inSet at h
 unfold SetW at hs
 obtain ⟨n,rfl⟩:∃n:Nat,a=(n:Int):=⟨a.toNat,by omega⟩
 have e1:(n:Int).tdiv 64=((n / 64:Nat):Int):=rfl
 have e2:(n:Int).tmod 64=((n % 64:Nat):Int):=rfl
 rw [e1,e2]
 unfold zaF
 omega

theorem setHasV:(
 let q1:Prop:=(198:TypeId)=198;
 let q2:Prop:=(111:TypeId)=111; ∀(x:(Nat×Nat)×Int),
 let q3:Nat:=0+(x.2.tdiv 64).toNat;
 let q4:Prop:=(setO x.1).ob=setB x.1/\true=true/\True; SetW x.1/\I64 x.2->setB x.1=(setO x.1).ob/\∀(g:Nat),Exx (Nat×(Nat×Nat)×Int) fun x_1 =>
 let q5:Int:=(x_1.2.1.1:Int); (((true=true/\zaC/\0=0)/\Tr 1 (x.2=x_1.2.2)/\True)/\true=true/\(q1/\Tr 1 ((x.1.1:Int)=q5)/\(true=true/\zaC/\0=0/\1=1/\0=0/\zaF x.1.1=zaF x_1.2.1.1/\g=x_1.1)/\True)/\(q2/\1=1/\g=x_1.1/\zaF x_1.2.1.1 <= zaF x.1.1/\∀(i:Nat),i<zaF x_1.2.1.1->[AV.int .u64 (↑(zaX x.1.2 i):Int)]=[AV.int .u64 (↑(zaX x_1.2.1.2 i):Int)])/\True)/\(SetW x_1.2.1/\I64 x_1.2.2)/\∀(y:Unit),True->BC (decide (inSet x_1.2.1 x_1.2.2)) (64≠(0:Int)/\I64 (x.2.tdiv 64)/\((0:Int) <= x.2.tdiv 64/\x.2.tdiv 64<(↑(zaF x_1.2.1.1):Int))/\q3<zaF x_1.2.1.1/\64≠(0:Int)/\∀(n:Int),n=x.2.tmod 64->(0:Int) <= n/\∀(n_1:Int),n_1=(↑(zaX x_1.2.1.2 q3):Int).fdiv (2 ^ min n.toNat IntKind.u64.bits)->∀(n:Int),n=bits BinOp.and IntKind.u64 n_1 1->Exx Unit fun y=>Exx Nat fun g=>Tr 1 ((q1/\Tr 1 (q5=(x.1.1:Int))/\(true=true/\zaC/\0=0/\1=1/\0=0/\zaF x_1.2.1.1=zaF x.1.1/\x_1.1=g)/\True)/\(q2/\1=1/\x_1.1=g/\zaF x.1.1 <= zaF x_1.2.1.1/\∀(i:Nat),i<zaF x.1.1->[AV.int .u64 (↑(zaX x_1.2.1.2 i):Int)]=[AV.int .u64 (↑(zaX x.1.2 i):Int)])/\True)/\((decide (n=(1:Int))=hasN x.1 x.2/\True)/\q4)/\True) (Exx Unit fun y=>Exx Nat fun g=>Tr 1 ((q1/\Tr 1 (q5=(x.1.1:Int))/\(true=true/\zaC/\0=0/\1=1/\0=0/\zaF x_1.2.1.1=zaF x.1.1/\x_1.1=g)/\True)/\(q2/\1=1/\x_1.1=g/\zaF x.1.1 <= zaF x_1.2.1.1/\∀(i:Nat),i<zaF x.1.1->[AV.int .u64 (↑(zaX x_1.2.1.2 i):Int)]=[AV.int .u64 (↑(zaX x.1.2 i):Int)])/\True)/\((false=hasN x.1 x.2/\True)/\q4)/\True))=(zcA tb [(154,zaA zhX)] Tryz.f135 znA (fun _=>{}) (fun _ _ _=>none) (fun x=>[(0,setO x.1)]) (fun x y av H=>[(0,[2],setO x.1)])):=by kernel_rfl

theorem zlQ:SpecOk Tryz.prog 135 (zaA znA):=by
 refine za0 zaM zaL (SPok.cons zg9 SPok.nil) Tryz.func135 (by decide) (zjS fun _=>rfl) (Eq.mp setHasV ?_)
 simp (maxSteps:=10000000) only [std,stdU,stdV,Exx,I64,Nat.reduceMul,Nat.reduceDiv,Nat.reduceAdd,Int.reduceToNat,zdI,zcT,zaZ]
 rintro n m a ⟨hs,h1,h2⟩ cap
 refine ⟨m,fun _ _=>rfl,hs,h1,h2,fun h=>?_,fun h=>⟨fun _ _=>rfl,?_⟩⟩
 ·obtain ⟨k1,k2,k3,k4,k5,k6⟩:=zhM hs h
  exact ⟨by omega,k5,k6,k1,k2,k3,by omega,k4,fun _ _=>rfl,qeH (s:=(n,m)) h⟩
 ·rw [hasN,decide_eq_false h]; rfl

theorem qoV:(
 let q1:Prop:=(198:TypeId)=198;
 let q2:Prop:=(111:TypeId)=111; ∀(x:Nat×(Nat×Nat)×Int),
 let q3:Int:=(x.2.1.1:Int);
 let q4:Int:=x.2.2.tdiv 64;
 let q5:Nat:=0+q4.toNat;
 let q6:Bool:=hasN x.2.1 x.2.2; SetW x.2.1/\I64 x.2.2->Exx (Nat×(Nat×Nat)×Int) fun x_1 =>
 let q7:Int:=(x_1.2.1.1:Int);
 let q8:Prop:=(q1/\Tr 1 (q7=q3)/\(true=true/\zaC/\0=0/\1=1/\0=0/\zaF x_1.2.1.1=zaF x.2.1.1/\x_1.1=x.1)/\True)/\(q2/\1=1/\x_1.1=x.1/\zaF x.2.1.1 <= zaF x_1.2.1.1/\∀(i:Nat),i<zaF x.2.1.1->[AV.int .u64 (↑(zaX x_1.2.1.2 i):Int)]=[AV.int .u64 (↑(zaX x.2.1.2 i):Int)])/\true=true/\True; (((true=true/\zaC/\0=0)/\Tr 1 (x.2.2=x_1.2.2)/\True)/\true=true/\(q1/\Tr 1 (q3=q7)/\(true=true/\zaC/\0=0/\1=1/\0=0/\zaF x.2.1.1=zaF x_1.2.1.1/\x.1=x_1.1)/\True)/\(q2/\1=1/\x.1=x_1.1/\zaF x_1.2.1.1 <= zaF x.2.1.1/\∀(i:Nat),i<zaF x_1.2.1.1->[AV.int .u64 (↑(zaX x.2.1.2 i):Int)]=[AV.int .u64 (↑(zaX x_1.2.1.2 i):Int)])/\True)/\(SetW x_1.2.1/\I64 x_1.2.2)/\∀(y:Unit),True->BC (decide (inSet x_1.2.1 x_1.2.2)) (64≠(0:Int)/\I64 q4/\((0:Int) <= q4/\q4<(↑(zaF x_1.2.1.1):Int))/\q5<zaF x_1.2.1.1/\64≠(0:Int)/\∀(n:Int),n=x.2.2.tmod 64->(0:Int) <= n/\∀(n_1:Int),n_1=(↑(zaX x_1.2.1.2 q5):Int).fdiv (2 ^ min n.toNat IntKind.u64.bits)->∀(n:Int),n=bits BinOp.and IntKind.u64 n_1 1->Exx Unit fun y=>((decide (n=(1:Int))=q6/\True)/\q8)/\True) (Exx Unit fun y=>((false=q6/\True)/\q8)/\True))=(fnVC tb [(154,zaA zhX)] Tryz.f135 zjR (fun _=>{}) (fun _=>none)):=by kernel_rfl

theorem zjQ:SpecOk Tryz.prog 135 (zaA zjR):=by
 refine zaK zaM zaL (SPok.cons zg9 SPok.nil) Tryz.func135 (by decide) (zqA fun _=>rfl) (Eq.mp qoV ?_)
 simp (maxSteps:=10000000) only [std,stdU,stdV,Exx,I64,Nat.reduceMul,Nat.reduceDiv,Nat.reduceAdd,Int.reduceToNat]
 rintro cap n m a ⟨hs,h1,h2⟩
 refine ⟨m,fun _ _=>rfl,hs,h1,h2,fun h=>?_,fun h=>⟨?_,fun _ _=>rfl⟩⟩
 ·obtain ⟨k1,k2,k3,k4,k5,k6⟩:=zhM hs h
  exact ⟨by omega,k5,k6,k1,k2,k3,by omega,k4,qeH (s:=(n,m)) h,fun _ _=>rfl⟩
 ·rw [hasN,decide_eq_false h]; rfl

abbrev intA (l:List Int):AV := .ro 1 l.length (fun i=>[.int .i64 (l.getD i 0)])
def Ints (l:List Int):Prop:=(∀x∈l,I64 x)/\l.length <= 100000000
def qaJ (g:Nat->Nat->List Int->Nat):Ctr where
 X:=(Nat×Nat)×List Int
 Y:=Unit
 conv:=true
 tau:=zgC
 pre:=fun x=>SetW x.1/\Ints x.2
 args:=fun x=>[.ptr 0 [] 0,intA x.2]
 heap:=fun x=>[setI x.1]
 Q:=fun _ _=>True
 res:=fun x _ => .tup []
 its:=fun x _=>[setI (x.1.1,g x.1.1 x.1.2 x.2)]
 new:=fun _ _=>[]
theorem zs8 (g:Nat->Nat->List Int->Nat):CtrOk (qaJ g) :=
 ⟨fun _ _ _ _=>(rfl:1=1),fun _ _ _ _=>⟨rfl,rfl⟩,fun x _ _ _ _=>⟨⟨⟨trivial,trivial⟩,trivial⟩,trivial⟩⟩
def qdO (g:Nat->Nat->List Int->Nat):Ctr where
 X:=Nat×(Nat×Nat)×List Int
 Y:=Unit
 conv:=true
 tau:=qi3
 pre:=fun x=>SetW x.2.1/\Ints x.2.2
 args:=fun x=>[.ptr 0 [] 0,intA x.2.2]
 heap:=fun x=>zs7 x.2.1 x.1
 Q:=fun _ _=>True
 res:=fun x _ => .tup []
 its:=fun x _=>zs7 (x.2.1.1,g x.2.1.1 x.2.1.2 x.2.2) x.1
 new:=fun _ _=>[]
theorem qaI (g:Nat->Nat->List Int->Nat):CtrOk (qdO g) :=
 ⟨fun _ _ _ _=>(rfl:2=2),fun _ _ _ _=>⟨rfl,rfl⟩,fun x _ _ _ _=>⟨⟨setPl _ _,trivial⟩,trivial⟩⟩
def zkW:Ctr:=qaJ addL
def zhY:Ctr:=qdO addL
def zuU:Ctr:=qaJ ziE

def zuV (g:Nat->Nat->List Int->Nat) (n:Nat) (s:Nat×Nat) (l:List Int) (q:Nat) (H:AH->AH->AH):LA:={ T:=Nat×Nat,F:=fun i=>frm n [(0,.ptr 0 [] 0),(6,intA l),(7,i64 (l.length:Int)),(8,i64 (i.1:Int))],H:=fun i=>H [.cells 198 [i64 (s.1:Int),.sl q [] 0 1 0 (zaF s.1) i.2]] [.row 111 1 i.2 (zaF s.1) (fun j=>[u64 (zaX (g s.1 s.2 (l.take i.1)) j)])] }

theorem zmX {n m:Nat} {l:List Int} {i:Nat} (h:i<l.length):addL n m (l.take (i+1))=add1 n (addL n m (l.take i)) (l.getD i 0):=by
 rw [zc4 0 h]; simp [addL]
theorem zt9 {n m:Nat} {l:List Int} {i:Nat} (h:i<l.length):ziE n m (l.take (i+1))=drop1 n (ziE n m (l.take i)) (l.getD i 0):=by
 rw [zc4 0 h]; simp [ziE]
theorem qnC {n m:Nat} {a:Int} (h:m<2 ^ n):add1 n m a<2 ^ n:=by
 unfold add1 inB
 split
 ·rename_i hb; rw [decide_eq_true_eq] at hb; exact or_lt h (by omega)
 ·exact h
theorem qeR {n m:Nat} {a:Int} (h:m<2 ^ n):drop1 n m a<2 ^ n:=by
 unfold drop1
 split
 ·exact qrO h
 ·exact h
theorem zg3 {n:Nat}:∀{l:List Int} {m:Nat},m<2 ^ n->addL n m l<2 ^ n
 | [],_,h=>h
 | a :: r,m,h=>zg3 (l:=r) (qnC (a:=a) h)
theorem qeQ {n:Nat}:∀{l:List Int} {m:Nat},m<2 ^ n->ziE n m l<2 ^ n
 | [],_,h=>h
 | a :: r,m,h=>qeQ (l:=r) (qeR (a:=a) h)

theorem shl1 {r:Nat} (h:r<64):IntKind.u64.wrap (1*2 ^ min r IntKind.u64.bits)=((2 ^ r:Nat):Int):=by
 have:=qiX (k := .u64) rfl (a:=1) (i:=r) (n:=IntKind.u64.bits) (Nat.le_of_lt h) (by rw [Nat.one_mul]; exact Nat.pow_lt_pow_right (by decide) h)
 rw [Nat.one_mul] at this; exact this
theorem qpK {r:Nat} (h:r<64):2 ^ r<2 ^ IntKind.u64.bits:=Nat.pow_lt_pow_right (by decide) h
theorem qqT {w r:Nat} (hw:w<18446744073709551616) (h:r<64):bits .andNot .u64 (w:Int) ((2 ^ r:Nat):Int)=((clr w r:Nat):Int):=by
 unfold bits
 have e1:(BitVec.ofInt 64 (w:Int)).toNat=w:=zc3 hw
 have e2:(BitVec.ofInt 64 ((2 ^ r:Nat):Int)).toNat=2 ^ r:=zc3 (Nat.pow_lt_pow_right (by decide) h)
 have e3:((BitVec.ofInt 64 (w:Int)) &&& ~~~(BitVec.ofInt 64 ((2 ^ r:Nat):Int))).toNat=clr w r:=by
  apply Nat.eq_of_testBit_eq
  intro i
  rw [BitVec.toNat_and,BitVec.toNat_not,e1,e2,Nat.testBit_and,zlD,show 2 ^ 64-1-2 ^ r=2 ^ 64-(2 ^ r+1) by omega,Nat.testBit_two_pow_sub_succ (Nat.pow_lt_pow_right (by decide) h),Nat.testBit_two_pow]
  by_cases hi:i<64
  ·simp [hi]
  ·have:w.testBit i=false:=Nat.testBit_lt_two_pow (Nat.lt_of_lt_of_le hw (Nat.pow_le_pow_right (n:=2) (by decide) (show 64 <= i by omega)))
   simp [this]
 have e5:=zfK (k := .u64) rfl (qrO (n:=64) (a:=r) hw)
 rw [<- e3] at e5
 exact e5.trans (by rw [e3])

theorem qeX {s:Nat×Nat} {a:Int} (h:inSet s a) (i:Nat):(if i=(a.tdiv 64).toNat then [AV.int IntKind.u64 (bits BinOp.or IntKind.u64 (zaX s.2 (a.tdiv 64).toNat:Int) (IntKind.u64.wrap (1*2 ^ min (a.tmod 64).toNat IntKind.u64.bits)))] else [AV.int IntKind.u64 (zaX s.2 i:Int)])=[AV.int IntKind.u64 ((zaX (add1 s.1 s.2 a) i:Nat):Int)]:=by
 have h0:=h
 unfold inSet at h
 obtain ⟨n,rfl⟩:∃n:Nat,a=(n:Int):=⟨a.toNat,by omega⟩
 have e1:((n:Int).tdiv 64).toNat=n / 64:=rfl
 have e2:((n:Int).tmod 64).toNat=n % 64:=rfl
 have hr:n % 64<64:=Nat.mod_lt _ (by decide)
 have hb:inB s.1 (n:Int)=true:=decide_eq_true h
 rw [e1,e2,shl1 hr,qmR (k := .u64) rfl (zlI _ _) (qpK hr),add1,if_pos hb,Int.toNat_natCast,qn6]
 by_cases e:i=n / 64
 ·subst e; rw [if_pos rfl,if_pos rfl]
 ·rw [if_neg e,if_neg e]
theorem qmD {s:Nat×Nat} {a:Int} (h:inSet s a) (i:Nat):(if i=(a.tdiv 64).toNat then [AV.int IntKind.u64 (bits BinOp.andNot IntKind.u64 (zaX s.2 (a.tdiv 64).toNat:Int) (IntKind.u64.wrap (1*2 ^ min (a.tmod 64).toNat IntKind.u64.bits)))] else [AV.int IntKind.u64 (zaX s.2 i:Int)])=[AV.int IntKind.u64 ((zaX (drop1 s.1 s.2 a) i:Nat):Int)]:=by
 have h0:=h
 unfold inSet at h
 obtain ⟨n,rfl⟩:∃n:Nat,a=(n:Int):=⟨a.toNat,by omega⟩
 have e1:((n:Int).tdiv 64).toNat=n / 64:=rfl
 have e2:((n:Int).tmod 64).toNat=n % 64:=rfl
 have hr:n % 64<64:=Nat.mod_lt _ (by decide)
 have hb:inB s.1 (n:Int)=true:=decide_eq_true h
 rw [e1,e2,shl1 hr,qqT (zlI _ _) hr,drop1,if_pos hb,Int.toNat_natCast,qhV]
 by_cases e:i=n / 64
 ·subst e; rw [if_pos rfl,if_pos rfl]
 ·rw [if_neg e,if_neg e]
theorem qnA {s:Nat×Nat} {a:Int} (h:¬inSet s a):add1 s.1 s.2 a=s.2:=by
 have:inB s.1 a=false:=decide_eq_false h
 rw [add1,this]; rfl
theorem qqK {s:Nat×Nat} {a:Int} (h:¬inSet s a):drop1 s.1 s.2 a=s.2:=by
 have:inB s.1 a=false:=decide_eq_false h
 rw [drop1,this]; rfl

theorem qoX:(
 let q1:Prop:=true=true/\zaC/\0=0;
 let q2:Prop:=(198:TypeId)=198;
 let q3:Prop:=(111:TypeId)=111; ∀(x:Nat×(Nat×Nat)×List Int),
 let q5:Prop:=1=1/\x.2.2.length=x.2.2.length/\∀(i:Nat),
 let q4:List AV:=[AV.int .i64 (x.2.2.getD i 0)]; i<x.2.2.length->q4=q4;
 let q6:Int:=(x.2.2.length:Int);
 let q7:Prop:=Tr 1 (q6=q6);
 let q8:Int:=(x.2.1.1:Int);
 let q9:Prop:=Tr 1 (q8=q8);
 let q10:Nat:=zaF x.2.1.1;
 let q11:Prop:=q10=q10;
 let q12:Prop:=q10 <= q10; SetW x.2.1/\Ints x.2.2->Exx (Nat×Nat->Prop) fun I=>Exx (Nat×Nat->Nat) fun m=>(Exx (Nat×Nat) fun t=>I t/\(q1/\Tr 5 (q5/\q7/\Tr 1 (0=(t.1:Int))/\Tr 20 True))/\(q2/\q9/\(true=true/\zaC/\0=0/\1=1/\0=0/\q11/\x.1=t.2)/\True)/\(q3/\1=1/\x.1=t.2/\q12/\∀(i:Nat),i<q10->[AV.int .u64 (↑(zaX x.2.1.2 i):Int)]=[AV.int .u64 (↑(zaX (addL x.2.1.1 x.2.1.2 (List.take t.1 x.2.2)) i):Int)])/\true=true/\True)/\∀(t:Nat×Nat),
 let q13:Int:=x.2.2.getD (t.1:Int).toNat 0;
 let q14:Int:=q13.tdiv 64;
 let q15:Prop:=(0:Int) <= q14;
 let q16:Nat:=0+q14.toNat;
 let q17:Int:=(t.1:Int)+1;
 let q18:Prop:=I64 q17; I t->BC (decide ((t.1:Int)<q6)) (((0:Int) <= (t.1:Int)/\(t.1:Int)<q6)/\Exx (Nat×(Nat×Nat)×Int) fun x_1 =>
 let q19:Int:=(x_1.2.1.1:Int);
 let q20:Prop:=q15/\q14<(↑(zaF x_1.2.1.1):Int);
 let q21:Prop:=q16<zaF x_1.2.1.1;
 let q22:Prop:=q10 <= zaF x_1.2.1.1; ((q1/\Tr 1 (q13=x_1.2.2)/\True)/\true=true/\(q2/\Tr 1 (q8=q19)/\(true=true/\zaC/\0=0/\1=1/\0=0/\q10=zaF x_1.2.1.1/\t.2=x_1.1)/\True)/\(q3/\1=1/\t.2=x_1.1/\zaF x_1.2.1.1 <= q10/\∀(i:Nat),i<zaF x_1.2.1.1->[AV.int .u64 (↑(zaX (addL x.2.1.1 x.2.1.2 (List.take t.1 x.2.2)) i):Int)]=[AV.int .u64 (↑(zaX x_1.2.1.2 i):Int)])/\True)/\(SetW x_1.2.1/\I64 x_1.2.2)/\∀(y:Unit),True->BC (decide (inSet x_1.2.1 x_1.2.2)) (64≠(0:Int)/\I64 q14/\q20/\q21/\64≠(0:Int)/\∀(n:Int),n=q13.tmod 64->(0:Int) <= n/\∀(n_1:Int),n_1=IntKind.u64.wrap (1*2 ^ min n.toNat IntKind.u64.bits)->∀(n:Int),n=bits BinOp.or IntKind.u64 (↑(zaX x_1.2.1.2 q16):Int) n_1->q20/\q21/\zaF x_1.2.1.1=zaF x_1.2.1.1/\q18/\Exx (Nat×Nat) fun t'=>(I t'/\m t'<m t)/\(q1/\Tr 5 (q5/\q7/\Tr 1 (q17=(↑t'.fst:Int))/\Tr 20 True))/\(q2/\Tr 1 (q19=q8)/\(true=true/\zaC/\0=0/\1=1/\0=0/\zaF x_1.2.1.1=q10/\x_1.1=t'.snd)/\True)/\(q3/\1=1/\x_1.1=t'.snd/\q22/\∀(i:Nat),i<q10->[AV.int .u64 (if i=q16 then n else (↑(zaX x_1.2.1.2 i):Int))]=[AV.int .u64 (↑(zaX (addL x.2.1.1 x.2.1.2 (List.take t'.fst x.2.2)) i):Int)])/\true=true/\True) (q18/\Exx (Nat×Nat) fun t'=>(I t'/\m t'<m t)/\(q1/\Tr 5 (q5/\q7/\Tr 1 (q17=(↑t'.fst:Int))/\Tr 20 True))/\(q2/\Tr 1 (q19=q8)/\(true=true/\zaC/\0=0/\1=1/\0=0/\zaF x_1.2.1.1=q10/\x_1.1=t'.snd)/\True)/\(q3/\1=1/\x_1.1=t'.snd/\q22/\∀(i:Nat),i<q10->[AV.int .u64 (↑(zaX x_1.2.1.2 i):Int)]=[AV.int .u64 (↑(zaX (addL x.2.1.1 x.2.1.2 (List.take t'.fst x.2.2)) i):Int)])/\true=true/\True)) (Exx Unit fun y=>(Tr 1 True/\(q2/\q9/\(true=true/\zaC/\0=0/\1=1/\0=0/\q11/\t.2=x.1)/\True)/\(q3/\1=1/\t.2=x.1/\q12/\∀(i:Nat),i<q10->[AV.int .u64 (↑(zaX (addL x.2.1.1 x.2.1.2 (List.take t.1 x.2.2)) i):Int)]=[AV.int .u64 (↑(zaX (addL x.2.1.1 x.2.1.2 x.2.2) i):Int)])/\true=true/\True)/\True))=(fnVC tb [(154,zaA zhX)] Tryz.f112 zhY (fun x=>{ loops:=[(1,zuV addL 29 x.2.1 x.2.2 1 (fun a b=>a++b++[.fence]))],loose:=[(4,[1])] }) (fun _=>none)):=by kernel_rfl

theorem zhB:SpecOk Tryz.prog 112 (zaA zhY):=by
 refine zaK zaM zaL (SPok.cons zg9 SPok.nil) Tryz.func112 (by decide) (qaI _) (Eq.mp qoX ?_)
 simp (maxSteps:=10000000) only [std,stdU,stdV,Exx,I64,Nat.reduceMul,Nat.reduceDiv,Nat.reduceAdd,Int.reduceToNat]
 rintro cap n m l ⟨hs,hl,hlen⟩
 refine ⟨fun s=>s.1 <= l.length/\s.2=cap,⟨0,cap,⟨by simp,rfl⟩,rfl,rfl,rfl,fun _ _=>rfl⟩,fun s=>l.length-s.1,?_⟩
 rintro i cap' ⟨hi,hc⟩
 simp only at hi hc
 subst hc
 have hi64:I64 (l.getD i 0):=getD_mem (p:=I64) hl (by unfold I64; omega) i
 have hs':SetW (n,addL n m (l.take i)):=⟨hs.1,zg3 hs.2⟩
 refine ⟨fun hlt=>⟨by omega,by omega,addL n m (l.take i),fun _ _=>rfl,hs',hi64.1,hi64.2,fun h=>?_,fun h=>⟨by omega,by omega,i+1,_,⟨by simp only; omega,rfl⟩,by simp only; omega,by omega,rfl,rfl,fun j _=>?_⟩⟩,fun hge=>?_⟩
 ·obtain ⟨k1,k2,k3,k4,k5,k6⟩:=zhM hs' h
  refine ⟨by omega,k5,k6,k1,k2,k3,by omega,k4,k1,k2,k3,by omega,by omega,i+1,_,⟨by simp only; omega,rfl⟩,by simp only; omega,by omega,rfl,rfl,fun j _=>?_⟩
  rw [zmX (by omega)]; exact qeX (s:=(n,addL n m (l.take i))) h j
 ·rw [zmX (by omega),qnA (s:=(n,addL n m (l.take i))) h]
 ·rw [show i=l.length by omega,List.take_length]
  exact ⟨rfl,rfl,fun _ _=>rfl⟩

theorem setAddV:(
 let q1:Prop:=true=true/\zaC/\0=0;
 let q2:Prop:=(198:TypeId)=198;
 let q3:Prop:=(111:TypeId)=111; ∀(x:(Nat×Nat)×List Int),
 let q5:Prop:=1=1/\x.2.length=x.2.length/\∀(i:Nat),
 let q4:List AV:=[AV.int .i64 (x.2.getD i 0)]; i<x.2.length->q4=q4;
 let q6:Prop:=Tr 1 ((x.2.length:Int)=(x.2.length:Int));
 let q7:Prop:=Tr 1 ((x.1.1:Int)=(x.1.1:Int));
 let q8:Prop:=zaF x.1.1=zaF x.1.1;
 let q9:Prop:=zaF x.1.1 <= zaF x.1.1;
 let q10:Nat:=addL x.1.1 x.1.2 x.2;
 let q11:Nat×Nat:=(x.1.1,q10); SetW x.1/\Ints x.2->setB x.1=(setO x.1).ob/\∀(g:Nat),Exx (Nat×Nat->Prop) fun I=>Exx (Nat×Nat->Nat) fun m=>(Exx (Nat×Nat) fun t=>I t/\(q1/\Tr 5 (q5/\q6/\Tr 1 (0=(t.1:Int))/\Tr 20 True))/\(q2/\q7/\(true=true/\zaC/\0=0/\1=1/\0=0/\q8/\g=t.2)/\True)/\true=true/\(q3/\1=1/\g=t.2/\q9/\∀(i:Nat),i<zaF x.1.1->[AV.int .u64 (↑(zaX x.1.2 i):Int)]=[AV.int .u64 (↑(zaX (addL x.1.1 x.1.2 (List.take t.1 x.2)) i):Int)])/\True)/\∀(t:Nat×Nat),
 let q12:Prop:=(t.1:Int)<(x.2.length:Int);
 let q13:Int:=x.2.getD (t.1:Int).toNat 0;
 let q14:Int:=q13.tdiv 64;
 let q15:Prop:=(0:Int) <= q14;
 let q16:Nat:=0+q14.toNat;
 let q17:Int:=(t.1:Int)+1;
 let q18:Prop:=I64 q17; I t->BC (decide q12) (((0:Int) <= (t.1:Int)/\q12)/\Exx (Nat×(Nat×Nat)×Int) fun x_1 =>
 let q19:Int:=(x_1.2.1.1:Int);
 let q20:Prop:=q15/\q14<(↑(zaF x_1.2.1.1):Int);
 let q21:Prop:=q16<zaF x_1.2.1.1;
 let q22:Prop:=zaF x.1.1 <= zaF x_1.2.1.1; ((q1/\Tr 1 (q13=x_1.2.2)/\True)/\true=true/\(q2/\Tr 1 ((x.1.1:Int)=q19)/\(true=true/\zaC/\0=0/\1=1/\0=0/\zaF x.1.1=zaF x_1.2.1.1/\t.2=x_1.1)/\True)/\(q3/\1=1/\t.2=x_1.1/\zaF x_1.2.1.1 <= zaF x.1.1/\∀(i:Nat),i<zaF x_1.2.1.1->[AV.int .u64 (↑(zaX (addL x.1.1 x.1.2 (List.take t.1 x.2)) i):Int)]=[AV.int .u64 (↑(zaX x_1.2.1.2 i):Int)])/\True)/\(SetW x_1.2.1/\I64 x_1.2.2)/\∀(y:Unit),True->BC (decide (inSet x_1.2.1 x_1.2.2)) (64≠(0:Int)/\I64 q14/\q20/\q21/\64≠(0:Int)/\∀(n:Int),n=q13.tmod 64->(0:Int) <= n/\∀(n_1:Int),n_1=IntKind.u64.wrap (1*2 ^ min n.toNat IntKind.u64.bits)->∀(n:Int),n=bits BinOp.or IntKind.u64 (↑(zaX x_1.2.1.2 q16):Int) n_1->q20/\q21/\zaF x_1.2.1.1=zaF x_1.2.1.1/\q18/\Exx (Nat×Nat) fun t'=>(I t'/\m t'<m t)/\(q1/\Tr 5 (q5/\q6/\Tr 1 (q17=(↑t'.fst:Int))/\Tr 20 True))/\(q2/\Tr 1 (q19=(x.1.1:Int))/\(true=true/\zaC/\0=0/\1=1/\0=0/\zaF x_1.2.1.1=zaF x.1.1/\x_1.1=t'.snd)/\True)/\true=true/\(q3/\1=1/\x_1.1=t'.snd/\q22/\∀(i:Nat),i<zaF x.1.1->[AV.int .u64 (if i=q16 then n else (↑(zaX x_1.2.1.2 i):Int))]=[AV.int .u64 (↑(zaX (addL x.1.1 x.1.2 (List.take t'.fst x.2)) i):Int)])/\True) (q18/\Exx (Nat×Nat) fun t'=>(I t'/\m t'<m t)/\(q1/\Tr 5 (q5/\q6/\Tr 1 (q17=(↑t'.fst:Int))/\Tr 20 True))/\(q2/\Tr 1 (q19=(x.1.1:Int))/\(true=true/\zaC/\0=0/\1=1/\0=0/\zaF x_1.2.1.1=zaF x.1.1/\x_1.1=t'.snd)/\True)/\true=true/\(q3/\1=1/\x_1.1=t'.snd/\q22/\∀(i:Nat),i<zaF x.1.1->[AV.int .u64 (↑(zaX x_1.2.1.2 i):Int)]=[AV.int .u64 (↑(zaX (addL x.1.1 x.1.2 (List.take t'.fst x.2)) i):Int)])/\True)) (Exx Unit fun y=>Exx Nat fun g=>Tr 1 ((q2/\q7/\(true=true/\zaC/\0=0/\1=1/\0=0/\q8/\t.2=g)/\True)/\(q3/\1=1/\t.2=g/\q9/\∀(i:Nat),i<zaF x.1.1->[AV.int .u64 (↑(zaX (addL x.1.1 x.1.2 (List.take t.1 x.2)) i):Int)]=[AV.int .u64 (↑(zaX q10 i):Int)])/\True)/\(Tr 1 True/\(setO q11).ob=setB q11/\true=true/\True)/\True))=(zcA tb [(154,zaA zhX)] Tryz.f112 zkW (fun x=>{ loops:=[(1,zuV addL 29 x.1 x.2 2 (fun a b=>a++[.fence]++b))],loose:=[(4,[2])] }) (fun _ _ _=>none) (fun x=>[(0,setO x.1)]) (fun x y av H=>[(0,[2],setO (x.1.1,addL x.1.1 x.1.2 x.2))])):=by kernel_rfl

theorem ziR:SpecOk Tryz.prog 112 (zaA zkW):=by
 refine za0 zaM zaL (SPok.cons zg9 SPok.nil) Tryz.func112 (by decide) (zs8 _) (Eq.mp setAddV ?_)
 simp (maxSteps:=10000000) only [std,stdU,stdV,Exx,I64,Nat.reduceMul,Nat.reduceDiv,Nat.reduceAdd,Int.reduceToNat,zdI,zcT,zaZ]
 rintro n m l ⟨hs,hl,hlen⟩ cap
 refine ⟨fun s=>s.1 <= l.length/\s.2=cap,⟨0,cap,⟨by simp,rfl⟩,rfl,rfl,rfl,fun _ _=>rfl⟩,fun s=>l.length-s.1,?_⟩
 rintro i cap' ⟨hi,hc⟩
 simp only at hi hc
 subst hc
 have hi64:I64 (l.getD i 0):=getD_mem (p:=I64) hl (by unfold I64; omega) i
 have hs':SetW (n,addL n m (l.take i)):=⟨hs.1,zg3 hs.2⟩
 refine ⟨fun hlt=>⟨by omega,by omega,addL n m (l.take i),fun _ _=>rfl,hs',hi64.1,hi64.2,fun h=>?_,fun h=>⟨by omega,by omega,i+1,_,⟨by simp only; omega,rfl⟩,by simp only; omega,by omega,rfl,rfl,fun j _=>?_⟩⟩,fun hge=>?_⟩
 ·obtain ⟨k1,k2,k3,k4,k5,k6⟩:=zhM hs' h
  refine ⟨by omega,k5,k6,k1,k2,k3,by omega,k4,k1,k2,k3,by omega,by omega,i+1,_,⟨by simp only; omega,rfl⟩,by simp only; omega,by omega,rfl,rfl,fun j _=>?_⟩
  rw [zmX (by omega)]; exact qeX (s:=(n,addL n m (l.take i))) h j
 ·rw [zmX (by omega),qnA (s:=(n,addL n m (l.take i))) h]
 ·rw [show i=l.length by omega,List.take_length]
  exact fun _ _=>rfl

theorem qoW:(
 let q1:Prop:=true=true/\zaC/\0=0;
 let q2:Prop:=(198:TypeId)=198;
 let q3:Prop:=(111:TypeId)=111; ∀(x:(Nat×Nat)×List Int),
 let q5:Prop:=1=1/\x.2.length=x.2.length/\∀(i:Nat),
 let q4:List AV:=[AV.int .i64 (x.2.getD i 0)]; i<x.2.length->q4=q4;
 let q6:Prop:=Tr 1 ((x.2.length:Int)=(x.2.length:Int));
 let q7:Prop:=Tr 1 ((x.1.1:Int)=(x.1.1:Int));
 let q8:Prop:=zaF x.1.1=zaF x.1.1;
 let q9:Prop:=zaF x.1.1 <= zaF x.1.1;
 let q10:Nat:=ziE x.1.1 x.1.2 x.2;
 let q11:Nat×Nat:=(x.1.1,q10); SetW x.1/\Ints x.2->setB x.1=(setO x.1).ob/\∀(g:Nat),Exx (Nat×Nat->Prop) fun I=>Exx (Nat×Nat->Nat) fun m=>(Exx (Nat×Nat) fun t=>I t/\(q1/\Tr 5 (q5/\q6/\Tr 1 (0=(t.1:Int))/\Tr 20 True))/\(q2/\q7/\(true=true/\zaC/\0=0/\1=1/\0=0/\q8/\g=t.2)/\True)/\true=true/\(q3/\1=1/\g=t.2/\q9/\∀(i:Nat),i<zaF x.1.1->[AV.int .u64 (↑(zaX x.1.2 i):Int)]=[AV.int .u64 (↑(zaX (ziE x.1.1 x.1.2 (List.take t.1 x.2)) i):Int)])/\True)/\∀(t:Nat×Nat),
 let q12:Prop:=(t.1:Int)<(x.2.length:Int);
 let q13:Int:=x.2.getD (t.1:Int).toNat 0;
 let q14:Int:=q13.tdiv 64;
 let q15:Prop:=(0:Int) <= q14;
 let q16:Nat:=0+q14.toNat;
 let q17:Int:=(t.1:Int)+1;
 let q18:Prop:=I64 q17; I t->BC (decide q12) (((0:Int) <= (t.1:Int)/\q12)/\Exx (Nat×(Nat×Nat)×Int) fun x_1 =>
 let q19:Int:=(x_1.2.1.1:Int);
 let q20:Prop:=q15/\q14<(↑(zaF x_1.2.1.1):Int);
 let q21:Prop:=q16<zaF x_1.2.1.1;
 let q22:Prop:=zaF x.1.1 <= zaF x_1.2.1.1; ((q1/\Tr 1 (q13=x_1.2.2)/\True)/\true=true/\(q2/\Tr 1 ((x.1.1:Int)=q19)/\(true=true/\zaC/\0=0/\1=1/\0=0/\zaF x.1.1=zaF x_1.2.1.1/\t.2=x_1.1)/\True)/\(q3/\1=1/\t.2=x_1.1/\zaF x_1.2.1.1 <= zaF x.1.1/\∀(i:Nat),i<zaF x_1.2.1.1->[AV.int .u64 (↑(zaX (ziE x.1.1 x.1.2 (List.take t.1 x.2)) i):Int)]=[AV.int .u64 (↑(zaX x_1.2.1.2 i):Int)])/\True)/\(SetW x_1.2.1/\I64 x_1.2.2)/\∀(y:Unit),True->BC (decide (inSet x_1.2.1 x_1.2.2)) (64≠(0:Int)/\I64 q14/\q20/\q21/\64≠(0:Int)/\∀(n:Int),n=q13.tmod 64->(0:Int) <= n/\∀(n_1:Int),n_1=IntKind.u64.wrap (1*2 ^ min n.toNat IntKind.u64.bits)->∀(n:Int),n=bits BinOp.andNot IntKind.u64 (↑(zaX x_1.2.1.2 q16):Int) n_1->q20/\q21/\zaF x_1.2.1.1=zaF x_1.2.1.1/\q18/\Exx (Nat×Nat) fun t'=>(I t'/\m t'<m t)/\(q1/\Tr 5 (q5/\q6/\Tr 1 (q17=(↑t'.fst:Int))/\Tr 20 True))/\(q2/\Tr 1 (q19=(x.1.1:Int))/\(true=true/\zaC/\0=0/\1=1/\0=0/\zaF x_1.2.1.1=zaF x.1.1/\x_1.1=t'.snd)/\True)/\true=true/\(q3/\1=1/\x_1.1=t'.snd/\q22/\∀(i:Nat),i<zaF x.1.1->[AV.int .u64 (if i=q16 then n else (↑(zaX x_1.2.1.2 i):Int))]=[AV.int .u64 (↑(zaX (ziE x.1.1 x.1.2 (List.take t'.fst x.2)) i):Int)])/\True) (q18/\Exx (Nat×Nat) fun t'=>(I t'/\m t'<m t)/\(q1/\Tr 5 (q5/\q6/\Tr 1 (q17=(↑t'.fst:Int))/\Tr 20 True))/\(q2/\Tr 1 (q19=(x.1.1:Int))/\(true=true/\zaC/\0=0/\1=1/\0=0/\zaF x_1.2.1.1=zaF x.1.1/\x_1.1=t'.snd)/\True)/\true=true/\(q3/\1=1/\x_1.1=t'.snd/\q22/\∀(i:Nat),i<zaF x.1.1->[AV.int .u64 (↑(zaX x_1.2.1.2 i):Int)]=[AV.int .u64 (↑(zaX (ziE x.1.1 x.1.2 (List.take t'.fst x.2)) i):Int)])/\True)) (Exx Unit fun y=>Exx Nat fun g=>Tr 1 ((q2/\q7/\(true=true/\zaC/\0=0/\1=1/\0=0/\q8/\t.2=g)/\True)/\(q3/\1=1/\t.2=g/\q9/\∀(i:Nat),i<zaF x.1.1->[AV.int .u64 (↑(zaX (ziE x.1.1 x.1.2 (List.take t.1 x.2)) i):Int)]=[AV.int .u64 (↑(zaX q10 i):Int)])/\True)/\(Tr 1 True/\(setO q11).ob=setB q11/\true=true/\True)/\True))=(zcA tb [(154,zaA zhX)] Tryz.f136 zuU (fun x=>{ loops:=[(1,zuV ziE 29 x.1 x.2 2 (fun a b=>a++[.fence]++b))],loose:=[(4,[2])] }) (fun _ _ _=>none) (fun x=>[(0,setO x.1)]) (fun x y av H=>[(0,[2],setO (x.1.1,ziE x.1.1 x.1.2 x.2))])):=by kernel_rfl

theorem qfP:SpecOk Tryz.prog 136 (zaA zuU):=by
 refine za0 zaM zaL (SPok.cons zg9 SPok.nil) Tryz.func136 (by decide) (zs8 _) (Eq.mp qoW ?_)
 simp (maxSteps:=10000000) only [std,stdU,stdV,Exx,I64,Nat.reduceMul,Nat.reduceDiv,Nat.reduceAdd,Int.reduceToNat,zdI,zcT,zaZ]
 rintro n m l ⟨hs,hl,hlen⟩ cap
 refine ⟨fun s=>s.1 <= l.length/\s.2=cap,⟨0,cap,⟨by simp,rfl⟩,rfl,rfl,rfl,fun _ _=>rfl⟩,fun s=>l.length-s.1,?_⟩
 rintro i cap' ⟨hi,hc⟩
 simp only at hi hc
 subst hc
 have hi64:I64 (l.getD i 0):=getD_mem (p:=I64) hl (by unfold I64; omega) i
 have hs':SetW (n,ziE n m (l.take i)):=⟨hs.1,qeQ hs.2⟩
 refine ⟨fun hlt=>⟨by omega,by omega,ziE n m (l.take i),fun _ _=>rfl,hs',hi64.1,hi64.2,fun h=>?_,fun h=>⟨by omega,by omega,i+1,_,⟨by simp only; omega,rfl⟩,by simp only; omega,by omega,rfl,rfl,fun j _=>?_⟩⟩,fun hge=>?_⟩
 ·obtain ⟨k1,k2,k3,k4,k5,k6⟩:=zhM hs' h
  refine ⟨by omega,k5,k6,k1,k2,k3,by omega,k4,k1,k2,k3,by omega,by omega,i+1,_,⟨by simp only; omega,rfl⟩,by simp only; omega,by omega,rfl,rfl,fun j _=>?_⟩
  rw [zt9 (by omega)]; exact qmD (s:=(n,ziE n m (l.take i))) h j
 ·rw [zt9 (by omega),qqK (s:=(n,ziE n m (l.take i))) h]
 ·rw [show i=l.length by omega,List.take_length]
  exact fun _ _=>rfl

def zcB (n:Int):Nat:=(min (max n 0) 3072).toNat
def qi5 (X:Type) (pre:X->Prop) (args:X->List AV) (s:X->Nat×Nat):Ctr where
 X:=X
 Y:=Unit
 conv:=true
 tau:=fun _ _=>[]
 pre:=pre
 args:=args
 heap:=fun _=>[]
 Q:=fun _ _=>True
 res:=fun x _ => .ptr 1 [] 0
 its:=fun _ _=>[]
 new:=fun x _=>[setI (s x)]
theorem qfN {X:Type} {pre:X->Prop} {args:X->List AV} {s:X->Nat×Nat}:CtrOk (qi5 X pre args s) :=
 ⟨fun _ _ _ _=>rfl,fun _ _ _ _=>⟨rfl,rfl⟩,fun x _ _ _ _=>⟨⟨trivial,⟨trivial,trivial⟩⟩,rfl⟩⟩
def qi4:Ctr:=qi5 (Int×List Int) (fun x=>I64 x.1/\Ints x.2) (fun x=>[i64 x.1,intA x.2]) (fun x=>(zcB x.1,addL (zcB x.1) 0 x.2))

theorem setOfV:(
 let q1:Prop:=true=true/\zaC/\0=0;
 let q2:Prop:=(111:TypeId)=111; ∀(x:Int×List Int),
 let q3:Int:=min (max x.1 0) 3072;
 let q4:Int:=q3+64;
 let q5:Int:=q4-1;
 let q6:Int:=q5.tdiv 64;
 let q7:Nat:=q6.toNat;
 let q8:Nat:=addL (zcB x.1) 0 x.2;
 let q9:Nat×Nat:=(zcB x.1,q8); I64 x.1/\Ints x.2->I64 q4/\I64 q5/\64≠(0:Int)/\I64 q6/\((0:Int) <= q6/\q6 <= q6/\(↑(8:Nat):Int)*q6 <= (281474976710656:Int)/\q6 <= (9223372036854775807:Int))/\Exx (Nat×(Nat×Nat)×List Int) fun x_1 =>
 let q10:Int:=(x_1.2.1.1:Int);
 let q11:Nat:=zaF x_1.2.1.1; ((q1/\(x.2.length=x_1.2.2.length/\∀(i:Nat),i<x_1.2.2.length->[AV.int .i64 (x.2.getD i 0)]=[AV.int .i64 (x_1.2.2.getD i 0)])/\True)/\true=true/\(198=(198:TypeId)/\Tr 1 (q3=q10)/\(true=true/\zaC/\0=0/\1=1/\0=0/\q7=q11/\q7=x_1.1)/\True)/\(q2/\1=1/\q7=x_1.1/\q11 <= q7/\∀(i:Nat),i<q11->[AV.int .u64 0]=[AV.int .u64 (↑(zaX x_1.2.1.2 i):Int)])/\True)/\(SetW x_1.2.1/\Ints x_1.2.2)/\∀(y:Unit),True->Exx Unit fun y=>Exx Nat fun g=>Tr 1 (((198:TypeId)=198/\Tr 1 (q10=(↑(zcB x.1):Int))/\(true=true/\zaC/\0=0/\1=1/\0=0/\q11=zaF (zcB x.1)/\x_1.1=g)/\True)/\(q2/\1=1/\x_1.1=g/\zaF (zcB x.1) <= q11/\∀(i:Nat),i<zaF (zcB x.1)->[AV.int .u64 (↑(zaX (addL x_1.2.1.1 x_1.2.1.2 x_1.2.2) i):Int)]=[AV.int .u64 (↑(zaX q8 i):Int)])/\True)/\((q1/\True)/\true=true/\(setO q9).ob=setB q9/\True)/\True)=(zcA tb [(112,zdF (zaA zkW) (zaA zhY))] Tryz.f78 qi4 (fun _=>{}) (fun _ _ _=>some [some 0,some 2]) (fun _=>[]) (fun x y av H=>[(2,[1],setO (zcB x.1,addL (zcB x.1) 0 x.2))])):=by kernel_rfl

theorem qoS:SpecOk Tryz.prog 78 (zaA qi4):=by
 refine za0 zaM zaL (SPok.cons (zbR ziR zhB) SPok.nil) Tryz.func78 (by decide) qfN (Eq.mp setOfV ?_)
 simp (maxSteps:=10000000) only [std,stdU,stdV,Exx,I64,Nat.reduceMul,Nat.reduceDiv,Nat.reduceAdd,Int.reduceToNat,zdI,zcT,zaZ]
 rintro n l ⟨h1,h2,hl⟩
 have hc:min (max n 0) 3072=((zcB n:Nat):Int):=by unfold zcB; omega
 have hcl:zcB n <= 3072:=by unfold zcB; omega
 have e:((zcB n:Nat):Int)+64-1=((zcB n+63:Nat):Int):=by omega
 have e2:((zcB n+63:Nat):Int).tdiv 64=((zaF (zcB n):Nat):Int):=rfl
 have hw:zaF (zcB n) <= 100:=by unfold zaF; omega
 rw [hc,e,e2]
 repeat refine And.intro (by omega) ?_
 exact ⟨zaF (zcB n),zcB n,rfl,rfl,rfl,rfl,Nat.le_refl _,0,fun i _=>by simp [zaX],⟨hcl,Nat.pos_of_ne_zero (by simp)⟩,hl,rfl,rfl,Nat.le_refl _,fun _ _=>rfl⟩

def gapF (s:Nat×Nat):Nat->Nat->Int
 | 0,_=>-1
 | k+1,a=>if a<s.1 then if s.2.testBit a then gapF s k (a+1) else (a:Int) else -1
def gapN (s:Nat×Nat) (a:Int):Int:=gapF s (s.1+1) a.toNat
theorem zy3 (s:Nat×Nat):∀k a:Nat,s.1<a+k->gapF s (k+1) a=gapF s k a
 | 0,a,h=>by simp [gapF]; omega
 | k+1,a,h=>by
   have ih:=zy3 s k (a+1) (by omega)
   conv=>lhs; unfold gapF
   conv=>rhs; unfold gapF
   rw [ih]
theorem qqF {s:Nat×Nat} {a:Nat} (h:a<s.1):gapF s (s.1+1) a=if s.2.testBit a then gapF s (s.1+1) (a+1) else (a:Int):=by
 rw [gapF,if_pos h,<- zy3 s s.1 (a+1) (by omega)]
theorem gap_end {s:Nat×Nat} {a:Nat} (h:¬a<s.1):gapF s (s.1+1) a = -1:=by rw [gapF,if_neg h]

def zuT:Ctr:=zqB Int (fun x=>I64 x.2) (fun x=>[i64 x.2]) (fun x=>i64 (gapN x.1 x.2))
def gapLA (x:(Nat×Nat)×Int):LA:={ T:=Nat×Nat,F:=fun s=>frm 21 [(0,.ptr 0 [] 0),(5,i64 (s.1:Int))],H:=fun s=>[.cells 198 [i64 (x.1.1:Int),.sl 2 [] 0 1 0 (zaF x.1.1) s.2],.fence,.row 111 1 s.2 (zaF x.1.1) (fun j=>[u64 (zaX x.1.2 j)])] }

theorem setGapV:(
 let q1:Prop:=true=true/\zaC/\0=0;
 let q2:Prop:=(198:TypeId)=198;
 let q3:Prop:=(111:TypeId)=111; ∀(x:(Nat×Nat)×Int),
 let q4:Prop:=Tr 1 ((x.1.1:Int)=(x.1.1:Int));
 let q5:Prop:=zaF x.1.1=zaF x.1.1;
 let q7:Prop:=zaF x.1.1 <= zaF x.1.1/\∀(i:Nat),
 let q6:List AV:=[AV.int .u64 (↑(zaX x.1.2 i):Int)]; i<zaF x.1.1->q6=q6;
 let q8:Prop:=(setO x.1).ob=setB x.1/\true=true/\True; SetW x.1/\I64 x.2->setB x.1=(setO x.1).ob/\∀(g:Nat),Exx (Nat×Nat->Prop) fun I=>Exx (Nat×Nat->Nat) fun m=>(Exx (Nat×Nat) fun t=>I t/\(q1/\Tr 4 (Tr 1 (max x.2 0=(t.1:Int))/\Tr 15 True))/\(q2/\q4/\(true=true/\zaC/\0=0/\1=1/\0=0/\q5/\g=t.2)/\True)/\true=true/\(q3/\1=1/\g=t.2/\q7)/\True)/\∀(t:Nat×Nat),
 let q9:Int:=(t.1:Int)+1; I t->BC (decide ((t.1:Int)<(x.1.1:Int))) (Exx (Nat×(Nat×Nat)×Int) fun x_1 =>
 let q10:Int:=(x_1.2.1.1:Int);
 let q11:Prop:=Tr 1 (q10=(x.1.1:Int));
 let q12:Prop:=zaF x_1.2.1.1=zaF x.1.1;
 let q13:Prop:=zaF x.1.1 <= zaF x_1.2.1.1/\∀(i:Nat),i<zaF x.1.1->[AV.int .u64 (↑(zaX x_1.2.1.2 i):Int)]=[AV.int .u64 (↑(zaX x.1.2 i):Int)]; ((q1/\Tr 1 ((t.1:Int)=x_1.2.2)/\True)/\true=true/\(q2/\Tr 1 ((x.1.1:Int)=q10)/\(true=true/\zaC/\0=0/\1=1/\0=0/\zaF x.1.1=zaF x_1.2.1.1/\t.2=x_1.1)/\True)/\(q3/\1=1/\t.2=x_1.1/\zaF x_1.2.1.1 <= zaF x.1.1/\∀(i:Nat),i<zaF x_1.2.1.1->[AV.int .u64 (↑(zaX x.1.2 i):Int)]=[AV.int .u64 (↑(zaX x_1.2.1.2 i):Int)])/\True)/\(SetW x_1.2.1/\I64 x_1.2.2)/\∀(y:Unit),True->BC (!hasN x_1.2.1 x_1.2.2) (Exx Unit fun y=>Exx Nat fun g=>Tr 1 ((q2/\q11/\(true=true/\zaC/\0=0/\1=1/\0=0/\q12/\x_1.1=g)/\True)/\(q3/\1=1/\x_1.1=g/\q13)/\True)/\((Tr 1 ((t.1:Int)=gapN x.1 x.2)/\True)/\q8)/\True) (I64 q9/\Exx (Nat×Nat) fun t'=>(I t'/\m t'<m t)/\(q1/\Tr 4 (Tr 1 (q9=(↑t'.fst:Int))/\Tr 15 True))/\(q2/\q11/\(true=true/\zaC/\0=0/\1=1/\0=0/\q12/\x_1.1=t'.snd)/\True)/\true=true/\(q3/\1=1/\x_1.1=t'.snd/\q13)/\True)) (Exx Unit fun y=>Exx Nat fun g=>Tr 1 ((q2/\q4/\(true=true/\zaC/\0=0/\1=1/\0=0/\q5/\t.2=g)/\True)/\(q3/\1=1/\t.2=g/\q7)/\True)/\((Tr 1 (-1=gapN x.1 x.2)/\True)/\q8)/\True))=(zcA tb [(135,zdF (zaA znA) (zaA zjR))] Tryz.f115 zuT (fun x=>{ loops:=[(2,gapLA x)] }) (fun _ _ _=>none) (fun x=>[(0,setO x.1)]) (fun x y av H=>[(0,[2],setO x.1)])):=by kernel_rfl

theorem zxJ:SpecOk Tryz.prog 115 (zaA zuT):=by
 refine za0 zaM zaL (SPok.cons (zbR zlQ zjQ) SPok.nil) Tryz.func115 (by decide) (zjS fun _=>rfl) (Eq.mp setGapV ?_)
 simp (maxSteps:=10000000) only [std,stdU,stdV,Exx,I64,Nat.reduceMul,Nat.reduceDiv,Nat.reduceAdd,Int.reduceToNat,zdI,zcT,zaZ]
 rintro n m a ⟨hs,h1,h2⟩ cap
 have hn:=hs.1
 simp only at hn
 refine ⟨fun s=>gapF (n,m) (n+1) s.1=gapN (n,m) a/\s.1 <= 9223372036854775807/\s.2=cap,⟨a.toNat,cap,⟨rfl,by simp only; omega,rfl⟩,by omega,rfl,rfl⟩,fun s=>n-s.1,?_⟩
 rintro k cap' ⟨hk,hk2,hc⟩
 simp only at hk hk2 hc
 subst hc
 refine ⟨fun hlt=>?_,fun hge=>by rw [<- hk,gap_end (s:=(n,m)) (by simp only; omega)]⟩
 have hin:inSet (n,m) (k:Int):=⟨by omega,hlt⟩
 have hh:hasN (n,m) (k:Int)=m.testBit k:=by rw [hasN,decide_eq_true hin]; rfl
 have hst:=qqF (s:=(n,m)) (a:=k) (by simp only; omega)
 simp only at hst
 refine ⟨m,fun _ _=>rfl,hs,by omega,by omega,fun h=>⟨fun _ _=>rfl,?_⟩,fun h=>⟨by omega,by omega,k+1,cap',⟨?_,by simp only; omega,rfl⟩,by simp only; omega,by omega,rfl,rfl,fun _ _=>rfl⟩⟩
 ·rw [hh] at h; rw [h] at hst; rw [<- hk,hst]; rfl
 ·rw [hh] at h; rw [h] at hst; rw [<- hk,hst]; rfl

def zr1:Ctr:=rowC (List Nat) (fun l=>l.length <= 100000000) (fun l=>[qgK .u64 l]) 111 .u64 (fun l=>l) (fun _ r=>r)

theorem qmP:(∀(x:List Nat),
 let q1:Nat:=0+x.length; x.length <= 100000000->∀(b:Bool),(x.length≠0->b=false)->BC b (Exx Nat fun y=>(((x.length=0/\y=0)/\True)/\true=true/\(y=0/\x.length=0)/\True)/\x.length <= y) (true=true/\(0 <= 0/\0=0)/\(q1 <= 9223372036854775807/\q1*8 <= 140737488355328)/\∀(cap:Nat),q1 <= cap/\cap <= 9223372036854775807->Exx Nat fun y=>(((true=true/\zaC/\0=0/\1=1/\0=0/\q1=x.length/\cap=y)/\True)/\true=true/\((111:TypeId)=111/\1=1/\cap=y/\x.length <= q1/\∀(i:Nat),i<x.length->(if i<0 then [] else [AV.int .u64 (↑(x.getD (i-0) 0):Int)])=[AV.int .u64 (↑(x.getD i 0):Int)])/\True)/\x.length <= y))=(fnVC tb [] Tryz.f200 zr1 (fun _=>{}) (fun _=>none)):=by kernel_rfl

theorem qcN:SpecOk Tryz.prog 200 (zaA zr1):=by
 refine zaK zaM zaL SPok.nil Tryz.func200 (by decide) (zgW fun _ _ _=>rfl) (Eq.mp qmP ?_)
 simp (maxSteps:=10000000) only [std,stdU,stdV,Exx,I64,Nat.reduceMul,Nat.reduceDiv,Nat.reduceAdd,Int.reduceToNat]
 intro l hl b hb
 refine ⟨fun h=>?_,fun h=>⟨by omega,by omega,fun cap hc=>hc.1⟩⟩
 have:l.length=0:=by
  rcases Nat.eq_zero_or_pos l.length with k | k
  ·exact k
  ·rw [hb (by omega)] at h; cases h
 omega

def zhA:Ctr where
 X:=Nat×Nat
 Y:=Unit
 conv:=true
 tau:=zgC
 pre:=SetW
 args:=fun _=>[.ptr 0 [] 0]
 heap:=fun s=>[setI s]
 Q:=fun _ _=>True
 res:=fun _ _ => .ptr 2 [] 0
 its:=fun s _=>[setI s]
 new:=fun s _=>[setI s]
theorem zoK:CtrOk zhA :=
 ⟨fun _ _ _ _=>(rfl:1=1),fun _ _ _ _=>⟨rfl,rfl⟩,fun x _ _ _ _=>⟨⟨⟨trivial,trivial⟩,⟨trivial,trivial⟩⟩,rfl⟩⟩

theorem qi8:(
 let q1:Prop:=(111:TypeId)=111; ∀(x:Nat×Nat),
 let q2:Prop:=Tr 1 ((x.1:Int)=(x.1:Int)); SetW x->setB x=(setO x).ob/\∀(g:Nat),
 let q3:Prop:=Exx (List Nat) fun x_1=>(((0+zaF x.1 <= zaF x.1/\zaF x.1=x_1.length/\∀(i:Nat),i<x_1.length->[AV.int .u64 (↑(zaX x.2 (0+i)):Int)]=[AV.int .u64 (↑(x_1.getD i 0):Int)])/\True)/\true=true/\True)/\x_1.length <= 100000000/\∀(y:Nat),x_1.length <= y->Exx Unit fun y_1=>Exx Nat fun g_1=>Tr 1 (((198:TypeId)=198/\q2/\(true=true/\zaC/\0=0/\1=1/\0=0/\zaF x.1=zaF x.1/\g=g_1)/\True)/\(q1/\1=1/\g=g_1/\zaF x.1 <= zaF x.1/\∀(i:Nat),i<zaF x.1->[AV.int .u64 (↑(zaX x.2 i):Int)]=[AV.int .u64 (↑(zaX x.2 i):Int)])/\True)/\Exx Nat fun g=>Tr 1 ((198=(198:TypeId)/\q2/\(true=true/\zaC/\0=0/\1=1/\0=0/\x_1.length=zaF x.1/\y=g)/\True)/\(q1/\1=1/\y=g/\zaF x.1 <= x_1.length/\∀(i:Nat),i<zaF x.1->[AV.int .u64 (↑(x_1.getD i 0):Int)]=[AV.int .u64 (↑(zaX x.2 i):Int)])/\True)/\(((true=true/\zaC/\0=0)/\True)/\(setO x).ob=setB x/\true=true/\(setO x).ob=setB x/\True)/\True; q3/\q3/\q3)=(zcA tb [(200,zaA zr1)] Tryz.f178 zhA (fun x=>{ loose:=[(1,[0,2])] }) (fun _ _ _=>some [some 0,some 1,some 4]) (fun x=>[(0,setO x)]) (fun x y av H=>[(0,[2],setO x),(4,[3],setO x)])):=by kernel_rfl

theorem zqC:SpecOk Tryz.prog 178 (zaA zhA):=by
 refine za0 zaM zaL (SPok.cons qcN SPok.nil) Tryz.func178 (by decide) zoK (Eq.mp qi8 ?_)
 simp (maxSteps:=10000000) only [std,stdU,stdV,Exx,I64,Nat.reduceMul,Nat.reduceDiv,Nat.reduceAdd,Int.reduceToNat,zdI,zcT,zaZ]
 rintro n m hs
 have w1:=zuH n m
 have hw:zaF n <= 100:=by have:=hs.1; simp only at this; unfold zaF; omega
 have key:=fun (y:Nat) (hy:(zg6 n m).length <= y)=>(⟨w1,by omega,fun i hi=>by rw [zpR hi]⟩:(zg6 n m).length=zaF n/\zaF n <= (zg6 n m).length/\∀i:Nat,i<zaF n->[AV.int IntKind.u64 (((zg6 n m).getD i 0:Nat):Int)]=[AV.int IntKind.u64 ((zaX m i:Nat):Int)])
 have key2:∀i:Nat,i<(zg6 n m).length->[AV.int IntKind.u64 ((zaX m i:Nat):Int)]=[AV.int IntKind.u64 (((zg6 n m).getD i 0:Nat):Int)]:=fun i hi=>by rw [zpR (by omega)]
 exact ⟨⟨zg6 n m,w1.symm,key2,by omega,key⟩,⟨zg6 n m,w1.symm,key2,by omega,key⟩,zg6 n m,w1.symm,key2,by omega,key⟩

def tau2 (args:List AV) (H:AH):List Nat:=match args with
 | .ptr p _ _ :: .ptr q _ _ :: _=>[p,q]
 | _=>[]

theorem zsC {c x A M lo hi:Nat} (hA:A<2 ^ c) (hx:x=lo+2 ^ c*hi) (hlo:lo<2 ^ c):x &&& (A+2 ^ c*M)=(lo &&& A)+2 ^ c*(hi &&& M):=by
 have hp:0<2 ^ c:=Nat.pos_of_ne_zero (by simp)
 have e:=Nat.div_add_mod (x &&& (A+2 ^ c*M)) (2 ^ c)
 rw [Nat.and_div_two_pow,Nat.and_mod_two_pow] at e
 have e1:x % 2 ^ c=lo:=by rw [hx,Nat.add_mul_mod_self_left,Nat.mod_eq_of_lt hlo]
 have e2:x / 2 ^ c=hi:=by rw [hx,Nat.add_mul_div_left _ _ hp,Nat.div_eq_of_lt hlo,Nat.zero_add]
 have e3:(A+2 ^ c*M) % 2 ^ c=A:=by rw [Nat.add_mul_mod_self_left,Nat.mod_eq_of_lt hA]
 have e4:(A+2 ^ c*M) / 2 ^ c=M:=by rw [Nat.add_mul_div_left _ _ hp,Nat.div_eq_of_lt hA,Nat.zero_add]
 rw [e1,e2,e3,e4] at e
 omega

def zdC (A:Nat):Nat->Nat
 | 0=>0
 | k+1=>A+256*zdC A k
def popA (k x:Nat):Nat:=(x / 2 &&& zdC 85 k)+(x &&& zdC 85 k)
def popB (k x:Nat):Nat:=(x / 4 &&& zdC 51 k)+(x &&& zdC 51 k)
def popD (k x:Nat):Nat:=(x / 16+x) &&& zdC 15 k
def popO (x:Nat):Nat:=(x / 2 &&& 85)+(x &&& 85)
def popP (x:Nat):Nat:=(x / 4 &&& 51)+(x &&& 51)
def pop8 (x:Nat):Nat:=(List.range 8).countP x.testBit
theorem zx5 (k:Nat) {lo hi:Nat} (h:lo<256):popA (k+1) (lo+256*hi)=popO lo+256*popA k hi:=by
 have h0:∀lo,lo<256->∀b,b<2->(lo / 2+128*b) &&& 85=lo / 2 &&& 85:=by decide +kernel
 have e1:=zsC (c:=8) (x:=(lo+256*hi) / 2) (A:=85) (M:=zdC 85 k) (lo:=lo / 2+128*(hi % 2)) (hi:=hi / 2) (by decide) (by omega) (by omega)
 have e2:=zsC (c:=8) (x:=lo+256*hi) (A:=85) (M:=zdC 85 k) (lo:=lo) (hi:=hi) (by decide) rfl h
 rw [h0 lo h _ (Nat.mod_lt _ (by decide))] at e1
 simp only [Nat.reducePow] at e1 e2
 rw [popA,zdC,e1,e2,popO,popA]; omega
theorem zx4 (k:Nat) {lo hi:Nat} (h:lo<256):popB (k+1) (lo+256*hi)=popP lo+256*popB k hi:=by
 have h0:∀lo,lo<256->∀b,b<4->(lo / 4+64*b) &&& 51=lo / 4 &&& 51:=by decide +kernel
 have e1:=zsC (c:=8) (x:=(lo+256*hi) / 4) (A:=51) (M:=zdC 51 k) (lo:=lo / 4+64*(hi % 4)) (hi:=hi / 4) (by decide) (by omega) (by omega)
 have e2:=zsC (c:=8) (x:=lo+256*hi) (A:=51) (M:=zdC 51 k) (lo:=lo) (hi:=hi) (by decide) rfl h
 rw [h0 lo h _ (Nat.mod_lt _ (by decide))] at e1
 simp only [Nat.reducePow] at e1 e2
 rw [popB,zdC,e1,e2,popP,popB]; omega
theorem qj5 (k:Nat) {lo hi:Nat} (h:lo % 16 <= 4/\lo / 16 <= 4) (h2:hi % 16 <= 4):popD (k+1) (lo+256*hi)=(lo / 16+lo % 16)+256*popD k hi:=by
 have h0:∀a,a<256->a &&& 15=a % 16:=fun a _=>Nat.and_two_pow_sub_one_eq_mod a 4
 have e1:=zsC (c:=8) (x:=(lo+256*hi) / 16+(lo+256*hi)) (A:=15) (M:=zdC 15 k) (lo:=lo / 16+lo+16*(hi % 16)) (hi:=hi / 16+hi) (by decide) (by omega) (by omega)
 rw [h0 _ (by omega)] at e1
 simp only [Nat.reducePow] at e1
 rw [popD,zdC,e1,popD]; omega
theorem qj4:∀lo,lo<256->popO lo<256:=by decide +kernel
theorem qbC:∀lo,lo<256->(popP (popO lo) % 16 <= 4/\popP (popO lo) / 16 <= 4)/\popP (popO lo) / 16+popP (popO lo) % 16=pop8 lo:=by decide +kernel
def popU (k x:Nat):Nat:=popB k (popA k x)
theorem qpM:∀(k x:Nat),popU k x % 16 <= 4
 | 0,x=>by simp [popU,popB,zdC]
 | k+1,x=>by
   have hx:x=x % 256+256*(x / 256):=by omega
   have hl:x % 256<256:=Nat.mod_lt _ (by decide)
   rw [popU,hx,zx5 k hl,zx4 k (qj4 _ hl)]
   have:=(qbC _ hl).1.1
   omega
theorem qj3 (k:Nat) {lo hi:Nat} (h:lo<256):popD (k+1) (popU (k+1) (lo+256*hi))=pop8 lo+256*popD k (popU k hi):=by
 have e:popU (k+1) (lo+256*hi)=popP (popO lo)+256*popU k hi:=by
  rw [popU,zx5 k h,zx4 k (qj4 _ h)]; rfl
 rw [e,qj5 k (qbC _ h).1 (qpM k hi),(qbC _ h).2]
theorem ziX (x:Nat):pop8 x <= 8:=by
 have:=List.countP_le_length (p:=x.testBit) (l:=List.range 8)
 simpa [pop8] using this

def popN (w:Nat):Nat:=(bitsL 64 w).length
theorem qqQ (n:Nat) {lo hi:Nat} (h:lo<256):(List.range (8+n)).countP (lo+256*hi).testBit=pop8 lo+(List.range n).countP hi.testBit:=by
 rw [List.range_add,List.countP_append,List.countP_map]
 have hb:∀i,(lo+256*hi).testBit i=if i<8 then lo.testBit i else hi.testBit (i-8):=fun i=>by
  rw [show lo+256*hi=2 ^ 8*hi+lo by omega,Nat.testBit_two_pow_mul_add hi (show lo<2 ^ 8 from h)]
 congr 1
 ·exact List.countP_congr fun i hi'=>by rw [hb,if_pos (List.mem_range.1 hi')]
 ·exact List.countP_congr fun i _=>by
   show (lo+256*hi).testBit (8+i)=true ↔ _
   rw [hb,if_neg (by omega),show 8+i-8=i by omega]
theorem qpO {w:Nat} (hw:w<18446744073709551616):∃p0 p1 p2 p3 p4 p5 p6 p7,p0 <= 8/\p1 <= 8/\p2 <= 8/\p3 <= 8/\p4 <= 8/\p5 <= 8/\p6 <= 8/\p7 <= 8 /\
  popD 8 (popU 8 w)=p0+256*(p1+256*(p2+256*(p3+256*(p4+256*(p5+256*(p6+256*p7))))))/\popN w=p0+(p1+(p2+(p3+(p4+(p5+(p6+p7)))))):=by
 have st:∀(k x:Nat),popD (k+1) (popU (k+1) x)=pop8 (x % 256)+256*popD k (popU k (x / 256)):=fun k x=>by
  have:=qj3 k (lo:=x % 256) (hi:=x / 256) (Nat.mod_lt _ (by decide))
  rwa [show x % 256+256*(x / 256)=x by omega] at this
 have sc:∀(n x:Nat),(List.range (8+n)).countP x.testBit=pop8 (x % 256)+(List.range n).countP (x / 256).testBit:=fun n x=>by
  have:=qqQ n (lo:=x % 256) (hi:=x / 256) (Nat.mod_lt _ (by decide))
  rwa [show x % 256+256*(x / 256)=x by omega] at this
 have z:∀x,popD 0 (popU 0 x)=0:=fun x=>by simp [popD,zdC]
 refine ⟨_,_,_,_,_,_,_,_,ziX (w % 256),ziX (w / 256 % 256),ziX (w / 256 / 256 % 256),ziX (w / 256 / 256 / 256 % 256),ziX (w / 256 / 256 / 256 / 256 % 256),ziX (w / 256 / 256 / 256 / 256 / 256 % 256),ziX (w / 256 / 256 / 256 / 256 / 256 / 256 % 256),ziX (w / 256 / 256 / 256 / 256 / 256 / 256 / 256 % 256),?_,?_⟩
 ·rw [st 7,st 6,st 5,st 4,st 3,st 2,st 1,st 0,z,Nat.mul_zero,Nat.add_zero]
 ·have:popN w=(List.range 64).countP w.testBit:=by rw [popN,bitsL,List.countP_eq_length_filter]
  rw [this,sc 56,sc 48,sc 40,sc 32,sc 24,sc 16,sc 8,sc 0]
  simp
theorem mask5:zdC 85 8=6148914691236517205:=by decide
theorem mask3:zdC 51 8=3689348814741910323:=by decide
theorem mask0:zdC 15 8=1085102592571150095:=by decide
theorem popN_le (w:Nat):popN w <= 64:=by
 have:=List.length_filter_le w.testBit (List.range 64)
 simpa [popN,bitsL] using this

theorem pop_sum {p0 p1 p2 p3 p4 p5 p6 p7 A0 A1 A2 A3 A4 A5 A6 A7:Nat} (h0:p0 <= 8) (h1:p1 <= 8) (h2:p2 <= 8) (h3:p3 <= 8) (h4:p4 <= 8) (h5:p5 <= 8) (h6:p6 <= 8) (h7:p7 <= 8)
  (e0:A0=p0+256*A1) (e1:A1=p1+256*A2) (e2:A2=p2+256*A3) (e3:A3=p3+256*A4) (e4:A4=p4+256*A5) (e5:A5=p5+256*A6) (e6:A6=p6+256*A7) (e7:A7=p7) {b c d:Nat} (hb:b=A0+A0 / 256) (hc:c=b+b / 65536) (hd:d=c+c / 4294967296) :
  A0<1152921504606846976/\b<2305843009213693952/\c<4611686018427387904/\d<9223372036854775808/\d % 128=p0+(p1+(p2+(p3+(p4+(p5+(p6+p7)))))):=by
 have hb':b=A0+A1:=by omega
 have hb2:b / 65536=A2+A3:=by
  rw [hb',show 65536=256*256 from rfl,<- Nat.div_div_eq_div_mul,show (A0+A1) / 256=A1+A2 by omega]; omega
 have hc':c=A0+A1+A2+A3:=by omega
 have hc2:c / 4294967296=A4+A5+A6+A7:=by
  have k1:(A0+A1+A2+A3) / 256=A1+A2+A3+A4:=by omega
  have k2:(A1+A2+A3+A4) / 256=A2+A3+A4+A5:=by clear hb hb' hb2 hc hc' hd e0 k1; omega
  have k3:(A2+A3+A4+A5) / 256=A3+A4+A5+A6:=by clear hb hb' hb2 hc hc' hd e0 e1 k1 k2; omega
  have k4:(A3+A4+A5+A6) / 256=A4+A5+A6+A7:=by clear hb hb' hb2 hc hc' hd e0 e1 e2 k1 k2 k3; omega
  rw [hc',show 4294967296=256*256*256*256 from rfl,<- Nat.div_div_eq_div_mul,<- Nat.div_div_eq_div_mul,<- Nat.div_div_eq_div_mul,k1,k2,k3,k4]
 have hd':d=A0+A1+A2+A3+(A4+A5+A6+A7):=by rw [hd,hc2,hc']
 clear hb hc hd hb2 hc2
 have b7:A7 <= 8:=by omega
 have b6:A6 <= 2056:=by clear hb' hc' hd' e0 e1 e2 e3 e4 e5; omega
 have b5:A5 <= 526344:=by clear hb' hc' hd' e0 e1 e2 e3 e4; omega
 have b4:A4 <= 134744072:=by clear hb' hc' hd' e0 e1 e2 e3; omega
 have b3:A3 <= 34494482440:=by clear hb' hc' hd' e0 e1 e2; omega
 have b2:A2 <= 8830587504648:=by clear hb' hc' hd' e0 e1; omega
 have b1:A1 <= 2260630401189896:=by clear hb' hc' hd' e0; omega
 have b0:A0 <= 578721382704613384:=by clear hb' hc' hd'; omega
 refine ⟨by omega,by omega,by omega,by omega,?_⟩
 have hs:d=(p0+(p1+(p2+(p3+(p4+(p5+(p6+p7)))))))+256*(A1+A2+A3+A4+A5+A6+A7):=by
  clear b0 b1 b2 b3 b4 b5 b6 b7 hb' hc'; omega
 rw [hs]; clear hs hb' hc' hd' e0 e1 e2 e3 e4 e5 e6
 omega
theorem qpN {w a b c d:Nat} (hw:w<18446744073709551616) (ha:a=popD 8 (popU 8 w)) (hb:b=a+a / 256) (hc:c=b+b / 65536) (hd:d=c+c / 4294967296):a<1152921504606846976/\b<2305843009213693952/\c<4611686018427387904/\d<9223372036854775808/\d % 128=popN w:=by
 obtain ⟨p0,p1,p2,p3,p4,p5,p6,p7,h0,h1,h2,h3,h4,h5,h6,h7,e1,e2⟩:=qpO hw
 rw [e2]
 exact pop_sum h0 h1 h2 h3 h4 h5 h6 h7 (ha.trans e1) rfl rfl rfl rfl rfl rfl rfl hb hc hd
theorem qj7 {k x:Nat}:popA k x <= 2*zdC 85 k:=by
 have h1:x / 2 &&& zdC 85 k <= zdC 85 k:=Nat.and_le_right
 have h2:x &&& zdC 85 k <= zdC 85 k:=Nat.and_le_right
 unfold popA; omega
theorem qj6 {k x:Nat}:popB k x <= 2*zdC 51 k:=by
 have h1:x / 4 &&& zdC 51 k <= zdC 51 k:=Nat.and_le_right
 have h2:x &&& zdC 51 k <= zdC 51 k:=Nat.and_le_right
 unfold popB; omega

end Yard


namespace Yard
open Go Go.Sx Go.Proofs
set_option linter.unusedVariables false
set_option linter.unusedSimpArgs false
set_option maxRecDepth 4000

def tzN (w:Nat):Nat:=(bitsL 64 w).headD 64
def zz3:Ctr:=zbN Nat (fun w=>w<18446744073709551616) (fun w=>[u64 w]) (fun w=>i64 (tzN w:Nat))
def popC:Ctr:=zbN Nat (fun w=>w<18446744073709551616) (fun w=>[u64 w]) (fun w=>i64 (popN w:Nat))

theorem shrU {a i:Nat} (h:i <= 64):(a:Int).fdiv (2 ^ min i IntKind.u64.bits)=((a / 2 ^ i:Nat):Int):=zuR (n:=IntKind.u64.bits) h
theorem qhS {a:Nat} (h:a<18446744073709551616):IntKind.u64.wrap (a:Int)=(a:Int):=zfK (k := .u64) rfl h
theorem andU {a b:Nat} (ha:a<18446744073709551616) (hb:b<18446744073709551616):bits .and .u64 (a:Int) (b:Int)=((a &&& b:Nat):Int):=zpM (k := .u64) rfl ha hb
theorem neg_u {w:Nat} (h0:w≠0) (h:w<18446744073709551616):IntKind.u64.wrap (0-(w:Int))=((2 ^ 64-w:Nat):Int):=by
 unfold IntKind.wrap
 have e:(0-(w:Int)) % 2 ^ 64=((2 ^ 64-w:Nat):Int):=by omega
 have e2:(0-(w:Int)) % 2 ^ IntKind.u64.bits=((2 ^ 64-w:Nat):Int):=e
 simp only [e2]; rfl
theorem mul_u (a b:Nat):IntKind.u64.wrap ((a:Int)*(b:Int))=((a*b % 2 ^ 64:Nat):Int):=by
 have e:=zfK (k := .u64) rfl (a:=a*b % 2 ^ 64) (Nat.mod_lt _ (by decide))
 rw [<- e]
 unfold IntKind.wrap
 have e2:((a:Int)*(b:Int)) % 2 ^ IntKind.u64.bits=((a*b % 2 ^ 64:Nat):Int) % 2 ^ IntKind.u64.bits:=by
  rw [<- Int.natCast_mul]
  show ((a*b:Nat):Int) % 2 ^ 64=((a*b % 2 ^ 64:Nat):Int) % 2 ^ 64
  omega
 simp only [e2]

theorem tzerosV:(∀(x:Nat),x<18446744073709551616->BC (decide ((x:Int)=(0:Int))) (Exx Unit fun y=>((Tr 1 (64=(↑(tzN x):Int))/\True)/\true=true/\True)/\True) (∀(n:Int),n=IntKind.u64.wrap (0-(x:Int))->∀(n_1:Int),n_1=bits BinOp.and IntKind.u64 (x:Int) n->∀(n:Int),n=IntKind.u64.wrap (n_1*285870213051353865)->(0:Int) <= (58:Int)/\∀(n_2:Int),
 let q1:Prop:=n_2<(↑(64:Nat):Int); n_2=n.fdiv (2 ^ min (Int.toNat 58) IntKind.u64.bits)->((0:Int) <= n_2/\q1)/\q1/\∀(m:Int),m=IntKind.i64.wrap (↑(tabList.getD n_2.toNat 0):Int)->Exx Unit fun y=>((Tr 1 (m=(↑(tzN x):Int))/\True)/\true=true/\True)/\True))=(fnVC tb [] Tryz.f201 zz3 (fun _=>{}) (fun _=>none)):=by kernel_rfl

theorem qh0:SpecOk Tryz.prog 201 (zaA zz3):=by
 refine zaK zaM zaL SPok.nil Tryz.func201 (by decide) (zaO fun _=>rfl) (Eq.mp tzerosV ?_)
 simp (maxSteps:=10000000) only [std,stdU,stdV,Exx,I64,Nat.reduceMul,Nat.reduceDiv,Nat.reduceAdd,Int.reduceToNat]
 intro w hw
 refine ⟨fun h=>?_,fun h=>?_⟩
 ·have:w=0:=by omega
  subst this; rfl
 ·obtain ⟨k,q,hk⟩:=ztO (w:=w) (by omega)
  obtain ⟨h1,h2,h3,h4⟩:=qd4 hk hw
  have e:IntKind.u64.wrap (bits BinOp.and IntKind.u64 (w:Int) (IntKind.u64.wrap (0-(w:Int)))*285870213051353865)=((2 ^ k*285870213051353865 % 2 ^ 64:Nat):Int):=by
   rw [neg_u (by omega) hw,andU hw (by omega),h4]
   exact mul_u _ _
  have ht:tzN w=k:=by rw [tzN,h2]; rfl
  have hm:2 ^ k*285870213051353865 % 2 ^ 64<2 ^ 64:=Nat.mod_lt _ (by decide)
  have hb:=tz_ok k h1
  rw [e,shrU (by decide),ht]
  generalize 2 ^ k*285870213051353865 % 2 ^ 64=n at *
  have hn:n / 2 ^ 58<64:=by omega
  refine ⟨by omega,by omega,by omega,by omega,?_⟩
  rw [Int.toNat_natCast]
  rw [hb]
  exact zbP ⟨by omega,by omega⟩

theorem popA_go {x:Nat} (hx:x<18446744073709551616):IntKind.u64.wrap (bits BinOp.and IntKind.u64 ((x:Int).fdiv (2 ^ min 1 IntKind.u64.bits)) 6148914691236517205+bits BinOp.and IntKind.u64 (x:Int) 6148914691236517205)=((popA 8 x:Nat):Int):=by
 have h:=qj7 (k:=8) (x:=x)
 rw [mask5] at h
 rw [shrU (by decide),show (6148914691236517205:Int)=((6148914691236517205:Nat):Int) from rfl,andU (by omega) (by decide),andU hx (by decide),<- Int.natCast_add]
 rw [popA,mask5] at *
 exact qhS (by simp only [Nat.pow_one]; omega)
theorem popB_go {x:Nat} (hx:x<18446744073709551616):IntKind.u64.wrap (bits BinOp.and IntKind.u64 ((x:Int).fdiv (2 ^ min 2 IntKind.u64.bits)) 3689348814741910323+bits BinOp.and IntKind.u64 (x:Int) 3689348814741910323)=((popB 8 x:Nat):Int):=by
 have h:=qj6 (k:=8) (x:=x)
 rw [mask3] at h
 rw [shrU (by decide),show (3689348814741910323:Int)=((3689348814741910323:Nat):Int) from rfl,andU (by omega) (by decide),andU hx (by decide),<- Int.natCast_add]
 rw [popB,mask3] at *
 exact qhS (by simp only [Nat.reducePow]; omega)
theorem popD_go {x:Nat} (hx:x<16000000000000000000):bits BinOp.and IntKind.u64 (IntKind.u64.wrap ((x:Int).fdiv (2 ^ min 4 IntKind.u64.bits)+(x:Int))) 1085102592571150095=((popD 8 x:Nat):Int):=by
 rw [shrU (by decide),show (1085102592571150095:Int)=((1085102592571150095:Nat):Int) from rfl,<- Int.natCast_add,qhS (by simp only [Nat.reducePow]; omega),andU (by simp only [Nat.reducePow]; omega) (by decide)]
 rw [popD,mask0]
theorem qbD {x i:Nat} (hi:i <= 64) (hx:x+x / 2 ^ i<18446744073709551616):IntKind.u64.wrap ((x:Int)+(x:Int).fdiv (2 ^ min i IntKind.u64.bits))=((x+x / 2 ^ i:Nat):Int):=by
 rw [shrU hi,<- Int.natCast_add,qhS hx]

theorem and127 {d:Nat}:bits BinOp.and IntKind.i64 (d:Int) 127=((d % 128:Nat):Int):=by
 unfold bits
 have e:((BitVec.ofInt 64 (d:Int)) &&& (BitVec.ofInt 64 (127:Int))).toNat=d % 128:=by
  have e1:(BitVec.ofInt 64 (d:Int)).toNat=d % 2 ^ 64:=by simp [BitVec.toNat_ofInt]
  rw [BitVec.toNat_and,e1,show (BitVec.ofInt 64 (127:Int)).toNat=2 ^ 7-1 by decide,Nat.and_two_pow_sub_one_eq_mod]
  omega
 have h:IntKind.i64.wrap ((d % 128:Nat):Int)=((d % 128:Nat):Int):=zbP ⟨by omega,by omega⟩
 rw [<- e] at h
 exact h.trans (by rw [e])

theorem popV:(∀(x:Nat),x<18446744073709551616->(0:Int) <= (1:Int)/\∀(n:Int),n=(x:Int).fdiv (2 ^ min (Int.toNat 1) IntKind.u64.bits)->∀
 (n_1:Int),n_1=bits BinOp.and IntKind.u64 n 6148914691236517205->∀(n:Int),n=bits BinOp.and IntKind.u64 (x:Int) 6148914691236517205->∀(n_2 :
 Int),n_2=IntKind.u64.wrap (n_1+n)->(0:Int) <= (2:Int)/\∀(n:Int),n=n_2.fdiv (2 ^ min (Int.toNat 2) IntKind.u64.bits)->∀(n_3:Int),n_3=bits
 BinOp.and IntKind.u64 n 3689348814741910323->∀(n:Int),n=bits BinOp.and IntKind.u64 n_2 3689348814741910323->∀(n_4:Int),n_4=IntKind.u64.wrap (n_3 +
 n)->(0:Int) <= (4:Int)/\∀(n:Int),n=n_4.fdiv (2 ^ min (Int.toNat 4) IntKind.u64.bits)->∀(n_5:Int),n_5=IntKind.u64.wrap (n+n_4)->∀(n:Int),
 n=bits BinOp.and IntKind.u64 n_5 1085102592571150095->(0:Int) <= (8:Int)/\∀(n_6:Int),n_6=n.fdiv (2 ^ min (Int.toNat 8) IntKind.u64.bits)->∀(n_7 :
 Int),n_7=IntKind.u64.wrap (n+n_6)->(0:Int) <= (16:Int)/\∀(n:Int),n=n_7.fdiv (2 ^ min (Int.toNat 16) IntKind.u64.bits)->∀(n_8:Int),n_8 =
 IntKind.u64.wrap (n_7+n)->(0:Int) <= (32:Int)/\∀(n:Int),n=n_8.fdiv (2 ^ min (Int.toNat 32) IntKind.u64.bits)->∀(n_9:Int),n_9 =
 IntKind.u64.wrap (n_8+n)->∀(m:Int),m=IntKind.i64.wrap n_9->∀(n:Int),n=bits BinOp.and IntKind.i64 m 127->Exx Unit fun y=>((Tr 1 (n=(↑(popN
 x):Int))/\True)/\true=true/\True)/\True)=(fnVC tb [] Tryz.f99 popC (fun _=>{}) (fun _=>none)):=by kernel_rfl

theorem pop_ok:SpecOk Tryz.prog 99 (zaA popC):=by
 refine zaK zaM zaL SPok.nil Tryz.func99 (by decide) (zaO fun _=>rfl) (Eq.mp popV ?_)
 simp (maxSteps:=10000000) only [std,stdU,stdV,Exx,I64,Nat.reduceMul,Nat.reduceDiv,Nat.reduceAdd,Int.reduceToNat]
 intro x hx
 have hA:=qj7 (k:=8) (x:=x)
 rw [mask5] at hA
 have hB:=qj6 (k:=8) (x:=popA 8 x)
 rw [mask3] at hB
 obtain ⟨h1,h2,h3,h4,h5⟩:=qpN (w:=x) hx rfl rfl rfl rfl
 refine ⟨by omega,by omega,by omega,by omega,by omega,by omega,?_⟩
 rw [popA_go hx,popB_go (by omega),popD_go (x:=popB 8 (popA 8 x)) (by omega)]
 simp only [popU] at h1 h2 h3 h4 h5
 generalize popD 8 (popB 8 (popA 8 x))=a at *
 rw [qbD (i:=8) (by decide) (by omega),qbD (i:=16) (by decide) (by omega),qbD (i:=32) (by decide) (by omega)]
 simp only [Nat.reducePow]
 generalize a+a / 256=b at *
 generalize b+b / 65536=c at *
 generalize c+c / 4294967296=d at *
 have hw:IntKind.i64.wrap ((d:Nat):Int)=(d:Int):=zbP ⟨by omega,by omega⟩
 rw [hw,and127,h5]

def ziP:Ctr:=zqB Unit (fun _=>True) (fun _=>[]) (fun x=>i64 ((bitsL x.1.1 x.1.2).length:Nat))

def cntN (m i:Nat):Nat:=(bitsL (64*i) m).length
def countLA (x:(Nat×Nat)×Unit):LA:={ T:=Nat×Nat,F:=fun s=>frm 21 [(3,i64 (cntN x.1.2 s.1:Nat)),(9,.sl 2 [] 0 1 0 (zaF x.1.1) s.2),(10,i64 (zaF x.1.1:Nat)),(11,i64 (s.1:Nat))],H:=fun s=>[.cells 198 [i64 (x.1.1:Int),.sl 2 [] 0 1 0 (zaF x.1.1) s.2],.fence,.row 111 1 s.2 (zaF x.1.1) (fun j=>[u64 (zaX x.1.2 j)])] }

theorem qi7:(
 let q1:Prop:=(198:TypeId)=198;
 let q2:Prop:=(111:TypeId)=111; ∀(x:(Nat×Nat)×Unit),
 let q3:Prop:=zaF x.1.1=zaF x.1.1;
 let q4:Prop:=Tr 1 ((↑(zaF x.1.1):Int)=(↑(zaF x.1.1):Int));
 let q5:Prop:=Tr 1 ((x.1.1:Int)=(x.1.1:Int));
 let q7:Prop:=zaF x.1.1 <= zaF x.1.1/\∀(i:Nat),
 let q6:List AV:=[AV.int .u64 (↑(zaX x.1.2 i):Int)]; i<zaF x.1.1->q6=q6; SetW x.1/\True->setB x.1=(setO x.1).ob/\∀(g:Nat),Exx (Nat×Nat->Prop) fun I=>Exx (Nat×Nat->Nat) fun m=>(Exx (Nat×Nat) fun t =>
 let q8:Prop:=true=true/\zaC/\(0:Nat)=0/\(1:Nat)=1/\(0:Nat)=0/\q3/\g=t.2; I t/\Tr 3 (Tr 1 ((0:Int)=(↑(cntN x.1.2 t.1):Int))/\Tr 5 (q8/\q4/\Tr 1 ((0:Int)=(t.1:Int))/\Tr 9 True))/\(q1/\q5/\q8/\True)/\true=true/\(q2/\(1:Nat)=1/\g=t.2/\q7)/\True)/\∀(t:Nat×Nat),
 let q9:Prop:=(t.1:Int)<(↑(zaF x.1.1):Int);
 let q10:Nat:=0+(t.1:Int).toNat;
 let q11:Int:=(↑(cntN x.1.2 t.1):Int);
 let q12:Int:=(t.1:Int)+1; I t->BC (decide q9) (((0:Int) <= (t.1:Int)/\q9)/\q10<zaF x.1.1/\Exx Nat fun x_1 =>
 let q13:Int:=q11+(↑(popN x_1):Int); ((Tr 1 ((↑(zaX x.1.2 q10):Int)=(x_1:Int))/\True)/\true=true/\True)/\x_1<18446744073709551616/\∀(y:Unit),True->I64 q13/\I64 q12/\Exx (Nat×Nat) fun t' =>
 let q14:Prop:=true=true/\zaC/\(0:Nat)=0/\(1:Nat)=1/\(0:Nat)=0/\q3/\t.2=t'.snd; (I t'/\m t'<m t)/\Tr 3 (Tr 1 (q13=(↑(cntN x.1.2 t'.fst):Int))/\Tr 5 (q14/\q4/\Tr 1 (q12=(↑t'.fst:Int))/\Tr 9 True))/\(q1/\q5/\q14/\True)/\true=true/\(q2/\(1:Nat)=1/\t.2=t'.snd/\q7)/\True) (Exx Unit fun y=>Exx Nat fun g=>Tr 1 ((q1/\q5/\(true=true/\zaC/\(0:Nat)=0/\(1:Nat)=1/\(0:Nat)=0/\q3/\t.2=g)/\True)/\(q2/\(1:Nat)=1/\t.2=g/\q7)/\True)/\((Tr 1 (q11=(↑(bitsL x.1.1 x.1.2).length:Int))/\True)/\(setO x.1).ob=setB x.1/\true=true/\True)/\True))=(zcA tb [(99,zaA popC)] Tryz.f61 ziP (fun x=>{ loops:=[(3,countLA x)] }) (fun _ _ _=>none) (fun x=>[(0,setO x.1)]) (fun x y av H=>[(0,[2],setO x.1)])):=by kernel_rfl

theorem zkV:SpecOk Tryz.prog 61 (zaA ziP):=by
 refine za0 zaM zaL (SPok.cons pop_ok SPok.nil) Tryz.func61 (by decide) (zjS fun _=>rfl) (Eq.mp qi7 ?_)
 simp (maxSteps:=10000000) only [std,stdU,stdV,Exx,I64,Nat.reduceMul,Nat.reduceDiv,Nat.reduceAdd,Int.reduceToNat,zdI,zcT,zaZ]
 rintro n m hs cap
 have hn:=hs.1
 simp only at hn
 have hw:zaF n <= 48:=by unfold zaF; omega
 refine ⟨fun s=>s.1 <= zaF n/\s.2=cap,⟨0,cap,⟨by simp,rfl⟩,rfl,rfl,rfl,rfl,rfl⟩,fun s=>zaF n-s.1,?_⟩
 rintro i cap' ⟨hi,hc⟩
 simp only at hi hc
 subst hc
 have h1:cntN m i <= 64*i:=zmV _ _
 have h2:=popN_le (zaX m i)
 refine ⟨fun hlt=>⟨by omega,by omega,by omega,zlI _ _,by omega,by omega,by omega,by omega,i+1,_,⟨by simp only; omega,rfl⟩,by simp only; omega,?_,rfl,by omega,rfl,rfl⟩,fun hge=>?_⟩
 ·rw [cntN,cntN,zuD,List.length_append,List.length_map]; rfl
 ·rw [show i=zaF n by omega,cntN,zr5 hs.2]

def zlP:Ctr where
 X:=Nat×Nat
 Y:=Nat
 conv:=true
 tau:=zgC
 pre:=SetW
 args:=fun _=>[.ptr 0 [] 0]
 heap:=fun s=>[setI s]
 Q:=fun s cap=>(zcU s).length <= cap
 res:=fun s cap => .sl 2 [] 0 1 0 (zcU s).length cap
 its:=fun s _=>[setI s]
 new:=fun s cap=>[rowI 3 .i64 cap (zcU s)]
theorem qaG:CtrOk zlP :=
 ⟨fun _ _ _ _=>(rfl:1=1),fun _ _ _ _=>⟨rfl,rfl⟩,fun x _ _ _ _=>⟨⟨⟨trivial,trivial⟩,⟨⟨fun _ _=>⟨rfl,trivial⟩,trivial⟩,trivial⟩⟩,rfl⟩⟩
abbrev qk2 (x:Nat×Nat) (scap cap:Nat) (l:List Int):AH:=[.cells 198 [i64 (x.1:Int),.sl 2 [] 0 1 0 (zaF x.1) scap],.fence,.row 111 1 scap (zaF x.1) (fun j=>[u64 (zaX x.2 j)]),.row 3 1 cap l.length (fun j=>[i64 (l.getD j 0)])]
def preN (m i:Nat):List Int:=(bitsL (64*i) m).map fun j:Nat=>(j:Int)
theorem qj2 (m i:Nat):preN m (i+1)=preN m i++(bitsL 64 (zaX m i)).map (fun j:Nat=>((64*i+j:Nat):Int)):=by
 rw [preN,zuD,List.map_append,List.map_map]; rfl
theorem zzS {l m:List Int} {i:Nat}:(l++m).getD i 0=if i<l.length then l.getD i 0 else m.getD (i-l.length) 0:=by
 rw [List.getD_eq_getElem?_getD,List.getD_eq_getElem?_getD,List.getD_eq_getElem?_getD]
 by_cases h:i<l.length
 ·rw [if_pos h,List.getElem?_append_left h]
 ·rw [if_neg h,List.getElem?_append_right (by omega)]
def listLA (x:Nat×Nat):LA:={ T:=Nat×Nat×Nat×List Int,F:=fun s=>frm 32 [(3,.sl 3 [] 0 1 0 s.2.2.2.length s.2.2.1),(9,.sl 2 [] 0 1 0 (zaF x.1) s.2.1),(10,i64 (zaF x.1:Nat)),(11,i64 (s.1:Nat))],H:=fun s=>qk2 x s.2.1 s.2.2.1 s.2.2.2 }
def listLB (x:Nat×Nat):LA:={ T:=Nat×Nat×Nat×Nat×List Int,F:=fun s=>frm 32 [(3,.sl 3 [] 0 1 0 s.2.2.2.2.length s.2.2.2.1),(4,i64 (s.1:Nat)),(5,u64 s.2.1),(9,.sl 2 [] 0 1 0 (zaF x.1) s.2.2.1),(10,i64 (zaF x.1:Nat)),(11,i64 (s.1:Nat))],H:=fun s=>qk2 x s.2.2.1 s.2.2.2.1 s.2.2.2.2 }

theorem qoU:(
 let q1:Prop:=(198:TypeId)=198;
 let q2:Prop:=(111:TypeId)=111;
 let q3:Prop:=(3:TypeId)=3;
 let q4:Nat:=(TI.mk (TK.int IntKind.i64) 1 8 (ZL.cons (Value.int IntKind.i64 0) ZL.nil) false).size; ∀(x:Nat×Nat),
 let q5:Prop:=Tr 1 ((↑(zaF x.1):Int)=(↑(zaF x.1):Int));
 let q6:Prop:=Tr 1 ((x.1:Int)=(x.1:Int));
 let q7:Prop:=zaF x.1 <= zaF x.1/\∀(i:Nat),i<zaF x.1->[AV.int .u64 (↑(zaX x.2 i):Int)]=[AV.int .u64 (↑(zaX x.2 i):Int)]; SetW x->setB x=(setO x).ob/\∀(g:Nat),Exx (Nat×Nat×Nat×List Int->Prop) fun I=>Exx (Nat×Nat×Nat×List Int->Nat) fun m=>(Exx (Nat×Nat×Nat×List Int) fun t =>
 let q8:Prop:=t.2.2.2.length=0;
 let q9:Prop:=t.2.2.1=0;
 let q10:Prop:=true=true/\zaC/\(0:Nat)=0/\(1:Nat)=1/\(0:Nat)=0/\zaF x.1=zaF x.1/\g=t.2.1; I t/\Tr 3 ((q8/\q9)/\Tr 5 (q10/\q5/\Tr 1 ((0:Int)=(t.1:Int))/\Tr 20 True))/\(q1/\q6/\q10/\True)/\true=true/\(q2/\(1:Nat)=1/\g=t.2.1/\q7)/\(q9/\q8)/\True)/\∀(t:Nat×Nat×Nat×List Int),
 let q11:Prop:=(t.1:Int)<(↑(zaF x.1):Int);
 let q12:Nat:=0+(t.1:Int).toNat;
 let q13:List Int:=t.2.2.2;
 let q14:Nat:=q13.length;
 let q15:Nat:=t.2.2.1; I t->BC (decide q11) (((0:Int) <= (t.1:Int)/\q11)/\q12<zaF x.1/\Exx (Nat×Nat×Nat×Nat×List Int->Prop) fun I_1=>Exx (Nat×Nat×Nat×Nat×List Int->Nat) fun m_1=>(Exx (Nat×Nat×Nat×Nat×List Int) fun t_1 =>
 let q16:Nat×Nat×List Int:=t_1.2.2;
 let q17:Nat×List Int:=q16.2;
 let q18:List Int:=q17.2;
 let q19:Nat:=q18.length;
 let q20:Prop:=q15=q17.1;
 let q21:Prop:=Tr 1 ((t.1:Int)=(t_1.1:Int));
 let q22:Prop:=t.2.1=q16.1;
 let q23:Prop:=true=true/\zaC/\(0:Nat)=0/\(1:Nat)=1/\(0:Nat)=0/\zaF x.1=zaF x.1/\q22; I_1 t_1/\Tr 3 ((true=true/\zaC/\(0:Nat)=0/\(1:Nat)=1/\(0:Nat)=0/\q14=q19/\q20)/\q21/\Tr 1 ((↑(zaX x.2 q12):Int)=(t_1.2.1:Int))/\Tr 3 (q23/\q5/\q21/\Tr 20 True))/\(q1/\q6/\q23/\True)/\true=true/\(q2/\(1:Nat)=1/\q22/\q7)/\(q3/\(1:Nat)=1/\q20/\q19 <= q14/\∀(i:Nat),i<q19->[AV.int .i64 (q13.getD i 0)]=[AV.int .i64 (q18.getD i 0)])/\True)/\∀(t_1:Nat×Nat×Nat×Nat×List Int),
 let q24:Int:=(t_1.2.1:Int);
 let q25:Int:=(t_1.1:Int)*64;
 let q26:Nat×Nat×List Int:=t_1.2.2;
 let q27:Nat×List Int:=q26.2;
 let q28:List Int:=q27.2;
 let q29:Nat:=q28.length;
 let q30:Nat:=q27.1;
 let q31:Nat:=q29+1;
 let q32:Nat:=q26.1;
 let q33:Int:=(t_1.1:Int)+1; I_1 t_1->BC (!decide (q24=(0:Int))) (I64 q25/\Exx Nat fun x_1=>((Tr 1 (q24=(x_1:Int))/\True)/\true=true/\True)/\x_1<18446744073709551616/\∀(y:Unit),True->I64 (q25+(↑(tzN x_1):Int))/\(0:Nat)+(1:Nat) <= (1:Nat)/\true=true/\(q29 <= q29/\q30=q30)/\(q31 <= 9223372036854775807/\q31*8 <= 140737488355328)/\∀(cap:Nat),q31 <= cap/\cap <= 9223372036854775807->∀(n:Int),n=IntKind.u64.wrap (q24-1)->∀(n_1:Int),n_1=bits BinOp.and IntKind.u64 q24 n->Exx (Nat×Nat×Nat×Nat×List Int) fun t' =>
 let q34:Nat×Nat×List Int:=t'.snd.2;
 let q35:Nat×List Int:=q34.2;
 let q36:List Int:=q35.2;
 let q37:Nat:=q36.length;
 let q38:Prop:=cap=q35.1;
 let q39:Prop:=Tr 1 ((t_1.1:Int)=(↑t'.fst:Int));
 let q40:Prop:=q32=q34.1;
 let q41:Prop:=true=true/\zaC/\(0:Nat)=0/\(1:Nat)=1/\(0:Nat)=0/\zaF x.1=zaF x.1/\q40; (I_1 t'/\m_1 t'<m_1 t_1)/\Tr 3 ((true=true/\zaC/\(0:Nat)=0/\(1:Nat)=1/\(0:Nat)=0/\q31=q37/\q38)/\q39/\Tr 1 (n_1=(↑t'.snd.1:Int))/\Tr 3 (q41/\q5/\q39/\Tr 20 True))/\(q1/\q6/\q41/\True)/\true=true/\(q2/\(1:Nat)=1/\q40/\q7)/\(q3/\(1:Nat)=1/\q38/\q37 <= q31/\∀(i:Nat),
 let q42:Nat:=0+(i-q29); i<q37->(if i<q29 then [AV.int .i64 (q28.getD i 0)] else [AV.int .i64 (if q42=0*1 / 1 then q25+(↑(tzN x_1):Int) else 0)])=[AV.int .i64 (q36.getD i 0)])/\True) (I64 q33/\Exx (Nat×Nat×Nat×List Int) fun t' =>
 let q43:List Int:=t'.snd.2.2;
 let q44:Nat:=q43.length;
 let q45:Prop:=q30=t'.snd.2.1;
 let q46:Prop:=true=true/\zaC/\(0:Nat)=0/\(1:Nat)=1/\(0:Nat)=0/\zaF x.1=zaF x.1/\q32=t'.snd.1; (I t'/\m t'<m t)/\Tr 3 ((true=true/\zaC/\(0:Nat)=0/\(1:Nat)=1/\(0:Nat)=0/\q29=q44/\q45)/\Tr 5 (q46/\q5/\Tr 1 (q33=(↑t'.fst:Int))/\Tr 20 True))/\(q1/\q6/\q46/\True)/\true=true/\(q2/\(1:Nat)=1/\q32=t'.snd.1/\q7)/\(q3/\(1:Nat)=1/\q45/\q44 <= q29/\∀(i:Nat),i<q44->[AV.int .i64 (q28.getD i 0)]=[AV.int .i64 (q43.getD i 0)])/\True)) (Exx Nat fun y=>Exx Nat fun g=>Tr 1 ((q1/\q6/\(true=true/\zaC/\(0:Nat)=0/\(1:Nat)=1/\(0:Nat)=0/\zaF x.1=zaF x.1/\t.2.1=g)/\True)/\(q2/\(1:Nat)=1/\t.2.1=g/\q7)/\True)/\(((true=true/\zaC/\(0:Nat)=0/\(1:Nat)=1/\(0:Nat)=0/\q14=(zcU x).length/\q15=y)/\True)/\(setO x).ob=setB x/\true=true/\(q3/\(1:Nat)=1/\q15=y/\(zcU x).length <= q14/\∀(i:Nat),i<(zcU x).length->[AV.int .i64 (q13.getD i 0)]=[AV.int .i64 ((zcU x).getD i 0)])/\True)/\(zcU x).length <= y))=(zcA tb [(201,zaA zz3)] Tryz.f179 zlP (fun x=>{ loops:=[(3,listLA x),(5,listLB x)] }) (fun _ _ _=>some [some 0,some 1,some 3]) (fun x=>[(0,setO x)]) (fun x y av H=>[(0,[2],setO x)])):=by kernel_rfl

theorem zs6:SpecOk Tryz.prog 179 (zaA zlP):=by
 refine za0 zaM zaL (SPok.cons qh0 SPok.nil) Tryz.func179 (by decide) qaG (Eq.mp qoU ?_)
 simp (maxSteps:=10000000) only [std,stdU,stdV,Exx,I64,Nat.reduceMul,Nat.reduceDiv,Nat.reduceAdd,Int.reduceToNat,zdI,zcT,zaZ]
 rintro n m hs cap
 have hn:=hs.1
 simp only at hn
 have hw:zaF n <= 48:=by unfold zaF; omega
 refine ⟨fun s=>s.1 <= zaF n/\s.2.1=cap/\s.2.2.2=preN m s.1/\s.2.2.2.length <= s.2.2.1,⟨0,cap,0,[],⟨by simp,rfl,rfl,Nat.le_refl _⟩,rfl,rfl,rfl,rfl,rfl,rfl,rfl,rfl⟩,fun s=>zaF n-s.1,?_⟩
 rintro i cap' oc l ⟨hi,hc,hl,hoc⟩
 simp only at hi hc hl hoc
 subst hc
 refine ⟨fun hlt=>⟨by omega,by omega,by omega,fun s=>s.1=i/\s.2.2.1=cap'/\s.2.1<18446744073709551616/\s.2.2.2.2++(bitsL 64 s.2.1).map (fun j:Nat=>((64*i+j:Nat):Int))=preN m (i+1)/\s.2.2.2.2.length <= s.2.2.2.1,⟨i,zaX m i,cap',oc,l,⟨rfl,rfl,zlI _ _,?_,hoc⟩,rfl,rfl,rfl,rfl,rfl,rfl,rfl,rfl,rfl,by omega,fun _ _=>rfl⟩,fun s=>s.2.1,?_⟩,fun hge=>?_⟩
 ·simp only
  rw [hl,qj2]
 ·rintro j w cap2 oc2 l2 ⟨hj,hc2,hw2,hl2,hoc2⟩
  simp only at hj hc2 hw2 hl2 hoc2
  subst hj hc2
  have hlen:l2.length+(bitsL 64 w).length=(preN m (j+1)).length:=by rw [<- hl2,List.length_append,List.length_map]
  have hlen2:(preN m (j+1)).length <= 64*(j+1):=by rw [preN,List.length_map]; exact zmV _ _
  refine ⟨fun h=>?_,fun h=>?_⟩
  ·obtain ⟨k,q,hk⟩:=ztO (w:=w) (by omega)
   obtain ⟨h1,h2,h3,h4⟩:=qd4 hk hw2
   have ht:tzN w=k:=by rw [tzN,h2]; rfl
   rw [ht]
   have hsub:IntKind.u64.wrap ((w:Int)-1)=((w-1:Nat):Int):=by
    rw [show (w:Int)-1=((w-1:Nat):Int) by omega,qhS (by omega)]
   have hand:bits BinOp.and IntKind.u64 (w:Int) (IntKind.u64.wrap ((w:Int)-1))=((clr w k:Nat):Int):=by
    rw [hsub,andU hw2 (by omega),h3]
   have hclr:clr w k<w:=by
    rw [<- h3]; exact Nat.lt_of_le_of_lt Nat.and_le_right (by omega)
   have e1:(j:Int)*64+(k:Int)=((64*j+k:Nat):Int):=by omega
   rw [hand,e1]
   refine ⟨by omega,by omega,by omega,by omega,by omega,by omega,by omega,?_⟩
   rintro oc3 ⟨hc3,hc4⟩
   refine ⟨j,clr w k,cap2,oc3,l2++[((64*j+k:Nat):Int)],⟨rfl,rfl,by simp only; omega,?_,by simpa using hc3⟩,hclr,by simp,rfl,rfl,rfl,rfl,rfl,rfl,rfl,rfl,by simp,fun i hi=>?_⟩
   ·simp only
    rw [<- hl2,h2,List.map_cons,List.append_assoc]; rfl
   ·rw [zzS]
    by_cases e:i<l2.length
    ·rw [if_pos e,if_pos e]
    ·have:i-l2.length=0:=by simp at hi; omega
     rw [if_neg e,if_neg e,this]; rfl
  ·have h0:w=0:=by omega
   subst h0
   rw [zn9,List.map_nil,List.append_nil] at hl2
   exact ⟨by omega,by omega,j+1,cap2,oc2,l2,⟨by simp only; omega,rfl,hl2,hoc2⟩,by simp only; omega,rfl,rfl,rfl,by omega,rfl,rfl,rfl,by omega,fun _ _=>rfl⟩
 ·have:l=zcU (n,m):=by
   rw [hl,show i=zaF n by omega,preN,zr5 hs.2]; rfl
  subst this
  exact ⟨rfl,by omega,fun _ _=>rfl,hoc⟩

end Yard
