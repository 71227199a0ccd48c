import Derived.Test.YtlihikockhjodaaGreatDoorSxA

namespace Go.Sx

inductive ZL where
 | nil
 | cons (v:Value) (r:ZL)
 | rep (es n:Nat) (z:ZL) (r:ZL)

def ziY:Value->AV
 | .int k n => .int k n
 | .bool b => .bool b
 | .pointer none => .nilp
 | .slice none 0 0 => .nils
 | .string s => .str (Yard.cstr (Yard.litL s))
 | _ => .any

def qcA:Nat->List AV->List AV
 | 0,_=>[]
 | n+1,l=>l++qcA n l
def ptrZ:ZL->Bool
 | .cons (.pointer none) .nil=>true
 | _=>false

def zAV:ZL->List AV
 | .nil=>[]
 | .cons v r=>ziY v :: zAV r
 | .rep es n z r=>match ptrZ z with
   | true=>qcA n (zAV z)++zAV r
   | false => .arr es n (fun _=>zAV z) :: zAV r
def zVal:ZL->List Value
 | .nil=>[]
 | .cons v r=>v :: zVal r
 | .rep _ n z r=>(List.replicate n (zVal z)).flatten++zVal r
def zok:ZL->Bool
 | .nil=>true
 | .cons v r=>(ziY v).one&&zok r
 | .rep es _ z r=>zok z&&(Nat.beq (zVal z).length es&&zok r)

theorem qmL (s:ByteArray):Yard.cstr (Yard.litL s)=s.data.toList.map fun c=>(c.toNat:Int):=by
 rw [Yard.cstr,Yard.litL,List.map_map]; rfl
theorem zk3 (s:ByteArray):zgL (s.data.toList.map fun c=>(c.toNat:Int)):=by
 intro x hx
 obtain ⟨c,_,rfl⟩:=List.mem_map.1 hx
 have:=c.toNat_lt
 omega

theorem zoW (s:ByteArray):bytesOf (s.data.toList.map fun c=>(c.toNat:Int))=s:=by
 unfold bytesOf
 have:(List.map (fun x:Int=>x.toNat.toUInt8) (List.map (fun c:UInt8=>(c.toNat:Int)) s.data.toList))=s.data.toList:=by
  rw [List.map_map]
  conv=>rhs; rw [<- List.map_id s.data.toList]
  refine List.map_congr_left fun c _=>?_
  simp
 rw [this]

structure Base extends World where
 R:Nat->Option Obj
 pins:Nat->Option (Option Nat)
 nst:Nat
 ids0:Nat->Option Nat

variable {W W':Base} {D D':Nat->Prop} {R R':Nat->Option Obj} {ids ids':Nat->Option Nat}

theorem znO (v:Value):V R ids (ziY v) v:=by
 unfold ziY
 split <;> first
  | exact .int _ _
  | exact .bool _
  | exact .nilp
  | exact .nils
  | exact .any _
  | skip
 rename_i s
 rw [qmL]
 conv=>rhs; rw [<- zoW s]
 exact .str _ (zk3 s)

theorem qb9 (n es:Nat) (l:List Value) (h:l.length=es):((List.replicate n l).flatten).length=es*n:=by
 induction n with
 | zero=>simp
 | succ n ih=>rw [List.replicate_succ,List.flatten_cons,List.length_append,ih,h,Nat.mul_succ]; omega

theorem zrP (n es:Nat) (l:List Value) (h:l.length=es):∀i,i<n->(((List.replicate n l).flatten).drop (i*es)).take es=l:=by
 induction n with
 | zero=>intro i hi; omega
 | succ n ih =>
   intro i hi
   rw [List.replicate_succ,List.flatten_cons]
   cases i with
   | zero=>rw [Nat.zero_mul,List.drop_zero,List.take_append_of_le_length (by omega),List.take_of_length_le (by omega)]
   | succ i =>
     rw [Nat.add_mul,Nat.one_mul,List.drop_append,List.drop_of_length_le (by omega),List.nil_append,h,Nat.add_sub_cancel]
     exact ih i (by omega)

theorem zt3 {ids:Nat->Option Nat} {l:List AV} {vs:List Value}:∀(n:Nat),Vs R ids l vs->Vs R ids (qcA n l) (List.replicate n vs).flatten
 | 0,_ => .nil
 | n+1,h=>by
   rw [List.replicate_succ,List.flatten_cons]
   exact h.append (zt3 n h)
theorem zoF:∀(z:ZL) {ids:Nat->Option Nat},zok z=true->Vs R ids (zAV z) (zVal z)
 | .nil,_,_ => .nil
 | .cons v r,_,h=>by
   simp only [zok,Bool.and_eq_true] at h
   exact .one _ _ _ _ h.1 (znO v) (zoF r h.2)
 | .rep es n z r,_,h=>by
   simp only [zok,Bool.and_eq_true] at h
   have hl:=Nat.eq_of_beq_eq_true h.2.1
   unfold zAV zVal
   split
   ·exact (zt3 n (zoF z h.1)).append (zoF r h.2.2)
   ·exact .arr es n _ (fun _=>zVal z) _ _ _ (qb9 n es _ hl) (zrP n es _ hl) (fun _ _=>zoF z h.1) (zoF r h.2.2)

inductive TK where
 | int (k:IntKind) | bool | str
 | ptr (e:TypeId)
 | slice (e:TypeId)
 | struct (fs:List (Nat×TypeId))
 | array (n:Nat) (e:TypeId)
 | other

structure TI where
 kind:TK
 size:Nat
 bytes:Nat
 zero:ZL
 key:Bool

def TK.desc (P:Program) (t:TypeId):TK->Prop
 | .int k=>P.underlying t=some (.int k)
 | .bool=>P.underlying t=some .bool
 | .str=>P.underlying t=some .string
 | .ptr e=>P.underlying t=some (.pointer e)
 | .slice e=>P.underlying t=some (.slice e)
 | .struct fs=>(match P.underlying t with
   | some (.struct fa)=>some (fa.toList.map fun f=>(f.offset,f.type))
   | _=>none)=some fs
 | .array n e=>P.underlying t=some (.array n e)
 | .other=>True

structure TIok (P:Program) (t:TypeId) (ti:TI):Prop where
 kind:ti.kind.desc P t
 info:(P.info? t).map (fun i=>(i.size,i.bytes,i.zero.map fun z=>z.cells.toList))=some (ti.size,ti.bytes,some (zVal ti.zero))
 zok:zok ti.zero=true/\(zVal ti.zero).length=ti.size
 key:(if ti.key then P.keyTypeAt 8 t && !(P.eqGuardType P.depth t) else true)=true

def lk {α:Type}:List (Nat×α)->Nat->Option α
 | [],_=>none
 | (k,a) :: r,n=>match Nat.beq k n with
   | true=>some a
   | false=>lk r n

theorem qkZ {α:Type}:∀{l:List (Nat×α)} {n:Nat} {a:α},lk l n=some a->(n,a)∈l
 | [],_,_,h=>by cases h
 | (k,b) :: r,n,a,h=>by
   simp only [lk] at h
   split at h
   ·rename_i hk
    cases h
    rw [Nat.eq_of_beq_eq_true hk]
    exact List.mem_cons_self
   ·exact List.mem_cons_of_mem _ (qkZ h)

abbrev TB:=List (Nat×TI)

def tabList:List Nat:=[0,1,56,2,57,49,28,3,61,58,42,50,38,29,17,4,62,47,59,36,45,43,51,22,53,39,33,30,24,18,12,5,63,55,48,27,60,41,37,16,46,35,44,21,52,32,23,11,54,26,40,15,34,20,31,10,25,14,19,9,13,8,7,6]
def tabCells:List Value:=tabList.map fun n:Nat => .int .u8 (n:Int)
def hasTab (P:Program):Bool:=match P.globals[0]? with
 | some g=>g.name == "math/bits.deBruijn64tab"
 | none=>false
def TBok0 (P:Program) (tb:TB):Prop:=∀x∈tb,TIok P x.1 x.2

def tabB (tb:TB):Bool:=match tb with
 | a :: b :: _=>Nat.beq a.1 b.1
 | _=>false

def TBok (P:Program) (tb:TB):Prop:=TBok0 P tb/\(tabB tb=true->hasTab P=true)
theorem TBok.get {P:Program} {tb:TB} (h:TBok P tb) {t:Nat} {ti:TI} (hl:lk tb t=some ti):TIok P t ti:=h.1 _ (qkZ hl)

def wrB (tb:TB):Bool:=match tb with
 | a :: _ :: c :: _=>Nat.beq a.1 c.1
 | _=>false
def wr (tb:TB):TB:=match tb with
 | a :: b :: r=>a :: b :: a :: b :: r
 | l=>l
theorem wr_ok {P:Program} {tb:TB} (h:TBok P tb):TBok P (wr tb):=by
 match tb,h with
 | [],h=>exact h
 | [_],h=>exact h
 | a :: b :: r,h=>exact ⟨fun x hx=>h.1 x (by simp [wr] at hx ⊢; rcases hx with h | h | h | h | h <;> simp [h]),h.2⟩

structure Ob where
 tag:List (List Int)
 holds:Nat->(Nat->Prop)->World->Prop
 here:∀b S w w',(∀x,S x->w'.heap[x]? = w.heap[x]?)->holds b S w->holds b S w'
 peek:List AV:=[]
 peekOk:∀b S w,holds b S w->peek=[]\/∃cs T fr,w.heap[b]? = some (.cells cs T fr)/\zf5 peek <= cs.size/\Vs (fun _=>none) noIds peek (cs.toList.take (zf5 peek)):=by exact fun _ _ _ _ => .inl rfl

inductive Item where
 | cells (T:TypeId) (l:List AV)
 | row (T:TypeId) (es cap n:Nat) (f:Nat->List AV)
 | view (es n:Nat) (f:Nat->List AV)
 | obj (A:Ob)
 | gone
 | junk
 | fence

abbrev AH:=List Item
abbrev Fr:=List AV

def Sat (R:Nat->Option Obj) (ids:Nat->Option Nat) (S:Nat->Prop) (w:World) (p:Nat):Item->Prop
 | .cells T l=>∃b cs,ids p=some b/\S b/\w.heap[b]? = some (.cells cs T (0,0))/\Vs R ids l cs.toList
 | .row T es cap n f=>(ids p=none/\n=0/\cap=0) \/
   ∃b cur,ids p=some b/\S b/\w.heap[b]? = some (.cells cur T (0,0))/\n <= cap/\cap <= maxLen/\cur.size=cap*es/\Vs R ids [.arr es n f] (cur.toList.take (es*n))
 | .view es n f=>∃b cur T fr,ids p=some b/\S b/\w.heap[b]? = some (.cells cur T fr)/\es*n <= cur.size/\Vs R ids [.arr es n f] (cur.toList.take (es*n))
 | .obj A=>∃b,ids p=some b/\S b/\A.holds b S w
 | .gone=>True
 | .junk=>True
 | .fence=>True

structure Rep (W:Base) (D:Nat->Prop) (R:Nat->Option Obj) (ids:Nat->Option Nat) (own:Nat->Option Nat) (H:AH) (w:World):Prop where
 os:w.os=W.os
 tape:w.tape=W.tape
 output:w.output=W.output
 size:W.heap.size <= w.heap.size
 owns:∀b p,own b=some p->b<w.heap.size/\p<H.length/\R b=none/\(D b\/W.heap.size <= b)
 keep:∀b,b<W.heap.size->¬D b->w.heap[b]? = W.heap[b]?
 ro:∀b o,R b=some o->w.heap[b]? = some o
 items:∀p it,H[p]? = some it->Sat R ids (fun b=>own b=some p) w p it
 blind:∀p,H.length <= p->ids p=none
 low:∀b o,W.R b=some o->R b=some o
 high:∀b o,R b=some o->W.R b=some o
 pins:∀p o,W.pins p=some o->ids p=o/\H[p]? = some .gone
 stay:H[W.nst]? = some .fence->∀q,q<W.nst->ids q=W.ids0 q

def ev (F:Fr):Operand->AV
 | .tmp t=>F.getD t .any
 | .const v=>ziY v
 | .func f => .fn f
 | _ => .any

theorem Ts.get {F:Fr} {vs:List Value} (h:Ts R ids F vs) (t:Nat) (u:Value):V R ids (F.getD t .any) (vs.getD t u):=by
 match h,t with
 | .nil,_=>simp; exact .any _
 | .cons a v as vs h1 h2,0=>simpa using h1
 | .cons a v as vs h1 h2,t+1=>simpa using h2.get t u

theorem Ts.length {F:Fr} {vs:List Value} (h:Ts R ids F vs):F.length=vs.length:=by
 match h with
 | .nil=>rfl
 | .cons a v as vs h1 h2=>simp [h2.length]

theorem Ts.set {F:Fr} {vs:List Value} (h:Ts R ids F vs) (t:Nat) {a:AV} {v:Value} (hv:V R ids a v):Ts R ids (F.set t a) (vs.set t v):=by
 match h,t with
 | .nil,_=>exact .nil
 | .cons a' v' as vs h1 h2,0=>exact .cons _ _ _ _ hv h2
 | .cons a' v' as vs h1 h2,t+1=>exact .cons _ _ _ _ h1 (h2.set t hv)

theorem ev_ok {F:Fr} {a:Act} (h:Ts R ids F a.tmps.toList) (x:Operand):V R ids (ev F x) (a.eval x):=by
 cases x with
 | tmp t =>
   have:=h.get t undef
   simpa [ev,Act.eval] using this
 | const v=>exact znO v
 | global g=>exact .any _
 | func f=>exact .fn f

def BC (b:Bool) (t e:Prop):Prop:=match b with
 | true=>t
 | false=>e
theorem BC.intro {b:Bool} {t e:Prop} (h1:b=true->t) (h2:b=false->e):BC b t e:=by cases b <;> simp_all [BC]

def I64 (x:Int):Prop:=-9223372036854775808 <= x/\x <= 9223372036854775807
theorem zbP {x:Int} (h:I64 x):IntKind.i64.wrap x=x:=by
 rw [IntKind.wrap_i64]; unfold I64 at h; omega

def kb:IntKind->IntKind->Bool
 | .i8,.i8 | .i16,.i16 | .i32,.i32 | .i64,.i64 | .u8,.u8 | .u16,.u16 | .u32,.u32 | .u64,.u64=>true
 | _,_=>false
theorem qgP {k j:IntKind} (h:kb k j=true):k=j:=by cases k <;> cases j <;> simp_all [kb]

def aNum (k:IntKind) (x:Int) (K:AV->Prop):Prop:=match k with
 | .i64=>I64 x/\K (.int .i64 x)
 | k=>∀n,n=k.wrap x->K (.int k n)

theorem zsH {k:IntKind} {x:Int} {K:AV->Prop} (h:aNum k x K):∃av,V R ids av (.int k (k.wrap x))/\K av:=by
 unfold aNum at h
 split at h
 ·exact ⟨_,by rw [zbP h.1]; exact .int _ _,h.2⟩
 ·exact ⟨_,.int _ _,h _ rfl⟩

def aInt (op:BinOp) (k:IntKind) (x y:Int) (K:AV->Prop):Prop:=match op with
 | .add=>aNum k (x+y) K
 | .sub=>aNum k (x-y) K
 | .mul=>aNum k (x*y) K
 | .quo=>y≠0/\aNum k (x.tdiv y) K
 | .rem=>y≠0/\∀n,n=x.tmod y->K (.int k n)
 | .and | .or | .xor | .andNot=>∀n,n=bits op k x y->K (.int k n)
 | .eql=>K (.bool (decide (x=y)))
 | .neq=>K (.bool (!decide (x=y)))
 | .lss=>K (.bool (decide (x<y)))
 | .leq=>K (.bool (decide (x <= y)))
 | .gtr=>K (.bool (decide (y<x)))
 | .geq=>K (.bool (decide (y <= x)))
 | _=>False

def aIntW (op:BinOp) (k:IntKind) (x y:Int) (K:AV->Prop):Prop:=match op with
 | .add=>∀n,n=k.wrap (x+y)->K (.int k n)
 | .sub=>∀n,n=k.wrap (x-y)->K (.int k n)
 | .mul=>∀n,n=k.wrap (x*y)->K (.int k n)
 | op=>aInt op k x y K

def qrW (op:BinOp) (k:IntKind) (x y:Int) (K:AV->Prop):Prop:=match op with
 | .shl=>0 <= y/\∀n,n=k.wrap (x*2 ^ (min y.toNat k.bits))->K (.int k n)
 | .shr=>0 <= y/\∀n,n=x.fdiv (2 ^ (min y.toNat k.bits))->K (.int k n)
 | _=>False

def aStr (op:BinOp) (l m:List Int) (K:AV->Prop):Prop:=match op with
 | .add=>l.length+m.length <= 9223372036854775807/\K (.str (l++m))
 | .eql=>K (.bool (decide (l=m)))
 | .neq=>K (.bool (!decide (l=m)))
 | _=>False

def zzG (tb:TB) (l:List AV) (off:Nat) (t:TypeId):Option (List AV):=match lk tb t with
 | some ti=>match zcN l off with
   | some q=>za7 q ti.size
   | none=>none
 | none=>none
def shFs (tb:TB) (g:TypeId->List AV->Prop) (l:List AV):List (Nat×TypeId)->Prop
 | []=>True
 | (off,t) :: r=>(match zzG tb l off t with
   | some s=>g t s
   | none=>False)/\shFs tb g l r
def shInt (k:IntKind):List AV->Prop
 | [.int k' _]=>(match kb k k' with
   | true=>True
   | false=>False)
 | _=>False
def qi0:List AV->Prop
 | [.bool _]=>True
 | _=>False
def shStr:List AV->Prop
 | [.str _]=>True
 | _=>False
def shArr (n sz:Nat) (g:List AV->Prop):List AV->Prop
 | [.arr es n' f]=>(match Nat.beq es sz&&Nat.beq n n' with
   | true=>∀i,i<n->g (f i)
   | false=>False)
 | _=>False

def shTy (tb:TB):Nat->TypeId->List AV->Prop
 | 0,_,_=>False
 | d+1,t,l=>match lk tb t with
   | some ti=>(match ti.kind with
     | .int k=>shInt k l
     | .bool=>qi0 l
     | .str=>shStr l
     | .struct fs=>shFs tb (shTy tb d) l fs
     | .array n e=>(match lk tb e with
       | some te=>shArr n te.size (shTy tb d e) l
       | none=>False)
     | _=>False)
   | none=>False
def eqInt:List AV->List AV->Prop
 | [.int _ x],[.int _ y]=>x=y
 | _,_=>False
def qrN:List AV->List AV->Prop
 | [.bool x],[.bool y]=>x=y
 | _,_=>False
def eqStr:List AV->List AV->Prop
 | [.str x],[.str y]=>x=y
 | _,_=>False
def eqArr (n:Nat) (g:List AV->List AV->Prop):List AV->List AV->Prop
 | [.arr _ _ f],[.arr _ _ f']=>∀i,i<n->g (f i) (f' i)
 | _,_=>False
def eqFs (tb:TB) (g:TypeId->List AV->List AV->Prop) (l m:List AV):List (Nat×TypeId)->Prop
 | []=>True
 | (off,t) :: r=>(match zzG tb l off t,zzG tb m off t with
   | some s,some s'=>g t s s'
   | _,_=>False)/\eqFs tb g l m r

def eqTy (tb:TB):Nat->TypeId->List AV->List AV->Prop
 | 0,_,_,_=>False
 | d+1,t,l,m=>match lk tb t with
   | some ti=>(match ti.kind with
     | .int _=>eqInt l m
     | .bool=>qrN l m
     | .str=>eqStr l m
     | .struct fs=>eqFs tb (eqTy tb d) l m fs
     | .array n e=>eqArr n (eqTy tb d e) l m
     | _=>False)
   | none=>False

def aggK:TK->Bool
 | .struct _=>true
 | .array _ _=>true
 | _=>false

def aBin (tb:TB) (op:BinOp) (t:TypeId) (a b:AV) (K:AV->Prop):Prop:=match op,a,b with
 | .shl,.int k x,.int _ y=>qrW .shl k x y K
 | .shr,.int k x,.int _ y=>qrW .shr k x y K
 | op,.int k x,.int k' y=>match kb k k' with
   | true=>match wrB tb with
     | true=>aIntW op k x y K
     | false=>aInt op k x y K
   | false=>False
 | op,.str l,.str m=>aStr op l m K
 | .eql,.bool x,.bool y=>match lk tb t with
   | some ⟨.bool,_,_,_,_⟩=>K (.bool (x == y))
   | _=>False
 | .neq,.bool x,.bool y=>match lk tb t with
   | some ⟨.bool,_,_,_,_⟩=>K (.bool (!(x == y)))
   | _=>False
 | .eql,.ptr ..,.nilp | .eql,.rp ..,.nilp=>match lk tb t with
   | some ⟨.ptr _,_,_,_,_⟩=>K (.bool false)
   | _=>False
 | .eql,.nilp,.nilp=>match lk tb t with
   | some ⟨.ptr _,_,_,_,_⟩=>K (.bool true)
   | _=>False
 | .neq,.ptr ..,.nilp | .neq,.rp ..,.nilp=>match lk tb t with
   | some ⟨.ptr _,_,_,_,_⟩=>K (.bool true)
   | _=>False
 | .neq,.nilp,.nilp=>match lk tb t with
   | some ⟨.ptr _,_,_,_,_⟩=>K (.bool false)
   | _=>False
 | .eql,.agg l,.agg m=>match lk tb t with
   | some ti=>(match ti.key&&aggK ti.kind with
     | true=>shTy tb 8 t l/\shTy tb 8 t m/\∀b,(b=true ↔ eqTy tb 8 t l m)->K (.bool b)
     | false=>False)
   | none=>False
 | .neq,.agg l,.agg m=>match lk tb t with
   | some ti=>(match ti.key&&aggK ti.kind with
     | true=>shTy tb 8 t l/\shTy tb 8 t m/\∀b,(b=true ↔ eqTy tb 8 t l m)->K (.bool (!b))
     | false=>False)
   | none=>False
 | .eql,.sl _ _ _ _ _ _ cap,.nils=>match lk tb t with
   | some ⟨.slice _,_,_,_,_⟩=>∀b,(cap≠0->b=false)->K (.bool b)
   | _=>False
 | .eql,.ro _ n _,.nils=>match lk tb t with
   | some ⟨.slice _,_,_,_,_⟩=>∀b,(n≠0->b=false)->K (.bool b)
   | _=>False
 | .eql,.nils,.nils=>match lk tb t with
   | some ⟨.slice _,_,_,_,_⟩=>K (.bool true)
   | _=>False
 | _,_,_=>False

section
variable {P:Program} {tb:TB} {K:AV->Prop} {w:World}

theorem qlE (x y:Int):(x == y)=decide (x=y):=by by_cases h:x=y <;> simp [h]

theorem qnO {op:BinOp} {k:IntKind} {x y:Int} (hop:op≠.shl/\op≠.shr) (t:TypeId) (h:aInt op k x y K) :
  ∃av v,(∀w,(binOp op t (.int k x) (.int k y)).run P w = .ok v w)/\V R ids av v/\K av:=by
 cases op <;> simp only [aInt] at h <;> try (first | exact h.elim | exact absurd rfl hop.1 | exact absurd rfl hop.2)
 case add=>obtain ⟨av,h1,h2⟩:=zsH (R:=R) (ids:=ids) h; exact ⟨av,_,fun w=>by simp [binOp,Op.intArith],h1,h2⟩
 case sub=>obtain ⟨av,h1,h2⟩:=zsH (R:=R) (ids:=ids) h; exact ⟨av,_,fun w=>by simp [binOp,Op.intArith],h1,h2⟩
 case mul=>obtain ⟨av,h1,h2⟩:=zsH (R:=R) (ids:=ids) h; exact ⟨av,_,fun w=>by simp [binOp,Op.intArith],h1,h2⟩
 case quo=>obtain ⟨av,h1,h2⟩:=zsH (R:=R) (ids:=ids) h.2; exact ⟨av,_,fun w=>by simp [binOp,Op.intDiv,h.1],h1,h2⟩
 case rem=>exact ⟨_,_,fun w=>by simp [binOp,Op.intDiv,h.1],.int _ _,h.2 _ rfl⟩
 case and=>exact ⟨_,_,fun w=>by simp [binOp,Op.intBits,bits],.int _ _,h _ rfl⟩
 case or=>exact ⟨_,_,fun w=>by simp [binOp,Op.intBits,bits],.int _ _,h _ rfl⟩
 case xor=>exact ⟨_,_,fun w=>by simp [binOp,Op.intBits,bits],.int _ _,h _ rfl⟩
 case andNot=>exact ⟨_,_,fun w=>by simp [binOp,Op.intBits,bits],.int _ _,h _ rfl⟩
 case eql=>exact ⟨.bool (x == y),.bool (x == y),fun w=>by simp [binOp,Op.intCmp],.bool _,by rw [qlE]; exact h⟩
 case neq=>exact ⟨.bool (x != y),.bool (x != y),fun w=>by simp [binOp,Op.intCmp],.bool _,by rw [bne,qlE]; exact h⟩
 case lss=>exact ⟨_,_,fun w=>by simp [binOp,Op.intCmp],.bool _,h⟩
 case leq=>exact ⟨_,_,fun w=>by simp [binOp,Op.intCmp],.bool _,h⟩
 case gtr=>exact ⟨_,_,fun w=>by simp [binOp,Op.intCmp],.bool _,h⟩
 case geq=>exact ⟨_,_,fun w=>by simp [binOp,Op.intCmp],.bool _,h⟩

theorem qq0 {op:BinOp} {k:IntKind} {x y:Int} (hop:op≠.shl/\op≠.shr) (t:TypeId) (h:aIntW op k x y K) :
  ∃av v,(∀w,(binOp op t (.int k x) (.int k y)).run P w = .ok v w)/\V R ids av v/\K av:=by
 unfold aIntW at h
 split at h
 ·exact ⟨_,_,fun w=>by simp [binOp,Op.intArith],.int _ _,h _ rfl⟩
 ·exact ⟨_,_,fun w=>by simp [binOp,Op.intArith],.int _ _,h _ rfl⟩
 ·exact ⟨_,_,fun w=>by simp [binOp,Op.intArith],.int _ _,h _ rfl⟩
 ·exact qnO hop t h

theorem zkP (l:List Int):(bytesOf l).toList=l.map fun x=>x.toNat.toUInt8:=by
 unfold bytesOf; simp [ByteArray.toList_eq]

theorem zr4 {l m:List Int} (hl:zgL l) (hm:zgL m) (h:(bytesOf l).toList=(bytesOf m).toList):l=m:=by
 rw [zkP,zkP] at h
 induction l generalizing m with
 | nil=>cases m with
   | nil=>rfl
   | cons y m=>simp at h
 | cons x l ih=>cases m with
   | nil=>simp at h
   | cons y m =>
     simp only [List.map_cons,List.cons.injEq] at h
     have hx:=hl x List.mem_cons_self
     have hy:=hm y List.mem_cons_self
     have h1:x=y:=by
      have:=congrArg UInt8.toNat h.1
      simp at this
      omega
     rw [h1,ih (fun z hz=>hl z (List.mem_cons_of_mem _ hz)) (fun z hz=>hm z (List.mem_cons_of_mem _ hz)) h.2]

theorem zdH (l:List Int):(bytesOf l).size=l.length:=by simp [bytesOf,ByteArray.size]
theorem zsS (l m:List Int):bytesOf (l++m)=bytesOf l++bytesOf m:=by
 apply ByteArray.ext
 simp [bytesOf]

theorem aStr_ok {op:BinOp} {l m:List Int} (hl:zgL l) (hm:zgL m) (t:TypeId) (h:aStr op l m K) :
  ∃av v,(∀w,(binOp op t (.string (bytesOf l)) (.string (bytesOf m))).run P w = .ok v w)/\V R ids av v/\K av:=by
 have heq:((bytesOf l).toList == (bytesOf m).toList)=decide (l=m):=by
  by_cases e:l=m
  ·subst e; simp
  ·simp only [e,decide_false]
   rw [beq_eq_false_iff_ne]
   exact fun h=>e (zr4 hl hm h)
 cases op <;> simp only [aStr] at h <;> try exact h.elim
 case add =>
  refine ⟨_,.string (bytesOf l++bytesOf m),?_,?_,h.2⟩
  ·have:¬(((bytesOf l).size+(bytesOf m).size:Nat):Int)>IntKind.i64.max:=by
    rw [zdH,zdH]; simp [IntKind.max,IntKind.signed,IntKind.bits]; omega
   intro w; simp only [binOp,Op.stringOp,this,if_false,Sem.run_pure]
  ·rw [<- zsS]
   refine .str _ fun x hx=>?_
   rcases List.mem_append.1 hx with h | h
   ·exact hl x h
   ·exact hm x h
 case eql=>exact ⟨_,_,fun w=>by simp only [binOp,Op.stringOp,heq,Sem.run_pure],.bool _,h⟩
 case neq=>exact ⟨_,_,fun w=>by simp only [binOp,Op.stringOp,heq,Sem.run_pure],.bool _,h⟩

theorem V.int_inv {k:IntKind} {n:Int} {v:Value} (h:V R ids (.int k n) v):v = .int k n:=by cases h; rfl
theorem V.bool_inv {b:Bool} {v:Value} (h:V R ids (.bool b) v):v = .bool b:=by cases h; rfl
theorem V.str_inv {l:List Int} {v:Value} (h:V R ids (.str l) v):zgL l/\v = .string (bytesOf l):=by cases h; exact ⟨by assumption,rfl⟩
theorem V.nilp_inv {v:Value} (h:V R ids .nilp v):v = .pointer none:=by cases h; rfl
theorem V.nils_inv {v:Value} (h:V R ids .nils v):v = .slice none 0 0:=by cases h; rfl
theorem V.ptr_some {p off:Nat} {path:List (Nat×Nat×Nat)} {v:Value} (h:V R ids (.ptr p path off) v):∃b,ids p=some b/\v = .pointer (some ⟨b,poff path+off,none⟩):=by
 cases h; exact ⟨_,by assumption,rfl⟩
theorem V.rp_some {segs:List AV} {off:Nat} {v:Value} (h:V R ids (.rp segs off) v):∃a,v = .pointer (some a):=by cases h; exact ⟨_,rfl⟩

theorem zqE {e:TypeId} {t:TypeId} (d:Nat) (a:Option Addr) (ht:P.underlying t=some (.pointer e)) :
  (Op.equalIn (d+1) t (.pointer a) (.pointer none)).run P w = .ok a.isNone w:=by
 cases a <;> simp [Op.equalIn,run_underlying ht]

theorem zoZ {t:TypeId} (d:Nat) (x y:Bool) (ht:P.underlying t=some .bool) :
  (Op.equalIn (d+1) t (.bool x) (.bool y)).run P w = .ok (x == y) w:=by
 simp [Op.equalIn,run_underlying ht]

theorem run_eq_nil {e:TypeId} {t:TypeId} (a:Option Addr) (ht:P.underlying t=some (.pointer e)) :
  (∀w,(binOp .eql t (.pointer a) (.pointer none)).run P w = .ok (.bool a.isNone) w)/\(∀w,(binOp .neq t (.pointer a) (.pointer none)).run P w = .ok (.bool (!a.isNone)) w):=by
 have h:=fun w=>zqE (P:=P) (w:=w) 9999 a ht
 constructor <;> intro w <;> simp only [binOp,Op.equal,Op.maxDepth,Sem.run_bind,h,Result.andThen_ok,Sem.run_pure]

theorem run_eq_bool {t:TypeId} (x y:Bool) (ht:P.underlying t=some .bool) :
  (∀w,(binOp .eql t (.bool x) (.bool y)).run P w = .ok (.bool (x == y)) w)/\(∀w,(binOp .neq t (.bool x) (.bool y)).run P w = .ok (.bool (!(x == y))) w):=by
 have h:=fun w=>zoZ (P:=P) (w:=w) 9999 x y ht
 constructor <;> intro w <;> simp only [binOp,Op.equal,Op.maxDepth,Sem.run_bind,h,Result.andThen_ok,Sem.run_pure]

theorem run_eq_nils {t e:TypeId} (a:Option Addr) (n c:Nat) (h:P.underlying t=some (.slice e)) (w:World):(binOp .eql t (.slice a n c) (.slice none 0 0)).run P w = .ok (.bool a.isNone) w:=by
 have k:∀d,(Op.equalIn (d+1) t (.slice a n c) (.slice none 0 0)).run P w = .ok a.isNone w:=fun d=>by
  cases a <;> simp [Op.equalIn,run_underlying h]
 have k:=k 9999
 simp only [binOp,Op.equal,Op.maxDepth,Sem.run_bind,k,Result.andThen_ok,Sem.run_pure]

end

section
variable {P:Program} {tb:TB}
def valOf (P:Program) (t:TypeId) (cs:List Value):Value:=match P.underlying t with
 | some (.struct _) | some (.array _ _) => .agg cs.toArray
 | _=>cs.headD .nilFunc
theorem TIok.cells {t:TypeId} {ti:TI} (h:TIok P t ti):P.cellsOf t=ti.size/\∃i,P.info? t=some i:=by
 have:=h.info
 cases hi:P.info? t with
 | none=>rw [hi] at this; cases this
 | some i=>rw [hi] at this; simp at this; exact ⟨by simp [Program.cellsOf,hi,this.1],i,rfl⟩
theorem zzF (ht:TBok P tb) {l s:List AV} {cs:List Value} {off:Nat} {t:TypeId} (hv:Vs R ids l cs) (h:zzG tb l off t=some s):Vs R ids s ((cs.drop off).take (P.cellsOf t)):=by
 unfold zzG at h
 split at h
 ·rename_i ti hl
  split at h
  ·rename_i q hd
   have h1:=zcQ hv hd
   have h2:=ze4 h1.1 h
   rw [(ht.get hl).cells.1]; exact h2.1
  ·cases h
 ·cases h
theorem zgP {t:TypeId} {m:Nat} {cs:List Value} {off:Nat} (hk:P.keyTypeAt m t=true) (hl:¬(∃fs,P.underlying t=some (.struct fs))->¬(∃n e,P.underlying t=some (.array n e))->((cs.drop off).take (P.cellsOf t)).length=1) (w:World) :
  (part t cs.toArray off).run P w = .ok (valOf P t ((cs.drop off).take (P.cellsOf t))) w:=by
 cases m with
 | zero=>simp [Program.keyTypeAt] at hk
 | succ m =>
   unfold Program.keyTypeAt at hk
   unfold valOf
   cases hu:P.underlying t with
   | none=>simp [hu] at hk
   | some kd =>
     obtain ⟨i,hi⟩:=info_of_underlying hu
     have plain:P.plainKey t=true->((cs.drop off).take (P.cellsOf t)).length=1->(part t cs.toArray off).run P w = .ok (((cs.drop off).take (P.cellsOf t)).headD .nilFunc) w:=fun hp h1=>by
      obtain ⟨a,ha⟩:=List.length_eq_one_iff.1 h1
      rw [ha]
      exact run_part_plain w hp (getElem?_of_chunk (c:=P.cellsOf t) (by simpa using ha))
     have agg:(part t cs.toArray off).run P w = .ok (.agg (cs.toArray.extract off (off+P.cellsOf t))) w->(part t cs.toArray off).run P w = .ok (.agg ((cs.drop off).take (P.cellsOf t)).toArray) w:=fun h=>by
      rw [h]; congr 2; simp [List.extract]
     cases kd
     case bool=>exact plain (by simp [Program.plainKey,hu]) (hl (by simp [hu]) (by simp [hu]))
     case int q=>exact plain (by simp [Program.plainKey,hu]) (hl (by simp [hu]) (by simp [hu]))
     case string=>exact plain (by simp [Program.plainKey,hu]) (hl (by simp [hu]) (by simp [hu]))
     case array n e=>exact agg (by simp [part,isAgg,run_underlying hu,run_sizeOf w hi])
     case struct fs=>exact agg (by simp [part,isAgg,run_underlying hu,run_sizeOf w hi])
     all_goals (simp [hu] at hk; done)

theorem qmC (ht:TBok P tb) {d dd m:Nat} (ih:∀(t:TypeId) (l l':List AV) (cs cs':List Value),P.keyTypeAt m t=true->shTy tb d t l->shTy tb d t l'->Vs R ids l cs->Vs R ids l' cs'->∀w,
   ∃r:Bool,(Op.equalIn (dd+d) t (valOf P t cs) (valOf P t cs')).run P w = .ok r w/\(r=true ↔ eqTy tb d t l l')) {l l':List AV} {cs cs':List Value} (hv:Vs R ids l cs) (hv':Vs R ids l' cs')
  (hone:∀(t:TypeId) (s:List AV),P.keyTypeAt m t=true->shTy tb d t s->¬(∃fs,P.underlying t=some (.struct fs))->¬(∃n e,P.underlying t=some (.array n e))->∃a,s=[a]/\a.size=1) (w:World) :
  ∀(fl:List Field),(∀f∈fl,f.name≠ "_"/\P.keyTypeAt m f.type=true)->shFs tb (shTy tb d) l (fl.map fun f=>(f.offset,f.type))->shFs tb (shTy tb d) l' (fl.map fun f=>(f.offset,f.type)) ->
  ∃r:Bool,(Op.eqFields (dd+d) cs.toArray cs'.toArray fl).run P w = .ok r w/\(r=true ↔ eqFs tb (eqTy tb d) l l' (fl.map fun f=>(f.offset,f.type)))
 | [],_,_,_=>⟨true,by simp [Op.eqFields],by simp [eqFs]⟩
 | f :: fl,hall,h,h'=>by
   obtain ⟨hn,hp⟩:=hall f (by simp)
   simp only [List.map_cons,shFs] at h h'
   obtain ⟨h1,h2⟩:=h
   obtain ⟨h1',h2'⟩:=h'
   split at h1
   ·rename_i s hs
    split at h1'
    ·rename_i s' hs'
     have v1:=zzF ht hv hs
     have v1':=zzF ht hv' hs'
     have len1:∀{s:List AV} {c:List Value},shTy tb d f.type s->Vs R ids s c->¬(∃fs,P.underlying f.type=some (.struct fs))->¬(∃n e,P.underlying f.type=some (.array n e))->c.length=1:=fun hs hc g1 g2=>by
      obtain ⟨a,rfl,ha⟩:=hone f.type _ hp hs g1 g2
      rw [hc.length]; simp [zf5,ha]
     have p1:=zgP (cs:=cs) (off:=f.offset) hp (len1 h1 v1) w
     have p2:=zgP (cs:=cs') (off:=f.offset) hp (len1 h1' v1') w
     obtain ⟨r,p3,hiff⟩:=ih f.type s s' _ _ hp h1 h1' v1 v1' w
     obtain ⟨r',hr',hiff'⟩:=qmC ht ih hv hv' hone w fl (fun g hg=>hall g (by simp [hg])) h2 h2'
     simp only [Op.eqFields,hn,ne_eq,not_false_eq_true,if_true,Sem.run_bind,p1,p2,p3,Result.andThen_ok,List.map_cons,eqFs,hs,hs']
     cases r
     ·exact ⟨false,by simp,by simp; intro e; exact absurd (hiff.2 e) (by simp)⟩
     ·exact ⟨r',by simpa using hr',by rw [hiff']; simp [hiff.1 rfl]⟩
    ·exact h1'.elim
   ·exact h1.elim

theorem zt8 {d:Nat} {e:TypeId} {n es:Nat} {f f':Nat->List AV} {cs cs':List Value} {w:World} {p:Nat->Prop}
  (hp:∀i,i<n->∃a b r,(part e cs.toArray (i*es)).run P w = .ok a w/\(part e cs'.toArray (i*es)).run P w = .ok b w/\(Op.equalIn d e a b).run P w = .ok r w/\(r=true ↔ p i)) :
  ∀(is:List Nat),(∀i∈is,i<n)->∃r:Bool,(Op.eqItems d e es cs.toArray cs'.toArray is).run P w = .ok r w/\(r=true ↔ ∀i∈is,p i)
 | [],_=>⟨true,by simp [Op.eqItems],by simp⟩
 | i :: is,hall=>by
   obtain ⟨a,b,r,p1,p2,p3,hiff⟩:=hp i (hall i (by simp))
   obtain ⟨r',hr',hiff'⟩:=zt8 (f:=f) (f':=f') hp is (fun g hg=>hall g (by simp [hg]))
   simp only [Op.eqItems,Sem.run_bind,p1,p2,p3,Result.andThen_ok]
   cases r
   ·exact ⟨false,by simp,by simp; intro e; exact absurd (hiff.2 e) (by simp)⟩
   ·exact ⟨r',by simpa using hr',by rw [hiff']; simp [hiff.1 rfl]⟩

theorem zp9 {k:IntKind} {l:List AV} (h:shInt k l):∃x,l=[.int k x]:=by
 unfold shInt at h
 split at h
 ·split at h
  ·rename_i e; obtain rfl:=qgP e; exact ⟨_,rfl⟩
  ·exact h.elim
 ·exact h.elim
theorem zm8 {l:List AV} (h:qi0 l):∃x,l=[.bool x]:=by
 unfold qi0 at h
 split at h
 ·exact ⟨_,rfl⟩
 ·exact h.elim
theorem zp8 {l:List AV} (h:shStr l):∃x,l=[.str x]:=by
 unfold shStr at h
 split at h
 ·exact ⟨_,rfl⟩
 ·exact h.elim
theorem zxG {n sz:Nat} {g:List AV->Prop} {l:List AV} (h:shArr n sz g l):∃f,l=[.arr sz n f]/\∀i,i<n->g (f i):=by
 unfold shArr at h
 split at h
 ·split at h
  ·rename_i e
   simp only [Bool.and_eq_true] at e
   rw [Nat.eq_of_beq_eq_true e.1,<- Nat.eq_of_beq_eq_true e.2]
   exact ⟨_,rfl,h⟩
  ·exact h.elim
 ·exact h.elim
theorem Vs.one_inv {a:AV} {cs:List Value} (ho:a.one=true) (h:Vs R ids [a] cs):∃v,cs=[v]/\V R ids a v:=by
 cases h with
 | one _ v _ vs _ h1 h2=>cases h2; exact ⟨v,rfl,h1⟩
 | arr=>simp [AV.one] at ho

theorem qdM (ht:TBok P tb) {d:Nat} {t:TypeId} {s:List AV} (h:shTy tb d t s) (g1:¬(∃fs,P.underlying t=some (.struct fs))) (g2:¬(∃n e,P.underlying t=some (.array n e))):∃a,s=[a]/\a.size=1:=by
 cases d with
 | zero=>exact h.elim
 | succ d =>
   unfold shTy at h
   cases hl:lk tb t with
   | none=>rw [hl] at h; exact h.elim
   | some ti =>
     rw [hl] at h
     have hk:=(ht.get hl).kind
     obtain ⟨kind,size,bytes,zero,key⟩:=ti
     cases kind with
     | int k=>obtain ⟨x,rfl⟩:=zp9 h; exact ⟨_,rfl,rfl⟩
     | bool=>obtain ⟨x,rfl⟩:=zm8 h; exact ⟨_,rfl,rfl⟩
     | str=>obtain ⟨x,rfl⟩:=zp8 h; exact ⟨_,rfl,rfl⟩
     | struct fs =>
       simp only [TK.desc] at hk
       split at hk
       ·rename_i fa hu; exact absurd ⟨fa,hu⟩ g1
       ·cases hk
     | array n e=>exact absurd ⟨_,_,hk⟩ g2
     | ptr e=>exact h.elim
     | slice e=>exact h.elim
     | other=>exact h.elim

theorem qcE (ht:TBok P tb) (dd:Nat):∀(d:Nat) {ids:Nat->Option Nat} (m:Nat) (t:TypeId) (l l':List AV) (cs cs':List Value),P.keyTypeAt m t=true->shTy tb d t l->shTy tb d t l'->Vs R ids l cs->Vs R ids l' cs'->∀w,
  ∃r:Bool,(Op.equalIn (dd+d) t (valOf P t cs) (valOf P t cs')).run P w = .ok r w/\(r=true ↔ eqTy tb d t l l')
 | 0,_,_,_,_,_,_,_,_,h,_,_,_=>h.elim
 | d+1,ids,m,t,l,l',cs,cs',hm,h,h',hv,hv'=>fun w=>by
   cases m with
   | zero=>simp [Program.keyTypeAt] at hm
   | succ m =>
   unfold shTy at h h'
   unfold eqTy
   rw [show dd+(d+1)=(dd+d)+1 from rfl]
   cases hl:lk tb t with
   | none=>rw [hl] at h; exact h.elim
   | some ti =>
   rw [hl] at h h'
   have hk:=(ht.get hl).kind
   obtain ⟨kind,size,bytes,zero,key⟩:=ti
   cases kind with
   | int k =>
     have hu:P.underlying t=some (.int k):=hk
     obtain ⟨x,rfl⟩:=zp9 h
     obtain ⟨y,rfl⟩:=zp9 h'
     obtain ⟨v,rfl,q1⟩:=hv.one_inv rfl
     obtain ⟨v',rfl,q1'⟩:=hv'.one_inv rfl
     obtain rfl:=q1.int_inv
     obtain rfl:=q1'.int_inv
     exact ⟨x == y,by simp [valOf,hu,Op.equalIn,run_underlying hu],by simp [eqInt]⟩
   | bool =>
     have hu:P.underlying t=some .bool:=hk
     obtain ⟨x,rfl⟩:=zm8 h
     obtain ⟨y,rfl⟩:=zm8 h'
     obtain ⟨v,rfl,q1⟩:=hv.one_inv rfl
     obtain ⟨v',rfl,q1'⟩:=hv'.one_inv rfl
     obtain rfl:=q1.bool_inv
     obtain rfl:=q1'.bool_inv
     exact ⟨x == y,by simp [valOf,hu,Op.equalIn,run_underlying hu],by simp [qrN]⟩
   | str =>
     have hu:P.underlying t=some .string:=hk
     obtain ⟨x,rfl⟩:=zp8 h
     obtain ⟨y,rfl⟩:=zp8 h'
     obtain ⟨v,rfl,q1⟩:=hv.one_inv rfl
     obtain ⟨v',rfl,q1'⟩:=hv'.one_inv rfl
     obtain ⟨o1,rfl⟩:=q1.str_inv
     obtain ⟨o2,rfl⟩:=q1'.str_inv
     refine ⟨(bytesOf x).toList == (bytesOf y).toList,?_,?_⟩
     ·have:=run_equalIn_string w (dd+d) t (bytesOf x) (bytesOf y) hu
      simpa [valOf,hu] using this
     ·simp only [beq_iff_eq,eqStr]
      exact ⟨fun e=>zr4 o1 o2 e,fun e=>by rw [e]⟩
   | struct fs =>
     simp only [TK.desc] at hk
     split at hk
     ·rename_i fa hu
      cases hk
      unfold Program.keyTypeAt at hm
      simp only [hu,Bool.and_eq_true,Bool.not_eq_true'] at hm
      have hfs:P.fieldsOf t=fa:=by simp [Program.fieldsOf,hu]
      have e1:valOf P t cs = .agg cs.toArray:=by simp [valOf,hu]
      have e2:valOf P t cs' = .agg cs'.toArray:=by simp [valOf,hu]
      rw [e1,e2,run_equalIn_struct w (dd+d) t cs.toArray cs'.toArray (by rw [hfs]; exact hu) hm.2,hfs]
      exact qmC ht (fun t l l' cs cs' a b c e f=>qcE ht dd d m t l l' cs cs' a b c e f) hv hv' (fun t s a b c e=>qdM ht b c e) w fa.toList (fun f hf=>by
       have:=Array.all_eq_true_iff_forall_mem.1 hm.1.1 f (Array.mem_toList_iff.1 hf)
       simp only [Bool.and_eq_true,bne_iff_ne,ne_eq] at this
       exact this) h h'
     ·cases hk
   | array n e =>
     have hu:P.underlying t=some (.array n e):=hk
     unfold Program.keyTypeAt at hm
     simp only [hu] at hm
     simp only at h h'
     split at h
     ·rename_i te hte
      rw [hte] at h'
      obtain ⟨f,rfl,hf⟩:=zxG h
      obtain ⟨f',rfl,hf'⟩:=zxG h'
      obtain ⟨hc,i,hi⟩:=(ht.get hte).cells
      have e1:valOf P t cs = .agg cs.toArray:=by simp [valOf,hu]
      have e2:valOf P t cs' = .agg cs'.toArray:=by simp [valOf,hu]
      rw [e1,e2,run_equalIn_array w (dd+d) cs.toArray cs'.toArray hu hi,hc]
      have key:∀i,i<n->∃a b r,(part e cs.toArray (i*te.size)).run P w = .ok a w/\(part e cs'.toArray (i*te.size)).run P w = .ok b w/\(Op.equalIn (dd+d) e a b).run P w = .ok r w/\(r=true ↔ eqTy tb d e (f i) (f' i)):=fun i hlt=>by
       have v1:=(hv.elem hlt).1
       have v2:=(hv'.elem hlt).1
       have s1:=hf i hlt
       have s2:=hf' i hlt
       have len1:∀{s:List AV} {c:List Value},shTy tb d e s->Vs R noIds s c->¬(∃fs,P.underlying e=some (.struct fs))->¬(∃n e',P.underlying e=some (.array n e'))->c.length=1:=fun hs hc g1 g2=>by
        obtain ⟨a,rfl,ha⟩:=qdM ht hs g1 g2
        rw [hc.length]; simp [zf5,ha]
       rw [<- hc] at v1 v2 ⊢
       have p1:=zgP (cs:=cs) (off:=i*P.cellsOf e) hm (len1 s1 v1) w
       have p2:=zgP (cs:=cs') (off:=i*P.cellsOf e) hm (len1 s2 v2) w
       obtain ⟨r,p3,hiff⟩:=qcE ht dd d m e (f i) (f' i) _ _ hm s1 s2 v1 v2 w
       exact ⟨_,_,r,p1,p2,p3,hiff⟩
      obtain ⟨r,h1,h2⟩:=zt8 (f:=f) (f':=f') key (List.range n) (fun i hi=>List.mem_range.1 hi)
      exact ⟨r,h1,h2.trans ⟨fun g i hi=>g i (List.mem_range.2 hi),fun g i hi=>g i (List.mem_range.1 hi)⟩⟩
     ·exact h.elim
   | ptr e=>exact h.elim
   | slice e=>exact h.elim
   | other=>exact h.elim
end

section
variable {P:Program} {tb:TB} {K:AV->Prop} {w:World}

theorem TIok.keyed {t:TypeId} {ti:TI} (h:TIok P t ti) (hk:ti.key=true):P.keyTypeAt 8 t=true/\P.eqGuardType P.depth t=false:=by
 have:=h.key
 rw [hk] at this
 simpa using this
theorem qrX (ht:TBok P tb) {op:BinOp} (hop:op = .eql\/op = .neq) {t:TypeId} {ti:TI} (hl:lk tb t=some ti) (hkey:(ti.key&&aggK ti.kind)=true) {l m:List AV} {va vb:Value} (ha:V R ids (.agg l) va) (hb:V R ids (.agg m) vb)
  (h1:shTy tb 8 t l) (h2:shTy tb 8 t m) {f:Bool->Bool} (hf:f=match op with | .eql=>id | _=>not) (h:∀b:Bool,(b=true ↔ eqTy tb 8 t l m)->K (.bool (f b))) :
  ∃av v,(∀w,(binOp op t va vb).run P w = .ok v w)/\V R ids av v/\K av:=by
 cases ha with
 | agg _ cs hc =>
 cases hb with
 | agg _ cs' hc' =>
 rw [Bool.and_eq_true] at hkey
 have hk:=((ht.get hl).keyed hkey.1).1
 have hval:∀c:List Value,valOf P t c = .agg c.toArray:=fun c=>by
  have hd:=(ht.get hl).kind
  have hx:=hkey.2
  cases e:ti.kind <;> rw [e] at hd hx <;> simp [aggK] at hx
  ·simp only [TK.desc] at hd
   split at hd
   ·rename_i fa hu; simp [valOf,hu]
   ·cases hd
  ·have hu:P.underlying t=some (.array _ _):=hd
   simp [valOf,hu]
 have key:∀w,∃r:Bool,(Op.equalIn (9992+8) t (.agg cs.toArray) (.agg cs'.toArray)).run P w = .ok r w/\(r=true ↔ eqTy tb 8 t l m):=fun w=>by
  have:=qcE ht 9992 8 8 t l m cs cs' hk h1 h2 hc hc' w
  rwa [hval,hval] at this
 have same:∃r:Bool,(r=true ↔ eqTy tb 8 t l m)/\∀w,(Op.equalIn 10000 t (.agg cs.toArray) (.agg cs'.toArray)).run P w = .ok r w:=by
  by_cases hp:eqTy tb 8 t l m
  ·refine ⟨true,by simp [hp],fun w=>?_⟩
   obtain ⟨r,h1,h2⟩:=key w
   rw [h2.2 hp] at h1; exact h1
  ·refine ⟨false,by simp [hp],fun w=>?_⟩
   obtain ⟨r,h1,h2⟩:=key w
   have:r=false:=by cases r <;> simp_all
   rw [this] at h1; exact h1
 obtain ⟨r,hr,hrun⟩:=same
 refine ⟨.bool (f r),.bool (f r),fun w=>?_,.bool _,h r hr⟩
 rcases hop with rfl | rfl <;> subst hf <;> simp only [binOp,Op.equal,Op.maxDepth,Sem.run_bind,hrun,Result.andThen_ok,Sem.run_pure,id]

theorem aBin_ok (ht:TBok P tb) {op:BinOp} {t:TypeId} {a b:AV} {va vb:Value} (ha:V R ids a va) (hb:V R ids b vb) (h:aBin tb op t a b K) :
  ∃av v,(∀w,(binOp op t va vb).run P w = .ok v w)/\V R ids av v/\K av:=by
 unfold aBin at h
 split at h
 ·obtain rfl:=ha.int_inv; obtain rfl:=hb.int_inv
  exact ⟨_,_,fun w=>by simp [binOp,Op.shift,Int.not_lt.2 h.1],.int _ _,h.2 _ rfl⟩
 ·obtain rfl:=ha.int_inv; obtain rfl:=hb.int_inv
  exact ⟨_,_,fun w=>by simp [binOp,Op.shift,Int.not_lt.2 h.1],.int _ _,h.2 _ rfl⟩
 ·rename_i op k x k' y h1 h2
  obtain rfl:=ha.int_inv; obtain rfl:=hb.int_inv
  split at h
  ·rename_i hk
   obtain rfl:=qgP hk
   split at h
   ·exact qq0 ⟨h1,h2⟩ t h
   ·exact qnO ⟨h1,h2⟩ t h
  ·exact h.elim
 ·obtain ⟨hl,rfl⟩:=ha.str_inv; obtain ⟨hm,rfl⟩:=hb.str_inv
  exact aStr_ok hl hm t h
 ·obtain rfl:=ha.bool_inv; obtain rfl:=hb.bool_inv
  split at h
  ·rename_i hl; exact ⟨_,_,(run_eq_bool _ _ (ht.get hl).kind).1,.bool _,h⟩
  ·exact h.elim
 ·obtain rfl:=ha.bool_inv; obtain rfl:=hb.bool_inv
  split at h
  ·rename_i hl; exact ⟨_,_,(run_eq_bool _ _ (ht.get hl).kind).2,.bool _,h⟩
  ·exact h.elim
 ·obtain ⟨_,_,rfl⟩:=ha.ptr_some; obtain rfl:=hb.nilp_inv
  split at h
  ·rename_i hl; exact ⟨_,_,(run_eq_nil _ (ht.get hl).kind).1,.bool _,h⟩
  ·exact h.elim
 ·obtain ⟨_,rfl⟩:=ha.rp_some; obtain rfl:=hb.nilp_inv
  split at h
  ·rename_i hl; exact ⟨_,_,(run_eq_nil _ (ht.get hl).kind).1,.bool _,h⟩
  ·exact h.elim
 ·obtain rfl:=ha.nilp_inv; obtain rfl:=hb.nilp_inv
  split at h
  ·rename_i hl; exact ⟨_,_,(run_eq_nil _ (ht.get hl).kind).1,.bool _,h⟩
  ·exact h.elim
 ·obtain ⟨_,_,rfl⟩:=ha.ptr_some; obtain rfl:=hb.nilp_inv
  split at h
  ·rename_i hl; exact ⟨_,_,(run_eq_nil _ (ht.get hl).kind).2,.bool _,h⟩
  ·exact h.elim
 ·obtain ⟨_,rfl⟩:=ha.rp_some; obtain rfl:=hb.nilp_inv
  split at h
  ·rename_i hl; exact ⟨_,_,(run_eq_nil _ (ht.get hl).kind).2,.bool _,h⟩
  ·exact h.elim
 ·obtain rfl:=ha.nilp_inv; obtain rfl:=hb.nilp_inv
  split at h
  ·rename_i hl; exact ⟨_,_,(run_eq_nil _ (ht.get hl).kind).2,.bool _,h⟩
  ·exact h.elim
 ·split at h
  ·rename_i ti hl
   split at h
   ·rename_i hkey
    exact qrX ht (.inl rfl) hl hkey ha hb h.1 h.2.1 (f:=id) rfl h.2.2
   ·exact h.elim
  ·exact h.elim
 ·split at h
  ·rename_i ti hl
   split at h
   ·rename_i hkey
    exact qrX ht (.inr rfl) hl hkey ha hb h.1 h.2.1 (f:=not) rfl h.2.2
   ·exact h.elim
  ·exact h.elim
 ·obtain rfl:=hb.nils_inv
  split at h
  ·rename_i hl
   cases ha with
   | sl p path off es lo n cap a h1 h2 h3=>exact ⟨.bool a.isNone,_,run_eq_nils _ _ _ (ht.get hl).kind,.bool _,h _ (fun hc=>by obtain ⟨b,_,rfl⟩:=h1 hc; rfl)⟩
  ·exact h.elim
 ·obtain rfl:=hb.nils_inv
  split at h
  ·rename_i hl
   cases ha with
   | ro es n f b o cap cs=>exact ⟨.bool false,_,run_eq_nils _ _ _ (ht.get hl).kind,.bool _,h _ (fun _=>rfl)⟩
   | ro0 es f a cap=>exact ⟨.bool a.isNone,_,run_eq_nils _ _ _ (ht.get hl).kind,.bool _,h _ (fun hc=>absurd rfl hc)⟩
  ·exact h.elim
 ·obtain rfl:=ha.nils_inv
  obtain rfl:=hb.nils_inv
  split at h
  ·rename_i hl; exact ⟨.bool true,_,run_eq_nils none 0 0 (ht.get hl).kind,.bool _,h⟩
  ·exact h.elim
 ·exact h.elim
end

end Go.Sx
