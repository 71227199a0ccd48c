import Derived.Test.YtceockijgbkneaaDoorLaw21
/- The law TicketStack. -/
namespace Yard
open Go Go.Sx Go.Proofs
set_option linter.unusedVariables false
set_option linter.unusedSimpArgs false
set_option maxRecDepth 4000
set_option maxHeartbeats 4000000

abbrev stkR (cap : Nat) (l : List Nat) : Sx.Item := rowN 3 .i64 cap l
abbrev stkS (cap : Nat) (l : List Nat) : AV := .sl 5 [] 0 1 0 l.length cap
def stkRen (F : Fr) (_ : AH) : Option Ren := match F.getD 11 .any with
  | .sl q _ _ _ _ _ _ => some (idRen 5 5 ++ [some q])
  | _ => some (idRen 5 5 ++ [none])
def stkRen3 (F : Fr) (_ : AH) : Option Ren := match F.getD 11 .any, F.getD 14 .any with
  | .sl q _ _ _ _ _ _, .ptr p _ _ => some (idRen 5 5 ++ [some q, some p])
  | _, .ptr p _ _ => some (idRen 5 5 ++ [none, some p])
  | _, _ => none
def ticketStackC : Ctr := pureC (List Nat) (fun x => (∀ c ∈ x, c < 256) ∧ x.length ≤ 9223372036854775807) (fun x => [natsA .u8 x]) (fun _ => .bool true)
abbrev StkT : Type := Nat × StoreT × TickT × Nat × List Nat
def stk1 (x : List Nat) : LA := { T := Nat × StoreT × TickT, F := fun t => frm 149 [(0, natsA .u8 x), (3, .ptr 1 [] 0), (6, .ptr 4 [] 0), (7, i64 (t.1 : Nat))], H := fun t => storeH t.2.1 ++ [tickC t.2.2] }
abbrev stkF (x : List Nat) (t : StkT) : List (Nat × AV) := [(0, natsA .u8 x), (3, .ptr 1 [] 0), (6, .ptr 4 [] 0), (11, stkS t.2.2.2.1 t.2.2.2.2), (12, i64 (t.1 : Nat))]
abbrev stkH (t : StkT) : AH := storeH t.2.1 ++ [tickC t.2.2.1, stkR t.2.2.2.1 t.2.2.2.2]
def stk2 (x : List Nat) : LA := { T := StkT, F := fun t => frm 149 (stkF x t), H := stkH, ρ₁ := stkRen, ρ₂ := stkRen }
def stk3 (x : List Nat) : LA := { T := StkT × TickT × Int × Int × Bool × Nat, F := fun t => frm 149 (stkF x t.1 ++ [(13, i64 t.2.2.1), (14, .ptr 6 [] 0), (15, i64 t.2.2.2.1), (16, .bool t.2.2.2.2.1), (17, i64 (t.2.2.2.2.2 : Nat))]), H := fun t => stkH t.1 ++ [tickC t.2.1], ρ₁ := stkRen3, ρ₂ := stkRen3 }
def stk4 (x : List Nat) : LA := { T := Int × StoreT × TickT × Nat × List Nat, F := fun t => frm 149 [(3, .ptr 1 [] 0), (6, .ptr 4 [] 0), (11, stkS t.2.2.2.1 t.2.2.2.2), (18, i64 t.1)], H := fun t => storeH t.2.1 ++ [tickC t.2.2.1, stkR t.2.2.2.1 t.2.2.2.2], ρ₁ := stkRen, ρ₂ := stkRen }

def stkD (i : Nat) : DeskT := ⟨List.replicate i 1, List.replicate i 5, []⟩
theorem stk_iss (i : Nat) : deskIss (stkD i) 5 = stkD (i + 1) := by
  show DeskT.mk (List.replicate i 1 ++ [1]) (List.replicate i 5 ++ [5]) [] = DeskT.mk _ _ _
  rw [List.replicate_succ', List.replicate_succ']
theorem stk_next {i : Nat} (h : i < 12) : deskNext 30 (stkD i) = some (i, 1) := by
  show (if ((List.replicate i (1 : Int)).length : Int) = 30 then none else some ((List.replicate i (1 : Int)).length, 1)) = _
  rw [List.length_replicate, if_neg (by omega)]
/-- What was released, the last one last. -/
structure Stk2 (d : DeskT) (gone : List Nat) : Prop where
  len : d.gens.length = 12
  free : d.free = gone.reverse
  g1 : ∀ i, i < 12 → gAt d i = 1
  b : ∀ i, i < 12 → (bAt d i ≠ 0 ↔ i ∉ gone)
theorem stk2_0 : Stk2 (stkD 12) [] := ⟨rfl, rfl, by decide, by decide⟩
theorem stk2_live {d : DeskT} {gone : List Nat} (h : Stk2 d gone) {n : Nat} (hn : n < 12) : liveD d ⟨(n : Int), 1⟩ ↔ n ∉ gone := by
  rw [← h.b n hn]
  unfold liveD
  have hl := h.len
  have hg := h.g1 n hn
  simp only [Int.toNat_natCast]
  constructor
  · exact fun k => k.2.2.2
  · exact fun k => ⟨by omega, by omega, hg, k⟩
theorem stk2_rel {d : DeskT} {gone : List Nat} (h : Stk2 d gone) (hb : d.blocks.length = d.gens.length) {n : Nat} (hn : n < 12) : Stk2 (deskRel 9 d n) (gone ++ [n]) := by
  have hl := h.len
  refine ⟨h.len, ?_, h.g1, fun i hi => ?_⟩
  · show (if gAt d n < 9 then n :: d.free else d.free) = _
    rw [h.g1 n hn, if_pos (by decide), h.free, List.reverse_append]; rfl
  · have eb : bAt (deskRel 9 d n) i = if i = n then 0 else bAt d i := by rw [bAt, deskRel, getD_setL (by omega)]; rfl
    rw [eb, List.mem_append, List.mem_singleton]
    by_cases e : i = n
    · rw [if_pos e]; simp [e]
    · rw [if_neg e, h.b i hi]; simp [e]
/-- What is issued again. -/
structure Stk4 (d : DeskT) (gone : List Nat) (m : Nat) : Prop where
  len : d.gens.length = 12
  free : d.free = (gone.take m).reverse
  g1 : ∀ j, j < m → gAt d (gone.getD j 0) = 1
  le : m ≤ gone.length
theorem stk4_next {d : DeskT} {gone : List Nat} {m : Nat} (h : Stk4 d gone (m + 1)) (t : Int) : deskNext t d = some (gone.getD m 0, 2) ∧ (d.free.Nodup → (∀ a ∈ d.free, a < d.gens.length) → Stk4 (deskIss d 5) gone m) := by
  have hl := h.le
  have e : d.free = gone.getD m 0 :: (gone.take m).reverse := by rw [h.free, take_succ_getD 0 (by omega), List.reverse_append]; rfl
  have hg := h.g1 m (by omega)
  constructor
  · unfold deskNext; rw [e]; simp only; rw [hg]; rfl
  · intro hn hlt
    have hn' := hn
    rw [e, List.nodup_cons] at hn'
    have hlt' := hlt (gone.getD m 0) (by rw [e]; exact List.mem_cons_self ..)
    have ed : deskIss d 5 = { gens := d.gens.set (gone.getD m 0) (gAt d (gone.getD m 0) + 1), blocks := d.blocks.set (gone.getD m 0) 5, free := (gone.take m).reverse } := by
      unfold deskIss; rw [e]
    rw [ed]
    refine ⟨by simp only [List.length_set]; exact h.len, rfl, fun j hj => ?_, by omega⟩
    show (d.gens.set _ _).getD _ 0 = 1
    rw [getD_setL hlt', if_neg]
    · exact h.g1 j (by omega)
    · intro k
      apply hn'.1
      rw [List.mem_reverse, ← k, List.getD_eq_getElem?_getD, List.getElem?_eq_getElem (by omega), Option.getD_some, List.mem_take_iff_getElem]
      exact ⟨j, by omega, rfl⟩
theorem stk2_len {s : StoreT} {t : TickT} {d : DeskT} {gone : List Nat} (h : TInv s t d) (hd : Stk2 d gone) : gone.length ≤ 12 ∧ ∀ j, j < gone.length → gone.getD j 0 < 12 := by
  have h1 := h.fnd
  rw [hd.free] at h1
  have h2 := h.fok
  rw [hd.free, hd.len] at h2
  have := nodup_len (l := gone.map (fun n : Nat => (n : Int))) (m := (List.range 12).map (fun n : Nat => (n : Int))) (by
    rw [List.Nodup, List.pairwise_map]
    exact List.Pairwise.imp (R := fun a b => b ≠ a) (fun {a b} hab e => hab (Int.ofNat_inj.1 e).symm) (List.pairwise_reverse.1 h1)) (fun a ha => by
      obtain ⟨b, hb, rfl⟩ := List.mem_map.1 ha
      exact List.mem_map.2 ⟨b, List.mem_range.2 (h2 b (List.mem_reverse.2 hb)).1, rfl⟩)
  refine ⟨by simpa using this, fun j hj => (h2 _ (List.mem_reverse.2 ?_)).1⟩
  rw [List.getD_eq_getElem?_getD, List.getElem?_eq_getElem hj]; exact List.getElem_mem _
abbrev StkI (s : StoreT) (t : TickT) (p : DeskT → Prop) : Prop := t.slots = 30 ∧ t.gens = 9 ∧ ∃ d, Desk 100 s t d ∧ p d

-- callees: 8=awake21_ok 9=madeStore_ok 10=first_ok 12=tickIssue_ok 15=tickRelease_ok 17=tickNextH_ok
theorem ticketStackV : (∀ (x : List Nat), (∀ (c : Nat), c ∈ x → c < 256) ∧ x.length ≤ 9223372036854775807 → Exx Unit fun x_1 => Tr 1 (true = true ∧ True) ∧ Tr 1
 (∀ (y : Unit), True → BC (decide ((12 : Int) < (↑x.length : Int))) (Exx Unit fun x => Tr 1 (true = true ∧ True) ∧ Tr 1 (∀ (y : Unit), True → Exx Unit fun y =>
 ((true = true ∧ True) ∧ true = true ∧ True) ∧ True)) (Exx (Nat × Int) fun x_2 => ((Tr 1 ((100 : Int) = (↑x_2.fst : Int)) ∧ Tr 1 ((0 : Int) = x_2.snd) ∧ True) ∧
 true = true ∧ True) ∧ (x_2.fst ≤ 3072 ∧ (0 : Int) ≤ x_2.snd ∧ I64 x_2.snd) ∧ ∀ (y : Unit), True → Exx (Int × Int) fun x_3 => ((Tr 1 ((30 : Int) = x_3.fst) ∧ Tr
 1 ((9 : Int) = x_3.snd) ∧ True) ∧ true = true ∧ True) ∧ (I64 x_3.fst ∧ I64 x_3.snd) ∧ ∀ (y : Unit), True → Exx (Nat × StoreT × TickT → Prop) fun I => Exx (Nat ×
 StoreT × TickT → Nat) fun m => (Exx (Nat × StoreT × TickT) fun t => I t ∧ (((1 : Nat) = (1 : Nat) ∧ x.length = x.length ∧ ∀ (i : Nat), i < x.length → [AV.int
 IntKind.u8 (↑(x.getD i 0) : Int)] = [AV.int IntKind.u8 (↑(x.getD i 0) : Int)]) ∧ Tr 2 ((true = true ∧ NilNil ∧ (0 : Nat) = (0 : Nat)) ∧ Tr 2 ((true = true ∧
 NilNil ∧ (0 : Nat) = (0 : Nat)) ∧ Tr 1 ((0 : Int) = (↑t.fst : Int)) ∧ Tr 141 True))) ∧ true = true ∧ ((105 : TypeId) = (105 : TypeId) ∧ (true = true ∧ NilNil ∧
 (0 : Nat) = (0 : Nat)) ∧ (true = true ∧ NilNil ∧ (0 : Nat) = (0 : Nat)) ∧ True) ∧ devB (madeS x_2.fst x_2.snd).ws = devB t.snd.fst.ws ∧ allocB (madeS x_2.fst
 x_2.snd).a = allocB t.snd.fst.a ∧ ((32 : Nat) = (32 : TypeId) ∧ Tr 1 ((tick0 100 x_3.fst x_3.snd).blocks = t.snd.snd.blocks) ∧ Tr 1 ((tick0 100 x_3.fst
 x_3.snd).slots = t.snd.snd.slots) ∧ Tr 1 ((tick0 100 x_3.fst x_3.snd).gens = t.snd.snd.gens) ∧ Tr 1 ((tick0 100 x_3.fst x_3.snd).top = t.snd.snd.top) ∧ Tr 1
 ((tick0 100 x_3.fst x_3.snd).high = t.snd.snd.high) ∧ Tr 1 ((tick0 100 x_3.fst x_3.snd).free = t.snd.snd.free) ∧ True) ∧ True) ∧ ∀ (t : Nat × StoreT × TickT), I
 t → BC (decide ((↑t.fst : Int) < (12 : Int))) (Exx (StoreT × TickT × Int) fun x_4 => (((true = true ∧ NilNil ∧ (0 : Nat) = (0 : Nat)) ∧ (Tr 1 (t.snd.snd.blocks
 = x_4.snd.fst.blocks) ∧ Tr 1 (t.snd.snd.slots = x_4.snd.fst.slots) ∧ Tr 1 (t.snd.snd.gens = x_4.snd.fst.gens) ∧ Tr 1 (t.snd.snd.top = x_4.snd.fst.top) ∧ Tr 1
 (t.snd.snd.high = x_4.snd.fst.high) ∧ Tr 1 (t.snd.snd.free = x_4.snd.fst.free) ∧ True) ∧ Tr 1 ((5 : Int) = x_4.snd.snd) ∧ True) ∧ true = true ∧ ((105 : TypeId)
 = (105 : TypeId) ∧ (true = true ∧ NilNil ∧ (0 : Nat) = (0 : Nat)) ∧ (true = true ∧ NilNil ∧ (0 : Nat) = (0 : Nat)) ∧ True) ∧ devB t.snd.fst.ws = devB x_4.fst.ws
 ∧ allocB t.snd.fst.a = allocB x_4.fst.a ∧ True) ∧ (StoreW x_4.fst ∧ TickI x_4.snd.fst ∧ I64 x_4.snd.snd) ∧ ∀ (y : Unit), True → BC (!decide (issE x_4.fst
 x_4.snd.fst x_4.snd.snd = (0 : Int))) (Exx Unit fun y => ((false = true ∧ True) ∧ true = true ∧ True) ∧ True) (Tr 2 True ∧ Tr 2 True ∧ ∀ (b : Bool), (b = true ↔
 (issH x_4.fst x_4.snd.fst x_4.snd.snd).slot = (↑t.fst : Int) ∧ (issH x_4.fst x_4.snd.fst x_4.snd.snd).gen = (1 : Int) ∧ True) → BC (!b) (Exx Unit fun y =>
 ((false = true ∧ True) ∧ true = true ∧ True) ∧ True) (I64 ((↑t.fst : Int) + 1) ∧ Exx (Nat × StoreT × TickT) fun t' => (I t' ∧ m t' < m t) ∧ (((1 : Nat) = (1 :
 Nat) ∧ x.length = x.length ∧ ∀ (i : Nat), i < x.length → [AV.int IntKind.u8 (↑(x.getD i 0) : Int)] = [AV.int IntKind.u8 (↑(x.getD i 0) : Int)]) ∧ Tr 2 ((true =
 true ∧ NilNil ∧ (0 : Nat) = (0 : Nat)) ∧ Tr 2 ((true = true ∧ NilNil ∧ (0 : Nat) = (0 : Nat)) ∧ Tr 1 ((↑t.fst : Int) + 1 = (↑t'.fst : Int)) ∧ Tr 141 True))) ∧
 true = true ∧ ((105 : TypeId) = (105 : TypeId) ∧ (true = true ∧ NilNil ∧ (0 : Nat) = (0 : Nat)) ∧ (true = true ∧ NilNil ∧ (0 : Nat) = (0 : Nat)) ∧ True) ∧ devB
 (issS x_4.fst x_4.snd.fst x_4.snd.snd).ws = devB t'.snd.fst.ws ∧ allocB (issS x_4.fst x_4.snd.fst x_4.snd.snd).a = allocB t'.snd.fst.a ∧ ((32 : TypeId) = (32 :
 TypeId) ∧ Tr 1 ((issT x_4.fst x_4.snd.fst x_4.snd.snd).blocks = t'.snd.snd.blocks) ∧ Tr 1 ((issT x_4.fst x_4.snd.fst x_4.snd.snd).slots = t'.snd.snd.slots) ∧ Tr
 1 ((issT x_4.fst x_4.snd.fst x_4.snd.snd).gens = t'.snd.snd.gens) ∧ Tr 1 ((issT x_4.fst x_4.snd.fst x_4.snd.snd).top = t'.snd.snd.top) ∧ Tr 1 ((issT x_4.fst
 x_4.snd.fst x_4.snd.snd).high = t'.snd.snd.high) ∧ Tr 1 ((issT x_4.fst x_4.snd.fst x_4.snd.snd).free = t'.snd.snd.free) ∧ True) ∧ True))) (Exx (Nat × StoreT ×
 TickT × Nat × List Nat → Prop) fun I => Exx (Nat × StoreT × TickT × Nat × List Nat → Nat) fun m => (Exx (Nat × StoreT × TickT × Nat × List Nat) fun t_1 => I t_1
 ∧ (((1 : Nat) = (1 : Nat) ∧ x.length = x.length ∧ ∀ (i : Nat), i < x.length → [AV.int IntKind.u8 (↑(x.getD i 0) : Int)] = [AV.int IntKind.u8 (↑(x.getD i 0) :
 Int)]) ∧ Tr 2 ((true = true ∧ NilNil ∧ (0 : Nat) = (0 : Nat)) ∧ Tr 2 ((true = true ∧ NilNil ∧ (0 : Nat) = (0 : Nat)) ∧ Tr 4 ((t_1.snd.snd.snd.snd.length = 0 ∧
 t_1.snd.snd.snd.fst = 0) ∧ Tr 1 ((0 : Int) = (↑t_1.fst : Int)) ∧ Tr 136 True)))) ∧ true = true ∧ ((105 : TypeId) = (105 : TypeId) ∧ (true = true ∧ NilNil ∧ (0 :
 Nat) = (0 : Nat)) ∧ (true = true ∧ NilNil ∧ (0 : Nat) = (0 : Nat)) ∧ True) ∧ devB t.snd.fst.ws = devB t_1.snd.fst.ws ∧ allocB t.snd.fst.a = allocB t_1.snd.fst.a
 ∧ ((32 : TypeId) = (32 : TypeId) ∧ Tr 1 (t.snd.snd.blocks = t_1.snd.snd.fst.blocks) ∧ Tr 1 (t.snd.snd.slots = t_1.snd.snd.fst.slots) ∧ Tr 1 (t.snd.snd.gens =
 t_1.snd.snd.fst.gens) ∧ Tr 1 (t.snd.snd.top = t_1.snd.snd.fst.top) ∧ Tr 1 (t.snd.snd.high = t_1.snd.snd.fst.high) ∧ Tr 1 (t.snd.snd.free = t_1.snd.snd.fst.free)
 ∧ True) ∧ (t_1.snd.snd.snd.fst = 0 ∧ t_1.snd.snd.snd.snd.length = 0) ∧ True) ∧ ∀ (t : Nat × StoreT × TickT × Nat × List Nat), I t → BC (decide ((↑t.fst : Int) <
 (↑x.length : Int))) (((0 : Int) ≤ (↑t.fst : Int) ∧ (↑t.fst : Int) < (↑x.length : Int)) ∧ ∀ (m_1 : Int), m_1 = IntKind.i64.wrap (↑(x.getD (↑t.fst : Int).toNat 0)
 : Int) → (12 : Int) ≠ (0 : Int) ∧ ∀ (n : Int), n = m_1.tmod 12 → Exx (StoreT × TickT × HandT) fun x_4 => (((true = true ∧ NilNil ∧ (0 : Nat) = (0 : Nat)) ∧ (Tr
 1 (t.snd.snd.fst.blocks = x_4.snd.fst.blocks) ∧ Tr 1 (t.snd.snd.fst.slots = x_4.snd.fst.slots) ∧ Tr 1 (t.snd.snd.fst.gens = x_4.snd.fst.gens) ∧ Tr 1
 (t.snd.snd.fst.top = x_4.snd.fst.top) ∧ Tr 1 (t.snd.snd.fst.high = x_4.snd.fst.high) ∧ Tr 1 (t.snd.snd.fst.free = x_4.snd.fst.free) ∧ True) ∧ (Tr 1 (n =
 x_4.snd.snd.slot) ∧ Tr 1 ((1 : Int) = x_4.snd.snd.gen) ∧ True) ∧ True) ∧ true = true ∧ ((105 : TypeId) = (105 : TypeId) ∧ (true = true ∧ NilNil ∧ (0 : Nat) = (0
 : Nat)) ∧ (true = true ∧ NilNil ∧ (0 : Nat) = (0 : Nat)) ∧ True) ∧ devB t.snd.fst.ws = devB x_4.fst.ws ∧ allocB t.snd.fst.a = allocB x_4.fst.a ∧ True) ∧ (StoreW
 x_4.fst ∧ TickI x_4.snd.fst ∧ HandI x_4.snd.snd) ∧ ∀ (y : Unit), True → Exx (StkT × TickT × Int × Int × Bool × Nat → Prop) fun I_1 => Exx (StkT × TickT × Int ×
 Int × Bool × Nat → Nat) fun m_2 => (Exx (StkT × TickT × Int × Int × Bool × Nat) fun t_1 => I_1 t_1 ∧ (((1 : Nat) = (1 : Nat) ∧ x.length = x.length ∧ ∀ (i :
 Nat), i < x.length → [AV.int IntKind.u8 (↑(x.getD i 0) : Int)] = [AV.int IntKind.u8 (↑(x.getD i 0) : Int)]) ∧ Tr 2 ((true = true ∧ NilNil ∧ (0 : Nat) = (0 :
 Nat)) ∧ Tr 2 ((true = true ∧ NilNil ∧ (0 : Nat) = (0 : Nat)) ∧ Tr 4 ((true = true ∧ NilNil ∧ (0 : Nat) = (0 : Nat) ∧ (1 : Nat) = (1 : Nat) ∧ (0 : Nat) = (0 :
 Nat) ∧ t.snd.snd.snd.snd.length = t_1.fst.snd.snd.snd.snd.length ∧ t.snd.snd.snd.fst = t_1.fst.snd.snd.snd.fst) ∧ Tr 1 ((↑t.fst : Int) = (↑t_1.fst.fst : Int)) ∧
 Tr 1 (n = t_1.snd.snd.fst) ∧ (true = true ∧ NilNil ∧ (0 : Nat) = (0 : Nat)) ∧ Tr 1 (relE x_4.fst x_4.snd.fst x_4.snd.snd = t_1.snd.snd.snd.fst) ∧ false =
 t_1.snd.snd.snd.snd.fst ∧ Tr 1 ((0 : Int) = (↑t_1.snd.snd.snd.snd.snd : Int)) ∧ Tr 131 True)))) ∧ true = true ∧ ((105 : TypeId) = (105 : TypeId) ∧ (true = true
 ∧ NilNil ∧ (0 : Nat) = (0 : Nat)) ∧ (true = true ∧ NilNil ∧ (0 : Nat) = (0 : Nat)) ∧ True) ∧ devB (relS x_4.fst x_4.snd.fst x_4.snd.snd).ws = devB
 t_1.fst.snd.fst.ws ∧ allocB (relS x_4.fst x_4.snd.fst x_4.snd.snd).a = allocB t_1.fst.snd.fst.a ∧ ((32 : TypeId) = (32 : TypeId) ∧ Tr 1 (t.snd.snd.fst.blocks =
 t_1.fst.snd.snd.fst.blocks) ∧ Tr 1 (t.snd.snd.fst.slots = t_1.fst.snd.snd.fst.slots) ∧ Tr 1 (t.snd.snd.fst.gens = t_1.fst.snd.snd.fst.gens) ∧ Tr 1
 (t.snd.snd.fst.top = t_1.fst.snd.snd.fst.top) ∧ Tr 1 (t.snd.snd.fst.high = t_1.fst.snd.snd.fst.high) ∧ Tr 1 (t.snd.snd.fst.free = t_1.fst.snd.snd.fst.free) ∧
 True) ∧ ((3 : TypeId) = (3 : TypeId) ∧ (1 : Nat) = (1 : Nat) ∧ t.snd.snd.snd.fst = t_1.fst.snd.snd.snd.fst ∧ t_1.fst.snd.snd.snd.snd.length ≤
 t.snd.snd.snd.snd.length ∧ ∀ (i : Nat), i < t_1.fst.snd.snd.snd.snd.length → [AV.int IntKind.i64 (↑(t.snd.snd.snd.snd.getD i 0) : Int)] = [AV.int IntKind.i64
 (↑(t_1.fst.snd.snd.snd.snd.getD i 0) : Int)]) ∧ ((32 : Nat) = (32 : TypeId) ∧ Tr 1 ((relT x_4.fst x_4.snd.fst x_4.snd.snd).blocks = t_1.snd.fst.blocks) ∧ Tr 1
 ((relT x_4.fst x_4.snd.fst x_4.snd.snd).slots = t_1.snd.fst.slots) ∧ Tr 1 ((relT x_4.fst x_4.snd.fst x_4.snd.snd).gens = t_1.snd.fst.gens) ∧ Tr 1 ((relT x_4.fst
 x_4.snd.fst x_4.snd.snd).top = t_1.snd.fst.top) ∧ Tr 1 ((relT x_4.fst x_4.snd.fst x_4.snd.snd).high = t_1.snd.fst.high) ∧ Tr 1 ((relT x_4.fst x_4.snd.fst
 x_4.snd.snd).free = t_1.snd.fst.free) ∧ True) ∧ True) ∧ ∀ (t_1 : StkT × TickT × Int × Int × Bool × Nat), I_1 t_1 → BC (decide ((↑t_1.snd.snd.snd.snd.snd : Int)
 < (↑t_1.fst.snd.snd.snd.snd.length : Int))) (BC t_1.snd.snd.snd.snd.fst (I64 ((↑t_1.snd.snd.snd.snd.snd : Int) + 1) ∧ Exx (StkT × TickT × Int × Int × Bool ×
 Nat) fun t' => (I_1 t' ∧ m_2 t' < m_2 t_1) ∧ (((1 : Nat) = (1 : Nat) ∧ x.length = x.length ∧ ∀ (i : Nat), i < x.length → [AV.int IntKind.u8 (↑(x.getD i 0) :
 Int)] = [AV.int IntKind.u8 (↑(x.getD i 0) : Int)]) ∧ Tr 2 ((true = true ∧ NilNil ∧ (0 : Nat) = (0 : Nat)) ∧ Tr 2 ((true = true ∧ NilNil ∧ (0 : Nat) = (0 : Nat))
 ∧ Tr 4 ((true = true ∧ NilNil ∧ (0 : Nat) = (0 : Nat) ∧ (1 : Nat) = (1 : Nat) ∧ (0 : Nat) = (0 : Nat) ∧ t_1.fst.snd.snd.snd.snd.length =
 t'.fst.snd.snd.snd.snd.length ∧ t_1.fst.snd.snd.snd.fst = t'.fst.snd.snd.snd.fst) ∧ Tr 1 ((↑t_1.fst.fst : Int) = (↑t'.fst.fst : Int)) ∧ Tr 1 (t_1.snd.snd.fst =
 t'.snd.snd.fst) ∧ (true = true ∧ NilNil ∧ (0 : Nat) = (0 : Nat)) ∧ Tr 1 (t_1.snd.snd.snd.fst = t'.snd.snd.snd.fst) ∧ true = t'.snd.snd.snd.snd.fst ∧ Tr 1
 ((↑t_1.snd.snd.snd.snd.snd : Int) + 1 = (↑t'.snd.snd.snd.snd.snd : Int)) ∧ Tr 131 True)))) ∧ true = true ∧ ((105 : TypeId) = (105 : TypeId) ∧ (true = true ∧
 NilNil ∧ (0 : Nat) = (0 : Nat)) ∧ (true = true ∧ NilNil ∧ (0 : Nat) = (0 : Nat)) ∧ True) ∧ devB t_1.fst.snd.fst.ws = devB t'.fst.snd.fst.ws ∧ allocB
 t_1.fst.snd.fst.a = allocB t'.fst.snd.fst.a ∧ ((32 : TypeId) = (32 : TypeId) ∧ Tr 1 (t_1.fst.snd.snd.fst.blocks = t'.fst.snd.snd.fst.blocks) ∧ Tr 1
 (t_1.fst.snd.snd.fst.slots = t'.fst.snd.snd.fst.slots) ∧ Tr 1 (t_1.fst.snd.snd.fst.gens = t'.fst.snd.snd.fst.gens) ∧ Tr 1 (t_1.fst.snd.snd.fst.top =
 t'.fst.snd.snd.fst.top) ∧ Tr 1 (t_1.fst.snd.snd.fst.high = t'.fst.snd.snd.fst.high) ∧ Tr 1 (t_1.fst.snd.snd.fst.free = t'.fst.snd.snd.fst.free) ∧ True) ∧ ((3 :
 TypeId) = (3 : TypeId) ∧ (1 : Nat) = (1 : Nat) ∧ t_1.fst.snd.snd.snd.fst = t'.fst.snd.snd.snd.fst ∧ t'.fst.snd.snd.snd.snd.length ≤
 t_1.fst.snd.snd.snd.snd.length ∧ ∀ (i : Nat), i < t'.fst.snd.snd.snd.snd.length → [AV.int IntKind.i64 (↑(t_1.fst.snd.snd.snd.snd.getD i 0) : Int)] = [AV.int
 IntKind.i64 (↑(t'.fst.snd.snd.snd.snd.getD i 0) : Int)]) ∧ ((32 : TypeId) = (32 : TypeId) ∧ Tr 1 (t_1.snd.fst.blocks = t'.snd.fst.blocks) ∧ Tr 1
 (t_1.snd.fst.slots = t'.snd.fst.slots) ∧ Tr 1 (t_1.snd.fst.gens = t'.snd.fst.gens) ∧ Tr 1 (t_1.snd.fst.top = t'.snd.fst.top) ∧ Tr 1 (t_1.snd.fst.high =
 t'.snd.fst.high) ∧ Tr 1 (t_1.snd.fst.free = t'.snd.fst.free) ∧ True) ∧ True) (((0 : Int) ≤ (↑t_1.snd.snd.snd.snd.snd : Int) ∧ (↑t_1.snd.snd.snd.snd.snd : Int) <
 (↑t_1.fst.snd.snd.snd.snd.length : Int)) ∧ 0 + (↑t_1.snd.snd.snd.snd.snd : Int).toNat < t_1.fst.snd.snd.snd.snd.length ∧ I64 ((↑t_1.snd.snd.snd.snd.snd : Int) +
 1) ∧ Exx (StkT × TickT × Int × Int × Bool × Nat) fun t' => (I_1 t' ∧ m_2 t' < m_2 t_1) ∧ (((1 : Nat) = (1 : Nat) ∧ x.length = x.length ∧ ∀ (i : Nat), i <
 x.length → [AV.int IntKind.u8 (↑(x.getD i 0) : Int)] = [AV.int IntKind.u8 (↑(x.getD i 0) : Int)]) ∧ Tr 2 ((true = true ∧ NilNil ∧ (0 : Nat) = (0 : Nat)) ∧ Tr 2
 ((true = true ∧ NilNil ∧ (0 : Nat) = (0 : Nat)) ∧ Tr 4 ((true = true ∧ NilNil ∧ (0 : Nat) = (0 : Nat) ∧ (1 : Nat) = (1 : Nat) ∧ (0 : Nat) = (0 : Nat) ∧
 t_1.fst.snd.snd.snd.snd.length = t'.fst.snd.snd.snd.snd.length ∧ t_1.fst.snd.snd.snd.fst = t'.fst.snd.snd.snd.fst) ∧ Tr 1 ((↑t_1.fst.fst : Int) = (↑t'.fst.fst :
 Int)) ∧ Tr 1 (t_1.snd.snd.fst = t'.snd.snd.fst) ∧ (true = true ∧ NilNil ∧ (0 : Nat) = (0 : Nat)) ∧ Tr 1 (t_1.snd.snd.snd.fst = t'.snd.snd.snd.fst) ∧ decide
 ((↑(t_1.fst.snd.snd.snd.snd.getD (0 + (↑t_1.snd.snd.snd.snd.snd : Int).toNat) 0) : Int) = t_1.snd.snd.fst) = t'.snd.snd.snd.snd.fst ∧ Tr 1
 ((↑t_1.snd.snd.snd.snd.snd : Int) + 1 = (↑t'.snd.snd.snd.snd.snd : Int)) ∧ Tr 131 True)))) ∧ true = true ∧ ((105 : TypeId) = (105 : TypeId) ∧ (true = true ∧
 NilNil ∧ (0 : Nat) = (0 : Nat)) ∧ (true = true ∧ NilNil ∧ (0 : Nat) = (0 : Nat)) ∧ True) ∧ devB t_1.fst.snd.fst.ws = devB t'.fst.snd.fst.ws ∧ allocB
 t_1.fst.snd.fst.a = allocB t'.fst.snd.fst.a ∧ ((32 : TypeId) = (32 : TypeId) ∧ Tr 1 (t_1.fst.snd.snd.fst.blocks = t'.fst.snd.snd.fst.blocks) ∧ Tr 1
 (t_1.fst.snd.snd.fst.slots = t'.fst.snd.snd.fst.slots) ∧ Tr 1 (t_1.fst.snd.snd.fst.gens = t'.fst.snd.snd.fst.gens) ∧ Tr 1 (t_1.fst.snd.snd.fst.top =
 t'.fst.snd.snd.fst.top) ∧ Tr 1 (t_1.fst.snd.snd.fst.high = t'.fst.snd.snd.fst.high) ∧ Tr 1 (t_1.fst.snd.snd.fst.free = t'.fst.snd.snd.fst.free) ∧ True) ∧ ((3 :
 TypeId) = (3 : TypeId) ∧ (1 : Nat) = (1 : Nat) ∧ t_1.fst.snd.snd.snd.fst = t'.fst.snd.snd.snd.fst ∧ t'.fst.snd.snd.snd.snd.length ≤
 t_1.fst.snd.snd.snd.snd.length ∧ ∀ (i : Nat), i < t'.fst.snd.snd.snd.snd.length → [AV.int IntKind.i64 (↑(t_1.fst.snd.snd.snd.snd.getD i 0) : Int)] = [AV.int
 IntKind.i64 (↑(t'.fst.snd.snd.snd.snd.getD i 0) : Int)]) ∧ ((32 : TypeId) = (32 : TypeId) ∧ Tr 1 (t_1.snd.fst.blocks = t'.snd.fst.blocks) ∧ Tr 1
 (t_1.snd.fst.slots = t'.snd.fst.slots) ∧ Tr 1 (t_1.snd.fst.gens = t'.snd.fst.gens) ∧ Tr 1 (t_1.snd.fst.top = t'.snd.fst.top) ∧ Tr 1 (t_1.snd.fst.high =
 t'.snd.fst.high) ∧ Tr 1 (t_1.snd.fst.free = t'.snd.fst.free) ∧ True) ∧ True)) (BC (decide (t_1.snd.snd.snd.fst = (0 : Int)) == t_1.snd.snd.snd.snd.fst) (Exx
 Unit fun y => ((false = true ∧ True) ∧ true = true ∧ True) ∧ True) (BC (decide (t_1.snd.snd.snd.fst = (0 : Int))) ((0 : Nat) + (1 : Nat) ≤ (1 : Nat) ∧ true =
 true ∧ (t_1.fst.snd.snd.snd.snd.length ≤ t_1.fst.snd.snd.snd.snd.length ∧ t_1.fst.snd.snd.snd.fst = t_1.fst.snd.snd.snd.fst) ∧ (t_1.fst.snd.snd.snd.snd.length +
 1 ≤ 9223372036854775807 ∧ (t_1.fst.snd.snd.snd.snd.length + 1) * 8 ≤ 140737488355328) ∧ ∀ (cap : Nat), t_1.fst.snd.snd.snd.snd.length + 1 ≤ cap ∧ cap ≤
 9223372036854775807 → I64 ((↑t_1.fst.fst : Int) + 1) ∧ Exx (Nat × StoreT × TickT × Nat × List Nat) fun t' => (I t' ∧ m t' < m t) ∧ (((1 : Nat) = (1 : Nat) ∧
 x.length = x.length ∧ ∀ (i : Nat), i < x.length → [AV.int IntKind.u8 (↑(x.getD i 0) : Int)] = [AV.int IntKind.u8 (↑(x.getD i 0) : Int)]) ∧ Tr 2 ((true = true ∧
 NilNil ∧ (0 : Nat) = (0 : Nat)) ∧ Tr 2 ((true = true ∧ NilNil ∧ (0 : Nat) = (0 : Nat)) ∧ Tr 4 ((true = true ∧ NilNil ∧ (0 : Nat) = (0 : Nat) ∧ (1 : Nat) = (1 :
 Nat) ∧ (0 : Nat) = (0 : Nat) ∧ t_1.fst.snd.snd.snd.snd.length + 1 = t'.snd.snd.snd.snd.length ∧ cap = t'.snd.snd.snd.fst) ∧ Tr 1 ((↑t_1.fst.fst : Int) + 1 =
 (↑t'.fst : Int)) ∧ Tr 136 True)))) ∧ true = true ∧ ((105 : TypeId) = (105 : TypeId) ∧ (true = true ∧ NilNil ∧ (0 : Nat) = (0 : Nat)) ∧ (true = true ∧ NilNil ∧
 (0 : Nat) = (0 : Nat)) ∧ True) ∧ devB t_1.fst.snd.fst.ws = devB t'.snd.fst.ws ∧ allocB t_1.fst.snd.fst.a = allocB t'.snd.fst.a ∧ ((32 : TypeId) = (32 : TypeId)
 ∧ Tr 1 (t_1.snd.fst.blocks = t'.snd.snd.fst.blocks) ∧ Tr 1 (t_1.snd.fst.slots = t'.snd.snd.fst.slots) ∧ Tr 1 (t_1.snd.fst.gens = t'.snd.snd.fst.gens) ∧ Tr 1
 (t_1.snd.fst.top = t'.snd.snd.fst.top) ∧ Tr 1 (t_1.snd.fst.high = t'.snd.snd.fst.high) ∧ Tr 1 (t_1.snd.fst.free = t'.snd.snd.fst.free) ∧ True) ∧ ((3 : TypeId) =
 (3 : TypeId) ∧ (1 : Nat) = (1 : Nat) ∧ cap = t'.snd.snd.snd.fst ∧ t'.snd.snd.snd.snd.length ≤ t_1.fst.snd.snd.snd.snd.length + 1 ∧ ∀ (i : Nat), i <
 t'.snd.snd.snd.snd.length → (if i < t_1.fst.snd.snd.snd.snd.length then [AV.int IntKind.i64 (↑(t_1.fst.snd.snd.snd.snd.getD i 0) : Int)] else [AV.int
 IntKind.i64 (if 0 + (i - t_1.fst.snd.snd.snd.snd.length) = 0 * 1 / 1 then t_1.snd.snd.fst else 0)]) = [AV.int IntKind.i64 (↑(t'.snd.snd.snd.snd.getD i 0) :
 Int)]) ∧ True) (I64 ((↑t_1.fst.fst : Int) + 1) ∧ Exx (Nat × StoreT × TickT × Nat × List Nat) fun t' => (I t' ∧ m t' < m t) ∧ (((1 : Nat) = (1 : Nat) ∧ x.length
 = x.length ∧ ∀ (i : Nat), i < x.length → [AV.int IntKind.u8 (↑(x.getD i 0) : Int)] = [AV.int IntKind.u8 (↑(x.getD i 0) : Int)]) ∧ Tr 2 ((true = true ∧ NilNil ∧
 (0 : Nat) = (0 : Nat)) ∧ Tr 2 ((true = true ∧ NilNil ∧ (0 : Nat) = (0 : Nat)) ∧ Tr 4 ((true = true ∧ NilNil ∧ (0 : Nat) = (0 : Nat) ∧ (1 : Nat) = (1 : Nat) ∧ (0
 : Nat) = (0 : Nat) ∧ t_1.fst.snd.snd.snd.snd.length = t'.snd.snd.snd.snd.length ∧ t_1.fst.snd.snd.snd.fst = t'.snd.snd.snd.fst) ∧ Tr 1 ((↑t_1.fst.fst : Int) + 1
 = (↑t'.fst : Int)) ∧ Tr 136 True)))) ∧ true = true ∧ ((105 : TypeId) = (105 : TypeId) ∧ (true = true ∧ NilNil ∧ (0 : Nat) = (0 : Nat)) ∧ (true = true ∧ NilNil ∧
 (0 : Nat) = (0 : Nat)) ∧ True) ∧ devB t_1.fst.snd.fst.ws = devB t'.snd.fst.ws ∧ allocB t_1.fst.snd.fst.a = allocB t'.snd.fst.a ∧ ((32 : TypeId) = (32 : TypeId)
 ∧ Tr 1 (t_1.fst.snd.snd.fst.blocks = t'.snd.snd.fst.blocks) ∧ Tr 1 (t_1.fst.snd.snd.fst.slots = t'.snd.snd.fst.slots) ∧ Tr 1 (t_1.fst.snd.snd.fst.gens =
 t'.snd.snd.fst.gens) ∧ Tr 1 (t_1.fst.snd.snd.fst.top = t'.snd.snd.fst.top) ∧ Tr 1 (t_1.fst.snd.snd.fst.high = t'.snd.snd.fst.high) ∧ Tr 1
 (t_1.fst.snd.snd.fst.free = t'.snd.snd.fst.free) ∧ True) ∧ ((3 : TypeId) = (3 : TypeId) ∧ (1 : Nat) = (1 : Nat) ∧ t_1.fst.snd.snd.snd.fst = t'.snd.snd.snd.fst ∧
 t'.snd.snd.snd.snd.length ≤ t_1.fst.snd.snd.snd.snd.length ∧ ∀ (i : Nat), i < t'.snd.snd.snd.snd.length → [AV.int IntKind.i64 (↑(t_1.fst.snd.snd.snd.snd.getD i
 0) : Int)] = [AV.int IntKind.i64 (↑(t'.snd.snd.snd.snd.getD i 0) : Int)]) ∧ True)))) (I64 ((↑t.snd.snd.snd.snd.length : Int) - 1) ∧ Exx (Int × StoreT × TickT ×
 Nat × List Nat → Prop) fun I => Exx (Int × StoreT × TickT × Nat × List Nat → Nat) fun m => (Exx (Int × StoreT × TickT × Nat × List Nat) fun t_1 => I t_1 ∧ Tr 3
 ((true = true ∧ NilNil ∧ (0 : Nat) = (0 : Nat)) ∧ Tr 2 ((true = true ∧ NilNil ∧ (0 : Nat) = (0 : Nat)) ∧ Tr 4 ((true = true ∧ NilNil ∧ (0 : Nat) = (0 : Nat) ∧
 (1 : Nat) = (1 : Nat) ∧ (0 : Nat) = (0 : Nat) ∧ t.snd.snd.snd.snd.length = t_1.snd.snd.snd.snd.length ∧ t.snd.snd.snd.fst = t_1.snd.snd.snd.fst) ∧ Tr 6 (Tr 1
 ((↑t.snd.snd.snd.snd.length : Int) - 1 = t_1.fst) ∧ Tr 130 True)))) ∧ true = true ∧ ((105 : TypeId) = (105 : TypeId) ∧ (true = true ∧ NilNil ∧ (0 : Nat) = (0 :
 Nat)) ∧ (true = true ∧ NilNil ∧ (0 : Nat) = (0 : Nat)) ∧ True) ∧ devB t.snd.fst.ws = devB t_1.snd.fst.ws ∧ allocB t.snd.fst.a = allocB t_1.snd.fst.a ∧ ((32 :
 TypeId) = (32 : TypeId) ∧ Tr 1 (t.snd.snd.fst.blocks = t_1.snd.snd.fst.blocks) ∧ Tr 1 (t.snd.snd.fst.slots = t_1.snd.snd.fst.slots) ∧ Tr 1 (t.snd.snd.fst.gens =
 t_1.snd.snd.fst.gens) ∧ Tr 1 (t.snd.snd.fst.top = t_1.snd.snd.fst.top) ∧ Tr 1 (t.snd.snd.fst.high = t_1.snd.snd.fst.high) ∧ Tr 1 (t.snd.snd.fst.free =
 t_1.snd.snd.fst.free) ∧ True) ∧ ((3 : TypeId) = (3 : TypeId) ∧ (1 : Nat) = (1 : Nat) ∧ t.snd.snd.snd.fst = t_1.snd.snd.snd.fst ∧ t_1.snd.snd.snd.snd.length ≤
 t.snd.snd.snd.snd.length ∧ ∀ (i : Nat), i < t_1.snd.snd.snd.snd.length → [AV.int IntKind.i64 (↑(t.snd.snd.snd.snd.getD i 0) : Int)] = [AV.int IntKind.i64
 (↑(t_1.snd.snd.snd.snd.getD i 0) : Int)]) ∧ True) ∧ ∀ (t : Int × StoreT × TickT × Nat × List Nat), I t → BC (decide ((0 : Int) ≤ t.fst)) (Exx (StoreT × TickT ×
 Int) fun x => (((true = true ∧ NilNil ∧ (0 : Nat) = (0 : Nat)) ∧ (Tr 1 (t.snd.snd.fst.blocks = x.snd.fst.blocks) ∧ Tr 1 (t.snd.snd.fst.slots = x.snd.fst.slots)
 ∧ Tr 1 (t.snd.snd.fst.gens = x.snd.fst.gens) ∧ Tr 1 (t.snd.snd.fst.top = x.snd.fst.top) ∧ Tr 1 (t.snd.snd.fst.high = x.snd.fst.high) ∧ Tr 1 (t.snd.snd.fst.free
 = x.snd.fst.free) ∧ True) ∧ Tr 1 ((5 : Int) = x.snd.snd) ∧ True) ∧ true = true ∧ ((105 : TypeId) = (105 : TypeId) ∧ (true = true ∧ NilNil ∧ (0 : Nat) = (0 :
 Nat)) ∧ (true = true ∧ NilNil ∧ (0 : Nat) = (0 : Nat)) ∧ True) ∧ devB t.snd.fst.ws = devB x.fst.ws ∧ allocB t.snd.fst.a = allocB x.fst.a ∧ True) ∧ (StoreW x.fst
 ∧ TickI x.snd.fst ∧ I64 x.snd.snd) ∧ ∀ (y : Unit), True → BC (!decide (issE x.fst x.snd.fst x.snd.snd = (0 : Int))) (Exx Unit fun y => ((false = true ∧ True) ∧
 true = true ∧ True) ∧ True) (((0 : Int) ≤ t.fst ∧ t.fst < (↑t.snd.snd.snd.snd.length : Int)) ∧ 0 + t.fst.toNat < t.snd.snd.snd.snd.length ∧ Tr 2 True ∧ Tr 2
 True ∧ ∀ (b : Bool), (b = true ↔ (issH x.fst x.snd.fst x.snd.snd).slot = (↑(t.snd.snd.snd.snd.getD (0 + t.fst.toNat) 0) : Int) ∧ (issH x.fst x.snd.fst
 x.snd.snd).gen = (2 : Int) ∧ True) → BC (!b) (Exx Unit fun y => ((false = true ∧ True) ∧ true = true ∧ True) ∧ True) (I64 (t.fst - 1) ∧ Exx (Int × StoreT ×
 TickT × Nat × List Nat) fun t' => (I t' ∧ m t' < m t) ∧ Tr 3 ((true = true ∧ NilNil ∧ (0 : Nat) = (0 : Nat)) ∧ Tr 2 ((true = true ∧ NilNil ∧ (0 : Nat) = (0 :
 Nat)) ∧ Tr 4 ((true = true ∧ NilNil ∧ (0 : Nat) = (0 : Nat) ∧ (1 : Nat) = (1 : Nat) ∧ (0 : Nat) = (0 : Nat) ∧ t.snd.snd.snd.snd.length =
 t'.snd.snd.snd.snd.length ∧ t.snd.snd.snd.fst = t'.snd.snd.snd.fst) ∧ Tr 6 (Tr 1 (t.fst - 1 = t'.fst) ∧ Tr 130 True)))) ∧ true = true ∧ ((105 : TypeId) = (105 :
 TypeId) ∧ (true = true ∧ NilNil ∧ (0 : Nat) = (0 : Nat)) ∧ (true = true ∧ NilNil ∧ (0 : Nat) = (0 : Nat)) ∧ True) ∧ devB (issS x.fst x.snd.fst x.snd.snd).ws =
 devB t'.snd.fst.ws ∧ allocB (issS x.fst x.snd.fst x.snd.snd).a = allocB t'.snd.fst.a ∧ ((32 : TypeId) = (32 : TypeId) ∧ Tr 1 ((issT x.fst x.snd.fst
 x.snd.snd).blocks = t'.snd.snd.fst.blocks) ∧ Tr 1 ((issT x.fst x.snd.fst x.snd.snd).slots = t'.snd.snd.fst.slots) ∧ Tr 1 ((issT x.fst x.snd.fst x.snd.snd).gens
 = t'.snd.snd.fst.gens) ∧ Tr 1 ((issT x.fst x.snd.fst x.snd.snd).top = t'.snd.snd.fst.top) ∧ Tr 1 ((issT x.fst x.snd.fst x.snd.snd).high = t'.snd.snd.fst.high) ∧
 Tr 1 ((issT x.fst x.snd.fst x.snd.snd).free = t'.snd.snd.fst.free) ∧ True) ∧ ((3 : TypeId) = (3 : TypeId) ∧ (1 : Nat) = (1 : Nat) ∧ t.snd.snd.snd.fst =
 t'.snd.snd.snd.fst ∧ t'.snd.snd.snd.snd.length ≤ t.snd.snd.snd.snd.length ∧ ∀ (i : Nat), i < t'.snd.snd.snd.snd.length → [AV.int IntKind.i64
 (↑(t.snd.snd.snd.snd.getD i 0) : Int)] = [AV.int IntKind.i64 (↑(t'.snd.snd.snd.snd.getD i 0) : Int)]) ∧ True))) (Exx (StoreT × TickT) fun x => (((true = true ∧
 NilNil ∧ (0 : Nat) = (0 : Nat)) ∧ (Tr 1 (t.snd.snd.fst.blocks = x.snd.blocks) ∧ Tr 1 (t.snd.snd.fst.slots = x.snd.slots) ∧ Tr 1 (t.snd.snd.fst.gens =
 x.snd.gens) ∧ Tr 1 (t.snd.snd.fst.top = x.snd.top) ∧ Tr 1 (t.snd.snd.fst.high = x.snd.high) ∧ Tr 1 (t.snd.snd.fst.free = x.snd.free) ∧ True) ∧ True) ∧ true =
 true ∧ ((105 : TypeId) = (105 : TypeId) ∧ (true = true ∧ NilNil ∧ (0 : Nat) = (0 : Nat)) ∧ (true = true ∧ NilNil ∧ (0 : Nat) = (0 : Nat)) ∧ True) ∧ devB
 t.snd.fst.ws = devB x.fst.ws ∧ allocB t.snd.fst.a = allocB x.fst.a ∧ True) ∧ (StoreW x.fst ∧ TickI x.snd) ∧ ∀ (y : Unit), True → BC (decide (nextE x.fst.ws
 x.snd = (0 : Int))) (Tr 2 True ∧ Tr 2 True ∧ ∀ (b : Bool), (b = true ↔ (nextH x.fst.ws x.snd).slot = (12 : Int) ∧ (nextH x.fst.ws x.snd).gen = (1 : Int) ∧ True)
 → Exx Unit fun y => ((b = true ∧ True) ∧ true = true ∧ True) ∧ True) (Exx Unit fun y => ((false = true ∧ True) ∧ true = true ∧ True) ∧ True))))))) = (fnVC tb [(8, specOf awake21C), (9, specOf madeStoreC), (10, specOf firstC), (12, specOf tickIssueC), (15, specOf tickReleaseC), (17, specOf tickNextHC)] Tryd.f5 ticketStackC (fun x => { loops := [(8, stk1 x), (16, stk2 x), (22, stk3 x), (31, stk4 x)] }) (fun _ => none)) := by kernel_rfl 

theorem ticketStack_ok : SpecOk Tryd.prog 5 (specOf ticketStackC) := by
  refine specOk mixed tb_ok (SPok.cons awake21_ok (SPok.cons madeStore_ok (SPok.cons first_ok (SPok.cons tickIssue_ok (SPok.cons tickRelease_ok (SPok.cons tickNextH_ok SPok.nil)))))) Tryd.func5 (by decide) (pureC_ok fun _ => rfl) (an := (fun x => { loops := [(8, stk1 x), (16, stk2 x), (22, stk3 x), (31, stk4 x)] })) (σ := (fun _ => none)) ?_
  rw [← ticketStackV]
  simp (maxSteps := 10000000) only [and_false, false_and, false_or, or_false, bOf_true, bOf_false, true_bOf, false_bOf, Exx, int_ite, merge_o, Tr_eq, true_and, and_true, exists_const, forall_const, implies_true, forall_eq, exists_eq, exists_eq', exists_eq_left, exists_eq_left', exists_eq_right, Prod.exists, Prod.forall, and_assoc, exists_and_left, BC_iff, Bool.not_eq_true', Bool.not_eq_false', decide_eq_true_eq, decide_eq_false_iff_not, I64, nat_cast_inj, Int.toNat_natCast, nats_iff, nats_iff', ints_iff, ints_iff', natss_iff, natss_iff', nilnil, litL_eq, str_inj, str_append, str_length, str_getD, str_take, lit1_iff, one_iff, two_iff, one_get, Nat.zero_add, Nat.sub_zero, Nat.reduceMul, Nat.reduceDiv, Nat.reduceAdd, Int.reduceToNat, Nat.not_lt_zero, if_false, if_true, Nat.le_refl, List.length_singleton, List.length_cons, List.length_nil, Bool.false_eq_true, not_true_eq_false, false_implies, not_false_eq_true, Prod.mk.injEq, devB_inj, allocB_inj, setB_inj, tick_ex, store_ex, hand_ex, tick_eta, store_eta, hand_eta, store_mark]
  rintro x ⟨hx, hxl⟩ h12
  have hg : geomOk 100 30 9 := by decide
  refine ⟨100, rfl, by omega, by omega, by omega, by omega, by omega, by omega, by omega, by omega, fun p => StkI p.2.1 p.2.2 (fun d => d = stkD p.1) ∧ p.1 ≤ 12, ⟨0, madeS 100 0, tick0 100 30 9, ⟨⟨rfl, rfl, _, desk_made (by omega) (by omega) hg, rfl⟩, by simp only; omega⟩, rfl, rfl, rfl, rfl, rfl, rfl, rfl, rfl, rfl⟩, fun p => 12 - p.1, fun i s t hI => ⟨fun hlt => ?_, fun hge => ?_⟩⟩
  · obtain ⟨⟨hs, hn, d, D, rfl⟩, hi⟩ := hI
    simp only at hs hn D hi
    obtain ⟨e1, k1, D1⟩ := D.issue (by omega) (by omega) (at_ := 5) (by omega) (by rw [hs]; exact stk_next (by omega))
    have g1 := issT_geo e1
    rw [stk_iss] at D1
    refine ⟨D.W, D.tI, by omega, by omega, fun q => q e1, fun _ b hb => ⟨fun q => ?_, fun _ => ⟨by omega, by omega, i + 1, _, _, ⟨⟨g1.1.trans hs, g1.2.1.trans hn, _, D1, rfl⟩, by simp only; omega⟩, by simp only; omega, by omega, rfl, rfl, rfl, rfl, rfl, rfl, rfl, rfl⟩⟩⟩
    rw [hb.2 ⟨by rw [k1], by rw [k1]⟩] at q; cases q
  obtain ⟨⟨hs, hn, d, D, rfl⟩, hi⟩ := hI
  simp only at hs hn D hi
  have e12 : i = 12 := by omega
  subst e12
  refine ⟨fun p => StkI p.2.1 p.2.2.1 (fun d => Stk2 d p.2.2.2.2) ∧ p.1 ≤ x.length, ⟨0, s, t, 0, [], ⟨⟨hs, hn, _, D, stk2_0⟩, Nat.zero_le _⟩, rfl, rfl, rfl, rfl, rfl, rfl, rfl, rfl, rfl, rfl, rfl, rfl, rfl⟩, fun p => x.length - p.1, ?_⟩
  clear D hs hn s t
  intro k s t cap gone ⟨⟨hs, hn, d, D, hd⟩, hk⟩
  simp only at hs hn D hd hk
  refine ⟨fun hlt => ?_, fun hge => ?_⟩
  · have hxk : x.getD k 0 < 256 := getD_mem (p := fun c => c < 256) hx (by decide) k
    have hw : IntKind.i64.wrap ((x.getD k 0 : Nat) : Int) = ((x.getD k 0 : Nat) : Int) := wrap_I64 ⟨by omega, by omega⟩
    have hm : ((x.getD k 0 : Nat) : Int).tmod 12 = ((x.getD k 0 % 12 : Nat) : Int) := rfl
    rw [hw, hm]
    have h12' : x.getD k 0 % 12 < 12 := Nat.mod_lt _ (by decide)
    generalize x.getD k 0 % 12 = n at h12' ⊢
    refine ⟨by omega, by omega, by omega, D.W, D.tI, handI_of ⟨by omega, by omega⟩ ⟨by omega, by omega⟩, fun p => ∃ j, j ≤ gone.length ∧ p = ((k, relS s t ⟨(n : Int), 1⟩, t, cap, gone), relT s t ⟨(n : Int), 1⟩, (n : Int), relE s t ⟨(n : Int), 1⟩, decide (n ∈ gone.take j), j),
      ⟨k, _, t, cap, gone, _, _, _, _, 0, ⟨0, Nat.zero_le _, rfl⟩, rfl, rfl, rfl, rfl, rfl, by simp, rfl, rfl, rfl, rfl, rfl, rfl, rfl, rfl, rfl, rfl, Nat.le_refl _, fun _ _ => rfl, rfl, rfl, rfl, rfl, rfl, rfl⟩, fun p => gone.length - p.2.2.2.2.2, ?_⟩
    rintro k2 s2 t2 cap2 gone2 u sl e is j ⟨j', hj, hp⟩
    simp only [Prod.mk.injEq] at hp
    obtain ⟨⟨rfl, rfl, rfl, rfl, rfl⟩, rfl, rfl, rfl, rfl, rfl⟩ := hp
    have hgl := (stk2_len D.inv hd).1
    refine ⟨fun hjl => ⟨fun hin => ⟨by omega, by omega, k2, _, t2, cap2, gone2, _, _, _, _, j + 1, ⟨j + 1, by omega, rfl⟩, by simp only; omega, rfl, rfl, rfl, rfl, rfl, ?_, by omega, rfl, rfl, rfl, rfl, rfl, rfl, rfl, rfl, rfl, Nat.le_refl _, fun _ _ => rfl, rfl, rfl, rfl, rfl, rfl, rfl⟩, fun hin => ⟨by omega, by omega, by omega, by omega, by omega, k2, _, t2, cap2, gone2, _, _, _, _, j + 1, ⟨j + 1, by omega, rfl⟩, by simp only; omega, rfl, rfl, rfl, rfl, rfl, ?_, by omega, rfl, rfl, rfl, rfl, rfl, rfl, rfl, rfl, rfl, Nat.le_refl _, fun _ _ => rfl, rfl, rfl, rfl, rfl, rfl, rfl⟩⟩, fun hjl => ?_⟩
    · rw [take_succ_getD 0 (by omega)]
      have := of_decide_eq_true hin
      exact (decide_eq_true (List.mem_append_left _ this)).symm
    · rw [take_succ_getD 0 (by omega)]
      have := of_decide_eq_false hin
      refine decide_eq_decide.2 ?_
      rw [List.mem_append, List.mem_singleton]
      constructor
      · intro h; exact .inr (by omega)
      · rintro (h | h)
        · exact absurd h this
        · omega
    · have ej : j = gone2.length := by omega
      rw [ej, List.take_length]
      by_cases hin : n ∈ gone2
      · have e11 := (release_dead D.inv (x := ⟨(n : Int), 1⟩) (fun q => (stk2_live hd h12').1 q hin))
        rw [e11.1, e11.2, decide_eq_true hin]
        refine ⟨fun q => (by cases q), fun _ => ⟨fun q => (by cases q), fun _ => ⟨by omega, by omega, k2 + 1, s, t2, cap2, gone2, ⟨⟨hs, hn, _, D, hd⟩, by simp only; omega⟩, by simp only; omega, rfl, rfl, by omega, rfl, rfl, rfl, rfl, rfl, rfl, rfl, rfl, rfl, Nat.le_refl _, fun _ _ => rfl⟩⟩⟩
      · obtain ⟨e0, D1⟩ := D.release (by omega) (by omega) ((stk2_live hd h12').2 hin)
        have g1 := relT_geo e0
        rw [e0, decide_eq_false hin]
        rw [hn] at D1
        refine ⟨fun q => (by cases q), fun _ => ⟨fun _ => ⟨by omega, by omega, fun c hc => ⟨by omega, by omega, k2 + 1, _, _, c, gone2 ++ [n], ⟨⟨g1.1.trans hs, g1.2.1.trans hn, _, D1, stk2_rel hd D.inv.lenb h12'⟩, by simp only; omega⟩, by simp only; omega, by rw [List.length_append]; rfl, rfl, by omega, rfl, rfl, rfl, rfl, rfl, rfl, rfl, rfl, rfl, by rw [List.length_append]; exact Nat.le_refl _, fun i hi => ?_⟩⟩, fun q => absurd rfl q⟩⟩
        rw [List.length_append, List.length_singleton] at hi
        rw [getD_append]
        by_cases h1 : i < gone2.length
        · rw [if_pos h1, if_pos h1]
        · have h2 : i - gone2.length = 0 := by omega
          rw [if_neg h1, if_neg h1, if_pos h2, h2]; rfl
  · have hgl := stk2_len D.inv hd
    have hgl1 := hgl.1
    have el : ((gone.length : Int) - 1 + 1).toNat = gone.length := by omega
    refine ⟨by omega, by omega, fun p => StkI p.2.1 p.2.2.1 (fun d => Stk4 d gone (p.1 + 1).toNat) ∧ -1 ≤ p.1 ∧ p.2.2.2.2 = gone, ⟨(gone.length : Int) - 1, s, t, cap, gone, ⟨⟨hs, hn, d, D, ⟨hd.len, ?_, ?_, by simp only; omega⟩⟩, by simp only; omega, rfl⟩, rfl, rfl, rfl, rfl, rfl, rfl, rfl, rfl, rfl, rfl, rfl, rfl, Nat.le_refl _, fun _ _ => rfl⟩, fun p => (p.1 + 1).toNat, ?_⟩
    · simp only; rw [el, List.take_length]; exact hd.free
    · simp only; rw [el]; exact fun j hj => hd.g1 _ (hgl.2 j hj)
    rintro a s3 t3 cap3 l3 ⟨⟨hs3, hn3, d3, D3, h3⟩, ha, rfl⟩
    simp only at hs3 hn3 D3 h3 ha hgl hgl1
    refine ⟨fun ha0 => ?_, fun hneg => ?_⟩
    · obtain ⟨m, rfl⟩ : ∃ m : Nat, a = (m : Int) := ⟨a.toNat, by omega⟩
      have em : ((m : Int) + 1).toNat = m + 1 := by omega
      rw [em] at h3
      have hle := h3.le
      obtain ⟨n1, n2⟩ := stk4_next h3 t3.slots
      obtain ⟨e1, k1, D4⟩ := D3.issue (by omega) (by omega) (at_ := 5) (by omega) n1
      have g1 := issT_geo e1
      refine ⟨D3.W, D3.tI, by omega, by omega, fun q => q e1, fun _ => ⟨by omega, by omega, by omega, fun b hb => ⟨fun q => ?_, fun _ => ⟨by omega, by omega, (m : Int) - 1, _, _, cap3, l3, ⟨⟨g1.1.trans hs3, g1.2.1.trans hn3, _, D4, ?_⟩, by simp only; omega, rfl⟩, by simp only; omega, rfl, rfl, rfl, rfl, rfl, rfl, rfl, rfl, rfl, rfl, rfl, rfl, Nat.le_refl _, fun _ _ => rfl⟩⟩⟩⟩
      · rw [hb.2 ⟨by rw [k1]; rfl, by rw [k1]⟩] at q; cases q
      · rw [show ((m : Int) - 1 + 1).toNat = m by omega]
        exact n2 D3.inv.fnd fun a ha => (D3.inv.fok a ha).1
    · have ea : (a + 1).toNat = 0 := by omega
      rw [ea] at h3
      have n1 : deskNext t3.slots d3 = some (12, 1) := by
        unfold deskNext; rw [h3.free]; simp only [List.take_zero, List.reverse_nil]
        rw [h3.len, hs3]; rfl
      obtain ⟨k1, k2, k3, _⟩ := next_some D3.inv n1
      refine ⟨D3.W, D3.tI, fun _ b hb => hb.2 ?_, fun q => q k1⟩
      rw [nextH, if_pos k1, k2, k3]; exact ⟨rfl, rfl⟩

end Yard
