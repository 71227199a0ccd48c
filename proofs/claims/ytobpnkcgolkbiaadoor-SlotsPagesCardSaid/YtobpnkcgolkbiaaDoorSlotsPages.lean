import Derived.Test.YtobpnkcgolkbiaaDoorRef10
/- The law SlotsPages. -/
namespace Yard
open Go Go.Sx Go.Proofs
set_option linter.unusedVariables false
set_option linter.unusedSimpArgs false
set_option maxRecDepth 4000
set_option maxHeartbeats 4000000

abbrev pgH (s : StoreT) (c1 : Nat) (l1 : List Int) (c2 : Nat) (l2 : List Int) : AH := [.fence, storeI 2 3, devI s.ws, allocI s.a, rowI 3 .i64 c1 l1, rowI 3 .i64 c2 l2]
abbrev PgT : Type := Nat × StoreT × Int × (Nat × List Int) × (Nat × List Int)
abbrev pgF (l : List Act20) (t : PgT) : List (Nat × AV) := [(0, acts20A l), (3, .ptr 1 [] 0), (5, .ptr 3 [] 0), (6, i64 t.2.2.1), (7, .sl 4 [] 0 1 0 t.2.2.2.1.2.length t.2.2.2.1.1), (8, .sl 5 [] 0 1 0 t.2.2.2.2.2.length t.2.2.2.2.1), (9, i64 (t.1 : Nat))]
def posOf (F : Fr) (t : Nat) : Option Nat := match F.getD t .any with
  | .sl q _ _ _ _ _ _ => some q
  | .ptr q _ _ => some q
  | _ => none
def pgRen (F : Fr) (_ : AH) : Option Ren := some (idRen 4 4 ++ [posOf F 7, posOf F 8])
def pgRen3 (F : Fr) (_ : AH) : Option Ren := some (idRen 4 4 ++ [posOf F 7, posOf F 8, posOf F 10])
def pgRenL (F : Fr) (_ : AH) : Option Ren := some (idRen 4 4 ++ [posOf F 13])
def slotsPagesC : Ctr := pureC (List Act20) Acts20 (fun x => [acts20A x]) (fun _ => .bool true)
def pg1 (x : List Act20) : LA := { T := PgT, F := fun t => frm 163 (pgF x t), H := fun t => pgH t.2.1 t.2.2.2.1.1 t.2.2.2.1.2 t.2.2.2.2.1 t.2.2.2.2.2, ρ₁ := pgRen, ρ₂ := pgRen }
def pgJ (x : List Act20) : LA := { T := PgT × Act20, F := fun t => frm 163 (pgF x t.1 ++ [(10, .ptr 6 [] 0)]), H := fun t => pgH t.1.2.1 t.1.2.2.2.1.1 t.1.2.2.2.1.2 t.1.2.2.2.2.1 t.1.2.2.2.2.2 ++ [.cells 32 (act20V t.2)], ρ₁ := pgRen3, ρ₂ := pgRen3 }
def pg2 (x : List Act20) : LA := { T := Nat × StoreT × Nat × List Int, F := fun t => frm 163 [(5, .ptr 3 [] 0), (13, .sl 4 [] 0 1 0 t.2.2.2.length t.2.2.1), (16, i64 (t.1 : Nat))], H := fun t => [.fence, storeI 2 3, devI t.2.1.ws, allocI t.2.1.a, rowI 3 .i64 t.2.2.1 t.2.2.2], ρ₁ := pgRenL, ρ₂ := pgRenL }

def LvOf (s : StoreT) (top : Int) (l : List Int) : Prop := ∀ q, q ∈ l ↔ ∃ i j : Nat, i < 16 ∧ j < 16 ∧ q = 16 * (i : Int) + (j : Int) ∧ tF s.ws top i j ≠ 0
def FnOf (s : StoreT) (top : Int) (l : List Int) : Prop := ∀ q, q ∈ l ↔ ∃ i : Nat, i < 16 ∧ q = (i : Int) ∧ fanF s.ws top i ≠ 0
theorem tdiv_place {slot : Int} (hp : placeOk slot) : slot.tdiv 7 = 16 * ((placeK slot 0 : Nat) : Int) + ((placeK slot 1 : Nat) : Int) ∧ slot.tdiv 112 = ((placeK slot 0 : Nat) : Int) ∧ 0 ≤ slot.tdiv 7 ∧ slot.tdiv 7 < 256 := by
  have h0 := hp.1
  have h1 := hp.2
  obtain ⟨n, rfl⟩ : ∃ n : Nat, slot = (n : Int) := ⟨slot.toNat, by omega⟩
  have e0 : placeK (n : Int) 0 = n / 7 / 16 := by simp [placeK, hp]
  have e1 : placeK (n : Int) 1 = n / 7 % 16 := by simp [placeK, hp]
  have d7 : (n : Int).tdiv 7 = ((n / 7 : Nat) : Int) := rfl
  have d112 : (n : Int).tdiv 112 = ((n / 112 : Nat) : Int) := rfl
  rw [e0, e1, d7, d112]
  omega
theorem lv_put {s : StoreT} {top slot : Int} {x : SeatT} {r : Wr} (S : PutOk s top slot x r) (hp : placeOk slot) {l l' : List Int} (h : LvOf s top l) (h' : ∀ q, q ∈ l' ↔ q ∈ l ∨ q = slot.tdiv 7) : LvOf r.s r.at_ l' := fun q => by
  obtain ⟨p0, p1, p2⟩ := place_lt hp
  have ht := (tdiv_place hp).1
  rw [h' q, h q]
  constructor
  · rintro (⟨i, j, hi, hj, e, hz⟩ | e)
    · exact ⟨i, j, hi, hj, e, (S.nzF i j hi hj).2 (.inr hz)⟩
    · exact ⟨_, _, p0, p1, by rw [e, ht], (S.nzF _ _ p0 p1).2 (.inl ⟨rfl, rfl⟩)⟩
  · rintro ⟨i, j, hi, hj, e, hz⟩
    rcases (S.nzF i j hi hj).1 hz with k | k
    · exact .inr (by rw [e, ht, k.1, k.2])
    · exact .inl ⟨i, j, hi, hj, e, k⟩
theorem fn_put {s : StoreT} {top slot : Int} {x : SeatT} {r : Wr} (S : PutOk s top slot x r) (hp : placeOk slot) {l l' : List Int} (h : FnOf s top l) (h' : ∀ q, q ∈ l' ↔ q ∈ l ∨ q = slot.tdiv 112) : FnOf r.s r.at_ l' := fun q => by
  obtain ⟨p0, p1, p2⟩ := place_lt hp
  have ht := (tdiv_place hp).2.1
  rw [h' q, h q]
  constructor
  · rintro (⟨i, hi, e, hz⟩ | e)
    · exact ⟨i, hi, e, (S.nzK i hi).2 (.inr hz)⟩
    · exact ⟨_, p0, by rw [e, ht], (S.nzK _ p0).2 (.inl rfl)⟩
  · rintro ⟨i, hi, e, hz⟩
    rcases (S.nzK i hi).1 hz with k | k
    · exact .inr (by rw [e, ht, k])
    · exact .inl ⟨i, hi, e, k⟩
theorem snoc_mem {l : List Int} {v : Int} : ∀ q, q ∈ l ++ [v] ↔ q ∈ l ∨ q = v := fun q => by rw [List.mem_append, List.mem_singleton]
theorem snoc_nodup {l : List Int} {v : Int} (h : l.Nodup) (hv : ¬ v ∈ l) : (l ++ [v]).Nodup := by
  rw [List.nodup_append]
  exact ⟨h, by simp, fun a ha b hb e => hv (by rw [List.mem_singleton] at hb; rw [← hb, ← e]; exact ha)⟩
/-- What holds between two seats. -/
structure PgInv (i : Nat) (s : StoreT) (top : Int) (l1 l2 : List Int) : Prop where
  inv : ∃ lst, Inv 200 i s top lst
  w0 : InS s.a.n s.a.w 0
  w1 : InS s.a.n s.a.w 1
  n1 : l1.Nodup
  n2 : l2.Nodup
  m1 : LvOf s top l1
  m2 : FnOf s top l2
  ne : top ≠ 0 → 0 < l2.length
  b1 : l1.length ≤ i
  b2 : l2.length ≤ i
/-- Between a leaf's mark and its fan's. -/
structure PgMid (i : Nat) (s : StoreT) (top : Int) (l1 l2 : List Int) (v : Int) : Prop where
  inv : ∃ lst, Inv 200 (i + 1) s top lst
  w0 : InS s.a.n s.a.w 0
  w1 : InS s.a.n s.a.w 1
  n1 : l1.Nodup
  n2 : l2.Nodup
  m1 : LvOf s top l1
  m2 : ∀ l', (∀ q, q ∈ l' ↔ q ∈ l2 ∨ q = v) → FnOf s top l'
  b1 : l1.length ≤ i + 1
  b2 : l2.length ≤ i
theorem pg_intL {i : Nat} {l : List Int} (h : ∀ q ∈ l, 0 ≤ q ∧ q < 256) (hb : l.length ≤ i) (hi : i ≤ 100) : IntL l := ⟨fun q hq => by have := h q hq; exact ⟨by omega, by omega⟩, by omega⟩
theorem lv_bd {s : StoreT} {top : Int} {l : List Int} (h : LvOf s top l) : ∀ q ∈ l, 0 ≤ q ∧ q < 256 := fun q hq => by
  obtain ⟨i, j, hi, hj, rfl, _⟩ := (h q).1 hq
  omega
theorem pg_made : PgInv 0 (madeS 200 0) 0 [] [] :=
  ⟨⟨[], inv_made (by omega) (by omega)⟩, inS_made.2 ⟨.inl rfl, (by show (0 : Int) < ((200 : Nat) : Int); omega)⟩, inS_made.2 ⟨.inr rfl, (by show (1 : Int) < ((200 : Nat) : Int); omega)⟩, .nil, .nil, fun q => ⟨fun h => (by cases h), fun ⟨_, _, _, _, _, h⟩ => absurd rfl h⟩, fun q => ⟨fun h => (by cases h), fun ⟨_, _, _, h⟩ => absurd rfl h⟩, fun h => absurd rfl h, Nat.le_refl _, Nat.le_refl _⟩
theorem pg_mark {i : Nat} {s : StoreT} {top : Int} {l1 l2 : List Int} (h : PgInv i s top l1 l2) : PgInv i (markT s) top l1 l2 := by
  obtain ⟨lst, hI⟩ := h.inv
  exact ⟨⟨lst, inv_mark hI⟩, h.w0, h.w1, h.n1, h.n2, h.m1, h.m2, h.ne, h.b1, h.b2⟩
theorem pg_next {i : Nat} {s : StoreT} {top : Int} {l1 l2 : List Int} (h : PgInv i s top l1 l2) : PgInv (i + 1) s top l1 l2 := by
  obtain ⟨lst, hI⟩ := h.inv
  exact ⟨⟨lst, inv_next hI⟩, h.w0, h.w1, h.n1, h.n2, h.m1, h.m2, h.ne, by have := h.b1; omega, by have := h.b2; omega⟩
theorem pg_put {i : Nat} {s : StoreT} {top : Int} {l1 l2 l1' : List Int} {a : Act20} (h : PgInv i s top l1 l2) (hi : i ≤ 60) (ha : Act20I a) (hp : placeOk a.slot) (hs : seatOk a.x) (h1 : ∀ q, q ∈ l1' ↔ q ∈ l1 ∨ q = a.slot.tdiv 7) (hn : l1'.Nodup) (hb : l1'.length ≤ i + 1) :
    PgMid i (putR s top a.slot a.x).s (putR s top a.slot a.x).at_ l1' l2 (a.slot.tdiv 112) := by
  obtain ⟨lst, hI⟩ := h.inv
  have g := inv_put hI (a := a) (by omega) hp hs ha
  rcases tree_put hI.good hI.tree hp hs with S | N
  · exact ⟨⟨_, g.2⟩, by rw [S.n]; exact S.w01 0 (by omega) h.w0, by rw [S.n]; exact S.w01 1 (by omega) h.w1, hn, h.n2, lv_put S hp h.m1 h1, fun l' hl' => fn_put S hp h.m2 hl', hb, h.b2⟩
  · have := N.e; rw [g.1] at this; cases this
theorem pg_mid {i : Nat} {s : StoreT} {top : Int} {l1 l2 l2' : List Int} {v : Int} (h : PgMid i s top l1 l2 v) (h2 : ∀ q, q ∈ l2' ↔ q ∈ l2 ∨ q = v) (hn : l2'.Nodup) (hb : l2'.length ≤ i + 1) : PgInv (i + 1) s top l1 l2' :=
  ⟨h.inv, h.w0, h.w1, h.n1, hn, h.m1, h.m2 l2' h2, fun _ => List.length_pos_of_mem ((h2 v).2 (.inr rfl)), h.b1, hb⟩
theorem pg_end {i : Nat} {s : StoreT} {top : Int} {l1 l2 : List Int} (h : PgInv i s top l1 l2) : pagesErr s.ws top = 0 ∧ pagesL s.ws top = pagesUp s.ws top 16 ∧ (bitsL s.a.n s.a.w).length = (pagesUp s.ws top 16).length + 2 ∧ (pagesUp s.ws top 16).length = (if 0 < l2.length + l1.length then 1 else 0) + (l2.length + l1.length) := by
  obtain ⟨lst, hI⟩ := h.inv
  have g := pages_ok0 hI.tree
  refine ⟨g.1, g.2, pages_count hI.tree h.w0 h.w1, ?_⟩
  rw [pages_len hI.tree h.n1 h.n2 h.m1 h.m2]
  congr 1
  unfold one0
  by_cases e : top = 0
  · have hf : ∀ i, fanF s.ws top i = 0 := fun i => by rw [e]; rfl
    have e1 : l1 = [] := List.eq_nil_iff_forall_not_mem.2 fun q hq => by
      obtain ⟨i, j, _, _, _, hz⟩ := (h.m1 q).1 hq
      exact hz (by rw [tF, hf i]; rfl)
    have e2 : l2 = [] := List.eq_nil_iff_forall_not_mem.2 fun q hq => by
      obtain ⟨i, _, _, hz⟩ := (h.m2 q).1 hq
      exact hz (hf i)
    rw [if_pos e, e1, e2]; rfl
  · have := h.ne e
    rw [if_neg e, if_pos (by omega)]; rfl

-- callees: 12=awake20_ok 13=madeStore_ok 14=allocMark_ok 15=slotPut_ok 16=seat09_ok 21=refHas_ok 22=storePages_ok 23=works_ok 24=setCount_ok 25=(specObj_ok setHas_ok setHasO_ok)
theorem slotsPagesV : (∀ (x : List Act20), Acts20 x → Exx Unit fun x_1 => Tr 1 (true = true ∧ True) ∧ Tr 1 (∀ (y : Unit), True → BC (decide ((25 : Int) <
 (↑x.length : Int))) (Exx Unit fun x => Tr 1 (true = true ∧ True) ∧ Tr 1 (∀ (y : Unit), True → Exx Unit fun y => ((true = true ∧ True) ∧ true = true ∧ True) ∧
 True)) (Exx (Nat × Int) fun x_2 => ((Tr 1 ((200 : Int) = (↑x_2.fst : Int)) ∧ Tr 1 ((0 : Int) = x_2.snd) ∧ True) ∧ true = true ∧ True) ∧ (x_2.fst ≤ 3072 ∧ (0 :
 Int) ≤ x_2.snd ∧ I64 x_2.snd) ∧ ∀ (y : Unit), True → Exx (Nat × StoreT × Int × (Nat × List Int) × Nat × List Int → Prop) fun I => Exx (Nat × StoreT × Int × (Nat
 × List Int) × Nat × List Int → Nat) fun m => (Exx (Nat × StoreT × Int × (Nat × List Int) × Nat × List Int) fun t => I t ∧ (((5 : Nat) = (5 : Nat) ∧ x.length =
 x.length ∧ ∀ (i : Nat), i < x.length → [AV.int IntKind.i64 (x.getD i act20Z).slot, AV.bool (x.getD i act20Z).x.live, AV.int IntKind.i64 (x.getD i act20Z).x.gen,
 AV.int IntKind.i64 (x.getD i act20Z).x.next, AV.bool (x.getD i act20Z).mark] = [AV.int IntKind.i64 (x.getD i act20Z).slot, AV.bool (x.getD i act20Z).x.live,
 AV.int IntKind.i64 (x.getD i act20Z).x.gen, AV.int IntKind.i64 (x.getD i act20Z).x.next, AV.bool (x.getD i act20Z).mark]) ∧ Tr 2 ((true = true ∧ NilNil ∧ (0 :
 Nat) = (0 : Nat)) ∧ Tr 1 ((true = true ∧ NilNil ∧ (0 : Nat) = (0 : Nat)) ∧ Tr 1 ((0 : Int) = t.snd.snd.fst) ∧ (t.snd.snd.snd.fst.snd.length = 0 ∧
 t.snd.snd.snd.fst.fst = 0) ∧ (t.snd.snd.snd.snd.snd.length = 0 ∧ t.snd.snd.snd.snd.fst = 0) ∧ Tr 1 ((0 : Int) = (↑t.fst : Int)) ∧ Tr 153 True))) ∧ true = true ∧
 ((139 : TypeId) = (139 : TypeId) ∧ (true = true ∧ NilNil ∧ (0 : Nat) = (0 : Nat)) ∧ (true = true ∧ NilNil ∧ (0 : Nat) = (0 : Nat)) ∧ True) ∧ devB (madeS x_2.fst
 x_2.snd).ws = devB t.snd.fst.ws ∧ allocB (madeS x_2.fst x_2.snd).a = allocB t.snd.fst.a ∧ (t.snd.snd.snd.fst.fst = 0 ∧ t.snd.snd.snd.fst.snd.length = 0) ∧
 (t.snd.snd.snd.snd.fst = 0 ∧ t.snd.snd.snd.snd.snd.length = 0) ∧ True) ∧ ∀ (t : Nat × StoreT × Int × (Nat × List Int) × Nat × List Int), I t → BC (decide
 ((↑t.fst : Int) < (↑x.length : Int))) (((0 : Int) ≤ (↑t.fst : Int) ∧ (↑t.fst : Int) < (↑x.length : Int)) ∧ BC (decide ((x.getD (↑t.fst : Int).toNat act20Z).slot
 < (0 : Int))) (I64 ((↑t.fst : Int) + 1) ∧ Exx (Nat × StoreT × Int × (Nat × List Int) × Nat × List Int) fun t' => (I t' ∧ m t' < m t) ∧ (((5 : Nat) = (5 : Nat) ∧
 x.length = x.length ∧ ∀ (i : Nat), i < x.length → [AV.int IntKind.i64 (x.getD i act20Z).slot, AV.bool (x.getD i act20Z).x.live, AV.int IntKind.i64 (x.getD i
 act20Z).x.gen, AV.int IntKind.i64 (x.getD i act20Z).x.next, AV.bool (x.getD i act20Z).mark] = [AV.int IntKind.i64 (x.getD i act20Z).slot, AV.bool (x.getD i
 act20Z).x.live, AV.int IntKind.i64 (x.getD i act20Z).x.gen, AV.int IntKind.i64 (x.getD i act20Z).x.next, AV.bool (x.getD i act20Z).mark]) ∧ Tr 2 ((true = true ∧
 NilNil ∧ (0 : Nat) = (0 : Nat)) ∧ Tr 1 ((true = true ∧ NilNil ∧ (0 : Nat) = (0 : Nat)) ∧ Tr 1 (t.snd.snd.fst = t'.snd.snd.fst) ∧ (true = true ∧ NilNil ∧ (0 :
 Nat) = (0 : Nat) ∧ (1 : Nat) = (1 : Nat) ∧ (0 : Nat) = (0 : Nat) ∧ t.snd.snd.snd.fst.snd.length = t'.snd.snd.snd.fst.snd.length ∧ t.snd.snd.snd.fst.fst =
 t'.snd.snd.snd.fst.fst) ∧ (true = true ∧ NilNil ∧ (0 : Nat) = (0 : Nat) ∧ (1 : Nat) = (1 : Nat) ∧ (0 : Nat) = (0 : Nat) ∧ t.snd.snd.snd.snd.snd.length =
 t'.snd.snd.snd.snd.snd.length ∧ t.snd.snd.snd.snd.fst = t'.snd.snd.snd.snd.fst) ∧ Tr 1 ((↑t.fst : Int) + 1 = (↑t'.fst : Int)) ∧ Tr 153 True))) ∧ true = true ∧
 ((139 : TypeId) = (139 : TypeId) ∧ (true = true ∧ NilNil ∧ (0 : Nat) = (0 : Nat)) ∧ (true = true ∧ NilNil ∧ (0 : Nat) = (0 : Nat)) ∧ True) ∧ devB t.snd.fst.ws =
 devB t'.snd.fst.ws ∧ allocB t.snd.fst.a = allocB t'.snd.fst.a ∧ ((3 : TypeId) = (3 : TypeId) ∧ (1 : Nat) = (1 : Nat) ∧ t.snd.snd.snd.fst.fst =
 t'.snd.snd.snd.fst.fst ∧ t'.snd.snd.snd.fst.snd.length ≤ t.snd.snd.snd.fst.snd.length ∧ ∀ (i : Nat), i < t'.snd.snd.snd.fst.snd.length → [AV.int IntKind.i64
 (t.snd.snd.snd.fst.snd.getD i 0)] = [AV.int IntKind.i64 (t'.snd.snd.snd.fst.snd.getD i 0)]) ∧ ((3 : TypeId) = (3 : TypeId) ∧ (1 : Nat) = (1 : Nat) ∧
 t.snd.snd.snd.snd.fst = t'.snd.snd.snd.snd.fst ∧ t'.snd.snd.snd.snd.snd.length ≤ t.snd.snd.snd.snd.snd.length ∧ ∀ (i : Nat), i < t'.snd.snd.snd.snd.snd.length →
 [AV.int IntKind.i64 (t.snd.snd.snd.snd.snd.getD i 0)] = [AV.int IntKind.i64 (t'.snd.snd.snd.snd.snd.getD i 0)]) ∧ True) (BC (decide ((1791 : Int) < (x.getD
 (↑t.fst : Int).toNat act20Z).slot)) (I64 ((↑t.fst : Int) + 1) ∧ Exx (Nat × StoreT × Int × (Nat × List Int) × Nat × List Int) fun t' => (I t' ∧ m t' < m t) ∧
 (((5 : Nat) = (5 : Nat) ∧ x.length = x.length ∧ ∀ (i : Nat), i < x.length → [AV.int IntKind.i64 (x.getD i act20Z).slot, AV.bool (x.getD i act20Z).x.live, AV.int
 IntKind.i64 (x.getD i act20Z).x.gen, AV.int IntKind.i64 (x.getD i act20Z).x.next, AV.bool (x.getD i act20Z).mark] = [AV.int IntKind.i64 (x.getD i act20Z).slot,
 AV.bool (x.getD i act20Z).x.live, AV.int IntKind.i64 (x.getD i act20Z).x.gen, AV.int IntKind.i64 (x.getD i act20Z).x.next, AV.bool (x.getD i act20Z).mark]) ∧ Tr
 2 ((true = true ∧ NilNil ∧ (0 : Nat) = (0 : Nat)) ∧ Tr 1 ((true = true ∧ NilNil ∧ (0 : Nat) = (0 : Nat)) ∧ Tr 1 (t.snd.snd.fst = t'.snd.snd.fst) ∧ (true = true
 ∧ NilNil ∧ (0 : Nat) = (0 : Nat) ∧ (1 : Nat) = (1 : Nat) ∧ (0 : Nat) = (0 : Nat) ∧ t.snd.snd.snd.fst.snd.length = t'.snd.snd.snd.fst.snd.length ∧
 t.snd.snd.snd.fst.fst = t'.snd.snd.snd.fst.fst) ∧ (true = true ∧ NilNil ∧ (0 : Nat) = (0 : Nat) ∧ (1 : Nat) = (1 : Nat) ∧ (0 : Nat) = (0 : Nat) ∧
 t.snd.snd.snd.snd.snd.length = t'.snd.snd.snd.snd.snd.length ∧ t.snd.snd.snd.snd.fst = t'.snd.snd.snd.snd.fst) ∧ Tr 1 ((↑t.fst : Int) + 1 = (↑t'.fst : Int)) ∧
 Tr 153 True))) ∧ true = true ∧ ((139 : TypeId) = (139 : TypeId) ∧ (true = true ∧ NilNil ∧ (0 : Nat) = (0 : Nat)) ∧ (true = true ∧ NilNil ∧ (0 : Nat) = (0 :
 Nat)) ∧ True) ∧ devB t.snd.fst.ws = devB t'.snd.fst.ws ∧ allocB t.snd.fst.a = allocB t'.snd.fst.a ∧ ((3 : TypeId) = (3 : TypeId) ∧ (1 : Nat) = (1 : Nat) ∧
 t.snd.snd.snd.fst.fst = t'.snd.snd.snd.fst.fst ∧ t'.snd.snd.snd.fst.snd.length ≤ t.snd.snd.snd.fst.snd.length ∧ ∀ (i : Nat), i < t'.snd.snd.snd.fst.snd.length →
 [AV.int IntKind.i64 (t.snd.snd.snd.fst.snd.getD i 0)] = [AV.int IntKind.i64 (t'.snd.snd.snd.fst.snd.getD i 0)]) ∧ ((3 : TypeId) = (3 : TypeId) ∧ (1 : Nat) = (1
 : Nat) ∧ t.snd.snd.snd.snd.fst = t'.snd.snd.snd.snd.fst ∧ t'.snd.snd.snd.snd.snd.length ≤ t.snd.snd.snd.snd.snd.length ∧ ∀ (i : Nat), i <
 t'.snd.snd.snd.snd.snd.length → [AV.int IntKind.i64 (t.snd.snd.snd.snd.snd.getD i 0)] = [AV.int IntKind.i64 (t'.snd.snd.snd.snd.snd.getD i 0)]) ∧ True) (Exx
 SeatT fun x_3 => ((((x.getD (↑t.fst : Int).toNat act20Z).x.live = x_3.live ∧ Tr 1 ((x.getD (↑t.fst : Int).toNat act20Z).x.gen = x_3.gen) ∧ Tr 1 ((x.getD (↑t.fst
 : Int).toNat act20Z).x.next = x_3.next) ∧ True) ∧ True) ∧ true = true ∧ True) ∧ SeatI x_3 ∧ ∀ (y : Unit), True → BC (!decide (seatOk x_3)) (I64 ((↑t.fst : Int)
 + 1) ∧ Exx (Nat × StoreT × Int × (Nat × List Int) × Nat × List Int) fun t' => (I t' ∧ m t' < m t) ∧ (((5 : Nat) = (5 : Nat) ∧ x.length = x.length ∧ ∀ (i : Nat),
 i < x.length → [AV.int IntKind.i64 (x.getD i act20Z).slot, AV.bool (x.getD i act20Z).x.live, AV.int IntKind.i64 (x.getD i act20Z).x.gen, AV.int IntKind.i64
 (x.getD i act20Z).x.next, AV.bool (x.getD i act20Z).mark] = [AV.int IntKind.i64 (x.getD i act20Z).slot, AV.bool (x.getD i act20Z).x.live, AV.int IntKind.i64
 (x.getD i act20Z).x.gen, AV.int IntKind.i64 (x.getD i act20Z).x.next, AV.bool (x.getD i act20Z).mark]) ∧ Tr 2 ((true = true ∧ NilNil ∧ (0 : Nat) = (0 : Nat)) ∧
 Tr 1 ((true = true ∧ NilNil ∧ (0 : Nat) = (0 : Nat)) ∧ Tr 1 (t.snd.snd.fst = t'.snd.snd.fst) ∧ (true = true ∧ NilNil ∧ (0 : Nat) = (0 : Nat) ∧ (1 : Nat) = (1 :
 Nat) ∧ (0 : Nat) = (0 : Nat) ∧ t.snd.snd.snd.fst.snd.length = t'.snd.snd.snd.fst.snd.length ∧ t.snd.snd.snd.fst.fst = t'.snd.snd.snd.fst.fst) ∧ (true = true ∧
 NilNil ∧ (0 : Nat) = (0 : Nat) ∧ (1 : Nat) = (1 : Nat) ∧ (0 : Nat) = (0 : Nat) ∧ t.snd.snd.snd.snd.snd.length = t'.snd.snd.snd.snd.snd.length ∧
 t.snd.snd.snd.snd.fst = t'.snd.snd.snd.snd.fst) ∧ Tr 1 ((↑t.fst : Int) + 1 = (↑t'.fst : Int)) ∧ Tr 153 True))) ∧ true = true ∧ ((139 : TypeId) = (139 : TypeId)
 ∧ (true = true ∧ NilNil ∧ (0 : Nat) = (0 : Nat)) ∧ (true = true ∧ NilNil ∧ (0 : Nat) = (0 : Nat)) ∧ True) ∧ devB t.snd.fst.ws = devB t'.snd.fst.ws ∧ allocB
 t.snd.fst.a = allocB t'.snd.fst.a ∧ ((3 : TypeId) = (3 : TypeId) ∧ (1 : Nat) = (1 : Nat) ∧ t.snd.snd.snd.fst.fst = t'.snd.snd.snd.fst.fst ∧
 t'.snd.snd.snd.fst.snd.length ≤ t.snd.snd.snd.fst.snd.length ∧ ∀ (i : Nat), i < t'.snd.snd.snd.fst.snd.length → [AV.int IntKind.i64 (t.snd.snd.snd.fst.snd.getD
 i 0)] = [AV.int IntKind.i64 (t'.snd.snd.snd.fst.snd.getD i 0)]) ∧ ((3 : TypeId) = (3 : TypeId) ∧ (1 : Nat) = (1 : Nat) ∧ t.snd.snd.snd.snd.fst =
 t'.snd.snd.snd.snd.fst ∧ t'.snd.snd.snd.snd.snd.length ≤ t.snd.snd.snd.snd.snd.length ∧ ∀ (i : Nat), i < t'.snd.snd.snd.snd.snd.length → [AV.int IntKind.i64
 (t.snd.snd.snd.snd.snd.getD i 0)] = [AV.int IntKind.i64 (t'.snd.snd.snd.snd.snd.getD i 0)]) ∧ True) (Exx (PgT × Act20 → Prop) fun I_1 => BC (x.getD (↑t.fst :
 Int).toNat act20Z).mark (Exx (AllocT × Unit) fun x_4 => (((true = true ∧ NilNil ∧ (0 : Nat) = (0 : Nat)) ∧ True) ∧ true = true ∧ allocB t.snd.fst.a = allocB
 x_4.fst ∧ True) ∧ (AllocW x_4.fst ∧ True) ∧ ∀ (y : Unit), True → Exx (PgT × Act20) fun t_1 => I_1 t_1 ∧ (((5 : Nat) = (5 : Nat) ∧ x.length = x.length ∧ ∀ (i :
 Nat), i < x.length → [AV.int IntKind.i64 (x.getD i act20Z).slot, AV.bool (x.getD i act20Z).x.live, AV.int IntKind.i64 (x.getD i act20Z).x.gen, AV.int
 IntKind.i64 (x.getD i act20Z).x.next, AV.bool (x.getD i act20Z).mark] = [AV.int IntKind.i64 (x.getD i act20Z).slot, AV.bool (x.getD i act20Z).x.live, AV.int
 IntKind.i64 (x.getD i act20Z).x.gen, AV.int IntKind.i64 (x.getD i act20Z).x.next, AV.bool (x.getD i act20Z).mark]) ∧ Tr 2 ((true = true ∧ NilNil ∧ (0 : Nat) =
 (0 : Nat)) ∧ Tr 1 ((true = true ∧ NilNil ∧ (0 : Nat) = (0 : Nat)) ∧ Tr 1 (t.snd.snd.fst = t_1.fst.snd.snd.fst) ∧ (true = true ∧ NilNil ∧ (0 : Nat) = (0 : Nat) ∧
 (1 : Nat) = (1 : Nat) ∧ (0 : Nat) = (0 : Nat) ∧ t.snd.snd.snd.fst.snd.length = t_1.fst.snd.snd.snd.fst.snd.length ∧ t.snd.snd.snd.fst.fst =
 t_1.fst.snd.snd.snd.fst.fst) ∧ (true = true ∧ NilNil ∧ (0 : Nat) = (0 : Nat) ∧ (1 : Nat) = (1 : Nat) ∧ (0 : Nat) = (0 : Nat) ∧ t.snd.snd.snd.snd.snd.length =
 t_1.fst.snd.snd.snd.snd.snd.length ∧ t.snd.snd.snd.snd.fst = t_1.fst.snd.snd.snd.snd.fst) ∧ Tr 1 ((↑t.fst : Int) = (↑t_1.fst.fst : Int)) ∧ (true = true ∧ NilNil
 ∧ (0 : Nat) = (0 : Nat)) ∧ Tr 152 True))) ∧ true = true ∧ ((139 : TypeId) = (139 : TypeId) ∧ (true = true ∧ NilNil ∧ (0 : Nat) = (0 : Nat)) ∧ (true = true ∧
 NilNil ∧ (0 : Nat) = (0 : Nat)) ∧ True) ∧ devB t.snd.fst.ws = devB t_1.fst.snd.fst.ws ∧ allocB (markS x_4.fst) = allocB t_1.fst.snd.fst.a ∧ ((3 : TypeId) = (3 :
 TypeId) ∧ (1 : Nat) = (1 : Nat) ∧ t.snd.snd.snd.fst.fst = t_1.fst.snd.snd.snd.fst.fst ∧ t_1.fst.snd.snd.snd.fst.snd.length ≤ t.snd.snd.snd.fst.snd.length ∧ ∀ (i
 : Nat), i < t_1.fst.snd.snd.snd.fst.snd.length → [AV.int IntKind.i64 (t.snd.snd.snd.fst.snd.getD i 0)] = [AV.int IntKind.i64 (t_1.fst.snd.snd.snd.fst.snd.getD i
 0)]) ∧ ((3 : TypeId) = (3 : TypeId) ∧ (1 : Nat) = (1 : Nat) ∧ t.snd.snd.snd.snd.fst = t_1.fst.snd.snd.snd.snd.fst ∧ t_1.fst.snd.snd.snd.snd.snd.length ≤
 t.snd.snd.snd.snd.snd.length ∧ ∀ (i : Nat), i < t_1.fst.snd.snd.snd.snd.snd.length → [AV.int IntKind.i64 (t.snd.snd.snd.snd.snd.getD i 0)] = [AV.int IntKind.i64
 (t_1.fst.snd.snd.snd.snd.snd.getD i 0)]) ∧ ((32 : Nat) = (32 : TypeId) ∧ Tr 1 ((x.getD (↑t.fst : Int).toNat act20Z).slot = t_1.snd.slot) ∧ (x.getD (↑t.fst :
 Int).toNat act20Z).x.live = t_1.snd.x.live ∧ Tr 1 ((x.getD (↑t.fst : Int).toNat act20Z).x.gen = t_1.snd.x.gen) ∧ Tr 1 ((x.getD (↑t.fst : Int).toNat
 act20Z).x.next = t_1.snd.x.next) ∧ (x.getD (↑t.fst : Int).toNat act20Z).mark = t_1.snd.mark ∧ True) ∧ True) (Exx (PgT × Act20) fun t_1 => I_1 t_1 ∧ (((5 : Nat)
 = (5 : Nat) ∧ x.length = x.length ∧ ∀ (i : Nat), i < x.length → [AV.int IntKind.i64 (x.getD i act20Z).slot, AV.bool (x.getD i act20Z).x.live, AV.int IntKind.i64
 (x.getD i act20Z).x.gen, AV.int IntKind.i64 (x.getD i act20Z).x.next, AV.bool (x.getD i act20Z).mark] = [AV.int IntKind.i64 (x.getD i act20Z).slot, AV.bool
 (x.getD i act20Z).x.live, AV.int IntKind.i64 (x.getD i act20Z).x.gen, AV.int IntKind.i64 (x.getD i act20Z).x.next, AV.bool (x.getD i act20Z).mark]) ∧ Tr 2
 ((true = true ∧ NilNil ∧ (0 : Nat) = (0 : Nat)) ∧ Tr 1 ((true = true ∧ NilNil ∧ (0 : Nat) = (0 : Nat)) ∧ Tr 1 (t.snd.snd.fst = t_1.fst.snd.snd.fst) ∧ (true =
 true ∧ NilNil ∧ (0 : Nat) = (0 : Nat) ∧ (1 : Nat) = (1 : Nat) ∧ (0 : Nat) = (0 : Nat) ∧ t.snd.snd.snd.fst.snd.length = t_1.fst.snd.snd.snd.fst.snd.length ∧
 t.snd.snd.snd.fst.fst = t_1.fst.snd.snd.snd.fst.fst) ∧ (true = true ∧ NilNil ∧ (0 : Nat) = (0 : Nat) ∧ (1 : Nat) = (1 : Nat) ∧ (0 : Nat) = (0 : Nat) ∧
 t.snd.snd.snd.snd.snd.length = t_1.fst.snd.snd.snd.snd.snd.length ∧ t.snd.snd.snd.snd.fst = t_1.fst.snd.snd.snd.snd.fst) ∧ Tr 1 ((↑t.fst : Int) = (↑t_1.fst.fst
 : Int)) ∧ (true = true ∧ NilNil ∧ (0 : Nat) = (0 : Nat)) ∧ Tr 152 True))) ∧ true = true ∧ ((139 : TypeId) = (139 : TypeId) ∧ (true = true ∧ NilNil ∧ (0 : Nat) =
 (0 : Nat)) ∧ (true = true ∧ NilNil ∧ (0 : Nat) = (0 : Nat)) ∧ True) ∧ devB t.snd.fst.ws = devB t_1.fst.snd.fst.ws ∧ allocB t.snd.fst.a = allocB
 t_1.fst.snd.fst.a ∧ ((3 : TypeId) = (3 : TypeId) ∧ (1 : Nat) = (1 : Nat) ∧ t.snd.snd.snd.fst.fst = t_1.fst.snd.snd.snd.fst.fst ∧
 t_1.fst.snd.snd.snd.fst.snd.length ≤ t.snd.snd.snd.fst.snd.length ∧ ∀ (i : Nat), i < t_1.fst.snd.snd.snd.fst.snd.length → [AV.int IntKind.i64
 (t.snd.snd.snd.fst.snd.getD i 0)] = [AV.int IntKind.i64 (t_1.fst.snd.snd.snd.fst.snd.getD i 0)]) ∧ ((3 : TypeId) = (3 : TypeId) ∧ (1 : Nat) = (1 : Nat) ∧
 t.snd.snd.snd.snd.fst = t_1.fst.snd.snd.snd.snd.fst ∧ t_1.fst.snd.snd.snd.snd.snd.length ≤ t.snd.snd.snd.snd.snd.length ∧ ∀ (i : Nat), i <
 t_1.fst.snd.snd.snd.snd.snd.length → [AV.int IntKind.i64 (t.snd.snd.snd.snd.snd.getD i 0)] = [AV.int IntKind.i64 (t_1.fst.snd.snd.snd.snd.snd.getD i 0)]) ∧ ((32
 : Nat) = (32 : TypeId) ∧ Tr 1 ((x.getD (↑t.fst : Int).toNat act20Z).slot = t_1.snd.slot) ∧ (x.getD (↑t.fst : Int).toNat act20Z).x.live = t_1.snd.x.live ∧ Tr 1
 ((x.getD (↑t.fst : Int).toNat act20Z).x.gen = t_1.snd.x.gen) ∧ Tr 1 ((x.getD (↑t.fst : Int).toNat act20Z).x.next = t_1.snd.x.next) ∧ (x.getD (↑t.fst :
 Int).toNat act20Z).mark = t_1.snd.mark ∧ True) ∧ True) ∧ ∀ (t_1 : PgT × Act20), I_1 t_1 → Exx (StoreT × Int × Int × SeatT) fun x_4 => (((true = true ∧ NilNil ∧
 (0 : Nat) = (0 : Nat)) ∧ Tr 1 (t_1.fst.snd.snd.fst = x_4.snd.fst) ∧ Tr 1 (t_1.snd.slot = x_4.snd.snd.fst) ∧ (t_1.snd.x.live = x_4.snd.snd.snd.live ∧ Tr 1
 (t_1.snd.x.gen = x_4.snd.snd.snd.gen) ∧ Tr 1 (t_1.snd.x.next = x_4.snd.snd.snd.next) ∧ True) ∧ True) ∧ true = true ∧ ((139 : TypeId) = (139 : TypeId) ∧ (true =
 true ∧ NilNil ∧ (0 : Nat) = (0 : Nat)) ∧ (true = true ∧ NilNil ∧ (0 : Nat) = (0 : Nat)) ∧ True) ∧ devB t_1.fst.snd.fst.ws = devB x_4.fst.ws ∧ allocB
 t_1.fst.snd.fst.a = allocB x_4.fst.a ∧ True) ∧ (StoreW x_4.fst ∧ I64 x_4.snd.fst ∧ I64 x_4.snd.snd.fst ∧ SeatI x_4.snd.snd.snd) ∧ ∀ (y : Unit), True → BC
 (!decide ((putR x_4.fst x_4.snd.fst x_4.snd.snd.fst x_4.snd.snd.snd).e = (0 : Int))) (Exx Unit fun y => ((false = true ∧ True) ∧ true = true ∧ True) ∧ True)
 (Exx (PgT × Act20 → Prop) fun I_2 => ((7 : Int) ≠ (0 : Int) ∧ I64 (t_1.snd.slot.tdiv 7) ∧ Exx (List Int × Int) fun x_5 => (((0 +
 t_1.fst.snd.snd.snd.fst.snd.length ≤ t_1.fst.snd.snd.snd.fst.snd.length ∧ t_1.fst.snd.snd.snd.fst.snd.length = x_5.fst.length ∧ ∀ (i : Nat), i < x_5.fst.length
 → [AV.int IntKind.i64 (t_1.fst.snd.snd.snd.fst.snd.getD (0 + i) 0)] = [AV.int IntKind.i64 (x_5.fst.getD i 0)]) ∧ Tr 1 (t_1.snd.slot.tdiv 7 = x_5.snd) ∧ True) ∧
 true = true ∧ True) ∧ (IntL x_5.fst ∧ I64 x_5.snd) ∧ ∀ (y : Unit), True → BC (!decide (x_5.snd ∈ x_5.fst)) ((7 : Int) ≠ (0 : Int) ∧ I64 (t_1.snd.slot.tdiv 7) ∧
 (0 : Nat) + (1 : Nat) ≤ (1 : Nat) ∧ true = true ∧ (t_1.fst.snd.snd.snd.fst.snd.length ≤ t_1.fst.snd.snd.snd.fst.snd.length ∧ t_1.fst.snd.snd.snd.fst.fst =
 t_1.fst.snd.snd.snd.fst.fst) ∧ (t_1.fst.snd.snd.snd.fst.snd.length + 1 ≤ 9223372036854775807 ∧ (t_1.fst.snd.snd.snd.fst.snd.length + 1) * 8 ≤ 140737488355328) ∧
 ∀ (cap : Nat), t_1.fst.snd.snd.snd.fst.snd.length + 1 ≤ cap ∧ cap ≤ 9223372036854775807 → Exx (PgT × Act20) fun t => I_2 t ∧ (((5 : Nat) = (5 : Nat) ∧ x.length
 = x.length ∧ ∀ (i : Nat), i < x.length → [AV.int IntKind.i64 (x.getD i act20Z).slot, AV.bool (x.getD i act20Z).x.live, AV.int IntKind.i64 (x.getD i
 act20Z).x.gen, AV.int IntKind.i64 (x.getD i act20Z).x.next, AV.bool (x.getD i act20Z).mark] = [AV.int IntKind.i64 (x.getD i act20Z).slot, AV.bool (x.getD i
 act20Z).x.live, AV.int IntKind.i64 (x.getD i act20Z).x.gen, AV.int IntKind.i64 (x.getD i act20Z).x.next, AV.bool (x.getD i act20Z).mark]) ∧ Tr 2 ((true = true ∧
 NilNil ∧ (0 : Nat) = (0 : Nat)) ∧ Tr 1 ((true = true ∧ NilNil ∧ (0 : Nat) = (0 : Nat)) ∧ Tr 1 ((putR x_4.fst x_4.snd.fst x_4.snd.snd.fst x_4.snd.snd.snd).at_ =
 t.fst.snd.snd.fst) ∧ (true = true ∧ NilNil ∧ (0 : Nat) = (0 : Nat) ∧ (1 : Nat) = (1 : Nat) ∧ (0 : Nat) = (0 : Nat) ∧ t_1.fst.snd.snd.snd.fst.snd.length + 1 =
 t.fst.snd.snd.snd.fst.snd.length ∧ cap = t.fst.snd.snd.snd.fst.fst) ∧ (true = true ∧ NilNil ∧ (0 : Nat) = (0 : Nat) ∧ (1 : Nat) = (1 : Nat) ∧ (0 : Nat) = (0 :
 Nat) ∧ t_1.fst.snd.snd.snd.snd.snd.length = t.fst.snd.snd.snd.snd.snd.length ∧ t_1.fst.snd.snd.snd.snd.fst = t.fst.snd.snd.snd.snd.fst) ∧ Tr 1 ((↑t_1.fst.fst :
 Int) = (↑t.fst.fst : Int)) ∧ (true = true ∧ NilNil ∧ (0 : Nat) = (0 : Nat)) ∧ Tr 152 True))) ∧ true = true ∧ ((139 : TypeId) = (139 : TypeId) ∧ (true = true ∧
 NilNil ∧ (0 : Nat) = (0 : Nat)) ∧ (true = true ∧ NilNil ∧ (0 : Nat) = (0 : Nat)) ∧ True) ∧ devB (putR x_4.fst x_4.snd.fst x_4.snd.snd.fst x_4.snd.snd.snd).s.ws
 = devB t.fst.snd.fst.ws ∧ allocB (putR x_4.fst x_4.snd.fst x_4.snd.snd.fst x_4.snd.snd.snd).s.a = allocB t.fst.snd.fst.a ∧ ((3 : TypeId) = (3 : TypeId) ∧ (1 :
 Nat) = (1 : Nat) ∧ cap = t.fst.snd.snd.snd.fst.fst ∧ t.fst.snd.snd.snd.fst.snd.length ≤ t_1.fst.snd.snd.snd.fst.snd.length + 1 ∧ ∀ (i : Nat), i <
 t.fst.snd.snd.snd.fst.snd.length → (if i < t_1.fst.snd.snd.snd.fst.snd.length then [AV.int IntKind.i64 (t_1.fst.snd.snd.snd.fst.snd.getD i 0)] else [AV.int
 IntKind.i64 (if 0 + (i - t_1.fst.snd.snd.snd.fst.snd.length) = 0 * 1 / 1 then t_1.snd.slot.tdiv 7 else 0)]) = [AV.int IntKind.i64
 (t.fst.snd.snd.snd.fst.snd.getD i 0)]) ∧ ((3 : TypeId) = (3 : TypeId) ∧ (1 : Nat) = (1 : Nat) ∧ t_1.fst.snd.snd.snd.snd.fst = t.fst.snd.snd.snd.snd.fst ∧
 t.fst.snd.snd.snd.snd.snd.length ≤ t_1.fst.snd.snd.snd.snd.snd.length ∧ ∀ (i : Nat), i < t.fst.snd.snd.snd.snd.snd.length → [AV.int IntKind.i64
 (t_1.fst.snd.snd.snd.snd.snd.getD i 0)] = [AV.int IntKind.i64 (t.fst.snd.snd.snd.snd.snd.getD i 0)]) ∧ ((32 : TypeId) = (32 : TypeId) ∧ Tr 1 (t_1.snd.slot =
 t.snd.slot) ∧ t_1.snd.x.live = t.snd.x.live ∧ Tr 1 (t_1.snd.x.gen = t.snd.x.gen) ∧ Tr 1 (t_1.snd.x.next = t.snd.x.next) ∧ t_1.snd.mark = t.snd.mark ∧ True) ∧
 True) (Exx (PgT × Act20) fun t => I_2 t ∧ (((5 : Nat) = (5 : Nat) ∧ x.length = x.length ∧ ∀ (i : Nat), i < x.length → [AV.int IntKind.i64 (x.getD i
 act20Z).slot, AV.bool (x.getD i act20Z).x.live, AV.int IntKind.i64 (x.getD i act20Z).x.gen, AV.int IntKind.i64 (x.getD i act20Z).x.next, AV.bool (x.getD i
 act20Z).mark] = [AV.int IntKind.i64 (x.getD i act20Z).slot, AV.bool (x.getD i act20Z).x.live, AV.int IntKind.i64 (x.getD i act20Z).x.gen, AV.int IntKind.i64
 (x.getD i act20Z).x.next, AV.bool (x.getD i act20Z).mark]) ∧ Tr 2 ((true = true ∧ NilNil ∧ (0 : Nat) = (0 : Nat)) ∧ Tr 1 ((true = true ∧ NilNil ∧ (0 : Nat) = (0
 : Nat)) ∧ Tr 1 ((putR x_4.fst x_4.snd.fst x_4.snd.snd.fst x_4.snd.snd.snd).at_ = t.fst.snd.snd.fst) ∧ (true = true ∧ NilNil ∧ (0 : Nat) = (0 : Nat) ∧ (1 : Nat)
 = (1 : Nat) ∧ (0 : Nat) = (0 : Nat) ∧ t_1.fst.snd.snd.snd.fst.snd.length = t.fst.snd.snd.snd.fst.snd.length ∧ t_1.fst.snd.snd.snd.fst.fst =
 t.fst.snd.snd.snd.fst.fst) ∧ (true = true ∧ NilNil ∧ (0 : Nat) = (0 : Nat) ∧ (1 : Nat) = (1 : Nat) ∧ (0 : Nat) = (0 : Nat) ∧ t_1.fst.snd.snd.snd.snd.snd.length
 = t.fst.snd.snd.snd.snd.snd.length ∧ t_1.fst.snd.snd.snd.snd.fst = t.fst.snd.snd.snd.snd.fst) ∧ Tr 1 ((↑t_1.fst.fst : Int) = (↑t.fst.fst : Int)) ∧ (true = true
 ∧ NilNil ∧ (0 : Nat) = (0 : Nat)) ∧ Tr 152 True))) ∧ true = true ∧ ((139 : TypeId) = (139 : TypeId) ∧ (true = true ∧ NilNil ∧ (0 : Nat) = (0 : Nat)) ∧ (true =
 true ∧ NilNil ∧ (0 : Nat) = (0 : Nat)) ∧ True) ∧ devB (putR x_4.fst x_4.snd.fst x_4.snd.snd.fst x_4.snd.snd.snd).s.ws = devB t.fst.snd.fst.ws ∧ allocB (putR
 x_4.fst x_4.snd.fst x_4.snd.snd.fst x_4.snd.snd.snd).s.a = allocB t.fst.snd.fst.a ∧ ((3 : TypeId) = (3 : TypeId) ∧ (1 : Nat) = (1 : Nat) ∧
 t_1.fst.snd.snd.snd.fst.fst = t.fst.snd.snd.snd.fst.fst ∧ t.fst.snd.snd.snd.fst.snd.length ≤ t_1.fst.snd.snd.snd.fst.snd.length ∧ ∀ (i : Nat), i <
 t.fst.snd.snd.snd.fst.snd.length → [AV.int IntKind.i64 (t_1.fst.snd.snd.snd.fst.snd.getD i 0)] = [AV.int IntKind.i64 (t.fst.snd.snd.snd.fst.snd.getD i 0)]) ∧
 ((3 : TypeId) = (3 : TypeId) ∧ (1 : Nat) = (1 : Nat) ∧ t_1.fst.snd.snd.snd.snd.fst = t.fst.snd.snd.snd.snd.fst ∧ t.fst.snd.snd.snd.snd.snd.length ≤
 t_1.fst.snd.snd.snd.snd.snd.length ∧ ∀ (i : Nat), i < t.fst.snd.snd.snd.snd.snd.length → [AV.int IntKind.i64 (t_1.fst.snd.snd.snd.snd.snd.getD i 0)] = [AV.int
 IntKind.i64 (t.fst.snd.snd.snd.snd.snd.getD i 0)]) ∧ ((32 : TypeId) = (32 : TypeId) ∧ Tr 1 (t_1.snd.slot = t.snd.slot) ∧ t_1.snd.x.live = t.snd.x.live ∧ Tr 1
 (t_1.snd.x.gen = t.snd.x.gen) ∧ Tr 1 (t_1.snd.x.next = t.snd.x.next) ∧ t_1.snd.mark = t.snd.mark ∧ True) ∧ True)) ∧ ∀ (t_2 : PgT × Act20), I_2 t_2 → (112 : Int)
 ≠ (0 : Int) ∧ I64 (t_2.snd.slot.tdiv 112) ∧ Exx (List Int × Int) fun x_5 => (((0 + t_2.fst.snd.snd.snd.snd.snd.length ≤ t_2.fst.snd.snd.snd.snd.snd.length ∧
 t_2.fst.snd.snd.snd.snd.snd.length = x_5.fst.length ∧ ∀ (i : Nat), i < x_5.fst.length → [AV.int IntKind.i64 (t_2.fst.snd.snd.snd.snd.snd.getD (0 + i) 0)] =
 [AV.int IntKind.i64 (x_5.fst.getD i 0)]) ∧ Tr 1 (t_2.snd.slot.tdiv 112 = x_5.snd) ∧ True) ∧ true = true ∧ True) ∧ (IntL x_5.fst ∧ I64 x_5.snd) ∧ ∀ (y : Unit),
 True → BC (!decide (x_5.snd ∈ x_5.fst)) ((112 : Int) ≠ (0 : Int) ∧ I64 (t_2.snd.slot.tdiv 112) ∧ (0 : Nat) + (1 : Nat) ≤ (1 : Nat) ∧ true = true ∧
 (t_2.fst.snd.snd.snd.snd.snd.length ≤ t_2.fst.snd.snd.snd.snd.snd.length ∧ t_2.fst.snd.snd.snd.snd.fst = t_2.fst.snd.snd.snd.snd.fst) ∧
 (t_2.fst.snd.snd.snd.snd.snd.length + 1 ≤ 9223372036854775807 ∧ (t_2.fst.snd.snd.snd.snd.snd.length + 1) * 8 ≤ 140737488355328) ∧ ∀ (cap : Nat),
 t_2.fst.snd.snd.snd.snd.snd.length + 1 ≤ cap ∧ cap ≤ 9223372036854775807 → I64 ((↑t_2.fst.fst : Int) + 1) ∧ Exx (Nat × StoreT × Int × (Nat × List Int) × Nat ×
 List Int) fun t' => (I t' ∧ m t' < m t) ∧ (((5 : Nat) = (5 : Nat) ∧ x.length = x.length ∧ ∀ (i : Nat), i < x.length → [AV.int IntKind.i64 (x.getD i
 act20Z).slot, AV.bool (x.getD i act20Z).x.live, AV.int IntKind.i64 (x.getD i act20Z).x.gen, AV.int IntKind.i64 (x.getD i act20Z).x.next, AV.bool (x.getD i
 act20Z).mark] = [AV.int IntKind.i64 (x.getD i act20Z).slot, AV.bool (x.getD i act20Z).x.live, AV.int IntKind.i64 (x.getD i act20Z).x.gen, AV.int IntKind.i64
 (x.getD i act20Z).x.next, AV.bool (x.getD i act20Z).mark]) ∧ Tr 2 ((true = true ∧ NilNil ∧ (0 : Nat) = (0 : Nat)) ∧ Tr 1 ((true = true ∧ NilNil ∧ (0 : Nat) = (0
 : Nat)) ∧ Tr 1 (t_2.fst.snd.snd.fst = t'.snd.snd.fst) ∧ (true = true ∧ NilNil ∧ (0 : Nat) = (0 : Nat) ∧ (1 : Nat) = (1 : Nat) ∧ (0 : Nat) = (0 : Nat) ∧
 t_2.fst.snd.snd.snd.fst.snd.length = t'.snd.snd.snd.fst.snd.length ∧ t_2.fst.snd.snd.snd.fst.fst = t'.snd.snd.snd.fst.fst) ∧ (true = true ∧ NilNil ∧ (0 : Nat) =
 (0 : Nat) ∧ (1 : Nat) = (1 : Nat) ∧ (0 : Nat) = (0 : Nat) ∧ t_2.fst.snd.snd.snd.snd.snd.length + 1 = t'.snd.snd.snd.snd.snd.length ∧ cap =
 t'.snd.snd.snd.snd.fst) ∧ Tr 1 ((↑t_2.fst.fst : Int) + 1 = (↑t'.fst : Int)) ∧ Tr 153 True))) ∧ true = true ∧ ((139 : TypeId) = (139 : TypeId) ∧ (true = true ∧
 NilNil ∧ (0 : Nat) = (0 : Nat)) ∧ (true = true ∧ NilNil ∧ (0 : Nat) = (0 : Nat)) ∧ True) ∧ devB t_2.fst.snd.fst.ws = devB t'.snd.fst.ws ∧ allocB
 t_2.fst.snd.fst.a = allocB t'.snd.fst.a ∧ ((3 : TypeId) = (3 : TypeId) ∧ (1 : Nat) = (1 : Nat) ∧ t_2.fst.snd.snd.snd.fst.fst = t'.snd.snd.snd.fst.fst ∧
 t'.snd.snd.snd.fst.snd.length ≤ t_2.fst.snd.snd.snd.fst.snd.length ∧ ∀ (i : Nat), i < t'.snd.snd.snd.fst.snd.length → [AV.int IntKind.i64
 (t_2.fst.snd.snd.snd.fst.snd.getD i 0)] = [AV.int IntKind.i64 (t'.snd.snd.snd.fst.snd.getD i 0)]) ∧ ((3 : TypeId) = (3 : TypeId) ∧ (1 : Nat) = (1 : Nat) ∧ cap =
 t'.snd.snd.snd.snd.fst ∧ t'.snd.snd.snd.snd.snd.length ≤ t_2.fst.snd.snd.snd.snd.snd.length + 1 ∧ ∀ (i : Nat), i < t'.snd.snd.snd.snd.snd.length → (if i <
 t_2.fst.snd.snd.snd.snd.snd.length then [AV.int IntKind.i64 (t_2.fst.snd.snd.snd.snd.snd.getD i 0)] else [AV.int IntKind.i64 (if 0 + (i -
 t_2.fst.snd.snd.snd.snd.snd.length) = 0 * 1 / 1 then t_2.snd.slot.tdiv 112 else 0)]) = [AV.int IntKind.i64 (t'.snd.snd.snd.snd.snd.getD i 0)]) ∧ True) (I64
 ((↑t_2.fst.fst : Int) + 1) ∧ Exx (Nat × StoreT × Int × (Nat × List Int) × Nat × List Int) fun t' => (I t' ∧ m t' < m t) ∧ (((5 : Nat) = (5 : Nat) ∧ x.length =
 x.length ∧ ∀ (i : Nat), i < x.length → [AV.int IntKind.i64 (x.getD i act20Z).slot, AV.bool (x.getD i act20Z).x.live, AV.int IntKind.i64 (x.getD i act20Z).x.gen,
 AV.int IntKind.i64 (x.getD i act20Z).x.next, AV.bool (x.getD i act20Z).mark] = [AV.int IntKind.i64 (x.getD i act20Z).slot, AV.bool (x.getD i act20Z).x.live,
 AV.int IntKind.i64 (x.getD i act20Z).x.gen, AV.int IntKind.i64 (x.getD i act20Z).x.next, AV.bool (x.getD i act20Z).mark]) ∧ Tr 2 ((true = true ∧ NilNil ∧ (0 :
 Nat) = (0 : Nat)) ∧ Tr 1 ((true = true ∧ NilNil ∧ (0 : Nat) = (0 : Nat)) ∧ Tr 1 (t_2.fst.snd.snd.fst = t'.snd.snd.fst) ∧ (true = true ∧ NilNil ∧ (0 : Nat) = (0
 : Nat) ∧ (1 : Nat) = (1 : Nat) ∧ (0 : Nat) = (0 : Nat) ∧ t_2.fst.snd.snd.snd.fst.snd.length = t'.snd.snd.snd.fst.snd.length ∧ t_2.fst.snd.snd.snd.fst.fst =
 t'.snd.snd.snd.fst.fst) ∧ (true = true ∧ NilNil ∧ (0 : Nat) = (0 : Nat) ∧ (1 : Nat) = (1 : Nat) ∧ (0 : Nat) = (0 : Nat) ∧ t_2.fst.snd.snd.snd.snd.snd.length =
 t'.snd.snd.snd.snd.snd.length ∧ t_2.fst.snd.snd.snd.snd.fst = t'.snd.snd.snd.snd.fst) ∧ Tr 1 ((↑t_2.fst.fst : Int) + 1 = (↑t'.fst : Int)) ∧ Tr 153 True))) ∧
 true = true ∧ ((139 : TypeId) = (139 : TypeId) ∧ (true = true ∧ NilNil ∧ (0 : Nat) = (0 : Nat)) ∧ (true = true ∧ NilNil ∧ (0 : Nat) = (0 : Nat)) ∧ True) ∧ devB
 t_2.fst.snd.fst.ws = devB t'.snd.fst.ws ∧ allocB t_2.fst.snd.fst.a = allocB t'.snd.fst.a ∧ ((3 : TypeId) = (3 : TypeId) ∧ (1 : Nat) = (1 : Nat) ∧
 t_2.fst.snd.snd.snd.fst.fst = t'.snd.snd.snd.fst.fst ∧ t'.snd.snd.snd.fst.snd.length ≤ t_2.fst.snd.snd.snd.fst.snd.length ∧ ∀ (i : Nat), i <
 t'.snd.snd.snd.fst.snd.length → [AV.int IntKind.i64 (t_2.fst.snd.snd.snd.fst.snd.getD i 0)] = [AV.int IntKind.i64 (t'.snd.snd.snd.fst.snd.getD i 0)]) ∧ ((3 :
 TypeId) = (3 : TypeId) ∧ (1 : Nat) = (1 : Nat) ∧ t_2.fst.snd.snd.snd.snd.fst = t'.snd.snd.snd.snd.fst ∧ t'.snd.snd.snd.snd.snd.length ≤
 t_2.fst.snd.snd.snd.snd.snd.length ∧ ∀ (i : Nat), i < t'.snd.snd.snd.snd.snd.length → [AV.int IntKind.i64 (t_2.fst.snd.snd.snd.snd.snd.getD i 0)] = [AV.int
 IntKind.i64 (t'.snd.snd.snd.snd.snd.getD i 0)]) ∧ True)))))) (Exx (StoreT × Int) fun x => (((true = true ∧ NilNil ∧ (0 : Nat) = (0 : Nat)) ∧ Tr 1 (t.snd.snd.fst
 = x.snd) ∧ True) ∧ true = true ∧ ((139 : TypeId) = (139 : TypeId) ∧ (true = true ∧ NilNil ∧ (0 : Nat) = (0 : Nat)) ∧ (true = true ∧ NilNil ∧ (0 : Nat) = (0 :
 Nat)) ∧ True) ∧ devB t.snd.fst.ws = devB x.fst.ws ∧ allocB t.snd.fst.a = allocB x.fst.a ∧ True) ∧ (StoreW x.fst ∧ I64 x.snd) ∧ ∀ (y : Nat), (pagesL x.fst.ws
 x.snd).length ≤ y ∧ y ≤ 9223372036854775807 → I64 ((↑t.snd.snd.snd.fst.snd.length : Int) + (↑t.snd.snd.snd.snd.snd.length : Int)) ∧ BC (decide ((0 : Int) <
 (↑t.snd.snd.snd.fst.snd.length : Int) + (↑t.snd.snd.snd.snd.snd.length : Int))) (I64 ((↑t.snd.snd.snd.fst.snd.length : Int) + (↑t.snd.snd.snd.snd.snd.length :
 Int) + 1) ∧ BC (!decide (pagesErr x.fst.ws x.snd = (0 : Int))) (Exx Unit fun y => ((false = true ∧ True) ∧ true = true ∧ True) ∧ True) (BC (!decide ((↑(pagesL
 x.fst.ws x.snd).length : Int) = (↑t.snd.snd.snd.fst.snd.length : Int) + (↑t.snd.snd.snd.snd.snd.length : Int) + 1)) (Exx Unit fun y => ((false = true ∧ True) ∧
 true = true ∧ True) ∧ True) (Exx AllocT fun x_3 => (((true = true ∧ NilNil ∧ (0 : Nat) = (0 : Nat)) ∧ True) ∧ true = true ∧ allocB x.fst.a = allocB x_3 ∧ True)
 ∧ AllocW x_3 ∧ ∀ (y_1 : Unit), True → Exx ((Nat × Nat) × Unit) fun x_4 => (((true = true ∧ NilNil ∧ (0 : Nat) = (0 : Nat)) ∧ True) ∧ true = true ∧ setB (x_3.n,
 x_3.w) = setB x_4.fst ∧ True) ∧ (SetW x_4.fst ∧ True) ∧ ∀ (y_2 : Unit), True → I64 ((↑t.snd.snd.snd.fst.snd.length : Int) + (↑t.snd.snd.snd.snd.snd.length :
 Int) + 1 + 2) ∧ BC (!decide ((↑(bitsL x_4.fst.fst x_4.fst.snd).length : Int) = (↑t.snd.snd.snd.fst.snd.length : Int) + (↑t.snd.snd.snd.snd.snd.length : Int) + 1
 + 2)) (Exx Unit fun y => ((false = true ∧ True) ∧ true = true ∧ True) ∧ True) (Exx (Nat × StoreT × Nat × List Int → Prop) fun I => Exx (Nat × StoreT × Nat ×
 List Int → Nat) fun m => (Exx (Nat × StoreT × Nat × List Int) fun t => I t ∧ Tr 5 ((true = true ∧ NilNil ∧ (0 : Nat) = (0 : Nat)) ∧ Tr 7 ((true = true ∧ NilNil
 ∧ (0 : Nat) = (0 : Nat) ∧ (1 : Nat) = (1 : Nat) ∧ (0 : Nat) = (0 : Nat) ∧ (pagesL x.fst.ws x.snd).length = t.snd.snd.snd.length ∧ y = t.snd.snd.fst) ∧ Tr 2 (Tr
 1 ((0 : Int) = (↑t.fst : Int)) ∧ Tr 146 True))) ∧ true = true ∧ ((139 : TypeId) = (139 : TypeId) ∧ (true = true ∧ NilNil ∧ (0 : Nat) = (0 : Nat)) ∧ (true = true
 ∧ NilNil ∧ (0 : Nat) = (0 : Nat)) ∧ True) ∧ devB x.fst.ws = devB t.snd.fst.ws ∧ allocB x_3 = allocB t.snd.fst.a ∧ ((3 : TypeId) = (3 : TypeId) ∧ (1 : Nat) = (1
 : Nat) ∧ y = t.snd.snd.fst ∧ t.snd.snd.snd.length ≤ (pagesL x.fst.ws x.snd).length ∧ ∀ (i : Nat), i < t.snd.snd.snd.length → [AV.int IntKind.i64 ((pagesL
 x.fst.ws x.snd).getD i 0)] = [AV.int IntKind.i64 (t.snd.snd.snd.getD i 0)]) ∧ True) ∧ ∀ (t : Nat × StoreT × Nat × List Int), I t → BC (decide ((↑t.fst : Int) <
 (↑t.snd.snd.snd.length : Int))) (((0 : Int) ≤ (↑t.fst : Int) ∧ (↑t.fst : Int) < (↑t.snd.snd.snd.length : Int)) ∧ (Exx AllocT fun x => (((true = true ∧ NilNil ∧
 (0 : Nat) = (0 : Nat)) ∧ True) ∧ true = true ∧ allocB t.snd.fst.a = allocB x ∧ True) ∧ AllocW x ∧ ∀ (y : Unit), True → 0 + (↑t.fst : Int).toNat <
 t.snd.snd.snd.length ∧ Exx ((Nat × Nat) × Int) fun x_5 => (((true = true ∧ NilNil ∧ (0 : Nat) = (0 : Nat)) ∧ Tr 1 (t.snd.snd.snd.getD (0 + (↑t.fst : Int).toNat)
 0 = x_5.snd) ∧ True) ∧ true = true ∧ setB (x.n, x.w) = setB x_5.fst ∧ True) ∧ (SetW x_5.fst ∧ I64 x_5.snd) ∧ ∀ (y : Unit), True → BC (!hasN x_5.fst x_5.snd)
 (Exx Unit fun y => ((false = true ∧ True) ∧ true = true ∧ True) ∧ True) ((0 : Int) ≤ (↑t.fst : Int) ∧ (0 ≤ (↑t.fst : Int).toNat ∧ (↑t.fst : Int).toNat ≤
 t.snd.snd.fst) ∧ ((0 : Int) ≤ (↑t.fst : Int) ∧ (↑t.fst : Int) < (↑t.snd.snd.snd.length : Int)) ∧ 0 + (↑t.fst : Int).toNat < t.snd.snd.snd.length ∧ Exx (List Int
 × Int) fun x_6 => (((0 + 0 + ((↑t.fst : Int).toNat - 0) ≤ t.snd.snd.snd.length ∧ (↑t.fst : Int).toNat - 0 = x_6.fst.length ∧ ∀ (i : Nat), i < x_6.fst.length →
 [AV.int IntKind.i64 (t.snd.snd.snd.getD (0 + 0 + i) 0)] = [AV.int IntKind.i64 (x_6.fst.getD i 0)]) ∧ Tr 1 (t.snd.snd.snd.getD (0 + (↑t.fst : Int).toNat) 0 =
 x_6.snd) ∧ True) ∧ true = true ∧ True) ∧ (IntL x_6.fst ∧ I64 x_6.snd) ∧ ∀ (y : Unit), True → BC (decide (x_6.snd ∈ x_6.fst)) (Exx Unit fun y => ((false = true ∧
 True) ∧ true = true ∧ True) ∧ True) (((0 : Int) ≤ (↑t.fst : Int) ∧ (↑t.fst : Int) < (↑t.snd.snd.snd.length : Int)) ∧ 0 + (↑t.fst : Int).toNat <
 t.snd.snd.snd.length ∧ BC (decide (t.snd.snd.snd.getD (0 + (↑t.fst : Int).toNat) 0 < (2 : Int))) (Exx Unit fun y => ((false = true ∧ True) ∧ true = true ∧ True)
 ∧ True) (I64 ((↑t.fst : Int) + 1) ∧ Exx (Nat × StoreT × Nat × List Int) fun t' => (I t' ∧ m t' < m t) ∧ Tr 5 ((true = true ∧ NilNil ∧ (0 : Nat) = (0 : Nat)) ∧
 Tr 7 ((true = true ∧ NilNil ∧ (0 : Nat) = (0 : Nat) ∧ (1 : Nat) = (1 : Nat) ∧ (0 : Nat) = (0 : Nat) ∧ t.snd.snd.snd.length = t'.snd.snd.snd.length ∧
 t.snd.snd.fst = t'.snd.snd.fst) ∧ Tr 2 (Tr 1 ((↑t.fst : Int) + 1 = (↑t'.fst : Int)) ∧ Tr 146 True))) ∧ true = true ∧ ((139 : TypeId) = (139 : TypeId) ∧ (true =
 true ∧ NilNil ∧ (0 : Nat) = (0 : Nat)) ∧ (true = true ∧ NilNil ∧ (0 : Nat) = (0 : Nat)) ∧ True) ∧ devB t.snd.fst.ws = devB t'.snd.fst.ws ∧ allocB x = allocB
 t'.snd.fst.a ∧ ((3 : TypeId) = (3 : TypeId) ∧ (1 : Nat) = (1 : Nat) ∧ t.snd.snd.fst = t'.snd.snd.fst ∧ t'.snd.snd.snd.length ≤ t.snd.snd.snd.length ∧ ∀ (i :
 Nat), i < t'.snd.snd.snd.length → [AV.int IntKind.i64 (t.snd.snd.snd.getD i 0)] = [AV.int IntKind.i64 (t'.snd.snd.snd.getD i 0)]) ∧ True)))) ∧ 0 + (↑t.fst :
 Int).toNat < t.snd.snd.snd.length ∧ Exx AllocT fun x => (((true = true ∧ NilNil ∧ (0 : Nat) = (0 : Nat)) ∧ True) ∧ true = true ∧ allocB t.snd.fst.a = allocB x ∧
 True) ∧ AllocW x ∧ ∀ (y : Unit), True → Exx ((Nat × Nat) × Int) fun x_5 => (((true = true ∧ NilNil ∧ (0 : Nat) = (0 : Nat)) ∧ Tr 1 (t.snd.snd.snd.getD (0 +
 (↑t.fst : Int).toNat) 0 = x_5.snd) ∧ True) ∧ true = true ∧ setB (x.n, x.w) = setB x_5.fst ∧ True) ∧ (SetW x_5.fst ∧ I64 x_5.snd) ∧ ∀ (y : Unit), True → BC
 (!hasN x_5.fst x_5.snd) (Exx Unit fun y => ((false = true ∧ True) ∧ true = true ∧ True) ∧ True) ((0 : Int) ≤ (↑t.fst : Int) ∧ (0 ≤ (↑t.fst : Int).toNat ∧
 (↑t.fst : Int).toNat ≤ t.snd.snd.fst) ∧ ((0 : Int) ≤ (↑t.fst : Int) ∧ (↑t.fst : Int) < (↑t.snd.snd.snd.length : Int)) ∧ 0 + (↑t.fst : Int).toNat <
 t.snd.snd.snd.length ∧ Exx (List Int × Int) fun x_6 => (((0 + 0 + ((↑t.fst : Int).toNat - 0) ≤ t.snd.snd.snd.length ∧ (↑t.fst : Int).toNat - 0 = x_6.fst.length
 ∧ ∀ (i : Nat), i < x_6.fst.length → [AV.int IntKind.i64 (t.snd.snd.snd.getD (0 + 0 + i) 0)] = [AV.int IntKind.i64 (x_6.fst.getD i 0)]) ∧ Tr 1
 (t.snd.snd.snd.getD (0 + (↑t.fst : Int).toNat) 0 = x_6.snd) ∧ True) ∧ true = true ∧ True) ∧ (IntL x_6.fst ∧ I64 x_6.snd) ∧ ∀ (y : Unit), True → BC (decide
 (x_6.snd ∈ x_6.fst)) (Exx Unit fun y => ((false = true ∧ True) ∧ true = true ∧ True) ∧ True) (((0 : Int) ≤ (↑t.fst : Int) ∧ (↑t.fst : Int) <
 (↑t.snd.snd.snd.length : Int)) ∧ 0 + (↑t.fst : Int).toNat < t.snd.snd.snd.length ∧ BC (decide (t.snd.snd.snd.getD (0 + (↑t.fst : Int).toNat) 0 < (2 : Int)))
 (Exx Unit fun y => ((false = true ∧ True) ∧ true = true ∧ True) ∧ True) (I64 ((↑t.fst : Int) + 1) ∧ Exx (Nat × StoreT × Nat × List Int) fun t' => (I t' ∧ m t' <
 m t) ∧ Tr 5 ((true = true ∧ NilNil ∧ (0 : Nat) = (0 : Nat)) ∧ Tr 7 ((true = true ∧ NilNil ∧ (0 : Nat) = (0 : Nat) ∧ (1 : Nat) = (1 : Nat) ∧ (0 : Nat) = (0 :
 Nat) ∧ t.snd.snd.snd.length = t'.snd.snd.snd.length ∧ t.snd.snd.fst = t'.snd.snd.fst) ∧ Tr 2 (Tr 1 ((↑t.fst : Int) + 1 = (↑t'.fst : Int)) ∧ Tr 146 True))) ∧
 true = true ∧ ((139 : TypeId) = (139 : TypeId) ∧ (true = true ∧ NilNil ∧ (0 : Nat) = (0 : Nat)) ∧ (true = true ∧ NilNil ∧ (0 : Nat) = (0 : Nat)) ∧ True) ∧ devB
 t.snd.fst.ws = devB t'.snd.fst.ws ∧ allocB x = allocB t'.snd.fst.a ∧ ((3 : TypeId) = (3 : TypeId) ∧ (1 : Nat) = (1 : Nat) ∧ t.snd.snd.fst = t'.snd.snd.fst ∧
 t'.snd.snd.snd.length ≤ t.snd.snd.snd.length ∧ ∀ (i : Nat), i < t'.snd.snd.snd.length → [AV.int IntKind.i64 (t.snd.snd.snd.getD i 0)] = [AV.int IntKind.i64
 (t'.snd.snd.snd.getD i 0)]) ∧ True)))) (Exx Unit fun y => ((true = true ∧ True) ∧ true = true ∧ True) ∧ True))))) (BC (!decide (pagesErr x.fst.ws x.snd = (0 :
 Int))) (Exx Unit fun y => ((false = true ∧ True) ∧ true = true ∧ True) ∧ True) (BC (!decide ((↑(pagesL x.fst.ws x.snd).length : Int) =
 (↑t.snd.snd.snd.fst.snd.length : Int) + (↑t.snd.snd.snd.snd.snd.length : Int))) (Exx Unit fun y => ((false = true ∧ True) ∧ true = true ∧ True) ∧ True) (Exx
 AllocT fun x_3 => (((true = true ∧ NilNil ∧ (0 : Nat) = (0 : Nat)) ∧ True) ∧ true = true ∧ allocB x.fst.a = allocB x_3 ∧ True) ∧ AllocW x_3 ∧ ∀ (y_1 : Unit),
 True → Exx ((Nat × Nat) × Unit) fun x_4 => (((true = true ∧ NilNil ∧ (0 : Nat) = (0 : Nat)) ∧ True) ∧ true = true ∧ setB (x_3.n, x_3.w) = setB x_4.fst ∧ True) ∧
 (SetW x_4.fst ∧ True) ∧ ∀ (y_2 : Unit), True → I64 ((↑t.snd.snd.snd.fst.snd.length : Int) + (↑t.snd.snd.snd.snd.snd.length : Int) + 2) ∧ BC (!decide ((↑(bitsL
 x_4.fst.fst x_4.fst.snd).length : Int) = (↑t.snd.snd.snd.fst.snd.length : Int) + (↑t.snd.snd.snd.snd.snd.length : Int) + 2)) (Exx Unit fun y => ((false = true ∧
 True) ∧ true = true ∧ True) ∧ True) (Exx (Nat × StoreT × Nat × List Int → Prop) fun I => Exx (Nat × StoreT × Nat × List Int → Nat) fun m => (Exx (Nat × StoreT ×
 Nat × List Int) fun t => I t ∧ Tr 5 ((true = true ∧ NilNil ∧ (0 : Nat) = (0 : Nat)) ∧ Tr 7 ((true = true ∧ NilNil ∧ (0 : Nat) = (0 : Nat) ∧ (1 : Nat) = (1 :
 Nat) ∧ (0 : Nat) = (0 : Nat) ∧ (pagesL x.fst.ws x.snd).length = t.snd.snd.snd.length ∧ y = t.snd.snd.fst) ∧ Tr 2 (Tr 1 ((0 : Int) = (↑t.fst : Int)) ∧ Tr 146
 True))) ∧ true = true ∧ ((139 : TypeId) = (139 : TypeId) ∧ (true = true ∧ NilNil ∧ (0 : Nat) = (0 : Nat)) ∧ (true = true ∧ NilNil ∧ (0 : Nat) = (0 : Nat)) ∧
 True) ∧ devB x.fst.ws = devB t.snd.fst.ws ∧ allocB x_3 = allocB t.snd.fst.a ∧ ((3 : TypeId) = (3 : TypeId) ∧ (1 : Nat) = (1 : Nat) ∧ y = t.snd.snd.fst ∧
 t.snd.snd.snd.length ≤ (pagesL x.fst.ws x.snd).length ∧ ∀ (i : Nat), i < t.snd.snd.snd.length → [AV.int IntKind.i64 ((pagesL x.fst.ws x.snd).getD i 0)] =
 [AV.int IntKind.i64 (t.snd.snd.snd.getD i 0)]) ∧ True) ∧ ∀ (t : Nat × StoreT × Nat × List Int), I t → BC (decide ((↑t.fst : Int) < (↑t.snd.snd.snd.length :
 Int))) (((0 : Int) ≤ (↑t.fst : Int) ∧ (↑t.fst : Int) < (↑t.snd.snd.snd.length : Int)) ∧ (Exx AllocT fun x => (((true = true ∧ NilNil ∧ (0 : Nat) = (0 : Nat)) ∧
 True) ∧ true = true ∧ allocB t.snd.fst.a = allocB x ∧ True) ∧ AllocW x ∧ ∀ (y : Unit), True → 0 + (↑t.fst : Int).toNat < t.snd.snd.snd.length ∧ Exx ((Nat × Nat)
 × Int) fun x_5 => (((true = true ∧ NilNil ∧ (0 : Nat) = (0 : Nat)) ∧ Tr 1 (t.snd.snd.snd.getD (0 + (↑t.fst : Int).toNat) 0 = x_5.snd) ∧ True) ∧ true = true ∧
 setB (x.n, x.w) = setB x_5.fst ∧ True) ∧ (SetW x_5.fst ∧ I64 x_5.snd) ∧ ∀ (y : Unit), True → BC (!hasN x_5.fst x_5.snd) (Exx Unit fun y => ((false = true ∧
 True) ∧ true = true ∧ True) ∧ True) ((0 : Int) ≤ (↑t.fst : Int) ∧ (0 ≤ (↑t.fst : Int).toNat ∧ (↑t.fst : Int).toNat ≤ t.snd.snd.fst) ∧ ((0 : Int) ≤ (↑t.fst :
 Int) ∧ (↑t.fst : Int) < (↑t.snd.snd.snd.length : Int)) ∧ 0 + (↑t.fst : Int).toNat < t.snd.snd.snd.length ∧ Exx (List Int × Int) fun x_6 => (((0 + 0 + ((↑t.fst :
 Int).toNat - 0) ≤ t.snd.snd.snd.length ∧ (↑t.fst : Int).toNat - 0 = x_6.fst.length ∧ ∀ (i : Nat), i < x_6.fst.length → [AV.int IntKind.i64 (t.snd.snd.snd.getD
 (0 + 0 + i) 0)] = [AV.int IntKind.i64 (x_6.fst.getD i 0)]) ∧ Tr 1 (t.snd.snd.snd.getD (0 + (↑t.fst : Int).toNat) 0 = x_6.snd) ∧ True) ∧ true = true ∧ True) ∧
 (IntL x_6.fst ∧ I64 x_6.snd) ∧ ∀ (y : Unit), True → BC (decide (x_6.snd ∈ x_6.fst)) (Exx Unit fun y => ((false = true ∧ True) ∧ true = true ∧ True) ∧ True) (((0
 : Int) ≤ (↑t.fst : Int) ∧ (↑t.fst : Int) < (↑t.snd.snd.snd.length : Int)) ∧ 0 + (↑t.fst : Int).toNat < t.snd.snd.snd.length ∧ BC (decide (t.snd.snd.snd.getD (0
 + (↑t.fst : Int).toNat) 0 < (2 : Int))) (Exx Unit fun y => ((false = true ∧ True) ∧ true = true ∧ True) ∧ True) (I64 ((↑t.fst : Int) + 1) ∧ Exx (Nat × StoreT ×
 Nat × List Int) fun t' => (I t' ∧ m t' < m t) ∧ Tr 5 ((true = true ∧ NilNil ∧ (0 : Nat) = (0 : Nat)) ∧ Tr 7 ((true = true ∧ NilNil ∧ (0 : Nat) = (0 : Nat) ∧ (1
 : Nat) = (1 : Nat) ∧ (0 : Nat) = (0 : Nat) ∧ t.snd.snd.snd.length = t'.snd.snd.snd.length ∧ t.snd.snd.fst = t'.snd.snd.fst) ∧ Tr 2 (Tr 1 ((↑t.fst : Int) + 1 =
 (↑t'.fst : Int)) ∧ Tr 146 True))) ∧ true = true ∧ ((139 : TypeId) = (139 : TypeId) ∧ (true = true ∧ NilNil ∧ (0 : Nat) = (0 : Nat)) ∧ (true = true ∧ NilNil ∧ (0
 : Nat) = (0 : Nat)) ∧ True) ∧ devB t.snd.fst.ws = devB t'.snd.fst.ws ∧ allocB x = allocB t'.snd.fst.a ∧ ((3 : TypeId) = (3 : TypeId) ∧ (1 : Nat) = (1 : Nat) ∧
 t.snd.snd.fst = t'.snd.snd.fst ∧ t'.snd.snd.snd.length ≤ t.snd.snd.snd.length ∧ ∀ (i : Nat), i < t'.snd.snd.snd.length → [AV.int IntKind.i64 (t.snd.snd.snd.getD
 i 0)] = [AV.int IntKind.i64 (t'.snd.snd.snd.getD i 0)]) ∧ True)))) ∧ 0 + (↑t.fst : Int).toNat < t.snd.snd.snd.length ∧ Exx AllocT fun x => (((true = true ∧
 NilNil ∧ (0 : Nat) = (0 : Nat)) ∧ True) ∧ true = true ∧ allocB t.snd.fst.a = allocB x ∧ True) ∧ AllocW x ∧ ∀ (y : Unit), True → Exx ((Nat × Nat) × Int) fun x_5
 => (((true = true ∧ NilNil ∧ (0 : Nat) = (0 : Nat)) ∧ Tr 1 (t.snd.snd.snd.getD (0 + (↑t.fst : Int).toNat) 0 = x_5.snd) ∧ True) ∧ true = true ∧ setB (x.n, x.w) =
 setB x_5.fst ∧ True) ∧ (SetW x_5.fst ∧ I64 x_5.snd) ∧ ∀ (y : Unit), True → BC (!hasN x_5.fst x_5.snd) (Exx Unit fun y => ((false = true ∧ True) ∧ true = true ∧
 True) ∧ True) ((0 : Int) ≤ (↑t.fst : Int) ∧ (0 ≤ (↑t.fst : Int).toNat ∧ (↑t.fst : Int).toNat ≤ t.snd.snd.fst) ∧ ((0 : Int) ≤ (↑t.fst : Int) ∧ (↑t.fst : Int) <
 (↑t.snd.snd.snd.length : Int)) ∧ 0 + (↑t.fst : Int).toNat < t.snd.snd.snd.length ∧ Exx (List Int × Int) fun x_6 => (((0 + 0 + ((↑t.fst : Int).toNat - 0) ≤
 t.snd.snd.snd.length ∧ (↑t.fst : Int).toNat - 0 = x_6.fst.length ∧ ∀ (i : Nat), i < x_6.fst.length → [AV.int IntKind.i64 (t.snd.snd.snd.getD (0 + 0 + i) 0)] =
 [AV.int IntKind.i64 (x_6.fst.getD i 0)]) ∧ Tr 1 (t.snd.snd.snd.getD (0 + (↑t.fst : Int).toNat) 0 = x_6.snd) ∧ True) ∧ true = true ∧ True) ∧ (IntL x_6.fst ∧ I64
 x_6.snd) ∧ ∀ (y : Unit), True → BC (decide (x_6.snd ∈ x_6.fst)) (Exx Unit fun y => ((false = true ∧ True) ∧ true = true ∧ True) ∧ True) (((0 : Int) ≤ (↑t.fst :
 Int) ∧ (↑t.fst : Int) < (↑t.snd.snd.snd.length : Int)) ∧ 0 + (↑t.fst : Int).toNat < t.snd.snd.snd.length ∧ BC (decide (t.snd.snd.snd.getD (0 + (↑t.fst :
 Int).toNat) 0 < (2 : Int))) (Exx Unit fun y => ((false = true ∧ True) ∧ true = true ∧ True) ∧ True) (I64 ((↑t.fst : Int) + 1) ∧ Exx (Nat × StoreT × Nat × List
 Int) fun t' => (I t' ∧ m t' < m t) ∧ Tr 5 ((true = true ∧ NilNil ∧ (0 : Nat) = (0 : Nat)) ∧ Tr 7 ((true = true ∧ NilNil ∧ (0 : Nat) = (0 : Nat) ∧ (1 : Nat) = (1
 : Nat) ∧ (0 : Nat) = (0 : Nat) ∧ t.snd.snd.snd.length = t'.snd.snd.snd.length ∧ t.snd.snd.fst = t'.snd.snd.fst) ∧ Tr 2 (Tr 1 ((↑t.fst : Int) + 1 = (↑t'.fst :
 Int)) ∧ Tr 146 True))) ∧ true = true ∧ ((139 : TypeId) = (139 : TypeId) ∧ (true = true ∧ NilNil ∧ (0 : Nat) = (0 : Nat)) ∧ (true = true ∧ NilNil ∧ (0 : Nat) =
 (0 : Nat)) ∧ True) ∧ devB t.snd.fst.ws = devB t'.snd.fst.ws ∧ allocB x = allocB t'.snd.fst.a ∧ ((3 : TypeId) = (3 : TypeId) ∧ (1 : Nat) = (1 : Nat) ∧
 t.snd.snd.fst = t'.snd.snd.fst ∧ t'.snd.snd.snd.length ≤ t.snd.snd.snd.length ∧ ∀ (i : Nat), i < t'.snd.snd.snd.length → [AV.int IntKind.i64 (t.snd.snd.snd.getD
 i 0)] = [AV.int IntKind.i64 (t'.snd.snd.snd.getD i 0)]) ∧ True)))) (Exx Unit fun y => ((true = true ∧ True) ∧ true = true ∧ True) ∧ True))))))))) = (fnVC tb [(12, specOf awake20C), (13, specOf madeStoreC), (14, specOf allocMarkC), (15, specOf slotPutC), (16, specOf seat09C), (21, specOf refHasC), (22, specOf storePagesC), (23, specOf worksC), (24, specOf setCountC), (25, specObj (specOf setHasC) (specOf setHasOC))] Tryd.f6 slotsPagesC (fun x => { loops := [(9, pg1 x), (30, pg2 x)], loose := [(32, [1, 2, 3, 4])], joins := [(15, pgJ x), (21, pgJ x)] }) (fun _ => none)) := by kernel_rfl 

theorem slotsPages_ok : SpecOk Tryd.prog 6 (specOf slotsPagesC) := by
  refine specOk mixed tb_ok (SPok.cons awake20_ok (SPok.cons madeStore_ok (SPok.cons allocMark_ok (SPok.cons slotPut_ok (SPok.cons seat09_ok (SPok.cons refHas_ok (SPok.cons storePages_ok (SPok.cons works_ok (SPok.cons setCount_ok (SPok.cons (specObj_ok setHas_ok setHasO_ok) SPok.nil)))))))))) Tryd.func6 (by decide) (pureC_ok fun _ => rfl) (an := (fun x => { loops := [(9, pg1 x), (30, pg2 x)], loose := [(32, [1, 2, 3, 4])], joins := [(15, pgJ x), (21, pgJ x)] })) (σ := (fun _ => none)) ?_
  rw [← slotsPagesV]
  simp (maxSteps := 10000000) only [and_false, false_and, false_or, or_false, bOf_true, bOf_false, true_bOf, false_bOf, Exx, int_ite, merge_o, Tr_eq, true_and, and_true, exists_const, forall_const, implies_true, forall_eq, exists_eq, exists_eq', exists_eq_left, exists_eq_left', exists_eq_right, Prod.exists, Prod.forall, and_assoc, exists_and_left, BC_iff, Bool.not_eq_true', Bool.not_eq_false', decide_eq_true_eq, decide_eq_false_iff_not, I64, nat_cast_inj, Int.toNat_natCast, nats_iff, nats_iff', ints_iff, ints_iff', natss_iff, natss_iff', nilnil, litL_eq, str_inj, str_append, str_length, str_getD, str_take, lit1_iff, one_iff, two_iff, one_get, Nat.zero_add, Nat.sub_zero, Nat.reduceMul, Nat.reduceDiv, Nat.reduceAdd, Int.reduceToNat, Nat.not_lt_zero, if_false, if_true, Nat.le_refl, List.length_singleton, List.length_cons, List.length_nil, Bool.false_eq_true, not_true_eq_false, false_implies, not_false_eq_true, Prod.mk.injEq, devB_inj, allocB_inj, setB_inj]
  rintro l ⟨hl, hlen⟩
  intro h25
  refine ⟨200, rfl, by omega, by omega, by omega, by omega, fun t => PgInv t.1 t.2.1 t.2.2.1 t.2.2.2.1.2 t.2.2.2.2.2 ∧ t.1 ≤ 25, ⟨0, madeS 200 0, 0, 0, [], 0, [], ⟨pg_made, by simp only; omega⟩, rfl, rfl, rfl, rfl, rfl, rfl, rfl, rfl, rfl, rfl, rfl, rfl⟩, fun t => 26 - t.1, fun i s top c1 l1 c2 l2 hx => ⟨fun hlt => ?_, fun hge => ?_⟩⟩
  · obtain ⟨hP, hi⟩ := hx
    simp only at hP hi
    have ha := act_get (l := l) ⟨hl, hlen⟩ i
    have hskip : PgInv (i + 1) s top l1 l2 ∧ i + 1 ≤ 25 := ⟨pg_next hP, by omega⟩
    refine ⟨by omega, by omega, fun _ => ⟨by omega, by omega, i + 1, s, top, c1, l1, c2, l2, hskip, by simp only; omega, rfl, rfl, rfl, rfl, rfl, by omega, rfl, rfl, rfl, Nat.le_refl _, fun _ _ => rfl, rfl, Nat.le_refl _, fun _ _ => rfl⟩, fun h0 => ⟨fun _ => ⟨by omega, by omega, i + 1, s, top, c1, l1, c2, l2, hskip, by simp only; omega, rfl, rfl, rfl, rfl, rfl, by omega, rfl, rfl, rfl, Nat.le_refl _, fun _ _ => rfl, rfl, Nat.le_refl _, fun _ _ => rfl⟩, fun h1 => ⟨(l.getD i act20Z).x, rfl, rfl, rfl, ha.2, fun _ => ⟨by omega, by omega, i + 1, s, top, c1, l1, c2, l2, hskip, by simp only; omega, rfl, rfl, rfl, rfl, rfl, by omega, rfl, rfl, rfl, Nat.le_refl _, fun _ _ => rfl, rfl, Nat.le_refl _, fun _ _ => rfl⟩, fun hs => ?_⟩⟩⟩
    have hp : placeOk (l.getD i act20Z).slot := ⟨by omega, by omega⟩
    refine ⟨fun t => PgInv i t.1.2.1 t.1.2.2.1 t.1.2.2.2.1.2 t.1.2.2.2.2.2 ∧ t.1.1 = i ∧ t.2 = l.getD i act20Z, fun hm => ?_, fun hm => ?_, fun i2 s2 top2 c12 l12 c22 l22 a hx => ?_⟩
    · obtain ⟨lst, hI⟩ := hP.inv
      exact ⟨hI.good.W.2, i, markT s, top, c1, l1, c2, l2, l.getD i act20Z, ⟨pg_mark hP, rfl, rfl⟩, rfl, rfl, rfl, rfl, rfl, rfl, rfl, rfl, rfl, Nat.le_refl _, fun _ _ => rfl, rfl, Nat.le_refl _, fun _ _ => rfl, rfl, rfl, rfl, rfl, rfl⟩
    · exact ⟨i, s, top, c1, l1, c2, l2, l.getD i act20Z, ⟨hP, rfl, rfl⟩, rfl, rfl, rfl, rfl, rfl, rfl, rfl, rfl, rfl, Nat.le_refl _, fun _ _ => rfl, rfl, Nat.le_refl _, fun _ _ => rfl, rfl, rfl, rfl, rfl, rfl⟩
    obtain ⟨hP2, e1, e2⟩ := hx
    simp only at hP2 e1 e2
    subst e2
    obtain ⟨lst, hI⟩ := hP2.inv
    have ge := (inv_put hI (a := l.getD i act20Z) (by omega) hp hs ha).1
    obtain ⟨t1, t2, t3, t4⟩ := tdiv_place hp
    obtain ⟨p0, p1, p2⟩ := place_lt hp
    have hb1 := hP2.b1
    have hb2 := hP2.b2
    refine ⟨s2, (l.getD i act20Z).x, rfl, rfl, rfl, rfl, rfl, hI.good.W, hI.htop.1, hI.htop.2, ha.1.1, ha.1.2, ha.2, fun q => q ge, fun _ => ⟨by omega, by omega, by omega, pg_intL (lv_bd hP2.m1) hb1 (by omega), by omega, by omega, fun t => PgMid i t.1.2.1 t.1.2.2.1 t.1.2.2.2.1.2 t.1.2.2.2.2.2 ((l.getD i act20Z).slot.tdiv 112) ∧ t.1.1 = i ∧ t.2 = l.getD i act20Z ∧ FnOf s2 top2 t.1.2.2.2.2.2, fun hn => ⟨by omega, by omega, by omega, by omega, by omega, fun cap hcap => ⟨i2, _, _, cap, l12 ++ [(l.getD i act20Z).slot.tdiv 7], c22, l22, l.getD i act20Z, ⟨pg_put hP2 (by omega) ha hp hs snoc_mem (snoc_nodup hP2.n1 hn) (by rw [List.length_append]; simp only [List.length_cons, List.length_nil]; omega), e1, rfl, hP2.m2⟩, rfl, by rw [List.length_append]; rfl, rfl, rfl, rfl, rfl, rfl, rfl, rfl, by rw [List.length_append]; exact Nat.le_refl _, fun j hj => snocI hj, rfl, Nat.le_refl _, fun _ _ => rfl, rfl, rfl, rfl, rfl, rfl⟩⟩, fun hy => ⟨i2, _, _, c12, l12, c22, l22, l.getD i act20Z, ⟨pg_put hP2 (by omega) ha hp hs (fun q => ⟨fun k => .inl k, fun k => k.elim id fun k => by rw [k]; exact hy⟩) hP2.n1 (Nat.le_succ_of_le hb1), e1, rfl, hP2.m2⟩, rfl, rfl, rfl, rfl, rfl, rfl, rfl, rfl, rfl, Nat.le_refl _, fun _ _ => rfl, rfl, Nat.le_refl _, fun _ _ => rfl, rfl, rfl, rfl, rfl, rfl⟩, fun i3 s3 top3 c13 l13 c23 l23 a3 hx => ?_⟩⟩
    obtain ⟨hM, e3, e4, hfn⟩ := hx
    simp only at hM e3 e4 hfn
    subst e4
    have hfb : ∀ q ∈ l23, 0 ≤ q ∧ q < 256 := fun q hq => by
      obtain ⟨k, hk, rfl, _⟩ := (hfn q).1 hq
      omega
    have hb3 := hM.b2
    refine ⟨by omega, by omega, by omega, pg_intL hfb hb3 (by omega), by omega, by omega, fun hn => ⟨by omega, by omega, by omega, by omega, by omega, fun cap hcap => ⟨by omega, by omega, i3 + 1, s3, top3, c13, l13, cap, l23 ++ [(l.getD i act20Z).slot.tdiv 112], ⟨?_, by simp only; omega⟩, by simp only; omega, rfl, rfl, rfl, by rw [List.length_append]; rfl, rfl, by omega, rfl, rfl, rfl, Nat.le_refl _, fun _ _ => rfl, rfl, by rw [List.length_append]; exact Nat.le_refl _, fun j hj => snocI hj⟩⟩, fun hy => ⟨by omega, by omega, i3 + 1, s3, top3, c13, l13, c23, l23, ⟨?_, by simp only; omega⟩, by simp only; omega, rfl, rfl, rfl, rfl, rfl, by omega, rfl, rfl, rfl, Nat.le_refl _, fun _ _ => rfl, rfl, Nat.le_refl _, fun _ _ => rfl⟩⟩
    · rw [e3]; exact pg_mid hM snoc_mem (snoc_nodup hM.n2 hn) (by rw [List.length_append]; simp only [List.length_cons, List.length_nil]; omega)
    · rw [e3]; exact pg_mid hM (fun q => ⟨fun k => .inl k, fun k => k.elim id fun k => by rw [k]; exact hy⟩) hM.n2 (Nat.le_succ_of_le hb3)
  · obtain ⟨hP, hi⟩ := hx
    simp only at hP hi
    obtain ⟨lst, hI⟩ := hP.inv
    have g := pg_end hP
    have hb1 := hP.b1
    have hb2 := hP.b2
    have hmem : ∀ a, a ∈ pagesL s.ws top → 2 ≤ a ∧ InS s.a.n s.a.w a := fun a h => by
      rw [g.2.1] at h
      have gs := hI.tree.sh
      rcases pages_mem.1 h with k | ⟨i, hi, k⟩ | ⟨i, j, hi, hj, k⟩
      · rw [k.1]; exact gs.ht.resolve_left k.2
      · rw [k.1]; exact (gs.hk i hi).resolve_left k.2
      · rw [k.1]; exact (gs.hf i j hi hj).resolve_left k.2
    have hnd := pages_nodup hI.tree
    rw [← g.2.1] at hnd
    have hn3 := hI.good.W.2.1
    have hlenp : (pagesL s.ws top).length ≤ 300 := by
      have := pagesUp_len s.ws top 16
      rw [g.2.1]; omega
    have hget : ∀ k, k < (pagesL s.ws top).length → (pagesL s.ws top).getD k 0 ∈ pagesL s.ws top := fun k hk => by
      rw [List.getD_eq_getElem?_getD, List.getElem?_eq_getElem hk]; exact List.getElem_mem _
    have hnot : ∀ k, k < (pagesL s.ws top).length → ¬ (pagesL s.ws top).getD k 0 ∈ (pagesL s.ws top).take k := fun k hk hm => by
      obtain ⟨j, hj, e⟩ := List.mem_iff_getElem.1 hm
      rw [List.length_take] at hj
      rw [List.getElem_take] at e
      have := List.pairwise_iff_getElem.1 hnd j k (by omega) hk (by omega)
      rw [List.getD_eq_getElem?_getD, List.getElem?_eq_getElem hk] at e
      exact this e
    refine ⟨s, rfl, rfl, hI.good.W, hI.htop.1, hI.htop.2, fun y hy => ⟨by omega, by omega, fun hpos => ⟨by omega, by omega, fun q => q g.1, fun _ => ⟨fun q => q ?_, fun _ => ⟨hI.good.W.2, ⟨hI.good.W.2.1, hI.good.W.2.2.2.2.2.2⟩, by omega, by omega, fun q => q ?_, fun _ => ?_⟩⟩⟩, fun hz => ⟨fun q => q g.1, fun _ => ⟨fun q => q ?_, fun _ => ⟨hI.good.W.2, ⟨hI.good.W.2.1, hI.good.W.2.2.2.2.2.2⟩, by omega, by omega, fun q => q ?_, fun _ => ?_⟩⟩⟩⟩⟩
    · have := g.2.2.2; rw [if_pos (by omega)] at this; rw [g.2.1]; omega
    · have := g.2.2.2; rw [if_pos (by omega)] at this; rw [g.2.2.1]; omega
    rotate_left
    · have := g.2.2.2; rw [if_neg (by omega)] at this; rw [g.2.1]; omega
    · have := g.2.2.2; rw [if_neg (by omega)] at this; rw [g.2.2.1]; omega
    all_goals
      refine ⟨fun t => t.2.1 = s ∧ t.2.2.2 = pagesL s.ws top ∧ t.2.2.2.length ≤ t.2.2.1, ⟨0, s, y, pagesL s.ws top, ⟨rfl, rfl, hy.1⟩, rfl, rfl, rfl, rfl, rfl, rfl, Nat.le_refl _, fun _ _ => rfl⟩, fun t => t.2.2.2.length - t.1, fun k s4 c4 l4 hx hlt => ?_⟩
      obtain ⟨e1, e2, hc4⟩ := hx
      simp only at e1 e2 hc4
      subst e1 e2
      have hk : k < (pagesL s4.ws top).length := by omega
      have hm := hmem _ (hget k hk)
      have hr := inS_iff.1 hm.2
      have hin := hnot k hk
      refine ⟨by omega, by omega, hI.good.W.2, hk, ⟨hI.good.W.2.1, hI.good.W.2.2.2.2.2.2⟩, by omega, by omega, fun q => (by rw [show hasN (s4.a.n, s4.a.w) ((pagesL s4.ws top).getD k 0) = true from hm.2] at q; cases q), fun _ => ⟨by omega, by omega, by omega, by omega, by omega, hk, by omega, (pagesL s4.ws top).take k, by rw [List.length_take]; omega, fun j hj => by rw [getD_take, if_pos (by rw [List.length_take] at hj; omega)], ⟨fun q hq => by have := hmem q (List.mem_of_mem_take hq); have := inS_iff.1 this.2; exact ⟨by omega, by omega⟩, by rw [List.length_take]; omega⟩, by omega, by omega, fun q => hin q, fun _ => ⟨by omega, by omega, hk, fun q => by omega, fun _ => ⟨by omega, by omega, k + 1, s4, c4, pagesL s4.ws top, ⟨rfl, rfl, hc4⟩, by simp only; omega, rfl, rfl, by omega, rfl, rfl, rfl, Nat.le_refl _, fun _ _ => rfl⟩⟩⟩, hk, hI.good.W.2, ⟨hI.good.W.2.1, hI.good.W.2.2.2.2.2.2⟩, by omega, by omega, fun q => (by rw [show hasN (s4.a.n, s4.a.w) ((pagesL s4.ws top).getD k 0) = true from hm.2] at q; cases q), fun _ => ⟨by omega, by omega, by omega, by omega, by omega, hk, by omega, (pagesL s4.ws top).take k, by rw [List.length_take]; omega, fun j hj => by rw [getD_take, if_pos (by rw [List.length_take] at hj; omega)], ⟨fun q hq => by have := hmem q (List.mem_of_mem_take hq); have := inS_iff.1 this.2; exact ⟨by omega, by omega⟩, by rw [List.length_take]; omega⟩, by omega, by omega, fun q => hin q, fun _ => ⟨by omega, by omega, hk, fun q => by omega, fun _ => ⟨by omega, by omega, k + 1, s4, c4, pagesL s4.ws top, ⟨rfl, rfl, hc4⟩, by simp only; omega, rfl, rfl, by omega, rfl, rfl, rfl, Nat.le_refl _, fun _ _ => rfl⟩⟩⟩⟩

def slotsPagesLC : Ctr := pureC (List A20) A20I (fun x => [a20A x]) (fun _ => .bool true)
theorem slotsPagesL_ok : SpecOk Tryd.prog 6 (specOf slotsPagesLC) :=
  law_map slotsPages_ok (fun x => x.map a20) (fun x => by show [acts20A _] = _; rw [a20_args]) (fun x h => a20_acts h)

end Yard
