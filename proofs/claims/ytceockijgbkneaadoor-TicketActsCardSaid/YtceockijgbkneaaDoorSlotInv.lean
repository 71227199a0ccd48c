import Derived.Test.YtceockijgbkneaaDoorPutMath

namespace Yard
open Go Go.Sx Go.Proofs
set_option linter.unusedVariables false
set_option linter.unusedSimpArgs false
set_option maxRecDepth 4000

structure Act20 where
  slot : Int
  x : SeatT
  mark : Bool
abbrev act20V (a : Act20) : List AV := [i64 a.slot, .bool a.x.live, i64 a.x.gen, i64 a.x.next, .bool a.mark]
def act20Z : Act20 := ⟨0, seatZ, false⟩
abbrev acts20A (l : List Act20) : AV := .ro 5 l.length (fun i => act20V (l.getD i act20Z))
def Act20I (a : Act20) : Prop := I64 a.slot ∧ SeatI a.x
def Acts20 (l : List Act20) : Prop := (∀ a ∈ l, Act20I a) ∧ l.length ≤ 9223372036854775807
def lastS (l : List Act20) (slot : Int) : SeatT := l.foldl (fun y a => if a.slot = slot then a.x else y) seatZ
theorem lastS_snoc {l : List Act20} {slot : Int} {i : Nat} (hi : i < l.length) : lastS (l.take (i + 1)) slot = if (l.getD i act20Z).slot = slot then (l.getD i act20Z).x else lastS (l.take i) slot := by
  rw [lastS, foldl_take_snoc _ _ act20Z hi]; rfl

def block08C : Ctr := pureC Int (fun x => I64 x) (fun x => [i64 x]) (fun x => .bool (decide (2 ≤ x ∧ x ≤ 3071)))
def seat09C : Ctr := pureC SeatT SeatI (fun x => [seatA x]) (fun x => .bool (decide (seatOk x)))
def seat20C : Ctr := pureC (List Act20 × Int) (fun x => Acts20 x.1 ∧ I64 x.2) (fun x => [acts20A x.1, i64 x.2]) (fun x => seatA (lastS x.1 x.2))
def seat20LA (x : List Act20 × Int) : LA := { T := Nat, F := fun i => frm 27 [(0, acts20A x.1), (1, i64 x.2), (4, .ptr 1 [] 0), (5, .ptr 2 [] 0), (6, i64 (i : Nat))], H := fun i => [.fence, .cells 77 (seatV seatZ), .cells 77 (seatV (lastS (x.1.take i) x.2))] }
def awake20C : Ctr := pureC Unit (fun _ => True) (fun _ => []) (fun _ => .bool true)

theorem block08V : (∀ (x : Int), -9223372036854775808 ≤ x ∧ x ≤ (9223372036854775807 : Int) → BC (decide ((2 : Int) ≤ x)) (Exx Unit fun y => ((decide (x ≤ (3071
 : Int)) = decide ((2 : Int) ≤ x ∧ x ≤ (3071 : Int)) ∧ True) ∧ true = true ∧ True) ∧ True) (Exx Unit fun y => ((false = decide ((2 : Int) ≤ x ∧ x ≤ (3071 : Int))
 ∧ True) ∧ true = true ∧ True) ∧ True)) = (fnVC tb [] Tryd.f34 block08C (fun _ => {}) (fun _ => none)) := by kernel_rfl 

theorem block08_ok : SpecOk Tryd.prog 34 (specOf block08C) := by
  refine specOk mixed tb_ok SPok.nil Tryd.func34 (by decide) (pureC_ok fun _ => rfl) (an := (fun _ => {})) (σ := (fun _ => none)) ?_
  rw [← block08V]
  simp (maxSteps := 10000000) only [and_false, false_and, false_or, or_false, bOf_true, bOf_false, true_bOf, false_bOf, Exx, int_ite, merge_o, Tr_eq, true_and, and_true, exists_const, forall_const, implies_true, forall_eq, exists_eq, exists_eq', exists_eq_left, exists_eq_left', exists_eq_right, Prod.exists, Prod.forall, and_assoc, exists_and_left, BC_iff, Bool.not_eq_true', Bool.not_eq_false', decide_eq_true_eq, decide_eq_false_iff_not, I64, nat_cast_inj, Int.toNat_natCast, nats_iff, nats_iff', ints_iff, ints_iff', natss_iff, natss_iff', nilnil, litL_eq, str_inj, str_append, str_length, str_getD, str_take, lit1_iff, one_iff, two_iff, one_get, Nat.zero_add, Nat.sub_zero, Nat.reduceMul, Nat.reduceDiv, Nat.reduceAdd, Int.reduceToNat, Nat.not_lt_zero, if_false, if_true, Nat.le_refl, List.length_singleton, List.length_cons, List.length_nil, Bool.false_eq_true, not_true_eq_false, false_implies, not_false_eq_true, Prod.mk.injEq]
  exact fun x _ => ⟨fun h => decide_eq_decide.2 (by omega), fun h => (decide_eq_false (by omega)).symm⟩

def aw1 : Wr := putR (madeS 20 0) 0 120 ⟨true, 1, 5⟩
def aw2 : Wr := putR aw1.s aw1.at_ 121 ⟨true, 1, 5⟩
theorem aw_k1 : aw1.e = 0 := by decide +kernel
theorem aw_k2 : aw2.e = 0 := by decide +kernel
theorem aw_k3 : walkErr aw2.s.ws aw2.at_ 120 = 0 := by decide +kernel
theorem aw_k4 : ((bitsL aw1.s.a.n aw1.s.a.w).length : Int) = 5 := by decide +kernel
theorem aw_k5 : ((bitsL aw2.s.a.n aw2.s.a.w).length : Int) = 5 := by decide +kernel
theorem aw_k6 : findS aw2.s.ws aw2.at_ 120 = ⟨true, 1, 5⟩ := by decide +kernel

end Yard


namespace Yard
open Go Go.Sx Go.Proofs
set_option linter.unusedVariables false
set_option linter.unusedSimpArgs false
set_option maxRecDepth 4000

theorem mark_free (x : AllocT) : freeN x ≤ freeN (markS x) := by
  have := bits_le (p := heldN (markS x)) (q := heldN x) (g := x.n) x.n fun i _ _ hp => by
    have e : heldN (markS x) = x.w ||| x.c ||| x.e ||| x.w := rfl
    rw [e] at hp
    unfold heldN
    simp only [Nat.testBit_or, Bool.or_eq_true] at hp ⊢
    rcases hp with ((h | h) | h) | h
    · simp [h]
    · simp [h]
    · simp [h]
    · simp [h]
  rw [if_neg (by omega)] at this
  show (x.n : Int) - ((bitsL x.n (heldN x)).length : Nat) ≤ (x.n : Int) - ((bitsL x.n (heldN (markS x))).length : Nat)
  omega
def markT (s : StoreT) : StoreT := { s with a := markS s.a }
theorem mark_good {s : StoreT} (h : GoodS s) : GoodS (markT s) := ⟨⟨h.W.1, becomeS_W h.W.2 2 3⟩, h.lines, h.r0, h.c0, h.c1⟩
theorem mark_tree {s : StoreT} {top : Int} (h : TreeOk s top) : TreeOk (markT s) top := ⟨h.sh, h.et, h.ek, h.ef⟩
theorem tree_find {s : StoreT} {top slot : Int} (h : TreeOk s top) (hp : placeOk slot) : findS s.ws top slot = tS s.ws top (placeK slot 0) (placeK slot 1) (placeK slot 2) := by
  rw [findS, if_pos (tree_walk hp h)]; rfl
theorem find_no {ws : List Nat} {top slot : Int} (hp : ¬ placeOk slot) : walkErr ws top slot = 2 ∧ findS ws top slot = seatZ := by
  have e : walkErr ws top slot = 2 := by rw [walkErr, if_neg hp]
  exact ⟨e, by rw [findS, if_neg (by rw [e]; decide)]⟩
theorem place_inj {a b : Int} (ha : placeOk a) (hb : placeOk b) (h : placeK a 0 = placeK b 0 ∧ placeK a 1 = placeK b 1 ∧ placeK a 2 = placeK b 2) : a = b := by
  have := ha.1
  have := hb.1
  have e0 : placeK a 0 = a.toNat / 7 / 16 := by simp [placeK, ha]
  have e1 : placeK a 1 = a.toNat / 7 % 16 := by simp [placeK, ha]
  have e2 : placeK a 2 = a.toNat % 7 := by simp [placeK, ha]
  have f0 : placeK b 0 = b.toNat / 7 / 16 := by simp [placeK, hb]
  have f1 : placeK b 1 = b.toNat / 7 % 16 := by simp [placeK, hb]
  have f2 : placeK b 2 = b.toNat % 7 := by simp [placeK, hb]
  omega
theorem lastS_add (l : List Act20) (a : Act20) (slot : Int) : lastS (l ++ [a]) slot = if a.slot = slot then a.x else lastS l slot := by
  rw [lastS, List.foldl_append]; rfl
theorem act_get {l : List Act20} (h : Acts20 l) (i : Nat) : Act20I (l.getD i act20Z) :=
  getD_mem (p := Act20I) h.1 ⟨I64_0, seatOk_I seatZ_ok⟩ i

def SeatsOf (s : StoreT) (top : Int) (l : List Act20) : Prop := ∀ slot, placeOk slot → tS s.ws top (placeK slot 0) (placeK slot 1) (placeK slot 2) = lastS l slot
theorem seats_find {s : StoreT} {top slot : Int} {l : List Act20} (h : TreeOk s top) (hs : SeatsOf s top l) (hp : placeOk slot) : walkErr s.ws top slot = 0 ∧ findS s.ws top slot = lastS l slot :=
  ⟨tree_walk hp h, by rw [tree_find h hp, hs slot hp]⟩
theorem seats_put {s : StoreT} {top : Int} {l : List Act20} {a : Act20} {r : Wr} (hs : SeatsOf s top l) (hp : placeOk a.slot) (h : PutOk s top a.slot a.x r) : SeatsOf r.s r.at_ (l ++ [a]) := fun slot hp2 => by
  obtain ⟨p0, p1, p2⟩ := place_lt hp2
  rw [h.seats _ _ _ p0 p1 p2, lastS_add, hs slot hp2]
  by_cases e : a.slot = slot
  · rw [if_pos e, if_pos (by rw [e]; exact ⟨rfl, rfl, rfl⟩)]
  · rw [if_neg e, if_neg (fun q => e (place_inj hp hp2 ⟨q.1.symm, q.2.1.symm, q.2.2.symm⟩))]
theorem put_bad {s : StoreT} {top slot : Int} {x : SeatT} (h : ¬ (placeOk slot ∧ seatOk x)) : putR s top slot x = { s := s, at_ := 0, e := 2 } := by
  unfold putR
  by_cases hx : seatOk x
  · have hp : ¬ placeOk slot := fun k => h ⟨k, hx⟩
    have e : walkErr s.ws top slot = 2 := by rw [walkErr, if_neg hp]
    rw [if_pos hx, if_neg (by rw [e]; decide), e]
  · rw [if_neg hx]

structure Inv (n i : Nat) (s : StoreT) (top : Int) (l : List Act20) : Prop where
  good : GoodS s
  tree : TreeOk s top
  hn : s.a.n = n
  htop : I64 top
  free : (n : Int) - 2 ≤ freeN s.a + 3 * i
  seats : SeatsOf s top l
  acts : ∀ a ∈ l, Act20I a ∧ placeOk a.slot
  len : l.length ≤ i
theorem inv_made {n : Nat} (h2 : 2 ≤ n) (h : n ≤ 3072) : Inv n 0 (madeS n 0) 0 [] :=
  ⟨made_good h2 h, made_tree n 0, rfl, I64_0, by have := made_free n 0; omega, fun _ _ => rfl, fun a ha => (by cases ha), Nat.le_refl _⟩
theorem inv_mark {n i : Nat} {s : StoreT} {top : Int} {l : List Act20} (h : Inv n i s top l) : Inv n i (markT s) top l :=
  ⟨mark_good h.good, mark_tree h.tree, h.hn, h.htop, by have := mark_free s.a; have := h.free; show _ ≤ freeN (markS s.a) + _; omega, h.seats, h.acts, h.len⟩
theorem inv_next {n i : Nat} {s : StoreT} {top : Int} {l : List Act20} (h : Inv n i s top l) : Inv n (i + 1) s top l :=
  ⟨h.good, h.tree, h.hn, h.htop, by have := h.free; omega, h.seats, h.acts, by have := h.len; omega⟩
theorem inv_put {n i : Nat} {s : StoreT} {top : Int} {l : List Act20} (h : Inv n i s top l) (hi : 3 * (i : Int) + 4 < n) {a : Act20} (hp : placeOk a.slot) (hx : seatOk a.x) (ha : Act20I a) :
    (putR s top a.slot a.x).e = 0 ∧ Inv n (i + 1) (putR s top a.slot a.x).s (putR s top a.slot a.x).at_ (l ++ [a]) := by
  rcases tree_put h.good h.tree hp hx with S | N
  · refine ⟨S.e, S.good, S.tree, S.n.trans h.hn, putR_at h.good.W h.htop _ _, ?_, seats_put h.seats hp S, fun b hb => ?_, ?_⟩
    · have := S.free; have := h.free; omega
    · rcases List.mem_append.1 hb with k | k
      · exact h.acts b k
      · rw [List.mem_singleton] at k; rw [k]; exact ⟨ha, hp⟩
    · have := h.len; rw [List.length_append]; simp only [List.length_cons, List.length_nil]; omega
  · have := N.free; have := h.free; omega
theorem inv_acts {n i : Nat} {s : StoreT} {top : Int} {l : List Act20} (h : Inv n i s top l) (hi : i ≤ 1000) : Acts20 l := ⟨fun a ha => (h.acts a ha).1, by have := h.len; omega⟩

theorem inv_any {n i : Nat} {s : StoreT} {top : Int} {l : List Act20} (h : Inv n i s top l) (hi : 3 * (i : Int) + 4 < n) {a : Act20} (ha : Act20I a) :
    ((putR s top a.slot a.x).e = 0 ∧ PutOk s top a.slot a.x (putR s top a.slot a.x) ∧ Inv n (i + 1) (putR s top a.slot a.x).s (putR s top a.slot a.x).at_ (l ++ [a])) ∨ (putR s top a.slot a.x = { s := s, at_ := 0, e := 2 }) := by
  by_cases hv : placeOk a.slot ∧ seatOk a.x
  · left
    have g := inv_put h hi hv.1 hv.2 ha
    rcases tree_put h.good h.tree hv.1 hv.2 with S | N
    · exact ⟨g.1, S, g.2⟩
    · have := N.e; rw [g.1] at this; cases this
  · exact .inr (put_bad hv)

structure Kept (s0 s : StoreT) : Prop where
  kn : s.a.n = s0.a.n
  km : s.a.m = s0.a.m
  kl : linesN s.ws = linesN s0.ws
  ks : ∀ c, InS s0.a.n s0.a.m c → lineL s.ws c = lineL s0.ws c
theorem kept_refl (s : StoreT) : Kept s s := ⟨rfl, rfl, rfl, fun _ _ => rfl⟩
theorem kept_put {s0 s : StoreT} {top slot : Int} {x : SeatT} {r : Wr} (h : Kept s0 s) (S : PutOk s top slot x r) : Kept s0 r.s :=
  ⟨S.n.trans h.kn, S.m.trans h.km, S.lns.trans h.kl, fun c hc => by rw [S.marks c (by rw [h.kn, h.km]; exact hc), h.ks c hc]⟩
theorem kept_no {s0 s : StoreT} {r : Wr} (h : Kept s0 s) (S : PutNo s r) : Kept s0 r.s :=
  ⟨S.n.trans h.kn, S.m.trans h.km, S.lns.trans h.kl, fun c hc => by rw [S.marks c (by rw [h.kn, h.km]; exact hc), h.ks c hc]⟩
theorem tree_kept {s0 s' : StoreT} {top : Int} (h : TreeOk s0 top) (hs : ∀ c, InS s0.a.n s0.a.w c → lineL s'.ws c = lineL s0.ws c) (hl : linesN s'.ws = linesN s0.ws) (hn : s'.a.n = s0.a.n) (hw : s'.a.w = s0.a.w) :
    TreeOk s' top ∧ ∀ i j k, i < 16 → j < 16 → tS s'.ws top i j k = tS s0.ws top i j k := by
  have t : fanErr s'.ws top = fanErr s0.ws top ∧ ∀ i, fanF s'.ws top i = fanF s0.ws top i := by
    rcases h.sh.ht with z | z
    · rw [z]; exact fan_zero _ _
    · exact fan_same hl (hs _ z.2)
  have u : ∀ i, i < 16 → fanErr s'.ws (fanF s0.ws top i) = fanErr s0.ws (fanF s0.ws top i) ∧ ∀ j, fanF s'.ws (fanF s0.ws top i) j = fanF s0.ws (fanF s0.ws top i) j := fun i hi => by
    rcases h.sh.hk i hi with z | z
    · rw [z]; exact fan_zero _ _
    · exact fan_same hl (hs _ z.2)
  have v : ∀ i j, i < 16 → j < 16 → leafErr s'.ws (tF s0.ws top i j) = leafErr s0.ws (tF s0.ws top i j) ∧ ∀ k, leafF s'.ws (tF s0.ws top i j) k = leafF s0.ws (tF s0.ws top i j) k := fun i j hi hj => by
    rcases h.sh.hf i j hi hj with z | z
    · rw [z]; exact leaf_zero _ _
    · exact leaf_same hl (hs _ z.2)
  have eF : ∀ i j, i < 16 → tF s'.ws top i j = tF s0.ws top i j := fun i j hi => by
    unfold tF; rw [t.2 i, (u i hi).2 j]
  refine ⟨⟨?_, t.1.trans h.et, fun i hi => ?_, fun i j hi hj => ?_⟩, fun i j k hi hj => ?_⟩
  · have g := h.sh
    rw [hn, hw]
    refine ⟨g.ht, fun i hi => ?_, fun i j hi hj => ?_, fun i hi => ?_, fun i j hi hj => ?_, fun i j i' hi hj hi' => ?_, fun i i' hi hi' => ?_, fun i j i' j' hi hj hi' hj' => ?_, fun c hc => ?_⟩
    · rw [t.2]; exact g.hk i hi
    · rw [eF i j hi]; exact g.hf i j hi hj
    · rw [t.2]; exact g.d1 i hi
    · rw [eF i j hi]; exact g.d2 i j hi hj
    · rw [eF i j hi, t.2]; exact g.d3 i j i' hi hj hi'
    · rw [t.2, t.2]; exact g.d4 i i' hi hi'
    · rw [eF i j hi, eF i' j' hi']; exact g.d5 i j i' j' hi hj hi' hj'
    · rcases g.ex c hc with z | z | z | ⟨i, hi, z⟩ | ⟨i, j, hi, hj, z⟩
      · exact .inl z
      · exact .inr (.inl z)
      · exact .inr (.inr (.inl z))
      · exact .inr (.inr (.inr (.inl ⟨i, hi, by rw [t.2]; exact z⟩)))
      · exact .inr (.inr (.inr (.inr ⟨i, j, hi, hj, by rw [eF i j hi]; exact z⟩)))
  · rw [t.2, (u i hi).1]; exact h.ek i hi
  · rw [eF i j hi, (v i j hi hj).1]; exact h.ef i j hi hj
  · unfold tS; rw [eF i j hi]; exact (v i j hi hj).2 k
theorem seats_kept {s0 s : StoreT} {top : Int} {l : List Act20} (h : TreeOk s0 top) (hs : SeatsOf s0 top l) (hm : s0.a.m = s0.a.w) (hk : Kept s0 s) {slot : Int} (hp : placeOk slot) : walkErr s.ws top slot = 0 ∧ findS s.ws top slot = lastS l slot := by
  obtain ⟨g1, g2⟩ := tree_kept (s' := { ws := s.ws, a := s0.a }) h (fun c hc => hk.ks c (by rw [hm]; exact hc)) hk.kl rfl rfl
  obtain ⟨p0, p1, p2⟩ := place_lt hp
  exact seats_find (s := { ws := s.ws, a := s0.a }) g1 (fun slot hp => by
    obtain ⟨p0, p1, p2⟩ := place_lt hp
    rw [g2 _ _ _ p0 p1]; exact hs slot hp) hp

structure Inv0 (n i : Nat) (s : StoreT) (top : Int) (l : List Act20) : Prop where
  good : GoodS s
  tree : TreeOk s top
  hn : s.a.n = n
  htop : I64 top
  seats : SeatsOf s top l
  acts : ∀ a ∈ l, Act20I a ∧ placeOk a.slot
  len : l.length ≤ i
theorem inv0_made {n : Nat} (h2 : 2 ≤ n) (h : n ≤ 3072) : Inv0 n 0 (madeS n 0) 0 [] :=
  ⟨made_good h2 h, made_tree n 0, rfl, I64_0, fun _ _ => rfl, fun a ha => (by cases ha), Nat.le_refl _⟩
theorem inv0_next {n i : Nat} {s : StoreT} {top : Int} {l : List Act20} (h : Inv0 n i s top l) : Inv0 n (i + 1) s top l :=
  ⟨h.good, h.tree, h.hn, h.htop, h.seats, h.acts, by have := h.len; omega⟩
theorem inv0_put {n i : Nat} {s : StoreT} {top : Int} {l : List Act20} (h : Inv0 n i s top l) {a : Act20} (ha : Act20I a) (hp : placeOk a.slot) {r : Wr} (hr : I64 r.at_) (S : PutOk s top a.slot a.x r) : Inv0 n (i + 1) r.s r.at_ (l ++ [a]) := by
  refine ⟨S.good, S.tree, S.n.trans h.hn, hr, seats_put h.seats hp S, fun b hb => ?_, ?_⟩
  · rcases List.mem_append.1 hb with k | k
    · exact h.acts b k
    · rw [List.mem_singleton] at k; rw [k]; exact ⟨ha, hp⟩
  · have := h.len; rw [List.length_append]; simp only [List.length_cons, List.length_nil]; omega
theorem inv0_mark {n i : Nat} {s : StoreT} {top : Int} {l : List Act20} (h : Inv0 n i s top l) : Inv0 n i (markT s) top l :=
  ⟨mark_good h.good, mark_tree h.tree, h.hn, h.htop, h.seats, h.acts, h.len⟩
def backT (s : StoreT) : StoreT := { s with a := backS s.a }
theorem inv0_back {n i : Nat} {s : StoreT} {top : Int} {l : List Act20} {r : Wr} (h : Inv0 n i (markT s) top l) (N : PutNo (markT s) r) : Inv0 n (i + 1) (backT r.s) top l := by
  obtain ⟨g1, g2⟩ := tree_kept (s' := backT r.s) h.tree (fun c hc => N.marks c hc) N.lns N.n N.m
  refine ⟨⟨⟨N.good.W.1, becomeS_W N.good.W.2 3 2⟩, N.good.lines, N.good.r0, N.good.c0, N.good.c1⟩, g1, N.n.trans h.hn, h.htop, fun slot hp => ?_, h.acts, by have := h.len; omega⟩
  obtain ⟨p0, p1, p2⟩ := place_lt hp
  rw [g2 _ _ _ p0 p1]; exact h.seats slot hp

theorem law_map {P : Program} {f : Nat} {X X' : Type} {pre : X → Prop} {args : X → List AV} {pre' : X' → Prop} {args' : X' → List AV} (h : SpecOk P f (specOf (pureC X pre args fun _ => .bool true))) (g : X' → X) (he : ∀ x, args (g x) = args' x) (hp : ∀ x, pre' x → pre (g x)) :
    SpecOk P f (specOf (pureC X' pre' args' fun _ => .bool true)) :=
  ⟨h.fn, fun W D R ids own H w avs vals K hgl hT hR hS => h.ok W D R ids own H w avs vals K hgl hT hR (by
    obtain ⟨x, h1, h2, h3⟩ := hS
    have e : args' x = args (g x) := (he x).symm
    exact ⟨g x, by simpa only [pureC, e] using h1, hp x h2, h3⟩)⟩
abbrev A20 : Type := Int × (Bool × Int × Int) × Bool
def a20Z : A20 := (0, (false, 0, 0), false)
def a20 (p : A20) : Act20 := ⟨p.1, ⟨p.2.1.1, p.2.1.2.1, p.2.1.2.2⟩, p.2.2⟩
abbrev a20A (l : List A20) : AV := .ro 5 l.length (fun i => [i64 (l.getD i a20Z).1, .bool (l.getD i a20Z).2.1.1, i64 (l.getD i a20Z).2.1.2.1, i64 (l.getD i a20Z).2.1.2.2, .bool (l.getD i a20Z).2.2])
def A20I (l : List A20) : Prop := (∀ a ∈ l, I64 a.1 ∧ I64 a.2.1.2.1 ∧ I64 a.2.1.2.2) ∧ l.length ≤ 9223372036854775807
theorem a20_get (l : List A20) (i : Nat) : (l.map a20).getD i act20Z = a20 (l.getD i a20Z) := by
  rw [List.getD_eq_getElem?_getD, List.getD_eq_getElem?_getD, List.getElem?_map]
  cases l[i]? <;> rfl
theorem a20_args (l : List A20) : acts20A (l.map a20) = a20A l := by
  unfold acts20A a20A
  rw [List.length_map]
  congr 1
  funext i
  rw [a20_get]; rfl
theorem a20_acts {l : List A20} (h : A20I l) : Acts20 (l.map a20) := by
  refine ⟨fun a ha => ?_, by rw [List.length_map]; exact h.2⟩
  obtain ⟨b, hb, rfl⟩ := List.mem_map.1 ha
  have := h.1 b hb
  exact ⟨this.1, this.2.1, this.2.2⟩

end Yard
