import Derived.Test.YtkdppdofkkakaaaGreatDoorSlots

namespace Yard
open Go Go.Sx Go.Proofs
set_option linter.unusedVariables false
set_option linter.unusedSimpArgs false
set_option maxRecDepth 4000

theorem zcY {k t : Nat} {b : List Nat} (hb : b.length <= 56) : (za7 k t b).length = 60 := by
 simp only [za7, List.length_append, List.length_replicate, List.length_cons, List.length_nil]; omega
theorem zuT {k t : Nat} {b : List Nat} (hk : k < 256) (ht : t < 256) (hb : ∀ c ∈ b, c < 256) : ∀ c ∈ za7 k t b, c < 256 := fun c hc => by
 rcases List.mem_append.1 hc with h | h
 ·rcases List.mem_append.1 h with h | h
  ·simp only [List.mem_cons, List.not_mem_nil, or_false] at h; omega
  ·exact hb c h
 ·have := (List.mem_replicate.1 h).2; omega
theorem ze7 (k t : Nat) (b : List Nat) : (zbR k t b).drop 4 = za7 k t b := by
 rw [zbR, List.drop_append_of_le_length (by rw [zaD]; omega), List.drop_of_length_le (by rw [zaD]; omega), List.nil_append]
theorem zsQ (k t : Nat) (b : List Nat) : (zbR k t b).take 4 = layN (sumN [za7 k t b]) 4 := by
 rw [zbR, List.take_append_of_le_length (by rw [zaD]; omega), List.take_of_length_le (by rw [zaD]; omega)]
theorem zlI {k t : Nat} {b : List Nat} {i : Nat} (h : 4 <= i) : (zbR k t b).getD i 0 = (za7 k t b).getD (i - 4) 0 := by
 rw [<- ze7, zaV]; congr 1; omega
theorem ze6 (k t : Nat) (b : List Nat) : (zbR k t b).drop 8 = b ++ List.replicate (56 - b.length) 0 := by
 have : (zbR k t b).drop 8 = ((zbR k t b).drop 4).drop 4 := by rw [List.drop_drop]
 rw [this, ze7, za7]
 rfl
theorem zhF {k t : Nat} {b : List Nat} (hk : 0 < k) (hk2 : k < 256) (ht : t < 256) (hb : ∀ c ∈ b, c < 256) (hl : b.length <= 56) : zbG (zbR k t b) := by
 have h64 := zfX (k := k) (t := t) hl
 refine ⟨h64, ?_, ?_, ?_⟩
 ·rw [zlI (by omega)]; show k ≠ 0; omega
 ·have hh : hasB (zbR k t b).length 6 2 := ⟨by omega, by omega, by omega⟩
  rw [zc3, decide_eq_true hh, Bool.true_and, List.all_eq_true]
  intro c hc
  have : cut (zbR k t b) 6 2 = [0, 0] := by
   have e : cut (zbR k t b) 6 2 = (((zbR k t b).drop 4).drop 2).take 2 := by rw [List.drop_drop]; rfl
   rw [e, ze7]; rfl
  rw [this] at hc
  simp at hc
  simp [hc]
 ·rw [ze7, zsQ, readN, List.take_of_length_le (by rw [zaD]; omega), ziD]
  exact zhB (zmT fun l hl' => by rw [List.mem_singleton] at hl'; subst hl'; exact zuT hk2 ht hb)
theorem znF (k t : Nat) (b : List Nat) : (zbR k t b).getD 4 0 = k := by rw [zlI (by omega)]; rfl
theorem zlH (k t : Nat) (b : List Nat) : (zbR k t b).getD 5 0 = t := by rw [zlI (by omega)]; rfl
theorem zrH (f : Nat->Int) : ∀ k i j : Nat, i < k->j < 2->(kidsL f k).getD (2 * i + j) 0 = (layN (f i).toNat 2).getD j 0
 | 0, _, _, h, _ => absurd h (Nat.not_lt_zero _)
 | k + 1, i, j, h, hj => by
   rw [zdB, zaM, zbH]
   by_cases e : i = k
   ·subst e; rw [if_neg (by omega)]; congr 1; omega
   ·rw [if_pos (by omega), zrH f k i j (by omega) hj]
theorem zi1 (l : Nat->SeatT) : ∀ k i j : Nat, i < k->j < 8->(za9 l k).getD (8 * i + j) 0 = (layN (l i).gen.toNat 4 ++ layN (l i).next.toNat 4).getD j 0
 | 0, _, _, h, _ => absurd h (Nat.not_lt_zero _)
 | k + 1, i, j, h, hj => by
   rw [zcE, zaM, za0]
   by_cases e : i = k
   ·subst e; rw [if_neg (by omega)]; congr 1; omega
   ·rw [if_pos (by omega), zi1 l k i j (by omega) hj]
theorem zwT {t : Nat} {f : Nat->Int} {i : Nat} (hi : i < 16) (hk : zf6 (f i)) : zcO (zbR 3 t (kidsL f 16)) i = f i := by
 have hl := zbH f 16
 have e : ((zbR 3 t (kidsL f 16)).drop (8 + 2 * i)).take 2 = layN (f i).toNat 2 := by
  rw [<- List.drop_drop, ze6]
  refine zbN 0 (by simp only [List.length_take, List.length_drop, List.length_append, List.length_replicate, zaD]; omega) fun j hj => ?_
  rw [zaD] at hj
  rw [zaZ, if_pos hj, zaV, zaM, if_pos (by omega), zrH f 16 i j hi hj]
 unfold zf6 at hk
 rw [zcO, e, ziD _ _ (by omega)]
 omega
theorem qaV {f : Nat->Int} (h : zdO f) : zd0 (zaL f)/\∀ i, i < 16->zcO (zaL f) i = f i := by
 have hl := zbH f 16
 have hk : ∀ i, i < 16->zcO (zaL f) i = f i := fun i hi => by rw [zaL, if_pos h]; exact zwT hi (h i hi)
 refine ⟨⟨?_, ?_, ?_, ?_, fun i hi => by rw [hk i hi]; exact h i hi⟩, hk⟩
 ·rw [zaL, if_pos h]; exact zhF (by decide) (by decide) (by decide) (ziH f 16) (by omega)
 ·rw [zaL, if_pos h, znF]
 ·rw [zaL, if_pos h, zlH]
 ·rw [zaL, if_pos h, ze6]
  have hh : hasB (kidsL f 16 ++ List.replicate (56 - (kidsL f 16).length) 0).length 32 24 := by
   simp only [List.length_append, List.length_replicate]; exact ⟨by omega, by omega, by omega⟩
  rw [zc3, decide_eq_true hh, Bool.true_and, List.all_eq_true]
  intro c hc
  have e : cut (kidsL f 16 ++ List.replicate (56 - (kidsL f 16).length) 0) 32 24 = List.replicate 24 0 := by
   show ((kidsL f 16 ++ List.replicate (56 - (kidsL f 16).length) 0).drop 32).take 24 = _
   rw [List.drop_append_of_le_length (by omega), List.drop_of_length_le (by omega), List.nil_append, List.take_of_length_le (by rw [List.length_replicate]; omega), hl]
  rw [e] at hc
  have := (List.mem_replicate.1 hc).2
  simp [this]
theorem zl1 (l : Nat->SeatT) : ∀ k i : Nat, i < k->(liveN l k).testBit i = (l i).live
 | 0, _, h => absurd h (Nat.not_lt_zero _)
 | k + 1, i, h => by
   have hlt := zeB l k
   rw [liveN]
   by_cases hk : (l k).live = true
   ·rw [if_pos hk]
    have hor := zjB (a := liveN l k) (b := 1) (i := k) hlt
    rw [Nat.one_mul] at hor
    rw [<- hor, Nat.testBit_or, Nat.testBit_two_pow]
    by_cases e : i = k
    ·subst e; simp [hk]
    ·rw [zl1 l k i (by omega)]
     have : ¬ k = i := fun h => e h.symm
     simp [this]
   ·rw [if_neg hk, Nat.add_zero]
    by_cases e : i = k
    ·subst e
     rw [Nat.testBit_lt_two_pow hlt]
     simpa using hk
    ·exact zl1 l k i (by omega)
theorem zsO {l : Nat->SeatT} {i : Nat} (hi : i < 7) (hk : zaX (l i)) : zaN (zbR 2 (liveN l 7) (za9 l 7)) i = l i := by
 have hl := za0 l 7
 have hs := zkE hk
 have e1 : ((zbR 2 (liveN l 7) (za9 l 7)).drop (8 + 8 * i)).take 4 = layN (l i).gen.toNat 4 := by
  rw [<- List.drop_drop, ze6]
  refine zbN 0 (by simp only [List.length_take, List.length_drop, List.length_append, List.length_replicate, zaD]; omega) fun j hj => ?_
  rw [zaD] at hj
  rw [zaZ, if_pos hj, zaV, zaM, if_pos (by omega), zi1 l 7 i j hi (by omega), zaM, if_pos (by rw [zaD]; exact hj)]
 have e2 : ((zbR 2 (liveN l 7) (za9 l 7)).drop (12 + 8 * i)).take 4 = layN (l i).next.toNat 4 := by
  rw [show 12 + 8 * i = 8 + (8 * i + 4) by omega, <- List.drop_drop, ze6]
  refine zbN 0 (by simp only [List.length_take, List.length_drop, List.length_append, List.length_replicate, zaD]; omega) fun j hj => ?_
  rw [zaD] at hj
  rw [zaZ, if_pos hj, zaV, zaM, if_pos (by omega), Nat.add_assoc, zi1 l 7 i (4 + j) hi (by omega), zaM, if_neg (by rw [zaD]; omega), zaD]
  congr 1; omega
 have e3 : (liveN l 7 / 2 ^ i % 2 == 1) = (l i).live := by
  have := zl1 l 7 i hi
  rw [Nat.testBit_eq_decide_div_mod_eq] at this
  rw [<- this]
  rfl
 unfold zaN
 rw [zlH, e3, e1, e2, ziD _ _ (by omega), ziD _ _ (by omega)]
 have h1 : (((l i).gen.toNat : Nat) : Int) = (l i).gen := by omega
 have h2 : (((l i).next.toNat : Nat) : Int) = (l i).next := by omega
 rw [h1, h2]
theorem zwR {l : Nat->SeatT} (h : zc5 l) : zb6 (zaJ l)/\∀ i, i < 7->zaN (zaJ l) i = l i := by
 have hl := za0 l 7
 have h7 := zeB l 7
 have hk : ∀ i, i < 7->zaN (zaJ l) i = l i := fun i hi => by rw [zaJ, if_pos h]; exact zsO hi (h i hi)
 refine ⟨⟨?_, ?_, ?_, fun i hi => by rw [hk i hi]; exact h i hi⟩, hk⟩
 ·rw [zaJ, if_pos h]; exact zhF (by decide) (by decide) (by omega) (zfW l 7) (by omega)
 ·rw [zaJ, if_pos h, znF]
 ·rw [zaJ, if_pos h, zlH]; omega


abbrev InS (n m : Nat) (a : Int) : Prop := hasN (n, m) a = true
theorem inS_iff {n m : Nat} {a : Int} : InS n m a ↔ 0 <= a/\a < (n : Int)/\m.testBit a.toNat = true := by
 show (decide (inSet (n, m) a) && m.testBit a.toNat) = true ↔ _
 rw [Bool.and_eq_true, decide_eq_true_iff]
 exact and_assoc
theorem zz8 {n m : Nat} {a b : Int} : InS n (add1 n m b) a ↔ InS n m a\/(a = b/\0 <= b/\b < (n : Int)) := by
 rw [inS_iff, inS_iff, zvM, Bool.or_eq_true, decide_eq_true_iff]
 constructor
 ·rintro ⟨h1, h2, h | h⟩
  ·exact .inl ⟨h1, h2, h⟩
  ·exact .inr (by omega)
 ·rintro (⟨h1, h2, h⟩ | h)
  ·exact ⟨h1, h2, .inl h⟩
  ·exact ⟨by omega, by omega, .inr (by omega)⟩
theorem zz7 {n p q : Nat} {a : Int} : InS n (p ||| q) a ↔ InS n p a\/InS n q a := by
 rw [inS_iff, inS_iff, inS_iff, Nat.testBit_or, Bool.or_eq_true]
 constructor
 ·rintro ⟨h1, h2, h | h⟩
  ·exact .inl ⟨h1, h2, h⟩
  ·exact .inr ⟨h1, h2, h⟩
 ·rintro (⟨h1, h2, h⟩ | ⟨h1, h2, h⟩)
  ·exact ⟨h1, h2, .inl h⟩
  ·exact ⟨h1, h2, .inr h⟩
theorem qd1 {x : AllocT} {a : Int} : InS x.n (zdJ x) a ↔ InS x.n x.w a\/InS x.n x.c a\/InS x.n x.e a\/InS x.n x.m a := by
 unfold zdJ
 rw [zz7, zz7, zz7]
 constructor
 ·rintro (((h | h) | h) | h)
  ·exact .inl h
  ·exact .inr (.inl h)
  ·exact .inr (.inr (.inl h))
  ·exact .inr (.inr (.inr h))
 ·rintro (h | h | h | h)
  ·exact .inl (.inl (.inl h))
  ·exact .inl (.inl (.inr h))
  ·exact .inl (.inr h)
  ·exact .inr h
theorem zjN (n m : Nat) : (za8 (n + 1) m).length = (za8 n m).length + if m.testBit n then 1 else 0 := by
 rw [za8, List.range_succ, List.filter_append, List.length_append, za8]
 congr 1
 by_cases h : m.testBit n = true
 ·simp [h]
 ·simp [h]
structure GoodS (s : StoreT) : Prop where
 W : zaE s
 lines : s.a.n <= linesN s.ws
 r0 : s.a.r = 0
 c0 : InS s.a.n s.a.c 0
 c1 : InS s.a.n s.a.c 1

structure Step (s : StoreT) (a : Int) (b : List Nat) (r : Wr) : Prop where
 e : r.e = 0
 good : GoodS r.s
 n : r.s.a.n = s.a.n
 c : r.s.a.c = s.a.c
 e' : r.s.a.e = s.a.e
 m : r.s.a.m = s.a.m
 ge : 2 <= r.at_
 lt : r.at_ < (s.a.n : Int)
 at' : zaY r.s.ws r.at_ = b
 oth : ∀ c, c ≠ r.at_->zaY r.s.ws c = zaY s.ws c
 lns : linesN r.s.ws = linesN s.ws
 w : ∀ c, InS s.a.n r.s.a.w c ↔ c = r.at_\/(InS s.a.n s.a.w c/\¬ (a ≠ 0/\c = a))
 kind : (r.at_ = a/\¬ InS s.a.n s.a.m a)\/¬ InS s.a.n (zdJ s.a) r.at_
 free : zfL s.a <= zfL r.s.a + 1
 turned : a ≠ 0->r.at_ ≠ a->InS s.a.n s.a.m a
theorem zvX {s : StoreT} {a : Int} {b : List Nat} {r : Wr} (S : Step s a b r) {c : Int} (h : InS s.a.n s.a.m c) : zaY r.s.ws c = zaY s.ws c := by
 refine S.oth c fun q => ?_
 rcases S.kind with k | k
 ·exact k.2 (by rw [<- k.1, <- q]; exact h)
 ·exact k (qd1.2 (.inr (.inr (.inr (by rw [<- q]; exact h)))))


structure ShapeX (X : Int->Prop) (w : Int->Prop) (top : Int) (K : Nat->Int) (F : Nat->Nat->Int) : Prop where
 ht : top = 0\/(2 <= top/\w top)
 hk : ∀ i, i < 16->K i = 0\/(2 <= K i/\w (K i))
 hf : ∀ i j, i < 16->j < 16->F i j = 0\/(2 <= F i j/\w (F i j))
 d1 : ∀ i, i < 16->K i ≠ 0->K i ≠ top
 d2 : ∀ i j, i < 16->j < 16->F i j ≠ 0->F i j ≠ top
 d3 : ∀ i j i', i < 16->j < 16->i' < 16->F i j ≠ 0->F i j ≠ K i'
 d4 : ∀ i i', i < 16->i' < 16->K i ≠ 0->K i = K i'->i = i'
 d5 : ∀ i j i' j', i < 16->j < 16->i' < 16->j' < 16->F i j ≠ 0->F i j = F i' j'->i = i'/\j = j'
 exX : ∀ c, w c->c = 0\/c = 1\/c = top\/(∃ i, i < 16/\c = K i)\/(∃ i j, i < 16/\j < 16/\c = F i j)\/X c
 xw : ∀ c, X c->2 <= c/\w c
 x1 : ∀ c, X c->c ≠ top
 x2 : ∀ c i, X c->i < 16->c ≠ K i
 x3 : ∀ c i j, X c->i < 16->j < 16->c ≠ F i j
abbrev noX : Int->Prop := fun _ => False
abbrev Shape (w : Int->Prop) (top : Int) (K : Nat->Int) (F : Nat->Nat->Int) : Prop := ShapeX noX w top K F
theorem ShapeX.ex {w : Int->Prop} {top : Int} {K : Nat->Int} {F : Nat->Nat->Int} (h : ShapeX noX w top K F) (c : Int) (hc : w c) : c = 0\/c = 1\/c = top\/(∃ i, i < 16/\c = K i)\/(∃ i j, i < 16/\j < 16/\c = F i j) := by
 rcases h.exX c hc with z | z | z | z | z | z
 ·exact .inl z
 ·exact .inr (.inl z)
 ·exact .inr (.inr (.inl z))
 ·exact .inr (.inr (.inr (.inl z)))
 ·exact .inr (.inr (.inr (.inr z)))
 ·exact z.elim
theorem Shape.of {w : Int->Prop} {top : Int} {K : Nat->Int} {F : Nat->Nat->Int} (ht : top = 0\/(2 <= top/\w top)) (hk : ∀ i, i < 16->K i = 0\/(2 <= K i/\w (K i))) (hf : ∀ i j, i < 16->j < 16->F i j = 0\/(2 <= F i j/\w (F i j)))
  (d1 : ∀ i, i < 16->K i ≠ 0->K i ≠ top) (d2 : ∀ i j, i < 16->j < 16->F i j ≠ 0->F i j ≠ top) (d3 : ∀ i j i', i < 16->j < 16->i' < 16->F i j ≠ 0->F i j ≠ K i') (d4 : ∀ i i', i < 16->i' < 16->K i ≠ 0->K i = K i'->i = i')
  (d5 : ∀ i j i' j', i < 16->j < 16->i' < 16->j' < 16->F i j ≠ 0->F i j = F i' j'->i = i'/\j = j') (ex : ∀ c, w c->c = 0\/c = 1\/c = top\/(∃ i, i < 16/\c = K i)\/(∃ i j, i < 16/\j < 16/\c = F i j)) : Shape w top K F :=
 ⟨ht, hk, hf, d1, d2, d3, d4, d5, fun c hc => (ex c hc).imp_right fun z => z.imp_right fun z => z.imp_right fun z => z.imp_right .inl, fun _ h => h.elim, fun _ h => h.elim, fun _ _ h => h.elim, fun _ _ _ h => h.elim⟩

structure Moved (w w' : Int->Prop) (top top' b1 a2 b2 a1 : Int) : Prop where
 g1 : 2 <= a1
 g2 : 2 <= a2
 g3 : 2 <= top'
 n12 : a1 ≠ a2
 n13 : a1 ≠ top'
 n23 : a2 ≠ top'
 o1 : a1 = b2\/¬ w a1
 o2 : a2 = b1\/¬ w a2
 o3 : top' = top\/¬ w top'
 w' : ∀ c, w' c ↔ c = a1\/c = a2\/c = top'\/(w c/\¬ (b2 ≠ 0/\c = b2)/\¬ (b1 ≠ 0/\c = b1)/\¬ (top ≠ 0/\c = top))

theorem qc0 : zaX seatZ := by decide
def tF (ws : List Nat) (top : Int) (i j : Nat) : Int := fanF ws (fanF ws top i) j
def tS (ws : List Nat) (top : Int) (i j k : Nat) : SeatT := zdZ ws (tF ws top i j) k
structure TreeX (X : Int->Prop) (s : StoreT) (top : Int) : Prop where
 sh : ShapeX X (InS s.a.n s.a.w) top (fanF s.ws top) (tF s.ws top)
 et : fanErr s.ws top = 0
 ek : ∀ i, i < 16->fanErr s.ws (fanF s.ws top i) = 0
 ef : ∀ i j, i < 16->j < 16->za3 s.ws (tF s.ws top i j) = 0
abbrev qb7 (s : StoreT) (top : Int) : Prop := TreeX noX s top
structure PutX (X : Int->Prop) (s : StoreT) (top slot : Int) (x : SeatT) (r : Wr) : Prop where
 e : r.e = 0
 good : GoodS r.s
 tree : TreeX X r.s r.at_
 n : r.s.a.n = s.a.n
 c : r.s.a.c = s.a.c
 e' : r.s.a.e = s.a.e
 m : r.s.a.m = s.a.m
 lns : linesN r.s.ws = linesN s.ws
 ge : 2 <= r.at_
 seats : ∀ i j k, i < 16->j < 16->k < 7->tS r.s.ws r.at_ i j k = if i = placeK slot 0/\j = placeK slot 1/\k = placeK slot 2 then x else tS s.ws top i j k
 marks : ∀ c, InS s.a.n s.a.m c->zaY r.s.ws c = zaY s.ws c
 free : zfL s.a <= zfL r.s.a + 3
 w01 : ∀ c, c < 2->InS s.a.n s.a.w c->InS s.a.n r.s.a.w c
 nzK : ∀ i, i < 16->(fanF r.s.ws r.at_ i ≠ 0 ↔ i = placeK slot 0\/fanF s.ws top i ≠ 0)
 nzF : ∀ i j, i < 16->j < 16->(tF r.s.ws r.at_ i j ≠ 0 ↔ (i = placeK slot 0/\j = placeK slot 1)\/tF s.ws top i j ≠ 0)
 oth : ∀ c, X c->zaY r.s.ws c = zaY s.ws c
structure PutNo (s : StoreT) (r : Wr) : Prop where
 e : r.e = 10
 at' : r.at_ = 0
 good : GoodS r.s
 n : r.s.a.n = s.a.n
 c : r.s.a.c = s.a.c
 e' : r.s.a.e = s.a.e
 m : r.s.a.m = s.a.m
 lns : linesN r.s.ws = linesN s.ws
 marks : ∀ c, InS s.a.n s.a.m c->zaY r.s.ws c = zaY s.ws c
 free : zfL s.a <= 2
 free' : zfL r.s.a <= 0

theorem zpI {n : Nat} {c : Int} : InS n (addL n 0 [0, 1]) c ↔ (c = 0\/c = 1)/\c < (n : Int) := by
 show InS n (add1 n (add1 n 0 0) 1) c ↔ _
 rw [zz8, zz8, inS_iff]
 simp only [Nat.zero_testBit, Bool.false_eq_true, and_false, false_or]
 omega
theorem zrD {n : Nat} (h2 : 2 <= n) (h : n <= 3072) : GoodS (zdM n 0) := by
 have hz : 0 < 2 ^ n := Nat.pos_of_ne_zero (by simp)
 refine ⟨⟨⟨by show (List.replicate (8 * n) 0).length <= _; rw [List.length_replicate]; omega, fun w hw => by have : w = 0 := (List.mem_replicate.1 hw).2; subst this; unfold U64; omega⟩, h, ⟨by show (-9223372036854775808 : Int) <= 0; omega, by show (0 : Int) <= 9223372036854775807; omega⟩, zeJ hz, hz, zeJ hz, zeJ hz⟩, ?_, rfl, zpI.2 ⟨.inl rfl, by show (0 : Int) < (n : Int); omega⟩, zpI.2 ⟨.inr rfl, by show (1 : Int) < (n : Int); omega⟩⟩
 show n <= (List.replicate (8 * n) 0).length / 8
 rw [List.length_replicate]; omega
theorem zzS (n : Nat) (r : Int) : qb7 (zdM n r) 0 := by
 refine ⟨Shape.of (.inl rfl) (fun _ _ => .inl rfl) (fun _ _ _ _ => .inl rfl) (fun _ _ h => absurd rfl h) (fun _ _ _ _ h => absurd rfl h) (fun _ _ _ _ _ _ h => absurd rfl h) (fun _ _ _ _ h => absurd rfl h) (fun _ _ _ _ _ _ _ _ h => absurd rfl h) (fun c hc => ?_), rfl, fun _ _ => rfl, fun _ _ _ _ => rfl⟩
 have := (zpI.1 hc).1
 omega
end Yard
