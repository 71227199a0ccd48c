import Derived.Test.YtlicnnoljbfhfaaDoorRef17b

namespace Yard
open Go Go.Sx Go.Proofs
set_option linter.unusedVariables false
set_option linter.unusedSimpArgs false
set_option maxRecDepth 4000

theorem sorted_ext : ∀ {l m : List Int}, l.Pairwise (· < ·) → m.Pairwise (· < ·) → (∀ x, x ∈ l ↔ x ∈ m) → l = m
  | [], [], _, _, _ => rfl
  | [], b :: m, _, _, h => by have := (h b).2 (by simp); simp at this
  | a :: l, [], _, _, h => by have := (h a).1 (by simp); simp at this
  | a :: l, b :: m, hl, hm, h => by
    rw [List.pairwise_cons] at hl hm
    have e : a = b := by
      have h1 := (h a).1 (by simp)
      have h2 := (h b).2 (by simp)
      rcases List.mem_cons.1 h1 with e | e
      · exact e
      · rcases List.mem_cons.1 h2 with e' | e'
        · exact e'.symm
        · have := hm.1 a e; have := hl.1 b e'; omega
    subst e
    rw [sorted_ext hl.2 hm.2 (fun x => ?_)]
    constructor
    · intro hx
      rcases List.mem_cons.1 ((h x).1 (List.mem_cons_of_mem _ hx)) with e | e
      · subst e; have := hl.1 x hx; omega
      · exact e
    · intro hx
      rcases List.mem_cons.1 ((h x).2 (List.mem_cons_of_mem _ hx)) with e | e
      · subst e; have := hm.1 x hx; omega
      · exact e
theorem listN_sorted (s : Nat × Nat) : (listN s).Pairwise (· < ·) := by
  rw [listN, List.pairwise_map]
  refine List.Pairwise.imp (R := (· < ·)) (fun h => by omega) ?_
  exact List.Pairwise.filter _ List.pairwise_lt_range
theorem mem_listN {s : Nat × Nat} {a : Int} : a ∈ listN s ↔ 0 ≤ a ∧ a < (s.1 : Int) ∧ s.2.testBit a.toNat = true := listN_mem (n := s.1) (m := s.2)
theorem listN_eq {l : List Int} {s : Nat × Nat} (hl : l.Pairwise (· < ·)) (h : ∀ x, x ∈ l ↔ 0 ≤ x ∧ x < (s.1 : Int) ∧ s.2.testBit x.toNat = true) : l = listN s :=
  sorted_ext hl (listN_sorted s) fun x => (h x).trans mem_listN.symm
theorem insI_mem {l : List Int} {a x : Int} : x ∈ insI l a ↔ x = a ∨ x ∈ l := by
  rw [insI, List.mem_append, List.mem_filter, List.mem_cons, List.mem_filter]
  constructor
  · rintro (⟨h, _⟩ | h | ⟨h, _⟩)
    · exact .inr h
    · exact .inl h
    · exact .inr h
  · rintro (h | h)
    · exact .inr (.inl h)
    · by_cases e : x ≤ a
      · exact .inl ⟨h, by simpa using e⟩
      · exact .inr (.inr ⟨h, by simpa using e⟩)
theorem insI_sorted {l : List Int} {a : Int} (hl : l.Pairwise (· < ·)) (ha : a ∉ l) : (insI l a).Pairwise (· < ·) := by
  rw [insI, List.pairwise_append, List.pairwise_cons]
  refine ⟨hl.filter _, ⟨fun x hx => ?_, hl.filter _⟩, fun x hx y hy => ?_⟩
  · have := (List.mem_filter.1 hx).2; simp at this; omega
  · have h1 := List.mem_filter.1 hx
    have h2 : x ≤ a := by simpa using h1.2
    have h3 : x ≠ a := fun e => ha (e ▸ h1.1)
    rcases List.mem_cons.1 hy with e | e
    · omega
    · have := (List.mem_filter.1 e).2; simp at this; omega

theorem ref_add_in {n m : Nat} {a : Int} (h1 : 0 ≤ a) (h2 : a < (n : Int)) (h3 : a ∉ listN (n, m)) : insI (listN (n, m)) a = listN (n, add1 n m a) := by
  refine listN_eq (s := (n, add1 n m a)) (insI_sorted (listN_sorted _) h3) fun x => ?_
  rw [insI_mem, mem_listN]
  simp only [add1_bit, Bool.or_eq_true, decide_eq_true_eq]
  constructor
  · rintro (e | ⟨g1, g2, g3⟩)
    · subst e; exact ⟨h1, h2, .inr ⟨by omega, by omega⟩⟩
    · exact ⟨g1, g2, .inl g3⟩
  · rintro ⟨g1, g2, g3 | ⟨_, g3⟩⟩
    · exact .inr ⟨g1, g2, g3⟩
    · exact .inl (by omega)
theorem ref_add_out {n m : Nat} {a : Int} (h : a < 0 ∨ (n : Int) ≤ a ∨ a ∈ listN (n, m)) : add1 n m a = m := by
  apply Nat.eq_of_testBit_eq
  intro i
  rw [add1_bit]
  by_cases e : i < n ∧ (i : Int) = a
  · obtain ⟨e1, rfl⟩ := e
    rcases h with h | h | h
    · omega
    · omega
    · have := (mem_listN.1 h).2.2
      simp only [Int.toNat_natCast] at this
      simp [this]
  · rw [decide_eq_false e, Bool.or_false]
theorem ref_drop {n m : Nat} {a : Int} : (listN (n, m)).filter (fun y => y != a) = listN (n, drop1 n m a) := by
  refine listN_eq (s := (n, drop1 n m a)) ((listN_sorted _).filter _) fun x => ?_
  rw [List.mem_filter, mem_listN]
  simp only [drop1_bit, Bool.and_eq_true, bne_iff_ne, ne_eq, Bool.not_eq_true', decide_eq_false_iff_not, not_and]
  constructor
  · rintro ⟨⟨g1, g2, g3⟩, g4⟩; exact ⟨g1, g2, g3, fun _ e => g4 (by omega)⟩
  · rintro ⟨g1, g2, g3, g4⟩; exact ⟨⟨g1, g2, g3⟩, fun e => g4 (by omega) (by omega)⟩
theorem ref_without {n m : Nat} {q : List Int} : (listN (n, m)).filter (fun y => !decide (y ∈ q)) = listN (n, dropL n m q) := by
  refine listN_eq (s := (n, dropL n m q)) ((listN_sorted _).filter _) fun x => ?_
  rw [List.mem_filter, mem_listN]
  simp only [dropL_bit, Bool.and_eq_true, Bool.not_eq_true', decide_eq_false_iff_not, not_and]
  constructor
  · rintro ⟨⟨g1, g2, g3⟩, g4⟩; exact ⟨g1, g2, g3, fun _ e => g4 (by rwa [Int.toNat_of_nonneg g1] at e)⟩
  · rintro ⟨g1, g2, g3, g4⟩; exact ⟨⟨g1, g2, g3⟩, fun e => g4 (by omega) (by rwa [Int.toNat_of_nonneg g1])⟩

theorem insI_length (l : List Int) (a : Int) : (insI l a).length = l.length + 1 := by
  rw [insI, List.length_append, List.length_cons]
  have h : ∀ l : List Int, (l.filter fun y => decide (y ≤ a)).length + (l.filter fun y => !decide (y ≤ a)).length = l.length := fun l => by
    induction l with
    | nil => rfl
    | cons x r ih =>
      rw [List.filter_cons, List.filter_cons]
      by_cases e : x ≤ a
      · rw [if_pos (decide_eq_true e), if_neg (by simp [e]), List.length_cons, List.length_cons]; omega
      · rw [if_neg (by simpa using e), if_pos (by simpa using e), List.length_cons, List.length_cons]; omega
  have := h l; omega
theorem listN_len (s : Nat × Nat) : (listN s).length ≤ s.1 := by rw [listN, List.length_map]; exact bitsL_len _ _
theorem listN_Ints {s : Nat × Nat} (h : s.1 ≤ 3072) : Ints (listN s) := by
  refine ⟨fun x hx => ?_, by have := listN_len s; omega⟩
  have := mem_listN.1 hx
  exact ⟨by omega, by omega⟩

def rowRen (t : Nat) (F : Fr) (_ : AH) : Option Ren := match F.getD t .any with
  | .sl q _ _ _ _ _ _ => some [some 0, some q]
  | _ => none
def refOfC : Ctr := rowJC (Nat × List Int) (fun x => x.1 ≤ 3072 ∧ IntL x.2) (fun x => [i64 (x.1 : Nat), intA x.2]) 3 .i64 (fun x => listN (x.1, addL x.1 0 x.2)) (fun _ r => r)
def refOfLA (x : Nat × List Int) : LA := { T := Nat × Nat × List Int, F := fun s => frm 21 [(0, i64 (x.1 : Nat)), (1, intA x.2), (5, .sl 1 [] 0 1 0 s.2.2.length s.2.1), (6, i64 (s.1 : Nat))], H := fun s => [.fence, rowI 3 .i64 s.2.1 s.2.2], ρ₂ := rowRen 5 }

theorem refOfV : (∀ (x : Nat × List Int), x.1 ≤ 3072 ∧ IntL x.2 → Exx (Nat × Nat × List Int → Prop) fun I => Exx (Nat × Nat × List Int → Nat) fun m => (Exx (Nat
 × Nat × List Int) fun t => I t ∧ (Tr 1 ((↑x.1 : Int) = (↑x.1 : Int)) ∧ ((1 : Nat) = 1 ∧ x.2.length = x.2.length ∧ ∀ (i : Nat), i < x.2.length → [AV.int .i64
 (x.2.getD i 0)] = [AV.int .i64 (x.2.getD i 0)]) ∧ Tr 3 ((t.2.2.length = 0 ∧ t.2.1 = 0) ∧ Tr 1 ((0 : Int) = (↑t.1 : Int)) ∧ Tr 14 True)) ∧ true = true ∧ (t.2.1 =
 0 ∧ t.2.2.length = 0) ∧ True) ∧ ∀ (t : Nat × Nat × List Int), I t → BC (decide ((↑t.1 : Int) < (↑x.2.length : Int))) (((0 : Int) ≤ (↑t.1 : Int) ∧ (↑t.1 : Int) <
 (↑x.2.length : Int)) ∧ Exx (Nat × List Int × Int × Int) fun x_1 => (((true = true ∧ NilNil ∧ (0 : Nat) = 0 ∧ (1 : Nat) = 1 ∧ (0 : Nat) = 0 ∧ t.2.2.length =
 x_1.2.1.length ∧ t.2.1 = x_1.1) ∧ Tr 1 ((↑x.1 : Int) = x_1.2.2.1) ∧ Tr 1 (x.2.getD (↑t.1 : Int).toNat 0 = x_1.2.2.2) ∧ True) ∧ true = true ∧ ((3 : TypeId) = 3 ∧
 (1 : Nat) = 1 ∧ t.2.1 = x_1.1 ∧ x_1.2.1.length ≤ t.2.2.length ∧ ∀ (i : Nat), i < x_1.2.1.length → [AV.int .i64 (t.2.2.getD i 0)] = [AV.int .i64 (x_1.2.1.getD i
 0)]) ∧ True) ∧ (Ints x_1.2.1 ∧ x_1.2.1.length ≤ x_1.1 ∧ x_1.1 ≤ 9223372036854775807 ∧ I64 x_1.2.2.1 ∧ I64 x_1.2.2.2 ∧ List.Pairwise (fun x1 x2 => x1 < x2)
 x_1.2.1) ∧ (x_1.2.2.2 < (0 : Int) ∨ x_1.2.2.1 ≤ x_1.2.2.2 ∨ x_1.2.2.2 ∈ x_1.2.1 → ∀ (y : Unit), True → I64 ((↑t.1 : Int) + 1) ∧ Exx (Nat × Nat × List Int) fun
 t' => (I t' ∧ m t' < m t) ∧ (Tr 1 ((↑x.1 : Int) = (↑x.1 : Int)) ∧ ((1 : Nat) = 1 ∧ x.2.length = x.2.length ∧ ∀ (i : Nat), i < x.2.length → [AV.int .i64
 (x.2.getD i 0)] = [AV.int .i64 (x.2.getD i 0)]) ∧ Tr 3 ((true = true ∧ NilNil ∧ (0 : Nat) = 0 ∧ (1 : Nat) = 1 ∧ (0 : Nat) = 0 ∧ x_1.2.1.length = t'.snd.2.length
 ∧ x_1.1 = t'.snd.1) ∧ Tr 1 ((↑t.1 : Int) + 1 = (↑t'.fst : Int)) ∧ Tr 14 True)) ∧ true = true ∧ ((3 : TypeId) = 3 ∧ (1 : Nat) = 1 ∧ x_1.1 = t'.snd.1 ∧
 t'.snd.2.length ≤ x_1.2.1.length ∧ ∀ (i : Nat), i < t'.snd.2.length → [AV.int .i64 (x_1.2.1.getD i 0)] = [AV.int .i64 (t'.snd.2.getD i 0)]) ∧ True) ∧
 (¬refAddI.p x_1 → ∀ (y : Nat), x_1.2.1.length + 1 ≤ y ∧ y ≤ 9223372036854775807 → I64 ((↑t.1 : Int) + 1) ∧ Exx (Nat × Nat × List Int) fun t' => (I t' ∧ m t' < m
 t) ∧ (Tr 1 ((↑x.1 : Int) = (↑x.1 : Int)) ∧ ((1 : Nat) = 1 ∧ x.2.length = x.2.length ∧ ∀ (i : Nat), i < x.2.length → [AV.int .i64 (x.2.getD i 0)] = [AV.int .i64
 (x.2.getD i 0)]) ∧ Tr 3 ((true = true ∧ NilNil ∧ (0 : Nat) = 0 ∧ (1 : Nat) = 1 ∧ (0 : Nat) = 0 ∧ x_1.2.1.length + 1 = t'.snd.2.length ∧ y = t'.snd.1) ∧ Tr 1
 ((↑t.1 : Int) + 1 = (↑t'.fst : Int)) ∧ Tr 14 True)) ∧ true = true ∧ ((3 : TypeId) = 3 ∧ (1 : Nat) = 1 ∧ y = t'.snd.1 ∧ t'.snd.2.length ≤ x_1.2.1.length + 1 ∧ ∀
 (i : Nat), i < t'.snd.2.length → [AV.int .i64 ((insI x_1.2.1 x_1.2.2.2).getD i 0)] = [AV.int .i64 (t'.snd.2.getD i 0)]) ∧ True)) (Exx Nat fun y => (((true =
 true ∧ NilNil ∧ (0 : Nat) = 0 ∧ (1 : Nat) = 1 ∧ (0 : Nat) = 0 ∧ t.2.2.length = (listN (x.1, addL x.1 0 x.2)).length ∧ t.2.1 = y) ∧ True) ∧ true = true ∧ ((3 :
 TypeId) = 3 ∧ (1 : Nat) = 1 ∧ t.2.1 = y ∧ (listN (x.1, addL x.1 0 x.2)).length ≤ t.2.2.length ∧ ∀ (i : Nat), i < (listN (x.1, addL x.1 0 x.2)).length → [AV.int
 .i64 (t.2.2.getD i 0)] = [AV.int .i64 ((listN (x.1, addL x.1 0 x.2)).getD i 0)]) ∧ True) ∧ (listN (x.1, addL x.1 0 x.2)).length ≤ y ∧ y ≤ 9223372036854775807)) = (fnVC tb [(43, specIf refAddI)] Tryd.f29 refOfC (fun x => { loops := [(3, refOfLA x)] }) (fun _ => none)) := by kernel_rfl 

theorem refOf_ok : SpecOk Tryd.prog 29 (specOf refOfC) := by
  refine specOk mixed tb_ok (SPok.cons (specIf_ok refAddA_ok refAddB_ok) SPok.nil) Tryd.func29 (by decide) (rowJC_ok fun _ _ _ => rfl) (an := (fun x => { loops := [(3, refOfLA x)] })) (σ := (fun _ => none)) ?_
  rw [← refOfV]
  simp (maxSteps := 10000000) only [and_false, false_and, false_or, or_false, bOf_true, bOf_false, true_bOf, false_bOf, Exx, int_ite, merge_o, Tr_eq, true_and, and_true, exists_const, forall_const, implies_true, forall_eq, exists_eq, exists_eq', exists_eq_left, exists_eq_left', exists_eq_right, Prod.exists, Prod.forall, and_assoc, exists_and_left, BC_iff, Bool.not_eq_true', Bool.not_eq_false', decide_eq_true_eq, decide_eq_false_iff_not, I64, nat_cast_inj, Int.toNat_natCast, nats_iff, nats_iff', ints_iff, ints_iff', natss_iff, natss_iff', nilnil, litL_eq, str_inj, str_append, str_length, str_getD, str_take, lit1_iff, one_iff, two_iff, one_get, Nat.zero_add, Nat.sub_zero, Nat.reduceMul, Nat.reduceDiv, Nat.reduceAdd, Int.reduceToNat, Nat.not_lt_zero, if_false, if_true, Nat.le_refl, List.length_singleton, List.length_cons, List.length_nil, Bool.false_eq_true, not_true_eq_false, false_implies, not_false_eq_true, Prod.mk.injEq]
  rintro n l ⟨hn, hl, hlen⟩
  refine ⟨fun s => s.1 ≤ l.length ∧ s.2.2 = listN (n, addL n 0 (l.take s.1)) ∧ s.2.2.length ≤ s.2.1 ∧ s.2.1 ≤ 9223372036854775807, ⟨0, 0, [], ⟨by simp, ?_, Nat.le_refl _, by simp⟩, rfl, rfl, rfl, rfl, rfl⟩, fun s => l.length - s.1, ?_⟩
  · simp [addL, listN, bitsL]
  rintro i c q ⟨hi, hq, hc, hc2⟩
  simp only at hi hq hc hc2
  have hI : I64 (l.getD i 0) := getD_mem (p := I64) hl (by unfold I64; omega) i
  have hst := addL_snoc (n := n) (m := 0) (l := l) (i := i)
  refine ⟨fun hlt => ⟨by omega, by omega, c, q, rfl, rfl, rfl, Nat.le_refl _, fun _ _ => rfl, by rw [hq]; exact listN_Ints hn, hc, hc2, by omega, by omega, hI.1, hI.2, by rw [hq]; exact listN_sorted _, fun hp => ?_, fun hp y hy => ?_⟩, fun hge => ?_⟩
  · refine ⟨by omega, by omega, i + 1, c, q, ⟨by simp only; omega, ?_, hc, hc2⟩, by simp only; omega, rfl, rfl, by omega, rfl, Nat.le_refl _, fun _ _ => rfl⟩
    simp only
    rw [hst (by omega), ref_add_out (by rwa [hq] at hp), hq]
  · have hp' : ¬ (l.getD i 0 < 0 ∨ (n : Int) ≤ l.getD i 0 ∨ l.getD i 0 ∈ listN (n, addL n 0 (l.take i))) := by rw [← hq]; exact hp
    have e : insI q (l.getD i 0) = listN (n, addL n 0 (l.take (i + 1))) := by
      rw [hst (by omega), hq, ref_add_in (by omega) (by omega) (fun h => hp' (.inr (.inr h)))]
    have e2 := insI_length q (l.getD i 0)
    exact ⟨by omega, by omega, i + 1, y, insI q (l.getD i 0), ⟨by simp only; omega, e, by simp only; omega, hy.2⟩, by simp only; omega, e2.symm, rfl, by omega, rfl, by omega, fun _ _ => rfl⟩
  · rw [show i = l.length by omega, List.take_length] at hq
    subst hq
    exact ⟨rfl, Nat.le_refl _, fun _ _ => rfl, hc, hc2⟩

end Yard
