import Derived.Test.YtobpnkcgolkbiaaDoorPagesMath
/- A number's place in a list. -/
namespace Yard
open Go Go.Sx Go.Proofs
set_option linter.unusedVariables false
set_option linter.unusedSimpArgs false
set_option maxRecDepth 4000

def IntL (l : List Int) : Prop := (∀ x ∈ l, I64 x) ∧ l.length ≤ 9223372036854775807
abbrev intA' (l : List Int) : AV := .ro 1 l.length (fun i => [i64 (l.getD i 0)])
def refHasC : Ctr := pureC (List Int × Int) (fun x => IntL x.1 ∧ I64 x.2) (fun x => [intA' x.1, i64 x.2]) (fun x => .bool (decide (x.2 ∈ x.1)))
def refHasLA (x : List Int × Int) : LA := { T := Nat, F := fun i => frm 18 [(0, intA' x.1), (1, i64 x.2), (5, i64 (i : Nat))], H := fun _ => [.fence] }

-- callees: 
theorem refHasV : (∀ (x : List Int × Int), IntL x.fst ∧ I64 x.snd → Exx (Nat → Prop) fun I => Exx (Nat → Nat) fun m => (Exx Nat fun t => I t ∧ (((1 : Nat) = (1
 : Nat) ∧ x.fst.length = x.fst.length ∧ ∀ (i : Nat), i < x.fst.length → [AV.int IntKind.i64 (x.fst.getD i 0)] = [AV.int IntKind.i64 (x.fst.getD i 0)]) ∧ Tr 1
 (x.snd = x.snd) ∧ Tr 3 (Tr 1 ((0 : Int) = (↑t : Int)) ∧ Tr 12 True)) ∧ true = true ∧ True) ∧ ∀ (t : Nat), I t → BC (decide ((↑t : Int) < (↑x.fst.length : Int)))
 (((0 : Int) ≤ (↑t : Int) ∧ (↑t : Int) < (↑x.fst.length : Int)) ∧ BC (decide (x.fst.getD (↑t : Int).toNat 0 = x.snd)) (Exx Unit fun y => ((true = decide (x.snd ∈
 x.fst) ∧ True) ∧ true = true ∧ True) ∧ True) (I64 ((↑t : Int) + 1) ∧ Exx Nat fun t' => (I t' ∧ m t' < m t) ∧ (((1 : Nat) = (1 : Nat) ∧ x.fst.length =
 x.fst.length ∧ ∀ (i : Nat), i < x.fst.length → [AV.int IntKind.i64 (x.fst.getD i 0)] = [AV.int IntKind.i64 (x.fst.getD i 0)]) ∧ Tr 1 (x.snd = x.snd) ∧ Tr 3 (Tr
 1 ((↑t : Int) + 1 = (↑t' : Int)) ∧ Tr 12 True)) ∧ true = true ∧ True)) (Exx Unit fun y => ((false = decide (x.snd ∈ x.fst) ∧ True) ∧ true = true ∧ True) ∧ True)) = (fnVC tb [] Tryd.f21 refHasC (fun x => { loops := [(2, refHasLA x)] }) (fun _ => none)) := by kernel_rfl 

theorem refHas_ok : SpecOk Tryd.prog 21 (specOf refHasC) := by
  refine specOk mixed tb_ok SPok.nil Tryd.func21 (by decide) (pureC_ok fun _ => rfl) (an := (fun x => { loops := [(2, refHasLA x)] })) (σ := (fun _ => none)) ?_
  rw [← refHasV]
  simp (maxSteps := 10000000) only [and_false, false_and, false_or, or_false, bOf_true, bOf_false, true_bOf, false_bOf, Exx, int_ite, merge_o, Tr_eq, true_and, and_true, exists_const, forall_const, implies_true, forall_eq, exists_eq, exists_eq', exists_eq_left, exists_eq_left', exists_eq_right, Prod.exists, Prod.forall, and_assoc, exists_and_left, BC_iff, Bool.not_eq_true', Bool.not_eq_false', decide_eq_true_eq, decide_eq_false_iff_not, I64, nat_cast_inj, Int.toNat_natCast, nats_iff, nats_iff', ints_iff, ints_iff', natss_iff, natss_iff', nilnil, litL_eq, str_inj, str_append, str_length, str_getD, str_take, lit1_iff, one_iff, two_iff, one_get, Nat.zero_add, Nat.sub_zero, Nat.reduceMul, Nat.reduceDiv, Nat.reduceAdd, Int.reduceToNat, Nat.not_lt_zero, if_false, if_true, Nat.le_refl, List.length_singleton, List.length_cons, List.length_nil, Bool.false_eq_true, not_true_eq_false, false_implies, not_false_eq_true, Prod.mk.injEq]
  rintro l a ⟨⟨h1, h2⟩, h3⟩
  refine ⟨fun i => i ≤ l.length ∧ ∀ j, j < i → l.getD j 0 ≠ a, ⟨0, ⟨by omega, fun j hj => absurd hj (Nat.not_lt_zero _)⟩, rfl⟩, fun i => l.length - i, fun i hi => ⟨fun hlt => ⟨by omega, by omega, fun h => (decide_eq_true ?_).symm, fun h => ⟨by omega, by omega, i + 1, ⟨by omega, fun j hj => ?_⟩, by simp only; omega, by omega⟩⟩, fun hge => (decide_eq_false fun hm => ?_).symm⟩⟩
  · rw [← h, List.getD_eq_getElem?_getD, List.getElem?_eq_getElem (by omega)]; exact List.getElem_mem _
  · by_cases e : j = i
    · subst e; exact h
    · exact hi.2 j (by omega)
  · obtain ⟨j, hj, e⟩ := List.mem_iff_getElem.1 hm
    refine hi.2 j (by omega) ?_
    rw [List.getD_eq_getElem?_getD, List.getElem?_eq_getElem hj]; exact e

/-- A tree's pages, counted by two lists. -/
theorem pages_len {s : StoreT} {top : Int} (h : TreeOk s top) {Lv Fn : List Int} (hL : Lv.Nodup) (hF : Fn.Nodup)
    (mL : ∀ q, q ∈ Lv ↔ ∃ i j : Nat, i < 16 ∧ j < 16 ∧ q = 16 * (i : Int) + (j : Int) ∧ tF s.ws top i j ≠ 0) (mF : ∀ q, q ∈ Fn ↔ ∃ i : Nat, i < 16 ∧ q = (i : Int) ∧ fanF s.ws top i ≠ 0) :
    (pagesUp s.ws top 16).length = (one0 top).length + (Fn.length + Lv.length) := by
  have g := h.sh
  have hn : (one0 top ++ (Fn.map (fun q => fanF s.ws top q.toNat) ++ Lv.map (fun q => tF s.ws top (q.toNat / 16) (q.toNat % 16)))).Nodup := by
    rw [List.nodup_append, List.nodup_append]
    refine ⟨one0_nodup _, ⟨?_, ?_, fun a ha b hb e => ?_⟩, fun a ha b hb e => ?_⟩
    · rw [List.Nodup, List.pairwise_map]
      refine List.Pairwise.imp_of_mem (fun {a b} ha hb hne e => ?_) hF
      obtain ⟨i, hi, rfl, hz⟩ := (mF a).1 ha
      obtain ⟨k, hk, rfl, hz2⟩ := (mF b).1 hb
      simp only [Int.toNat_natCast] at e
      exact hne (by rw [g.d4 i k hi hk hz e])
    · rw [List.Nodup, List.pairwise_map]
      refine List.Pairwise.imp_of_mem (fun {a b} ha hb hne e => ?_) hL
      obtain ⟨i, j, hi, hj, rfl, hz⟩ := (mL a).1 ha
      obtain ⟨k, l, hk, hl, rfl, hz2⟩ := (mL b).1 hb
      have e1 : (16 * (i : Int) + (j : Int)).toNat / 16 = i := by omega
      have e2 : (16 * (i : Int) + (j : Int)).toNat % 16 = j := by omega
      have e3 : (16 * (k : Int) + (l : Int)).toNat / 16 = k := by omega
      have e4 : (16 * (k : Int) + (l : Int)).toNat % 16 = l := by omega
      rw [e1, e2, e3, e4] at e
      have := g.d5 i j k l hi hj hk hl hz e
      exact hne (by omega)
    · obtain ⟨q, hq, rfl⟩ := List.mem_map.1 ha
      obtain ⟨r, hr, rfl⟩ := List.mem_map.1 hb
      obtain ⟨i, hi, rfl, hz⟩ := (mF q).1 hq
      obtain ⟨k, l, hk, hl, rfl, hz2⟩ := (mL r).1 hr
      have e3 : (16 * (k : Int) + (l : Int)).toNat / 16 = k := by omega
      have e4 : (16 * (k : Int) + (l : Int)).toNat % 16 = l := by omega
      simp only [Int.toNat_natCast, e3, e4] at e
      exact g.d3 k l i hk hl hi hz2 e.symm
    · have h1 := one0_mem.1 ha
      rcases List.mem_append.1 hb with hb | hb
      · obtain ⟨q, hq, rfl⟩ := List.mem_map.1 hb
        obtain ⟨i, hi, rfl, hz⟩ := (mF q).1 hq
        simp only [Int.toNat_natCast] at e
        exact g.d1 i hi hz (by rw [← e, h1.1])
      · obtain ⟨r, hr, rfl⟩ := List.mem_map.1 hb
        obtain ⟨k, l, hk, hl, rfl, hz2⟩ := (mL r).1 hr
        have e3 : (16 * (k : Int) + (l : Int)).toNat / 16 = k := by omega
        have e4 : (16 * (k : Int) + (l : Int)).toNat % 16 = l := by omega
        simp only [e3, e4] at e
        exact g.d2 k l hk hl hz2 (by rw [← e, h1.1])
  have hm : ∀ a, a ∈ pagesUp s.ws top 16 ↔ a ∈ one0 top ++ (Fn.map (fun q => fanF s.ws top q.toNat) ++ Lv.map (fun q => tF s.ws top (q.toNat / 16) (q.toNat % 16))) := fun a => by
    rw [pages_mem, List.mem_append, List.mem_append, one0_mem, List.mem_map, List.mem_map]
    constructor
    · rintro (k | ⟨i, hi, k⟩ | ⟨i, j, hi, hj, k⟩)
      · exact .inl k
      · exact .inr (.inl ⟨(i : Int), (mF _).2 ⟨i, hi, rfl, k.2⟩, by rw [Int.toNat_natCast]; exact k.1.symm⟩)
      · have e3 : (16 * (i : Int) + (j : Int)).toNat / 16 = i := by omega
        have e4 : (16 * (i : Int) + (j : Int)).toNat % 16 = j := by omega
        exact .inr (.inr ⟨16 * (i : Int) + (j : Int), (mL _).2 ⟨i, j, hi, hj, rfl, k.2⟩, by rw [e3, e4]; exact k.1.symm⟩)
    · rintro (k | ⟨q, hq, k⟩ | ⟨q, hq, k⟩)
      · exact .inl k
      · obtain ⟨i, hi, rfl, hz⟩ := (mF q).1 hq
        rw [Int.toNat_natCast] at k
        exact .inr (.inl ⟨i, hi, k.symm, hz⟩)
      · obtain ⟨i, j, hi, hj, rfl, hz⟩ := (mL q).1 hq
        have e3 : (16 * (i : Int) + (j : Int)).toNat / 16 = i := by omega
        have e4 : (16 * (i : Int) + (j : Int)).toNat % 16 = j := by omega
        rw [e3, e4] at k
        exact .inr (.inr ⟨i, j, hi, hj, k.symm, hz⟩)
  have := ((List.perm_ext_iff_of_nodup (pages_nodup h) hn).2 hm).length_eq
  rw [this, List.length_append, List.length_append, List.length_map, List.length_map]

end Yard
