/- The references of charts. -/
import Derived.Test.YtlecpjgbmeejdaaDoorChartsL
import Derived.Test.YtlecpjgbmeejdaaDoorRefSet
namespace Yard
open Go Go.Sx Go.Proofs
set_option linter.unusedVariables false
set_option linter.unusedSimpArgs false
set_option maxRecDepth 4000

def refChartsC : Ctr where
  X := Nat × List Int
  Y := Nat
  conv := true
  tau := fun _ _ => []
  pre := fun x => x.1 ≤ 3072 ∧ IntL x.2
  args := fun x => [i64 (x.1 : Nat), intA x.2]
  heap := fun _ => []
  Q := fun x cap => chN x.1 ≤ cap
  res := fun x cap => .sl 1 [] 0 49 0 (chN x.1) cap
  its := fun _ _ => []
  new := fun x cap => [.row 82 49 cap (chN x.1) (fun j => chartV (j : Nat) (madeF j x.2))]
theorem refChartsC_ok : CtrOk refChartsC :=
  ⟨fun _ _ _ _ => rfl, fun _ _ _ _ => ⟨rfl, rfl⟩, fun x _ _ _ _ => ⟨⟨trivial, ⟨⟨fun _ _ => ⟨rfl, ⟨fun _ _ => ⟨rfl, trivial⟩, trivial⟩⟩, trivial⟩, trivial⟩⟩, rfl⟩⟩
def refChartsLA (x : Nat × List Int) : LA := { T := Nat × Nat, F := fun s => frm 20 [(0, i64 (x.1 : Nat)), (1, intA x.2), (5, .sl 1 [] 0 49 0 s.1 s.2), (6, i64 (s.1 : Nat))], H := fun s => [.fence, .row 82 49 s.2 s.1 (fun j => chartV (j : Nat) (madeF j x.2))] }

-- callees: 70=made_ok
theorem refChartsV : (∀ (x : Nat × List Int),
  x.fst ≤ 3072 ∧ IntL x.snd →
    Exx (Nat × Nat → Prop) fun I =>
      Exx (Nat × Nat → Nat) fun m =>
        (Exx (Nat × Nat) fun t =>
            I t ∧
              (Tr 1 ((↑x.fst : Int) = (↑x.fst : Int)) ∧
                  ((1 : Nat) = (1 : Nat) ∧
                      x.snd.length = x.snd.length ∧ ∀ (i : Nat), i < x.snd.length → [AV.int IntKind.i64 (x.snd.getD i 0)] = [AV.int IntKind.i64 (x.snd.getD i 0)]) ∧
                    Tr 3 ((t.fst = 0 ∧ t.snd = 0) ∧ Tr 1 ((0 : Int) = (↑t.fst : Int)) ∧ Tr 13 True)) ∧
                true = true ∧ (t.snd = 0 ∧ t.fst = 0) ∧ True) ∧
          ∀ (t : Nat × Nat),
            I t →
              I64 (384 * (↑t.fst : Int)) ∧
                BC (decide (384 * (↑t.fst : Int) < (↑x.fst : Int)))
                  (Exx (Nat × List Int) fun x_1 =>
                    ((Tr 1 ((↑t.fst : Int) = (↑x_1.fst : Int)) ∧
                          (x.snd.length = x_1.snd.length ∧ ∀ (i : Nat), i < x_1.snd.length → [AV.int IntKind.i64 (x.snd.getD i 0)] = [AV.int IntKind.i64 (x_1.snd.getD i 0)]) ∧
                            True) ∧
                        true = true ∧ True) ∧
                      (x_1.fst ≤ 1000 ∧ IntL x_1.snd) ∧
                        ∀ (y : Unit),
                          True →
                            (0 : Nat) + (1 : Nat) ≤ (1 : Nat) ∧
                              true = true ∧
                                (t.fst ≤ t.fst ∧ t.snd = t.snd) ∧
                                  (t.fst + 1 ≤ 9223372036854775807 ∧ (t.fst + 1) * 56 ≤ 140737488355328) ∧
                                    ∀ (cap : Nat),
                                      t.fst + 1 ≤ cap ∧ cap ≤ 9223372036854775807 →
                                        I64 ((↑t.fst : Int) + 1) ∧
                                          Exx (Nat × Nat) fun t' =>
                                            (I t' ∧ m t' < m t) ∧
                                              (Tr 1 ((↑x.fst : Int) = (↑x.fst : Int)) ∧
                                                  ((1 : Nat) = (1 : Nat) ∧
                                                      x.snd.length = x.snd.length ∧
                                                        ∀ (i : Nat), i < x.snd.length → [AV.int IntKind.i64 (x.snd.getD i 0)] = [AV.int IntKind.i64 (x.snd.getD i 0)]) ∧
                                                    Tr 3
                                                      ((true = true ∧
                                                          NilNil ∧ (0 : Nat) = (0 : Nat) ∧ (49 : Nat) = (49 : Nat) ∧ (0 : Nat) = (0 : Nat) ∧ t.fst + 1 = t'.fst ∧ cap = t'.snd) ∧
                                                        Tr 1 ((↑t.fst : Int) + 1 = (↑t'.fst : Int)) ∧ Tr 13 True)) ∧
                                                true = true ∧
                                                  ((82 : TypeId) = (82 : TypeId) ∧
                                                      (49 : Nat) = (49 : Nat) ∧
                                                        cap = t'.snd ∧
                                                          t'.fst ≤ t.fst + 1 ∧
                                                            ∀ (i : Nat),
                                                              i < t'.fst →
                                                                (if i < t.fst then
                                                                    [AV.int IntKind.i64 (↑i : Int), AV.arr 1 48 fun j => [AV.int IntKind.u8 (↑(madeF i x.snd j) : Int)]]
                                                                  else
                                                                    mergeO (0 + (i - t.fst)) (0 * 49 / 49)
                                                                      [AV.int IntKind.i64 (↑x_1.fst : Int),
                                                                        AV.arr 1 48 fun j => [AV.int IntKind.u8 (↑(madeF x_1.fst x_1.snd j) : Int)]]
                                                                      [AV.int IntKind.i64 0, AV.arr 1 48 fun x => [AV.int IntKind.u8 0]]
                                                                      (mergeS (0 + (i - t.fst)) (0 * 49 / 49)
                                                                        [AV.int IntKind.i64 (↑x_1.fst : Int),
                                                                          AV.arr 1 48 fun j => [AV.int IntKind.u8 (↑(madeF x_1.fst x_1.snd j) : Int)]]
                                                                        [AV.int IntKind.i64 0, AV.arr 1 48 fun x => [AV.int IntKind.u8 0]])) =
                                                                  [AV.int IntKind.i64 (↑i : Int), AV.arr 1 48 fun j => [AV.int IntKind.u8 (↑(madeF i x.snd j) : Int)]]) ∧
                                                    True)
                  (Exx Nat fun y =>
                    (((true = true ∧ NilNil ∧ (0 : Nat) = (0 : Nat) ∧ (49 : Nat) = (49 : Nat) ∧ (0 : Nat) = (0 : Nat) ∧ t.fst = chN x.fst ∧ t.snd = y) ∧ True) ∧
                        true = true ∧
                          ((82 : TypeId) = (82 : TypeId) ∧
                              (49 : Nat) = (49 : Nat) ∧
                                t.snd = y ∧
                                  chN x.fst ≤ t.fst ∧
                                    ∀ (i : Nat),
                                      i < chN x.fst →
                                        [AV.int IntKind.i64 (↑i : Int), AV.arr 1 48 fun j => [AV.int IntKind.u8 (↑(madeF i x.snd j) : Int)]] =
                                          [AV.int IntKind.i64 (↑i : Int), AV.arr 1 48 fun j => [AV.int IntKind.u8 (↑(madeF i x.snd j) : Int)]]) ∧
                            True) ∧
                      chN x.fst ≤ y)) =
    (fnVC tb [(70, specOf madeC)] Tryd.f45 refChartsC (fun x => { loops := [(3, refChartsLA x)] }) (fun _ => none)) := by kernel_rfl

theorem refCharts_ok : SpecOk Tryd.prog 45 (specOf refChartsC) := by
  refine specOk mixed tb_ok (SPok.cons made_ok SPok.nil) Tryd.func45 (by decide) refChartsC_ok (an := (fun x => { loops := [(3, refChartsLA x)] })) (σ := (fun _ => none)) ?_
  rw [← refChartsV]
  simp (maxSteps := 10000000) only [and_false, false_and, false_or, or_false, bOf_true, bOf_false, true_bOf, false_bOf, Exx, int_ite, merge_o, Tr_eq, true_and, and_true, exists_const, forall_const, implies_true, forall_eq, exists_eq, exists_eq', exists_eq_left, exists_eq_left', exists_eq_right, Prod.exists, Prod.forall, and_assoc, exists_and_left, BC_iff, Bool.not_eq_true', Bool.not_eq_false', decide_eq_true_eq, decide_eq_false_iff_not, I64, nat_cast_inj, Int.toNat_natCast, nats_iff, nats_iff', ints_iff, ints_iff', natss_iff, natss_iff', nilnil, litL_eq, str_inj, str_append, str_length, str_getD, str_take, lit1_iff, one_iff, two_iff, one_get, Nat.zero_add, Nat.sub_zero, Nat.reduceMul, Nat.reduceDiv, Nat.reduceAdd, Int.reduceToNat, Nat.not_lt_zero, if_false, if_true, Nat.le_refl, List.length_singleton, List.length_cons, List.length_nil, Bool.false_eq_true, not_true_eq_false, false_implies, not_false_eq_true, Prod.mk.injEq]
  rintro n l ⟨hn, hl⟩
  have hch : chN n ≤ 8 := by unfold chN; omega
  refine ⟨fun s => s.1 ≤ chN n ∧ s.1 ≤ s.2, ⟨0, 0, ⟨by simp, Nat.le_refl _⟩, rfl, rfl, rfl, rfl, rfl⟩, fun s => chN n - s.1, ?_⟩
  rintro i cap ⟨hi, hc⟩
  simp only at hi hc
  have hlt : (384 * (i : Int) < (n : Int)) ↔ i < chN n := by unfold chN; omega
  refine ⟨by omega, by omega, fun h => ?_, fun h => ?_⟩
  · have h' := hlt.1 h
    refine ⟨by omega, hl, by omega, by omega, fun c2 hc2 => ⟨by omega, by omega, i + 1, c2, ⟨by simp only; omega, hc2.1⟩, by simp only; omega, rfl, rfl, by omega, rfl, Nat.le_refl _, fun j hj => ?_⟩⟩
    by_cases e : j < i
    · rw [if_pos e]
    · have : j = i := by omega
      subst this
      rw [if_neg e, Nat.sub_self, if_pos rfl]
  · have : i = chN n := by have := mt hlt.2 h; omega
    subst this
    exact ⟨rfl, Nat.le_refl _, hc⟩

def sameChs (x y : Chs) : Prop := x.1 = y.1 ∧ ∀ i, i < x.1 → x.2.1 i = y.2.1 i ∧ ∀ j, j < 48 → x.2.2 i j = y.2.2 i j
noncomputable def refSameC : Ctr := pureC (Chs × Chs) (fun x => x.1.1 ≤ 9223372036854775807 ∧ x.2.1 ≤ 9223372036854775807) (fun x => [chsA x.1, chsA x.2]) (fun x => .bool (bOf (sameChs x.1 x.2)))
def refSameLA (x : Chs × Chs) : LA := { T := Nat, F := fun i => frm 26 [(0, chsA x.1), (1, chsA x.2), (5, i64 (i : Nat))], H := fun _ => [.fence] }

-- callees: 
theorem refSameV : (∀ (x : Chs × Chs),
  x.fst.fst ≤ 9223372036854775807 ∧ x.snd.fst ≤ 9223372036854775807 →
    BC (!decide ((↑x.fst.fst : Int) = (↑x.snd.fst : Int))) (Exx Unit fun y => ((false = bOf (sameChs x.fst x.snd) ∧ True) ∧ true = true ∧ True) ∧ True)
      (Exx (Nat → Prop) fun I =>
        Exx (Nat → Nat) fun m =>
          (Exx Nat fun t =>
              I t ∧
                (((49 : Nat) = (49 : Nat) ∧
                      x.fst.fst = x.fst.fst ∧
                        ∀ (i : Nat),
                          i < x.fst.fst →
                            [AV.int IntKind.i64 (x.fst.snd.fst i), AV.arr 1 48 fun j => [AV.int IntKind.u8 (↑(x.fst.snd.snd i j) : Int)]] =
                              [AV.int IntKind.i64 (x.fst.snd.fst i), AV.arr 1 48 fun j => [AV.int IntKind.u8 (↑(x.fst.snd.snd i j) : Int)]]) ∧
                    ((49 : Nat) = (49 : Nat) ∧
                        x.snd.fst = x.snd.fst ∧
                          ∀ (i : Nat),
                            i < x.snd.fst →
                              [AV.int IntKind.i64 (x.snd.snd.fst i), AV.arr 1 48 fun j => [AV.int IntKind.u8 (↑(x.snd.snd.snd i j) : Int)]] =
                                [AV.int IntKind.i64 (x.snd.snd.fst i), AV.arr 1 48 fun j => [AV.int IntKind.u8 (↑(x.snd.snd.snd i j) : Int)]]) ∧
                      Tr 3 (Tr 1 ((0 : Int) = (↑t : Int)) ∧ Tr 20 True)) ∧
                  true = true ∧ True) ∧
            ∀ (t : Nat),
              I t →
                BC (decide ((↑t : Int) < (↑x.fst.fst : Int)))
                  (((0 : Int) ≤ (↑t : Int) ∧ (↑t : Int) < (↑x.fst.fst : Int)) ∧
                    ((0 : Int) ≤ (↑t : Int) ∧ (↑t : Int) < (↑x.snd.fst : Int)) ∧
                      Tr 1 ((∀ (i : Nat), i < 48 → True) ∧ True) ∧
                        Tr 1 ((∀ (i : Nat), i < 48 → True) ∧ True) ∧
                          ∀ (b : Bool),
                            (b = true ↔
                                x.fst.snd.fst (↑t : Int).toNat = x.snd.snd.fst (↑t : Int).toNat ∧
                                  (∀ (i : Nat), i < 48 → (↑(x.fst.snd.snd (↑t : Int).toNat i) : Int) = (↑(x.snd.snd.snd (↑t : Int).toNat i) : Int)) ∧ True) →
                              BC (!b) (Exx Unit fun y => ((false = bOf (sameChs x.fst x.snd) ∧ True) ∧ true = true ∧ True) ∧ True)
                                (I64 ((↑t : Int) + 1) ∧
                                  Exx Nat fun t' =>
                                    (I t' ∧ m t' < m t) ∧
                                      (((49 : Nat) = (49 : Nat) ∧
                                            x.fst.fst = x.fst.fst ∧
                                              ∀ (i : Nat),
                                                i < x.fst.fst →
                                                  [AV.int IntKind.i64 (x.fst.snd.fst i), AV.arr 1 48 fun j => [AV.int IntKind.u8 (↑(x.fst.snd.snd i j) : Int)]] =
                                                    [AV.int IntKind.i64 (x.fst.snd.fst i), AV.arr 1 48 fun j => [AV.int IntKind.u8 (↑(x.fst.snd.snd i j) : Int)]]) ∧
                                          ((49 : Nat) = (49 : Nat) ∧
                                              x.snd.fst = x.snd.fst ∧
                                                ∀ (i : Nat),
                                                  i < x.snd.fst →
                                                    [AV.int IntKind.i64 (x.snd.snd.fst i), AV.arr 1 48 fun j => [AV.int IntKind.u8 (↑(x.snd.snd.snd i j) : Int)]] =
                                                      [AV.int IntKind.i64 (x.snd.snd.fst i), AV.arr 1 48 fun j => [AV.int IntKind.u8 (↑(x.snd.snd.snd i j) : Int)]]) ∧
                                            Tr 3 (Tr 1 ((↑t : Int) + 1 = (↑t' : Int)) ∧ Tr 20 True)) ∧
                                        true = true ∧ True))
                  (Exx Unit fun y => ((true = bOf (sameChs x.fst x.snd) ∧ True) ∧ true = true ∧ True) ∧ True))) =
    (fnVC tb [] Tryd.f44 refSameC (fun x => { loops := [(4, refSameLA x)], loose := [(6, [])] }) (fun _ => none)) := by kernel_rfl

theorem refSame_ok : SpecOk Tryd.prog 44 (specOf refSameC) := by
  refine specOk mixed tb_ok SPok.nil Tryd.func44 (by decide) (pureC_ok fun _ => rfl) (an := (fun x => { loops := [(4, refSameLA x)], loose := [(6, [])] })) (σ := (fun _ => none)) ?_
  rw [← refSameV]
  simp (maxSteps := 10000000) only [and_false, false_and, false_or, or_false, bOf_true, bOf_false, true_bOf, false_bOf, Exx, int_ite, merge_o, Tr_eq, true_and, and_true, exists_const, forall_const, implies_true, forall_eq, exists_eq, exists_eq', exists_eq_left, exists_eq_left', exists_eq_right, Prod.exists, Prod.forall, and_assoc, exists_and_left, BC_iff, Bool.not_eq_true', Bool.not_eq_false', decide_eq_true_eq, decide_eq_false_iff_not, I64, nat_cast_inj, Int.toNat_natCast, nats_iff, nats_iff', ints_iff, ints_iff', natss_iff, natss_iff', nilnil, litL_eq, str_inj, str_append, str_length, str_getD, str_take, lit1_iff, one_iff, two_iff, one_get, Nat.zero_add, Nat.sub_zero, Nat.reduceMul, Nat.reduceDiv, Nat.reduceAdd, Int.reduceToNat, Nat.not_lt_zero, if_false, if_true, Nat.le_refl, List.length_singleton, List.length_cons, List.length_nil, Bool.false_eq_true, not_true_eq_false, false_implies, not_false_eq_true, Prod.mk.injEq]
  rintro n p f m q g ⟨hn, hm⟩
  refine ⟨fun h k => h k.1, fun h => ⟨fun t => t ≤ n ∧ ∀ i, i < t → p i = q i ∧ ∀ j, j < 48 → f i j = g i j, ⟨0, ⟨by omega, fun i hi => absurd hi (Nat.not_lt_zero _)⟩, rfl⟩, fun t => n - t, fun t ht => ⟨fun hlt => ⟨by omega, by omega, by omega, by omega, fun b hb => ⟨fun e k => ?_, fun e => ⟨by omega, by omega, t + 1, ⟨by omega, fun i hi => ?_⟩, by simp only; omega, by omega⟩⟩⟩, fun hge => ⟨h, fun i hi => ht.2 i (by simp only at hi; omega)⟩⟩⟩⟩
  · have := hb.2 (k.2 t (by simp only; omega))
    rw [e] at this; cases this
  · by_cases e' : i = t
    · subst e'; exact hb.1 e
    · exact ht.2 i (by omega)

theorem chsL_int {x : Chs} {k : Nat} (h : ∀ i, i < k → I64 (x.2.1 i)) : ∀ a ∈ chsL x k, I64 a := fun a ha => by
  obtain ⟨i, hi, hm⟩ := List.mem_flatMap.1 ha
  exact (chartL_ints (h i (List.mem_range.1 hi))).1 a hm
def refFromL (x : Int × Chs) : List Int := if 0 ≤ x.1 ∧ x.1 ≤ 3072 then chsL x.2 (min x.2.1 8) else []
def refFromP (x : Int × Chs) : Prop := 0 ≤ x.1 ∧ x.1 ≤ 3072 ∧ sameChs (chN x.1.toNat, fun i => (i : Int), fun i => madeF i (refFromL x)) x.2 ∧ ∀ a ∈ refFromL x, a < x.1
noncomputable def refFromC : Ctr where
  X := Int × Chs
  Y := Nat
  conv := true
  tau := fun _ _ => []
  pre := fun x => I64 x.1 ∧ ChsW x.2
  args := fun x => [i64 x.1, chsA x.2]
  heap := fun _ => []
  Q := fun x cap => (refFromL x).length ≤ cap
  res := fun x cap => .tup [.sl 1 [] 0 1 0 (refFromL x).length cap, .bool (bOf (refFromP x))]
  its := fun _ _ => []
  new := fun x cap => [rowI 3 .i64 cap (refFromL x)]
theorem refFromC_ok : CtrOk refFromC :=
  ⟨fun _ _ _ _ => rfl, fun _ _ _ _ => ⟨rfl, rfl⟩, fun x _ _ _ _ => ⟨⟨trivial, ⟨⟨fun _ _ => ⟨rfl, trivial⟩, trivial⟩, trivial⟩⟩, rfl, rfl, trivial⟩⟩
def refFromLA (x : Int × Chs) : LA := { T := Nat × Nat × List Int, F := fun s => frm 42 [(0, i64 x.1), (1, chsA x.2), (6, .sl 1 [] 0 1 0 s.2.2.length s.2.1), (7, i64 (s.1 : Nat))], H := fun s => [.fence, rowI 3 .i64 s.2.1 s.2.2], ρ₂ := rowRen 6 }
def tupSl (av : AV) : Option Ren := match av with
  | .tup (.sl q _ _ _ _ _ _ :: _) => some [some 0, some q]
  | _ => some [some 0, none]

-- callees: 44=refSame_ok 45=refCharts_ok 65=refList_ok 66=refBelow_ok
theorem refFromV : (∀ (x : Int × Chs),
  I64 x.fst ∧ ChsW x.snd →
    BC (decide (x.fst < (0 : Int)))
      (Exx Nat fun y =>
        (((((refFromL x).length = 0 ∧ y = 0) ∧ false = bOf (refFromP x) ∧ True) ∧ True) ∧ true = true ∧ (y = 0 ∧ (refFromL x).length = 0) ∧ True) ∧ (refFromL x).length ≤ y)
      (BC (decide ((3072 : Int) < x.fst))
        (Exx Nat fun y =>
          (((((refFromL x).length = 0 ∧ y = 0) ∧ false = bOf (refFromP x) ∧ True) ∧ True) ∧ true = true ∧ (y = 0 ∧ (refFromL x).length = 0) ∧ True) ∧ (refFromL x).length ≤ y)
        (Exx (Nat × Nat × List Int → Prop) fun I =>
          Exx (Nat × Nat × List Int → Nat) fun m =>
            (Exx (Nat × Nat × List Int) fun t =>
                I t ∧
                  (Tr 1 (x.fst = x.fst) ∧
                      ((49 : Nat) = (49 : Nat) ∧
                          x.snd.fst = x.snd.fst ∧
                            ∀ (i : Nat),
                              i < x.snd.fst →
                                [AV.int IntKind.i64 (x.snd.snd.fst i), AV.arr 1 48 fun j => [AV.int IntKind.u8 (↑(x.snd.snd.snd i j) : Int)]] =
                                  [AV.int IntKind.i64 (x.snd.snd.fst i), AV.arr 1 48 fun j => [AV.int IntKind.u8 (↑(x.snd.snd.snd i j) : Int)]]) ∧
                        Tr 4 ((t.snd.snd.length = 0 ∧ t.snd.fst = 0) ∧ Tr 1 ((0 : Int) = (↑t.fst : Int)) ∧ Tr 34 True)) ∧
                    true = true ∧ (t.snd.fst = 0 ∧ t.snd.snd.length = 0) ∧ True) ∧
              ∀ (t : Nat × Nat × List Int),
                I t →
                  BC (decide ((↑t.fst : Int) < (↑x.snd.fst : Int)))
                    (BC (decide ((↑t.fst : Int) < (8 : Int)))
                      (((0 : Int) ≤ (↑t.fst : Int) ∧ (↑t.fst : Int) < (↑x.snd.fst : Int)) ∧
                        Exx (Int × (Nat → Nat)) fun x_1 =>
                          (((Tr 1 (x.snd.snd.fst (↑t.fst : Int).toNat = x_1.fst) ∧
                                  (1 : Nat) = (1 : Nat) ∧
                                    (48 : Nat) = (48 : Nat) ∧
                                      (∀ (i : Nat), i < 48 → [AV.int IntKind.u8 (↑(x.snd.snd.snd (↑t.fst : Int).toNat i) : Int)] = [AV.int IntKind.u8 (↑(x_1.snd i) : Int)]) ∧
                                        True) ∧
                                True) ∧
                              true = true ∧ True) ∧
                            ChartW x_1 ∧
                              ∀ (y : Nat),
                                (chartL x_1.fst x_1.snd).length ≤ y →
                                  0 + (chartL x_1.fst x_1.snd).length ≤ (chartL x_1.fst x_1.snd).length ∧
                                    true = true ∧
                                      (t.snd.snd.length ≤ t.snd.snd.length ∧ t.snd.fst = t.snd.fst) ∧
                                        (t.snd.snd.length + (chartL x_1.fst x_1.snd).length ≤ 9223372036854775807 ∧
                                            (t.snd.snd.length + (chartL x_1.fst x_1.snd).length) * 8 ≤ 140737488355328) ∧
                                          ∀ (cap : Nat),
                                            t.snd.snd.length + (chartL x_1.fst x_1.snd).length ≤ cap ∧ cap ≤ 9223372036854775807 →
                                              I64 ((↑t.fst : Int) + 1) ∧
                                                Exx (Nat × Nat × List Int) fun t' =>
                                                  (I t' ∧ m t' < m t) ∧
                                                    (Tr 1 (x.fst = x.fst) ∧
                                                        ((49 : Nat) = (49 : Nat) ∧
                                                            x.snd.fst = x.snd.fst ∧
                                                              ∀ (i : Nat),
                                                                i < x.snd.fst →
                                                                  [AV.int IntKind.i64 (x.snd.snd.fst i), AV.arr 1 48 fun j => [AV.int IntKind.u8 (↑(x.snd.snd.snd i j) : Int)]] =
                                                                    [AV.int IntKind.i64 (x.snd.snd.fst i), AV.arr 1 48 fun j => [AV.int IntKind.u8 (↑(x.snd.snd.snd i j) : Int)]]) ∧
                                                          Tr 4
                                                            ((true = true ∧
                                                                NilNil ∧
                                                                  (0 : Nat) = (0 : Nat) ∧
                                                                    (1 : Nat) = (1 : Nat) ∧
                                                                      (0 : Nat) = (0 : Nat) ∧
                                                                        t.snd.snd.length + (chartL x_1.fst x_1.snd).length = t'.snd.snd.length ∧ cap = t'.snd.fst) ∧
                                                              Tr 1 ((↑t.fst : Int) + 1 = (↑t'.fst : Int)) ∧ Tr 34 True)) ∧
                                                      true = true ∧
                                                        ((3 : TypeId) = (3 : TypeId) ∧
                                                            (1 : Nat) = (1 : Nat) ∧
                                                              cap = t'.snd.fst ∧
                                                                t'.snd.snd.length ≤ t.snd.snd.length + (chartL x_1.fst x_1.snd).length ∧
                                                                  ∀ (i : Nat),
                                                                    i < t'.snd.snd.length →
                                                                      (if i < t.snd.snd.length then [AV.int IntKind.i64 (t.snd.snd.getD i 0)]
                                                                        else [AV.int IntKind.i64 ((chartL x_1.fst x_1.snd).getD (0 + (i - t.snd.snd.length)) 0)]) =
                                                                        [AV.int IntKind.i64 (t'.snd.snd.getD i 0)]) ∧
                                                          True)
                      (Exx (Nat × List Int) fun x_1 =>
                        ((Tr 1 (x.fst = (↑x_1.fst : Int)) ∧
                              (0 + t.snd.snd.length ≤ t.snd.snd.length ∧
                                  t.snd.snd.length = x_1.snd.length ∧
                                    ∀ (i : Nat), i < x_1.snd.length → [AV.int IntKind.i64 (t.snd.snd.getD (0 + i) 0)] = [AV.int IntKind.i64 (x_1.snd.getD i 0)]) ∧
                                True) ∧
                            true = true ∧ True) ∧
                          (x_1.fst ≤ 3072 ∧ IntL x_1.snd) ∧
                            ∀ (y : Nat),
                              chN x_1.fst ≤ y →
                                Exx (Chs × Chs) fun x_2 =>
                                  (((0 + chN x_1.fst ≤ chN x_1.fst ∧
                                          chN x_1.fst = x_2.fst.fst ∧
                                            ∀ (i : Nat),
                                              i < x_2.fst.fst →
                                                [AV.int IntKind.i64 (↑(0 + i) : Int), AV.arr 1 48 fun j => [AV.int IntKind.u8 (↑(madeF (0 + i) x_1.snd j) : Int)]] =
                                                  [AV.int IntKind.i64 (x_2.fst.snd.fst i), AV.arr 1 48 fun j => [AV.int IntKind.u8 (↑(x_2.fst.snd.snd i j) : Int)]]) ∧
                                        (x.snd.fst = x_2.snd.fst ∧
                                            ∀ (i : Nat),
                                              i < x_2.snd.fst →
                                                [AV.int IntKind.i64 (x.snd.snd.fst i), AV.arr 1 48 fun j => [AV.int IntKind.u8 (↑(x.snd.snd.snd i j) : Int)]] =
                                                  [AV.int IntKind.i64 (x_2.snd.snd.fst i), AV.arr 1 48 fun j => [AV.int IntKind.u8 (↑(x_2.snd.snd.snd i j) : Int)]]) ∧
                                          True) ∧
                                      true = true ∧ True) ∧
                                    (x_2.fst.fst ≤ 9223372036854775807 ∧ x_2.snd.fst ≤ 9223372036854775807) ∧
                                      ∀ (y : Unit),
                                        True →
                                          BC (bOf (sameChs x_2.fst x_2.snd))
                                            (Exx (List Int × Int) fun x_3 =>
                                              (((0 + t.snd.snd.length ≤ t.snd.snd.length ∧
                                                      t.snd.snd.length = x_3.fst.length ∧
                                                        ∀ (i : Nat),
                                                          i < x_3.fst.length → [AV.int IntKind.i64 (t.snd.snd.getD (0 + i) 0)] = [AV.int IntKind.i64 (x_3.fst.getD i 0)]) ∧
                                                    Tr 1 (x.fst = x_3.snd) ∧ True) ∧
                                                  true = true ∧ True) ∧
                                                (IntL x_3.fst ∧ I64 x_3.snd) ∧
                                                  ∀ (y : Unit),
                                                    True →
                                                      Exx Nat fun y =>
                                                        ((((true = true ∧
                                                                  NilNil ∧
                                                                    (0 : Nat) = (0 : Nat) ∧
                                                                      (1 : Nat) = (1 : Nat) ∧ (0 : Nat) = (0 : Nat) ∧ t.snd.snd.length = (refFromL x).length ∧ t.snd.fst = y) ∧
                                                                (x_3.fst.all fun a => decide (a < x_3.snd)) = bOf (refFromP x) ∧ True) ∧
                                                              True) ∧
                                                            true = true ∧
                                                              ((3 : TypeId) = (3 : TypeId) ∧
                                                                  (1 : Nat) = (1 : Nat) ∧
                                                                    t.snd.fst = y ∧
                                                                      (refFromL x).length ≤ t.snd.snd.length ∧
                                                                        ∀ (i : Nat),
                                                                          i < (refFromL x).length →
                                                                            [AV.int IntKind.i64 (t.snd.snd.getD i 0)] = [AV.int IntKind.i64 ((refFromL x).getD i 0)]) ∧
                                                                True) ∧
                                                          (refFromL x).length ≤ y)
                                            (Exx Nat fun y =>
                                              ((((true = true ∧
                                                        NilNil ∧
                                                          (0 : Nat) = (0 : Nat) ∧
                                                            (1 : Nat) = (1 : Nat) ∧ (0 : Nat) = (0 : Nat) ∧ t.snd.snd.length = (refFromL x).length ∧ t.snd.fst = y) ∧
                                                      false = bOf (refFromP x) ∧ True) ∧
                                                    True) ∧
                                                  true = true ∧
                                                    ((3 : TypeId) = (3 : TypeId) ∧
                                                        (1 : Nat) = (1 : Nat) ∧
                                                          t.snd.fst = y ∧
                                                            (refFromL x).length ≤ t.snd.snd.length ∧
                                                              ∀ (i : Nat),
                                                                i < (refFromL x).length →
                                                                  [AV.int IntKind.i64 (t.snd.snd.getD i 0)] = [AV.int IntKind.i64 ((refFromL x).getD i 0)]) ∧
                                                      True) ∧
                                                (refFromL x).length ≤ y)))
                    (Exx (Nat × List Int) fun x_1 =>
                      ((Tr 1 (x.fst = (↑x_1.fst : Int)) ∧
                            (0 + t.snd.snd.length ≤ t.snd.snd.length ∧
                                t.snd.snd.length = x_1.snd.length ∧
                                  ∀ (i : Nat), i < x_1.snd.length → [AV.int IntKind.i64 (t.snd.snd.getD (0 + i) 0)] = [AV.int IntKind.i64 (x_1.snd.getD i 0)]) ∧
                              True) ∧
                          true = true ∧ True) ∧
                        (x_1.fst ≤ 3072 ∧ IntL x_1.snd) ∧
                          ∀ (y : Nat),
                            chN x_1.fst ≤ y →
                              Exx (Chs × Chs) fun x_2 =>
                                (((0 + chN x_1.fst ≤ chN x_1.fst ∧
                                        chN x_1.fst = x_2.fst.fst ∧
                                          ∀ (i : Nat),
                                            i < x_2.fst.fst →
                                              [AV.int IntKind.i64 (↑(0 + i) : Int), AV.arr 1 48 fun j => [AV.int IntKind.u8 (↑(madeF (0 + i) x_1.snd j) : Int)]] =
                                                [AV.int IntKind.i64 (x_2.fst.snd.fst i), AV.arr 1 48 fun j => [AV.int IntKind.u8 (↑(x_2.fst.snd.snd i j) : Int)]]) ∧
                                      (x.snd.fst = x_2.snd.fst ∧
                                          ∀ (i : Nat),
                                            i < x_2.snd.fst →
                                              [AV.int IntKind.i64 (x.snd.snd.fst i), AV.arr 1 48 fun j => [AV.int IntKind.u8 (↑(x.snd.snd.snd i j) : Int)]] =
                                                [AV.int IntKind.i64 (x_2.snd.snd.fst i), AV.arr 1 48 fun j => [AV.int IntKind.u8 (↑(x_2.snd.snd.snd i j) : Int)]]) ∧
                                        True) ∧
                                    true = true ∧ True) ∧
                                  (x_2.fst.fst ≤ 9223372036854775807 ∧ x_2.snd.fst ≤ 9223372036854775807) ∧
                                    ∀ (y : Unit),
                                      True →
                                        BC (bOf (sameChs x_2.fst x_2.snd))
                                          (Exx (List Int × Int) fun x_3 =>
                                            (((0 + t.snd.snd.length ≤ t.snd.snd.length ∧
                                                    t.snd.snd.length = x_3.fst.length ∧
                                                      ∀ (i : Nat), i < x_3.fst.length → [AV.int IntKind.i64 (t.snd.snd.getD (0 + i) 0)] = [AV.int IntKind.i64 (x_3.fst.getD i 0)]) ∧
                                                  Tr 1 (x.fst = x_3.snd) ∧ True) ∧
                                                true = true ∧ True) ∧
                                              (IntL x_3.fst ∧ I64 x_3.snd) ∧
                                                ∀ (y : Unit),
                                                  True →
                                                    Exx Nat fun y =>
                                                      ((((true = true ∧
                                                                NilNil ∧
                                                                  (0 : Nat) = (0 : Nat) ∧
                                                                    (1 : Nat) = (1 : Nat) ∧ (0 : Nat) = (0 : Nat) ∧ t.snd.snd.length = (refFromL x).length ∧ t.snd.fst = y) ∧
                                                              (x_3.fst.all fun a => decide (a < x_3.snd)) = bOf (refFromP x) ∧ True) ∧
                                                            True) ∧
                                                          true = true ∧
                                                            ((3 : TypeId) = (3 : TypeId) ∧
                                                                (1 : Nat) = (1 : Nat) ∧
                                                                  t.snd.fst = y ∧
                                                                    (refFromL x).length ≤ t.snd.snd.length ∧
                                                                      ∀ (i : Nat),
                                                                        i < (refFromL x).length →
                                                                          [AV.int IntKind.i64 (t.snd.snd.getD i 0)] = [AV.int IntKind.i64 ((refFromL x).getD i 0)]) ∧
                                                              True) ∧
                                                        (refFromL x).length ≤ y)
                                          (Exx Nat fun y =>
                                            ((((true = true ∧
                                                      NilNil ∧
                                                        (0 : Nat) = (0 : Nat) ∧
                                                          (1 : Nat) = (1 : Nat) ∧ (0 : Nat) = (0 : Nat) ∧ t.snd.snd.length = (refFromL x).length ∧ t.snd.fst = y) ∧
                                                    false = bOf (refFromP x) ∧ True) ∧
                                                  True) ∧
                                                true = true ∧
                                                  ((3 : TypeId) = (3 : TypeId) ∧
                                                      (1 : Nat) = (1 : Nat) ∧
                                                        t.snd.fst = y ∧
                                                          (refFromL x).length ≤ t.snd.snd.length ∧
                                                            ∀ (i : Nat),
                                                              i < (refFromL x).length → [AV.int IntKind.i64 (t.snd.snd.getD i 0)] = [AV.int IntKind.i64 ((refFromL x).getD i 0)]) ∧
                                                    True) ∧
                                              (refFromL x).length ≤ y))))) =
    (fnVCo tb [(44, specOf refSameC), (45, specOf refChartsC), (65, specOf refListC), (66, specOf refBelowC)] Tryd.f37 refFromC (fun x => { loops := [(5, refFromLA x)] }) (fun _ av _ => tupSl av) (fun _ => []) (fun _ _ _ _ => [])) := by kernel_rfl

theorem refFrom_ok : SpecOk Tryd.prog 37 (specOf refFromC) := by
  refine specOko mixed tb_ok (SPok.cons refSame_ok (SPok.cons refCharts_ok (SPok.cons refList_ok (SPok.cons refBelow_ok SPok.nil)))) Tryd.func37 (by decide) refFromC_ok (an := (fun x => { loops := [(5, refFromLA x)] })) (σ := (fun _ av _ => tupSl av)) (op := (fun _ => [])) (cl := (fun _ _ _ _ => [])) ?_
  rw [← refFromV]
  simp (maxSteps := 10000000) only [and_false, false_and, false_or, or_false, bOf_true, bOf_false, true_bOf, false_bOf, Exx, int_ite, merge_o, Tr_eq, true_and, and_true, exists_const, forall_const, implies_true, forall_eq, exists_eq, exists_eq', exists_eq_left, exists_eq_left', exists_eq_right, Prod.exists, Prod.forall, and_assoc, exists_and_left, BC_iff, Bool.not_eq_true', Bool.not_eq_false', decide_eq_true_eq, decide_eq_false_iff_not, I64, nat_cast_inj, Int.toNat_natCast, nats_iff, nats_iff', ints_iff, ints_iff', natss_iff, natss_iff', nilnil, litL_eq, str_inj, str_append, str_length, str_getD, str_take, lit1_iff, one_iff, two_iff, one_get, Nat.zero_add, Nat.sub_zero, Nat.reduceMul, Nat.reduceDiv, Nat.reduceAdd, Int.reduceToNat, Nat.not_lt_zero, if_false, if_true, Nat.le_refl, List.length_singleton, List.length_cons, List.length_nil, Bool.false_eq_true, not_true_eq_false, false_implies, not_false_eq_true, Prod.mk.injEq]
  rintro n c p f ⟨h1, h2, hc, hw⟩
  have hbad : ¬ (0 ≤ n ∧ n ≤ 3072) → (refFromL (n, c, p, f)).length = 0 ∧ ¬refFromP (n, c, p, f) ∧ (refFromL (n, c, p, f)).length = 0 ∧ (refFromL (n, c, p, f)).length ≤ 0 := fun h => by
    have e : refFromL (n, c, p, f) = [] := by rw [refFromL, if_neg h]
    rw [e]
    exact ⟨rfl, fun k => h ⟨k.1, k.2.1⟩, rfl, Nat.le_refl _⟩
  refine ⟨fun h => hbad (by omega), fun h0 => ⟨fun h => hbad (by omega), fun h3 => ?_⟩⟩
  obtain ⟨m, rfl⟩ : ∃ m : Nat, n = (m : Int) := ⟨n.toNat, by omega⟩
  have hL : refFromL ((m : Int), c, p, f) = chsL (c, p, f) (min c 8) := by rw [refFromL, if_pos ⟨by omega, by omega⟩]
  have hP : refFromP ((m : Int), c, p, f) ↔ (sameChs (chN m, fun i => (i : Int), fun i => madeF i (refFromL ((m : Int), c, p, f))) (c, p, f) ∧ ∀ a ∈ refFromL ((m : Int), c, p, f), a < (m : Int)) := by
    unfold refFromP
    exact ⟨fun h => h.2.2, fun h => ⟨by simp only; omega, by simp only; omega, h⟩⟩
  have hch : chN m ≤ 8 := by unfold chN; omega
  refine ⟨fun s => s.1 ≤ c ∧ s.1 ≤ 8 ∧ s.2.2 = chsL (c, p, f) s.1 ∧ s.2.2.length ≤ s.2.1, ⟨0, 0, [], ⟨by simp, by simp, rfl, Nat.le_refl _⟩, rfl, rfl, rfl, rfl, rfl⟩, fun s => c - s.1, ?_⟩
  rintro i cap l ⟨hi, hi8, hl, hlc⟩
  simp only at hi hi8 hl hlc
  have hlen := chsL_len (c, p, f) i
  rw [← hl] at hlen
  have hII : IntL l := ⟨by rw [hl]; exact chsL_int (fun j hj => (hw j (by simp only; omega)).1), by omega⟩
  have tail : i = min c 8 → ∃ a : Nat, (m : Int) = (a : Int) ∧ a ≤ 3072 ∧ IntL l ∧ ∀ (y : Nat), chN a ≤ y → ∃ q g, (∀ (i : Nat), i < chN a → [AV.int IntKind.i64 (i : Int), AV.arr 1 48 fun j => [AV.int IntKind.u8 ((madeF i l j : Nat) : Int)]] = [AV.int IntKind.i64 (q i), AV.arr 1 48 fun j => [AV.int IntKind.u8 ((g i j : Nat) : Int)]]) ∧
      ∃ q' g', (∀ (i : Nat), i < c → [AV.int IntKind.i64 (p i), AV.arr 1 48 fun j => [AV.int IntKind.u8 ((f i j : Nat) : Int)]] = [AV.int IntKind.i64 (q' i), AV.arr 1 48 fun j => [AV.int IntKind.u8 ((g' i j : Nat) : Int)]]) ∧ chN a ≤ 9223372036854775807 ∧ c ≤ 9223372036854775807 ∧
      (sameChs (chN a, q, g) (c, q', g') → IntL l ∧ -9223372036854775808 ≤ (m : Int) ∧ (m : Int) ≤ 9223372036854775807 ∧ l.length = (refFromL ((m : Int), c, p, f)).length ∧ (l.all fun a => decide (a < (m : Int))) = bOf (refFromP ((m : Int), c, p, f)) ∧ (refFromL ((m : Int), c, p, f)).length ≤ l.length ∧ (∀ (i : Nat), i < (refFromL ((m : Int), c, p, f)).length → [AV.int IntKind.i64 (l.getD i 0)] = [AV.int IntKind.i64 ((refFromL ((m : Int), c, p, f)).getD i 0)]) ∧ (refFromL ((m : Int), c, p, f)).length ≤ cap) ∧
      (¬sameChs (chN a, q, g) (c, q', g') → l.length = (refFromL ((m : Int), c, p, f)).length ∧ ¬refFromP ((m : Int), c, p, f) ∧ (refFromL ((m : Int), c, p, f)).length ≤ l.length ∧ (∀ (i : Nat), i < (refFromL ((m : Int), c, p, f)).length → [AV.int IntKind.i64 (l.getD i 0)] = [AV.int IntKind.i64 ((refFromL ((m : Int), c, p, f)).getD i 0)]) ∧ (refFromL ((m : Int), c, p, f)).length ≤ cap) := fun e => by
    have eL : refFromL ((m : Int), c, p, f) = l := by rw [hL, hl, e]
    rw [hP, eL]
    refine ⟨m, rfl, by omega, hII, fun y hy => ⟨fun i => (i : Int), fun i => madeF i l, fun _ _ => rfl, p, f, fun _ _ => rfl, by omega, hc, fun hs => ⟨hII, by omega, by omega, rfl, ?_, Nat.le_refl _, fun _ _ => rfl, hlc⟩, fun hs => ⟨rfl, fun k => hs k.1, Nat.le_refl _, fun _ _ => rfl, hlc⟩⟩⟩
    rw [bOf_iff, List.all_eq_true]
    exact ⟨fun h => ⟨hs, fun a ha => of_decide_eq_true (h a ha)⟩, fun h a ha => decide_eq_true (h.2 a ha)⟩
  refine ⟨fun hlt => ⟨fun h8 => ⟨by omega, by omega, f i, fun _ _ => rfl, hw i (by simp only; omega), fun y hy => ?_⟩, fun h8 => tail (by omega)⟩, fun hge => tail (by omega)⟩
  have hcl := chartP_len (p i) (f i) 384
  rw [← chartL] at hcl
  refine ⟨by omega, by omega, fun cap2 hcap2 => ⟨by omega, by omega, i + 1, cap2, l ++ chartL (p i) (f i), ⟨by simp only; omega, by simp only; omega, ?_, by rw [List.length_append]; exact hcap2.1⟩, by simp only; omega, by rw [List.length_append], rfl, by omega, rfl, by rw [List.length_append]; exact Nat.le_refl _, fun j hj => ?_⟩⟩
  · simp only
    rw [chsL_succ, hl]
  · rw [appendI_getD]
    by_cases e : j < l.length
    · rw [if_pos e, if_pos e]
    · rw [if_neg e, if_neg e]

end Yard
