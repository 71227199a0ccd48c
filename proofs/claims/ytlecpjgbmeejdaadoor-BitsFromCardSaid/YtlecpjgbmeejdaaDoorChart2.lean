/- A chart's numbers. -/
import Derived.Test.YtlecpjgbmeejdaaDoorBits3
namespace Yard
open Go Go.Sx Go.Proofs
set_option linter.unusedVariables false
set_option linter.unusedSimpArgs false
set_option maxRecDepth 4000

theorem snocG {α : Type} {enc : α → List AV} {l : List α} {v d : α} {z : List AV} {i : Nat} (hi : i < (l ++ [v]).length) : (if i < l.length then enc (l.getD i d) else if i - l.length = 0 then enc v else z) = enc ((l ++ [v]).getD i d) := by
  rw [getD_append]
  by_cases e : i < l.length
  · rw [if_pos e, if_pos e]
  · have : i - l.length = 0 := by simp at hi; omega
    rw [if_neg e, if_neg e, this]; rfl
theorem wrapI (x : Int) (h : I64 x) : IntKind.i64.wrap x = x := wrap_I64 h
theorem i64_wrap (x : Int) : I64 (IntKind.i64.wrap x) := by
  rw [IntKind.wrap_i64]; unfold I64; omega
def chBit (f : Nat → Nat) (i : Nat) : Bool := (f (i / 8)).testBit (i % 8)
/-- The first of a chart's numbers. -/
def chartP (p : Int) (f : Nat → Nat) (k : Nat) : List Int := if chartRt p then ((List.range k).filter (chBit f)).map (fun i : Nat => 384 * p + (i : Int)) else []
def chartL (p : Int) (f : Nat → Nat) : List Int := chartP p f 384
theorem chartP_zero (p : Int) (f : Nat → Nat) : chartP p f 0 = [] := by unfold chartP; split <;> rfl
theorem chartP_succ (p : Int) (f : Nat → Nat) (k : Nat) : chartP p f (k + 1) = chartP p f k ++ (if chartRt p ∧ chBit f k = true then [384 * p + (k : Int)] else []) := by
  unfold chartP
  by_cases h : chartRt p
  · simp only [h, if_true, List.range_succ, List.filter_append, List.map_append, true_and]
    congr 1
    cases hb : chBit f k <;> simp [hb]
  · simp [h]
theorem chartP_len (p : Int) (f : Nat → Nat) (k : Nat) : (chartP p f k).length ≤ k := by
  unfold chartP
  split
  · rw [List.length_map]; exact Nat.le_trans (List.length_filter_le _ _) (by simp)
  · simp
def chartListC : Ctr := rowIC (Int × (Nat → Nat)) ChartW (fun x => [chartA x.1 x.2]) 3 .i64 (fun x => chartL x.1 x.2) (fun _ r => r)
def chartListLA (x : Int × (Nat → Nat)) : LA := { T := Nat × Nat × List Int, F := fun s => frm 23 [(1, .ptr 1 [] 0), (3, .sl 2 [] 0 1 0 s.2.2.length s.2.1), (6, i64 (s.1 : Nat))], H := fun s => [.fence, .cells 82 (chartV x.1 x.2), rowI 3 .i64 s.2.1 s.2.2] }

-- callees: 75=chartHas_ok
theorem chartListV : (∀ (x : Int × (Nat → Nat)),
  ChartW x →
    Exx (Nat × Nat × List Int → Prop) fun I =>
      Exx (Nat × Nat × List Int → Nat) fun m =>
        (Exx (Nat × Nat × List Int) fun t =>
            I t ∧
              Tr 1 ((true = true ∧ NilNil ∧ (0 : Nat) = (0 : Nat)) ∧ Tr 1 ((t.snd.snd.length = 0 ∧ t.snd.fst = 0) ∧ Tr 2 (Tr 1 ((0 : Int) = (↑t.fst : Int)) ∧ Tr 16 True))) ∧
                true = true ∧
                  ((82 : Nat) = (82 : TypeId) ∧
                      Tr 1 (x.fst = x.fst) ∧
                        (1 : Nat) = (1 : Nat) ∧
                          (48 : Nat) = (48 : Nat) ∧ (∀ (i : Nat), i < 48 → [AV.int IntKind.u8 (↑(x.snd i) : Int)] = [AV.int IntKind.u8 (↑(x.snd i) : Int)]) ∧ True) ∧
                    (t.snd.fst = 0 ∧ t.snd.snd.length = 0) ∧ True) ∧
          ∀ (t : Nat × Nat × List Int),
            I t →
              BC (decide ((↑t.fst : Int) < (384 : Int)))
                (∀ (n : Int),
                  n = IntKind.i64.wrap (x.fst * 384) →
                    ∀ (n_1 : Int),
                      n_1 = IntKind.i64.wrap (n + (↑t.fst : Int)) →
                        Exx ((Int × (Nat → Nat)) × Int) fun x_1 =>
                          (((Tr 1 (x.fst = x_1.fst.fst) ∧
                                  (1 : Nat) = (1 : Nat) ∧
                                    (48 : Nat) = (48 : Nat) ∧
                                      (∀ (i : Nat), i < 48 → [AV.int IntKind.u8 (↑(x.snd i) : Int)] = [AV.int IntKind.u8 (↑(x_1.fst.snd i) : Int)]) ∧ True) ∧
                                Tr 1 (n_1 = x_1.snd) ∧ True) ∧
                              true = true ∧ True) ∧
                            (ChartW x_1.fst ∧ I64 x_1.snd) ∧
                              ∀ (y : Unit),
                                True →
                                  BC (decide (chartIn x_1.fst.fst x_1.snd) && (x_1.fst.snd ((x_1.snd % 384).toNat / 8)).testBit (x_1.snd % 8).toNat)
                                    ((0 : Nat) + (1 : Nat) ≤ (1 : Nat) ∧
                                      true = true ∧
                                        (t.snd.snd.length ≤ t.snd.snd.length ∧ t.snd.fst = t.snd.fst) ∧
                                          (t.snd.snd.length + 1 ≤ 9223372036854775807 ∧ (t.snd.snd.length + 1) * 8 ≤ 140737488355328) ∧
                                            ∀ (cap : Nat),
                                              t.snd.snd.length + 1 ≤ cap ∧ cap ≤ 9223372036854775807 →
                                                ∀ (n : Int),
                                                  n = IntKind.i64.wrap ((↑t.fst : Int) + 1) →
                                                    Exx (Nat × Nat × List Int) fun t' =>
                                                      (I t' ∧ m t' < m t) ∧
                                                        Tr 1
                                                            ((true = true ∧ NilNil ∧ (0 : Nat) = (0 : Nat)) ∧
                                                              Tr 1
                                                                ((true = true ∧
                                                                    NilNil ∧
                                                                      (0 : Nat) = (0 : Nat) ∧
                                                                        (1 : Nat) = (1 : Nat) ∧
                                                                          (0 : Nat) = (0 : Nat) ∧ t.snd.snd.length + 1 = t'.snd.snd.length ∧ cap = t'.snd.fst) ∧
                                                                  Tr 2 (Tr 1 (n = (↑t'.fst : Int)) ∧ Tr 16 True))) ∧
                                                          true = true ∧
                                                            ((82 : TypeId) = (82 : TypeId) ∧
                                                                Tr 1 (x.fst = x.fst) ∧
                                                                  (1 : Nat) = (1 : Nat) ∧
                                                                    (48 : Nat) = (48 : Nat) ∧
                                                                      (∀ (i : Nat), i < 48 → [AV.int IntKind.u8 (↑(x.snd i) : Int)] = [AV.int IntKind.u8 (↑(x.snd i) : Int)]) ∧
                                                                        True) ∧
                                                              ((3 : TypeId) = (3 : TypeId) ∧
                                                                  (1 : Nat) = (1 : Nat) ∧
                                                                    cap = t'.snd.fst ∧
                                                                      t'.snd.snd.length ≤ t.snd.snd.length + 1 ∧
                                                                        ∀ (i : Nat),
                                                                          i < t'.snd.snd.length →
                                                                            (if i < t.snd.snd.length then [AV.int IntKind.i64 (t.snd.snd.getD i 0)]
                                                                              else [AV.int IntKind.i64 (if 0 + (i - t.snd.snd.length) = 0 * 1 / 1 then n_1 else 0)]) =
                                                                              [AV.int IntKind.i64 (t'.snd.snd.getD i 0)]) ∧
                                                                True)
                                    (∀ (n : Int),
                                      n = IntKind.i64.wrap ((↑t.fst : Int) + 1) →
                                        Exx (Nat × Nat × List Int) fun t' =>
                                          (I t' ∧ m t' < m t) ∧
                                            Tr 1
                                                ((true = true ∧ NilNil ∧ (0 : Nat) = (0 : Nat)) ∧
                                                  Tr 1
                                                    ((true = true ∧
                                                        NilNil ∧
                                                          (0 : Nat) = (0 : Nat) ∧
                                                            (1 : Nat) = (1 : Nat) ∧ (0 : Nat) = (0 : Nat) ∧ t.snd.snd.length = t'.snd.snd.length ∧ t.snd.fst = t'.snd.fst) ∧
                                                      Tr 2 (Tr 1 (n = (↑t'.fst : Int)) ∧ Tr 16 True))) ∧
                                              true = true ∧
                                                ((82 : TypeId) = (82 : TypeId) ∧
                                                    Tr 1 (x.fst = x.fst) ∧
                                                      (1 : Nat) = (1 : Nat) ∧
                                                        (48 : Nat) = (48 : Nat) ∧
                                                          (∀ (i : Nat), i < 48 → [AV.int IntKind.u8 (↑(x.snd i) : Int)] = [AV.int IntKind.u8 (↑(x.snd i) : Int)]) ∧ True) ∧
                                                  ((3 : TypeId) = (3 : TypeId) ∧
                                                      (1 : Nat) = (1 : Nat) ∧
                                                        t.snd.fst = t'.snd.fst ∧
                                                          t'.snd.snd.length ≤ t.snd.snd.length ∧
                                                            ∀ (i : Nat),
                                                              i < t'.snd.snd.length → [AV.int IntKind.i64 (t.snd.snd.getD i 0)] = [AV.int IntKind.i64 (t'.snd.snd.getD i 0)]) ∧
                                                    True))
                (Exx Nat fun y =>
                  (((true = true ∧
                          NilNil ∧ (0 : Nat) = (0 : Nat) ∧ (1 : Nat) = (1 : Nat) ∧ (0 : Nat) = (0 : Nat) ∧ t.snd.snd.length = (chartL x.fst x.snd).length ∧ t.snd.fst = y) ∧
                        True) ∧
                      true = true ∧
                        ((3 : TypeId) = (3 : TypeId) ∧
                            (1 : Nat) = (1 : Nat) ∧
                              t.snd.fst = y ∧
                                (chartL x.fst x.snd).length ≤ t.snd.snd.length ∧
                                  ∀ (i : Nat), i < (chartL x.fst x.snd).length → [AV.int IntKind.i64 (t.snd.snd.getD i 0)] = [AV.int IntKind.i64 ((chartL x.fst x.snd).getD i 0)]) ∧
                          True) ∧
                    (chartL x.fst x.snd).length ≤ y)) =
    (fnVC (wr tb) [(75, specOf chartHasC)] Tryd.f64 chartListC (fun x => { loops := [(3, chartListLA x)] }) (fun _ => some [some 0, some 2])) := by kernel_rfl

theorem chartList_ok : SpecOk Tryd.prog 64 (specOf chartListC) := by
  refine specOk mixed (wr_ok tb_ok) (SPok.cons chartHas_ok SPok.nil) Tryd.func64 (by decide) (rowIC_ok fun _ _ _ => rfl) (an := (fun x => { loops := [(3, chartListLA x)] })) (σ := (fun _ => some [some 0, some 2])) ?_
  rw [← chartListV]
  simp (maxSteps := 10000000) only [and_false, false_and, false_or, or_false, bOf_true, bOf_false, true_bOf, false_bOf, Exx, int_ite, merge_o, Tr_eq, true_and, and_true, exists_const, forall_const, implies_true, forall_eq, exists_eq, exists_eq', exists_eq_left, exists_eq_left', exists_eq_right, Prod.exists, Prod.forall, and_assoc, exists_and_left, BC_iff, Bool.not_eq_true', Bool.not_eq_false', decide_eq_true_eq, decide_eq_false_iff_not, I64, nat_cast_inj, Int.toNat_natCast, nats_iff, nats_iff', ints_iff, ints_iff', natss_iff, natss_iff', nilnil, litL_eq, str_inj, str_append, str_length, str_getD, str_take, lit1_iff, one_iff, two_iff, one_get, Nat.zero_add, Nat.sub_zero, Nat.reduceMul, Nat.reduceDiv, Nat.reduceAdd, Int.reduceToNat, Nat.not_lt_zero, if_false, if_true, Nat.le_refl, List.length_singleton, List.length_cons, List.length_nil, Bool.false_eq_true, not_true_eq_false, false_implies, not_false_eq_true, Prod.mk.injEq]
  rintro p f hw
  have hc := fun k => chartP_len p f k
  refine ⟨fun s => s.1 ≤ 384 ∧ s.2.2 = chartP p f s.1 ∧ s.2.2.length ≤ s.2.1, ⟨0, 0, [], ⟨by simp, (chartP_zero p f).symm, Nat.le_refl _⟩, rfl, rfl, rfl, rfl, rfl⟩, fun s => 384 - s.1, ?_⟩
  rintro k c l ⟨hk, hl, hlc⟩
  simp only at hk hl hlc
  have hcl : l.length ≤ k := by rw [hl]; exact hc k
  have hk1 : IntKind.i64.wrap ((k : Int) + 1) = ((k + 1 : Nat) : Int) := by rw [wrapI _ ⟨by omega, by omega⟩]; omega
  refine ⟨fun hlt => ?_, fun hge => ?_⟩
  · have hX : I64 (IntKind.i64.wrap (IntKind.i64.wrap (p * 384) + (k : Int))) := i64_wrap _
    have hh : (decide (chartIn p (IntKind.i64.wrap (IntKind.i64.wrap (p * 384) + (k : Int)))) && (f ((IntKind.i64.wrap (IntKind.i64.wrap (p * 384) + (k : Int)) % 384).toNat / 8)).testBit (IntKind.i64.wrap (IntKind.i64.wrap (p * 384) + (k : Int)) % 8).toNat) = (decide (chartRt p) && chBit f k) ∧ (chartRt p → IntKind.i64.wrap (IntKind.i64.wrap (p * 384) + (k : Int)) = 384 * p + (k : Int)) := by
      by_cases hr : chartRt p
      · have h8 := hr
        unfold chartRt at h8
        have e : IntKind.i64.wrap (IntKind.i64.wrap (p * 384) + (k : Int)) = 384 * p + (k : Int) := by
          rw [wrapI (p * 384) ⟨by omega, by omega⟩, wrapI _ ⟨by omega, by omega⟩]; omega
        have hin : chartIn p (384 * p + (k : Int)) := ⟨hr, by omega, by omega⟩
        refine ⟨?_, fun _ => e⟩
        rw [e, decide_eq_true hin, decide_eq_true hr, show ((384 * p + (k : Int)) % 384).toNat = k by omega, show ((384 * p + (k : Int)) % 8).toNat = k % 8 by omega]
        rfl
      · rw [decide_eq_false hr, decide_eq_false (fun h => hr h.1)]
        exact ⟨rfl, fun h => absurd h hr⟩
    refine ⟨f, fun _ _ => rfl, hw, hX.1, hX.2, ?_⟩
    rw [hh.1]
    refine ⟨fun h => ?_, fun h => ?_⟩
    · rw [Bool.and_eq_true, decide_eq_true_eq] at h
      refine ⟨by omega, by omega, fun cap hcap => ⟨k + 1, cap, l ++ [384 * p + (k : Int)], ⟨by simp only; omega, ?_, by simpa using hcap.1⟩, by simp only; omega, by simp, rfl, hk1, rfl, by simp, fun i hi => ?_⟩⟩
      · simp only
        rw [chartP_succ, if_pos h, ← hl]
      · rw [hh.2 h.1]; exact snocG (enc := fun x => [AV.int .i64 x]) hi
    · have h' : ¬ (chartRt p ∧ chBit f k = true) := fun ⟨h1, h2⟩ => by rw [decide_eq_true h1, h2] at h; cases h
      refine ⟨k + 1, c, l, ⟨by simp only; omega, ?_, hlc⟩, by simp only; omega, rfl, rfl, hk1, rfl, Nat.le_refl _, fun _ _ => rfl⟩
      simp only
      rw [chartP_succ, if_neg h', List.append_nil, hl]
  · have : l = chartL p f := by rw [hl, show k = 384 by omega]; rfl
    subst this
    exact ⟨rfl, Nat.le_refl _, fun _ _ => rfl, hlc⟩

def refRightC : Ctr := pureC (Int × (Nat → Nat)) ChartW (fun x => [chartA x.1 x.2]) (fun x => .bool (decide (chartRt x.1)))

-- callees: 
theorem refRightV : (∀ (x : Int × (Nat → Nat)),
  ChartW x →
    BC (decide ((0 : Int) ≤ x.fst)) (Exx Unit fun y => ((decide (x.fst ≤ (7 : Int)) = decide (chartRt x.fst) ∧ True) ∧ true = true ∧ True) ∧ True)
      (Exx Unit fun y => ((false = decide (chartRt x.fst) ∧ True) ∧ true = true ∧ True) ∧ True)) =
    (fnVC tb [] Tryd.f76 refRightC (fun _ => {}) (fun _ => none)) := by kernel_rfl

theorem refRight_ok : SpecOk Tryd.prog 76 (specOf refRightC) := by
  refine specOk mixed tb_ok SPok.nil Tryd.func76 (by decide) (pureC_ok fun _ => rfl) (an := (fun _ => {})) (σ := (fun _ => none)) ?_
  rw [← refRightV]
  simp (maxSteps := 10000000) only [and_false, false_and, false_or, or_false, bOf_true, bOf_false, true_bOf, false_bOf, Exx, int_ite, merge_o, Tr_eq, true_and, and_true, exists_const, forall_const, implies_true, forall_eq, exists_eq, exists_eq', exists_eq_left, exists_eq_left', exists_eq_right, Prod.exists, Prod.forall, and_assoc, exists_and_left, BC_iff, Bool.not_eq_true', Bool.not_eq_false', decide_eq_true_eq, decide_eq_false_iff_not, I64, nat_cast_inj, Int.toNat_natCast, nats_iff, nats_iff', ints_iff, ints_iff', natss_iff, natss_iff', nilnil, litL_eq, str_inj, str_append, str_length, str_getD, str_take, lit1_iff, one_iff, two_iff, one_get, Nat.zero_add, Nat.sub_zero, Nat.reduceMul, Nat.reduceDiv, Nat.reduceAdd, Int.reduceToNat, Nat.not_lt_zero, if_false, if_true, Nat.le_refl, List.length_singleton, List.length_cons, List.length_nil, Bool.false_eq_true, not_true_eq_false, false_implies, not_false_eq_true, Prod.mk.injEq]
  rintro p f hw
  exact ⟨fun h => decide_eq_decide.2 ⟨fun k => ⟨h, by omega⟩, fun k => by have := k.2; omega⟩, fun h => (decide_eq_false (fun k => h k.1)).symm⟩

end Yard
