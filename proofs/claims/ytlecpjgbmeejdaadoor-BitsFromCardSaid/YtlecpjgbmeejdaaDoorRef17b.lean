/- The sets' references: charts, lists. -/
import Derived.Test.YtlecpjgbmeejdaaDoorChart2
import Derived.Test.YtlecpjgbmeejdaaDoorRef17
namespace Yard
open Go Go.Sx Go.Proofs
set_option linter.unusedVariables false
set_option linter.unusedSimpArgs false
set_option maxRecDepth 4000

/-! ### Rising lists and masks -/
def refListP (p : Int) (f : Nat → Nat) (i k : Nat) : List Int := chartP p f (8 * i + k)
def refListC : Ctr := rowIC (Int × (Nat → Nat)) ChartW (fun x => [chartA x.1 x.2]) 3 .i64 (fun x => chartL x.1 x.2) (fun _ r => r)
def refListLA (x : Int × (Nat → Nat)) : LA := { T := Nat × Nat × List Int, F := fun s => frm 41 [(1, .ptr 1 [] 0), (3, .sl 2 [] 0 1 0 s.2.2.length s.2.1), (4, i64 (s.1 : Nat))], H := fun s => [.fence, .cells 82 (chartV x.1 x.2), rowI 3 .i64 s.2.1 s.2.2] }
def refListLB (x : Int × (Nat → Nat)) : LA := { T := Nat × Nat × Nat × Nat × List Int, F := fun s => frm 41 [(1, .ptr 1 [] 0), (3, .sl 2 [] 0 1 0 s.2.2.2.2.length s.2.2.2.1), (4, i64 (s.1 : Nat)), (5, i64 (s.2.2.1 : Nat)), (6, i64 (s.2.1 : Nat))], H := fun s => [.fence, .cells 82 (chartV x.1 x.2), rowI 3 .i64 s.2.2.2.1 s.2.2.2.2] }

-- callees: 76=refRight_ok
theorem refListV : (∀ (x : Int × (Nat → Nat)),
  ChartW x →
    Exx (Nat × Nat × List Int → Prop) fun I =>
      Exx (Nat × Nat × List Int → Nat) fun m =>
        (Exx (Nat × Nat × List Int) fun t =>
            I t ∧
              Tr 1 ((true = true ∧ NilNil ∧ (0 : Nat) = (0 : Nat)) ∧ Tr 1 ((t.snd.snd.length = 0 ∧ t.snd.fst = 0) ∧ Tr 1 ((0 : Int) = (↑t.fst : Int)) ∧ Tr 36 True)) ∧
                true = true ∧
                  ((82 : Nat) = (82 : TypeId) ∧
                      Tr 1 (x.fst = x.fst) ∧
                        (1 : Nat) = (1 : Nat) ∧
                          (48 : Nat) = (48 : Nat) ∧ (∀ (i : Nat), i < 48 → [AV.int IntKind.u8 (↑(x.snd i) : Int)] = [AV.int IntKind.u8 (↑(x.snd i) : Int)]) ∧ True) ∧
                    (t.snd.fst = 0 ∧ t.snd.snd.length = 0) ∧ True) ∧
          ∀ (t : Nat × Nat × List Int),
            I t →
              BC (decide ((↑t.fst : Int) < (48 : Int)))
                (Exx (Int × (Nat → Nat)) fun x_1 =>
                  (((Tr 1 (x.fst = x_1.fst) ∧
                          (1 : Nat) = (1 : Nat) ∧
                            (48 : Nat) = (48 : Nat) ∧ (∀ (i : Nat), i < 48 → [AV.int IntKind.u8 (↑(x.snd i) : Int)] = [AV.int IntKind.u8 (↑(x_1.snd i) : Int)]) ∧ True) ∧
                        True) ∧
                      true = true ∧ True) ∧
                    ChartW x_1 ∧
                      ∀ (y : Unit),
                        True →
                          BC (decide (chartRt x_1.fst))
                            (((0 : Int) ≤ (↑t.fst : Int) ∧ (↑t.fst : Int) < (↑48 : Int)) ∧
                              (↑t.fst : Int).toNat < 48 ∧
                                ∀ (m_1 : Int),
                                  m_1 = IntKind.i64.wrap (↑(x.snd (↑t.fst : Int).toNat) : Int) →
                                    Exx (Nat × Nat × Nat × Nat × List Int → Prop) fun I_1 =>
                                      Exx (Nat × Nat × Nat × Nat × List Int → Nat) fun m_2 =>
                                        (Exx (Nat × Nat × Nat × Nat × List Int) fun t_1 =>
                                            I_1 t_1 ∧
                                              Tr 1
                                                  ((true = true ∧ NilNil ∧ (0 : Nat) = (0 : Nat)) ∧
                                                    Tr 1
                                                      ((true = true ∧
                                                          NilNil ∧
                                                            (0 : Nat) = (0 : Nat) ∧
                                                              (1 : Nat) = (1 : Nat) ∧
                                                                (0 : Nat) = (0 : Nat) ∧ t.snd.snd.length = t_1.snd.snd.snd.snd.length ∧ t.snd.fst = t_1.snd.snd.snd.fst) ∧
                                                        Tr 1 ((↑t.fst : Int) = (↑t_1.fst : Int)) ∧
                                                          Tr 1 (m_1 = (↑t_1.snd.snd.fst : Int)) ∧ Tr 1 ((0 : Int) = (↑t_1.snd.fst : Int)) ∧ Tr 34 True)) ∧
                                                true = true ∧
                                                  ((82 : TypeId) = (82 : TypeId) ∧
                                                      Tr 1 (x.fst = x.fst) ∧
                                                        (1 : Nat) = (1 : Nat) ∧
                                                          (48 : Nat) = (48 : Nat) ∧
                                                            (∀ (i : Nat), i < 48 → [AV.int IntKind.u8 (↑(x.snd i) : Int)] = [AV.int IntKind.u8 (↑(x.snd i) : Int)]) ∧ True) ∧
                                                    ((3 : TypeId) = (3 : TypeId) ∧
                                                        (1 : Nat) = (1 : Nat) ∧
                                                          t.snd.fst = t_1.snd.snd.snd.fst ∧
                                                            t_1.snd.snd.snd.snd.length ≤ t.snd.snd.length ∧
                                                              ∀ (i : Nat),
                                                                i < t_1.snd.snd.snd.snd.length →
                                                                  [AV.int IntKind.i64 (t.snd.snd.getD i 0)] = [AV.int IntKind.i64 (t_1.snd.snd.snd.snd.getD i 0)]) ∧
                                                      True) ∧
                                          ∀ (t_1 : Nat × Nat × Nat × Nat × List Int),
                                            I_1 t_1 →
                                              BC (decide ((↑t_1.snd.fst : Int) < (8 : Int)))
                                                ((2 : Int) ≠ (0 : Int) ∧
                                                  ∀ (n : Int),
                                                    n = (↑t_1.snd.snd.fst : Int).tmod 2 →
                                                      BC (decide (n = (1 : Int)))
                                                        (I64 (384 * x.fst) ∧
                                                          I64 (8 * (↑t_1.fst : Int)) ∧
                                                            I64 (384 * x.fst + 8 * (↑t_1.fst : Int)) ∧
                                                              I64 (384 * x.fst + 8 * (↑t_1.fst : Int) + (↑t_1.snd.fst : Int)) ∧
                                                                (0 : Nat) + (1 : Nat) ≤ (1 : Nat) ∧
                                                                  true = true ∧
                                                                    (t_1.snd.snd.snd.snd.length ≤ t_1.snd.snd.snd.snd.length ∧ t_1.snd.snd.snd.fst = t_1.snd.snd.snd.fst) ∧
                                                                      (t_1.snd.snd.snd.snd.length + 1 ≤ 9223372036854775807 ∧
                                                                          (t_1.snd.snd.snd.snd.length + 1) * 8 ≤ 140737488355328) ∧
                                                                        ∀ (cap : Nat),
                                                                          t_1.snd.snd.snd.snd.length + 1 ≤ cap ∧ cap ≤ 9223372036854775807 →
                                                                            (2 : Int) ≠ (0 : Int) ∧
                                                                              I64 ((↑t_1.snd.snd.fst : Int).tdiv 2) ∧
                                                                                I64 ((↑t_1.snd.fst : Int) + 1) ∧
                                                                                  Exx (Nat × Nat × Nat × Nat × List Int) fun t' =>
                                                                                    (I_1 t' ∧ m_2 t' < m_2 t_1) ∧
                                                                                      Tr 1
                                                                                          ((true = true ∧ NilNil ∧ (0 : Nat) = (0 : Nat)) ∧
                                                                                            Tr 1
                                                                                              ((true = true ∧
                                                                                                  NilNil ∧
                                                                                                    (0 : Nat) = (0 : Nat) ∧
                                                                                                      (1 : Nat) = (1 : Nat) ∧
                                                                                                        (0 : Nat) = (0 : Nat) ∧
                                                                                                          t_1.snd.snd.snd.snd.length + 1 = t'.snd.snd.snd.snd.length ∧
                                                                                                            cap = t'.snd.snd.snd.fst) ∧
                                                                                                Tr 1 ((↑t_1.fst : Int) = (↑t'.fst : Int)) ∧
                                                                                                  Tr 1 ((↑t_1.snd.snd.fst : Int).tdiv 2 = (↑t'.snd.snd.fst : Int)) ∧
                                                                                                    Tr 1 ((↑t_1.snd.fst : Int) + 1 = (↑t'.snd.fst : Int)) ∧ Tr 34 True)) ∧
                                                                                        true = true ∧
                                                                                          ((82 : TypeId) = (82 : TypeId) ∧
                                                                                              Tr 1 (x.fst = x.fst) ∧
                                                                                                (1 : Nat) = (1 : Nat) ∧
                                                                                                  (48 : Nat) = (48 : Nat) ∧
                                                                                                    (∀ (i : Nat),
                                                                                                        i < 48 →
                                                                                                          [AV.int IntKind.u8 (↑(x.snd i) : Int)] =
                                                                                                            [AV.int IntKind.u8 (↑(x.snd i) : Int)]) ∧
                                                                                                      True) ∧
                                                                                            ((3 : TypeId) = (3 : TypeId) ∧
                                                                                                (1 : Nat) = (1 : Nat) ∧
                                                                                                  cap = t'.snd.snd.snd.fst ∧
                                                                                                    t'.snd.snd.snd.snd.length ≤ t_1.snd.snd.snd.snd.length + 1 ∧
                                                                                                      ∀ (i : Nat),
                                                                                                        i < t'.snd.snd.snd.snd.length →
                                                                                                          (if i < t_1.snd.snd.snd.snd.length then
                                                                                                              [AV.int IntKind.i64 (t_1.snd.snd.snd.snd.getD i 0)]
                                                                                                            else
                                                                                                              [AV.int IntKind.i64
                                                                                                                  (if 0 + (i - t_1.snd.snd.snd.snd.length) = 0 * 1 / 1 then
                                                                                                                    384 * x.fst + 8 * (↑t_1.fst : Int) + (↑t_1.snd.fst : Int)
                                                                                                                  else 0)]) =
                                                                                                            [AV.int IntKind.i64 (t'.snd.snd.snd.snd.getD i 0)]) ∧
                                                                                              True)
                                                        ((2 : Int) ≠ (0 : Int) ∧
                                                          I64 ((↑t_1.snd.snd.fst : Int).tdiv 2) ∧
                                                            I64 ((↑t_1.snd.fst : Int) + 1) ∧
                                                              Exx (Nat × Nat × Nat × Nat × List Int) fun t' =>
                                                                (I_1 t' ∧ m_2 t' < m_2 t_1) ∧
                                                                  Tr 1
                                                                      ((true = true ∧ NilNil ∧ (0 : Nat) = (0 : Nat)) ∧
                                                                        Tr 1
                                                                          ((true = true ∧
                                                                              NilNil ∧
                                                                                (0 : Nat) = (0 : Nat) ∧
                                                                                  (1 : Nat) = (1 : Nat) ∧
                                                                                    (0 : Nat) = (0 : Nat) ∧
                                                                                      t_1.snd.snd.snd.snd.length = t'.snd.snd.snd.snd.length ∧
                                                                                        t_1.snd.snd.snd.fst = t'.snd.snd.snd.fst) ∧
                                                                            Tr 1 ((↑t_1.fst : Int) = (↑t'.fst : Int)) ∧
                                                                              Tr 1 ((↑t_1.snd.snd.fst : Int).tdiv 2 = (↑t'.snd.snd.fst : Int)) ∧
                                                                                Tr 1 ((↑t_1.snd.fst : Int) + 1 = (↑t'.snd.fst : Int)) ∧ Tr 34 True)) ∧
                                                                    true = true ∧
                                                                      ((82 : TypeId) = (82 : TypeId) ∧
                                                                          Tr 1 (x.fst = x.fst) ∧
                                                                            (1 : Nat) = (1 : Nat) ∧
                                                                              (48 : Nat) = (48 : Nat) ∧
                                                                                (∀ (i : Nat),
                                                                                    i < 48 → [AV.int IntKind.u8 (↑(x.snd i) : Int)] = [AV.int IntKind.u8 (↑(x.snd i) : Int)]) ∧
                                                                                  True) ∧
                                                                        ((3 : TypeId) = (3 : TypeId) ∧
                                                                            (1 : Nat) = (1 : Nat) ∧
                                                                              t_1.snd.snd.snd.fst = t'.snd.snd.snd.fst ∧
                                                                                t'.snd.snd.snd.snd.length ≤ t_1.snd.snd.snd.snd.length ∧
                                                                                  ∀ (i : Nat),
                                                                                    i < t'.snd.snd.snd.snd.length →
                                                                                      [AV.int IntKind.i64 (t_1.snd.snd.snd.snd.getD i 0)] =
                                                                                        [AV.int IntKind.i64 (t'.snd.snd.snd.snd.getD i 0)]) ∧
                                                                          True))
                                                (I64 ((↑t_1.fst : Int) + 1) ∧
                                                  Exx (Nat × Nat × List Int) fun t' =>
                                                    (I t' ∧ m t' < m t) ∧
                                                      Tr 1
                                                          ((true = true ∧ NilNil ∧ (0 : Nat) = (0 : Nat)) ∧
                                                            Tr 1
                                                              ((true = true ∧
                                                                  NilNil ∧
                                                                    (0 : Nat) = (0 : Nat) ∧
                                                                      (1 : Nat) = (1 : Nat) ∧
                                                                        (0 : Nat) = (0 : Nat) ∧ t_1.snd.snd.snd.snd.length = t'.snd.snd.length ∧ t_1.snd.snd.snd.fst = t'.snd.fst) ∧
                                                                Tr 1 ((↑t_1.fst : Int) + 1 = (↑t'.fst : Int)) ∧ Tr 36 True)) ∧
                                                        true = true ∧
                                                          ((82 : TypeId) = (82 : TypeId) ∧
                                                              Tr 1 (x.fst = x.fst) ∧
                                                                (1 : Nat) = (1 : Nat) ∧
                                                                  (48 : Nat) = (48 : Nat) ∧
                                                                    (∀ (i : Nat), i < 48 → [AV.int IntKind.u8 (↑(x.snd i) : Int)] = [AV.int IntKind.u8 (↑(x.snd i) : Int)]) ∧
                                                                      True) ∧
                                                            ((3 : TypeId) = (3 : TypeId) ∧
                                                                (1 : Nat) = (1 : Nat) ∧
                                                                  t_1.snd.snd.snd.fst = t'.snd.fst ∧
                                                                    t'.snd.snd.length ≤ t_1.snd.snd.snd.snd.length ∧
                                                                      ∀ (i : Nat),
                                                                        i < t'.snd.snd.length →
                                                                          [AV.int IntKind.i64 (t_1.snd.snd.snd.snd.getD i 0)] = [AV.int IntKind.i64 (t'.snd.snd.getD i 0)]) ∧
                                                              True))
                            (Exx Nat fun y =>
                              (((true = true ∧
                                      NilNil ∧
                                        (0 : Nat) = (0 : Nat) ∧ (1 : Nat) = (1 : Nat) ∧ (0 : Nat) = (0 : Nat) ∧ t.snd.snd.length = (chartL x.fst x.snd).length ∧ t.snd.fst = y) ∧
                                    True) ∧
                                  true = true ∧
                                    ((3 : TypeId) = (3 : TypeId) ∧
                                        (1 : Nat) = (1 : Nat) ∧
                                          t.snd.fst = y ∧
                                            (chartL x.fst x.snd).length ≤ t.snd.snd.length ∧
                                              ∀ (i : Nat),
                                                i < (chartL x.fst x.snd).length →
                                                  [AV.int IntKind.i64 (t.snd.snd.getD i 0)] = [AV.int IntKind.i64 ((chartL x.fst x.snd).getD i 0)]) ∧
                                      True) ∧
                                (chartL x.fst x.snd).length ≤ y))
                (Exx Nat fun y =>
                  (((true = true ∧
                          NilNil ∧ (0 : Nat) = (0 : Nat) ∧ (1 : Nat) = (1 : Nat) ∧ (0 : Nat) = (0 : Nat) ∧ t.snd.snd.length = (chartL x.fst x.snd).length ∧ t.snd.fst = y) ∧
                        True) ∧
                      true = true ∧
                        ((3 : TypeId) = (3 : TypeId) ∧
                            (1 : Nat) = (1 : Nat) ∧
                              t.snd.fst = y ∧
                                (chartL x.fst x.snd).length ≤ t.snd.snd.length ∧
                                  ∀ (i : Nat), i < (chartL x.fst x.snd).length → [AV.int IntKind.i64 (t.snd.snd.getD i 0)] = [AV.int IntKind.i64 ((chartL x.fst x.snd).getD i 0)]) ∧
                          True) ∧
                    (chartL x.fst x.snd).length ≤ y)) =
    (fnVC tb [(76, specOf refRightC)] Tryd.f65 refListC (fun x => { loops := [(3, refListLA x), (7, refListLB x)] }) (fun _ => some [some 0, some 2])) := by kernel_rfl

theorem refList_ok : SpecOk Tryd.prog 65 (specOf refListC) := by
  refine specOk mixed tb_ok (SPok.cons refRight_ok SPok.nil) Tryd.func65 (by decide) (rowIC_ok fun _ _ _ => rfl) (an := (fun x => { loops := [(3, refListLA x), (7, refListLB x)] })) (σ := (fun _ => some [some 0, some 2])) ?_
  rw [← refListV]
  simp (maxSteps := 10000000) only [and_false, false_and, false_or, or_false, bOf_true, bOf_false, true_bOf, false_bOf, Exx, int_ite, merge_o, Tr_eq, true_and, and_true, exists_const, forall_const, implies_true, forall_eq, exists_eq, exists_eq', exists_eq_left, exists_eq_left', exists_eq_right, Prod.exists, Prod.forall, and_assoc, exists_and_left, BC_iff, Bool.not_eq_true', Bool.not_eq_false', decide_eq_true_eq, decide_eq_false_iff_not, I64, nat_cast_inj, Int.toNat_natCast, nats_iff, nats_iff', ints_iff, ints_iff', natss_iff, natss_iff', nilnil, litL_eq, str_inj, str_append, str_length, str_getD, str_take, lit1_iff, one_iff, two_iff, one_get, Nat.zero_add, Nat.sub_zero, Nat.reduceMul, Nat.reduceDiv, Nat.reduceAdd, Int.reduceToNat, Nat.not_lt_zero, if_false, if_true, Nat.le_refl, List.length_singleton, List.length_cons, List.length_nil, Bool.false_eq_true, not_true_eq_false, false_implies, not_false_eq_true, Prod.mk.injEq]
  rintro p f hw
  have hc := fun k => chartP_len p f k
  refine ⟨fun s => s.1 ≤ 48 ∧ s.2.2 = chartP p f (8 * s.1) ∧ s.2.2.length ≤ s.2.1, ⟨0, 0, [], ⟨by simp, (chartP_zero p f).symm, Nat.le_refl _⟩, rfl, rfl, rfl, rfl, rfl⟩, fun s => 48 - s.1, ?_⟩
  rintro i c l ⟨hi, hl, hlc⟩
  simp only at hi hl hlc
  refine ⟨fun hlt => ⟨f, fun _ _ => rfl, hw, fun hr => ?_, fun hr => ?_⟩, fun hge => ?_⟩
  · have hp := hr
    unfold chartRt at hp
    have hf : f i < 256 := hw.2 i (by omega)
    refine ⟨by omega, by omega, by omega, fun s => s.1 = i ∧ s.2.1 ≤ 8 ∧ s.2.2.1 = f i / 2 ^ s.2.1 ∧ s.2.2.2.2 = chartP p f (8 * i + s.2.1) ∧ s.2.2.2.2.length ≤ s.2.2.2.1, ⟨i, 0, f i, c, l, ⟨rfl, by simp, by simp, by simpa using hl, hlc⟩, rfl, rfl, rfl, wrapI _ ⟨by omega, by omega⟩, rfl, rfl, Nat.le_refl _, fun _ _ => rfl⟩, fun s => 8 - s.2.1, ?_⟩
    rintro i' k x c2 l2 ⟨h1, h2, h3, h4, h5⟩
    simp only at h1 h2 h3 h4 h5
    subst h1
    have hlen := hc (8 * i' + k)
    rw [← h4] at hlen
    have ht : (x : Int).tmod 2 = ((x % 2 : Nat) : Int) := rfl
    have hq : (x : Int).tdiv 2 = ((x / 2 : Nat) : Int) := rfl
    have hx : x ≤ f i' := by rw [h3]; exact Nat.div_le_self _ _
    have hx2 : x / 2 = f i' / 2 ^ (k + 1) := by rw [h3, Nat.div_div_eq_div_mul, Nat.pow_succ]
    have hbit : (x % 2 = 1) ↔ (f i').testBit k = true := by rw [h3]; exact bit_shift _ _
    rw [ht, hq]
    refine ⟨fun hk => ⟨by omega, fun h => ?_, fun h => ?_⟩, fun hk => ?_⟩
    · refine ⟨by omega, by omega, by omega, by omega, by omega, by omega, by omega, by omega, by omega, by omega, fun cap hcap => ⟨by omega, by omega, by omega, by omega, by omega, i', k + 1, x / 2, cap, l2 ++ [384 * p + 8 * (i' : Int) + (k : Int)], ⟨rfl, by simp only; omega, hx2, ?_, by simpa using hcap.1⟩, by simp only; omega, by simp, rfl, rfl, rfl, by omega, rfl, by simp, fun j hj => snocG (enc := fun x => [AV.int .i64 x]) hj⟩⟩
      have hb : chBit f (8 * i' + k) = true := by
        rw [chBit, show (8 * i' + k) / 8 = i' by omega, show (8 * i' + k) % 8 = k by omega]; exact hbit.1 (by omega)
      simp only
      rw [show 8 * i' + (k + 1) = 8 * i' + k + 1 from rfl, chartP_succ, if_pos ⟨hr, hb⟩, ← h4]
      congr 2; omega
    · refine ⟨by omega, by omega, by omega, by omega, by omega, i', k + 1, x / 2, c2, l2, ⟨rfl, by simp only; omega, hx2, ?_, h5⟩, by simp only; omega, rfl, rfl, rfl, rfl, by omega, rfl, Nat.le_refl _, fun _ _ => rfl⟩
      have hb : ¬ (chartRt p ∧ chBit f (8 * i' + k) = true) := fun ⟨_, hb⟩ => by
        rw [chBit, show (8 * i' + k) / 8 = i' by omega, show (8 * i' + k) % 8 = k by omega] at hb
        have := hbit.2 hb; omega
      simp only
      rw [show 8 * i' + (k + 1) = 8 * i' + k + 1 from rfl, chartP_succ, if_neg hb, List.append_nil, h4]
    · refine ⟨by omega, by omega, i' + 1, c2, l2, ⟨by simp only; omega, ?_, h5⟩, by simp only; omega, rfl, rfl, by omega, rfl, Nat.le_refl _, fun _ _ => rfl⟩
      simp only
      rw [h4, show 8 * i' + k = 8 * (i' + 1) by omega]
  · have : chartL p f = [] := by unfold chartL chartP; rw [if_neg hr]
    have e : l = [] := by rw [hl]; unfold chartP; rw [if_neg hr]
    rw [this, e]
    exact ⟨rfl, Nat.le_refl _, fun _ _ => rfl, Nat.zero_le _⟩
  · have : l = chartL p f := by rw [hl, show i = 48 by omega]; rfl
    subst this
    exact ⟨rfl, Nat.le_refl _, fun _ _ => rfl, hlc⟩

theorem clr_or (w r : Nat) : clr w r ||| 2 ^ r = w ||| 2 ^ r := by
  apply Nat.eq_of_testBit_eq
  intro i
  rw [Nat.testBit_or, Nat.testBit_or, clr_bit, Nat.testBit_two_pow]
  cases w.testBit i <;> cases decide (r = i) <;> rfl
/-- The octets of the chart of a place, of a list's numbers. -/
def madeF (p : Nat) (l : List Int) (k : Nat) : Nat := chartF (addL (384 * p + 384) 0 l) p k
def madeC : Ctr := pureC (Nat × List Int) (fun x => x.1 ≤ 1000 ∧ IntL x.2) (fun x => [i64 (x.1 : Nat), intA x.2]) (fun x => chartA (x.1 : Nat) (madeF x.1 x.2))
def madeLA (x : Nat × List Int) : LA := { T := Nat, F := fun i => frm 54 [(0, i64 (x.1 : Nat)), (1, intA x.2), (4, .ptr 1 [] 0), (5, .ptr 2 [] 0), (6, i64 (i : Nat))], H := fun i => [.fence, .cells 82 [i64 0, .arr 1 48 (fun _ => [.int .u8 0])], .cells 82 (chartV (x.1 : Nat) (madeF x.1 (x.2.take i)))] }

-- callees: 
theorem madeV : (∀ (x : Nat × List Int),
  x.fst ≤ 1000 ∧ IntL x.snd →
    Exx (Nat → Prop) fun I =>
      Exx (Nat → Nat) fun m =>
        (Exx Nat fun t =>
            I t ∧
              (Tr 1 ((↑x.fst : Int) = (↑x.fst : Int)) ∧
                  ((1 : Nat) = (1 : Nat) ∧
                      x.snd.length = x.snd.length ∧ ∀ (i : Nat), i < x.snd.length → [AV.int IntKind.i64 (x.snd.getD i 0)] = [AV.int IntKind.i64 (x.snd.getD i 0)]) ∧
                    Tr 2 ((true = true ∧ NilNil ∧ (0 : Nat) = (0 : Nat)) ∧ (true = true ∧ NilNil ∧ (0 : Nat) = (0 : Nat)) ∧ Tr 1 ((0 : Int) = (↑t : Int)) ∧ Tr 47 True)) ∧
                true = true ∧
                  ((82 : Nat) = (82 : TypeId) ∧
                      Tr 1 ((0 : Int) = (0 : Int)) ∧
                        (1 : Nat) = (1 : Nat) ∧ (48 : Nat) = (48 : Nat) ∧ (∀ (i : Nat), i < 48 → [AV.int IntKind.u8 (0 : Int)] = [AV.int IntKind.u8 (0 : Int)]) ∧ True) ∧
                    ((82 : Nat) = (82 : TypeId) ∧
                        Tr 1 ((↑x.fst : Int) = (↑x.fst : Int)) ∧
                          (1 : Nat) = (1 : Nat) ∧
                            (48 : Nat) = (48 : Nat) ∧ (∀ (i : Nat), i < 48 → [AV.int IntKind.u8 0] = [AV.int IntKind.u8 (↑(madeF x.fst (List.take t x.snd) i) : Int)]) ∧ True) ∧
                      True) ∧
          ∀ (t : Nat),
            I t →
              BC (decide ((↑t : Int) < (↑x.snd.length : Int)))
                (((0 : Int) ≤ (↑t : Int) ∧ (↑t : Int) < (↑x.snd.length : Int)) ∧
                  I64 (384 * (↑x.fst : Int)) ∧
                    BC (decide (384 * (↑x.fst : Int) ≤ x.snd.getD (↑t : Int).toNat 0))
                      (((0 : Int) ≤ (↑t : Int) ∧ (↑t : Int) < (↑x.snd.length : Int)) ∧
                        I64 (384 * (↑x.fst : Int)) ∧
                          I64 (384 * (↑x.fst : Int) + 384) ∧
                            BC (decide (x.snd.getD (↑t : Int).toNat 0 < 384 * (↑x.fst : Int) + 384))
                              (((0 : Int) ≤ (↑t : Int) ∧ (↑t : Int) < (↑x.snd.length : Int)) ∧
                                I64 (384 * (↑x.fst : Int)) ∧
                                  I64 (x.snd.getD (↑t : Int).toNat 0 - 384 * (↑x.fst : Int)) ∧
                                    (8 : Int) ≠ (0 : Int) ∧
                                      I64 ((x.snd.getD (↑t : Int).toNat 0 - 384 * (↑x.fst : Int)).tdiv 8) ∧
                                        (8 : Int) ≠ (0 : Int) ∧
                                          I64 ((x.snd.getD (↑t : Int).toNat 0 - 384 * (↑x.fst : Int)).tdiv 8) ∧
                                            ((0 : Int) ≤ (x.snd.getD (↑t : Int).toNat 0 - 384 * (↑x.fst : Int)).tdiv 8 ∧
                                                (x.snd.getD (↑t : Int).toNat 0 - 384 * (↑x.fst : Int)).tdiv 8 < (↑48 : Int)) ∧
                                              ((x.snd.getD (↑t : Int).toNat 0 - 384 * (↑x.fst : Int)).tdiv 8).toNat < 48 ∧
                                                (8 : Int) ≠ (0 : Int) ∧
                                                  ∀ (n : Int),
                                                    n = (x.snd.getD (↑t : Int).toNat 0 - 384 * (↑x.fst : Int)).tmod 8 →
                                                      (0 : Int) ≤ n ∧
                                                        ∀ (n_1 : Int),
                                                          n_1 = IntKind.u8.wrap (1 * 2 ^ min n.toNat IntKind.u8.bits) →
                                                            ∀ (n : Int),
                                                              n =
                                                                  bits BinOp.or IntKind.u8
                                                                    (↑(madeF x.fst (List.take t x.snd) ((x.snd.getD (↑t : Int).toNat 0 - 384 * (↑x.fst : Int)).tdiv 8).toNat) : Int)
                                                                    n_1 →
                                                                ((0 : Int) ≤ (x.snd.getD (↑t : Int).toNat 0 - 384 * (↑x.fst : Int)).tdiv 8 ∧
                                                                    (x.snd.getD (↑t : Int).toNat 0 - 384 * (↑x.fst : Int)).tdiv 8 < (↑48 : Int)) ∧
                                                                  ((x.snd.getD (↑t : Int).toNat 0 - 384 * (↑x.fst : Int)).tdiv 8).toNat < 48 ∧
                                                                    I64 ((↑t : Int) + 1) ∧
                                                                      Exx Nat fun t' =>
                                                                        (I t' ∧ m t' < m t) ∧
                                                                          (Tr 1 ((↑x.fst : Int) = (↑x.fst : Int)) ∧
                                                                              ((1 : Nat) = (1 : Nat) ∧
                                                                                  x.snd.length = x.snd.length ∧
                                                                                    ∀ (i : Nat),
                                                                                      i < x.snd.length →
                                                                                        [AV.int IntKind.i64 (x.snd.getD i 0)] = [AV.int IntKind.i64 (x.snd.getD i 0)]) ∧
                                                                                Tr 2
                                                                                  ((true = true ∧ NilNil ∧ (0 : Nat) = (0 : Nat)) ∧
                                                                                    (true = true ∧ NilNil ∧ (0 : Nat) = (0 : Nat)) ∧
                                                                                      Tr 1 ((↑t : Int) + 1 = (↑t' : Int)) ∧ Tr 47 True)) ∧
                                                                            true = true ∧
                                                                              ((82 : TypeId) = (82 : TypeId) ∧
                                                                                  Tr 1 ((0 : Int) = (0 : Int)) ∧
                                                                                    (1 : Nat) = (1 : Nat) ∧
                                                                                      (48 : Nat) = (48 : Nat) ∧
                                                                                        (∀ (i : Nat), i < 48 → [AV.int IntKind.u8 (0 : Int)] = [AV.int IntKind.u8 (0 : Int)]) ∧
                                                                                          True) ∧
                                                                                ((82 : TypeId) = (82 : TypeId) ∧
                                                                                    Tr 1 ((↑x.fst : Int) = (↑x.fst : Int)) ∧
                                                                                      (1 : Nat) = (1 : Nat) ∧
                                                                                        (48 : Nat) = (48 : Nat) ∧
                                                                                          (∀ (i : Nat),
                                                                                              i < 48 →
                                                                                                [AV.int IntKind.u8
                                                                                                      (if
                                                                                                          i =
                                                                                                            ((x.snd.getD (↑t : Int).toNat 0 - 384 * (↑x.fst : Int)).tdiv
                                                                                                                8).toNat then
                                                                                                        n
                                                                                                      else (↑(madeF x.fst (List.take t x.snd) i) : Int))] =
                                                                                                  [AV.int IntKind.u8 (↑(madeF x.fst (List.take t' x.snd) i) : Int)]) ∧
                                                                                            True) ∧
                                                                                  True)
                              (I64 ((↑t : Int) + 1) ∧
                                Exx Nat fun t' =>
                                  (I t' ∧ m t' < m t) ∧
                                    (Tr 1 ((↑x.fst : Int) = (↑x.fst : Int)) ∧
                                        ((1 : Nat) = (1 : Nat) ∧
                                            x.snd.length = x.snd.length ∧
                                              ∀ (i : Nat), i < x.snd.length → [AV.int IntKind.i64 (x.snd.getD i 0)] = [AV.int IntKind.i64 (x.snd.getD i 0)]) ∧
                                          Tr 2
                                            ((true = true ∧ NilNil ∧ (0 : Nat) = (0 : Nat)) ∧
                                              (true = true ∧ NilNil ∧ (0 : Nat) = (0 : Nat)) ∧ Tr 1 ((↑t : Int) + 1 = (↑t' : Int)) ∧ Tr 47 True)) ∧
                                      true = true ∧
                                        ((82 : TypeId) = (82 : TypeId) ∧
                                            Tr 1 ((0 : Int) = (0 : Int)) ∧
                                              (1 : Nat) = (1 : Nat) ∧
                                                (48 : Nat) = (48 : Nat) ∧ (∀ (i : Nat), i < 48 → [AV.int IntKind.u8 (0 : Int)] = [AV.int IntKind.u8 (0 : Int)]) ∧ True) ∧
                                          ((82 : TypeId) = (82 : TypeId) ∧
                                              Tr 1 ((↑x.fst : Int) = (↑x.fst : Int)) ∧
                                                (1 : Nat) = (1 : Nat) ∧
                                                  (48 : Nat) = (48 : Nat) ∧
                                                    (∀ (i : Nat),
                                                        i < 48 →
                                                          [AV.int IntKind.u8 (↑(madeF x.fst (List.take t x.snd) i) : Int)] =
                                                            [AV.int IntKind.u8 (↑(madeF x.fst (List.take t' x.snd) i) : Int)]) ∧
                                                      True) ∧
                                            True))
                      (I64 ((↑t : Int) + 1) ∧
                        Exx Nat fun t' =>
                          (I t' ∧ m t' < m t) ∧
                            (Tr 1 ((↑x.fst : Int) = (↑x.fst : Int)) ∧
                                ((1 : Nat) = (1 : Nat) ∧
                                    x.snd.length = x.snd.length ∧ ∀ (i : Nat), i < x.snd.length → [AV.int IntKind.i64 (x.snd.getD i 0)] = [AV.int IntKind.i64 (x.snd.getD i 0)]) ∧
                                  Tr 2
                                    ((true = true ∧ NilNil ∧ (0 : Nat) = (0 : Nat)) ∧
                                      (true = true ∧ NilNil ∧ (0 : Nat) = (0 : Nat)) ∧ Tr 1 ((↑t : Int) + 1 = (↑t' : Int)) ∧ Tr 47 True)) ∧
                              true = true ∧
                                ((82 : TypeId) = (82 : TypeId) ∧
                                    Tr 1 ((0 : Int) = (0 : Int)) ∧
                                      (1 : Nat) = (1 : Nat) ∧
                                        (48 : Nat) = (48 : Nat) ∧ (∀ (i : Nat), i < 48 → [AV.int IntKind.u8 (0 : Int)] = [AV.int IntKind.u8 (0 : Int)]) ∧ True) ∧
                                  ((82 : TypeId) = (82 : TypeId) ∧
                                      Tr 1 ((↑x.fst : Int) = (↑x.fst : Int)) ∧
                                        (1 : Nat) = (1 : Nat) ∧
                                          (48 : Nat) = (48 : Nat) ∧
                                            (∀ (i : Nat),
                                                i < 48 →
                                                  [AV.int IntKind.u8 (↑(madeF x.fst (List.take t x.snd) i) : Int)] =
                                                    [AV.int IntKind.u8 (↑(madeF x.fst (List.take t' x.snd) i) : Int)]) ∧
                                              True) ∧
                                    True))
                (Exx Unit fun y =>
                  (((Tr 1 ((↑x.fst : Int) = (↑x.fst : Int)) ∧
                          (1 : Nat) = (1 : Nat) ∧
                            (48 : Nat) = (48 : Nat) ∧
                              (∀ (i : Nat), i < 48 → [AV.int IntKind.u8 (↑(madeF x.fst (List.take t x.snd) i) : Int)] = [AV.int IntKind.u8 (↑(madeF x.fst x.snd i) : Int)]) ∧
                                True) ∧
                        True) ∧
                      true = true ∧ True) ∧
                    True)) =
    (fnVC tb [] Tryd.f70 madeC (fun x => { loops := [(3, madeLA x)], loose := [(7, [2])] }) (fun _ => none)) := by kernel_rfl

theorem made_ok : SpecOk Tryd.prog 70 (specOf madeC) := by
  refine specOk mixed tb_ok SPok.nil Tryd.func70 (by decide) (pureC_ok fun _ => ⟨rfl, fun _ _ => ⟨rfl, trivial⟩, trivial⟩) (an := (fun x => { loops := [(3, madeLA x)], loose := [(7, [2])] })) (σ := (fun _ => none)) ?_
  rw [← madeV]
  simp (maxSteps := 10000000) only [and_false, false_and, false_or, or_false, bOf_true, bOf_false, true_bOf, false_bOf, Exx, int_ite, merge_o, Tr_eq, true_and, and_true, exists_const, forall_const, implies_true, forall_eq, exists_eq, exists_eq', exists_eq_left, exists_eq_left', exists_eq_right, Prod.exists, Prod.forall, and_assoc, exists_and_left, BC_iff, Bool.not_eq_true', Bool.not_eq_false', decide_eq_true_eq, decide_eq_false_iff_not, I64, nat_cast_inj, Int.toNat_natCast, nats_iff, nats_iff', ints_iff, ints_iff', natss_iff, natss_iff', nilnil, litL_eq, str_inj, str_append, str_length, str_getD, str_take, lit1_iff, one_iff, two_iff, one_get, Nat.zero_add, Nat.sub_zero, Nat.reduceMul, Nat.reduceDiv, Nat.reduceAdd, Int.reduceToNat, Nat.not_lt_zero, if_false, if_true, Nat.le_refl, List.length_singleton, List.length_cons, List.length_nil, Bool.false_eq_true, not_true_eq_false, false_implies, not_false_eq_true, Prod.mk.injEq]
  rintro p l ⟨hp, hl, hlen⟩
  refine ⟨fun i => i ≤ l.length, ⟨0, by omega, rfl, fun i _ => by simp [madeF, addL, chartF_zero]⟩, fun i => l.length - i, fun t ht => ⟨fun hlt => ?_, fun hge i _ => by rw [show t = l.length by omega, List.take_length]⟩⟩
  have hst : ∀ k, madeF p (l.take (t + 1)) k = chartF (add1 (384 * p + 384) (addL (384 * p + 384) 0 (l.take t)) (l.getD t 0)) p k := fun k => by rw [madeF, addL_snoc (by omega)]
  have hI : I64 (l.getD t 0) := getD_mem (p := I64) hl (by unfold I64; omega) t
  generalize l.getD t 0 = a at *
  have hI1 := hI.1
  have hI2 := hI.2
  have hsame : ¬ (384 * (p : Int) ≤ a ∧ a < 384 * (p : Int) + 384) → ∀ i, i < 48 → [AV.int IntKind.u8 ((madeF p (l.take t) i : Nat) : Int)] = [AV.int IntKind.u8 ((madeF p (l.take (t + 1)) i : Nat) : Int)] := fun h i _ => by
    rw [hst, madeF, add1, inB]
    by_cases hb : 0 ≤ a ∧ a < ((384 * p + 384 : Nat) : Int)
    · rw [if_pos (decide_eq_true hb), chartF_or, if_neg (by omega)]
    · rw [if_neg (by rw [decide_eq_false hb]; simp)]
  refine ⟨by omega, by omega, by omega, by omega, fun h1 => ⟨by omega, by omega, by omega, by omega, by omega, by omega, fun h2 => ?_, fun h2 => ⟨by omega, by omega, t + 1, by omega, by simp only; omega, by omega, hsame (fun h => h2 h.2)⟩⟩, fun h1 => ⟨by omega, by omega, t + 1, by omega, by simp only; omega, by omega, hsame (fun h => h1 h.1)⟩⟩
  obtain ⟨r, rfl⟩ : ∃ r : Nat, a = 384 * (p : Int) + (r : Int) := ⟨(a - 384 * (p : Int)).toNat, by omega⟩
  have e1 : 384 * (p : Int) + (r : Int) - 384 * (p : Int) = (r : Int) := by omega
  have e2 : (r : Int).tdiv 8 = ((r / 8 : Nat) : Int) := rfl
  have e3 : (r : Int).tmod 8 = ((r % 8 : Nat) : Int) := rfl
  rw [e1, e2, e3, Int.toNat_natCast, Int.toNat_natCast]
  repeat refine And.intro (by omega) ?_
  refine ⟨t + 1, by omega, by simp only; omega, by omega, fun i hi => ?_⟩
  have hb : (0 : Int) ≤ 384 * (p : Int) + (r : Int) ∧ 384 * (p : Int) + (r : Int) < ((384 * p + 384 : Nat) : Int) := ⟨by omega, by omega⟩
  have hr8 : r % 8 < 8 := Nat.mod_lt _ (by decide)
  rw [hst, add1, inB, if_pos (decide_eq_true hb), show (384 * (p : Int) + (r : Int)).toNat = 384 * p + r by omega, chartF_or, if_pos (show p = (384 * p + r) / 384 by omega), show (384 * p + r) % 384 = r by omega, shl8 hr8]
  by_cases e : i = r / 8
  · rw [if_pos e, markF, if_pos e, if_pos rfl, clr_or, ← e, madeF, bits_or (k := .u8) rfl (chartF_lt _ _ _) (pow8 hr8)]
  · rw [if_neg e, markF, if_neg e, madeF]

def refBelowC : Ctr := pureC (List Int × Int) (fun x => IntL x.1 ∧ I64 x.2) (fun x => [intA x.1, i64 x.2]) (fun x => .bool (x.1.all fun a => decide (a < x.2)))
def refBelowLA (x : List Int × Int) : LA := { T := Nat, F := fun i => frm 18 [(0, intA x.1), (1, i64 x.2), (5, i64 (i : Nat))], H := fun _ => [.fence] }

-- callees: 
theorem refBelowV : (∀ (x : List Int × Int),
  IntL x.fst ∧ I64 x.snd →
    Exx (Nat → Prop) fun I =>
      Exx (Nat → Nat) fun m =>
        (Exx Nat fun t =>
            I t ∧
              (((1 : Nat) = (1 : Nat) ∧
                    x.fst.length = x.fst.length ∧ ∀ (i : Nat), i < x.fst.length → [AV.int IntKind.i64 (x.fst.getD i 0)] = [AV.int IntKind.i64 (x.fst.getD i 0)]) ∧
                  Tr 1 (x.snd = x.snd) ∧ Tr 3 (Tr 1 ((0 : Int) = (↑t : Int)) ∧ Tr 12 True)) ∧
                true = true ∧ True) ∧
          ∀ (t : Nat),
            I t →
              BC (decide ((↑t : Int) < (↑x.fst.length : Int)))
                (((0 : Int) ≤ (↑t : Int) ∧ (↑t : Int) < (↑x.fst.length : Int)) ∧
                  BC (decide (x.snd ≤ x.fst.getD (↑t : Int).toNat 0)) (Exx Unit fun y => (((false = x.fst.all fun a => decide (a < x.snd)) ∧ True) ∧ true = true ∧ True) ∧ True)
                    (I64 ((↑t : Int) + 1) ∧
                      Exx Nat fun t' =>
                        (I t' ∧ m t' < m t) ∧
                          (((1 : Nat) = (1 : Nat) ∧
                                x.fst.length = x.fst.length ∧ ∀ (i : Nat), i < x.fst.length → [AV.int IntKind.i64 (x.fst.getD i 0)] = [AV.int IntKind.i64 (x.fst.getD i 0)]) ∧
                              Tr 1 (x.snd = x.snd) ∧ Tr 3 (Tr 1 ((↑t : Int) + 1 = (↑t' : Int)) ∧ Tr 12 True)) ∧
                            true = true ∧ True))
                (Exx Unit fun y => (((true = x.fst.all fun a => decide (a < x.snd)) ∧ True) ∧ true = true ∧ True) ∧ True)) =
    (fnVC tb [] Tryd.f66 refBelowC (fun x => { loops := [(2, refBelowLA x)] }) (fun _ => none)) := by kernel_rfl

theorem refBelow_ok : SpecOk Tryd.prog 66 (specOf refBelowC) := by
  refine specOk mixed tb_ok SPok.nil Tryd.func66 (by decide) (pureC_ok fun _ => rfl) (an := (fun x => { loops := [(2, refBelowLA x)] })) (σ := (fun _ => none)) ?_
  rw [← refBelowV]
  simp (maxSteps := 10000000) only [and_false, false_and, false_or, or_false, bOf_true, bOf_false, true_bOf, false_bOf, Exx, int_ite, merge_o, Tr_eq, true_and, and_true, exists_const, forall_const, implies_true, forall_eq, exists_eq, exists_eq', exists_eq_left, exists_eq_left', exists_eq_right, Prod.exists, Prod.forall, and_assoc, exists_and_left, BC_iff, Bool.not_eq_true', Bool.not_eq_false', decide_eq_true_eq, decide_eq_false_iff_not, I64, nat_cast_inj, Int.toNat_natCast, nats_iff, nats_iff', ints_iff, ints_iff', natss_iff, natss_iff', nilnil, litL_eq, str_inj, str_append, str_length, str_getD, str_take, lit1_iff, one_iff, two_iff, one_get, Nat.zero_add, Nat.sub_zero, Nat.reduceMul, Nat.reduceDiv, Nat.reduceAdd, Int.reduceToNat, Nat.not_lt_zero, if_false, if_true, Nat.le_refl, List.length_singleton, List.length_cons, List.length_nil, Bool.false_eq_true, not_true_eq_false, false_implies, not_false_eq_true, Prod.mk.injEq]
  rintro l n ⟨⟨hl, hlen⟩, h1, h2⟩
  refine ⟨fun i => i ≤ l.length ∧ ∀ j, j < i → l.getD j 0 < n, ⟨0, ⟨by omega, fun j hj => absurd hj (Nat.not_lt_zero _)⟩, rfl⟩, fun i => l.length - i, fun t ⟨ht, hj⟩ => ⟨fun hlt => ⟨by omega, by omega, fun h => ?_, fun h => ⟨by omega, by omega, t + 1, ⟨by omega, fun j hj' => ?_⟩, by simp only; omega, by omega⟩⟩, fun hge => ?_⟩⟩
  · symm
    rw [List.all_eq_false]
    refine ⟨l.getD t 0, ?_, by rw [decide_eq_true_eq]; omega⟩
    rw [List.getD_eq_getElem?_getD, List.getElem?_eq_getElem (by omega)]; exact List.getElem_mem _
  · by_cases e : j = t
    · subst e; omega
    · exact hj j (by omega)
  · symm
    rw [List.all_eq_true]
    intro x hx
    obtain ⟨j, hj', e⟩ := List.mem_iff_getElem.1 hx
    have := hj j (by omega)
    rw [List.getD_eq_getElem?_getD, List.getElem?_eq_getElem hj'] at this
    rw [← e]; exact decide_eq_true this

def refGapG (l : List Int) (n : Int) : Nat → Int → Int
  | 0, _ => -1
  | k + 1, a => if a < n then if a ∈ l then refGapG l n k (a + 1) else a else -1
def refGapI (l : List Int) (n a : Int) : Int := refGapG l n (n.toNat + 1) (max a 0)
def refGapC : Ctr := pureC (List Int × Int × Int) (fun x => IntL x.1 ∧ I64 x.2.1 ∧ x.2.1 ≤ 3072 ∧ I64 x.2.2) (fun x => [intA x.1, i64 x.2.1, i64 x.2.2]) (fun x => i64 (refGapI x.1 x.2.1 x.2.2))
def refGapLA (x : List Int × Int × Int) : LA := { T := Int, F := fun a => frm 21 [(0, intA x.1), (1, i64 x.2.1), (7, i64 a)], H := fun _ => [.fence] }

-- callees: 27=refHas_ok
theorem refGapV : (∀ (x : List Int × Int × Int),
  IntL x.fst ∧ I64 x.snd.fst ∧ x.snd.fst ≤ (3072 : Int) ∧ I64 x.snd.snd →
    BC (decide (x.snd.snd < (0 : Int)))
      (Exx (Int → Prop) fun I =>
        Exx (Int → Nat) fun m =>
          (Exx Int fun t =>
              I t ∧
                (((1 : Nat) = (1 : Nat) ∧
                      x.fst.length = x.fst.length ∧ ∀ (i : Nat), i < x.fst.length → [AV.int IntKind.i64 (x.fst.getD i 0)] = [AV.int IntKind.i64 (x.fst.getD i 0)]) ∧
                    Tr 1 (x.snd.fst = x.snd.fst) ∧ Tr 5 (Tr 1 ((0 : Int) = t) ∧ Tr 13 True)) ∧
                  true = true ∧ True) ∧
            ∀ (t : Int),
              I t →
                BC (decide (t < x.snd.fst))
                  (Exx (List Int × Int) fun x_1 =>
                    (((x.fst.length = x_1.fst.length ∧ ∀ (i : Nat), i < x_1.fst.length → [AV.int IntKind.i64 (x.fst.getD i 0)] = [AV.int IntKind.i64 (x_1.fst.getD i 0)]) ∧
                          Tr 1 (t = x_1.snd) ∧ True) ∧
                        true = true ∧ True) ∧
                      (IntL x_1.fst ∧ I64 x_1.snd) ∧
                        ∀ (y : Unit),
                          True →
                            BC (!decide (x_1.snd ∈ x_1.fst)) (Exx Unit fun y => ((Tr 1 (t = refGapI x.fst x.snd.fst x.snd.snd) ∧ True) ∧ true = true ∧ True) ∧ True)
                              (I64 (t + 1) ∧
                                Exx Int fun t' =>
                                  (I t' ∧ m t' < m t) ∧
                                    (((1 : Nat) = (1 : Nat) ∧
                                          x.fst.length = x.fst.length ∧
                                            ∀ (i : Nat), i < x.fst.length → [AV.int IntKind.i64 (x.fst.getD i 0)] = [AV.int IntKind.i64 (x.fst.getD i 0)]) ∧
                                        Tr 1 (x.snd.fst = x.snd.fst) ∧ Tr 5 (Tr 1 (t + 1 = t') ∧ Tr 13 True)) ∧
                                      true = true ∧ True))
                  (Exx Unit fun y => ((Tr 1 (-1 = refGapI x.fst x.snd.fst x.snd.snd) ∧ True) ∧ true = true ∧ True) ∧ True))
      (Exx (Int → Prop) fun I =>
        Exx (Int → Nat) fun m =>
          (Exx Int fun t =>
              I t ∧
                (((1 : Nat) = (1 : Nat) ∧
                      x.fst.length = x.fst.length ∧ ∀ (i : Nat), i < x.fst.length → [AV.int IntKind.i64 (x.fst.getD i 0)] = [AV.int IntKind.i64 (x.fst.getD i 0)]) ∧
                    Tr 1 (x.snd.fst = x.snd.fst) ∧ Tr 5 (Tr 1 (x.snd.snd = t) ∧ Tr 13 True)) ∧
                  true = true ∧ True) ∧
            ∀ (t : Int),
              I t →
                BC (decide (t < x.snd.fst))
                  (Exx (List Int × Int) fun x_1 =>
                    (((x.fst.length = x_1.fst.length ∧ ∀ (i : Nat), i < x_1.fst.length → [AV.int IntKind.i64 (x.fst.getD i 0)] = [AV.int IntKind.i64 (x_1.fst.getD i 0)]) ∧
                          Tr 1 (t = x_1.snd) ∧ True) ∧
                        true = true ∧ True) ∧
                      (IntL x_1.fst ∧ I64 x_1.snd) ∧
                        ∀ (y : Unit),
                          True →
                            BC (!decide (x_1.snd ∈ x_1.fst)) (Exx Unit fun y => ((Tr 1 (t = refGapI x.fst x.snd.fst x.snd.snd) ∧ True) ∧ true = true ∧ True) ∧ True)
                              (I64 (t + 1) ∧
                                Exx Int fun t' =>
                                  (I t' ∧ m t' < m t) ∧
                                    (((1 : Nat) = (1 : Nat) ∧
                                          x.fst.length = x.fst.length ∧
                                            ∀ (i : Nat), i < x.fst.length → [AV.int IntKind.i64 (x.fst.getD i 0)] = [AV.int IntKind.i64 (x.fst.getD i 0)]) ∧
                                        Tr 1 (x.snd.fst = x.snd.fst) ∧ Tr 5 (Tr 1 (t + 1 = t') ∧ Tr 13 True)) ∧
                                      true = true ∧ True))
                  (Exx Unit fun y => ((Tr 1 (-1 = refGapI x.fst x.snd.fst x.snd.snd) ∧ True) ∧ true = true ∧ True) ∧ True))) =
    (fnVC tb [(27, specOf refHasC)] Tryd.f28 refGapC (fun x => { loops := [(4, refGapLA x)] }) (fun _ => none)) := by kernel_rfl

theorem refGap_ok : SpecOk Tryd.prog 28 (specOf refGapC) := by
  refine specOk mixed tb_ok (SPok.cons refHas_ok SPok.nil) Tryd.func28 (by decide) (pureC_ok fun _ => rfl) (an := (fun x => { loops := [(4, refGapLA x)] })) (σ := (fun _ => none)) ?_
  rw [← refGapV]
  simp (maxSteps := 10000000) only [and_false, false_and, false_or, or_false, bOf_true, bOf_false, true_bOf, false_bOf, Exx, int_ite, merge_o, Tr_eq, true_and, and_true, exists_const, forall_const, implies_true, forall_eq, exists_eq, exists_eq', exists_eq_left, exists_eq_left', exists_eq_right, Prod.exists, Prod.forall, and_assoc, exists_and_left, BC_iff, Bool.not_eq_true', Bool.not_eq_false', decide_eq_true_eq, decide_eq_false_iff_not, I64, nat_cast_inj, Int.toNat_natCast, nats_iff, nats_iff', ints_iff, ints_iff', natss_iff, natss_iff', nilnil, litL_eq, str_inj, str_append, str_length, str_getD, str_take, lit1_iff, one_iff, two_iff, one_get, Nat.zero_add, Nat.sub_zero, Nat.reduceMul, Nat.reduceDiv, Nat.reduceAdd, Int.reduceToNat, Nat.not_lt_zero, if_false, if_true, Nat.le_refl, List.length_singleton, List.length_cons, List.length_nil, Bool.false_eq_true, not_true_eq_false, false_implies, not_false_eq_true, Prod.mk.injEq]
  rintro l n a ⟨hl, h1, h2, h3, h4, h5⟩
  have key : ∀ b : Int, b = max a 0 → ∃ I : Int → Prop, (∃ x, I x ∧ b = x) ∧ ∃ m : Int → Nat, ∀ t : Int, I t → (t < n → IntL l ∧ -9223372036854775808 ≤ t ∧ t ≤ 9223372036854775807 ∧ (¬t ∈ l → t = refGapI l n a) ∧ (t ∈ l → -9223372036854775808 ≤ t + 1 ∧ t + 1 ≤ 9223372036854775807 ∧ ∃ x, I x ∧ m x < m t ∧ t + 1 = x)) ∧ (¬t < n → -1 = refGapI l n a) := by
    rintro b rfl
    refine ⟨fun t => 0 ≤ t ∧ t ≤ 9223372036854775807 ∧ ∃ k : Nat, n < t + k ∧ refGapI l n a = refGapG l n k t, ⟨max a 0, ⟨by omega, by omega, n.toNat + 1, by omega, rfl⟩, rfl⟩, fun t => (n - t).toNat, ?_⟩
    rintro t ⟨ht0, ht1, k, hk, e⟩
    cases k with
    | zero => exact ⟨fun h => by omega, fun h => by rw [e]; rfl⟩
    | succ k =>
      rw [refGapG] at e
      refine ⟨fun h => ⟨hl, by omega, by omega, fun hm => ?_, fun hm => ⟨by omega, by omega, t + 1, ⟨by omega, by omega, k, by omega, ?_⟩, by simp only; omega, rfl⟩⟩, fun h => ?_⟩
      · rw [e, if_pos h, if_neg hm]
      · rw [e, if_pos h, if_pos hm]
      · rw [e, if_neg h]
  exact ⟨fun h => key 0 (by omega), fun h => key a (by omega)⟩

def refWithoutC : Ctr := rowIC (List Int × List Int) (fun x => Ints x.1 ∧ IntL x.2) (fun x => [intA x.1, intA x.2]) 3 .i64 (fun x => x.1.filter fun y => !decide (y ∈ x.2)) (fun _ r => r)
def refWithoutLA (x : List Int × List Int) : LA := { T := Nat × Nat × List Int, F := fun s => frm 28 [(0, intA x.1), (1, intA x.2), (5, .sl 1 [] 0 1 0 s.2.2.length s.2.1), (6, i64 (s.1 : Nat))], H := fun s => [.fence, rowI 3 .i64 s.2.1 s.2.2] }

-- callees: 27=refHas_ok
theorem refWithoutV : (∀ (x : List Int × List Int),
  Ints x.fst ∧ IntL x.snd →
    Exx (Nat × Nat × List Int → Prop) fun I =>
      Exx (Nat × Nat × List Int → Nat) fun m =>
        (Exx (Nat × Nat × List Int) fun t =>
            I t ∧
              (((1 : Nat) = (1 : Nat) ∧
                    x.fst.length = x.fst.length ∧ ∀ (i : Nat), i < x.fst.length → [AV.int IntKind.i64 (x.fst.getD i 0)] = [AV.int IntKind.i64 (x.fst.getD i 0)]) ∧
                  ((1 : Nat) = (1 : Nat) ∧
                      x.snd.length = x.snd.length ∧ ∀ (i : Nat), i < x.snd.length → [AV.int IntKind.i64 (x.snd.getD i 0)] = [AV.int IntKind.i64 (x.snd.getD i 0)]) ∧
                    Tr 3 ((t.snd.snd.length = 0 ∧ t.snd.fst = 0) ∧ Tr 1 ((0 : Int) = (↑t.fst : Int)) ∧ Tr 21 True)) ∧
                true = true ∧ (t.snd.fst = 0 ∧ t.snd.snd.length = 0) ∧ True) ∧
          ∀ (t : Nat × Nat × List Int),
            I t →
              BC (decide ((↑t.fst : Int) < (↑x.fst.length : Int)))
                (((0 : Int) ≤ (↑t.fst : Int) ∧ (↑t.fst : Int) < (↑x.fst.length : Int)) ∧
                  Exx (List Int × Int) fun x_1 =>
                    (((x.snd.length = x_1.fst.length ∧ ∀ (i : Nat), i < x_1.fst.length → [AV.int IntKind.i64 (x.snd.getD i 0)] = [AV.int IntKind.i64 (x_1.fst.getD i 0)]) ∧
                          Tr 1 (x.fst.getD (↑t.fst : Int).toNat 0 = x_1.snd) ∧ True) ∧
                        true = true ∧ True) ∧
                      (IntL x_1.fst ∧ I64 x_1.snd) ∧
                        ∀ (y : Unit),
                          True →
                            BC (!decide (x_1.snd ∈ x_1.fst))
                              (((0 : Int) ≤ (↑t.fst : Int) ∧ (↑t.fst : Int) < (↑x.fst.length : Int)) ∧
                                (0 : Nat) + (1 : Nat) ≤ (1 : Nat) ∧
                                  true = true ∧
                                    (t.snd.snd.length ≤ t.snd.snd.length ∧ t.snd.fst = t.snd.fst) ∧
                                      (t.snd.snd.length + 1 ≤ 9223372036854775807 ∧ (t.snd.snd.length + 1) * 8 ≤ 140737488355328) ∧
                                        ∀ (cap : Nat),
                                          t.snd.snd.length + 1 ≤ cap ∧ cap ≤ 9223372036854775807 →
                                            I64 ((↑t.fst : Int) + 1) ∧
                                              Exx (Nat × Nat × List Int) fun t' =>
                                                (I t' ∧ m t' < m t) ∧
                                                  (((1 : Nat) = (1 : Nat) ∧
                                                        x.fst.length = x.fst.length ∧
                                                          ∀ (i : Nat), i < x.fst.length → [AV.int IntKind.i64 (x.fst.getD i 0)] = [AV.int IntKind.i64 (x.fst.getD i 0)]) ∧
                                                      ((1 : Nat) = (1 : Nat) ∧
                                                          x.snd.length = x.snd.length ∧
                                                            ∀ (i : Nat), i < x.snd.length → [AV.int IntKind.i64 (x.snd.getD i 0)] = [AV.int IntKind.i64 (x.snd.getD i 0)]) ∧
                                                        Tr 3
                                                          ((true = true ∧
                                                              NilNil ∧
                                                                (0 : Nat) = (0 : Nat) ∧
                                                                  (1 : Nat) = (1 : Nat) ∧ (0 : Nat) = (0 : Nat) ∧ t.snd.snd.length + 1 = t'.snd.snd.length ∧ cap = t'.snd.fst) ∧
                                                            Tr 1 ((↑t.fst : Int) + 1 = (↑t'.fst : Int)) ∧ Tr 21 True)) ∧
                                                    true = true ∧
                                                      ((3 : TypeId) = (3 : TypeId) ∧
                                                          (1 : Nat) = (1 : Nat) ∧
                                                            cap = t'.snd.fst ∧
                                                              t'.snd.snd.length ≤ t.snd.snd.length + 1 ∧
                                                                ∀ (i : Nat),
                                                                  i < t'.snd.snd.length →
                                                                    (if i < t.snd.snd.length then [AV.int IntKind.i64 (t.snd.snd.getD i 0)]
                                                                      else
                                                                        [AV.int IntKind.i64
                                                                            (if 0 + (i - t.snd.snd.length) = 0 * 1 / 1 then x.fst.getD (↑t.fst : Int).toNat 0 else 0)]) =
                                                                      [AV.int IntKind.i64 (t'.snd.snd.getD i 0)]) ∧
                                                        True)
                              (I64 ((↑t.fst : Int) + 1) ∧
                                Exx (Nat × Nat × List Int) fun t' =>
                                  (I t' ∧ m t' < m t) ∧
                                    (((1 : Nat) = (1 : Nat) ∧
                                          x.fst.length = x.fst.length ∧
                                            ∀ (i : Nat), i < x.fst.length → [AV.int IntKind.i64 (x.fst.getD i 0)] = [AV.int IntKind.i64 (x.fst.getD i 0)]) ∧
                                        ((1 : Nat) = (1 : Nat) ∧
                                            x.snd.length = x.snd.length ∧
                                              ∀ (i : Nat), i < x.snd.length → [AV.int IntKind.i64 (x.snd.getD i 0)] = [AV.int IntKind.i64 (x.snd.getD i 0)]) ∧
                                          Tr 3
                                            ((true = true ∧
                                                NilNil ∧
                                                  (0 : Nat) = (0 : Nat) ∧
                                                    (1 : Nat) = (1 : Nat) ∧ (0 : Nat) = (0 : Nat) ∧ t.snd.snd.length = t'.snd.snd.length ∧ t.snd.fst = t'.snd.fst) ∧
                                              Tr 1 ((↑t.fst : Int) + 1 = (↑t'.fst : Int)) ∧ Tr 21 True)) ∧
                                      true = true ∧
                                        ((3 : TypeId) = (3 : TypeId) ∧
                                            (1 : Nat) = (1 : Nat) ∧
                                              t.snd.fst = t'.snd.fst ∧
                                                t'.snd.snd.length ≤ t.snd.snd.length ∧
                                                  ∀ (i : Nat), i < t'.snd.snd.length → [AV.int IntKind.i64 (t.snd.snd.getD i 0)] = [AV.int IntKind.i64 (t'.snd.snd.getD i 0)]) ∧
                                          True))
                (Exx Nat fun y =>
                  (((true = true ∧
                          NilNil ∧
                            (0 : Nat) = (0 : Nat) ∧
                              (1 : Nat) = (1 : Nat) ∧ (0 : Nat) = (0 : Nat) ∧ t.snd.snd.length = (List.filter (fun y => !decide (y ∈ x.snd)) x.fst).length ∧ t.snd.fst = y) ∧
                        True) ∧
                      true = true ∧
                        ((3 : TypeId) = (3 : TypeId) ∧
                            (1 : Nat) = (1 : Nat) ∧
                              t.snd.fst = y ∧
                                (List.filter (fun y => !decide (y ∈ x.snd)) x.fst).length ≤ t.snd.snd.length ∧
                                  ∀ (i : Nat),
                                    i < (List.filter (fun y => !decide (y ∈ x.snd)) x.fst).length →
                                      [AV.int IntKind.i64 (t.snd.snd.getD i 0)] = [AV.int IntKind.i64 ((List.filter (fun y => !decide (y ∈ x.snd)) x.fst).getD i 0)]) ∧
                          True) ∧
                    (List.filter (fun y => !decide (y ∈ x.snd)) x.fst).length ≤ y)) =
    (fnVC tb [(27, specOf refHasC)] Tryd.f41 refWithoutC (fun x => { loops := [(3, refWithoutLA x)] }) (fun _ => none)) := by kernel_rfl

theorem refWithout_ok : SpecOk Tryd.prog 41 (specOf refWithoutC) := by
  refine specOk mixed tb_ok (SPok.cons refHas_ok SPok.nil) Tryd.func41 (by decide) (rowIC_ok fun _ _ _ => rfl) (an := (fun x => { loops := [(3, refWithoutLA x)] })) (σ := (fun _ => none)) ?_
  rw [← refWithoutV]
  simp (maxSteps := 10000000) only [and_false, false_and, false_or, or_false, bOf_true, bOf_false, true_bOf, false_bOf, Exx, int_ite, merge_o, Tr_eq, true_and, and_true, exists_const, forall_const, implies_true, forall_eq, exists_eq, exists_eq', exists_eq_left, exists_eq_left', exists_eq_right, Prod.exists, Prod.forall, and_assoc, exists_and_left, BC_iff, Bool.not_eq_true', Bool.not_eq_false', decide_eq_true_eq, decide_eq_false_iff_not, I64, nat_cast_inj, Int.toNat_natCast, nats_iff, nats_iff', ints_iff, ints_iff', natss_iff, natss_iff', nilnil, litL_eq, str_inj, str_append, str_length, str_getD, str_take, lit1_iff, one_iff, two_iff, one_get, Nat.zero_add, Nat.sub_zero, Nat.reduceMul, Nat.reduceDiv, Nat.reduceAdd, Int.reduceToNat, Nat.not_lt_zero, if_false, if_true, Nat.le_refl, List.length_singleton, List.length_cons, List.length_nil, Bool.false_eq_true, not_true_eq_false, false_implies, not_false_eq_true, Prod.mk.injEq]
  rintro l q ⟨⟨h1, h2⟩, hq⟩
  refine ⟨fun s => s.1 ≤ l.length ∧ s.2.2 = (l.take s.1).filter (fun y => !decide (y ∈ q)) ∧ s.2.2.length ≤ s.2.1, ⟨0, 0, [], ⟨by simp, by simp, Nat.le_refl _⟩, rfl, rfl, rfl, rfl, rfl⟩, fun s => l.length - s.1, ?_⟩
  rintro i c m ⟨hi, hm, hc⟩
  simp only at hi hm hc
  have hlen : m.length ≤ i := by
    have := List.length_filter_le (fun y => !decide (y ∈ q)) (l.take i)
    rw [← hm, List.length_take] at this; omega
  have hI : I64 (l.getD i 0) := getD_mem (p := I64) h1 (by unfold I64; omega) i
  refine ⟨fun hlt => ⟨by omega, by omega, hq, hI.1, hI.2, fun hne => ⟨by omega, by omega, by omega, by omega, ?_⟩, fun he => ?_⟩, fun hge => ?_⟩
  · rintro cap ⟨hc1, hc2⟩
    refine ⟨by omega, by omega, i + 1, cap, m ++ [l.getD i 0], ⟨by simp only; omega, ?_, by simpa using hc1⟩, by simp only; omega, by simp, rfl, by omega, rfl, by simp, fun j hj => snocG (enc := fun x => [AV.int .i64 x]) hj⟩
    simp only
    rw [take_succ_getD 0 (by omega), List.filter_append, hm, List.filter_cons, if_pos (by simpa using hne)]; rfl
  · refine ⟨by omega, by omega, i + 1, c, m, ⟨by simp only; omega, ?_, hc⟩, by simp only; omega, rfl, rfl, by omega, rfl, Nat.le_refl _, fun _ _ => rfl⟩
    simp only
    rw [take_succ_getD 0 (by omega), List.filter_append, ← hm, List.filter_cons, if_neg (by simpa using he)]; simp
  · rw [show i = l.length by omega, List.take_length] at hm
    subst hm
    exact ⟨rfl, Nat.le_refl _, fun _ _ => rfl, hc⟩

end Yard
