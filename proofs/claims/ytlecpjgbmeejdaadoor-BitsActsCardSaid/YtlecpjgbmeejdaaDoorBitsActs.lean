/- The law of the acts on a set. -/
import Derived.Test.YtlecpjgbmeejdaaDoorAwake17
import Derived.Test.YtlecpjgbmeejdaaDoorRefSet
namespace Yard
open Go Go.Sx Go.Proofs
set_option linter.unusedVariables false
set_option linter.unusedSimpArgs false
set_option maxRecDepth 4000

theorem has_ref {s : Nat × Nat} {a : Int} : hasN s a = decide (a ∈ listN s) := by
  rw [hasN, Bool.eq_iff_iff, Bool.and_eq_true, decide_eq_true_eq, decide_eq_true_eq, mem_listN, inSet, and_assoc]
theorem gap_ref (s : Nat × Nat) : ∀ k a : Nat, refGapG (listN s) (s.1 : Int) k (a : Int) = gapF s k a
  | 0, _ => rfl
  | k + 1, a => by
    have ih := gap_ref s k (a + 1)
    rw [refGapG, gapF]
    by_cases h : a < s.1
    · rw [if_pos (by omega), if_pos h]
      have : ((a : Int) ∈ listN s) ↔ s.2.testBit a = true := by
        rw [mem_listN, Int.toNat_natCast]
        exact ⟨fun h => h.2.2, fun h' => ⟨by omega, by omega, h'⟩⟩
      cases hb : s.2.testBit a
      · rw [if_neg (by rw [this, hb]; simp), if_neg (by simp)]
      · rw [if_pos (this.2 hb), if_pos rfl, ← ih]; rfl
    · rw [if_neg (by omega), if_neg h]
theorem gapN_ref (s : Nat × Nat) (a : Int) : refGapI (listN s) (s.1 : Int) a = gapN s a := by
  rw [refGapI, gapN, Int.toNat_natCast, ← gap_ref s (s.1 + 1) a.toNat]
  congr 1; omega

def stepM (d : Bool) (c m : Nat) (l : List Int) : Nat := if d then dropL c m l else addL c m l
theorem stepM_lt {d : Bool} {c m : Nat} {l : List Int} (h : m < 2 ^ c) : stepM d c m l < 2 ^ c := by
  unfold stepM; split
  · exact dropL_lt h
  · exact addL_lt h
theorem stepM_nil {d : Bool} {c m : Nat} : stepM d c m [] = m := by unfold stepM; split <;> rfl
theorem stepM_snoc {d : Bool} {c m : Nat} {l : List Int} {k : Nat} (h : k < l.length) : stepM d c m (l.take (k + 1)) = if d then drop1 c (stepM d c m (l.take k)) (l.getD k 0) else add1 c (stepM d c m (l.take k)) (l.getD k 0) := by
  unfold stepM
  cases d
  · simp only [Bool.false_eq_true, if_false]; exact addL_snoc h
  · simp only [if_true]; exact dropL_snoc h

abbrev ActT : Type := Bool × List Int
abbrev actsA (l : List ActT) : AV := .ro 2 l.length (fun i => [.bool (l.getD i (false, [])).1, .ro 1 (l.getD i (false, [])).2.length (fun j => [i64 ((l.getD i (false, [])).2.getD j 0)])])
def ActsW (l : List ActT) : Prop := l.length ≤ 9223372036854775807 ∧ ∀ x ∈ l, IntL x.2
def bitsActsC : Ctr := pureC (Int × List ActT × Int) (fun x => I64 x.1 ∧ ActsW x.2.1 ∧ I64 x.2.2) (fun x => [i64 x.1, actsA x.2.1, i64 x.2.2]) (fun _ => .bool true)
def rowRen2 (t : Nat) (F : Fr) (_ : AH) : Option Ren := match F.getD t .any with
  | .sl q _ _ _ _ _ _ => some [some 0, some 1, some q]
  | _ => none
def actsLA (x : Int × List ActT × Int) : LA := { T := Nat × Nat × Nat, F := fun s => frm 127 [(1, actsA x.2.1), (2, i64 x.2.2), (7, .ptr 1 [] 0), (8, i64 (clampN x.1 : Nat)), (9, .sl 2 [] 0 1 0 (listN (clampN x.1, s.2.1)).length s.2.2), (10, i64 (s.1 : Nat))], H := fun s => [.fence, setI (clampN x.1, s.2.1), rowI 3 .i64 s.2.2 (listN (clampN x.1, s.2.1))], ρ₁ := rowRen2 9, ρ₂ := rowRen2 9 }
def actsLB (x : Int × List ActT × Int) : LA := { T := Nat × Nat × Nat × Nat × Nat, F := fun s => frm 127 [(1, actsA x.2.1), (2, i64 x.2.2), (7, .ptr 1 [] 0), (8, i64 (clampN x.1 : Nat)), (9, .sl 2 [] 0 1 0 (listN (clampN x.1, s.2.2.2.1)).length s.2.2.2.2), (10, i64 (s.1 : Nat)), (11, i64 (s.2.1 : Nat))], H := fun s => [.fence, setI (clampN x.1, s.2.2.1), rowI 3 .i64 s.2.2.2.2 (listN (clampN x.1, s.2.2.2.1))], ρ₂ := rowRen2 9 }

def actsLJ (x : Int × List ActT × Int) : LA := { T := Nat × Nat × Nat × Nat, F := fun s => frm 127 [(1, actsA x.2.1), (2, i64 x.2.2), (7, .ptr 1 [] 0), (8, i64 (clampN x.1 : Nat)), (9, .sl 2 [] 0 1 0 (listN (clampN x.1, s.2.2.1)).length s.2.2.2), (10, i64 (s.1 : Nat))], H := fun s => [.fence, setI (clampN x.1, s.2.1), rowI 3 .i64 s.2.2.2 (listN (clampN x.1, s.2.2.1))] }

-- callees: 13=awake17_ok 14=small_ok 15=setOf_ok 16=setGap_ok 17=(specObj_ok setHas_ok setHasO_ok) 18=refSize_ok 19=setCount_ok 20=setDrop_ok 21=(specObj_ok setAdd_ok setAddO_ok) 22=refDrop_ok 23=(specIf_ok refAddA_ok refAddB_ok) 24=refInts_ok 25=setList_ok 26=setSize_ok 27=refHas_ok 28=refGap_ok
theorem bitsActsV : (∀ (x : Int × List ActT × Int),
  I64 x.fst ∧ ActsW x.snd.fst ∧ I64 x.snd.snd →
    Exx Unit fun x_1 =>
      Tr 1 (true = true ∧ True) ∧
        Tr 1
          (∀ (y : Unit),
            True →
              BC (decide ((20 : Int) < (↑x.snd.fst.length : Int)))
                (Exx Unit fun x => Tr 1 (true = true ∧ True) ∧ Tr 1 (∀ (y : Unit), True → Exx Unit fun y => ((true = true ∧ True) ∧ true = true ∧ True) ∧ True))
                (Exx (Int × List Int) fun x_2 =>
                  ((Tr 1 (x.fst = x_2.fst) ∧ (0 = x_2.snd.length ∧ ∀ (i : Nat), i < x_2.snd.length → [] = [AV.int IntKind.i64 (x_2.snd.getD i 0)]) ∧ True) ∧ true = true ∧ True) ∧
                    (I64 x_2.fst ∧ Ints x_2.snd) ∧
                      ∀ (y : Unit),
                        True →
                          Exx Int fun x_3 =>
                            ((Tr 1 (x.fst = x_3) ∧ True) ∧ true = true ∧ True) ∧
                              (-9223372036854775808 ≤ x_3 ∧ x_3 ≤ (9223372036854775807 : Int)) ∧
                                ∀ (y : Unit),
                                  True →
                                    Exx (Nat × Nat × Nat → Prop) fun I =>
                                      Exx (Nat × Nat × Nat → Nat) fun m =>
                                        (Exx (Nat × Nat × Nat) fun t =>
                                            I t ∧
                                              Tr 1
                                                  (((2 : Nat) = (2 : Nat) ∧
                                                      x.snd.fst.length = x.snd.fst.length ∧
                                                        ∀ (i : Nat),
                                                          i < x.snd.fst.length →
                                                            [AV.bool (x.snd.fst.getD i (false, [])).fst,
                                                                AV.ro 1 (x.snd.fst.getD i (false, [])).snd.length fun j =>
                                                                  [AV.int IntKind.i64 ((x.snd.fst.getD i (false, [])).snd.getD j 0)]] =
                                                              [AV.bool (x.snd.fst.getD i (false, [])).fst,
                                                                AV.ro 1 (x.snd.fst.getD i (false, [])).snd.length fun j =>
                                                                  [AV.int IntKind.i64 ((x.snd.fst.getD i (false, [])).snd.getD j 0)]]) ∧
                                                    Tr 1 (x.snd.snd = x.snd.snd) ∧
                                                      Tr 4
                                                        ((true = true ∧ NilNil ∧ (0 : Nat) = (0 : Nat)) ∧
                                                          Tr 1 ((↑(clampN x_3) : Int) = (↑(clampN x.fst) : Int)) ∧
                                                            ((listN (clampN x.fst, t.snd.fst)).length = 0 ∧ t.snd.snd = 0) ∧ Tr 1 ((0 : Int) = (↑t.fst : Int)) ∧ Tr 116 True)) ∧
                                                true = true ∧
                                                  setB (clampN x_2.fst, addL (clampN x_2.fst) 0 x_2.snd) = setB (clampN x.fst, t.snd.fst) ∧
                                                    (t.snd.snd = 0 ∧ (listN (clampN x.fst, t.snd.fst)).length = 0) ∧ True) ∧
                                          ∀ (t : Nat × Nat × Nat),
                                            I t →
                                              BC (decide ((↑t.fst : Int) < (↑x.snd.fst.length : Int)))
                                                (((0 : Int) ≤ (↑t.fst : Int) ∧ (↑t.fst : Int) < (↑x.snd.fst.length : Int)) ∧
                                                  Exx (List Int × Int) fun x_4 =>
                                                    ((((x.snd.fst.getD (↑t.fst : Int).toNat (false, [])).snd.length = x_4.fst.length ∧
                                                            ∀ (i : Nat),
                                                              i < x_4.fst.length →
                                                                [AV.int IntKind.i64 ((x.snd.fst.getD (↑t.fst : Int).toNat (false, [])).snd.getD i 0)] =
                                                                  [AV.int IntKind.i64 (x_4.fst.getD i 0)]) ∧
                                                          Tr 1 ((30 : Int) = x_4.snd) ∧ True) ∧
                                                        true = true ∧ True) ∧
                                                      x_4.fst.length ≤ 9223372036854775807 ∧
                                                        ∀ (y : Unit),
                                                          True →
                                                            BC (!decide ((↑x_4.fst.length : Int) ≤ x_4.snd)) (Exx Unit fun y => ((true = true ∧ True) ∧ true = true ∧ True) ∧ True)
                                                              (Exx (Nat × Nat × Nat × Nat → Prop) fun I_1 =>
                                                                (((0 : Int) ≤ (↑t.fst : Int) ∧ (↑t.fst : Int) < (↑x.snd.fst.length : Int)) ∧
                                                                    BC (x.snd.fst.getD (↑t.fst : Int).toNat (false, [])).fst
                                                                      (((0 : Int) ≤ (↑t.fst : Int) ∧ (↑t.fst : Int) < (↑x.snd.fst.length : Int)) ∧
                                                                        Exx ((Nat × Nat) × List Int) fun x_5 =>
                                                                          (((true = true ∧ NilNil ∧ (0 : Nat) = (0 : Nat)) ∧
                                                                                ((x.snd.fst.getD (↑t.fst : Int).toNat (false, [])).snd.length = x_5.snd.length ∧
                                                                                    ∀ (i : Nat),
                                                                                      i < x_5.snd.length →
                                                                                        [AV.int IntKind.i64 ((x.snd.fst.getD (↑t.fst : Int).toNat (false, [])).snd.getD i 0)] =
                                                                                          [AV.int IntKind.i64 (x_5.snd.getD i 0)]) ∧
                                                                                  True) ∧
                                                                              true = true ∧ setB (clampN x.fst, t.snd.fst) = setB x_5.fst ∧ True) ∧
                                                                            (SetW x_5.fst ∧ Ints x_5.snd) ∧
                                                                              ∀ (y : Unit),
                                                                                True →
                                                                                  Exx (Nat × Nat × Nat × Nat) fun t_1 =>
                                                                                    I_1 t_1 ∧
                                                                                      Tr 1
                                                                                          (((2 : Nat) = (2 : Nat) ∧
                                                                                              x.snd.fst.length = x.snd.fst.length ∧
                                                                                                ∀ (i : Nat),
                                                                                                  i < x.snd.fst.length →
                                                                                                    [AV.bool (x.snd.fst.getD i (false, [])).fst,
                                                                                                        AV.ro 1 (x.snd.fst.getD i (false, [])).snd.length fun j =>
                                                                                                          [AV.int IntKind.i64 ((x.snd.fst.getD i (false, [])).snd.getD j 0)]] =
                                                                                                      [AV.bool (x.snd.fst.getD i (false, [])).fst,
                                                                                                        AV.ro 1 (x.snd.fst.getD i (false, [])).snd.length fun j =>
                                                                                                          [AV.int IntKind.i64 ((x.snd.fst.getD i (false, [])).snd.getD j 0)]]) ∧
                                                                                            Tr 1 (x.snd.snd = x.snd.snd) ∧
                                                                                              Tr 4
                                                                                                ((true = true ∧ NilNil ∧ (0 : Nat) = (0 : Nat)) ∧
                                                                                                  Tr 1 ((↑(clampN x.fst) : Int) = (↑(clampN x.fst) : Int)) ∧
                                                                                                    (true = true ∧
                                                                                                        NilNil ∧
                                                                                                          (0 : Nat) = (0 : Nat) ∧
                                                                                                            (1 : Nat) = (1 : Nat) ∧
                                                                                                              (0 : Nat) = (0 : Nat) ∧
                                                                                                                (listN (clampN x.fst, t.snd.fst)).length =
                                                                                                                    (listN (clampN x.fst, t_1.snd.snd.fst)).length ∧
                                                                                                                  t.snd.snd = t_1.snd.snd.snd) ∧
                                                                                                      Tr 1 ((↑t.fst : Int) = (↑t_1.fst : Int)) ∧ Tr 116 True)) ∧
                                                                                        true = true ∧
                                                                                          setB (x_5.fst.fst, dropL x_5.fst.fst x_5.fst.snd x_5.snd) =
                                                                                              setB (clampN x.fst, t_1.snd.fst) ∧
                                                                                            ((3 : TypeId) = (3 : TypeId) ∧
                                                                                                (1 : Nat) = (1 : Nat) ∧
                                                                                                  t.snd.snd = t_1.snd.snd.snd ∧
                                                                                                    (listN (clampN x.fst, t_1.snd.snd.fst)).length ≤
                                                                                                        (listN (clampN x.fst, t.snd.fst)).length ∧
                                                                                                      ∀ (i : Nat),
                                                                                                        i < (listN (clampN x.fst, t_1.snd.snd.fst)).length →
                                                                                                          [AV.int IntKind.i64 ((listN (clampN x.fst, t.snd.fst)).getD i 0)] =
                                                                                                            [AV.int IntKind.i64
                                                                                                                ((listN (clampN x.fst, t_1.snd.snd.fst)).getD i 0)]) ∧
                                                                                              True)
                                                                      (((0 : Int) ≤ (↑t.fst : Int) ∧ (↑t.fst : Int) < (↑x.snd.fst.length : Int)) ∧
                                                                        Exx ((Nat × Nat) × List Int) fun x_5 =>
                                                                          (((true = true ∧ NilNil ∧ (0 : Nat) = (0 : Nat)) ∧
                                                                                ((x.snd.fst.getD (↑t.fst : Int).toNat (false, [])).snd.length = x_5.snd.length ∧
                                                                                    ∀ (i : Nat),
                                                                                      i < x_5.snd.length →
                                                                                        [AV.int IntKind.i64 ((x.snd.fst.getD (↑t.fst : Int).toNat (false, [])).snd.getD i 0)] =
                                                                                          [AV.int IntKind.i64 (x_5.snd.getD i 0)]) ∧
                                                                                  True) ∧
                                                                              true = true ∧ setB (clampN x.fst, t.snd.fst) = setB x_5.fst ∧ True) ∧
                                                                            (SetW x_5.fst ∧ Ints x_5.snd) ∧
                                                                              ∀ (y : Unit),
                                                                                True →
                                                                                  Exx (Nat × Nat × Nat × Nat) fun t_1 =>
                                                                                    I_1 t_1 ∧
                                                                                      Tr 1
                                                                                          (((2 : Nat) = (2 : Nat) ∧
                                                                                              x.snd.fst.length = x.snd.fst.length ∧
                                                                                                ∀ (i : Nat),
                                                                                                  i < x.snd.fst.length →
                                                                                                    [AV.bool (x.snd.fst.getD i (false, [])).fst,
                                                                                                        AV.ro 1 (x.snd.fst.getD i (false, [])).snd.length fun j =>
                                                                                                          [AV.int IntKind.i64 ((x.snd.fst.getD i (false, [])).snd.getD j 0)]] =
                                                                                                      [AV.bool (x.snd.fst.getD i (false, [])).fst,
                                                                                                        AV.ro 1 (x.snd.fst.getD i (false, [])).snd.length fun j =>
                                                                                                          [AV.int IntKind.i64 ((x.snd.fst.getD i (false, [])).snd.getD j 0)]]) ∧
                                                                                            Tr 1 (x.snd.snd = x.snd.snd) ∧
                                                                                              Tr 4
                                                                                                ((true = true ∧ NilNil ∧ (0 : Nat) = (0 : Nat)) ∧
                                                                                                  Tr 1 ((↑(clampN x.fst) : Int) = (↑(clampN x.fst) : Int)) ∧
                                                                                                    (true = true ∧
                                                                                                        NilNil ∧
                                                                                                          (0 : Nat) = (0 : Nat) ∧
                                                                                                            (1 : Nat) = (1 : Nat) ∧
                                                                                                              (0 : Nat) = (0 : Nat) ∧
                                                                                                                (listN (clampN x.fst, t.snd.fst)).length =
                                                                                                                    (listN (clampN x.fst, t_1.snd.snd.fst)).length ∧
                                                                                                                  t.snd.snd = t_1.snd.snd.snd) ∧
                                                                                                      Tr 1 ((↑t.fst : Int) = (↑t_1.fst : Int)) ∧ Tr 116 True)) ∧
                                                                                        true = true ∧
                                                                                          setB (x_5.fst.fst, addL x_5.fst.fst x_5.fst.snd x_5.snd) =
                                                                                              setB (clampN x.fst, t_1.snd.fst) ∧
                                                                                            ((3 : TypeId) = (3 : TypeId) ∧
                                                                                                (1 : Nat) = (1 : Nat) ∧
                                                                                                  t.snd.snd = t_1.snd.snd.snd ∧
                                                                                                    (listN (clampN x.fst, t_1.snd.snd.fst)).length ≤
                                                                                                        (listN (clampN x.fst, t.snd.fst)).length ∧
                                                                                                      ∀ (i : Nat),
                                                                                                        i < (listN (clampN x.fst, t_1.snd.snd.fst)).length →
                                                                                                          [AV.int IntKind.i64 ((listN (clampN x.fst, t.snd.fst)).getD i 0)] =
                                                                                                            [AV.int IntKind.i64
                                                                                                                ((listN (clampN x.fst, t_1.snd.snd.fst)).getD i 0)]) ∧
                                                                                              True)) ∧
                                                                  ∀ (t_1 : Nat × Nat × Nat × Nat),
                                                                    I_1 t_1 →
                                                                      Exx (Nat × Nat × Nat × Nat × Nat → Prop) fun I_2 =>
                                                                        Exx (Nat × Nat × Nat × Nat × Nat → Nat) fun m_1 =>
                                                                          (Exx (Nat × Nat × Nat × Nat × Nat) fun t =>
                                                                              I_2 t ∧
                                                                                Tr 1
                                                                                    (((2 : Nat) = (2 : Nat) ∧
                                                                                        x.snd.fst.length = x.snd.fst.length ∧
                                                                                          ∀ (i : Nat),
                                                                                            i < x.snd.fst.length →
                                                                                              [AV.bool (x.snd.fst.getD i (false, [])).fst,
                                                                                                  AV.ro 1 (x.snd.fst.getD i (false, [])).snd.length fun j =>
                                                                                                    [AV.int IntKind.i64 ((x.snd.fst.getD i (false, [])).snd.getD j 0)]] =
                                                                                                [AV.bool (x.snd.fst.getD i (false, [])).fst,
                                                                                                  AV.ro 1 (x.snd.fst.getD i (false, [])).snd.length fun j =>
                                                                                                    [AV.int IntKind.i64 ((x.snd.fst.getD i (false, [])).snd.getD j 0)]]) ∧
                                                                                      Tr 1 (x.snd.snd = x.snd.snd) ∧
                                                                                        Tr 4
                                                                                          ((true = true ∧ NilNil ∧ (0 : Nat) = (0 : Nat)) ∧
                                                                                            Tr 1 ((↑(clampN x.fst) : Int) = (↑(clampN x.fst) : Int)) ∧
                                                                                              (true = true ∧
                                                                                                  NilNil ∧
                                                                                                    (0 : Nat) = (0 : Nat) ∧
                                                                                                      (1 : Nat) = (1 : Nat) ∧
                                                                                                        (0 : Nat) = (0 : Nat) ∧
                                                                                                          (listN (clampN x.fst, t_1.snd.snd.fst)).length =
                                                                                                              (listN (clampN x.fst, t.snd.snd.snd.fst)).length ∧
                                                                                                            t_1.snd.snd.snd = t.snd.snd.snd.snd) ∧
                                                                                                Tr 1 ((↑t_1.fst : Int) = (↑t.fst : Int)) ∧
                                                                                                  Tr 1 ((0 : Int) = (↑t.snd.fst : Int)) ∧ Tr 115 True)) ∧
                                                                                  true = true ∧
                                                                                    setB (clampN x.fst, t_1.snd.fst) = setB (clampN x.fst, t.snd.snd.fst) ∧
                                                                                      ((3 : TypeId) = (3 : TypeId) ∧
                                                                                          (1 : Nat) = (1 : Nat) ∧
                                                                                            t_1.snd.snd.snd = t.snd.snd.snd.snd ∧
                                                                                              (listN (clampN x.fst, t.snd.snd.snd.fst)).length ≤
                                                                                                  (listN (clampN x.fst, t_1.snd.snd.fst)).length ∧
                                                                                                ∀ (i : Nat),
                                                                                                  i < (listN (clampN x.fst, t.snd.snd.snd.fst)).length →
                                                                                                    [AV.int IntKind.i64 ((listN (clampN x.fst, t_1.snd.snd.fst)).getD i 0)] =
                                                                                                      [AV.int IntKind.i64 ((listN (clampN x.fst, t.snd.snd.snd.fst)).getD i 0)]) ∧
                                                                                        True) ∧
                                                                            ∀ (t_2 : Nat × Nat × Nat × Nat × Nat),
                                                                              I_2 t_2 →
                                                                                ((0 : Int) ≤ (↑t_2.fst : Int) ∧ (↑t_2.fst : Int) < (↑x.snd.fst.length : Int)) ∧
                                                                                  BC
                                                                                    (decide
                                                                                      ((↑t_2.snd.fst : Int) <
                                                                                        (↑(x.snd.fst.getD (↑t_2.fst : Int).toNat (false, [])).snd.length : Int)))
                                                                                    (((0 : Int) ≤ (↑t_2.fst : Int) ∧ (↑t_2.fst : Int) < (↑x.snd.fst.length : Int)) ∧
                                                                                      BC (x.snd.fst.getD (↑t_2.fst : Int).toNat (false, [])).fst
                                                                                        (((0 : Int) ≤ (↑t_2.fst : Int) ∧ (↑t_2.fst : Int) < (↑x.snd.fst.length : Int)) ∧
                                                                                          ((0 : Int) ≤ (↑t_2.snd.fst : Int) ∧
                                                                                              (↑t_2.snd.fst : Int) <
                                                                                                (↑(x.snd.fst.getD (↑t_2.fst : Int).toNat (false, [])).snd.length : Int)) ∧
                                                                                            Exx (List Int × Int) fun x_5 =>
                                                                                              (((0 + (listN (clampN x.fst, t_2.snd.snd.snd.fst)).length ≤
                                                                                                        (listN (clampN x.fst, t_2.snd.snd.snd.fst)).length ∧
                                                                                                      (listN (clampN x.fst, t_2.snd.snd.snd.fst)).length = x_5.fst.length ∧
                                                                                                        ∀ (i : Nat),
                                                                                                          i < x_5.fst.length →
                                                                                                            [AV.int IntKind.i64
                                                                                                                  ((listN (clampN x.fst, t_2.snd.snd.snd.fst)).getD (0 + i) 0)] =
                                                                                                              [AV.int IntKind.i64 (x_5.fst.getD i 0)]) ∧
                                                                                                    Tr 1
                                                                                                        ((x.snd.fst.getD (↑t_2.fst : Int).toNat (false, [])).snd.getD
                                                                                                            (↑t_2.snd.fst : Int).toNat 0 =
                                                                                                          x_5.snd) ∧
                                                                                                      True) ∧
                                                                                                  true = true ∧ True) ∧
                                                                                                (Ints x_5.fst ∧ I64 x_5.snd) ∧
                                                                                                  ∀ (y : Nat),
                                                                                                    (List.filter (fun y => y != x_5.snd) x_5.fst).length ≤ y ∧
                                                                                                        y ≤ 9223372036854775807 →
                                                                                                      I64 ((↑t_2.snd.fst : Int) + 1) ∧
                                                                                                        Exx (Nat × Nat × Nat × Nat × Nat) fun t' =>
                                                                                                          (I_2 t' ∧ m_1 t' < m_1 t_2) ∧
                                                                                                            Tr 1
                                                                                                                (((2 : Nat) = (2 : Nat) ∧
                                                                                                                    x.snd.fst.length = x.snd.fst.length ∧
                                                                                                                      ∀ (i : Nat),
                                                                                                                        i < x.snd.fst.length →
                                                                                                                          [AV.bool (x.snd.fst.getD i (false, [])).fst,
                                                                                                                              AV.ro 1 (x.snd.fst.getD i (false, [])).snd.length
                                                                                                                                fun j =>
                                                                                                                                [AV.int IntKind.i64
                                                                                                                                    ((x.snd.fst.getD i (false, [])).snd.getD j
                                                                                                                                      0)]] =
                                                                                                                            [AV.bool (x.snd.fst.getD i (false, [])).fst,
                                                                                                                              AV.ro 1 (x.snd.fst.getD i (false, [])).snd.length
                                                                                                                                fun j =>
                                                                                                                                [AV.int IntKind.i64
                                                                                                                                    ((x.snd.fst.getD i (false, [])).snd.getD j
                                                                                                                                      0)]]) ∧
                                                                                                                  Tr 1 (x.snd.snd = x.snd.snd) ∧
                                                                                                                    Tr 4
                                                                                                                      ((true = true ∧ NilNil ∧ (0 : Nat) = (0 : Nat)) ∧
                                                                                                                        Tr 1 ((↑(clampN x.fst) : Int) = (↑(clampN x.fst) : Int)) ∧
                                                                                                                          (true = true ∧
                                                                                                                              NilNil ∧
                                                                                                                                (0 : Nat) = (0 : Nat) ∧
                                                                                                                                  (1 : Nat) = (1 : Nat) ∧
                                                                                                                                    (0 : Nat) = (0 : Nat) ∧
                                                                                                                                      (List.filter (fun y => y != x_5.snd)
                                                                                                                                              x_5.fst).length =
                                                                                                                                          (listN
                                                                                                                                              (clampN x.fst,
                                                                                                                                                t'.snd.snd.snd.fst)).length ∧
                                                                                                                                        y = t'.snd.snd.snd.snd) ∧
                                                                                                                            Tr 1 ((↑t_2.fst : Int) = (↑t'.fst : Int)) ∧
                                                                                                                              Tr 1
                                                                                                                                  ((↑t_2.snd.fst : Int) + 1 = (↑t'.snd.fst : Int)) ∧
                                                                                                                                Tr 115 True)) ∧
                                                                                                              true = true ∧
                                                                                                                setB (clampN x.fst, t_2.snd.snd.fst) =
                                                                                                                    setB (clampN x.fst, t'.snd.snd.fst) ∧
                                                                                                                  ((3 : TypeId) = (3 : TypeId) ∧
                                                                                                                      (1 : Nat) = (1 : Nat) ∧
                                                                                                                        y = t'.snd.snd.snd.snd ∧
                                                                                                                          (listN (clampN x.fst, t'.snd.snd.snd.fst)).length ≤
                                                                                                                              (List.filter (fun y => y != x_5.snd) x_5.fst).length ∧
                                                                                                                            ∀ (i : Nat),
                                                                                                                              i <
                                                                                                                                  (listN
                                                                                                                                      (clampN x.fst, t'.snd.snd.snd.fst)).length →
                                                                                                                                [AV.int IntKind.i64
                                                                                                                                      ((List.filter (fun y => y != x_5.snd)
                                                                                                                                            x_5.fst).getD
                                                                                                                                        i 0)] =
                                                                                                                                  [AV.int IntKind.i64
                                                                                                                                      ((listN
                                                                                                                                            (clampN x.fst, t'.snd.snd.snd.fst)).getD
                                                                                                                                        i 0)]) ∧
                                                                                                                    True)
                                                                                        (((0 : Int) ≤ (↑t_2.fst : Int) ∧ (↑t_2.fst : Int) < (↑x.snd.fst.length : Int)) ∧
                                                                                          ((0 : Int) ≤ (↑t_2.snd.fst : Int) ∧
                                                                                              (↑t_2.snd.fst : Int) <
                                                                                                (↑(x.snd.fst.getD (↑t_2.fst : Int).toNat (false, [])).snd.length : Int)) ∧
                                                                                            Exx (Nat × List Int × Int × Int) fun x_5 =>
                                                                                              (((true = true ∧
                                                                                                      NilNil ∧
                                                                                                        (0 : Nat) = (0 : Nat) ∧
                                                                                                          (1 : Nat) = (1 : Nat) ∧
                                                                                                            (0 : Nat) = (0 : Nat) ∧
                                                                                                              (listN (clampN x.fst, t_2.snd.snd.snd.fst)).length =
                                                                                                                  x_5.snd.fst.length ∧
                                                                                                                t_2.snd.snd.snd.snd = x_5.fst) ∧
                                                                                                    Tr 1 ((↑(clampN x.fst) : Int) = x_5.snd.snd.fst) ∧
                                                                                                      Tr 1
                                                                                                          ((x.snd.fst.getD (↑t_2.fst : Int).toNat (false, [])).snd.getD
                                                                                                              (↑t_2.snd.fst : Int).toNat 0 =
                                                                                                            x_5.snd.snd.snd) ∧
                                                                                                        True) ∧
                                                                                                  true = true ∧
                                                                                                    ((3 : TypeId) = (3 : TypeId) ∧
                                                                                                        (1 : Nat) = (1 : Nat) ∧
                                                                                                          t_2.snd.snd.snd.snd = x_5.fst ∧
                                                                                                            x_5.snd.fst.length ≤
                                                                                                                (listN (clampN x.fst, t_2.snd.snd.snd.fst)).length ∧
                                                                                                              ∀ (i : Nat),
                                                                                                                i < x_5.snd.fst.length →
                                                                                                                  [AV.int IntKind.i64
                                                                                                                        ((listN (clampN x.fst, t_2.snd.snd.snd.fst)).getD i 0)] =
                                                                                                                    [AV.int IntKind.i64 (x_5.snd.fst.getD i 0)]) ∧
                                                                                                      True) ∧
                                                                                                (Ints x_5.snd.fst ∧
                                                                                                    x_5.snd.fst.length ≤ x_5.fst ∧
                                                                                                      x_5.fst ≤ 9223372036854775807 ∧
                                                                                                        I64 x_5.snd.snd.fst ∧
                                                                                                          I64 x_5.snd.snd.snd ∧ List.Pairwise (fun x1 x2 => x1 < x2) x_5.snd.fst) ∧
                                                                                                  (x_5.snd.snd.snd < (0 : Int) ∨
                                                                                                        x_5.snd.snd.fst ≤ x_5.snd.snd.snd ∨ x_5.snd.snd.snd ∈ x_5.snd.fst →
                                                                                                      ∀ (y : Unit),
                                                                                                        True →
                                                                                                          I64 ((↑t_2.snd.fst : Int) + 1) ∧
                                                                                                            Exx (Nat × Nat × Nat × Nat × Nat) fun t' =>
                                                                                                              (I_2 t' ∧ m_1 t' < m_1 t_2) ∧
                                                                                                                Tr 1
                                                                                                                    (((2 : Nat) = (2 : Nat) ∧
                                                                                                                        x.snd.fst.length = x.snd.fst.length ∧
                                                                                                                          ∀ (i : Nat),
                                                                                                                            i < x.snd.fst.length →
                                                                                                                              [AV.bool (x.snd.fst.getD i (false, [])).fst,
                                                                                                                                  AV.ro 1 (x.snd.fst.getD i (false, [])).snd.length
                                                                                                                                    fun j =>
                                                                                                                                    [AV.int IntKind.i64
                                                                                                                                        ((x.snd.fst.getD i (false, [])).snd.getD j
                                                                                                                                          0)]] =
                                                                                                                                [AV.bool (x.snd.fst.getD i (false, [])).fst,
                                                                                                                                  AV.ro 1 (x.snd.fst.getD i (false, [])).snd.length
                                                                                                                                    fun j =>
                                                                                                                                    [AV.int IntKind.i64
                                                                                                                                        ((x.snd.fst.getD i (false, [])).snd.getD j
                                                                                                                                          0)]]) ∧
                                                                                                                      Tr 1 (x.snd.snd = x.snd.snd) ∧
                                                                                                                        Tr 4
                                                                                                                          ((true = true ∧ NilNil ∧ (0 : Nat) = (0 : Nat)) ∧
                                                                                                                            Tr 1
                                                                                                                                ((↑(clampN x.fst) : Int) =
                                                                                                                                  (↑(clampN x.fst) : Int)) ∧
                                                                                                                              (true = true ∧
                                                                                                                                  NilNil ∧
                                                                                                                                    (0 : Nat) = (0 : Nat) ∧
                                                                                                                                      (1 : Nat) = (1 : Nat) ∧
                                                                                                                                        (0 : Nat) = (0 : Nat) ∧
                                                                                                                                          x_5.snd.fst.length =
                                                                                                                                              (listN
                                                                                                                                                  (clampN x.fst,
                                                                                                                                                    t'.snd.snd.snd.fst)).length ∧
                                                                                                                                            x_5.fst = t'.snd.snd.snd.snd) ∧
                                                                                                                                Tr 1 ((↑t_2.fst : Int) = (↑t'.fst : Int)) ∧
                                                                                                                                  Tr 1
                                                                                                                                      ((↑t_2.snd.fst : Int) + 1 =
                                                                                                                                        (↑t'.snd.fst : Int)) ∧
                                                                                                                                    Tr 115 True)) ∧
                                                                                                                  true = true ∧
                                                                                                                    setB (clampN x.fst, t_2.snd.snd.fst) =
                                                                                                                        setB (clampN x.fst, t'.snd.snd.fst) ∧
                                                                                                                      ((3 : TypeId) = (3 : TypeId) ∧
                                                                                                                          (1 : Nat) = (1 : Nat) ∧
                                                                                                                            x_5.fst = t'.snd.snd.snd.snd ∧
                                                                                                                              (listN (clampN x.fst, t'.snd.snd.snd.fst)).length ≤
                                                                                                                                  x_5.snd.fst.length ∧
                                                                                                                                ∀ (i : Nat),
                                                                                                                                  i <
                                                                                                                                      (listN
                                                                                                                                          (clampN x.fst,
                                                                                                                                            t'.snd.snd.snd.fst)).length →
                                                                                                                                    [AV.int IntKind.i64 (x_5.snd.fst.getD i 0)] =
                                                                                                                                      [AV.int IntKind.i64
                                                                                                                                          ((listN
                                                                                                                                                (clampN x.fst,
                                                                                                                                                  t'.snd.snd.snd.fst)).getD
                                                                                                                                            i 0)]) ∧
                                                                                                                        True) ∧
                                                                                                    (¬refAddI.p x_5 →
                                                                                                      ∀ (y : Nat),
                                                                                                        x_5.snd.fst.length + 1 ≤ y ∧ y ≤ 9223372036854775807 →
                                                                                                          I64 ((↑t_2.snd.fst : Int) + 1) ∧
                                                                                                            Exx (Nat × Nat × Nat × Nat × Nat) fun t' =>
                                                                                                              (I_2 t' ∧ m_1 t' < m_1 t_2) ∧
                                                                                                                Tr 1
                                                                                                                    (((2 : Nat) = (2 : Nat) ∧
                                                                                                                        x.snd.fst.length = x.snd.fst.length ∧
                                                                                                                          ∀ (i : Nat),
                                                                                                                            i < x.snd.fst.length →
                                                                                                                              [AV.bool (x.snd.fst.getD i (false, [])).fst,
                                                                                                                                  AV.ro 1 (x.snd.fst.getD i (false, [])).snd.length
                                                                                                                                    fun j =>
                                                                                                                                    [AV.int IntKind.i64
                                                                                                                                        ((x.snd.fst.getD i (false, [])).snd.getD j
                                                                                                                                          0)]] =
                                                                                                                                [AV.bool (x.snd.fst.getD i (false, [])).fst,
                                                                                                                                  AV.ro 1 (x.snd.fst.getD i (false, [])).snd.length
                                                                                                                                    fun j =>
                                                                                                                                    [AV.int IntKind.i64
                                                                                                                                        ((x.snd.fst.getD i (false, [])).snd.getD j
                                                                                                                                          0)]]) ∧
                                                                                                                      Tr 1 (x.snd.snd = x.snd.snd) ∧
                                                                                                                        Tr 4
                                                                                                                          ((true = true ∧ NilNil ∧ (0 : Nat) = (0 : Nat)) ∧
                                                                                                                            Tr 1
                                                                                                                                ((↑(clampN x.fst) : Int) =
                                                                                                                                  (↑(clampN x.fst) : Int)) ∧
                                                                                                                              (true = true ∧
                                                                                                                                  NilNil ∧
                                                                                                                                    (0 : Nat) = (0 : Nat) ∧
                                                                                                                                      (1 : Nat) = (1 : Nat) ∧
                                                                                                                                        (0 : Nat) = (0 : Nat) ∧
                                                                                                                                          x_5.snd.fst.length + 1 =
                                                                                                                                              (listN
                                                                                                                                                  (clampN x.fst,
                                                                                                                                                    t'.snd.snd.snd.fst)).length ∧
                                                                                                                                            y = t'.snd.snd.snd.snd) ∧
                                                                                                                                Tr 1 ((↑t_2.fst : Int) = (↑t'.fst : Int)) ∧
                                                                                                                                  Tr 1
                                                                                                                                      ((↑t_2.snd.fst : Int) + 1 =
                                                                                                                                        (↑t'.snd.fst : Int)) ∧
                                                                                                                                    Tr 115 True)) ∧
                                                                                                                  true = true ∧
                                                                                                                    setB (clampN x.fst, t_2.snd.snd.fst) =
                                                                                                                        setB (clampN x.fst, t'.snd.snd.fst) ∧
                                                                                                                      ((3 : TypeId) = (3 : TypeId) ∧
                                                                                                                          (1 : Nat) = (1 : Nat) ∧
                                                                                                                            y = t'.snd.snd.snd.snd ∧
                                                                                                                              (listN (clampN x.fst, t'.snd.snd.snd.fst)).length ≤
                                                                                                                                  x_5.snd.fst.length + 1 ∧
                                                                                                                                ∀ (i : Nat),
                                                                                                                                  i <
                                                                                                                                      (listN
                                                                                                                                          (clampN x.fst,
                                                                                                                                            t'.snd.snd.snd.fst)).length →
                                                                                                                                    [AV.int IntKind.i64
                                                                                                                                          ((insI x_5.snd.fst x_5.snd.snd.snd).getD i
                                                                                                                                            0)] =
                                                                                                                                      [AV.int IntKind.i64
                                                                                                                                          ((listN
                                                                                                                                                (clampN x.fst,
                                                                                                                                                  t'.snd.snd.snd.fst)).getD
                                                                                                                                            i 0)]) ∧
                                                                                                                        True)))
                                                                                    (Exx (Nat × Nat) fun x_5 =>
                                                                                      (((true = true ∧ NilNil ∧ (0 : Nat) = (0 : Nat)) ∧ True) ∧
                                                                                          true = true ∧ setB (clampN x.fst, t_2.snd.snd.fst) = setB x_5 ∧ True) ∧
                                                                                        SetW x_5 ∧
                                                                                          ∀ (y : Nat),
                                                                                            (listN x_5).length ≤ y →
                                                                                              Exx (List Int × List Int) fun x_6 =>
                                                                                                (((0 + (listN x_5).length ≤ (listN x_5).length ∧
                                                                                                        (listN x_5).length = x_6.fst.length ∧
                                                                                                          ∀ (i : Nat),
                                                                                                            i < x_6.fst.length →
                                                                                                              [AV.int IntKind.i64 ((listN x_5).getD (0 + i) 0)] =
                                                                                                                [AV.int IntKind.i64 (x_6.fst.getD i 0)]) ∧
                                                                                                      (0 + (listN (clampN x.fst, t_2.snd.snd.snd.fst)).length ≤
                                                                                                            (listN (clampN x.fst, t_2.snd.snd.snd.fst)).length ∧
                                                                                                          (listN (clampN x.fst, t_2.snd.snd.snd.fst)).length = x_6.snd.length ∧
                                                                                                            ∀ (i : Nat),
                                                                                                              i < x_6.snd.length →
                                                                                                                [AV.int IntKind.i64
                                                                                                                      ((listN (clampN x.fst, t_2.snd.snd.snd.fst)).getD (0 + i)
                                                                                                                        0)] =
                                                                                                                  [AV.int IntKind.i64 (x_6.snd.getD i 0)]) ∧
                                                                                                        True) ∧
                                                                                                    true = true ∧ True) ∧
                                                                                                  (IntL x_6.fst ∧ IntL x_6.snd) ∧
                                                                                                    ∀ (y : Unit),
                                                                                                      True →
                                                                                                        BC (!decide (x_6.fst = x_6.snd))
                                                                                                          (Exx Unit fun y => ((false = true ∧ True) ∧ true = true ∧ True) ∧ True)
                                                                                                          (Exx ((Nat × Nat) × Unit) fun x_7 =>
                                                                                                            (((true = true ∧ NilNil ∧ (0 : Nat) = (0 : Nat)) ∧ True) ∧
                                                                                                                true = true ∧ setB x_5 = setB x_7.fst ∧ True) ∧
                                                                                                              (SetW x_7.fst ∧ True) ∧
                                                                                                                ∀ (y : Unit),
                                                                                                                  True →
                                                                                                                    BC
                                                                                                                      (!decide
                                                                                                                          ((↑(bitsL x_7.fst.fst x_7.fst.snd).length : Int) =
                                                                                                                            (↑(listN (clampN x.fst, t_2.snd.snd.snd.fst)).length :
                                                                                                                              Int)))
                                                                                                                      (Exx Unit fun y =>
                                                                                                                        ((false = true ∧ True) ∧ true = true ∧ True) ∧ True)
                                                                                                                      (I64 ((↑t_2.fst : Int) + 1) ∧
                                                                                                                        Exx (Nat × Nat × Nat) fun t' =>
                                                                                                                          (I t' ∧ m t' < m t) ∧
                                                                                                                            Tr 1
                                                                                                                                (((2 : Nat) = (2 : Nat) ∧
                                                                                                                                    x.snd.fst.length = x.snd.fst.length ∧
                                                                                                                                      ∀ (i : Nat),
                                                                                                                                        i < x.snd.fst.length →
                                                                                                                                          [AV.bool
                                                                                                                                                (x.snd.fst.getD i (false, [])).fst,
                                                                                                                                              AV.ro 1
                                                                                                                                                (x.snd.fst.getD i
                                                                                                                                                      (false, [])).snd.length
                                                                                                                                                fun j =>
                                                                                                                                                [AV.int IntKind.i64
                                                                                                                                                    ((x.snd.fst.getD i
                                                                                                                                                            (false, [])).snd.getD
                                                                                                                                                      j 0)]] =
                                                                                                                                            [AV.bool
                                                                                                                                                (x.snd.fst.getD i (false, [])).fst,
                                                                                                                                              AV.ro 1
                                                                                                                                                (x.snd.fst.getD i
                                                                                                                                                      (false, [])).snd.length
                                                                                                                                                fun j =>
                                                                                                                                                [AV.int IntKind.i64
                                                                                                                                                    ((x.snd.fst.getD i
                                                                                                                                                            (false, [])).snd.getD
                                                                                                                                                      j 0)]]) ∧
                                                                                                                                  Tr 1 (x.snd.snd = x.snd.snd) ∧
                                                                                                                                    Tr 4
                                                                                                                                      ((true = true ∧
                                                                                                                                          NilNil ∧ (0 : Nat) = (0 : Nat)) ∧
                                                                                                                                        Tr 1
                                                                                                                                            ((↑(clampN x.fst) : Int) =
                                                                                                                                              (↑(clampN x.fst) : Int)) ∧
                                                                                                                                          (true = true ∧
                                                                                                                                              NilNil ∧
                                                                                                                                                (0 : Nat) = (0 : Nat) ∧
                                                                                                                                                  (1 : Nat) = (1 : Nat) ∧
                                                                                                                                                    (0 : Nat) = (0 : Nat) ∧
                                                                                                                                                      (listN
                                                                                                                                                              (clampN x.fst,
                                                                                                                                                                t_2.snd.snd.snd.fst)).length =
                                                                                                                                                          (listN
                                                                                                                                                              (clampN x.fst,
                                                                                                                                                                t'.snd.fst)).length ∧
                                                                                                                                                        t_2.snd.snd.snd.snd =
                                                                                                                                                          t'.snd.snd) ∧
                                                                                                                                            Tr 1
                                                                                                                                                ((↑t_2.fst : Int) + 1 =
                                                                                                                                                  (↑t'.fst : Int)) ∧
                                                                                                                                              Tr 116 True)) ∧
                                                                                                                              true = true ∧
                                                                                                                                setB x_7.fst = setB (clampN x.fst, t'.snd.fst) ∧
                                                                                                                                  ((3 : TypeId) = (3 : TypeId) ∧
                                                                                                                                      (1 : Nat) = (1 : Nat) ∧
                                                                                                                                        t_2.snd.snd.snd.snd = t'.snd.snd ∧
                                                                                                                                          (listN
                                                                                                                                                  (clampN x.fst,
                                                                                                                                                    t'.snd.fst)).length ≤
                                                                                                                                              (listN
                                                                                                                                                  (clampN x.fst,
                                                                                                                                                    t_2.snd.snd.snd.fst)).length ∧
                                                                                                                                            ∀ (i : Nat),
                                                                                                                                              i <
                                                                                                                                                  (listN
                                                                                                                                                      (clampN x.fst,
                                                                                                                                                        t'.snd.fst)).length →
                                                                                                                                                [AV.int IntKind.i64
                                                                                                                                                      ((listN
                                                                                                                                                            (clampN x.fst,
                                                                                                                                                              t_2.snd.snd.snd.fst)).getD
                                                                                                                                                        i 0)] =
                                                                                                                                                  [AV.int IntKind.i64
                                                                                                                                                      ((listN
                                                                                                                                                            (clampN x.fst,
                                                                                                                                                              t'.snd.fst)).getD
                                                                                                                                                        i 0)]) ∧
                                                                                                                                    True)))))
                                                (Exx ((Nat × Nat) × Unit) fun x_4 =>
                                                  (((true = true ∧ NilNil ∧ (0 : Nat) = (0 : Nat)) ∧ True) ∧ true = true ∧ setB (clampN x.fst, t.snd.fst) = setB x_4.fst ∧ True) ∧
                                                    (SetW x_4.fst ∧ True) ∧
                                                      ∀ (y : Unit),
                                                        True →
                                                          BC (decide ((↑x_4.fst.fst : Int) = (↑(clampN x.fst) : Int)))
                                                            (Exx ((Nat × Nat) × Int) fun x_5 =>
                                                              (((true = true ∧ NilNil ∧ (0 : Nat) = (0 : Nat)) ∧ Tr 1 (x.snd.snd = x_5.snd) ∧ True) ∧
                                                                  true = true ∧ setB x_4.fst = setB x_5.fst ∧ True) ∧
                                                                (SetW x_5.fst ∧ I64 x_5.snd) ∧
                                                                  ∀ (y : Unit),
                                                                    True →
                                                                      Exx (List Int × Int) fun x_6 =>
                                                                        (((0 + (listN (clampN x.fst, t.snd.fst)).length ≤ (listN (clampN x.fst, t.snd.fst)).length ∧
                                                                                (listN (clampN x.fst, t.snd.fst)).length = x_6.fst.length ∧
                                                                                  ∀ (i : Nat),
                                                                                    i < x_6.fst.length →
                                                                                      [AV.int IntKind.i64 ((listN (clampN x.fst, t.snd.fst)).getD (0 + i) 0)] =
                                                                                        [AV.int IntKind.i64 (x_6.fst.getD i 0)]) ∧
                                                                              Tr 1 (x.snd.snd = x_6.snd) ∧ True) ∧
                                                                            true = true ∧ True) ∧
                                                                          (IntL x_6.fst ∧ I64 x_6.snd) ∧
                                                                            ∀ (y : Unit),
                                                                              True →
                                                                                BC (hasN x_5.fst x_5.snd == decide (x_6.snd ∈ x_6.fst))
                                                                                  (Exx ((Nat × Nat) × Int) fun x_7 =>
                                                                                    (((true = true ∧ NilNil ∧ (0 : Nat) = (0 : Nat)) ∧ Tr 1 (x.snd.snd = x_7.snd) ∧ True) ∧
                                                                                        true = true ∧ setB x_5.fst = setB x_7.fst ∧ True) ∧
                                                                                      (SetW x_7.fst ∧ I64 x_7.snd) ∧
                                                                                        ∀ (y : Unit),
                                                                                          True →
                                                                                            Exx (List Int × Int × Int) fun x_8 =>
                                                                                              (((0 + (listN (clampN x.fst, t.snd.fst)).length ≤
                                                                                                        (listN (clampN x.fst, t.snd.fst)).length ∧
                                                                                                      (listN (clampN x.fst, t.snd.fst)).length = x_8.fst.length ∧
                                                                                                        ∀ (i : Nat),
                                                                                                          i < x_8.fst.length →
                                                                                                            [AV.int IntKind.i64
                                                                                                                  ((listN (clampN x.fst, t.snd.fst)).getD (0 + i) 0)] =
                                                                                                              [AV.int IntKind.i64 (x_8.fst.getD i 0)]) ∧
                                                                                                    Tr 1 ((↑(clampN x.fst) : Int) = x_8.snd.fst) ∧
                                                                                                      Tr 1 (x.snd.snd = x_8.snd.snd) ∧ True) ∧
                                                                                                  true = true ∧ True) ∧
                                                                                                (IntL x_8.fst ∧ I64 x_8.snd.fst ∧ x_8.snd.fst ≤ (3072 : Int) ∧ I64 x_8.snd.snd) ∧
                                                                                                  ∀ (y : Unit),
                                                                                                    True →
                                                                                                      Exx Unit fun y =>
                                                                                                        ((decide (gapN x_7.fst x_7.snd = refGapI x_8.fst x_8.snd.fst x_8.snd.snd) =
                                                                                                                true ∧
                                                                                                              True) ∧
                                                                                                            true = true ∧ True) ∧
                                                                                                          True)
                                                                                  (Exx Unit fun y => ((false = true ∧ True) ∧ true = true ∧ True) ∧ True))
                                                            (Exx Unit fun y => ((false = true ∧ True) ∧ true = true ∧ True) ∧ True))))) =
    (fnVC tb [(13, specOf awake17C), (14, specOf smallC), (15, specOf setOfC), (16, specOf setGapC), (17, specObj (specOf setHasC) (specOf setHasOC)), (18, specOf refSizeC), (19, specOf setCountC), (20, specOf setDropC), (21, specObj (specOf setAddC) (specOf setAddOC)), (22, specOf refDropC), (23, specIf refAddI), (24, specOf refIntsC), (25, specOf setListC), (26, specOf setSizeC), (27, specOf refHasC), (28, specOf refGapC)] Tryd.f4 bitsActsC (fun x => { loops := [(7, actsLA x), (15, actsLB x)], joins := [(14, actsLJ x)] }) (fun _ => none)) := by kernel_rfl

theorem bitsActs_ok : SpecOk Tryd.prog 4 (specOf bitsActsC) := by
  refine specOk mixed tb_ok (SPok.cons awake17_ok (SPok.cons small_ok (SPok.cons setOf_ok (SPok.cons setGap_ok (SPok.cons (specObj_ok setHas_ok setHasO_ok) (SPok.cons refSize_ok (SPok.cons setCount_ok (SPok.cons setDrop_ok (SPok.cons (specObj_ok setAdd_ok setAddO_ok) (SPok.cons refDrop_ok (SPok.cons (specIf_ok refAddA_ok refAddB_ok) (SPok.cons refInts_ok (SPok.cons setList_ok (SPok.cons setSize_ok (SPok.cons refHas_ok (SPok.cons refGap_ok SPok.nil)))))))))))))))) Tryd.func4 (by decide) (pureC_ok fun _ => rfl) (an := (fun x => { loops := [(7, actsLA x), (15, actsLB x)], joins := [(14, actsLJ x)] })) (σ := (fun _ => none)) ?_
  rw [← bitsActsV]
  simp (maxSteps := 10000000) only [and_false, false_and, false_or, or_false, bOf_true, bOf_false, true_bOf, false_bOf, Exx, int_ite, merge_o, Tr_eq, true_and, and_true, exists_const, forall_const, implies_true, forall_eq, exists_eq, exists_eq', exists_eq_left, exists_eq_left', exists_eq_right, Prod.exists, Prod.forall, and_assoc, exists_and_left, BC_iff, Bool.not_eq_true', Bool.not_eq_false', decide_eq_true_eq, decide_eq_false_iff_not, I64, nat_cast_inj, Int.toNat_natCast, nats_iff, nats_iff', ints_iff, ints_iff', natss_iff, natss_iff', nilnil, litL_eq, str_inj, str_append, str_length, str_getD, str_take, lit1_iff, one_iff, two_iff, one_get, Nat.zero_add, Nat.sub_zero, Nat.reduceMul, Nat.reduceDiv, Nat.reduceAdd, Int.reduceToNat, Nat.not_lt_zero, if_false, if_true, Nat.le_refl, List.length_singleton, List.length_cons, List.length_nil, Bool.false_eq_true, not_true_eq_false, false_implies, not_false_eq_true, Prod.mk.injEq, setB_inj]
  rintro n acts b ⟨h1, h2, hA, h3, h4⟩ hlen
  have hcl : clampN n ≤ 3072 := by unfold clampN; omega
  have hactI : ∀ i, IntL (acts.getD i (false, [])).2 := getD_mem (p := fun x : ActT => IntL x.2) hA.2 ⟨by simp, by simp⟩
  refine ⟨[], rfl, fun i hi => by simp at hi, h1, h2, ⟨by simp, by simp⟩, h1, h2, ?_⟩
  have e0 : addL (clampN n) 0 [] = 0 := rfl
  generalize clampN n = c at *
  have hL0 : (listN (c, 0)).length = 0 := by simp [listN, bitsL]
  refine ⟨fun s => s.1 ≤ acts.length ∧ s.2.1 < 2 ^ c ∧ (listN (c, s.2.1)).length ≤ s.2.2 ∧ s.2.2 ≤ 9223372036854775807, ⟨0, 0, 0, ⟨by simp, Nat.pos_of_ne_zero (by simp), by rw [hL0]; exact Nat.le_refl _, by simp⟩, hL0, rfl, rfl, e0, rfl, hL0⟩, fun s => acts.length - s.1, ?_⟩
  rintro i m cap ⟨hi, hm, hc1, hc2⟩
  simp only at hi hm hc1 hc2
  have hs : SetW (c, m) := ⟨hcl, hm⟩
  refine ⟨fun hlt => ⟨by omega, by omega, (hactI i).2, fun h30 => ⟨by omega, by omega, fun t => t.1 = i ∧ t.2.1 = stepM (acts.getD i (false, [])).1 c m (acts.getD i (false, [])).2 ∧ t.2.2.1 = m ∧ t.2.2.2 = cap, ?_⟩⟩, fun hge => ?_⟩
  · have hI := hactI i
    have hint : Ints (acts.getD i (false, [])).2 := ⟨hI.1, by omega⟩
    refine ⟨fun hd => ⟨by omega, by omega, hs, hint, i, _, m, cap, ⟨rfl, by simp only [stepM, hd, if_true], rfl, rfl⟩, rfl, rfl, rfl, rfl, rfl, Nat.le_refl _, fun _ _ => rfl⟩, fun hd => ⟨by omega, by omega, hs, hint, i, _, m, cap, ⟨rfl, by simp only [stepM, hd, Bool.false_eq_true, if_false], rfl, rfl⟩, rfl, rfl, rfl, rfl, rfl, Nat.le_refl _, fun _ _ => rfl⟩, ?_⟩
    rintro i' mN mR cp ⟨g1, g2, g3, g4⟩
    simp only at g1 g2 g3 g4
    subst g1 g3 g4
    generalize hL : (acts.getD i' (false, [])).2 = L at *
    generalize hd : (acts.getD i' (false, [])).1 = d at *
    have hmN : mN < 2 ^ c := by rw [g2]; exact stepM_lt hm
    refine ⟨fun t => t.1 = i' ∧ t.2.1 ≤ L.length ∧ t.2.2.1 = mN ∧ t.2.2.2.1 = stepM d c mR (L.take t.2.1) ∧ (listN (c, t.2.2.2.1)).length ≤ t.2.2.2.2 ∧ t.2.2.2.2 ≤ 9223372036854775807, ⟨i', 0, mN, mR, cp, ⟨rfl, by simp, rfl, by simp [stepM_nil], hc1, hc2⟩, rfl, rfl, rfl, rfl, rfl, rfl, Nat.le_refl _, fun _ _ => rfl⟩, fun t => L.length - t.2.1, ?_⟩
    rintro i2 k m2 mr c2 ⟨k1, k2, k3, k4, k5, k6⟩
    simp only at k1 k2 k3 k4 k5 k6
    subst k1 k3
    rw [hL, hd]
    have hmr : mr < 2 ^ c := by rw [k4]; exact stepM_lt hm
    refine ⟨by omega, by omega, fun hk => ?_, fun hk => ?_⟩
    · have hIk : I64 (L.getD k 0) := getD_mem (p := I64) hI.1 (by unfold I64; omega) k
      have hst := stepM_snoc (d := d) (c := c) (m := mR) (l := L) (k := k) (by omega)
      rw [← k4] at hst
      refine ⟨by omega, by omega, fun hdd => ⟨by omega, by omega, by omega, by omega, listN_Ints hcl, hIk.1, hIk.2, fun y hy => ?_⟩, fun hdd => ⟨by omega, by omega, by omega, by omega, c2, listN (c, mr), rfl, rfl, rfl, Nat.le_refl _, fun _ _ => rfl, listN_Ints hcl, k5, k6, by omega, by omega, hIk.1, hIk.2, listN_sorted _, fun hp => ?_, fun hp y hy => ?_⟩⟩
      · rw [ref_drop] at hy ⊢
        refine ⟨by omega, by omega, i2, k + 1, m2, drop1 c mr (L.getD k 0), y, ⟨rfl, by simp only; omega, rfl, ?_, hy.1, hy.2⟩, by simp only; omega, rfl, rfl, rfl, by omega, rfl, rfl, Nat.le_refl _, fun _ _ => rfl⟩
        simp only
        rw [hst, hdd, if_pos rfl]
      · refine ⟨by omega, by omega, i2, k + 1, m2, mr, c2, ⟨rfl, by simp only; omega, rfl, ?_, k5, k6⟩, by simp only; omega, rfl, rfl, rfl, by omega, rfl, rfl, Nat.le_refl _, fun _ _ => rfl⟩
        simp only
        rw [hst, hdd, if_neg (by simp), ref_add_out hp]
      · have hp' : ¬ (L.getD k 0 < 0 ∨ (c : Int) ≤ L.getD k 0 ∨ L.getD k 0 ∈ listN (c, mr)) := hp
        have e := ref_add_in (n := c) (m := mr) (a := L.getD k 0) (by omega) (by omega) (fun h => hp' (.inr (.inr h)))
        have e2 := insI_length (listN (c, mr)) (L.getD k 0)
        rw [e] at e2 ⊢
        refine ⟨by omega, by omega, i2, k + 1, m2, add1 c mr (L.getD k 0), y, ⟨rfl, by simp only; omega, rfl, ?_, by simp only; omega, hy.2⟩, by simp only; omega, e2.symm, rfl, rfl, by omega, rfl, rfl, by omega, fun _ _ => rfl⟩
        simp only
        rw [hst, hdd, if_neg (by simp)]
    · have : mr = m2 := by rw [k4, g2, List.take_of_length_le (by omega)]
      subst this
      refine ⟨⟨hcl, hmr⟩, fun y hy => ⟨(listN_Ints hcl).intL, (listN_Ints hcl).intL, fun h => h rfl, fun _ => ⟨⟨hcl, hmr⟩, fun h => h (by rw [listN, List.length_map]), fun _ => ⟨by omega, by omega, i2 + 1, mr, c2, ⟨by simp only; omega, hmr, k5, k6⟩, by simp only; omega, rfl, rfl, by omega, rfl, rfl, Nat.le_refl _, fun _ _ => rfl⟩⟩⟩⟩
  · refine ⟨hs, hs, h3, h4, (listN_Ints hcl).intL, h3, h4, fun _ => ⟨hs, h3, h4, (listN_Ints hcl).intL, by omega, by omega, by omega, h3, h4, (gapN_ref (c, m) b).symm⟩, fun h => ?_⟩
    rw [has_ref] at h; simp at h

end Yard
