/- The sum of rows told by functions. -/
import Derived.Test.YtoajfhpiepkjkaaCrcLaw
namespace Yard
open Go Go.Sx Go.Proofs
set_option linter.unusedVariables false
set_option linter.unusedSimpArgs false
set_option maxRecDepth 4000

structure Fam where
  n : Nat
  m : Nat → Nat
  f : Nat → Nat → Nat
def famA (x : Fam) : AV := .ro 1 x.n (fun i => [.ro 1 (x.m i) (fun j => [.int .u8 ((x.f i j : Nat) : Int)])])
def famL (x : Fam) : List (List Nat) := (List.range x.n).map fun i => (List.range (x.m i)).map (x.f i)
def sumFC : Ctr := pureC Fam (fun x => Bytess (famL x)) (fun x => [famA x]) (fun x => u32 (sumN (famL x)))
def sumFL (x : Fam) : LA := { T := Nat, F := fun i => frm 20 [(3, .ptr 1 [] 0), (4, u32 (accN ((famL x).take i))), (8, famA x), (9, .int .i64 (x.n : Int)), (10, .int .i64 (i : Int))], H := fun _ => [.fence, tabI tableN] }
theorem famL_len (x : Fam) : (famL x).length = x.n := by simp [famL]
theorem famL_get {x : Fam} {i : Nat} (h : i < x.n) : (famL x).getD i [] = (List.range (x.m i)).map (x.f i) := by rw [famL, getD_mapRange, if_pos h]

-- callees: 20=table_ok 53=register_ok
theorem sumFV : (∀ (x : Fam),
  Bytess (famL x) →
    Exx Unit fun x_1 =>
      Tr 1 (true = true ∧ True) ∧
        Tr 1
          (∀ (y : Unit),
            True →
              Exx (Nat → Prop) fun I =>
                Exx (Nat → Nat) fun m =>
                  (Exx Nat fun t =>
                      I t ∧
                        Tr 3
                            ((true = true ∧ NilNil ∧ (0 : Nat) = (0 : Nat)) ∧
                              Tr 1 (4294967295 = (↑(accN (List.take t (famL x))) : Int)) ∧
                                Tr 3
                                  (((1 : Nat) = (1 : Nat) ∧
                                      x.n = x.n ∧
                                        ∀ (i : Nat),
                                          i < x.n →
                                            [AV.ro 1 (x.m i) fun j => [AV.int IntKind.u8 (↑(x.f i j) : Int)]] = [AV.ro 1 (x.m i) fun j => [AV.int IntKind.u8 (↑(x.f i j) : Int)]]) ∧
                                    Tr 1 ((↑x.n : Int) = (↑x.n : Int)) ∧ Tr 1 (0 = (↑t : Int)) ∧ Tr 9 True)) ∧
                          true = true ∧
                            ((25 : Nat) = (25 : TypeId) ∧
                                (1 : Nat) = (1 : Nat) ∧
                                  (16 : Nat) = (16 : Nat) ∧ (∀ (i : Nat), i < 16 → [AV.int IntKind.u32 (↑(tableN i) : Int)] = [AV.int IntKind.u32 (↑(tableN i) : Int)]) ∧ True) ∧
                              True) ∧
                    ∀ (t : Nat),
                      I t →
                        BC (decide ((↑t : Int) < (↑x.n : Int)))
                          ((0 ≤ (↑t : Int) ∧ (↑t : Int) < (↑x.n : Int)) ∧
                            Exx ((Nat → Nat) × Nat × List Nat) fun x_2 =>
                              (((true = true ∧ NilNil ∧ (0 : Nat) = (0 : Nat)) ∧
                                    Tr 1 ((↑(accN (List.take t (famL x))) : Int) = (↑x_2.snd.fst : Int)) ∧
                                      (x.m (↑t : Int).toNat = x_2.snd.snd.length ∧
                                          ∀ (i : Nat),
                                            i < x_2.snd.snd.length → [AV.int IntKind.u8 (↑(x.f (↑t : Int).toNat i) : Int)] = [AV.int IntKind.u8 (↑(x_2.snd.snd.getD i 0) : Int)]) ∧
                                        True) ∧
                                  true = true ∧
                                    ((25 : TypeId) = (25 : TypeId) ∧
                                        (1 : Nat) = (1 : Nat) ∧
                                          (16 : Nat) = (16 : Nat) ∧
                                            (∀ (i : Nat), i < 16 → [AV.int IntKind.u32 (↑(tableN i) : Int)] = [AV.int IntKind.u32 (↑(x_2.fst i) : Int)]) ∧ True) ∧
                                      True) ∧
                                ((∀ (i : Nat), i < 16 → x_2.fst i < 4294967296) ∧ x_2.snd.fst < 4294967296 ∧ Bytes x_2.snd.snd) ∧
                                  ∀ (y : Unit),
                                    True →
                                      I64 ((↑t : Int) + 1) ∧
                                        Exx Nat fun t' =>
                                          (I t' ∧ m t' < m t) ∧
                                            Tr 3
                                                ((true = true ∧ NilNil ∧ (0 : Nat) = (0 : Nat)) ∧
                                                  Tr 1 ((↑(regN x_2.fst x_2.snd.fst x_2.snd.snd) : Int) = (↑(accN (List.take t' (famL x))) : Int)) ∧
                                                    Tr 3
                                                      (((1 : Nat) = (1 : Nat) ∧
                                                          x.n = x.n ∧
                                                            ∀ (i : Nat),
                                                              i < x.n →
                                                                [AV.ro 1 (x.m i) fun j => [AV.int IntKind.u8 (↑(x.f i j) : Int)]] =
                                                                  [AV.ro 1 (x.m i) fun j => [AV.int IntKind.u8 (↑(x.f i j) : Int)]]) ∧
                                                        Tr 1 ((↑x.n : Int) = (↑x.n : Int)) ∧ Tr 1 ((↑t : Int) + 1 = (↑t' : Int)) ∧ Tr 9 True)) ∧
                                              true = true ∧
                                                ((25 : TypeId) = (25 : TypeId) ∧
                                                    (1 : Nat) = (1 : Nat) ∧
                                                      (16 : Nat) = (16 : Nat) ∧
                                                        (∀ (i : Nat), i < 16 → [AV.int IntKind.u32 (↑(x_2.fst i) : Int)] = [AV.int IntKind.u32 (↑(tableN i) : Int)]) ∧ True) ∧
                                                  True)
                          (∀ (n : Int),
                            n = bits BinOp.xor IntKind.u32 (↑(accN (List.take t (famL x))) : Int) 4294967295 →
                              Exx Unit fun y => ((Tr 1 (n = (↑(sumN (famL x)) : Int)) ∧ True) ∧ true = true ∧ True) ∧ True))) =
    (fnVC tb [(20, specOf tableC), (53, specOf registerC)] Try.f22 sumFC (fun x => { loops := [(3, sumFL x)] }) (fun _ => none)) := by kernel_rfl

theorem sumF_ok : SpecOk Try.prog 22 (specOf sumFC) := by
  refine specOk mixed tb_ok (SPok.cons table_ok (SPok.cons register_ok SPok.nil)) Try.func22 (by decide) (pureC_ok fun _ => rfl) (an := (fun x => { loops := [(3, sumFL x)] })) (σ := (fun _ => none)) ?_
  rw [← sumFV]
  simp only [Exx, Tr_eq, true_and, and_true, exists_const, forall_const, implies_true, forall_eq, exists_eq, exists_eq', exists_eq_left, exists_eq_left', exists_eq_right, Prod.exists, Prod.forall, and_assoc, exists_and_left, BC_iff, Bool.not_eq_true', Bool.not_eq_false', decide_eq_true_eq, decide_eq_false_iff_not, I64, nat_cast_inj, Int.toNat_natCast, nats_iff, nats_iff', ints_iff, ints_iff', natss_iff, natss_iff', nilnil, litL_eq, str_inj, str_append, str_length, str_getD, str_take, lit1_iff, one_iff, two_iff, one_get, Nat.zero_add, Nat.sub_zero, Nat.reduceMul, Nat.reduceDiv, Nat.reduceAdd, Int.reduceToNat, Nat.not_lt_zero, if_false, if_true, Nat.le_refl, List.length_singleton, List.length_cons, List.length_nil, Bool.false_eq_true, not_true_eq_false, false_implies, not_false_eq_true, Prod.mk.injEq]
  intro x hx
  have hlen := hx.2
  have hl := famL_len x
  refine ⟨fun i => i ≤ x.n, ⟨0, by omega, rfl, rfl⟩, fun i => x.n - i, fun i hi => ⟨fun hlt => ⟨by omega, by omega, tableN, (famL x).getD i [], by rw [famL_get (by omega)]; simp, fun j hj => ?_, fun _ _ => rfl, fun _ h => tableN_lt h, accN_take_lt hx i, bytess_get hx i, by omega, by omega, i + 1, by omega, by simp only; omega, ?_, by omega, fun _ _ => rfl⟩, fun hge => ?_⟩⟩
  · rw [famL_get (show i < x.n by omega)] at hj ⊢
    rw [getD_mapRange, if_pos (by simpa using hj)]
  · exact (foldl_take_snoc (regN tableN) ones [] (by omega)).symm
  · rw [show i = (famL x).length by omega, List.take_length, xor_ones (accN_lt fun l hl => (hx.1 l hl).1)]
    rfl

end Yard
