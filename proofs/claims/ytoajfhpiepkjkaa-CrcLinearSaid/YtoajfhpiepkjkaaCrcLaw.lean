/- The sums' laws: what the law's functions compute. -/
import Derived.Test.YtoajfhpiepkjkaaCrc
import Derived.Test.YtoajfhpiepkjkaaSxY
namespace Yard
open Go Go.Sx Go.Proofs
set_option linter.unusedVariables false
set_option linter.unusedSimpArgs false
set_option maxRecDepth 4000

def OctL (l : List Nat) : Prop := (∀ x ∈ l, x < 256) ∧ l.length ≤ 9223372036854775807
def crcTablesC : Ctr := pureC Int (fun x => I64 x) (fun x => [.int .i64 x]) (fun _ => .bool true)
def crcLinearC : Ctr := pureC (List Nat × List Nat × List Nat) (fun x => OctL x.1 ∧ OctL x.2.1 ∧ OctL x.2.2) (fun x => [octs x.1, octs x.2.1, octs x.2.2]) (fun _ => .bool true)
def crcBurstsC : Ctr := pureC (List Nat × Int × Nat) (fun x => OctL x.1 ∧ I64 x.2.1 ∧ x.2.2 < 4294967296) (fun x => [octs x.1, .int .i64 x.2.1, u32 x.2.2]) (fun _ => .bool true)
def crcSumsC : Ctr := pureC (List (List Nat)) (fun x => (∀ l ∈ x, OctL l) ∧ x.length ≤ 9223372036854775807) (fun x => [octss x]) (fun _ => .bool true)
def crcMoreC : Ctr := pureC ((Nat → Nat) × Nat × List Nat) (fun x => (∀ i, i < 16 → x.1 i < 4294967296) ∧ x.2.1 < 4294967296 ∧ OctL x.2.2) (fun x => [tabA x.1, u32 x.2.1, octs x.2.2]) (fun _ => .bool true)
def crcJoinsC : Ctr := pureC (List Nat × List Nat) (fun x => OctL x.1 ∧ OctL x.2) (fun x => [octs x.1, octs x.2]) (fun _ => .bool true)

theorem OctL.bytes {l : List Nat} (h : OctL l) (hl : l.length ≤ 300) : Bytes l := ⟨h.1, by omega⟩

-- callees: 18=crcAwake_ok 19=rest_ok 20=table_ok 21=steps_ok
theorem crcTablesV : (∀ (x : Int),
  -9223372036854775808 ≤ x ∧ x ≤ 9223372036854775807 →
    Exx Unit fun x_1 =>
      Tr 1 (true = true ∧ True) ∧
        Tr 1
          (∀ (y : Unit),
            True →
              Exx (Int × Int) fun x_2 =>
                ((Tr 1 (x = x_2.fst) ∧ Tr 1 (16 = x_2.snd) ∧ True) ∧ true = true ∧ True) ∧
                  (I64 x_2.fst ∧ 1 ≤ x_2.snd ∧ x_2.snd ≤ 1000000) ∧
                    ∀ (y : Unit),
                      True →
                        ∀ (m : Int),
                          m = IntKind.u32.wrap (x_2.fst % x_2.snd) →
                            Exx Unit fun x =>
                              Tr 1 (true = true ∧ True) ∧
                                Tr 1
                                  (∀ (y : Unit),
                                    True →
                                      (0 ≤ x_2.fst % x_2.snd ∧ x_2.fst % x_2.snd < (↑16 : Int) ∧ x_2.fst % x_2.snd < (↑16 : Int)) ∧
                                        Exx (Nat × Nat) fun x =>
                                          ((Tr 1 (m = (↑x.fst : Int)) ∧ Tr 1 (4 = (↑x.snd : Int)) ∧ True) ∧ true = true ∧ True) ∧
                                            (x.fst < 4294967296 ∧ x.snd ≤ 1000) ∧
                                              ∀ (y : Unit),
                                                True →
                                                  Exx Unit fun y =>
                                                    ((decide ((↑(tableN (x_2.fst % x_2.snd).toNat) : Int) = (↑(stepsN x.snd x.fst) : Int)) = true ∧ True) ∧ true = true ∧ True) ∧
                                                      True))) =
    (fnVC tb [(18, specOf crcAwakeC), (19, specOf restC), (20, specOf tableC), (21, specOf stepsC)] Try.f3 crcTablesC (fun _ => {}) (fun _ => none)) := by kernel_rfl

theorem crcTables_ok : SpecOk Try.prog 3 (specOf crcTablesC) := by
  refine specOk mixed tb_ok (SPok.cons crcAwake_ok (SPok.cons rest_ok (SPok.cons table_ok (SPok.cons steps_ok SPok.nil)))) Try.func3 (by decide) (pureC_ok fun _ => rfl) (an := (fun _ => {})) (σ := (fun _ => none)) ?_
  rw [← crcTablesV]
  simp only [Exx, Tr_eq, true_and, and_true, exists_const, forall_const, implies_true, forall_eq, exists_eq, exists_eq', exists_eq_left, exists_eq_left', exists_eq_right, Prod.exists, Prod.forall, and_assoc, exists_and_left, BC_iff, Bool.not_eq_true', Bool.not_eq_false', decide_eq_true_eq, decide_eq_false_iff_not, I64, nat_cast_inj, Int.toNat_natCast, nats_iff, nats_iff', ints_iff, ints_iff', natss_iff, natss_iff', nilnil, litL_eq, str_inj, str_append, str_length, str_getD, str_take, lit1_iff, one_iff, two_iff, one_get, Nat.zero_add, Nat.sub_zero, Nat.reduceMul, Nat.reduceDiv, Nat.reduceAdd, Int.reduceToNat, Nat.not_lt_zero, if_false, if_true, Nat.le_refl, List.length_singleton, List.length_cons, List.length_nil, Bool.false_eq_true, not_true_eq_false, false_implies, not_false_eq_true, Prod.mk.injEq]
  rintro x ⟨h1, h2⟩
  have e : IntKind.u32.wrap (x % 16) = (((x % 16).toNat : Nat) : Int) := by
    rw [show x % 16 = (((x % 16).toNat : Nat) : Int) by omega, wrap32 (by omega)]; rfl
  exact ⟨h1, h2, by omega, by omega, by omega, by omega, by omega, _, e, 4, rfl, by omega, by omega, rfl⟩

theorem ones_sub {n : Nat} (h : n < 4294967296) : IntKind.u32.wrap (4294967295 - (n : Int)) = ((n ^^^ ones : Nat) : Int) := by
  have e : n ^^^ ones = ones - n := by
    have := Nat.xor_comm n ones
    apply Nat.eq_of_testBit_eq
    intro i
    have e2 : ones - n = 2 ^ 32 - (n + 1) := by unfold ones; omega
    rw [e2, Nat.testBit_two_pow_sub_succ h, Nat.testBit_xor, show ones = 2 ^ 32 - 1 from rfl, Nat.testBit_two_pow_sub_one]
    by_cases hi : i < 32
    · simp [hi]
    · have : n.testBit i = false := Nat.testBit_lt_two_pow (Nat.lt_of_lt_of_le h (by
        have := Nat.pow_le_pow_right (n := 2) (by omega) (show 32 ≤ i by omega); simpa using this))
      simp [hi, this]
  rw [e, show (4294967295 : Int) - (n : Int) = ((ones - n : Nat) : Int) by unfold ones; omega, wrap32 (by unfold ones; omega)]

def moreL (x : (Nat → Nat) × Nat × List Nat) : LA := { T := Nat, F := fun i => frm 39 [(1, u32 x.2.1), (2, octs x.2.2), (3, .ptr 1 [] 0), (7, u32 (regN x.1 (x.2.1 ^^^ ones) (x.2.2.take i))), (8, .int .i64 (i : Int))], H := fun _ => [.fence, tabI x.1] }

-- callees: 18=crcAwake_ok 30=take_ok 31=more_ok
theorem crcMoreV : (∀ (x : (Nat → Nat) × Nat × List Nat),
  (∀ (i : Nat), i < 16 → x.fst i < 4294967296) ∧ x.snd.fst < 4294967296 ∧ OctL x.snd.snd →
    Exx Unit fun x_1 =>
      Tr 1 (true = true ∧ True) ∧
        Tr 1
          (∀ (y : Unit),
            True →
              BC (decide (300 < (↑x.snd.snd.length : Int)))
                (Exx Unit fun x => Tr 1 (true = true ∧ True) ∧ Tr 1 (∀ (y : Unit), True → Exx Unit fun y => ((true = true ∧ True) ∧ true = true ∧ True) ∧ True))
                (∀ (n : Int),
                  n = IntKind.u32.wrap (4294967295 - (↑x.snd.fst : Int)) →
                    Exx (Nat → Prop) fun I =>
                      Exx (Nat → Nat) fun m =>
                        (Exx Nat fun t =>
                            I t ∧
                              Tr 1
                                  (Tr 1 ((↑x.snd.fst : Int) = (↑x.snd.fst : Int)) ∧
                                    ((1 : Nat) = (1 : Nat) ∧
                                        x.snd.snd.length = x.snd.snd.length ∧
                                          ∀ (i : Nat),
                                            i < x.snd.snd.length → [AV.int IntKind.u8 (↑(x.snd.snd.getD i 0) : Int)] = [AV.int IntKind.u8 (↑(x.snd.snd.getD i 0) : Int)]) ∧
                                      (true = true ∧ NilNil ∧ (0 : Nat) = (0 : Nat)) ∧
                                        Tr 3 (Tr 1 (n = (↑(regN x.fst (x.snd.fst ^^^ ones) (List.take t x.snd.snd)) : Int)) ∧ Tr 1 (0 = (↑t : Int)) ∧ Tr 30 True)) ∧
                                true = true ∧
                                  ((25 : Nat) = (25 : TypeId) ∧
                                      (1 : Nat) = (1 : Nat) ∧
                                        (16 : Nat) = (16 : Nat) ∧
                                          (∀ (i : Nat), i < 16 → [AV.int IntKind.u32 (↑(x.fst i) : Int)] = [AV.int IntKind.u32 (↑(x.fst i) : Int)]) ∧ True) ∧
                                    True) ∧
                          ∀ (t : Nat),
                            I t →
                              BC (decide ((↑t : Int) < (↑x.snd.snd.length : Int)))
                                ((0 ≤ (↑t : Int) ∧ (↑t : Int) < (↑x.snd.snd.length : Int)) ∧
                                  Exx ((Nat → Nat) × Nat × Nat) fun x_2 =>
                                    ((((1 : Nat) = (1 : Nat) ∧
                                            (16 : Nat) = (16 : Nat) ∧
                                              (∀ (i : Nat), i < 16 → [AV.int IntKind.u32 (↑(x.fst i) : Int)] = [AV.int IntKind.u32 (↑(x_2.fst i) : Int)]) ∧ True) ∧
                                          Tr 1 ((↑(regN x.fst (x.snd.fst ^^^ ones) (List.take t x.snd.snd)) : Int) = (↑x_2.snd.fst : Int)) ∧
                                            Tr 1 ((↑(x.snd.snd.getD (↑t : Int).toNat 0) : Int) = (↑x_2.snd.snd : Int)) ∧ True) ∧
                                        true = true ∧ True) ∧
                                      ((∀ (i : Nat), i < 16 → x_2.fst i < 4294967296) ∧ x_2.snd.fst < 4294967296 ∧ x_2.snd.snd < 256) ∧
                                        ∀ (y : Unit),
                                          True →
                                            I64 ((↑t : Int) + 1) ∧
                                              Exx Nat fun t' =>
                                                (I t' ∧ m t' < m t) ∧
                                                  Tr 1
                                                      (Tr 1 ((↑x.snd.fst : Int) = (↑x.snd.fst : Int)) ∧
                                                        ((1 : Nat) = (1 : Nat) ∧
                                                            x.snd.snd.length = x.snd.snd.length ∧
                                                              ∀ (i : Nat),
                                                                i < x.snd.snd.length →
                                                                  [AV.int IntKind.u8 (↑(x.snd.snd.getD i 0) : Int)] = [AV.int IntKind.u8 (↑(x.snd.snd.getD i 0) : Int)]) ∧
                                                          (true = true ∧ NilNil ∧ (0 : Nat) = (0 : Nat)) ∧
                                                            Tr 3
                                                              (Tr 1
                                                                  ((↑(takeN x_2.fst x_2.snd.fst x_2.snd.snd) : Int) =
                                                                    (↑(regN x.fst (x.snd.fst ^^^ ones) (List.take t' x.snd.snd)) : Int)) ∧
                                                                Tr 1 ((↑t : Int) + 1 = (↑t' : Int)) ∧ Tr 30 True)) ∧
                                                    true = true ∧
                                                      ((25 : TypeId) = (25 : TypeId) ∧
                                                          (1 : Nat) = (1 : Nat) ∧
                                                            (16 : Nat) = (16 : Nat) ∧
                                                              (∀ (i : Nat), i < 16 → [AV.int IntKind.u32 (↑(x.fst i) : Int)] = [AV.int IntKind.u32 (↑(x.fst i) : Int)]) ∧ True) ∧
                                                        True)
                                (Exx ((Nat → Nat) × Nat × List Nat) fun x_2 =>
                                  ((((1 : Nat) = (1 : Nat) ∧
                                          (16 : Nat) = (16 : Nat) ∧
                                            (∀ (i : Nat), i < 16 → [AV.int IntKind.u32 (↑(x.fst i) : Int)] = [AV.int IntKind.u32 (↑(x_2.fst i) : Int)]) ∧ True) ∧
                                        Tr 1 ((↑x.snd.fst : Int) = (↑x_2.snd.fst : Int)) ∧
                                          (x.snd.snd.length = x_2.snd.snd.length ∧
                                              ∀ (i : Nat),
                                                i < x_2.snd.snd.length → [AV.int IntKind.u8 (↑(x.snd.snd.getD i 0) : Int)] = [AV.int IntKind.u8 (↑(x_2.snd.snd.getD i 0) : Int)]) ∧
                                            True) ∧
                                      true = true ∧ True) ∧
                                    ((∀ (i : Nat), i < 16 → x_2.fst i < 4294967296) ∧ x_2.snd.fst < 4294967296 ∧ Bytes x_2.snd.snd) ∧
                                      ∀ (y : Unit),
                                        True →
                                          ∀ (n : Int),
                                            n = IntKind.u32.wrap (4294967295 - (↑(regN x.fst (x.snd.fst ^^^ ones) (List.take t x.snd.snd)) : Int)) →
                                              Exx Unit fun y =>
                                                ((decide ((↑(regN x_2.fst (x_2.snd.fst ^^^ ones) x_2.snd.snd ^^^ ones) : Int) = n) = true ∧ True) ∧ true = true ∧ True) ∧ True)))) =
    (fnVC tb [(18, specOf crcAwakeC), (30, specOf takeC), (31, specOf moreC)] Try.f8 crcMoreC (fun x => { loops := [(5, moreL x)] }) (fun _ => none)) := by kernel_rfl

theorem crcMore_ok : SpecOk Try.prog 8 (specOf crcMoreC) := by
  refine specOk mixed tb_ok (SPok.cons crcAwake_ok (SPok.cons take_ok (SPok.cons more_ok SPok.nil))) Try.func8 (by decide) (pureC_ok fun _ => rfl) (an := (fun x => { loops := [(5, moreL x)] })) (σ := (fun _ => none)) ?_
  rw [← crcMoreV]
  simp only [Exx, Tr_eq, true_and, and_true, exists_const, forall_const, implies_true, forall_eq, exists_eq, exists_eq', exists_eq_left, exists_eq_left', exists_eq_right, Prod.exists, Prod.forall, and_assoc, exists_and_left, BC_iff, Bool.not_eq_true', Bool.not_eq_false', decide_eq_true_eq, decide_eq_false_iff_not, I64, nat_cast_inj, Int.toNat_natCast, nats_iff, nats_iff', ints_iff, ints_iff', natss_iff, natss_iff', nilnil, litL_eq, str_inj, str_append, str_length, str_getD, str_take, lit1_iff, one_iff, two_iff, one_get, Nat.zero_add, Nat.sub_zero, Nat.reduceMul, Nat.reduceDiv, Nat.reduceAdd, Int.reduceToNat, Nat.not_lt_zero, if_false, if_true, Nat.le_refl, List.length_singleton, List.length_cons, List.length_nil, Bool.false_eq_true, not_true_eq_false, false_implies, not_false_eq_true, Prod.mk.injEq]
  rintro f s l ⟨hf, hs, hl⟩ hlen
  have hb := hl.bytes (by omega)
  have ht : ∀ i, ∀ c ∈ l.take i, c < 256 := fun i c hc => hl.1 c (List.mem_of_mem_take hc)
  have hx := xor_ones_lt hs
  refine ⟨fun i => i ≤ l.length, ⟨0, by omega, ones_sub hs, rfl⟩, fun i => l.length - i, fun i hi => ⟨fun hl2 => ⟨by omega, by omega, f, fun _ _ => rfl, hf, regN_lt hf (ht i) hx, bytes_get hb i, by omega, by omega, i + 1, by omega, by simp only; omega, (regN_snoc f _ (by omega)).symm, by omega⟩, fun hl2 => ⟨f, fun _ _ => rfl, hf, hs, hb, ?_⟩⟩⟩
  rw [show i = l.length by omega, List.take_length, ones_sub (regN_lt hf hb.1 hx)]

-- callees: 18=crcAwake_ok 20=table_ok 22=sum_ok 31=more_ok
theorem crcJoinsV : (∀ (x : List Nat × List Nat),
  OctL x.fst ∧ OctL x.snd →
    Exx Unit fun x_1 =>
      Tr 1 (true = true ∧ True) ∧
        Tr 1
          (∀ (y : Unit),
            True →
              BC (decide (300 < (↑x.fst.length : Int)))
                (Exx Unit fun x => Tr 1 (true = true ∧ True) ∧ Tr 1 (∀ (y : Unit), True → Exx Unit fun y => ((true = true ∧ True) ∧ true = true ∧ True) ∧ True))
                (BC (decide (300 < (↑x.snd.length : Int)))
                  (Exx Unit fun x => Tr 1 (true = true ∧ True) ∧ Tr 1 (∀ (y : Unit), True → Exx Unit fun y => ((true = true ∧ True) ∧ true = true ∧ True) ∧ True))
                  (Exx Unit fun x_2 =>
                    Tr 1 (true = true ∧ True) ∧
                      Tr 1
                        (∀ (y : Unit),
                          True →
                            Exx (List (List Nat)) fun x_3 =>
                              ((((0 : Nat) + (1 : Nat) ≤ (1 : Nat) ∧
                                      1 = x_3.length ∧
                                        ∀ (i : Nat),
                                          i < x_3.length →
                                            (if 0 + i = 0 * 1 / 1 then [AV.ro 1 x.fst.length fun i => [AV.int IntKind.u8 (↑(x.fst.getD i 0) : Int)]] else [AV.nils]) =
                                              [AV.ro 1 (x_3.getD i []).length fun i_1 => [AV.int IntKind.u8 (↑((x_3.getD i []).getD i_1 0) : Int)]]) ∧
                                    True) ∧
                                  true = true ∧ True) ∧
                                Bytess x_3 ∧
                                  ∀ (y : Unit),
                                    True →
                                      Exx ((Nat → Nat) × Nat × List Nat) fun x_4 =>
                                        ((((1 : Nat) = (1 : Nat) ∧
                                                (16 : Nat) = (16 : Nat) ∧
                                                  (∀ (i : Nat), i < 16 → [AV.int IntKind.u32 (↑(tableN i) : Int)] = [AV.int IntKind.u32 (↑(x_4.fst i) : Int)]) ∧ True) ∧
                                              Tr 1 ((↑(sumN x_3) : Int) = (↑x_4.snd.fst : Int)) ∧
                                                (x.snd.length = x_4.snd.snd.length ∧
                                                    ∀ (i : Nat),
                                                      i < x_4.snd.snd.length →
                                                        [AV.int IntKind.u8 (↑(x.snd.getD i 0) : Int)] = [AV.int IntKind.u8 (↑(x_4.snd.snd.getD i 0) : Int)]) ∧
                                                  True) ∧
                                            true = true ∧ True) ∧
                                          ((∀ (i : Nat), i < 16 → x_4.fst i < 4294967296) ∧ x_4.snd.fst < 4294967296 ∧ Bytes x_4.snd.snd) ∧
                                            ∀ (y : Unit),
                                              True →
                                                Exx (List (List Nat)) fun x_5 =>
                                                  ((((0 : Nat) + (2 : Nat) ≤ (2 : Nat) ∧
                                                          2 = x_5.length ∧
                                                            ∀ (i : Nat),
                                                              i < x_5.length →
                                                                (if 0 + i = 1 * 1 / 1 then [AV.ro 1 x.snd.length fun i => [AV.int IntKind.u8 (↑(x.snd.getD i 0) : Int)]]
                                                                  else
                                                                    if 0 + i = 0 * 1 / 1 then [AV.ro 1 x.fst.length fun i => [AV.int IntKind.u8 (↑(x.fst.getD i 0) : Int)]]
                                                                    else [AV.nils]) =
                                                                  [AV.ro 1 (x_5.getD i []).length fun i_1 => [AV.int IntKind.u8 (↑((x_5.getD i []).getD i_1 0) : Int)]]) ∧
                                                        True) ∧
                                                      true = true ∧ True) ∧
                                                    Bytess x_5 ∧
                                                      ∀ (y : Unit),
                                                        True →
                                                          Exx Unit fun y =>
                                                            ((decide ((↑(regN x_4.fst (x_4.snd.fst ^^^ ones) x_4.snd.snd ^^^ ones) : Int) = (↑(sumN x_5) : Int)) = true ∧ True) ∧
                                                                true = true ∧ True) ∧
                                                              True))))) =
    (fnVC tb [(18, specOf crcAwakeC), (20, specOf tableC), (22, specOf sumC), (31, specOf moreC)] Try.f9 crcJoinsC (fun _ => {}) (fun _ => none)) := by kernel_rfl

theorem crcJoins_ok : SpecOk Try.prog 9 (specOf crcJoinsC) := by
  refine specOk mixed tb_ok (SPok.cons crcAwake_ok (SPok.cons table_ok (SPok.cons sum_ok (SPok.cons more_ok SPok.nil)))) Try.func9 (by decide) (pureC_ok fun _ => rfl) (an := (fun _ => {})) (σ := (fun _ => none)) ?_
  rw [← crcJoinsV]
  simp only [Exx, Tr_eq, true_and, and_true, exists_const, forall_const, implies_true, forall_eq, exists_eq, exists_eq', exists_eq_left, exists_eq_left', exists_eq_right, Prod.exists, Prod.forall, and_assoc, exists_and_left, BC_iff, Bool.not_eq_true', Bool.not_eq_false', decide_eq_true_eq, decide_eq_false_iff_not, I64, nat_cast_inj, Int.toNat_natCast, nats_iff, nats_iff', ints_iff, ints_iff', natss_iff, natss_iff', nilnil, litL_eq, str_inj, str_append, str_length, str_getD, str_take, lit1_iff, one_iff, two_iff, one_get, Nat.zero_add, Nat.sub_zero, Nat.reduceMul, Nat.reduceDiv, Nat.reduceAdd, Int.reduceToNat, Nat.not_lt_zero, if_false, if_true, Nat.le_refl, List.length_singleton, List.length_cons, List.length_nil, Bool.false_eq_true, not_true_eq_false, false_implies, not_false_eq_true, Prod.mk.injEq]
  rintro a b ⟨ha, hb⟩ h1 h2
  have ha := ha.bytes (by omega)
  have hb := hb.bytes (by omega)
  have h3 : Bytess [a] := ⟨fun l hl => by simp at hl; subst hl; exact ha, by simp⟩
  have h4 : Bytess [a, b] := ⟨fun l hl => by simp at hl; rcases hl with rfl | rfl <;> assumption, by simp⟩
  refine ⟨h3, tableN, fun _ _ => rfl, fun _ h => tableN_lt h, xor_ones_lt (accN_lt fun l hl => (h3.1 l hl).1), hb, h4, ?_⟩
  show regN tableN ((accN [a] ^^^ ones) ^^^ ones) b ^^^ ones = accN [a, b] ^^^ ones
  rw [Nat.xor_assoc (accN [a]), Nat.xor_self, Nat.xor_zero]; rfl

def burstL (x : List Nat × Int × Nat) : LA := { T := Nat × Nat × List Nat, F := fun s => frm 71 [(0, octs x.1), (2, u32 x.2.2), (7, .int .i64 (x.2.1 % (8 * (x.1.length : Int) - 31))), (8, .sl 1 [] 0 1 0 s.2.2.length s.2.1), (9, .int .i64 (s.1 : Int))], H := fun s => [.fence, .row 5 1 s.2.1 s.2.2.length (fun j => [.int .u8 ((s.2.2.getD j 0 : Nat) : Int)])] }

theorem set_getD {l : List Nat} {j i v : Nat} (hj : j < l.length) : (l.set j v).getD i 0 = if i = j then v else l.getD i 0 := by
  rw [List.getD_eq_getElem?_getD, List.getD_eq_getElem?_getD, List.getElem?_set]
  by_cases h : j = i
  · subst h; rw [if_pos rfl, if_pos hj, if_pos rfl]; rfl
  · rw [if_neg h, if_neg (fun e => h e.symm)]
theorem acc_bits : ∀ {x : List (List Nat)} {a : Nat}, x.foldl (regN tableN) a = bitN a x.flatten
  | [], a => rfl
  | l :: r, a => by
    rw [List.foldl_cons, acc_bits (x := r), List.flatten_cons]
    have e : ∀ (l : List Nat) (a : Nat), regN tableN a l = bitN a l := by
      intro l
      induction l with
      | nil => intro a; rfl
      | cons c s ih =>
        intro a
        show regN tableN (takeN tableN a c) s = bitN (stepsN 8 (a ^^^ c)) s
        rw [ih]
        congr 1
        show halfN (stepsN 4) (halfN (stepsN 4) (a ^^^ c)) = _
        rw [half_steps, half_steps]
        exact (stepsN_add 4 4 _).symm
    rw [e]
    simp only [bitN, List.foldl_append]
theorem sum_bits (x : List (List Nat)) : sumN x = bitN ones x.flatten ^^^ ones := by rw [sumN, accN, acc_bits]
theorem xor_cancel {a b c : Nat} (h : a ^^^ c = b ^^^ c) : a = b := by
  have := congrArg (· ^^^ c) h
  simpa only [Nat.xor_assoc, Nat.xor_self, Nat.xor_zero] using this
theorem bytess_one {l : List Nat} (h : Bytes l) : Bytess [l] := ⟨fun m hm => by simp at hm; subst hm; exact h, by simp⟩

-- callees: 18=crcAwake_ok 19=rest_ok 22=sum_ok
theorem crcBurstsV : (∀ (x : List Nat × Int × Nat),
  OctL x.fst ∧ I64 x.snd.fst ∧ x.snd.snd < 4294967296 →
    Exx Unit fun x_1 =>
      Tr 1 (true = true ∧ True) ∧
        Tr 1
          (∀ (y : Unit),
            True →
              BC (decide (300 < (↑x.fst.length : Int)))
                (Exx Unit fun x => Tr 1 (true = true ∧ True) ∧ Tr 1 (∀ (y : Unit), True → Exx Unit fun y => ((true = true ∧ True) ∧ true = true ∧ True) ∧ True))
                (BC (decide ((↑x.fst.length : Int) < 4))
                  (Exx Unit fun x => Tr 1 (true = true ∧ True) ∧ Tr 1 (∀ (y : Unit), True → Exx Unit fun y => ((true = true ∧ True) ∧ true = true ∧ True) ∧ True))
                  (BC (decide ((↑x.snd.snd : Int) = 0))
                    (Exx Unit fun x => Tr 1 (true = true ∧ True) ∧ Tr 1 (∀ (y : Unit), True → Exx Unit fun y => ((true = true ∧ True) ∧ true = true ∧ True) ∧ True))
                    (I64 (8 * (↑x.fst.length : Int)) ∧
                      I64 (8 * (↑x.fst.length : Int) - 31) ∧
                        Exx (Int × Int) fun x_2 =>
                          ((Tr 1 (x.snd.fst = x_2.fst) ∧ Tr 1 (8 * (↑x.fst.length : Int) - 31 = x_2.snd) ∧ True) ∧ true = true ∧ True) ∧
                            (I64 x_2.fst ∧ 1 ≤ x_2.snd ∧ x_2.snd ≤ 1000000) ∧
                              ∀ (y : Unit),
                                True →
                                  true = true ∧
                                    ((0 : Nat) ≤ (0 : Nat) ∧ (0 : Nat) = (0 : Nat)) ∧
                                      (0 + x.fst.length ≤ 9223372036854775807 ∧ (0 + x.fst.length) * 1 ≤ 140737488355328) ∧
                                        ∀ (cap : Nat),
                                          0 + x.fst.length ≤ cap ∧ cap ≤ 9223372036854775807 →
                                            Exx (Nat × Nat × List Nat → Prop) fun I =>
                                              Exx (Nat × Nat × List Nat → Nat) fun m =>
                                                (Exx (Nat × Nat × List Nat) fun t =>
                                                    I t ∧
                                                      (((1 : Nat) = (1 : Nat) ∧
                                                            x.fst.length = x.fst.length ∧
                                                              ∀ (i : Nat),
                                                                i < x.fst.length → [AV.int IntKind.u8 (↑(x.fst.getD i 0) : Int)] = [AV.int IntKind.u8 (↑(x.fst.getD i 0) : Int)]) ∧
                                                          Tr 1
                                                            (Tr 1 ((↑x.snd.snd : Int) = (↑x.snd.snd : Int)) ∧
                                                              Tr 4
                                                                (Tr 1 (x_2.fst % x_2.snd = x.snd.fst % (8 * (↑x.fst.length : Int) - 31)) ∧
                                                                  (true = true ∧
                                                                      NilNil ∧
                                                                        (0 : Nat) = (0 : Nat) ∧
                                                                          (1 : Nat) = (1 : Nat) ∧ (0 : Nat) = (0 : Nat) ∧ 0 + x.fst.length = t.snd.snd.length ∧ cap = t.snd.fst) ∧
                                                                    Tr 1 (0 = (↑t.fst : Int)) ∧ Tr 61 True))) ∧
                                                        true = true ∧
                                                          ((5 : TypeId) = (5 : TypeId) ∧
                                                              (1 : Nat) = (1 : Nat) ∧
                                                                cap = t.snd.fst ∧
                                                                  t.snd.snd.length ≤ 0 + x.fst.length ∧
                                                                    ∀ (i : Nat),
                                                                      i < t.snd.snd.length →
                                                                        (if i < 0 then [] else [AV.int IntKind.u8 (↑(x.fst.getD (i - 0) 0) : Int)]) =
                                                                          [AV.int IntKind.u8 (↑(t.snd.snd.getD i 0) : Int)]) ∧
                                                            True) ∧
                                                  ∀ (t : Nat × Nat × List Nat),
                                                    I t →
                                                      BC (decide ((↑t.fst : Int) < 32))
                                                        (0 ≤ (↑t.fst : Int) ∧
                                                          ∀ (n : Int),
                                                            n = (↑x.snd.snd : Int).fdiv (2 ^ min (↑t.fst : Int).toNat IntKind.u32.bits) →
                                                              ∀ (n_1 : Int),
                                                                n_1 = bits BinOp.and IntKind.u32 n 1 →
                                                                  BC (decide (n_1 = 1))
                                                                    (I64 (x.snd.fst % (8 * (↑x.fst.length : Int) - 31) + (↑t.fst : Int)) ∧
                                                                      (8 : Int) ≠ (0 : Int) ∧
                                                                        I64 ((x.snd.fst % (8 * (↑x.fst.length : Int) - 31) + (↑t.fst : Int)).tdiv 8) ∧
                                                                          I64 (x.snd.fst % (8 * (↑x.fst.length : Int) - 31) + (↑t.fst : Int)) ∧
                                                                            (8 : Int) ≠ (0 : Int) ∧
                                                                              I64 ((x.snd.fst % (8 * (↑x.fst.length : Int) - 31) + (↑t.fst : Int)).tdiv 8) ∧
                                                                                (0 ≤ (x.snd.fst % (8 * (↑x.fst.length : Int) - 31) + (↑t.fst : Int)).tdiv 8 ∧
                                                                                    (x.snd.fst % (8 * (↑x.fst.length : Int) - 31) + (↑t.fst : Int)).tdiv 8 <
                                                                                      (↑t.snd.snd.length : Int)) ∧
                                                                                  0 + ((x.snd.fst % (8 * (↑x.fst.length : Int) - 31) + (↑t.fst : Int)).tdiv 8).toNat <
                                                                                      t.snd.snd.length ∧
                                                                                    I64 (x.snd.fst % (8 * (↑x.fst.length : Int) - 31) + (↑t.fst : Int)) ∧
                                                                                      (8 : Int) ≠ (0 : Int) ∧
                                                                                        ∀ (n : Int),
                                                                                          n = (x.snd.fst % (8 * (↑x.fst.length : Int) - 31) + (↑t.fst : Int)).tmod 8 →
                                                                                            0 ≤ n ∧
                                                                                              ∀ (n_2 : Int),
                                                                                                n_2 = IntKind.u8.wrap (1 * 2 ^ min n.toNat IntKind.u8.bits) →
                                                                                                  ∀ (n : Int),
                                                                                                    n =
                                                                                                        bits BinOp.xor IntKind.u8
                                                                                                          (↑(t.snd.snd.getD
                                                                                                                (0 +
                                                                                                                  ((x.snd.fst % (8 * (↑x.fst.length : Int) - 31) +
                                                                                                                          (↑t.fst : Int)).tdiv
                                                                                                                      8).toNat)
                                                                                                                0) :
                                                                                                            Int)
                                                                                                          n_2 →
                                                                                                      (0 ≤ (x.snd.fst % (8 * (↑x.fst.length : Int) - 31) + (↑t.fst : Int)).tdiv 8 ∧
                                                                                                          (x.snd.fst % (8 * (↑x.fst.length : Int) - 31) + (↑t.fst : Int)).tdiv 8 <
                                                                                                            (↑t.snd.snd.length : Int)) ∧
                                                                                                        0 +
                                                                                                              ((x.snd.fst % (8 * (↑x.fst.length : Int) - 31) + (↑t.fst : Int)).tdiv
                                                                                                                  8).toNat <
                                                                                                            t.snd.snd.length ∧
                                                                                                          t.snd.snd.length = t.snd.snd.length ∧
                                                                                                            I64 ((↑t.fst : Int) + 1) ∧
                                                                                                              Exx (Nat × Nat × List Nat) fun t' =>
                                                                                                                (I t' ∧ m t' < m t) ∧
                                                                                                                  (((1 : Nat) = (1 : Nat) ∧
                                                                                                                        x.fst.length = x.fst.length ∧
                                                                                                                          ∀ (i : Nat),
                                                                                                                            i < x.fst.length →
                                                                                                                              [AV.int IntKind.u8 (↑(x.fst.getD i 0) : Int)] =
                                                                                                                                [AV.int IntKind.u8 (↑(x.fst.getD i 0) : Int)]) ∧
                                                                                                                      Tr 1
                                                                                                                        (Tr 1 ((↑x.snd.snd : Int) = (↑x.snd.snd : Int)) ∧
                                                                                                                          Tr 4
                                                                                                                            (Tr 1
                                                                                                                                (x.snd.fst % (8 * (↑x.fst.length : Int) - 31) =
                                                                                                                                  x.snd.fst % (8 * (↑x.fst.length : Int) - 31)) ∧
                                                                                                                              (true = true ∧
                                                                                                                                  NilNil ∧
                                                                                                                                    (0 : Nat) = (0 : Nat) ∧
                                                                                                                                      (1 : Nat) = (1 : Nat) ∧
                                                                                                                                        (0 : Nat) = (0 : Nat) ∧
                                                                                                                                          t.snd.snd.length = t'.snd.snd.length ∧
                                                                                                                                            t.snd.fst = t'.snd.fst) ∧
                                                                                                                                Tr 1 ((↑t.fst : Int) + 1 = (↑t'.fst : Int)) ∧
                                                                                                                                  Tr 61 True))) ∧
                                                                                                                    true = true ∧
                                                                                                                      ((5 : TypeId) = (5 : TypeId) ∧
                                                                                                                          (1 : Nat) = (1 : Nat) ∧
                                                                                                                            t.snd.fst = t'.snd.fst ∧
                                                                                                                              t'.snd.snd.length ≤ t.snd.snd.length ∧
                                                                                                                                ∀ (i : Nat),
                                                                                                                                  i < t'.snd.snd.length →
                                                                                                                                    (if
                                                                                                                                          i =
                                                                                                                                            0 +
                                                                                                                                              ((x.snd.fst %
                                                                                                                                                        (8 * (↑x.fst.length : Int) -
                                                                                                                                                          31) +
                                                                                                                                                      (↑t.fst : Int)).tdiv
                                                                                                                                                  8).toNat then
                                                                                                                                        [AV.int IntKind.u8 n]
                                                                                                                                      else
                                                                                                                                        [AV.int IntKind.u8
                                                                                                                                            (↑(t.snd.snd.getD i 0) : Int)]) =
                                                                                                                                      [AV.int IntKind.u8
                                                                                                                                          (↑(t'.snd.snd.getD i 0) : Int)]) ∧
                                                                                                                        True)
                                                                    (I64 ((↑t.fst : Int) + 1) ∧
                                                                      Exx (Nat × Nat × List Nat) fun t' =>
                                                                        (I t' ∧ m t' < m t) ∧
                                                                          (((1 : Nat) = (1 : Nat) ∧
                                                                                x.fst.length = x.fst.length ∧
                                                                                  ∀ (i : Nat),
                                                                                    i < x.fst.length →
                                                                                      [AV.int IntKind.u8 (↑(x.fst.getD i 0) : Int)] =
                                                                                        [AV.int IntKind.u8 (↑(x.fst.getD i 0) : Int)]) ∧
                                                                              Tr 1
                                                                                (Tr 1 ((↑x.snd.snd : Int) = (↑x.snd.snd : Int)) ∧
                                                                                  Tr 4
                                                                                    (Tr 1
                                                                                        (x.snd.fst % (8 * (↑x.fst.length : Int) - 31) =
                                                                                          x.snd.fst % (8 * (↑x.fst.length : Int) - 31)) ∧
                                                                                      (true = true ∧
                                                                                          NilNil ∧
                                                                                            (0 : Nat) = (0 : Nat) ∧
                                                                                              (1 : Nat) = (1 : Nat) ∧
                                                                                                (0 : Nat) = (0 : Nat) ∧
                                                                                                  t.snd.snd.length = t'.snd.snd.length ∧ t.snd.fst = t'.snd.fst) ∧
                                                                                        Tr 1 ((↑t.fst : Int) + 1 = (↑t'.fst : Int)) ∧ Tr 61 True))) ∧
                                                                            true = true ∧
                                                                              ((5 : TypeId) = (5 : TypeId) ∧
                                                                                  (1 : Nat) = (1 : Nat) ∧
                                                                                    t.snd.fst = t'.snd.fst ∧
                                                                                      t'.snd.snd.length ≤ t.snd.snd.length ∧
                                                                                        ∀ (i : Nat),
                                                                                          i < t'.snd.snd.length →
                                                                                            [AV.int IntKind.u8 (↑(t.snd.snd.getD i 0) : Int)] =
                                                                                              [AV.int IntKind.u8 (↑(t'.snd.snd.getD i 0) : Int)]) ∧
                                                                                True))
                                                        (Exx (List (List Nat)) fun x_3 =>
                                                          ((((0 : Nat) + (1 : Nat) ≤ (1 : Nat) ∧
                                                                  1 = x_3.length ∧
                                                                    ∀ (i : Nat),
                                                                      i < x_3.length →
                                                                        (if 0 + i = 0 * 1 / 1 then [AV.ro 1 x.fst.length fun i => [AV.int IntKind.u8 (↑(x.fst.getD i 0) : Int)]]
                                                                          else [AV.nils]) =
                                                                          [AV.ro 1 (x_3.getD i []).length fun i_1 => [AV.int IntKind.u8 (↑((x_3.getD i []).getD i_1 0) : Int)]]) ∧
                                                                True) ∧
                                                              true = true ∧ True) ∧
                                                            Bytess x_3 ∧
                                                              ∀ (y : Unit),
                                                                True →
                                                                  Exx (List (List Nat)) fun x =>
                                                                    ((((1 : Nat) = (1 : Nat) ∧
                                                                            1 = x.length ∧
                                                                              1 ≤ [AV.sl 1 [] 0 1 0 t.snd.snd.length t.snd.fst].length ∧
                                                                                (0 + t.snd.snd.length ≤ t.snd.snd.length ∧
                                                                                    t.snd.snd.length = (x.getD 0 []).length ∧
                                                                                      ∀ (j : Nat),
                                                                                        j < (x.getD 0 []).length →
                                                                                          [AV.int IntKind.u8 (↑(t.snd.snd.getD (0 + j) 0) : Int)] =
                                                                                            [AV.int IntKind.u8 (↑((x.getD 0 []).getD j 0) : Int)]) ∧
                                                                                  True) ∧
                                                                          True) ∧
                                                                        true = true ∧ True) ∧
                                                                      Bytess x ∧
                                                                        ∀ (y : Unit),
                                                                          True →
                                                                            Exx Unit fun y =>
                                                                              (((!decide ((↑(sumN x_3) : Int) = (↑(sumN x) : Int))) = true ∧ True) ∧ true = true ∧ True) ∧ True)))))) =
    (fnVC tb [(18, specOf crcAwakeC), (19, specOf restC), (22, specOf sumC)] Try.f5 crcBurstsC (fun x => { loops := [(6, burstL x)] }) (fun _ => none)) := by kernel_rfl

theorem crcBursts_ok : SpecOk Try.prog 5 (specOf crcBurstsC) := by
  refine specOk mixed tb_ok (SPok.cons crcAwake_ok (SPok.cons rest_ok (SPok.cons sum_ok SPok.nil))) Try.func5 (by decide) (pureC_ok fun _ => rfl) (an := (fun x => { loops := [(6, burstL x)] })) (σ := (fun _ => none)) ?_
  rw [← crcBurstsV]
  simp only [Exx, Tr_eq, true_and, and_true, exists_const, forall_const, implies_true, forall_eq, exists_eq, exists_eq', exists_eq_left, exists_eq_left', exists_eq_right, Prod.exists, Prod.forall, and_assoc, exists_and_left, BC_iff, Bool.not_eq_true', Bool.not_eq_false', decide_eq_true_eq, decide_eq_false_iff_not, I64, nat_cast_inj, Int.toNat_natCast, nats_iff, nats_iff', ints_iff, ints_iff', natss_iff, natss_iff', nilnil, litL_eq, str_inj, str_append, str_length, str_getD, str_take, lit1_iff, one_iff, two_iff, one_get, Nat.zero_add, Nat.sub_zero, Nat.reduceMul, Nat.reduceDiv, Nat.reduceAdd, Int.reduceToNat, Nat.not_lt_zero, if_false, if_true, Nat.le_refl, List.length_singleton, List.length_cons, List.length_nil, Bool.false_eq_true, not_true_eq_false, false_implies, not_false_eq_true, Prod.mk.injEq]
  rintro a at_ w ⟨ha, h1, h2, hw⟩ h3 h4 h0
  have hb := ha.bytes (by omega)
  repeat refine And.intro (by omega) ?_
  rintro cap ⟨hc1, hc2⟩
  have hk1 := Int.emod_nonneg at_ (b := 8 * (a.length : Int) - 31) (by omega)
  have hk2 := Int.emod_lt_of_pos at_ (b := 8 * (a.length : Int) - 31) (by omega)
  generalize at_ % (8 * (a.length : Int) - 31) = k0 at *
  obtain ⟨k, rfl⟩ : ∃ k : Nat, k0 = (k : Int) := ⟨k0.toNat, by omega⟩
  refine ⟨fun s => s.1 ≤ 32 ∧ s.2.2.length = a.length ∧ (∀ c ∈ s.2.2, c < 256) ∧ numN s.2.2 = numN a ^^^ (w % 2 ^ s.1 * 2 ^ k), ⟨0, cap, a, ⟨by simp, rfl, ha.1, by simp [Nat.mod_one]⟩, rfl, rfl, rfl, rfl, by omega, fun _ _ => rfl⟩, fun s => 32 - s.1, ?_⟩
  rintro i cap l ⟨hi, hl, hlt, hn⟩
  simp only at hi hl hlt hn
  have hs := shr_nat (a := w) (i := i) (n := IntKind.u32.bits) hi
  have hand : bits BinOp.and IntKind.u32 ((w / 2 ^ i : Nat) : Int) 1 = ((w / 2 ^ i % 2 : Nat) : Int) := and_one (Nat.lt_of_le_of_lt (Nat.div_le_self _ _) hw)
  rw [hs, hand]
  refine ⟨fun hl2 => ⟨by omega, fun hbit => ?_, fun hbit => ?_⟩, fun hl2 => ?_⟩
  · have e1 : (k : Int) + (i : Int) = ((k + i : Nat) : Int) := by omega
    have e2 : ((k + i : Nat) : Int).tdiv 8 = (((k + i) / 8 : Nat) : Int) := rfl
    have e3 : ((k + i : Nat) : Int).tmod 8 = (((k + i) % 8 : Nat) : Int) := rfl
    have hj : (k + i) / 8 < l.length := by omega
    rw [e1, e2, e3, Int.toNat_natCast, Int.toNat_natCast]
    have hr : (k + i) % 8 < 8 := Nat.mod_lt _ (by decide)
    have hp : 2 ^ ((k + i) % 8) < 256 := Nat.pow_lt_pow_right (n := 8) (by omega) hr
    have hsh : IntKind.u8.wrap (1 * 2 ^ min ((k + i) % 8) IntKind.u8.bits) = ((2 ^ ((k + i) % 8) : Nat) : Int) := by
      have := shl_nat (k := .u8) rfl (a := 1) (i := (k + i) % 8) (n := IntKind.u8.bits) (Nat.le_of_lt hr) (by rw [Nat.one_mul]; exact hp)
      rw [Nat.one_mul] at this; exact this
    have hc : l.getD ((k + i) / 8) 0 < 256 := by
      rw [List.getD_eq_getElem?_getD, List.getElem?_eq_getElem hj]; exact hlt _ (List.getElem_mem hj)
    have hx : bits BinOp.xor IntKind.u8 ((l.getD ((k + i) / 8) 0 : Nat) : Int) ((2 ^ ((k + i) % 8) : Nat) : Int) = ((l.getD ((k + i) / 8) 0 ^^^ 2 ^ ((k + i) % 8) : Nat) : Int) := bits_xor (k := .u8) rfl hc hp
    rw [hsh, hx]
    have hlen : (l.set ((k + i) / 8) (l.getD ((k + i) / 8) 0 ^^^ 2 ^ ((k + i) % 8))).length = l.length := List.length_set
    repeat refine And.intro (by omega) ?_
    refine ⟨
      i + 1, cap, l.set ((k + i) / 8) (l.getD ((k + i) / 8) 0 ^^^ 2 ^ ((k + i) % 8)), ⟨by simp only; omega, by simp only; omega, ?_, ?_⟩, by simp only; omega, by omega, rfl, by omega, rfl, by omega, ?_⟩
    · intro c hcm
      rcases List.mem_or_eq_of_mem_set hcm with h | h
      · exact hlt c h
      · subst h; exact lt256 hc hp
    · simp only
      rw [numN_set hj hr hlt, hn, mod_bit, show 8 * ((k + i) / 8) + (k + i) % 8 = i + k by omega]
      rw [show w / 2 ^ i % 2 = 1 by omega, Nat.one_mul, Nat.pow_add]
      have := Nat.shiftLeft_xor_distrib (a := w % 2 ^ i) (b := 2 ^ i) (i := k)
      simp only [Nat.shiftLeft_eq] at this
      rw [this, Nat.xor_assoc]
    · intro j hj'
      rw [set_getD hj]
      by_cases e : j = (k + i) / 8
      · rw [if_pos e, if_pos e]
      · rw [if_neg e, if_neg e]
  · refine ⟨by omega, by omega, i + 1, cap, l, ⟨by simp only; omega, hl, hlt, ?_⟩, by simp only; omega, rfl, rfl, by omega, rfl, by omega, fun _ _ => rfl⟩
    simp only
    rw [hn, mod_bit w i, show w / 2 ^ i % 2 = 0 by omega, Nat.zero_mul, Nat.xor_zero]
  · have hi32 : i = 32 := by omega
    subst hi32
    have hbl : Bytes l := ⟨hlt, by omega⟩
    refine ⟨bytess_one hb, bytess_one hbl, fun e => ?_⟩
    rw [sum_bits, sum_bits] at e
    have e := xor_cancel e
    simp only [List.flatten_cons, List.flatten_nil, List.append_nil] at e
    refine burst_ne (k := k) hb.1 hlt hl.symm hw (by omega) (by omega) ?_ ones e
    rw [hn, Nat.mod_eq_of_lt (show w < 2 ^ 32 from hw)]

def sumsL (x : List (List Nat)) : LA := { T := Nat × Nat × List Nat, F := fun s => frm 58 [(0, octss x), (3, .sl 1 [] 0 1 0 s.2.2.length s.2.1), (4, .int .i64 (s.1 : Int))], H := fun s => [.fence, .row 5 1 s.2.1 s.2.2.length (fun j => [.int .u8 ((s.2.2.getD j 0 : Nat) : Int)])] }

theorem take_getD {x : List (List Nat)} {i : Nat} (h : i < x.length) : (x.take (i + 1)).flatten = (x.take i).flatten ++ x.getD i [] := by
  rw [List.take_add_one, List.getElem?_eq_getElem h, List.getD_eq_getElem?_getD, List.getElem?_eq_getElem h]
  simp only [Option.toList, List.flatten_append, List.flatten_cons, List.flatten_nil, List.append_nil, Option.getD]
theorem flat_len : ∀ {x : List (List Nat)} {i : Nat}, (∀ k, k < i → (x.getD k []).length ≤ 300) → i ≤ x.length → (x.take i).flatten.length ≤ 300 * i
  | x, 0, _, _ => by simp
  | x, i + 1, h, hi => by
    rw [take_getD (by omega), List.length_append]
    have := flat_len (x := x) (i := i) (fun k hk => h k (by omega)) (by omega)
    have := h i (by omega)
    omega
theorem append_getD {l m : List Nat} {i : Nat} : (l ++ m).getD i 0 = if i < l.length then l.getD i 0 else m.getD (i - l.length) 0 := by
  rw [List.getD_eq_getElem?_getD, List.getD_eq_getElem?_getD, List.getD_eq_getElem?_getD]
  by_cases h : i < l.length
  · rw [if_pos h, List.getElem?_append_left h]
  · rw [if_neg h, List.getElem?_append_right (by omega)]

theorem refAcc_bits (l : List Nat) : refAcc l = bitN ones l := rfl
theorem xor_one_ne {n : Nat} : n ^^^ 1 ≠ n := by
  intro h
  have : n ^^^ 1 ^^^ n = n ^^^ n := by rw [h]
  rw [Nat.xor_self, Nat.xor_comm, ← Nat.xor_assoc, Nat.xor_self, Nat.zero_xor] at this
  omega
theorem ones_xor {n : Nat} (h : n < 4294967296) : n ^^^ ones = ones - n := by
  have e := ones_sub h
  rw [show (4294967295 : Int) - (n : Int) = ((ones - n : Nat) : Int) by unfold ones; omega, wrap32 (by unfold ones; omega)] at e
  exact (Int.ofNat_inj.1 e).symm

-- callees: 18=crcAwake_ok 22=sum_ok 23=refSum_ok 24=sumFits_ok
theorem crcSumsV : (∀ (x : List (List Nat)),
  (∀ (l : List Nat), l ∈ x → OctL l) ∧ x.length ≤ 9223372036854775807 →
    Exx Unit fun x_1 =>
      Tr 1 (true = true ∧ True) ∧
        Tr 1
          (∀ (y : Unit),
            True →
              BC (decide (20 < (↑x.length : Int)))
                (Exx Unit fun x => Tr 1 (true = true ∧ True) ∧ Tr 1 (∀ (y : Unit), True → Exx Unit fun y => ((true = true ∧ True) ∧ true = true ∧ True) ∧ True))
                (Exx (Nat × Nat × List Nat → Prop) fun I =>
                  Exx (Nat × Nat × List Nat → Nat) fun m =>
                    (Exx (Nat × Nat × List Nat) fun t =>
                        I t ∧
                          (((1 : Nat) = (1 : Nat) ∧
                                x.length = x.length ∧
                                  ∀ (i : Nat),
                                    i < x.length →
                                      [AV.ro 1 (x.getD i []).length fun i_1 => [AV.int IntKind.u8 (↑((x.getD i []).getD i_1 0) : Int)]] =
                                        [AV.ro 1 (x.getD i []).length fun i_1 => [AV.int IntKind.u8 (↑((x.getD i []).getD i_1 0) : Int)]]) ∧
                              Tr 2 ((t.snd.snd.length = 0 ∧ t.snd.fst = 0) ∧ Tr 1 (0 = (↑t.fst : Int)) ∧ Tr 53 True)) ∧
                            true = true ∧ (t.snd.fst = 0 ∧ t.snd.snd.length = 0) ∧ True) ∧
                      ∀ (t : Nat × Nat × List Nat),
                        I t →
                          BC (decide ((↑t.fst : Int) < (↑x.length : Int)))
                            ((0 ≤ (↑t.fst : Int) ∧ (↑t.fst : Int) < (↑x.length : Int)) ∧
                              BC (decide (300 < (↑(x.getD (↑t.fst : Int).toNat []).length : Int))) (Exx Unit fun y => ((true = true ∧ True) ∧ true = true ∧ True) ∧ True)
                                ((0 ≤ (↑t.fst : Int) ∧ (↑t.fst : Int) < (↑x.length : Int)) ∧
                                  true = true ∧
                                    (t.snd.snd.length ≤ t.snd.snd.length ∧ t.snd.fst = t.snd.fst) ∧
                                      (t.snd.snd.length + (x.getD (↑t.fst : Int).toNat []).length ≤ 9223372036854775807 ∧
                                          (t.snd.snd.length + (x.getD (↑t.fst : Int).toNat []).length) * 1 ≤ 140737488355328) ∧
                                        ∀ (cap : Nat),
                                          t.snd.snd.length + (x.getD (↑t.fst : Int).toNat []).length ≤ cap ∧ cap ≤ 9223372036854775807 →
                                            I64 ((↑t.fst : Int) + 1) ∧
                                              Exx (Nat × Nat × List Nat) fun t' =>
                                                (I t' ∧ m t' < m t) ∧
                                                  (((1 : Nat) = (1 : Nat) ∧
                                                        x.length = x.length ∧
                                                          ∀ (i : Nat),
                                                            i < x.length →
                                                              [AV.ro 1 (x.getD i []).length fun i_1 => [AV.int IntKind.u8 (↑((x.getD i []).getD i_1 0) : Int)]] =
                                                                [AV.ro 1 (x.getD i []).length fun i_1 => [AV.int IntKind.u8 (↑((x.getD i []).getD i_1 0) : Int)]]) ∧
                                                      Tr 2
                                                        ((true = true ∧
                                                            NilNil ∧
                                                              (0 : Nat) = (0 : Nat) ∧
                                                                (1 : Nat) = (1 : Nat) ∧
                                                                  (0 : Nat) = (0 : Nat) ∧
                                                                    t.snd.snd.length + (x.getD (↑t.fst : Int).toNat []).length = t'.snd.snd.length ∧ cap = t'.snd.fst) ∧
                                                          Tr 1 ((↑t.fst : Int) + 1 = (↑t'.fst : Int)) ∧ Tr 53 True)) ∧
                                                    true = true ∧
                                                      ((5 : TypeId) = (5 : TypeId) ∧
                                                          (1 : Nat) = (1 : Nat) ∧
                                                            cap = t'.snd.fst ∧
                                                              t'.snd.snd.length ≤ t.snd.snd.length + (x.getD (↑t.fst : Int).toNat []).length ∧
                                                                ∀ (i : Nat),
                                                                  i < t'.snd.snd.length →
                                                                    (if i < t.snd.snd.length then [AV.int IntKind.u8 (↑(t.snd.snd.getD i 0) : Int)]
                                                                      else [AV.int IntKind.u8 (↑((x.getD (↑t.fst : Int).toNat []).getD (i - t.snd.snd.length) 0) : Int)]) =
                                                                      [AV.int IntKind.u8 (↑(t'.snd.snd.getD i 0) : Int)]) ∧
                                                        True))
                            (Exx (List (List Nat)) fun x_2 =>
                              (((x.length = x_2.length ∧
                                      ∀ (i : Nat),
                                        i < x_2.length →
                                          [AV.ro 1 (x.getD i []).length fun i_1 => [AV.int IntKind.u8 (↑((x.getD i []).getD i_1 0) : Int)]] =
                                            [AV.ro 1 (x_2.getD i []).length fun i_1 => [AV.int IntKind.u8 (↑((x_2.getD i []).getD i_1 0) : Int)]]) ∧
                                    True) ∧
                                  true = true ∧ True) ∧
                                Bytess x_2 ∧
                                  ∀ (y : Unit),
                                    True →
                                      Exx (List Nat) fun x_3 =>
                                        (((0 + t.snd.snd.length ≤ t.snd.snd.length ∧
                                                t.snd.snd.length = x_3.length ∧
                                                  ∀ (i : Nat),
                                                    i < x_3.length → [AV.int IntKind.u8 (↑(t.snd.snd.getD (0 + i) 0) : Int)] = [AV.int IntKind.u8 (↑(x_3.getD i 0) : Int)]) ∧
                                              True) ∧
                                            true = true ∧ True) ∧
                                          Bytes x_3 ∧
                                            ∀ (y : Unit),
                                              True →
                                                BC (decide ((↑(sumN x_2) : Int) = (↑(ones - refAcc x_3) : Int)))
                                                  (Exx (List (List Nat)) fun x_4 =>
                                                    ((((1 : Nat) = (1 : Nat) ∧
                                                            1 = x_4.length ∧
                                                              1 ≤ [AV.sl 1 [] 0 1 0 t.snd.snd.length t.snd.fst].length ∧
                                                                (0 + t.snd.snd.length ≤ t.snd.snd.length ∧
                                                                    t.snd.snd.length = (x_4.getD 0 []).length ∧
                                                                      ∀ (j : Nat),
                                                                        j < (x_4.getD 0 []).length →
                                                                          [AV.int IntKind.u8 (↑(t.snd.snd.getD (0 + j) 0) : Int)] =
                                                                            [AV.int IntKind.u8 (↑((x_4.getD 0 []).getD j 0) : Int)]) ∧
                                                                  True) ∧
                                                          True) ∧
                                                        true = true ∧ True) ∧
                                                      Bytess x_4 ∧
                                                        ∀ (y : Unit),
                                                          True →
                                                            BC (decide ((↑(sumN x_4) : Int) = (↑(sumN x_2) : Int)))
                                                              (Exx (Nat × List (List Nat)) fun x_5 =>
                                                                ((Tr 1 ((↑(sumN x_2) : Int) = (↑x_5.fst : Int)) ∧
                                                                      (x.length = x_5.snd.length ∧
                                                                          ∀ (i : Nat),
                                                                            i < x_5.snd.length →
                                                                              [AV.ro 1 (x.getD i []).length fun i_1 => [AV.int IntKind.u8 (↑((x.getD i []).getD i_1 0) : Int)]] =
                                                                                [AV.ro 1 (x_5.snd.getD i []).length fun i_1 =>
                                                                                    [AV.int IntKind.u8 (↑((x_5.snd.getD i []).getD i_1 0) : Int)]]) ∧
                                                                        True) ∧
                                                                    true = true ∧ True) ∧
                                                                  (x_5.fst < 4294967296 ∧ Bytess x_5.snd) ∧
                                                                    ∀ (y : Unit),
                                                                      True →
                                                                        BC (decide (sumN x_5.snd = x_5.fst))
                                                                          (∀ (n : Int),
                                                                            n = bits BinOp.xor IntKind.u32 (↑(sumN x_2) : Int) 1 →
                                                                              Exx (Nat × List (List Nat)) fun x =>
                                                                                ((Tr 1 (n = (↑x.fst : Int)) ∧
                                                                                      ((1 : Nat) = (1 : Nat) ∧
                                                                                          1 = x.snd.length ∧
                                                                                            1 ≤ [AV.sl 1 [] 0 1 0 t.snd.snd.length t.snd.fst].length ∧
                                                                                              (0 + t.snd.snd.length ≤ t.snd.snd.length ∧
                                                                                                  t.snd.snd.length = (x.snd.getD 0 []).length ∧
                                                                                                    ∀ (j : Nat),
                                                                                                      j < (x.snd.getD 0 []).length →
                                                                                                        [AV.int IntKind.u8 (↑(t.snd.snd.getD (0 + j) 0) : Int)] =
                                                                                                          [AV.int IntKind.u8 (↑((x.snd.getD 0 []).getD j 0) : Int)]) ∧
                                                                                                True) ∧
                                                                                        True) ∧
                                                                                    true = true ∧ True) ∧
                                                                                  (x.fst < 4294967296 ∧ Bytess x.snd) ∧
                                                                                    ∀ (y : Unit),
                                                                                      True →
                                                                                        Exx Unit fun y =>
                                                                                          (((!decide (sumN x.snd = x.fst)) = true ∧ True) ∧ true = true ∧ True) ∧ True)
                                                                          (Exx Unit fun y => ((false = true ∧ True) ∧ true = true ∧ True) ∧ True))
                                                              (Exx Unit fun y => ((false = true ∧ True) ∧ true = true ∧ True) ∧ True))
                                                  (Exx Unit fun y => ((false = true ∧ True) ∧ true = true ∧ True) ∧ True))))) =
    (fnVC tb [(18, specOf crcAwakeC), (22, specOf sumC), (23, specOf refSumC), (24, specOf sumFitsC)] Try.f6 crcSumsC (fun x => { loops := [(5, sumsL x)] }) (fun _ => none)) := by kernel_rfl

theorem crcSums_ok : SpecOk Try.prog 6 (specOf crcSumsC) := by
  refine specOk mixed tb_ok (SPok.cons crcAwake_ok (SPok.cons sum_ok (SPok.cons refSum_ok (SPok.cons sumFits_ok SPok.nil)))) Try.func6 (by decide) (pureC_ok fun _ => rfl) (an := (fun x => { loops := [(5, sumsL x)] })) (σ := (fun _ => none)) ?_
  rw [← crcSumsV]
  simp only [Exx, Tr_eq, true_and, and_true, exists_const, forall_const, implies_true, forall_eq, exists_eq, exists_eq', exists_eq_left, exists_eq_left', exists_eq_right, Prod.exists, Prod.forall, and_assoc, exists_and_left, BC_iff, Bool.not_eq_true', Bool.not_eq_false', decide_eq_true_eq, decide_eq_false_iff_not, I64, nat_cast_inj, Int.toNat_natCast, nats_iff, nats_iff', ints_iff, ints_iff', natss_iff, natss_iff', nilnil, litL_eq, str_inj, str_append, str_length, str_getD, str_take, lit1_iff, one_iff, two_iff, one_get, Nat.zero_add, Nat.sub_zero, Nat.reduceMul, Nat.reduceDiv, Nat.reduceAdd, Int.reduceToNat, Nat.not_lt_zero, if_false, if_true, Nat.le_refl, List.length_singleton, List.length_cons, List.length_nil, Bool.false_eq_true, not_true_eq_false, false_implies, not_false_eq_true, Prod.mk.injEq]
  rintro x ⟨hx, hxl⟩ h20
  refine ⟨fun s => s.1 ≤ x.length ∧ (∀ k, k < s.1 → (x.getD k []).length ≤ 300) ∧ s.2.2 = (x.take s.1).flatten, ⟨0, 0, [], ⟨by simp, fun k hk => absurd hk (Nat.not_lt_zero _), by simp⟩, rfl, rfl, rfl, rfl, rfl⟩, fun s => x.length - s.1, ?_⟩
  rintro i cap l ⟨hi, hk, hl⟩
  simp only at hi hk hl
  have hfl := flat_len hk hi
  have hmem : ∀ k, OctL (x.getD k []) := fun k => by
    rw [List.getD_eq_getElem?_getD]
    cases e : x[k]? with
    | none => exact ⟨fun c hc => (by cases hc), by simp⟩
    | some l => exact hx l (List.mem_of_getElem? e)
  refine ⟨fun h1 => ⟨by omega, by omega, fun h2 => ⟨by omega, by omega, ?_⟩⟩, fun h1 => ?_⟩
  · rw [← hl] at hfl
    refine ⟨by omega, by omega, ?_⟩
    rintro cap' ⟨hc1, hc2⟩
    refine ⟨by omega, by omega, i + 1, cap', l ++ x.getD i [], ⟨by simp only; omega, ?_, ?_⟩, by simp only; omega, by simp, rfl, by omega, rfl, by simp, fun j hj => ?_⟩
    · intro k hk'
      by_cases e : k = i
      · subst e; omega
      · exact hk k (by simp only at hk'; omega)
    · simp only; rw [take_getD (by omega), hl]
    · rw [append_getD]
      by_cases e : j < l.length
      · rw [if_pos e, if_pos e]
      · rw [if_neg e, if_neg e]
  · have hxi : i = x.length := by omega
    subst hxi
    rw [List.take_length] at hl
    have hbx : Bytess x := ⟨fun m hm => by
      obtain ⟨k, hk1, rfl⟩ := List.mem_iff_getElem.1 hm
      have h1 := hk k hk1
      rw [List.getD_eq_getElem?_getD, List.getElem?_eq_getElem hk1] at h1
      exact ⟨(hx _ (List.getElem_mem hk1)).1, by simp only [Option.getD_some] at h1; omega⟩, by omega⟩
    rw [List.take_length, ← hl] at hfl
    have hbl : Bytes l := ⟨fun c hc => by
      rw [hl] at hc
      obtain ⟨m, hm, hc⟩ := List.mem_flatten.1 hc
      exact (hx m hm).1 c hc, by omega⟩
    have hlt : refAcc l < 4294967296 := refAcc_lt hbl.1 (a := ones) (by decide)
    have e1 : sumN x = ones - refAcc l := by
      rw [sum_bits, ← hl, ← refAcc_bits, ones_xor hlt]
    have e2 : sumN [l] = sumN x := by
      rw [sum_bits, sum_bits, ← hl]; simp
    have hs : sumN x < 4294967296 := by rw [e1]; unfold ones; omega
    have e3 : bits BinOp.xor IntKind.u32 ((sumN x : Nat) : Int) 1 = ((sumN x ^^^ 1 : Nat) : Int) := bits_xor (k := .u32) rfl (b := 1) hs (by decide)
    refine ⟨hbx, hbl, fun _ => ⟨bytess_one hbl, fun _ => ⟨hs, hbx, sumN x ^^^ 1, e3, xor32 hs (by decide), bytess_one hbl, ?_⟩, fun h => h e2⟩, fun h => h e1⟩
    rw [e2]
    exact fun h => xor_one_ne h.symm

theorem octL_wf {l : List Nat} (h : wfT (.slice (.nat .u8)) l) : OctL l := ⟨fun x hx => h.2 x hx, h.1⟩
theorem tab_wf {l : List Nat} (h : wfT (.arr 16 (.nat .u32)) l) (i : Nat) (hi : i < 16) : l.getD i 0 < 4294967296 := by
  have hl : l.length = 16 := h.1
  rw [List.getD_eq_getElem?_getD, List.getElem?_eq_getElem (by omega)]
  exact h.2 _ (List.getElem_mem _)

end Yard
