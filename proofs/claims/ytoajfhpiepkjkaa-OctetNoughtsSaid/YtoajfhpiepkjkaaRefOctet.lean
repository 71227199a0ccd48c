/- The document's octets. -/
import Derived.Test.YtoajfhpiepkjkaaOctet
namespace Yard
open Go Go.Sx Go.Proofs
set_option linter.unusedVariables false
set_option linter.unusedSimpArgs false
set_option maxRecDepth 4000

def refOctetC : Ctr := pureC (Nat × Nat) (fun x => U64 x.1 ∧ x.2 ≤ 1000) (fun x => [u64 x.1, i64 (x.2 : Int)]) (fun x => .int .u8 ((x.1 / 256 ^ x.2 % 256 : Nat) : Int))
def refLayC : Ctr := pureC (Nat × Nat) (fun x => U64 x.1 ∧ x.2 ≤ 1000) (fun x => [u64 x.1, i64 (x.2 : Int)]) (fun x => strN (layN x.1 x.2))
def refNumberC : Ctr := pureC (List Nat) Oct (fun l => [strN l]) (fun l => u64 (readN l))
def refHasC : Ctr := pureC (List Nat × Int × Int) (fun x => Oct x.1 ∧ I64 x.2.1 ∧ I64 x.2.2) (fun x => [octA x.1, i64 x.2.1, i64 x.2.2]) (fun x => .bool (decide (hasB x.1.length x.2.1 x.2.2)))

theorem refHasV : (∀ (x : List Nat × Int × Int),
  Oct x.fst ∧ I64 x.snd.fst ∧ I64 x.snd.snd →
    BC (decide (0 ≤ x.snd.fst))
      (BC (decide (x.snd.fst ≤ (↑x.fst.length : Int)))
        (BC (decide (0 ≤ x.snd.snd))
          (I64 ((↑x.fst.length : Int) - x.snd.fst) ∧
            Exx Unit fun y => ((decide (x.snd.snd ≤ (↑x.fst.length : Int) - x.snd.fst) = decide (hasB x.fst.length x.snd.fst x.snd.snd) ∧ True) ∧ true = true ∧ True) ∧ True)
          (Exx Unit fun y => ((false = decide (hasB x.fst.length x.snd.fst x.snd.snd) ∧ True) ∧ true = true ∧ True) ∧ True))
        (Exx Unit fun y => ((false = decide (hasB x.fst.length x.snd.fst x.snd.snd) ∧ True) ∧ true = true ∧ True) ∧ True))
      (Exx Unit fun y => ((false = decide (hasB x.fst.length x.snd.fst x.snd.snd) ∧ True) ∧ true = true ∧ True) ∧ True)) =
    (fnVC tb [] Try.f49 refHasC (fun _ => {}) (fun _ => none)) := by kernel_rfl

theorem refHas_ok : SpecOk Try.prog 49 (specOf refHasC) := by
  refine specOk mixed tb_ok SPok.nil Try.func49 (by decide) (pureC_ok fun _ => rfl) (an := (fun _ => {})) (σ := (fun _ => none)) ?_
  rw [← refHasV]
  simp only [Exx, Tr_eq, true_and, and_true, exists_const, forall_const, implies_true, forall_eq, exists_eq, exists_eq', exists_eq_left, exists_eq_left', exists_eq_right, Prod.exists, Prod.forall, and_assoc, exists_and_left, BC_iff, Bool.not_eq_true', Bool.not_eq_false', decide_eq_true_eq, decide_eq_false_iff_not, I64, nat_cast_inj, Int.toNat_natCast, nats_iff, nats_iff', ints_iff, ints_iff', natss_iff, natss_iff', nilnil, litL_eq, str_inj, str_append, str_length, str_getD, str_take, lit1_iff, one_iff, two_iff, one_get, Nat.zero_add, Nat.sub_zero, Nat.reduceMul, Nat.reduceDiv, Nat.reduceAdd, Int.reduceToNat, Nat.not_lt_zero, if_false, if_true, Nat.le_refl, List.length_singleton, Bool.false_eq_true, not_true_eq_false, false_implies, not_false_eq_true]
  rintro l a n ⟨hl, h1, h2, h3, h4⟩
  have hlen := hl.2
  unfold hasB
  refine ⟨fun h => ⟨fun h' => ⟨fun h'' => ⟨by omega, by omega, decide_eq_decide.2 (by omega)⟩, fun h'' => ?_⟩, fun h' => ?_⟩, fun h => ?_⟩
  all_goals exact (decide_eq_false (by omega)).symm

def refOctetLA (x : Nat × Nat) : LA := { T := Nat, F := fun i => frm 16 [(0, u64 (x.1 / 256 ^ i)), (1, i64 (x.2 : Int)), (5, i64 (i : Int))], H := fun _ => [.fence] }

theorem refOctetV : (∀ (x : Nat × Nat),
  U64 x.fst ∧ x.snd ≤ 1000 →
    Exx (Nat → Prop) fun I =>
      Exx (Nat → Nat) fun m =>
        (Exx Nat fun t =>
            I t ∧ (Tr 1 ((↑x.fst : Int) = (↑(x.fst / 256 ^ t) : Int)) ∧ Tr 1 ((↑x.snd : Int) = (↑x.snd : Int)) ∧ Tr 3 (Tr 1 (0 = (↑t : Int)) ∧ Tr 10 True)) ∧ true = true ∧ True) ∧
          ∀ (t : Nat),
            I t →
              BC (decide ((↑t : Int) < (↑x.snd : Int)))
                ((256 : Int) ≠ (0 : Int) ∧
                  ∀ (n : Int),
                    n = IntKind.u64.wrap ((↑(x.fst / 256 ^ t) : Int).tdiv 256) →
                      I64 ((↑t : Int) + 1) ∧
                        Exx Nat fun t' =>
                          (I t' ∧ m t' < m t) ∧
                            (Tr 1 (n = (↑(x.fst / 256 ^ t') : Int)) ∧ Tr 1 ((↑x.snd : Int) = (↑x.snd : Int)) ∧ Tr 3 (Tr 1 ((↑t : Int) + 1 = (↑t' : Int)) ∧ Tr 10 True)) ∧
                              true = true ∧ True)
                ((256 : Int) ≠ (0 : Int) ∧
                  ∀ (n : Int),
                    n = (↑(x.fst / 256 ^ t) : Int).tmod 256 →
                      ∀ (m : Int), m = IntKind.u8.wrap n → Exx Unit fun y => ((Tr 1 (m = (↑(x.fst / 256 ^ x.snd % 256) : Int)) ∧ True) ∧ true = true ∧ True) ∧ True)) =
    (fnVC tb [] Try.f54 refOctetC (fun x => { loops := [(2, refOctetLA x)] }) (fun _ => none)) := by kernel_rfl

theorem refOctet_ok : SpecOk Try.prog 54 (specOf refOctetC) := by
  refine specOk mixed tb_ok SPok.nil Try.func54 (by decide) (pureC_ok fun _ => rfl) (an := (fun x => { loops := [(2, refOctetLA x)] })) (σ := (fun _ => none)) ?_
  rw [← refOctetV]
  simp only [Exx, Tr_eq, true_and, and_true, exists_const, forall_const, implies_true, forall_eq, exists_eq, exists_eq', exists_eq_left, exists_eq_left', exists_eq_right, Prod.exists, Prod.forall, and_assoc, exists_and_left, BC_iff, Bool.not_eq_true', Bool.not_eq_false', decide_eq_true_eq, decide_eq_false_iff_not, I64, nat_cast_inj, Int.toNat_natCast, nats_iff, nats_iff', ints_iff, ints_iff', natss_iff, natss_iff', nilnil, litL_eq, str_inj, str_append, str_length, str_getD, str_take, lit1_iff, one_iff, two_iff, one_get, Nat.zero_add, Nat.sub_zero, Nat.reduceMul, Nat.reduceDiv, Nat.reduceAdd, Int.reduceToNat, Nat.not_lt_zero, if_false, if_true, Nat.le_refl, List.length_singleton, Bool.false_eq_true, not_true_eq_false, false_implies, not_false_eq_true]
  rintro v n ⟨hv, hn⟩
  have hlt : ∀ i, U64 (v / 256 ^ i) := fun i => Nat.lt_of_le_of_lt (Nat.div_le_self _ _) hv
  have e1 : ∀ x : Nat, (x : Int).tdiv 256 = ((x / 256 : Nat) : Int) := fun _ => rfl
  have e2 : ∀ x : Nat, (x : Int).tmod 256 = ((x % 256 : Nat) : Int) := fun _ => rfl
  refine ⟨fun i => i ≤ n, ⟨0, by omega, by simp, rfl⟩, fun i => n - i, fun i hi => ⟨fun h => ⟨by omega, by omega, by omega, i + 1, by omega, by simp only; omega, ?_, by omega⟩, fun h => ⟨by omega, ?_⟩⟩⟩
  · rw [e1, wrap64 (by have := hlt i; unfold U64 at *; omega), Nat.div_div_eq_div_mul, Nat.pow_succ]
  · rw [e2, wrap8, Nat.mod_mod, show i = n by omega]

def refLayLA (x : Nat × Nat) : LA := { T := Nat, F := fun i => frm 20 [(0, u64 x.1), (1, i64 (x.2 : Int)), (5, strN (layN x.1 i)), (6, i64 (i : Int))], H := fun _ => [.fence] }

theorem layN_succ (v n : Nat) : layN v (n + 1) = layN v n ++ [v / 256 ^ n % 256] := by
  refine list_ext_getD 0 (by simp [layN_length]) fun i hi => ?_
  have hi : i < n + 1 := by simpa [layN_length] using hi
  rw [layN_getD _ _ _ hi, getD_append, layN_length]
  by_cases h : i < n
  · rw [if_pos h, layN_getD _ _ _ h]
  · have : i = n := by omega
    subst this
    rw [if_neg h, Nat.sub_self]; rfl

theorem refLayV : (∀ (x : Nat × Nat),
  U64 x.fst ∧ x.snd ≤ 1000 →
    Exx (Nat → Prop) fun I =>
      Exx (Nat → Nat) fun m =>
        (Exx Nat fun t =>
            I t ∧
              (Tr 1 ((↑x.fst : Int) = (↑x.fst : Int)) ∧
                  Tr 1 ((↑x.snd : Int) = (↑x.snd : Int)) ∧ Tr 3 (cstr (litL { data := #[] }) = cstr (layN x.fst t) ∧ Tr 1 (0 = (↑t : Int)) ∧ Tr 13 True)) ∧
                true = true ∧ True) ∧
          ∀ (t : Nat),
            I t →
              BC (decide ((↑t : Int) < (↑x.snd : Int)))
                (Exx (Nat × Nat) fun x_1 =>
                  ((Tr 1 ((↑x.fst : Int) = (↑x_1.fst : Int)) ∧ Tr 1 ((↑t : Int) = (↑x_1.snd : Int)) ∧ True) ∧ true = true ∧ True) ∧
                    (U64 x_1.fst ∧ x_1.snd ≤ 1000) ∧
                      ∀ (y : Unit),
                        True →
                          (0 : Nat) + (1 : Nat) ≤ (1 : Nat) ∧
                            Exx (List Nat) fun m_1 =>
                              (1 = m_1.length ∧
                                  ∀ (i : Nat),
                                    i < m_1.length →
                                      (if 0 + i = 0 * 1 / 1 then [AV.int IntKind.u8 (↑(x_1.fst / 256 ^ x_1.snd % 256) : Int)] else [AV.int IntKind.u8 0]) =
                                        [AV.int IntKind.u8 (↑(m_1.getD i 0) : Int)]) ∧
                                (∀ (c : Nat), c ∈ m_1 → c < 256) ∧
                                  (cstr (layN x.fst t)).length + (cstr m_1).length ≤ 9223372036854775807 ∧
                                    I64 ((↑t : Int) + 1) ∧
                                      Exx Nat fun t' =>
                                        (I t' ∧ m t' < m t) ∧
                                          (Tr 1 ((↑x.fst : Int) = (↑x.fst : Int)) ∧
                                              Tr 1 ((↑x.snd : Int) = (↑x.snd : Int)) ∧
                                                Tr 3 (cstr (layN x.fst t) ++ cstr m_1 = cstr (layN x.fst t') ∧ Tr 1 ((↑t : Int) + 1 = (↑t' : Int)) ∧ Tr 13 True)) ∧
                                            true = true ∧ True)
                (Exx Unit fun y => ((cstr (layN x.fst t) = cstr (layN x.fst x.snd) ∧ True) ∧ true = true ∧ True) ∧ True)) =
    (fnVC tb [(54, specOf refOctetC)] Try.f29 refLayC (fun x => { loops := [(3, refLayLA x)] }) (fun _ => none)) := by kernel_rfl

theorem refLay_ok : SpecOk Try.prog 29 (specOf refLayC) := by
  refine specOk mixed tb_ok (SPok.cons refOctet_ok SPok.nil) Try.func29 (by decide) (pureC_ok fun _ => rfl) (an := (fun x => { loops := [(3, refLayLA x)] })) (σ := (fun _ => none)) ?_
  rw [← refLayV]
  simp only [Exx, Tr_eq, true_and, and_true, exists_const, forall_const, implies_true, forall_eq, exists_eq, exists_eq', exists_eq_left, exists_eq_left', exists_eq_right, Prod.exists, Prod.forall, and_assoc, exists_and_left, BC_iff, Bool.not_eq_true', Bool.not_eq_false', decide_eq_true_eq, decide_eq_false_iff_not, I64, nat_cast_inj, Int.toNat_natCast, nats_iff, nats_iff', ints_iff, ints_iff', natss_iff, natss_iff', nilnil, litL_eq, str_inj, str_append, str_length, str_getD, str_take, lit1_iff, one_iff, two_iff, one_get, Nat.zero_add, Nat.sub_zero, Nat.reduceMul, Nat.reduceDiv, Nat.reduceAdd, Int.reduceToNat, Nat.not_lt_zero, if_false, if_true, Nat.le_refl, List.length_singleton, Bool.false_eq_true, not_true_eq_false, false_implies, not_false_eq_true]
  rintro v n ⟨hv, hn⟩
  refine ⟨fun i => i ≤ n, ⟨0, by omega, rfl, rfl⟩, fun i => n - i, fun i hi => ⟨fun h => ⟨hv, by omega, fun c hc => by simp at hc; omega, by rw [layN_length]; omega, by omega, by omega, i + 1, by omega, by simp only; omega, (layN_succ v i).symm, by omega⟩, fun h => by rw [show i = n by omega]⟩⟩

def refNumberLA (l : List Nat) : LA := { T := Nat, F := fun i => frm 22 [(0, strN l), (3, u64 (numN ((l.take 8).drop i))), (4, i64 ((i : Int) - 1))], H := fun _ => [.fence] }

theorem num_back {l : List Nat} {i : Nat} (hl : ∀ c ∈ l, c < 256) (hi : i < l.length) (h8 : i < 8) :
    IntKind.u64.wrap (IntKind.u64.wrap (((numN ((l.take 8).drop (i + 1)) : Nat) : Int) * 256) + IntKind.u64.wrap ((l.getD i 0 : Nat) : Int)) = ((numN ((l.take 8).drop i) : Nat) : Int) := by
  have hc : l.getD i 0 < 256 := getD_mem (p := fun c => c < 256) hl (by decide) i
  have hlen : ((l.take 8).drop (i + 1)).length ≤ 7 := by simp; omega
  have h1 := numN_lt ((l.take 8).drop (i + 1)) fun c hc => hl c (List.mem_of_mem_take (List.mem_of_mem_drop hc))
  have h2 : 256 ^ ((l.take 8).drop (i + 1)).length ≤ 256 ^ 7 := Nat.pow_le_pow_right (by decide) hlen
  have h3 : numN ((l.take 8).drop (i + 1)) < 72057594037927936 := Nat.lt_of_lt_of_le h1 h2
  have e : (l.take 8).drop i = l.getD i 0 :: (l.take 8).drop (i + 1) := by
    have hi' : i < (l.take 8).length := by simp; omega
    rw [List.drop_eq_getElem_cons hi']
    congr 1
    rw [List.getElem_take, List.getD_eq_getElem?_getD, List.getElem?_eq_getElem hi]; rfl
  have e1 : ((numN ((l.take 8).drop (i + 1)) : Nat) : Int) * 256 = ((numN ((l.take 8).drop (i + 1)) * 256 : Nat) : Int) := by omega
  rw [e1, wrap64 (by unfold U64; omega), wrap64 (show U64 (l.getD i 0) by unfold U64; omega)]
  have e2 : ((numN ((l.take 8).drop (i + 1)) * 256 : Nat) : Int) + ((l.getD i 0 : Nat) : Int) = ((numN ((l.take 8).drop (i + 1)) * 256 + l.getD i 0 : Nat) : Int) := by omega
  rw [e2, wrap64 (by unfold U64; omega), e, numN]
  omega

theorem refNumberV : (∀ (x : List Nat),
  Oct x →
    I64 ((↑(cstr x).length : Int) - 1) ∧
      Exx (Nat → Prop) fun I =>
        Exx (Nat → Nat) fun m =>
          (Exx Nat fun t =>
              I t ∧
                (cstr x = cstr x ∧ Tr 2 (Tr 1 (0 = (↑(numN (List.drop t (List.take 8 x))) : Int)) ∧ Tr 1 ((↑(cstr x).length : Int) - 1 = (↑t : Int) - 1) ∧ Tr 17 True)) ∧
                  true = true ∧ True) ∧
            ∀ (t : Nat),
              I t →
                BC (decide (0 ≤ (↑t : Int) - 1))
                  (BC (decide ((↑t : Int) - 1 < 8))
                    (∀ (n : Int),
                      n = IntKind.u64.wrap ((↑(numN (List.drop t (List.take 8 x))) : Int) * 256) →
                        (0 ≤ (↑t : Int) - 1 ∧ (↑t : Int) - 1 < (↑(cstr x).length : Int)) ∧
                          ∀ (m_1 : Int),
                            m_1 = IntKind.u64.wrap ((cstr x).getD ((↑t : Int) - 1).toNat 0) →
                              ∀ (n_1 : Int),
                                n_1 = IntKind.u64.wrap (n + m_1) →
                                  I64 ((↑t : Int) - 1 - 1) ∧
                                    Exx Nat fun t' =>
                                      (I t' ∧ m t' < m t) ∧
                                        (cstr x = cstr x ∧
                                            Tr 2 (Tr 1 (n_1 = (↑(numN (List.drop t' (List.take 8 x))) : Int)) ∧ Tr 1 ((↑t : Int) - 1 - 1 = (↑t' : Int) - 1) ∧ Tr 17 True)) ∧
                                          true = true ∧ True)
                    (I64 ((↑t : Int) - 1 - 1) ∧
                      Exx Nat fun t' =>
                        (I t' ∧ m t' < m t) ∧
                          (cstr x = cstr x ∧
                              Tr 2
                                (Tr 1 ((↑(numN (List.drop t (List.take 8 x))) : Int) = (↑(numN (List.drop t' (List.take 8 x))) : Int)) ∧
                                  Tr 1 ((↑t : Int) - 1 - 1 = (↑t' : Int) - 1) ∧ Tr 17 True)) ∧
                            true = true ∧ True))
                  (Exx Unit fun y => ((Tr 1 ((↑(numN (List.drop t (List.take 8 x))) : Int) = (↑(readN x) : Int)) ∧ True) ∧ true = true ∧ True) ∧ True)) =
    (fnVC tb [] Try.f28 refNumberC (fun x => { loops := [(3, refNumberLA x)] }) (fun _ => none)) := by kernel_rfl

theorem refNumber_ok : SpecOk Try.prog 28 (specOf refNumberC) := by
  refine specOk mixed tb_ok SPok.nil Try.func28 (by decide) (pureC_ok fun _ => rfl) (an := (fun x => { loops := [(3, refNumberLA x)] })) (σ := (fun _ => none)) ?_
  rw [← refNumberV]
  simp only [Exx, Tr_eq, true_and, and_true, exists_const, forall_const, implies_true, forall_eq, exists_eq, exists_eq', exists_eq_left, exists_eq_left', exists_eq_right, Prod.exists, Prod.forall, and_assoc, exists_and_left, BC_iff, Bool.not_eq_true', Bool.not_eq_false', decide_eq_true_eq, decide_eq_false_iff_not, I64, nat_cast_inj, Int.toNat_natCast, nats_iff, nats_iff', ints_iff, ints_iff', natss_iff, natss_iff', nilnil, litL_eq, str_inj, str_append, str_length, str_getD, str_take, lit1_iff, one_iff, two_iff, one_get, Nat.zero_add, Nat.sub_zero, Nat.reduceMul, Nat.reduceDiv, Nat.reduceAdd, Int.reduceToNat, Nat.not_lt_zero, if_false, if_true, Nat.le_refl, List.length_singleton, Bool.false_eq_true, not_true_eq_false, false_implies, not_false_eq_true]
  rintro l ⟨hl, hlen⟩
  refine ⟨by omega, by omega, fun i => i ≤ l.length, ⟨l.length, by omega, ?_, rfl⟩, fun i => i, ?_⟩
  · rw [List.drop_of_length_le (by simp; omega)]; rfl
  · intro i hi
    refine ⟨fun h => ⟨fun h8 => ?_, fun h8 => ?_⟩, fun h => ?_⟩
    · obtain ⟨j, rfl⟩ : ∃ j, i = j + 1 := ⟨i - 1, by omega⟩
      have e : ((j + 1 : Nat) : Int) - 1 = (j : Int) := by omega
      rw [e]
      refine ⟨by omega, by omega, by omega, by omega, j, by omega, by simp only; omega, ?_, rfl⟩
      rw [Int.toNat_natCast]
      exact num_back hl (by omega) (by omega)
    · refine ⟨by omega, by omega, i - 1, by omega, by simp only; omega, ?_, by omega⟩
      rw [List.drop_of_length_le (by simp; omega), List.drop_of_length_le (by simp; omega)]
    · rw [show i = 0 by omega, List.drop_zero]; rfl

end Yard
