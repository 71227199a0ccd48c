import Derived.Test.YtkdppdofkkakaaaGreatDoorCrc
import Derived.Test.YtkdppdofkkakaaaGreatDoorNodeMath
import Derived.Test.YtkdppdofkkakaaaGreatDoorSlotInv

namespace Yard
open Go Go.Sx Go.Proofs
set_option linter.unusedVariables false
set_option linter.unusedSimpArgs false
set_option maxRecDepth 4000

def refOctetC : Ctr := pureC (Nat × Nat) (fun x => U64 x.1 ∧ x.2 ≤ 1000) (fun x => [u64 x.1, i64 (x.2 : Int)]) (fun x => .int .u8 ((x.1 / 256 ^ x.2 % 256 : Nat) : Int))
def refLayC : Ctr := pureC (Nat × Nat) (fun x => U64 x.1 ∧ x.2 ≤ 1000) (fun x => [u64 x.1, i64 (x.2 : Int)]) (fun x => strN (layN x.1 x.2))
def refNumberC : Ctr := pureC (List Nat) Oct (fun l => [strN l]) (fun l => u64 (readN l))
def refOctetLA (x : Nat × Nat) : LA := { T := Nat, F := fun i => frm 16 [(0, u64 (x.1 / 256 ^ i)), (1, i64 (x.2 : Int)), (5, i64 (i : Int))], H := fun _ => [.fence] }

theorem refOctetV : (∀ (x : Nat × Nat), 
 let q1 : Prop := Tr 1 ((↑x.2 : Int) = (↑x.2 : Int)); U64 x.1 ∧ x.2 ≤ 1000 → Exx (Nat → Prop) fun I => Exx (Nat → Nat) fun m => (Exx Nat fun t => I t ∧ (Tr 1 ((↑x.1 : Int) = (↑(x.1 / 256 ^ t) : Int)) ∧ q1 ∧ Tr 3 (Tr 1 ((0 : Int) = (↑t : Int)) ∧ Tr 10 True)) ∧ true = true ∧ True) ∧ ∀ (t : Nat), 
 let q2 : Int := (↑(x.1 / 256 ^ t) : Int); 
 let q3 : Int := (↑t : Int) + 1; I t → BC (decide ((↑t : Int) < (↑x.2 : Int))) ((256 : Int) ≠ (0 : Int) ∧ ∀ (n : Int), n = IntKind.u64.wrap (q2.tdiv 256) → I64 q3 ∧ Exx Nat fun t' => (I t' ∧ m t' < m t) ∧ (Tr 1 (n = (↑(x.1 / 256 ^ t') : Int)) ∧ q1 ∧ Tr 3 (Tr 1 (q3 = (↑t' : Int)) ∧ Tr 10 True)) ∧ true = true ∧ True) ((256 : Int) ≠ (0 : Int) ∧ ∀ (n : Int), n = q2.tmod 256 → ∀ (m : Int), m = IntKind.u8.wrap n → Exx Unit fun y => ((Tr 1 (m = (↑(x.1 / 256 ^ x.2 % 256) : Int)) ∧ True) ∧ true = true ∧ True) ∧ True)) = (fnVC tb [] Tryz.f145 refOctetC (fun x => { loops := [(2, refOctetLA x)] }) (fun _ => none)) := by kernel_rfl 

theorem refOctet_ok : SpecOk Tryz.prog 145 (specOf refOctetC) := by
  refine specOk mixed tb_ok SPok.nil Tryz.func145 (by decide) (pureC_ok fun _ => rfl) (an := (fun x => { loops := [(2, refOctetLA x)] })) (σ := (fun _ => none)) ?_
  rw [← refOctetV]
  simp (maxSteps := 10000000) only [std, stdU, stdV, Exx, I64, Nat.reduceMul, Nat.reduceDiv, Nat.reduceAdd, Int.reduceToNat]
  rintro v n ⟨hv, hn⟩
  have hlt : ∀ i, U64 (v / 256 ^ i) := fun i => Nat.lt_of_le_of_lt (Nat.div_le_self _ _) hv
  have e1 : ∀ x : Nat, (x : Int).tdiv 256 = ((x / 256 : Nat) : Int) := fun _ => rfl
  have e2 : ∀ x : Nat, (x : Int).tmod 256 = ((x % 256 : Nat) : Int) := fun _ => rfl
  refine ⟨fun i => i ≤ n, ⟨0, by omega, by simp, rfl⟩, fun i => n - i, fun i hi => ⟨fun h => ⟨by omega, by omega, by omega, i + 1, by omega, by simp only; omega, ?_, by omega⟩, fun h => ⟨by omega, ?_⟩⟩⟩
  · rw [e1, wrap64 (by have := hlt i; unfold U64 at *; omega), Nat.div_div_eq_div_mul, Nat.pow_succ]
  · rw [e2, wrap8, Nat.mod_mod, show i = n by omega]

def refLayLA (x : Nat × Nat) : LA := { T := Nat, F := fun i => frm 20 [(0, u64 x.1), (1, i64 (x.2 : Int)), (5, strN (layN x.1 i)), (6, i64 (i : Int))], H := fun _ => [.fence] }

theorem layN_succ (v n : Nat) : layN v (n + 1) = layN v n ++ [v / 256 ^ n % 256] := by
  refine list_ext_getD 0 (by simp [layN_length]) fun i hi => ?_
  have hi : i < n + 1 := by simpa [layN_length] using hi
  rw [layN_getD _ _ _ hi, getD_append, layN_length]
  by_cases h : i < n
  · rw [if_pos h, layN_getD _ _ _ h]
  · have : i = n := by omega
    subst this
    rw [if_neg h, Nat.sub_self]; rfl

theorem refLayV : (
 let q1 : Nat := (TI.mk (TK.int IntKind.u8) 1 1 (ZL.cons (Value.int IntKind.u8 0) ZL.nil) false).size; ∀ (x : Nat × Nat), 
 let q2 : Prop := Tr 1 ((↑x.1 : Int) = (↑x.1 : Int)); 
 let q3 : Prop := Tr 1 ((↑x.2 : Int) = (↑x.2 : Int)); U64 x.1 ∧ x.2 ≤ 1000 → Exx (Nat → Prop) fun I => Exx (Nat → Nat) fun m => (Exx Nat fun t => I t ∧ (q2 ∧ q3 ∧ Tr 3 (cstr (litL (ByteArray.mk #[])) = cstr (layN x.1 t) ∧ Tr 1 ((0 : Int) = (↑t : Int)) ∧ Tr 13 True)) ∧ true = true ∧ True) ∧ ∀ (t : Nat), 
 let q4 : Int := (↑t : Int) + 1; I t → BC (decide ((↑t : Int) < (↑x.2 : Int))) (Exx (Nat × Nat) fun x_1 => ((Tr 1 ((↑x.1 : Int) = (↑x_1.1 : Int)) ∧ Tr 1 ((↑t : Int) = (↑x_1.2 : Int)) ∧ True) ∧ true = true ∧ True) ∧ (U64 x_1.1 ∧ x_1.2 ≤ 1000) ∧ ∀ (y : Unit), True → (0 : Nat) + (1 : Nat) ≤ (1 : Nat) ∧ Exx (List Nat) fun m_1 => (1 = m_1.length ∧ ∀ (i : Nat), 
 let q5 : Nat := 0 + i; i < m_1.length → [AV.int .u8 (if q5 = 0 * 1 / 1 then (↑(x_1.1 / 256 ^ x_1.2 % 256) : Int) else 0)] = [AV.int .u8 (↑(m_1.getD i 0) : Int)]) ∧ (∀ (c : Nat), c ∈ m_1 → c < 256) ∧ (cstr (layN x.1 t)).length + (cstr m_1).length ≤ 9223372036854775807 ∧ I64 q4 ∧ Exx Nat fun t' => (I t' ∧ m t' < m t) ∧ (q2 ∧ q3 ∧ Tr 3 (cstr (layN x.1 t) ++ cstr m_1 = cstr (layN x.1 t') ∧ Tr 1 (q4 = (↑t' : Int)) ∧ Tr 13 True)) ∧ true = true ∧ True) (Exx Unit fun y => ((cstr (layN x.1 t) = cstr (layN x.1 x.2) ∧ True) ∧ true = true ∧ True) ∧ True)) = (fnVC tb [(145, specOf refOctetC)] Tryz.f130 refLayC (fun x => { loops := [(3, refLayLA x)] }) (fun _ => none)) := by kernel_rfl 

theorem refLay_ok : SpecOk Tryz.prog 130 (specOf refLayC) := by
  refine specOk mixed tb_ok (SPok.cons refOctet_ok SPok.nil) Tryz.func130 (by decide) (pureC_ok fun _ => rfl) (an := (fun x => { loops := [(3, refLayLA x)] })) (σ := (fun _ => none)) ?_
  rw [← refLayV]
  simp (maxSteps := 10000000) only [std, stdU, stdV, Exx, I64, Nat.reduceMul, Nat.reduceDiv, Nat.reduceAdd, Int.reduceToNat]
  rintro v n ⟨hv, hn⟩
  refine ⟨fun i => i ≤ n, ⟨0, by omega, rfl, rfl⟩, fun i => n - i, fun i hi => ⟨fun h => ⟨hv, by omega, fun c hc => by simp at hc; omega, by rw [layN_length]; omega, by omega, by omega, i + 1, by omega, by simp only; omega, (layN_succ v i).symm, by omega⟩, fun h => by rw [show i = n by omega]⟩⟩

def refNumberLA (l : List Nat) : LA := { T := Nat, F := fun i => frm 22 [(0, strN l), (3, u64 (numN ((l.take 8).drop i))), (4, i64 ((i : Int) - 1))], H := fun _ => [.fence] }

theorem num_back {l : List Nat} {i : Nat} (hl : ∀ c ∈ l, c < 256) (hi : i < l.length) (h8 : i < 8) :
    IntKind.u64.wrap (IntKind.u64.wrap (((numN ((l.take 8).drop (i + 1)) : Nat) : Int) * 256) + IntKind.u64.wrap ((l.getD i 0 : Nat) : Int)) = ((numN ((l.take 8).drop i) : Nat) : Int) := by
  have hc : l.getD i 0 < 256 := getD_mem (p := fun c => c < 256) hl (by decide) i
  have hlen : ((l.take 8).drop (i + 1)).length ≤ 7 := by simp; omega
  have h1 := numN_lt ((l.take 8).drop (i + 1)) fun c hc => hl c (List.mem_of_mem_take (List.mem_of_mem_drop hc))
  have h2 : 256 ^ ((l.take 8).drop (i + 1)).length ≤ 256 ^ 7 := Nat.pow_le_pow_right (by decide) hlen
  have h3 : numN ((l.take 8).drop (i + 1)) < 72057594037927936 := Nat.lt_of_lt_of_le h1 h2
  have e : (l.take 8).drop i = l.getD i 0 :: (l.take 8).drop (i + 1) := by
    have hi' : i < (l.take 8).length := by simp; omega
    rw [List.drop_eq_getElem_cons hi']
    congr 1
    rw [List.getElem_take, List.getD_eq_getElem?_getD, List.getElem?_eq_getElem hi]; rfl
  have e1 : ((numN ((l.take 8).drop (i + 1)) : Nat) : Int) * 256 = ((numN ((l.take 8).drop (i + 1)) * 256 : Nat) : Int) := by omega
  rw [e1, wrap64 (by unfold U64; omega), wrap64 (show U64 (l.getD i 0) by unfold U64; omega)]
  have e2 : ((numN ((l.take 8).drop (i + 1)) * 256 : Nat) : Int) + ((l.getD i 0 : Nat) : Int) = ((numN ((l.take 8).drop (i + 1)) * 256 + l.getD i 0 : Nat) : Int) := by omega
  rw [e2, wrap64 (by unfold U64; omega), e, numN]
  omega

theorem refNumberV : (∀ (x : List Nat), 
 let q1 : Int := (↑(cstr x).length : Int) - 1; Oct x → I64 q1 ∧ Exx (Nat → Prop) fun I => Exx (Nat → Nat) fun m => (Exx Nat fun t => I t ∧ (cstr x = cstr x ∧ Tr 2 (Tr 1 ((0 : Int) = (↑(numN (List.drop t (List.take 8 x))) : Int)) ∧ Tr 1 (q1 = (↑t : Int) - 1) ∧ Tr 17 True)) ∧ true = true ∧ True) ∧ ∀ (t : Nat), 
 let q2 : Int := (↑t : Int) - 1; 
 let q3 : Prop := (0 : Int) ≤ q2; 
 let q4 : Int := (↑(numN (List.drop t (List.take 8 x))) : Int); 
 let q5 : Int := q2 - 1; 
 let q6 : Prop := I64 q5; I t → BC (decide q3) (BC (decide (q2 < (8 : Int))) (∀ (n : Int), n = IntKind.u64.wrap (q4 * 256) → (q3 ∧ q2 < (↑(cstr x).length : Int)) ∧ ∀ (m_1 : Int), m_1 = IntKind.u64.wrap ((cstr x).getD q2.toNat 0) → ∀ (n_1 : Int), n_1 = IntKind.u64.wrap (n + m_1) → q6 ∧ Exx Nat fun t' => (I t' ∧ m t' < m t) ∧ (cstr x = cstr x ∧ Tr 2 (Tr 1 (n_1 = (↑(numN (List.drop t' (List.take 8 x))) : Int)) ∧ Tr 1 (q5 = (↑t' : Int) - 1) ∧ Tr 17 True)) ∧ true = true ∧ True) (q6 ∧ Exx Nat fun t' => (I t' ∧ m t' < m t) ∧ (cstr x = cstr x ∧ Tr 2 (Tr 1 (q4 = (↑(numN (List.drop t' (List.take 8 x))) : Int)) ∧ Tr 1 (q5 = (↑t' : Int) - 1) ∧ Tr 17 True)) ∧ true = true ∧ True)) (Exx Unit fun y => ((Tr 1 (q4 = (↑(readN x) : Int)) ∧ True) ∧ true = true ∧ True) ∧ True)) = (fnVC tb [] Tryz.f129 refNumberC (fun x => { loops := [(3, refNumberLA x)] }) (fun _ => none)) := by kernel_rfl 

theorem refNumber_ok : SpecOk Tryz.prog 129 (specOf refNumberC) := by
  refine specOk mixed tb_ok SPok.nil Tryz.func129 (by decide) (pureC_ok fun _ => rfl) (an := (fun x => { loops := [(3, refNumberLA x)] })) (σ := (fun _ => none)) ?_
  rw [← refNumberV]
  simp (maxSteps := 10000000) only [std, stdU, stdV, Exx, I64, Nat.reduceMul, Nat.reduceDiv, Nat.reduceAdd, Int.reduceToNat]
  rintro l ⟨hl, hlen⟩
  refine ⟨by omega, by omega, fun i => i ≤ l.length, ⟨l.length, by omega, ?_, rfl⟩, fun i => i, ?_⟩
  · rw [List.drop_of_length_le (by simp; omega)]; rfl
  · intro i hi
    refine ⟨fun h => ⟨fun h8 => ?_, fun h8 => ?_⟩, fun h => ?_⟩
    · obtain ⟨j, rfl⟩ : ∃ j, i = j + 1 := ⟨i - 1, by omega⟩
      have e : ((j + 1 : Nat) : Int) - 1 = (j : Int) := by omega
      rw [e]
      refine ⟨by omega, by omega, by omega, by omega, j, by omega, by simp only; omega, ?_, rfl⟩
      rw [Int.toNat_natCast]
      exact num_back hl (by omega) (by omega)
    · refine ⟨by omega, by omega, i - 1, by omega, by simp only; omega, ?_, by omega⟩
      rw [List.drop_of_length_le (by simp; omega), List.drop_of_length_le (by simp; omega)]
    · rw [show i = 0 by omega, List.drop_zero]; rfl

end Yard


namespace Yard
open Go Go.Sx Go.Proofs
set_option linter.unusedVariables false
set_option linter.unusedSimpArgs false
set_option maxRecDepth 4000
set_option maxHeartbeats 4000000

theorem reg_bits : ∀ (l : List Nat) (a : Nat), regN tableN a l = bitN a l := by
  intro l
  induction l with
  | nil => intro a; rfl
  | cons c s ih =>
    intro a
    show regN tableN (takeN tableN a c) s = bitN (stepsN 8 (a ^^^ c)) s
    rw [ih]
    congr 1
    show halfN (stepsN 4) (halfN (stepsN 4) (a ^^^ c)) = _
    rw [half_steps, half_steps]
    exact (stepsN_add 4 4 _).symm
theorem ones_sub' {n : Nat} (h : n < 4294967296) : n ^^^ ones = ones - n := by
  have := Nat.xor_comm n ones
  apply Nat.eq_of_testBit_eq
  intro i
  have e2 : ones - n = 2 ^ 32 - (n + 1) := by unfold ones; omega
  rw [e2, Nat.testBit_two_pow_sub_succ h, Nat.testBit_xor, show ones = 2 ^ 32 - 1 from rfl, Nat.testBit_two_pow_sub_one]
  by_cases hi : i < 32
  · simp [hi]
  · have : n.testBit i = false := Nat.testBit_lt_two_pow (Nat.lt_of_lt_of_le h (by
      have := Nat.pow_le_pow_right (n := 2) (by omega) (show 32 ≤ i by omega); simpa using this))
    simp [hi, this]
theorem refAcc_sum {l : List Nat} (h : ∀ c ∈ l, c < 256) : ones - refAcc l = sumN [l] := by
  have hr : refAcc l < 4294967296 := refAcc_lt h (by decide)
  rw [← ones_sub' hr, sumN]
  congr 1
  show _ = regN tableN ones l
  rw [reg_bits]; rfl
theorem sumN_lt {l : List Nat} (h : ∀ c ∈ l, c < 256) : sumN [l] < 4294967296 := xor_ones_lt (accN_lt fun m hm => by rw [List.mem_singleton] at hm; subst hm; exact h)

def refIntC : Ctr := pureC (List Nat) Oct (fun l => [strN l]) (fun l => i64 (IntKind.i64.wrap ((readN l : Nat) : Int)))
theorem refIntV : (∀ (x : List Nat), Oct x → Exx (List Nat) fun x_1 => ((cstr x = cstr x_1 ∧ True) ∧ true = true ∧ True) ∧ Oct x_1 ∧ ∀ (y : Unit), True → ∀ (m :
 Int), m = IntKind.i64.wrap (↑(readN x_1) : Int) → Exx Unit fun y => ((Tr 1 (m = IntKind.i64.wrap (↑(readN x) : Int)) ∧ True) ∧ true = true ∧ True) ∧ True) =
 (fnVC tb [(129, specOf refNumberC)] Tryz.f108 refIntC (fun _ => {}) (fun _ => none)) := by kernel_rfl

theorem refInt_ok : SpecOk Tryz.prog 108 (specOf refIntC) := by
  refine specOk mixed tb_ok (SPok.cons refNumber_ok SPok.nil) Tryz.func108 (by decide) (pureC_ok fun _ => rfl) (an := (fun _ => {})) (σ := (fun _ => none)) ?_
  rw [← refIntV]
  simp (maxSteps := 10000000) only [std, stdU, stdV, Exx, I64, Nat.reduceMul, Nat.reduceDiv, Nat.reduceAdd, Int.reduceToNat]
  exact fun l h => h

def refFillC : Ctr := pureC (List Nat × Nat) (fun x => Oct x.1 ∧ x.2 ≤ 1000) (fun x => [strN x.1, i64 (x.2 : Nat)]) (fun x => strN (x.1 ++ List.replicate (x.2 - x.1.length) 0))
theorem refFillV : (∀ (x : List Nat × Nat), 
 let q1 : Int := (↑x.2 : Int) - (↑(cstr x.1).length : Int); 
 let q2 : Int := max q1 0; 
 let q3 : Nat := q2.toNat; Oct x.1 ∧ x.2 ≤ 1000 → I64 q1 ∧ ((0 : Int) ≤ q2 ∧ q2 ≤ q2 ∧ (↑(1 : Nat) : Int) * q2 ≤ (281474976710656 : Int) ∧ q2 ≤ (9223372036854775807 : Int)) ∧ 0 + q3 ≤ q3 ∧ Exx (List Nat) fun m => (q3 = m.length ∧ ∀ (i : Nat), i < m.length → [AV.int .u8 0] = [AV.int .u8 (↑(m.getD i 0) : Int)]) ∧ (∀ (c : Nat), c ∈ m → c < 256) ∧ (cstr x.1).length + (cstr m).length ≤ 9223372036854775807 ∧ Exx Unit fun y => ((cstr x.1 ++ cstr m = cstr (x.1 ++ List.replicate (x.2 - x.1.length) 0) ∧ True) ∧ true = true ∧ True) ∧ True) = (fnVC tb [] Tryz.f143 refFillC (fun _ => {}) (fun _ => none)) := by kernel_rfl 

theorem refFill_ok : SpecOk Tryz.prog 143 (specOf refFillC) := by
  refine specOk mixed tb_ok SPok.nil Tryz.func143 (by decide) (pureC_ok fun _ => rfl) (an := (fun _ => {})) (σ := (fun _ => none)) ?_
  rw [← refFillV]
  simp (maxSteps := 10000000) only [std, stdU, stdV, Exx, I64, Nat.reduceMul, Nat.reduceDiv, Nat.reduceAdd, Int.reduceToNat]
  rintro l n ⟨⟨hl, h2⟩, h3⟩
  refine ⟨by omega, by omega, by omega, by omega, by omega, by omega, List.replicate (n - l.length) 0, by rw [List.length_replicate]; omega, fun i hi => ?_, fun c hc => by rw [(List.mem_replicate.1 hc).2]; decide, by rw [List.length_replicate]; omega, rfl⟩
  rw [getD_replicate]; split <;> rfl

def refSealC : Ctr := pureC (Nat × Nat × List Nat) (fun x => x.1 < 256 ∧ x.2.1 < 256 ∧ (∀ c ∈ x.2.2, c < 256) ∧ x.2.2.length ≤ 56) (fun x => [i64 (x.1 : Nat), i64 (x.2.1 : Nat), strN x.2.2]) (fun x => strN (sealN x.1 x.2.1 x.2.2))
theorem refSealV : (
 let q1 : Prop := (0 : Nat) + (4 : Nat) ≤ (4 : Nat); 
 let q2 : Nat := (TI.mk (TK.int IntKind.u8) 1 1 (ZL.cons (Value.int IntKind.u8 0) ZL.nil) false).size; ∀ (x : Nat × Nat × List Nat), 
 let q3 : List Int := cstr (sealN x.1 x.2.1 x.2.2); x.1 < 256 ∧ x.2.1 < 256 ∧ (∀ (c : Nat), c ∈ x.2.2 → c < 256) ∧ x.2.2.length ≤ 56 → ∀ (m : Int), m = IntKind.u8.wrap (↑x.1 : Int) → ∀ (m_1 : Int), 
 let q8 : Prop := Exx (List Nat × Nat) fun x_1 => 
 let q4 : List Int := cstr (x_1.1 ++ List.replicate (x_1.2 - x_1.1.length) 0); ((cstr x.2.2 = cstr x_1.1 ∧ Tr 1 ((56 : Int) = (↑x_1.2 : Int)) ∧ True) ∧ true = true ∧ True) ∧ (Oct x_1.1 ∧ x_1.2 ≤ 1000) ∧ ∀ (y : Unit), True → q1 ∧ Exx (List Nat) fun m_2 => 
 let q5 : List Int := cstr m_2 ++ q4; 
 let q6 : Nat := q5.length; (4 = m_2.length ∧ ∀ (i : Nat), 
 let q7 : Nat := 0 + i; i < m_2.length → [AV.int .u8 (if q7 = 3 * 1 / 1 then 0 else if q7 = 2 * 1 / 1 then 0 else if q7 = 1 * 1 / 1 then m_1 else if q7 = 0 * 1 / 1 then m else 0)] = [AV.int .u8 (↑(m_2.getD i 0) : Int)]) ∧ (∀ (c : Nat), c ∈ m_2 → c < 256) ∧ (cstr m_2).length + q4.length ≤ 9223372036854775807 ∧ q6 ≤ 9223372036854775807 ∧ ∀ (cap : Nat), q6 ≤ cap ∧ cap ≤ 9223372036854775807 → Exx (List Nat) fun x => (((0 + q6 ≤ q6 ∧ q6 = x.length ∧ ∀ (i : Nat), i < x.length → [AV.int .u8 (q5.getD (0 + i) 0)] = [AV.int .u8 (↑(x.getD i 0) : Int)]) ∧ True) ∧ true = true ∧ True) ∧ Bytes x ∧ ∀ (y : Unit), True → ∀ (m : Int), m = IntKind.u64.wrap (↑(ones - refAcc x) : Int) → Exx (Nat × Nat) fun x => ((Tr 1 (m = (↑x.1 : Int)) ∧ Tr 1 ((4 : Int) = (↑x.2 : Int)) ∧ True) ∧ true = true ∧ True) ∧ (U64 x.1 ∧ x.2 ≤ 1000) ∧ ∀ (y : Unit), True → (cstr (layN x.1 x.2)).length + q6 ≤ 9223372036854775807 ∧ Exx Unit fun y => ((cstr (layN x.1 x.2) ++ q5 = q3 ∧ True) ∧ true = true ∧ True) ∧ True; m_1 = IntKind.u8.wrap (↑x.2.1 : Int) → ((q1 ∧ Exx (List Nat) fun m_2 => (4 = m_2.length ∧ ∀ (i : Nat), 
 let q9 : Nat := 0 + i; i < m_2.length → [AV.int .u8 (if q9 = 3 * 1 / 1 then 0 else if q9 = 2 * 1 / 1 then 0 else if q9 = 1 * 1 / 1 then m_1 else if q9 = 0 * 1 / 1 then m else 0)] = [AV.int .u8 (↑(m_2.getD i 0) : Int)]) ∧ (∀ (c : Nat), c ∈ m_2 → c < 256) ∧ Exx (List Nat × Nat) fun x_1 => 
 let q10 : List Int := cstr (x_1.1 ++ List.replicate (x_1.2 - x_1.1.length) 0); 
 let q11 : List Int := cstr m_2 ++ q10; 
 let q12 : Nat := q11.length; ((cstr x.2.2 = cstr x_1.1 ∧ Tr 1 ((56 : Int) = (↑x_1.2 : Int)) ∧ True) ∧ true = true ∧ True) ∧ (Oct x_1.1 ∧ x_1.2 ≤ 1000) ∧ ∀ (y : Unit), True → (cstr m_2).length + q10.length ≤ 9223372036854775807 ∧ q12 ≤ 9223372036854775807 ∧ ∀ (cap : Nat), q12 ≤ cap ∧ cap ≤ 9223372036854775807 → Exx (List Nat) fun x => (((0 + q12 ≤ q12 ∧ q12 = x.length ∧ ∀ (i : Nat), i < x.length → [AV.int .u8 (q11.getD (0 + i) 0)] = [AV.int .u8 (↑(x.getD i 0) : Int)]) ∧ True) ∧ true = true ∧ True) ∧ Bytes x ∧ ∀ (y : Unit), True → ∀ (m : Int), m = IntKind.u64.wrap (↑(ones - refAcc x) : Int) → Exx (Nat × Nat) fun x => ((Tr 1 (m = (↑x.1 : Int)) ∧ Tr 1 ((4 : Int) = (↑x.2 : Int)) ∧ True) ∧ true = true ∧ True) ∧ (U64 x.1 ∧ x.2 ≤ 1000) ∧ ∀ (y : Unit), True → (cstr (layN x.1 x.2)).length + q12 ≤ 9223372036854775807 ∧ Exx Unit fun y => ((cstr (layN x.1 x.2) ++ q11 = q3 ∧ True) ∧ true = true ∧ True) ∧ True) ∧ q8) ∧ q8) = (fnVC tb [(130, specOf refLayC), (143, specOf refFillC), (144, specOf refSumC)] Tryz.f128 refSealC (fun _ => {}) (fun _ => none)) := by kernel_rfl 

theorem refSeal_ok : SpecOk Tryz.prog 128 (specOf refSealC) := by
  refine specOk mixed tb_ok (SPok.cons refLay_ok (SPok.cons refFill_ok (SPok.cons refSum_ok SPok.nil))) Tryz.func128 (by decide) (pureC_ok fun _ => rfl) (an := (fun _ => {})) (σ := (fun _ => none)) ?_
  rw [← refSealV]
  simp (maxSteps := 10000000) only [std, stdU, stdV, Exx, I64, Nat.reduceMul, Nat.reduceDiv, Nat.reduceAdd, Int.reduceToNat]
  rintro k t b ⟨hk, ht, hb, hl⟩
  have hO : Oct b := ⟨hb, by omega⟩
  have hg : ∀ i, i < ([k, t, 0, 0] : List Nat).length → (if i = 3 then [AV.int IntKind.u8 0] else if i = 2 then [AV.int IntKind.u8 0] else if i = 1 then [AV.int IntKind.u8 (IntKind.u8.wrap ((t : Nat) : Int))] else if i = 0 then [AV.int IntKind.u8 (IntKind.u8.wrap ((k : Nat) : Int))] else [AV.int IntKind.u8 0]) = [AV.int IntKind.u8 ((([k, t, 0, 0] : List Nat).getD i 0 : Nat) : Int)] := fun i hi => by
    have hi : i < 4 := hi
    have : i = 0 ∨ i = 1 ∨ i = 2 ∨ i = 3 := by omega
    rcases this with rfl | rfl | rfl | rfl
    · rw [if_neg (by decide), if_neg (by decide), if_neg (by decide), if_pos rfl, wrap8, Nat.mod_eq_of_lt hk]; rfl
    · rw [if_neg (by decide), if_neg (by decide), if_pos rfl, wrap8, Nat.mod_eq_of_lt ht]; rfl
    · rfl
    · rfl
  have hlt : ∀ c ∈ ([k, t, 0, 0] : List Nat), c < 256 := fun c hc => by
    simp only [List.mem_cons, List.not_mem_nil, or_false] at hc; omega
  have er : ([k, t, 0, 0] : List Nat) ++ (b ++ List.replicate (56 - b.length) 0) = restL k t b := by rw [restL, List.append_assoc]
  have hlr := restL_length (k := k) (t := t) hl
  have hrl := restL_lt hk ht hb
  have hbl : (b ++ List.replicate (56 - b.length) 0).length = 56 := by rw [List.length_append, List.length_replicate]; omega
  have tail : ([k, t, 0, 0] : List Nat).length + (b ++ List.replicate (56 - b.length) 0).length ≤ 9223372036854775807 ∧ (([k, t, 0, 0] : List Nat) ++ (b ++ List.replicate (56 - b.length) 0)).length ≤ 9223372036854775807 ∧ ∀ (cap : Nat), (([k, t, 0, 0] : List Nat) ++ (b ++ List.replicate (56 - b.length) 0)).length ≤ cap ∧ cap ≤ 9223372036854775807 → Bytes (([k, t, 0, 0] : List Nat) ++ (b ++ List.replicate (56 - b.length) 0)) ∧ ∃ a : Nat, IntKind.u64.wrap ((ones - refAcc (([k, t, 0, 0] : List Nat) ++ (b ++ List.replicate (56 - b.length) 0)) : Nat) : Int) = (a : Int) ∧ ∃ x_2 : Nat, (4 : Int) = (x_2 : Int) ∧ U64 a ∧ x_2 ≤ 1000 ∧ (layN a x_2).length + (([k, t, 0, 0] : List Nat) ++ (b ++ List.replicate (56 - b.length) 0)).length ≤ 9223372036854775807 ∧ layN a x_2 ++ (([k, t, 0, 0] : List Nat) ++ (b ++ List.replicate (56 - b.length) 0)) = sealN k t b := by
    rw [er, hbl, hlr]
    refine ⟨by simp, by omega, fun cap hc => ⟨⟨hrl, by omega⟩, sumN [restL k t b], ?_, 4, rfl, ?_, by omega, by rw [layN_length]; omega, rfl⟩⟩
    · rw [refAcc_sum hrl]; exact wrap64 (by have := sumN_lt hrl; unfold U64; omega)
    · have := sumN_lt hrl; unfold U64; omega
  exact ⟨⟨[k, t, 0, 0], rfl, hg, hlt, 56, rfl, hO, by omega, tail⟩, ⟨56, rfl, hO, by omega, [k, t, 0, 0], rfl, hg, hlt, tail⟩, ⟨56, rfl, hO, by omega, [k, t, 0, 0], rfl, hg, hlt, tail⟩⟩

def refOpenC : Ctr := pureC (List Nat) Oct (fun b => [octA b]) (fun b => .tup [i64 (kindN b : Nat), i64 (tagN b : Nat), strN (bodyL b), .bool (decide (rightP b))])
theorem refOpenV : (∀ (x : List Nat), 
 let q1 : Prop := Exx Unit fun y => (((Tr 1 ((0 : Int) = (↑(kindN x) : Int)) ∧ Tr 1 ((0 : Int) = (↑(tagN x) : Int)) ∧ cstr (litL (ByteArray.mk #[])) = cstr (bodyL x) ∧ false = decide (rightP x) ∧ True) ∧ True) ∧ true = true ∧ True) ∧ True; 
 let q2 : Prop := (0 : Int) ≤ (4 : Int) ∧ (4 : Int) < (↑x.length : Int); 
 let q3 : Int := (↑(x.getD (Int.toNat 4) 0) : Int); 
 let q4 : Prop := (0 : Int) ≤ (5 : Int) ∧ (5 : Int) < (↑x.length : Int); 
 let q5 : Prop := Int.toNat 8 ≤ x.length ∧ x.length ≤ x.length; Oct x → BC (!decide ((↑x.length : Int) = (64 : Int))) q1 (q2 ∧ BC (decide (q3 = (0 : Int))) q1 (q2 ∧ ∀ (m : Int), m = IntKind.i64.wrap q3 → q4 ∧ ∀ (m_1 : Int), 
 let q6 : Int := IntKind.i64.wrap (↑(x.getD (Int.toNat 5) 0) : Int); m_1 = q6 → (0 : Int) ≤ (8 : Int) ∧ q5 ∧ Exx (List Nat) fun m_2 => 
 let q7 : Nat := x.length - Int.toNat 8; (q7 = m_2.length ∧ ∀ (i : Nat), i < m_2.length → [AV.int .u8 (↑(x.getD (Int.toNat 8 + i) 0) : Int)] = [AV.int .u8 (↑(m_2.getD i 0) : Int)]) ∧ (∀ (c : Nat), c ∈ m_2 → c < 256) ∧ Exx (List Nat) fun m_3 => (x.length = m_3.length ∧ ∀ (i : Nat), i < m_3.length → [AV.int .u8 (↑(x.getD i 0) : Int)] = [AV.int .u8 (↑(m_3.getD i 0) : Int)]) ∧ (∀ (c : Nat), c ∈ m_3 → c < 256) ∧ Exx (Nat × Nat × List Nat) fun x_1 => 
 let q8 : List Int := cstr (sealN x_1.1 x_1.2.1 x_1.2.2); ((Tr 1 (m = (↑x_1.1 : Int)) ∧ Tr 1 (m_1 = (↑x_1.2.1 : Int)) ∧ cstr m_2 = cstr x_1.2.2 ∧ True) ∧ true = true ∧ True) ∧ (x_1.1 < 256 ∧ x_1.2.1 < 256 ∧ (∀ (c : Nat), c ∈ x_1.2.2 → c < 256) ∧ x_1.2.2.length ≤ 56) ∧ ∀ (y : Unit), True → BC (!decide (q8 = cstr m_3)) q1 (q2 ∧ ∀ (m : Int), m = IntKind.i64.wrap q3 → q4 ∧ ∀ (m_4 : Int), m_4 = q6 → (0 : Int) ≤ (8 : Int) ∧ q5 ∧ Exx (List Nat) fun m_5 => (q7 = m_5.length ∧ ∀ (i : Nat), i < m_5.length → [AV.int .u8 (↑(x.getD (Int.toNat 8 + i) 0) : Int)] = [AV.int .u8 (↑(m_5.getD i 0) : Int)]) ∧ (∀ (c : Nat), c ∈ m_5 → c < 256) ∧ Exx Unit fun y => (((Tr 1 (m = (↑(kindN x) : Int)) ∧ Tr 1 (m_4 = (↑(tagN x) : Int)) ∧ cstr m_5 = cstr (bodyL x) ∧ true = decide (rightP x) ∧ True) ∧ True) ∧ true = true ∧ True) ∧ True)))) = (fnVC tb [(128, specOf refSealC)] Tryz.f107 refOpenC (fun _ => {}) (fun _ => none)) := by kernel_rfl 

theorem refOpen_ok : SpecOk Tryz.prog 107 (specOf refOpenC) := by
  refine specOk mixed tb_ok (SPok.cons refSeal_ok SPok.nil) Tryz.func107 (by decide) (pureC_ok fun _ => ⟨rfl, rfl, rfl, rfl, trivial⟩) (an := (fun _ => {})) (σ := (fun _ => none)) ?_
  rw [← refOpenV]
  simp (maxSteps := 10000000) only [std, stdU, stdV, Exx, I64, Nat.reduceMul, Nat.reduceDiv, Nat.reduceAdd, Int.reduceToNat]
  rintro b ⟨hb, hl⟩
  have hno : ¬ rightP b → ((0 : Int) = ((kindN b : Nat) : Int) ∧ (0 : Int) = ((tagN b : Nat) : Int) ∧ List.map (fun c : UInt8 => c.toNat) [] = bodyL b ∧ false = decide (rightP b)) := fun h => by
    rw [kindN, if_neg h, tagN, if_neg h, bodyL, if_neg h]; exact ⟨rfl, rfl, rfl, (decide_eq_false h).symm⟩
  have g4 : b.getD 4 0 < 256 := getD_mem (p := fun c => c < 256) hb (by decide) 4
  have g5 : b.getD 5 0 < 256 := getD_mem (p := fun c => c < 256) hb (by decide) 5
  have hb8 : ∀ c ∈ b.drop 8, c < 256 := fun c hc => hb c (List.mem_of_mem_drop hc)
  refine ⟨fun h => hno (fun k => h (by rw [k.1]; rfl)), fun h64 => ⟨by omega, by omega, fun h => hno (fun k => k.2.1 (by omega)), fun h4 => ⟨by omega, by omega, by omega, by omega, by omega, by omega, b.drop 8, by rw [List.length_drop], fun i hi => by rw [getD_drop], hb8, hb, b.getD 4 0, wrap_I64 ⟨by omega, by omega⟩, b.getD 5 0, wrap_I64 ⟨by omega, by omega⟩, g4, g5, hb8, by rw [List.length_drop]; omega, fun h => hno (fun k => h (seal_back hb k)), fun h => ?_⟩⟩⟩
  have hr : rightP b := seal_right hb (by omega) (by omega) h
  refine ⟨by omega, by omega, by omega, by omega, by omega, by omega, b.drop 8, by rw [List.length_drop], fun i hi => by rw [getD_drop], hb8, ?_, ?_, ?_, (decide_eq_true hr).symm⟩
  · rw [kindN, if_pos hr]; exact wrap_I64 ⟨by omega, by omega⟩
  · rw [tagN, if_pos hr]; exact wrap_I64 ⟨by omega, by omega⟩
  · rw [bodyL, if_pos hr]

def refRightLA (n : NodeT) (p : Bool) : LA := { T := Nat × Bool, F := fun s => frm 50 [(1, .ptr 1 [] 0), (4, .bool s.2), (5, i64 (s.1 : Nat))], H := fun s => [.fence, .cells 79 (nodeV n)] }
def kidRen2 (F : Fr) (H : AH) : Option Ren := match H[(2 : Nat)]? with
  | some (.cells _ (_ :: _ :: _ :: _ :: .sl q _ _ _ _ _ _ :: _)) => some [some 0, some 1, some 2, some q]
  | _ => some [some 0, some 1, some 2, none]
def refNodeRightC : Ctr := nodeRightC
theorem refNodeRightV : (
 let q1 : Prop := true = true ∧ NilNil ∧ (0 : Nat) = 0; ∀ (x : NodeT), 
 let q2 : Prop := Tr 1 (x.e.slot = x.e.slot) ∧ Tr 1 (x.e.gen = x.e.gen) ∧ Tr 1 (x.e.key = x.e.key) ∧ Tr 1 (x.e.value = x.e.value) ∧ ((1 : Nat) = 1 ∧ x.kids.length = x.kids.length ∧ ∀ (i : Nat), i < x.kids.length → [AV.int .i64 (x.kids.getD i 0)] = [AV.int .i64 (x.kids.getD i 0)]) ∧ True; 
 let q3 : Prop := true = true ∧ ((79 : Nat) = (79 : TypeId) ∧ q2) ∧ True; 
 let q7 : Prop := Exx (Nat × Bool → Prop) fun I => Exx (Nat × Bool → Nat) fun m => (Exx (Nat × Bool) fun t => I t ∧ Tr 1 (q1 ∧ Tr 2 (false = t.2 ∧ Tr 1 ((0 : Int) = (↑t.1 : Int)) ∧ Tr 44 True)) ∧ q3) ∧ ∀ (t : Nat × Bool), 
 let q4 : Prop := (↑t.1 : Int) < (↑x.kids.length : Int); 
 let q5 : Int := (↑t.1 : Int) + 1; 
 let q6 : Prop := Exx Unit fun y => ((t.2 = decide (nodeOk x) ∧ True) ∧ true = true ∧ True) ∧ True; I t → BC (decide q4) (BC t.2 (((0 : Int) ≤ (↑t.1 : Int) ∧ q4) ∧ Exx Int fun x_1 => ((Tr 1 (x.kids.getD (↑t.1 : Int).toNat 0 = x_1) ∧ True) ∧ true = true ∧ True) ∧ (-9223372036854775808 ≤ x_1 ∧ x_1 ≤ (9223372036854775807 : Int)) ∧ ∀ (y : Unit), True → I64 q5 ∧ Exx (Nat × Bool) fun t' => (I t' ∧ m t' < m t) ∧ Tr 1 (q1 ∧ Tr 2 (decide ((2 : Int) ≤ x_1 ∧ x_1 ≤ (3071 : Int)) = t'.snd ∧ Tr 1 (q5 = (↑t'.fst : Int)) ∧ Tr 44 True)) ∧ true = true ∧ ((79 : TypeId) = 79 ∧ q2) ∧ True) q6) q6; NodeI x → BC (decide ((0 : Int) ≤ x.e.slot)) (BC (decide (x.e.slot ≤ (1791 : Int))) (BC (decide ((1 : Int) ≤ x.e.gen)) (BC (decide (x.e.gen ≤ (4294967295 : Int))) (Exx (Nat × Bool → Prop) fun I => Exx (Nat × Bool → Nat) fun m => (Exx (Nat × Bool) fun t => I t ∧ Tr 1 (q1 ∧ Tr 2 (decide ((↑x.kids.length : Int) ≤ (12 : Int)) = t.2 ∧ Tr 1 ((0 : Int) = (↑t.1 : Int)) ∧ Tr 44 True)) ∧ q3) ∧ ∀ (t : Nat × Bool), 
 let q8 : Prop := (↑t.1 : Int) < (↑x.kids.length : Int); 
 let q9 : Int := (↑t.1 : Int) + 1; 
 let q10 : Prop := Exx Unit fun y => ((t.2 = decide (nodeOk x) ∧ True) ∧ true = true ∧ True) ∧ True; I t → BC (decide q8) (BC t.2 (((0 : Int) ≤ (↑t.1 : Int) ∧ q8) ∧ Exx Int fun x_1 => ((Tr 1 (x.kids.getD (↑t.1 : Int).toNat 0 = x_1) ∧ True) ∧ true = true ∧ True) ∧ (-9223372036854775808 ≤ x_1 ∧ x_1 ≤ (9223372036854775807 : Int)) ∧ ∀ (y : Unit), True → I64 q9 ∧ Exx (Nat × Bool) fun t' => (I t' ∧ m t' < m t) ∧ Tr 1 (q1 ∧ Tr 2 (decide ((2 : Int) ≤ x_1 ∧ x_1 ≤ (3071 : Int)) = t'.snd ∧ Tr 1 (q9 = (↑t'.fst : Int)) ∧ Tr 44 True)) ∧ true = true ∧ ((79 : TypeId) = 79 ∧ q2) ∧ True) q10) q10) q7) q7) q7) q7) = (fnVC tb [(70, specOf block08C)] Tryz.f29 refNodeRightC (fun x => { loops := [(4, refRightLA x true)] }) (fun _ => none)) := by kernel_rfl 

theorem refNodeRight_ok : SpecOk Tryz.prog 29 (specOf refNodeRightC) := by
  refine specOk mixed tb_ok (SPok.cons block08_ok SPok.nil) Tryz.func29 (by decide) (pureC_ok fun _ => rfl) (an := (fun x => { loops := [(4, refRightLA x true)] })) (σ := (fun _ => none)) ?_
  rw [← refNodeRightV]
  simp (maxSteps := 10000000) only [std, stdU, stdV, Exx, I64, Nat.reduceMul, Nat.reduceDiv, Nat.reduceAdd, Int.reduceToNat]
  intro n h
  have hK := h.2.2
  have tail : ∀ b0 : Bool, (b0 = true ↔ (0 ≤ n.e.slot ∧ n.e.slot ≤ 1791 ∧ 1 ≤ n.e.gen ∧ n.e.gen ≤ 4294967295 ∧ n.kids.length ≤ 12)) → ∃ x : Nat × Bool → Prop, (∃ a b, x (a, b) ∧ b0 = b ∧ (0 : Int) = ((a : Nat) : Int)) ∧ ∃ x_1 : Nat × Bool → Nat, ∀ (a : Nat) (b : Bool), x (a, b) → ((a : Int) < (n.kids.length : Int) → (b = true → 0 ≤ (a : Int) ∧ (a : Int) < (n.kids.length : Int) ∧ -9223372036854775808 ≤ n.kids.getD a 0 ∧ n.kids.getD a 0 ≤ 9223372036854775807 ∧ -9223372036854775808 ≤ (a : Int) + 1 ∧ (a : Int) + 1 ≤ 9223372036854775807 ∧ ∃ a_4 b_1, x (a_4, b_1) ∧ x_1 (a_4, b_1) < x_1 (a, b) ∧ decide (2 ≤ n.kids.getD a 0 ∧ n.kids.getD a 0 ≤ 3071) = b_1 ∧ (a : Int) + 1 = ((a_4 : Nat) : Int)) ∧ (b = false → b = decide (nodeOk n))) ∧ (¬ (a : Int) < (n.kids.length : Int) → b = decide (nodeOk n)) := fun b0 hb0 => by
    refine ⟨fun s => s.1 ≤ n.kids.length ∧ (s.2 = true ↔ (b0 = true ∧ ∀ j, j < s.1 → ¬ kidBad (n.kids.getD j 0))), ⟨0, b0, ⟨Nat.zero_le _, ⟨fun k => ⟨k, fun j hj => absurd hj (Nat.not_lt_zero _)⟩, fun k => k.1⟩⟩, rfl, rfl⟩, fun s => n.kids.length - s.1, fun a b hab => ⟨fun hlt => ⟨fun hb => ?_, fun hb => ?_⟩, fun hge => ?_⟩⟩
    · obtain ⟨q1, q2⟩ := hab
      simp only at q1 q2
      have hg := kids_get h.2 a
      have hq := q2.1 hb
      refine ⟨by omega, hlt, hg.1, hg.2, by omega, by omega, a + 1, _, ⟨by simp only; omega, ?_⟩, by simp only; omega, rfl, by omega⟩
      simp only [decide_eq_true_eq]
      refine ⟨fun k => ⟨hq.1, fun j hj => ?_⟩, fun k => ?_⟩
      · by_cases e : j = a
        · subst e; unfold kidBad; omega
        · exact hq.2 j (by omega)
      · have := k.2 a (by omega)
        unfold kidBad at this; omega
    · obtain ⟨q1, q2⟩ := hab
      simp only at q1 q2
      subst hb
      refine (decide_eq_false fun k => ?_).symm
      obtain ⟨h1, h2, h3, h4, h5, h6⟩ := k
      have := q2.2 ⟨hb0.2 ⟨h1, by omega, h3, h4, h5⟩, fun j hj => h6 _ (by rw [List.getD_eq_getElem?_getD, List.getElem?_eq_getElem (by omega)]; exact List.getElem_mem _)⟩
      cases this
    · obtain ⟨q1, q2⟩ := hab
      simp only at q1 q2
      rw [Bool.eq_iff_iff, decide_eq_true_eq, q2, hb0]
      refine ⟨fun ⟨⟨h1, h2, h3, h4, h5⟩, k⟩ => ⟨h1, by omega, h3, h4, h5, fun c hc => ?_⟩, fun ⟨h1, h2, h3, h4, h5, h6⟩ => ⟨⟨h1, by omega, h3, h4, h5⟩, fun j hj => h6 _ (by rw [List.getD_eq_getElem?_getD, List.getElem?_eq_getElem (by omega)]; exact List.getElem_mem _)⟩⟩
      obtain ⟨j, hj, e⟩ := List.mem_iff_getElem.1 hc
      have := k j (by omega)
      rw [List.getD_eq_getElem?_getD, List.getElem?_eq_getElem hj] at this
      rw [← e]; exact this
  exact ⟨fun h1 => ⟨fun h2 => ⟨fun h3 => ⟨fun h4 => tail _ (by rw [decide_eq_true_eq]; omega), fun h4 => tail _ (by simp; omega)⟩, fun h3 => tail _ (by simp; omega)⟩, fun h2 => tail _ (by simp; omega)⟩, fun h1 => tail _ (by simp; omega)⟩

def refPutC : Ctr := pureC NodeT (fun n => nodeOk n ∧ NodeI n) (fun n => [nodeA n]) (fun n => strN (putNodeL n))
def refPutLA (n : NodeT) : LA := { T := Nat, F := fun k => frm 50 [(1, .ptr 1 [] 0), (4, strN (bodyB n k)), (5, i64 (k : Nat))], H := fun s => [.fence, .cells 79 (nodeV n)] }
theorem refPutV : (
 let q1 : Prop := true = true ∧ NilNil ∧ (0 : Nat) = 0; ∀ (x : NodeT), 
 let q2 : Prop := Tr 1 (x.e.slot = x.e.slot) ∧ Tr 1 (x.e.gen = x.e.gen) ∧ Tr 1 (x.e.key = x.e.key) ∧ Tr 1 (x.e.value = x.e.value) ∧ ((1 : Nat) = 1 ∧ x.kids.length = x.kids.length ∧ ∀ (i : Nat), i < x.kids.length → [AV.int .i64 (x.kids.getD i 0)] = [AV.int .i64 (x.kids.getD i 0)]) ∧ True; nodeOk x ∧ NodeI x → ∀ (m : Int), m = IntKind.u64.wrap x.e.key → ∀ (m_1 : Int), m_1 = IntKind.u64.wrap x.e.value → ∀ (m_2 : Int), m_2 = IntKind.u64.wrap x.e.slot → ∀ (m_3 : Int), m_3 = IntKind.u64.wrap x.e.gen → Exx (Nat × Nat) fun x_1 => ((Tr 1 (m = (↑x_1.1 : Int)) ∧ Tr 1 ((8 : Int) = (↑x_1.2 : Int)) ∧ True) ∧ true = true ∧ True) ∧ (U64 x_1.1 ∧ x_1.2 ≤ 1000) ∧ ∀ (y : Unit), True → Exx (Nat × Nat) fun x_2 => 
 let q3 : List Int := cstr (layN x_1.1 x_1.2) ++ cstr (layN x_2.1 x_2.2); ((Tr 1 (m_1 = (↑x_2.1 : Int)) ∧ Tr 1 ((8 : Int) = (↑x_2.2 : Int)) ∧ True) ∧ true = true ∧ True) ∧ (U64 x_2.1 ∧ x_2.2 ≤ 1000) ∧ ∀ (y : Unit), True → (cstr (layN x_1.1 x_1.2)).length + (cstr (layN x_2.1 x_2.2)).length ≤ 9223372036854775807 ∧ Exx (Nat × Nat) fun x_3 => 
 let q4 : List Int := q3 ++ cstr (layN x_3.1 x_3.2); ((Tr 1 (m_2 = (↑x_3.1 : Int)) ∧ Tr 1 ((4 : Int) = (↑x_3.2 : Int)) ∧ True) ∧ true = true ∧ True) ∧ (U64 x_3.1 ∧ x_3.2 ≤ 1000) ∧ ∀ (y : Unit), True → q3.length + (cstr (layN x_3.1 x_3.2)).length ≤ 9223372036854775807 ∧ Exx (Nat × Nat) fun x_4 => ((Tr 1 (m_3 = (↑x_4.1 : Int)) ∧ Tr 1 ((4 : Int) = (↑x_4.2 : Int)) ∧ True) ∧ true = true ∧ True) ∧ (U64 x_4.1 ∧ x_4.2 ≤ 1000) ∧ ∀ (y : Unit), True → q4.length + (cstr (layN x_4.1 x_4.2)).length ≤ 9223372036854775807 ∧ Exx (Nat → Prop) fun I => Exx (Nat → Nat) fun m => (Exx Nat fun t => I t ∧ Tr 1 (q1 ∧ Tr 2 (q4 ++ cstr (layN x_4.1 x_4.2) = cstr (bodyB x t) ∧ Tr 1 ((0 : Int) = (↑t : Int)) ∧ Tr 44 True)) ∧ true = true ∧ ((79 : Nat) = (79 : TypeId) ∧ q2) ∧ True) ∧ ∀ (t : Nat), 
 let q5 : Prop := (↑t : Int) < (↑x.kids.length : Int); 
 let q6 : Int := (↑t : Int) + 1; I t → BC (decide q5) (((0 : Int) ≤ (↑t : Int) ∧ q5) ∧ ∀ (m_4 : Int), m_4 = IntKind.u64.wrap (x.kids.getD (↑t : Int).toNat 0) → Exx (Nat × Nat) fun x_5 => ((Tr 1 (m_4 = (↑x_5.1 : Int)) ∧ Tr 1 ((2 : Int) = (↑x_5.2 : Int)) ∧ True) ∧ true = true ∧ True) ∧ (U64 x_5.1 ∧ x_5.2 ≤ 1000) ∧ ∀ (y : Unit), True → (cstr (bodyB x t)).length + (cstr (layN x_5.1 x_5.2)).length ≤ 9223372036854775807 ∧ I64 q6 ∧ Exx Nat fun t' => (I t' ∧ m t' < m t) ∧ Tr 1 (q1 ∧ Tr 2 (cstr (bodyB x t) ++ cstr (layN x_5.1 x_5.2) = cstr (bodyB x t') ∧ Tr 1 (q6 = (↑t' : Int)) ∧ Tr 44 True)) ∧ true = true ∧ ((79 : TypeId) = 79 ∧ q2) ∧ True) (Exx (Nat × Nat × List Nat) fun x_5 => ((Tr 1 ((1 : Int) = (↑x_5.1 : Int)) ∧ Tr 1 ((↑x.kids.length : Int) = (↑x_5.2.1 : Int)) ∧ cstr (bodyB x t) = cstr x_5.2.2 ∧ True) ∧ true = true ∧ True) ∧ (x_5.1 < 256 ∧ x_5.2.1 < 256 ∧ (∀ (c : Nat), c ∈ x_5.2.2 → c < 256) ∧ x_5.2.2.length ≤ 56) ∧ ∀ (y : Unit), True → Exx Unit fun y => ((cstr (sealN x_5.1 x_5.2.1 x_5.2.2) = cstr (putNodeL x) ∧ True) ∧ true = true ∧ True) ∧ True)) = (fnVC tb [(128, specOf refSealC), (130, specOf refLayC)] Tryz.f109 refPutC (fun x => { loops := [(4, refPutLA x)] }) (fun _ => none)) := by kernel_rfl 

theorem refPut_ok : SpecOk Tryz.prog 109 (specOf refPutC) := by
  refine specOk mixed tb_ok (SPok.cons refSeal_ok (SPok.cons refLay_ok SPok.nil)) Tryz.func109 (by decide) (pureC_ok fun _ => rfl) (an := (fun x => { loops := [(4, refPutLA x)] })) (σ := (fun _ => none)) ?_
  rw [← refPutV]
  simp (maxSteps := 10000000) only [std, stdU, stdV, Exx, I64, Nat.reduceMul, Nat.reduceDiv, Nat.reduceAdd, Int.reduceToNat]
  rintro n ⟨hok, h⟩
  obtain ⟨h1, h2, h3, h4, h5, h6⟩ := hok
  have o2 : octetsN [u64N n.e.key, u64N n.e.value] = layN (u64N n.e.key) 8 ++ layN (u64N n.e.value) 8 := by simp [octetsN]
  refine ⟨u64N n.e.key, u64N_wrap, 8, rfl, u64N_U _, by omega, u64N n.e.value, u64N_wrap, 8, rfl, u64N_U _, by omega, by simp [layN_length], n.e.slot.toNat, u64_toNat h1 (by omega), 4, rfl, by unfold U64; omega, by omega, by simp [layN_length], n.e.gen.toNat, u64_toNat (by omega) h4, 4, rfl, by unfold U64; omega, by omega, by simp [layN_length], fun k => k ≤ n.kids.length, ⟨0, Nat.zero_le _, ?_, rfl⟩, fun k => n.kids.length - k, fun k hk => ⟨fun hlt => ?_, fun hge => ?_⟩⟩
  · rw [bodyB, headL, o2]; simp [kidsB]
  · have ha : k < n.kids.length := by omega
    have hm : n.kids.getD k 0 ∈ n.kids := by rw [List.getD_eq_getElem?_getD, List.getElem?_eq_getElem ha]; exact List.getElem_mem ha
    have hb := h6 _ hm
    unfold kidBad at hb
    exact ⟨by omega, hlt, (n.kids.getD k 0).toNat, u64_toNat (by omega) (by omega), 2, rfl, by unfold U64; omega, by omega, by rw [bodyB_length, layN_length]; omega, by omega, by omega, k + 1, by omega, by simp only; omega, by rw [bodyB, bodyB, kidsB_succ, List.append_assoc], by omega⟩
  · have e : k = n.kids.length := by omega
    subst e
    exact ⟨1, rfl, by omega, by omega, bodyB_lt n _, by rw [bodyB_length]; omega, by rw [putNodeL, if_pos ⟨h1, h2, h3, h4, h5, h6⟩]⟩

def refGetNodeC : Ctr := getNodeC
def refGetLA (b : List Nat) : LA := { T := Nat × Nat, F := fun s => frm 74 [(0, octA b), (2, .ptr 1 [] 0), (5, i64 (b.getD 5 0 : Nat)), (6, strN (b.drop 8)), (8, .ptr 2 [] 0), (9, i64 (s.1 : Nat))], H := fun s => [.fence, .cells 79 [i64 0, i64 0, i64 0, i64 0, .nils], .cells 79 [i64 (nodeB b).e.slot, i64 (nodeB b).e.gen, i64 (nodeB b).e.key, i64 (nodeB b).e.value, .sl 3 [] 0 1 0 s.1 s.2], .row 3 1 s.2 s.1 (fun i => [i64 (numA b (24 + 2 * (i : Nat)) 2)])], ρ₁ := kidRen2, ρ₂ := kidRen2 }
theorem refGetNodeC_ok : CtrOk getNodeC := rowJC_ok fun _ _ _ => ⟨⟨rfl, rfl, rfl, rfl, rfl, trivial⟩, rfl, trivial⟩
theorem ref_piece {l : List Nat} {a n : Nat} (hn : 1 ≤ n) (h8 : n ≤ 8) (h : a + n ≤ l.length) : readN ((l.take (a + n)).drop a) = getN l (a : Int) (n : Int) := by
  have e : (l.take (a + n)).drop a = (l.drop a).take n := by rw [List.drop_take]; congr 1; omega
  rw [e, getN_piece hn h8 h, readN, List.take_take, Nat.min_eq_right h8]
theorem refGetNodeV : (
 let q1 : Prop := true = true ∧ NilNil ∧ (0 : Nat) = 0; 
 let q2 : Prop := Tr 1 ((0 : Int) = 0) ∧ Tr 1 ((0 : Int) = 0) ∧ Tr 1 ((0 : Int) = 0) ∧ Tr 1 ((0 : Int) = 0) ∧ Tr 1 True; 
 let q3 : Prop := (79 : TypeId) = 79; 
 let q4 : Prop := (3 : TypeId) = 3; 
 let q5 : Nat := (TI.mk (TK.int IntKind.i64) 1 8 (ZL.cons (Value.int IntKind.i64 0) ZL.nil) false).size; ∀ (x : List Nat), 
 let q6 : Prop := Exx Nat fun y => ((((Tr 1 ((0 : Int) = (getNodeT x).e.slot) ∧ Tr 1 ((0 : Int) = (getNodeT x).e.gen) ∧ Tr 1 ((0 : Int) = (getNodeT x).e.key) ∧ Tr 1 ((0 : Int) = (getNodeT x).e.value) ∧ ((getNodeT x).kids.length = 0 ∧ y = 0) ∧ True) ∧ false = decide (isNode x) ∧ True) ∧ True) ∧ true = true ∧ (y = 0 ∧ (getNodeT x).kids.length = 0) ∧ True) ∧ (getNodeT x).kids.length ≤ y ∧ y ≤ 9223372036854775807; 
 let q8 : Prop := (1 : Nat) = 1 ∧ x.length = x.length ∧ ∀ (i : Nat), 
 let q7 : List AV := [AV.int .u8 (↑(x.getD i 0) : Int)]; i < x.length → q7 = q7; 
 let q9 : Int := (↑(x.getD 5 0) : Int); Oct x → Exx (List Nat) fun x_1 => (((x.length = x_1.length ∧ ∀ (i : Nat), i < x_1.length → [AV.int .u8 (↑(x.getD i 0) : Int)] = [AV.int .u8 (↑(x_1.getD i 0) : Int)]) ∧ True) ∧ true = true ∧ True) ∧ Oct x_1 ∧ ∀ (y : Unit), True → BC (!decide (rightP x_1)) q6 (BC (!decide ((↑(kindN x_1) : Int) = (1 : Int))) q6 (BC (decide ((12 : Int) < (↑(tagN x_1) : Int))) q6 ((0 : Int) ≤ (20 : Int) ∧ (0 : Int) ≤ (16 : Int) ∧ ((16 : Int).toNat ≤ (20 : Int).toNat ∧ Int.toNat 20 ≤ (cstr (bodyL x_1)).length) ∧ (0 : Int) ≤ (24 : Int) ∧ (0 : Int) ≤ (20 : Int) ∧ ((20 : Int).toNat ≤ (24 : Int).toNat ∧ Int.toNat 24 ≤ (cstr (bodyL x_1)).length) ∧ (0 : Int) ≤ (8 : Int) ∧ ((0 : Nat) ≤ (8 : Int).toNat ∧ Int.toNat 8 ≤ (cstr (bodyL x_1)).length) ∧ (0 : Int) ≤ (16 : Int) ∧ (0 : Int) ≤ (8 : Int) ∧ ((8 : Int).toNat ≤ (16 : Int).toNat ∧ Int.toNat 16 ≤ (cstr (bodyL x_1)).length) ∧ (Exx (List Nat) fun x_2 => ((List.drop (Int.toNat 16) (List.take (Int.toNat 20) (cstr (bodyL x_1))) = cstr x_2 ∧ True) ∧ true = true ∧ True) ∧ Oct x_2 ∧ ∀ (y : Unit), True → (Exx (List Nat) fun x_3 => ((List.drop (Int.toNat 20) (List.take (Int.toNat 24) (cstr (bodyL x_1))) = cstr x_3 ∧ True) ∧ true = true ∧ True) ∧ Oct x_3 ∧ ∀ (y : Unit), True → (Exx (List Nat) fun x_4 => 
 let q24 : Prop := Exx (List Nat) fun x_5 => ((List.drop (Int.toNat 8) (List.take (Int.toNat 16) (cstr (bodyL x_1))) = cstr x_5 ∧ True) ∧ true = true ∧ True) ∧ Oct x_5 ∧ ∀ (y : Unit), True → Exx (Nat × Nat → Prop) fun I => Exx (Nat × Nat → Nat) fun m => (Exx (Nat × Nat) fun t => I t ∧ (q8 ∧ Tr 1 (q1 ∧ Tr 2 (Tr 1 ((↑(tagN x_1) : Int) = q9) ∧ cstr (bodyL x_1) = cstr (List.drop 8 x) ∧ Tr 1 (q1 ∧ Tr 1 ((0 : Int) = (↑t.1 : Int)) ∧ Tr 64 True)))) ∧ true = true ∧ ((79 : Nat) = (79 : TypeId) ∧ q2) ∧ ((79 : Nat) = (79 : TypeId) ∧ Tr 1 (IntKind.i64.wrap (↑(readN x_2) : Int) = (nodeB x).e.slot) ∧ Tr 1 (IntKind.i64.wrap (↑(readN x_3) : Int) = (nodeB x).e.gen) ∧ Tr 1 (IntKind.i64.wrap (↑(readN x_4) : Int) = (nodeB x).e.key) ∧ Tr 1 (IntKind.i64.wrap (↑(readN x_5) : Int) = (nodeB x).e.value) ∧ (t.1 = 0 ∧ t.2 = 0) ∧ True) ∧ (t.2 = 0 ∧ t.1 = 0) ∧ True) ∧ ∀ (t : Nat × Nat), 
 let q10 : Int := 2 * (↑t.1 : Int); 
 let q11 : Prop := I64 q10; 
 let q12 : Int := 24 + q10; 
 let q13 : Int := 26 + q10; 
 let q14 : Nat := q12.toNat; 
 let q15 : Nat := q13.toNat; 
 let q16 : Nat := t.1 + 1; 
 let q17 : Int := (↑t.1 : Int) + 1; I t → BC (decide ((↑t.1 : Int) < q9)) (q11 ∧ I64 q12 ∧ q11 ∧ I64 q13 ∧ (0 : Int) ≤ q13 ∧ (0 : Int) ≤ q12 ∧ (q14 ≤ q15 ∧ q15 ≤ (cstr (List.drop 8 x)).length) ∧ (Exx (List Nat) fun x_6 => ((List.drop q14 (List.take q15 (cstr (List.drop 8 x))) = cstr x_6 ∧ True) ∧ true = true ∧ True) ∧ Oct x_6 ∧ ∀ (y : Unit), True → (0 : Nat) + (1 : Nat) ≤ (1 : Nat) ∧ true = true ∧ (t.1 ≤ t.1 ∧ t.2 = t.2) ∧ (q16 ≤ 9223372036854775807 ∧ q16 * 8 ≤ 140737488355328) ∧ ∀ (cap : Nat), q16 ≤ cap ∧ cap ≤ 9223372036854775807 → I64 q17 ∧ Exx (Nat × Nat) fun t' => (I t' ∧ m t' < m t) ∧ (q8 ∧ Tr 1 (q1 ∧ Tr 2 (Tr 1 (q9 = q9) ∧ cstr (List.drop 8 x) = cstr (List.drop 8 x) ∧ Tr 1 (q1 ∧ Tr 1 (q17 = (↑t'.fst : Int)) ∧ Tr 64 True)))) ∧ true = true ∧ (q3 ∧ q2) ∧ (q3 ∧ Tr 1 ((nodeB x).e.slot = (nodeB x).e.slot) ∧ Tr 1 ((nodeB x).e.gen = (nodeB x).e.gen) ∧ Tr 1 ((nodeB x).e.key = (nodeB x).e.key) ∧ Tr 1 ((nodeB x).e.value = (nodeB x).e.value) ∧ (true = true ∧ NilNil ∧ (0 : Nat) = 0 ∧ (1 : Nat) = 1 ∧ (0 : Nat) = 0 ∧ q16 = t'.fst ∧ cap = t'.snd) ∧ True) ∧ (q4 ∧ (1 : Nat) = 1 ∧ cap = t'.snd ∧ t'.fst ≤ q16 ∧ ∀ (i : Nat), 
 let q18 : List AV := [AV.int .i64 (numA x (24 + 2 * (↑i : Int)) 2)]; 
 let q19 : Nat := 0 + (i - t.1); i < t'.fst → (if i < t.1 then q18 else [AV.int .i64 (if q19 = 0 * 1 / 1 then IntKind.i64.wrap (↑(readN x_6) : Int) else 0)]) = q18) ∧ True) ∧ Exx (List Nat) fun x_6 => 
 let q22 : Prop := (0 : Nat) + (1 : Nat) ≤ (1 : Nat) ∧ true = true ∧ (t.1 ≤ t.1 ∧ t.2 = t.2) ∧ (q16 ≤ 9223372036854775807 ∧ q16 * 8 ≤ 140737488355328) ∧ ∀ (cap : Nat), q16 ≤ cap ∧ cap ≤ 9223372036854775807 → I64 q17 ∧ Exx (Nat × Nat) fun t' => (I t' ∧ m t' < m t) ∧ (q8 ∧ Tr 1 (q1 ∧ Tr 2 (Tr 1 (q9 = q9) ∧ cstr (List.drop 8 x) = cstr (List.drop 8 x) ∧ Tr 1 (q1 ∧ Tr 1 (q17 = (↑t'.fst : Int)) ∧ Tr 64 True)))) ∧ true = true ∧ (q3 ∧ q2) ∧ (q3 ∧ Tr 1 ((nodeB x).e.slot = (nodeB x).e.slot) ∧ Tr 1 ((nodeB x).e.gen = (nodeB x).e.gen) ∧ Tr 1 ((nodeB x).e.key = (nodeB x).e.key) ∧ Tr 1 ((nodeB x).e.value = (nodeB x).e.value) ∧ (true = true ∧ NilNil ∧ (0 : Nat) = 0 ∧ (1 : Nat) = 1 ∧ (0 : Nat) = 0 ∧ q16 = t'.fst ∧ cap = t'.snd) ∧ True) ∧ (q4 ∧ (1 : Nat) = 1 ∧ cap = t'.snd ∧ t'.fst ≤ q16 ∧ ∀ (i : Nat), 
 let q20 : List AV := [AV.int .i64 (numA x (24 + 2 * (↑i : Int)) 2)]; 
 let q21 : Nat := 0 + (i - t.1); i < t'.fst → (if i < t.1 then q20 else [AV.int .i64 (if q21 = 0 * 1 / 1 then IntKind.i64.wrap (↑(readN x_6) : Int) else 0)]) = q20) ∧ True; ((List.drop q14 (List.take q15 (cstr (List.drop 8 x))) = cstr x_6 ∧ True) ∧ true = true ∧ True) ∧ Oct x_6 ∧ ∀ (y : Unit), True → q22 ∧ q22) (Exx NodeT fun x_6 => 
 let q23 : Prop := 0 + t.1 ≤ t.1; (((Tr 1 ((nodeB x).e.slot = x_6.e.slot) ∧ Tr 1 ((nodeB x).e.gen = x_6.e.gen) ∧ Tr 1 ((nodeB x).e.key = x_6.e.key) ∧ Tr 1 ((nodeB x).e.value = x_6.e.value) ∧ (q23 ∧ t.1 = x_6.kids.length ∧ ∀ (i : Nat), i < x_6.kids.length → [AV.int .i64 (numA x (24 + 2 * (↑(0 + i) : Int)) 2)] = [AV.int .i64 (x_6.kids.getD i 0)]) ∧ True) ∧ True) ∧ true = true ∧ True) ∧ NodeI x_6 ∧ ∀ (y : Unit), True → BC (!decide (nodeOk x_6)) q6 (Exx (List Nat) fun m => (x.length = m.length ∧ ∀ (i : Nat), i < m.length → [AV.int .u8 (↑(x.getD i 0) : Int)] = [AV.int .u8 (↑(m.getD i 0) : Int)]) ∧ (∀ (c : Nat), c ∈ m → c < 256) ∧ Exx NodeT fun x_7 => (((Tr 1 ((nodeB x).e.slot = x_7.e.slot) ∧ Tr 1 ((nodeB x).e.gen = x_7.e.gen) ∧ Tr 1 ((nodeB x).e.key = x_7.e.key) ∧ Tr 1 ((nodeB x).e.value = x_7.e.value) ∧ (q23 ∧ t.1 = x_7.kids.length ∧ ∀ (i : Nat), i < x_7.kids.length → [AV.int .i64 (numA x (24 + 2 * (↑(0 + i) : Int)) 2)] = [AV.int .i64 (x_7.kids.getD i 0)]) ∧ True) ∧ True) ∧ true = true ∧ True) ∧ (nodeOk x_7 ∧ NodeI x_7) ∧ ∀ (y : Unit), True → BC (!decide (cstr (putNodeL x_7) = cstr m)) q6 (Exx Nat fun y => ((((Tr 1 ((nodeB x).e.slot = (getNodeT x).e.slot) ∧ Tr 1 ((nodeB x).e.gen = (getNodeT x).e.gen) ∧ Tr 1 ((nodeB x).e.key = (getNodeT x).e.key) ∧ Tr 1 ((nodeB x).e.value = (getNodeT x).e.value) ∧ (true = true ∧ NilNil ∧ (0 : Nat) = 0 ∧ (1 : Nat) = 1 ∧ (0 : Nat) = 0 ∧ t.1 = (getNodeT x).kids.length ∧ t.2 = y) ∧ True) ∧ true = decide (isNode x) ∧ True) ∧ True) ∧ true = true ∧ (q4 ∧ (1 : Nat) = 1 ∧ t.2 = y ∧ (getNodeT x).kids.length ≤ t.1 ∧ ∀ (i : Nat), i < (getNodeT x).kids.length → [AV.int .i64 (numA x (24 + 2 * (↑i : Int)) 2)] = [AV.int .i64 ((getNodeT x).kids.getD i 0)]) ∧ True) ∧ (getNodeT x).kids.length ≤ y ∧ y ≤ 9223372036854775807))); ((List.drop 0 (List.take (Int.toNat 8) (cstr (bodyL x_1))) = cstr x_4 ∧ True) ∧ true = true ∧ True) ∧ Oct x_4 ∧ ∀ (y : Unit), True → q24 ∧ q24) ∧ Exx (List Nat) fun x_4 => ((List.drop 0 (List.take (Int.toNat 8) (cstr (bodyL x_1))) = cstr x_4 ∧ True) ∧ true = true ∧ True) ∧ Oct x_4 ∧ ∀ (y : Unit), True → Exx (List Nat) fun x_5 => ((List.drop (Int.toNat 8) (List.take (Int.toNat 16) (cstr (bodyL x_1))) = cstr x_5 ∧ True) ∧ true = true ∧ True) ∧ Oct x_5 ∧ ∀ (y : Unit), True → Exx (Nat × Nat → Prop) fun I => Exx (Nat × Nat → Nat) fun m => (Exx (Nat × Nat) fun t => I t ∧ (q8 ∧ Tr 1 (q1 ∧ Tr 2 (Tr 1 ((↑(tagN x_1) : Int) = q9) ∧ cstr (bodyL x_1) = cstr (List.drop 8 x) ∧ Tr 1 (q1 ∧ Tr 1 ((0 : Int) = (↑t.1 : Int)) ∧ Tr 64 True)))) ∧ true = true ∧ ((79 : Nat) = (79 : TypeId) ∧ q2) ∧ ((79 : Nat) = (79 : TypeId) ∧ Tr 1 (IntKind.i64.wrap (↑(readN x_2) : Int) = (nodeB x).e.slot) ∧ Tr 1 (IntKind.i64.wrap (↑(readN x_3) : Int) = (nodeB x).e.gen) ∧ Tr 1 (IntKind.i64.wrap (↑(readN x_4) : Int) = (nodeB x).e.key) ∧ Tr 1 (IntKind.i64.wrap (↑(readN x_5) : Int) = (nodeB x).e.value) ∧ (t.1 = 0 ∧ t.2 = 0) ∧ True) ∧ (t.2 = 0 ∧ t.1 = 0) ∧ True) ∧ ∀ (t : Nat × Nat), 
 let q25 : Int := 2 * (↑t.1 : Int); 
 let q26 : Prop := I64 q25; 
 let q27 : Int := 24 + q25; 
 let q28 : Int := 26 + q25; 
 let q29 : Nat := q27.toNat; 
 let q30 : Nat := q28.toNat; 
 let q31 : Nat := t.1 + 1; 
 let q32 : Int := (↑t.1 : Int) + 1; I t → BC (decide ((↑t.1 : Int) < q9)) (q26 ∧ I64 q27 ∧ q26 ∧ I64 q28 ∧ (0 : Int) ≤ q28 ∧ (0 : Int) ≤ q27 ∧ (q29 ≤ q30 ∧ q30 ≤ (cstr (List.drop 8 x)).length) ∧ (Exx (List Nat) fun x_6 => ((List.drop q29 (List.take q30 (cstr (List.drop 8 x))) = cstr x_6 ∧ True) ∧ true = true ∧ True) ∧ Oct x_6 ∧ ∀ (y : Unit), True → (0 : Nat) + (1 : Nat) ≤ (1 : Nat) ∧ true = true ∧ (t.1 ≤ t.1 ∧ t.2 = t.2) ∧ (q31 ≤ 9223372036854775807 ∧ q31 * 8 ≤ 140737488355328) ∧ ∀ (cap : Nat), q31 ≤ cap ∧ cap ≤ 9223372036854775807 → I64 q32 ∧ Exx (Nat × Nat) fun t' => (I t' ∧ m t' < m t) ∧ (q8 ∧ Tr 1 (q1 ∧ Tr 2 (Tr 1 (q9 = q9) ∧ cstr (List.drop 8 x) = cstr (List.drop 8 x) ∧ Tr 1 (q1 ∧ Tr 1 (q32 = (↑t'.fst : Int)) ∧ Tr 64 True)))) ∧ true = true ∧ (q3 ∧ q2) ∧ (q3 ∧ Tr 1 ((nodeB x).e.slot = (nodeB x).e.slot) ∧ Tr 1 ((nodeB x).e.gen = (nodeB x).e.gen) ∧ Tr 1 ((nodeB x).e.key = (nodeB x).e.key) ∧ Tr 1 ((nodeB x).e.value = (nodeB x).e.value) ∧ (true = true ∧ NilNil ∧ (0 : Nat) = 0 ∧ (1 : Nat) = 1 ∧ (0 : Nat) = 0 ∧ q31 = t'.fst ∧ cap = t'.snd) ∧ True) ∧ (q4 ∧ (1 : Nat) = 1 ∧ cap = t'.snd ∧ t'.fst ≤ q31 ∧ ∀ (i : Nat), 
 let q33 : List AV := [AV.int .i64 (numA x (24 + 2 * (↑i : Int)) 2)]; 
 let q34 : Nat := 0 + (i - t.1); i < t'.fst → (if i < t.1 then q33 else [AV.int .i64 (if q34 = 0 * 1 / 1 then IntKind.i64.wrap (↑(readN x_6) : Int) else 0)]) = q33) ∧ True) ∧ Exx (List Nat) fun x_6 => 
 let q37 : Prop := (0 : Nat) + (1 : Nat) ≤ (1 : Nat) ∧ true = true ∧ (t.1 ≤ t.1 ∧ t.2 = t.2) ∧ (q31 ≤ 9223372036854775807 ∧ q31 * 8 ≤ 140737488355328) ∧ ∀ (cap : Nat), q31 ≤ cap ∧ cap ≤ 9223372036854775807 → I64 q32 ∧ Exx (Nat × Nat) fun t' => (I t' ∧ m t' < m t) ∧ (q8 ∧ Tr 1 (q1 ∧ Tr 2 (Tr 1 (q9 = q9) ∧ cstr (List.drop 8 x) = cstr (List.drop 8 x) ∧ Tr 1 (q1 ∧ Tr 1 (q32 = (↑t'.fst : Int)) ∧ Tr 64 True)))) ∧ true = true ∧ (q3 ∧ q2) ∧ (q3 ∧ Tr 1 ((nodeB x).e.slot = (nodeB x).e.slot) ∧ Tr 1 ((nodeB x).e.gen = (nodeB x).e.gen) ∧ Tr 1 ((nodeB x).e.key = (nodeB x).e.key) ∧ Tr 1 ((nodeB x).e.value = (nodeB x).e.value) ∧ (true = true ∧ NilNil ∧ (0 : Nat) = 0 ∧ (1 : Nat) = 1 ∧ (0 : Nat) = 0 ∧ q31 = t'.fst ∧ cap = t'.snd) ∧ True) ∧ (q4 ∧ (1 : Nat) = 1 ∧ cap = t'.snd ∧ t'.fst ≤ q31 ∧ ∀ (i : Nat), 
 let q35 : List AV := [AV.int .i64 (numA x (24 + 2 * (↑i : Int)) 2)]; 
 let q36 : Nat := 0 + (i - t.1); i < t'.fst → (if i < t.1 then q35 else [AV.int .i64 (if q36 = 0 * 1 / 1 then IntKind.i64.wrap (↑(readN x_6) : Int) else 0)]) = q35) ∧ True; ((List.drop q29 (List.take q30 (cstr (List.drop 8 x))) = cstr x_6 ∧ True) ∧ true = true ∧ True) ∧ Oct x_6 ∧ ∀ (y : Unit), True → q37 ∧ q37) (Exx NodeT fun x_6 => 
 let q38 : Prop := 0 + t.1 ≤ t.1; (((Tr 1 ((nodeB x).e.slot = x_6.e.slot) ∧ Tr 1 ((nodeB x).e.gen = x_6.e.gen) ∧ Tr 1 ((nodeB x).e.key = x_6.e.key) ∧ Tr 1 ((nodeB x).e.value = x_6.e.value) ∧ (q38 ∧ t.1 = x_6.kids.length ∧ ∀ (i : Nat), i < x_6.kids.length → [AV.int .i64 (numA x (24 + 2 * (↑(0 + i) : Int)) 2)] = [AV.int .i64 (x_6.kids.getD i 0)]) ∧ True) ∧ True) ∧ true = true ∧ True) ∧ NodeI x_6 ∧ ∀ (y : Unit), True → BC (!decide (nodeOk x_6)) q6 (Exx (List Nat) fun m => (x.length = m.length ∧ ∀ (i : Nat), i < m.length → [AV.int .u8 (↑(x.getD i 0) : Int)] = [AV.int .u8 (↑(m.getD i 0) : Int)]) ∧ (∀ (c : Nat), c ∈ m → c < 256) ∧ Exx NodeT fun x_7 => (((Tr 1 ((nodeB x).e.slot = x_7.e.slot) ∧ Tr 1 ((nodeB x).e.gen = x_7.e.gen) ∧ Tr 1 ((nodeB x).e.key = x_7.e.key) ∧ Tr 1 ((nodeB x).e.value = x_7.e.value) ∧ (q38 ∧ t.1 = x_7.kids.length ∧ ∀ (i : Nat), i < x_7.kids.length → [AV.int .i64 (numA x (24 + 2 * (↑(0 + i) : Int)) 2)] = [AV.int .i64 (x_7.kids.getD i 0)]) ∧ True) ∧ True) ∧ true = true ∧ True) ∧ (nodeOk x_7 ∧ NodeI x_7) ∧ ∀ (y : Unit), True → BC (!decide (cstr (putNodeL x_7) = cstr m)) q6 (Exx Nat fun y => ((((Tr 1 ((nodeB x).e.slot = (getNodeT x).e.slot) ∧ Tr 1 ((nodeB x).e.gen = (getNodeT x).e.gen) ∧ Tr 1 ((nodeB x).e.key = (getNodeT x).e.key) ∧ Tr 1 ((nodeB x).e.value = (getNodeT x).e.value) ∧ (true = true ∧ NilNil ∧ (0 : Nat) = 0 ∧ (1 : Nat) = 1 ∧ (0 : Nat) = 0 ∧ t.1 = (getNodeT x).kids.length ∧ t.2 = y) ∧ True) ∧ true = decide (isNode x) ∧ True) ∧ True) ∧ true = true ∧ (q4 ∧ (1 : Nat) = 1 ∧ t.2 = y ∧ (getNodeT x).kids.length ≤ t.1 ∧ ∀ (i : Nat), i < (getNodeT x).kids.length → [AV.int .i64 (numA x (24 + 2 * (↑i : Int)) 2)] = [AV.int .i64 ((getNodeT x).kids.getD i 0)]) ∧ True) ∧ (getNodeT x).kids.length ≤ y ∧ y ≤ 9223372036854775807)))) ∧ Exx (List Nat) fun x_3 => ((List.drop (Int.toNat 20) (List.take (Int.toNat 24) (cstr (bodyL x_1))) = cstr x_3 ∧ True) ∧ true = true ∧ True) ∧ Oct x_3 ∧ ∀ (y : Unit), True → Exx (List Nat) fun x_4 => ((List.drop 0 (List.take (Int.toNat 8) (cstr (bodyL x_1))) = cstr x_4 ∧ True) ∧ true = true ∧ True) ∧ Oct x_4 ∧ ∀ (y : Unit), True → Exx (List Nat) fun x_5 => ((List.drop (Int.toNat 8) (List.take (Int.toNat 16) (cstr (bodyL x_1))) = cstr x_5 ∧ True) ∧ true = true ∧ True) ∧ Oct x_5 ∧ ∀ (y : Unit), True → Exx (Nat × Nat → Prop) fun I => Exx (Nat × Nat → Nat) fun m => (Exx (Nat × Nat) fun t => I t ∧ (q8 ∧ Tr 1 (q1 ∧ Tr 2 (Tr 1 ((↑(tagN x_1) : Int) = q9) ∧ cstr (bodyL x_1) = cstr (List.drop 8 x) ∧ Tr 1 (q1 ∧ Tr 1 ((0 : Int) = (↑t.1 : Int)) ∧ Tr 64 True)))) ∧ true = true ∧ ((79 : Nat) = (79 : TypeId) ∧ q2) ∧ ((79 : Nat) = (79 : TypeId) ∧ Tr 1 (IntKind.i64.wrap (↑(readN x_2) : Int) = (nodeB x).e.slot) ∧ Tr 1 (IntKind.i64.wrap (↑(readN x_3) : Int) = (nodeB x).e.gen) ∧ Tr 1 (IntKind.i64.wrap (↑(readN x_4) : Int) = (nodeB x).e.key) ∧ Tr 1 (IntKind.i64.wrap (↑(readN x_5) : Int) = (nodeB x).e.value) ∧ (t.1 = 0 ∧ t.2 = 0) ∧ True) ∧ (t.2 = 0 ∧ t.1 = 0) ∧ True) ∧ ∀ (t : Nat × Nat), 
 let q39 : Int := 2 * (↑t.1 : Int); 
 let q40 : Prop := I64 q39; 
 let q41 : Int := 24 + q39; 
 let q42 : Int := 26 + q39; 
 let q43 : Nat := q41.toNat; 
 let q44 : Nat := q42.toNat; 
 let q45 : Nat := t.1 + 1; 
 let q46 : Int := (↑t.1 : Int) + 1; I t → BC (decide ((↑t.1 : Int) < q9)) (q40 ∧ I64 q41 ∧ q40 ∧ I64 q42 ∧ (0 : Int) ≤ q42 ∧ (0 : Int) ≤ q41 ∧ (q43 ≤ q44 ∧ q44 ≤ (cstr (List.drop 8 x)).length) ∧ (Exx (List Nat) fun x_6 => ((List.drop q43 (List.take q44 (cstr (List.drop 8 x))) = cstr x_6 ∧ True) ∧ true = true ∧ True) ∧ Oct x_6 ∧ ∀ (y : Unit), True → (0 : Nat) + (1 : Nat) ≤ (1 : Nat) ∧ true = true ∧ (t.1 ≤ t.1 ∧ t.2 = t.2) ∧ (q45 ≤ 9223372036854775807 ∧ q45 * 8 ≤ 140737488355328) ∧ ∀ (cap : Nat), q45 ≤ cap ∧ cap ≤ 9223372036854775807 → I64 q46 ∧ Exx (Nat × Nat) fun t' => (I t' ∧ m t' < m t) ∧ (q8 ∧ Tr 1 (q1 ∧ Tr 2 (Tr 1 (q9 = q9) ∧ cstr (List.drop 8 x) = cstr (List.drop 8 x) ∧ Tr 1 (q1 ∧ Tr 1 (q46 = (↑t'.fst : Int)) ∧ Tr 64 True)))) ∧ true = true ∧ (q3 ∧ q2) ∧ (q3 ∧ Tr 1 ((nodeB x).e.slot = (nodeB x).e.slot) ∧ Tr 1 ((nodeB x).e.gen = (nodeB x).e.gen) ∧ Tr 1 ((nodeB x).e.key = (nodeB x).e.key) ∧ Tr 1 ((nodeB x).e.value = (nodeB x).e.value) ∧ (true = true ∧ NilNil ∧ (0 : Nat) = 0 ∧ (1 : Nat) = 1 ∧ (0 : Nat) = 0 ∧ q45 = t'.fst ∧ cap = t'.snd) ∧ True) ∧ (q4 ∧ (1 : Nat) = 1 ∧ cap = t'.snd ∧ t'.fst ≤ q45 ∧ ∀ (i : Nat), 
 let q47 : List AV := [AV.int .i64 (numA x (24 + 2 * (↑i : Int)) 2)]; 
 let q48 : Nat := 0 + (i - t.1); i < t'.fst → (if i < t.1 then q47 else [AV.int .i64 (if q48 = 0 * 1 / 1 then IntKind.i64.wrap (↑(readN x_6) : Int) else 0)]) = q47) ∧ True) ∧ Exx (List Nat) fun x_6 => 
 let q51 : Prop := (0 : Nat) + (1 : Nat) ≤ (1 : Nat) ∧ true = true ∧ (t.1 ≤ t.1 ∧ t.2 = t.2) ∧ (q45 ≤ 9223372036854775807 ∧ q45 * 8 ≤ 140737488355328) ∧ ∀ (cap : Nat), q45 ≤ cap ∧ cap ≤ 9223372036854775807 → I64 q46 ∧ Exx (Nat × Nat) fun t' => (I t' ∧ m t' < m t) ∧ (q8 ∧ Tr 1 (q1 ∧ Tr 2 (Tr 1 (q9 = q9) ∧ cstr (List.drop 8 x) = cstr (List.drop 8 x) ∧ Tr 1 (q1 ∧ Tr 1 (q46 = (↑t'.fst : Int)) ∧ Tr 64 True)))) ∧ true = true ∧ (q3 ∧ q2) ∧ (q3 ∧ Tr 1 ((nodeB x).e.slot = (nodeB x).e.slot) ∧ Tr 1 ((nodeB x).e.gen = (nodeB x).e.gen) ∧ Tr 1 ((nodeB x).e.key = (nodeB x).e.key) ∧ Tr 1 ((nodeB x).e.value = (nodeB x).e.value) ∧ (true = true ∧ NilNil ∧ (0 : Nat) = 0 ∧ (1 : Nat) = 1 ∧ (0 : Nat) = 0 ∧ q45 = t'.fst ∧ cap = t'.snd) ∧ True) ∧ (q4 ∧ (1 : Nat) = 1 ∧ cap = t'.snd ∧ t'.fst ≤ q45 ∧ ∀ (i : Nat), 
 let q49 : List AV := [AV.int .i64 (numA x (24 + 2 * (↑i : Int)) 2)]; 
 let q50 : Nat := 0 + (i - t.1); i < t'.fst → (if i < t.1 then q49 else [AV.int .i64 (if q50 = 0 * 1 / 1 then IntKind.i64.wrap (↑(readN x_6) : Int) else 0)]) = q49) ∧ True; ((List.drop q43 (List.take q44 (cstr (List.drop 8 x))) = cstr x_6 ∧ True) ∧ true = true ∧ True) ∧ Oct x_6 ∧ ∀ (y : Unit), True → q51 ∧ q51) (Exx NodeT fun x_6 => 
 let q52 : Prop := 0 + t.1 ≤ t.1; (((Tr 1 ((nodeB x).e.slot = x_6.e.slot) ∧ Tr 1 ((nodeB x).e.gen = x_6.e.gen) ∧ Tr 1 ((nodeB x).e.key = x_6.e.key) ∧ Tr 1 ((nodeB x).e.value = x_6.e.value) ∧ (q52 ∧ t.1 = x_6.kids.length ∧ ∀ (i : Nat), i < x_6.kids.length → [AV.int .i64 (numA x (24 + 2 * (↑(0 + i) : Int)) 2)] = [AV.int .i64 (x_6.kids.getD i 0)]) ∧ True) ∧ True) ∧ true = true ∧ True) ∧ NodeI x_6 ∧ ∀ (y : Unit), True → BC (!decide (nodeOk x_6)) q6 (Exx (List Nat) fun m => (x.length = m.length ∧ ∀ (i : Nat), i < m.length → [AV.int .u8 (↑(x.getD i 0) : Int)] = [AV.int .u8 (↑(m.getD i 0) : Int)]) ∧ (∀ (c : Nat), c ∈ m → c < 256) ∧ Exx NodeT fun x_7 => (((Tr 1 ((nodeB x).e.slot = x_7.e.slot) ∧ Tr 1 ((nodeB x).e.gen = x_7.e.gen) ∧ Tr 1 ((nodeB x).e.key = x_7.e.key) ∧ Tr 1 ((nodeB x).e.value = x_7.e.value) ∧ (q52 ∧ t.1 = x_7.kids.length ∧ ∀ (i : Nat), i < x_7.kids.length → [AV.int .i64 (numA x (24 + 2 * (↑(0 + i) : Int)) 2)] = [AV.int .i64 (x_7.kids.getD i 0)]) ∧ True) ∧ True) ∧ true = true ∧ True) ∧ (nodeOk x_7 ∧ NodeI x_7) ∧ ∀ (y : Unit), True → BC (!decide (cstr (putNodeL x_7) = cstr m)) q6 (Exx Nat fun y => ((((Tr 1 ((nodeB x).e.slot = (getNodeT x).e.slot) ∧ Tr 1 ((nodeB x).e.gen = (getNodeT x).e.gen) ∧ Tr 1 ((nodeB x).e.key = (getNodeT x).e.key) ∧ Tr 1 ((nodeB x).e.value = (getNodeT x).e.value) ∧ (true = true ∧ NilNil ∧ (0 : Nat) = 0 ∧ (1 : Nat) = 1 ∧ (0 : Nat) = 0 ∧ t.1 = (getNodeT x).kids.length ∧ t.2 = y) ∧ True) ∧ true = decide (isNode x) ∧ True) ∧ True) ∧ true = true ∧ (q4 ∧ (1 : Nat) = 1 ∧ t.2 = y ∧ (getNodeT x).kids.length ≤ t.1 ∧ ∀ (i : Nat), i < (getNodeT x).kids.length → [AV.int .i64 (numA x (24 + 2 * (↑i : Int)) 2)] = [AV.int .i64 ((getNodeT x).kids.getD i 0)]) ∧ True) ∧ (getNodeT x).kids.length ≤ y ∧ y ≤ 9223372036854775807)))) ∧ Exx (List Nat) fun x_2 => ((List.drop (Int.toNat 16) (List.take (Int.toNat 20) (cstr (bodyL x_1))) = cstr x_2 ∧ True) ∧ true = true ∧ True) ∧ Oct x_2 ∧ ∀ (y : Unit), True → Exx (List Nat) fun x_3 => ((List.drop (Int.toNat 20) (List.take (Int.toNat 24) (cstr (bodyL x_1))) = cstr x_3 ∧ True) ∧ true = true ∧ True) ∧ Oct x_3 ∧ ∀ (y : Unit), True → Exx (List Nat) fun x_4 => ((List.drop 0 (List.take (Int.toNat 8) (cstr (bodyL x_1))) = cstr x_4 ∧ True) ∧ true = true ∧ True) ∧ Oct x_4 ∧ ∀ (y : Unit), True → Exx (List Nat) fun x_5 => ((List.drop (Int.toNat 8) (List.take (Int.toNat 16) (cstr (bodyL x_1))) = cstr x_5 ∧ True) ∧ true = true ∧ True) ∧ Oct x_5 ∧ ∀ (y : Unit), True → Exx (Nat × Nat → Prop) fun I => Exx (Nat × Nat → Nat) fun m => (Exx (Nat × Nat) fun t => I t ∧ (q8 ∧ Tr 1 (q1 ∧ Tr 2 (Tr 1 ((↑(tagN x_1) : Int) = q9) ∧ cstr (bodyL x_1) = cstr (List.drop 8 x) ∧ Tr 1 (q1 ∧ Tr 1 ((0 : Int) = (↑t.1 : Int)) ∧ Tr 64 True)))) ∧ true = true ∧ ((79 : Nat) = (79 : TypeId) ∧ q2) ∧ ((79 : Nat) = (79 : TypeId) ∧ Tr 1 (IntKind.i64.wrap (↑(readN x_2) : Int) = (nodeB x).e.slot) ∧ Tr 1 (IntKind.i64.wrap (↑(readN x_3) : Int) = (nodeB x).e.gen) ∧ Tr 1 (IntKind.i64.wrap (↑(readN x_4) : Int) = (nodeB x).e.key) ∧ Tr 1 (IntKind.i64.wrap (↑(readN x_5) : Int) = (nodeB x).e.value) ∧ (t.1 = 0 ∧ t.2 = 0) ∧ True) ∧ (t.2 = 0 ∧ t.1 = 0) ∧ True) ∧ ∀ (t : Nat × Nat), 
 let q53 : Int := 2 * (↑t.1 : Int); 
 let q54 : Prop := I64 q53; 
 let q55 : Int := 24 + q53; 
 let q56 : Int := 26 + q53; 
 let q57 : Nat := q55.toNat; 
 let q58 : Nat := q56.toNat; 
 let q59 : Nat := t.1 + 1; 
 let q60 : Int := (↑t.1 : Int) + 1; I t → BC (decide ((↑t.1 : Int) < q9)) (q54 ∧ I64 q55 ∧ q54 ∧ I64 q56 ∧ (0 : Int) ≤ q56 ∧ (0 : Int) ≤ q55 ∧ (q57 ≤ q58 ∧ q58 ≤ (cstr (List.drop 8 x)).length) ∧ (Exx (List Nat) fun x_6 => ((List.drop q57 (List.take q58 (cstr (List.drop 8 x))) = cstr x_6 ∧ True) ∧ true = true ∧ True) ∧ Oct x_6 ∧ ∀ (y : Unit), True → (0 : Nat) + (1 : Nat) ≤ (1 : Nat) ∧ true = true ∧ (t.1 ≤ t.1 ∧ t.2 = t.2) ∧ (q59 ≤ 9223372036854775807 ∧ q59 * 8 ≤ 140737488355328) ∧ ∀ (cap : Nat), q59 ≤ cap ∧ cap ≤ 9223372036854775807 → I64 q60 ∧ Exx (Nat × Nat) fun t' => (I t' ∧ m t' < m t) ∧ (q8 ∧ Tr 1 (q1 ∧ Tr 2 (Tr 1 (q9 = q9) ∧ cstr (List.drop 8 x) = cstr (List.drop 8 x) ∧ Tr 1 (q1 ∧ Tr 1 (q60 = (↑t'.fst : Int)) ∧ Tr 64 True)))) ∧ true = true ∧ (q3 ∧ q2) ∧ (q3 ∧ Tr 1 ((nodeB x).e.slot = (nodeB x).e.slot) ∧ Tr 1 ((nodeB x).e.gen = (nodeB x).e.gen) ∧ Tr 1 ((nodeB x).e.key = (nodeB x).e.key) ∧ Tr 1 ((nodeB x).e.value = (nodeB x).e.value) ∧ (true = true ∧ NilNil ∧ (0 : Nat) = 0 ∧ (1 : Nat) = 1 ∧ (0 : Nat) = 0 ∧ q59 = t'.fst ∧ cap = t'.snd) ∧ True) ∧ (q4 ∧ (1 : Nat) = 1 ∧ cap = t'.snd ∧ t'.fst ≤ q59 ∧ ∀ (i : Nat), 
 let q61 : List AV := [AV.int .i64 (numA x (24 + 2 * (↑i : Int)) 2)]; 
 let q62 : Nat := 0 + (i - t.1); i < t'.fst → (if i < t.1 then q61 else [AV.int .i64 (if q62 = 0 * 1 / 1 then IntKind.i64.wrap (↑(readN x_6) : Int) else 0)]) = q61) ∧ True) ∧ Exx (List Nat) fun x_6 => 
 let q65 : Prop := (0 : Nat) + (1 : Nat) ≤ (1 : Nat) ∧ true = true ∧ (t.1 ≤ t.1 ∧ t.2 = t.2) ∧ (q59 ≤ 9223372036854775807 ∧ q59 * 8 ≤ 140737488355328) ∧ ∀ (cap : Nat), q59 ≤ cap ∧ cap ≤ 9223372036854775807 → I64 q60 ∧ Exx (Nat × Nat) fun t' => (I t' ∧ m t' < m t) ∧ (q8 ∧ Tr 1 (q1 ∧ Tr 2 (Tr 1 (q9 = q9) ∧ cstr (List.drop 8 x) = cstr (List.drop 8 x) ∧ Tr 1 (q1 ∧ Tr 1 (q60 = (↑t'.fst : Int)) ∧ Tr 64 True)))) ∧ true = true ∧ (q3 ∧ q2) ∧ (q3 ∧ Tr 1 ((nodeB x).e.slot = (nodeB x).e.slot) ∧ Tr 1 ((nodeB x).e.gen = (nodeB x).e.gen) ∧ Tr 1 ((nodeB x).e.key = (nodeB x).e.key) ∧ Tr 1 ((nodeB x).e.value = (nodeB x).e.value) ∧ (true = true ∧ NilNil ∧ (0 : Nat) = 0 ∧ (1 : Nat) = 1 ∧ (0 : Nat) = 0 ∧ q59 = t'.fst ∧ cap = t'.snd) ∧ True) ∧ (q4 ∧ (1 : Nat) = 1 ∧ cap = t'.snd ∧ t'.fst ≤ q59 ∧ ∀ (i : Nat), 
 let q63 : List AV := [AV.int .i64 (numA x (24 + 2 * (↑i : Int)) 2)]; 
 let q64 : Nat := 0 + (i - t.1); i < t'.fst → (if i < t.1 then q63 else [AV.int .i64 (if q64 = 0 * 1 / 1 then IntKind.i64.wrap (↑(readN x_6) : Int) else 0)]) = q63) ∧ True; ((List.drop q57 (List.take q58 (cstr (List.drop 8 x))) = cstr x_6 ∧ True) ∧ true = true ∧ True) ∧ Oct x_6 ∧ ∀ (y : Unit), True → q65 ∧ q65) (Exx NodeT fun x_6 => 
 let q66 : Prop := 0 + t.1 ≤ t.1; (((Tr 1 ((nodeB x).e.slot = x_6.e.slot) ∧ Tr 1 ((nodeB x).e.gen = x_6.e.gen) ∧ Tr 1 ((nodeB x).e.key = x_6.e.key) ∧ Tr 1 ((nodeB x).e.value = x_6.e.value) ∧ (q66 ∧ t.1 = x_6.kids.length ∧ ∀ (i : Nat), i < x_6.kids.length → [AV.int .i64 (numA x (24 + 2 * (↑(0 + i) : Int)) 2)] = [AV.int .i64 (x_6.kids.getD i 0)]) ∧ True) ∧ True) ∧ true = true ∧ True) ∧ NodeI x_6 ∧ ∀ (y : Unit), True → BC (!decide (nodeOk x_6)) q6 (Exx (List Nat) fun m => (x.length = m.length ∧ ∀ (i : Nat), i < m.length → [AV.int .u8 (↑(x.getD i 0) : Int)] = [AV.int .u8 (↑(m.getD i 0) : Int)]) ∧ (∀ (c : Nat), c ∈ m → c < 256) ∧ Exx NodeT fun x_7 => (((Tr 1 ((nodeB x).e.slot = x_7.e.slot) ∧ Tr 1 ((nodeB x).e.gen = x_7.e.gen) ∧ Tr 1 ((nodeB x).e.key = x_7.e.key) ∧ Tr 1 ((nodeB x).e.value = x_7.e.value) ∧ (q66 ∧ t.1 = x_7.kids.length ∧ ∀ (i : Nat), i < x_7.kids.length → [AV.int .i64 (numA x (24 + 2 * (↑(0 + i) : Int)) 2)] = [AV.int .i64 (x_7.kids.getD i 0)]) ∧ True) ∧ True) ∧ true = true ∧ True) ∧ (nodeOk x_7 ∧ NodeI x_7) ∧ ∀ (y : Unit), True → BC (!decide (cstr (putNodeL x_7) = cstr m)) q6 (Exx Nat fun y => ((((Tr 1 ((nodeB x).e.slot = (getNodeT x).e.slot) ∧ Tr 1 ((nodeB x).e.gen = (getNodeT x).e.gen) ∧ Tr 1 ((nodeB x).e.key = (getNodeT x).e.key) ∧ Tr 1 ((nodeB x).e.value = (getNodeT x).e.value) ∧ (true = true ∧ NilNil ∧ (0 : Nat) = 0 ∧ (1 : Nat) = 1 ∧ (0 : Nat) = 0 ∧ t.1 = (getNodeT x).kids.length ∧ t.2 = y) ∧ True) ∧ true = decide (isNode x) ∧ True) ∧ True) ∧ true = true ∧ (q4 ∧ (1 : Nat) = 1 ∧ t.2 = y ∧ (getNodeT x).kids.length ≤ t.1 ∧ ∀ (i : Nat), i < (getNodeT x).kids.length → [AV.int .i64 (numA x (24 + 2 * (↑i : Int)) 2)] = [AV.int .i64 ((getNodeT x).kids.getD i 0)]) ∧ True) ∧ (getNodeT x).kids.length ≤ y ∧ y ≤ 9223372036854775807))))))) = (fnVCo tb [(29, specOf refNodeRightC), (107, specOf refOpenC), (108, specOf refIntC), (109, specOf refPutC)] Tryz.f75 refGetNodeC (fun x => { loops := [(6, refGetLA x)], loose := [(8, [2, 3]), (9, [2, 3])] }) (fun _ av _ => aggSl1 av) (fun _ => []) (fun _ _ _ _ => [])) := by kernel_rfl 

theorem refGetNode_ok : SpecOk Tryz.prog 75 (specOf refGetNodeC) := by
  refine specOko mixed tb_ok (SPok.cons refNodeRight_ok (SPok.cons refOpen_ok (SPok.cons refInt_ok (SPok.cons refPut_ok SPok.nil)))) Tryz.func75 (by decide) refGetNodeC_ok (an := (fun x => { loops := [(6, refGetLA x)], loose := [(8, [2, 3]), (9, [2, 3])] })) (σ := (fun _ av _ => aggSl1 av)) (op := (fun _ => [])) (cl := (fun _ _ _ _ => [])) ?_
  rw [← refGetNodeV]
  simp (maxSteps := 10000000) only [std, stdU, stdV, Exx, I64, Nat.reduceMul, Nat.reduceDiv, Nat.reduceAdd, Int.reduceToNat, node_ex, node_eta]
  rintro b ⟨hb, hl⟩
  refine ⟨⟨hb, hl⟩, ?_⟩
  have hno : ¬ isNode b → (0 = (getNodeT b).e.slot ∧ 0 = (getNodeT b).e.gen ∧ 0 = (getNodeT b).e.key ∧ 0 = (getNodeT b).e.value ∧ (getNodeT b).kids.length = 0 ∧ false = decide (isNode b) ∧ (getNodeT b).kids.length = 0 ∧ (getNodeT b).kids.length ≤ 0 ∧ (0 : Nat) ≤ 9223372036854775807) := fun h => by
    rw [getNodeT, if_neg h]; exact ⟨rfl, rfl, rfl, rfl, rfl, (decide_eq_false h).symm, rfl, Nat.le_refl _, by omega⟩
  refine ⟨fun h => hno (fun k => h k.1), fun hr => ⟨fun h => hno (fun k => h (by rw [kindN, if_pos hr, k.2.1]; rfl)), fun hk => ⟨fun h => hno (fun k => by have := k.2.2.1; rw [tagN, if_pos hr] at h; omega), fun ht => ?_⟩⟩⟩
  have h64 := hr.1
  have hB : bodyL b = b.drop 8 := if_pos hr
  have hK : b.getD 4 0 = 1 := by rw [kindN, if_pos hr] at hk; omega
  have hT : tagN b = b.getD 5 0 := if_pos hr
  have hT2 : b.getD 5 0 ≤ 12 := by rw [hT] at ht; omega
  have hlen : (b.drop 8).length = 56 := by rw [List.length_drop]; omega
  have hbd : ∀ c ∈ b.drop 8, c < 256 := fun x hx => hb x (List.mem_of_mem_drop hx)
  have ho : ∀ m n, Oct (((b.drop 8).take m).drop n) := fun m n => ⟨fun x hx => hbd x (List.mem_of_mem_take (List.mem_of_mem_drop hx)), by rw [List.length_drop, List.length_take]; omega⟩
  have p1 : readN (((b.drop 8).take 20).drop 16) = getN (b.drop 8) 16 4 := ref_piece (a := 16) (n := 4) (by omega) (by omega) (by omega)
  have p2 : readN (((b.drop 8).take 24).drop 20) = getN (b.drop 8) 20 4 := ref_piece (a := 20) (n := 4) (by omega) (by omega) (by omega)
  have p3 : readN (((b.drop 8).take 8).drop 0) = getN (b.drop 8) 0 8 := ref_piece (a := 0) (n := 8) (by omega) (by omega) (by omega)
  have p4 : readN (((b.drop 8).take 16).drop 8) = getN (b.drop 8) 8 8 := ref_piece (a := 8) (n := 8) (by omega) (by omega) (by omega)
  rw [hB, p1, p2, p3, p4, hT]
  repeat refine And.intro (by omega) ?_
  refine (fun t => ⟨ho _ _, ho _ _, ho _ _, ho _ _, t, ho _ _, t, ho _ _, ho _ _, t, ho _ _, ho _ _, ho _ _, t, ho _ _, ho _ _, ho _ _, ho _ _, t⟩) ?_
  refine ⟨fun s => s.1 ≤ b.getD 5 0 ∧ s.1 ≤ s.2 ∧ s.2 ≤ 9223372036854775807, ⟨0, 0, ⟨by omega, by omega, by simp⟩, rfl, rfl, rfl, rfl, rfl, rfl, rfl, rfl, rfl, rfl, rfl⟩, fun s => b.getD 5 0 - s.1, fun a d hac => ⟨fun hlt => ?_, fun hge => ?_⟩⟩
  · obtain ⟨q1, q2, q3⟩ := hac
    simp only at q1 q2 q3
    have e1 : (24 + 2 * (a : Int)).toNat = 24 + 2 * a := by omega
    have e2 : (26 + 2 * (a : Int)).toNat = 24 + 2 * a + 2 := by omega
    have p5 : readN (((b.drop 8).take (24 + 2 * a + 2)).drop (24 + 2 * a)) = getN (b.drop 8) ((24 + 2 * a : Nat) : Int) 2 := ref_piece (a := 24 + 2 * a) (n := 2) (by omega) (by omega) (by omega)
    have e3 : ((24 + 2 * a : Nat) : Int) = 24 + 2 * (a : Int) := by omega
    rw [e3] at p5
    rw [e1, e2, p5]
    repeat refine And.intro (by omega) ?_
    refine (fun t => ⟨ho _ _, by omega, by omega, t, ho _ _, by omega, by omega, t, by omega, by omega, t⟩) ?_
    exact fun cap hc => ⟨by omega, by omega, a + 1, cap, ⟨by simp only; omega, hc.1, hc.2⟩, by simp only; omega, by omega, rfl, rfl, rfl, Nat.le_refl _, fun i hi => by
        by_cases e : i < a
        · rw [if_pos e]
        · have e2 : i = a := by omega
          subst e2
          rw [if_neg e, if_pos (by omega)]; rfl⟩
  · obtain ⟨q1, q2, q3⟩ := hac
    simp only at q1 q2 q3
    have ha : a = b.getD 5 0 := by omega
    have hkl : (nodeB b).kids.length = b.getD 5 0 := by simp only [nodeB, kidsAt_length]
    have hki : ∀ i, i < (nodeB b).kids.length → [i64 (numA b (24 + 2 * (i : Nat)) 2)] = [i64 ((nodeB b).kids.getD i 0)] := fun i hi => by
      rw [hkl] at hi
      simp only [nodeB]; rw [kidsAt_get b hi]
    refine ⟨nodeB b, rfl, rfl, rfl, rfl, by rw [hkl, ha], hki, (nodeB_I b).2 (by omega), fun h => hno (fun k => h k.2.2.2.1), fun hok => ⟨hb, nodeB b, rfl, rfl, rfl, rfl, by rw [hkl, ha], hki, hok, (nodeB_I b).2 (by omega), fun h => hno (fun k => h (node_back hb k)), fun h => ?_⟩⟩
    have hN : isNode b := by
      have := (node_right hok ((nodeB_I b).2 (by omega)).1).1
      rwa [h] at this
    rw [getNodeT, if_pos hN, hkl]
    rw [hkl] at hki
    exact ⟨rfl, rfl, rfl, rfl, ha, (decide_eq_true hN).symm, by omega, hki, by omega, q3⟩

end Yard


namespace Yard
open Go Go.Sx Go.Proofs
set_option linter.unusedVariables false
set_option linter.unusedSimpArgs false
set_option maxRecDepth 4000
set_option maxHeartbeats 4000000

end Yard
