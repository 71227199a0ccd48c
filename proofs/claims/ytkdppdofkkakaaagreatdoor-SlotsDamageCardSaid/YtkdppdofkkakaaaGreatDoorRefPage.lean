import Derived.Test.YtkdppdofkkakaaaGreatDoorCrc
import Derived.Test.YtkdppdofkkakaaaGreatDoorNodeMath
import Derived.Test.YtkdppdofkkakaaaGreatDoorSlotInv

namespace Yard
open Go Go.Sx Go.Proofs
set_option linter.unusedVariables false
set_option linter.unusedSimpArgs false
set_option maxRecDepth 4000

def zlN : Ctr := zbT (Nat × Nat) (fun x => U64 x.1/\x.2 <= 1000) (fun x => [u64 x.1, i64 (x.2 : Int)]) (fun x => .int .u8 ((x.1 / 256 ^ x.2 % 256 : Nat) : Int))
def zlP : Ctr := zbT (Nat × Nat) (fun x => U64 x.1/\x.2 <= 1000) (fun x => [u64 x.1, i64 (x.2 : Int)]) (fun x => strN (layN x.1 x.2))
def zi7 : Ctr := zbT (List Nat) Oct (fun l => [strN l]) (fun l => u64 (readN l))
def zv9 (x : Nat × Nat) : LA := { T := Nat, F := fun i => frm 16 [(0, u64 (x.1 / 256 ^ i)), (1, i64 (x.2 : Int)), (5, i64 (i : Int))], H := fun _ => [.fence] }

theorem zyR : (∀ (x : Nat × Nat),
 let q1 : Prop := Tr 1 ((x.2 : Int) = (x.2 : Int)); U64 x.1/\x.2 <= 1000->Exx (Nat->Prop) fun I => Exx (Nat->Nat) fun m => (Exx Nat fun t => I t/\(Tr 1 ((x.1 : Int) = (↑(x.1 / 256 ^ t) : Int))/\q1/\Tr 3 (Tr 1 ((0 : Int) = (t : Int))/\Tr 10 True))/\true = true/\True)/\∀ (t : Nat),
 let q2 : Int := (↑(x.1 / 256 ^ t) : Int);
 let q3 : Int := (t : Int) + 1; I t->BC (decide ((t : Int) < (x.2 : Int))) ((256 : Int) ≠ (0 : Int)/\∀ (n : Int), n = IntKind.u64.wrap (q2.tdiv 256)->I64 q3/\Exx Nat fun t' => (I t'/\m t' < m t)/\(Tr 1 (n = (↑(x.1 / 256 ^ t') : Int))/\q1/\Tr 3 (Tr 1 (q3 = (↑t' : Int))/\Tr 10 True))/\true = true/\True) ((256 : Int) ≠ (0 : Int)/\∀ (n : Int), n = q2.tmod 256->∀ (m : Int), m = IntKind.u8.wrap n->Exx Unit fun y => ((Tr 1 (m = (↑(x.1 / 256 ^ x.2 % 256) : Int))/\True)/\true = true/\True)/\True)) = (fnVC tb [] Tryz.f145 zlN (fun x => { loops := [(2, zv9 x)] }) (fun _ => none)) := by kernel_rfl

theorem zsU : SpecOk Tryz.prog 145 (zaA zlN) := by
 refine zaF zaH zaG SPok.nil Tryz.func145 (by decide) (zaI fun _ => rfl) (Eq.mp zyR ?_)
 simp (maxSteps := 10000000) only [std, stdU, stdV, Exx, I64, Nat.reduceMul, Nat.reduceDiv, Nat.reduceAdd, Int.reduceToNat]
 rintro v n ⟨hv, hn⟩
 have hlt : ∀ i, U64 (v / 256 ^ i) := fun i => Nat.lt_of_le_of_lt (Nat.div_le_self _ _) hv
 have e1 : ∀ x : Nat, (x : Int).tdiv 256 = ((x / 256 : Nat) : Int) := fun _ => rfl
 have e2 : ∀ x : Nat, (x : Int).tmod 256 = ((x % 256 : Nat) : Int) := fun _ => rfl
 refine ⟨fun i => i <= n, ⟨0, by omega, by simp, rfl⟩, fun i => n - i, fun i hi => ⟨fun h => ⟨by omega, by omega, by omega, i + 1, by omega, by simp only; omega, ?_, by omega⟩, fun h => ⟨by omega, ?_⟩⟩⟩
 ·rw [e1, zjT (by have := hlt i; unfold U64 at *; omega), Nat.div_div_eq_div_mul, Nat.pow_succ]
 ·rw [e2, zxG, Nat.mod_mod, show i = n by omega]

def qdD (x : Nat × Nat) : LA := { T := Nat, F := fun i => frm 20 [(0, u64 x.1), (1, i64 (x.2 : Int)), (5, strN (layN x.1 i)), (6, i64 (i : Int))], H := fun _ => [.fence] }

theorem zz1 (v n : Nat) : layN v (n + 1) = layN v n ++ [v / 256 ^ n % 256] := by
 refine zbN 0 (by simp [zaD]) fun i hi => ?_
 have hi : i < n + 1 := by simpa [zaD] using hi
 rw [ziG _ _ _ hi, zaM, zaD]
 by_cases h : i < n
 ·rw [if_pos h, ziG _ _ _ h]
 ·have : i = n := by omega
  subst this
  rw [if_neg h, Nat.sub_self]; rfl

theorem refLayV : (
 let q1 : Nat := (TI.mk (TK.int IntKind.u8) 1 1 (ZL.cons (Value.int IntKind.u8 0) ZL.nil) false).size; ∀ (x : Nat × Nat),
 let q2 : Prop := Tr 1 ((x.1 : Int) = (x.1 : Int));
 let q3 : Prop := Tr 1 ((x.2 : Int) = (x.2 : Int)); U64 x.1/\x.2 <= 1000->Exx (Nat->Prop) fun I => Exx (Nat->Nat) fun m => (Exx Nat fun t => I t/\(q2/\q3/\Tr 3 (cstr (litL (ByteArray.mk #[])) = cstr (layN x.1 t)/\Tr 1 ((0 : Int) = (t : Int))/\Tr 13 True))/\true = true/\True)/\∀ (t : Nat),
 let q4 : Int := (t : Int) + 1; I t->BC (decide ((t : Int) < (x.2 : Int))) (Exx (Nat × Nat) fun x_1 => ((Tr 1 ((x.1 : Int) = (x_1.1 : Int))/\Tr 1 ((t : Int) = (x_1.2 : Int))/\True)/\true = true/\True)/\(U64 x_1.1/\x_1.2 <= 1000)/\∀ (y : Unit), True->(0 : Nat) + (1 : Nat) <= (1 : Nat)/\Exx (List Nat) fun m_1 => (1 = m_1.length/\∀ (i : Nat),
 let q5 : Nat := 0 + i; i < m_1.length->[AV.int .u8 (if q5 = 0 * 1 / 1 then (↑(x_1.1 / 256 ^ x_1.2 % 256) : Int) else 0)] = [AV.int .u8 (↑(m_1.getD i 0) : Int)])/\(∀ (c : Nat), c ∈ m_1->c < 256)/\(cstr (layN x.1 t)).length + (cstr m_1).length <= 9223372036854775807/\I64 q4/\Exx Nat fun t' => (I t'/\m t' < m t)/\(q2/\q3/\Tr 3 (cstr (layN x.1 t) ++ cstr m_1 = cstr (layN x.1 t')/\Tr 1 (q4 = (↑t' : Int))/\Tr 13 True))/\true = true/\True) (Exx Unit fun y => ((cstr (layN x.1 t) = cstr (layN x.1 x.2)/\True)/\true = true/\True)/\True)) = (fnVC tb [(145, zaA zlN)] Tryz.f130 zlP (fun x => { loops := [(3, qdD x)] }) (fun _ => none)) := by kernel_rfl

theorem zlO : SpecOk Tryz.prog 130 (zaA zlP) := by
 refine zaF zaH zaG (SPok.cons zsU SPok.nil) Tryz.func130 (by decide) (zaI fun _ => rfl) (Eq.mp refLayV ?_)
 simp (maxSteps := 10000000) only [std, stdU, stdV, Exx, I64, Nat.reduceMul, Nat.reduceDiv, Nat.reduceAdd, Int.reduceToNat]
 rintro v n ⟨hv, hn⟩
 refine ⟨fun i => i <= n, ⟨0, by omega, rfl, rfl⟩, fun i => n - i, fun i hi => ⟨fun h => ⟨hv, by omega, fun c hc => by simp at hc; omega, by rw [zaD]; omega, by omega, by omega, i + 1, by omega, by simp only; omega, (zz1 v i).symm, by omega⟩, fun h => by rw [show i = n by omega]⟩⟩

def zsV (l : List Nat) : LA := { T := Nat, F := fun i => frm 22 [(0, strN l), (3, u64 (numN ((l.take 8).drop i))), (4, i64 ((i : Int) - 1))], H := fun _ => [.fence] }

theorem qdU {l : List Nat} {i : Nat} (hl : ∀ c ∈ l, c < 256) (hi : i < l.length) (h8 : i < 8) :
  IntKind.u64.wrap (IntKind.u64.wrap (((numN ((l.take 8).drop (i + 1)) : Nat) : Int) * 256) + IntKind.u64.wrap ((l.getD i 0 : Nat) : Int)) = ((numN ((l.take 8).drop i) : Nat) : Int) := by
 have hc : l.getD i 0 < 256 := zbO (p := fun c => c < 256) hl (by decide) i
 have hlen : ((l.take 8).drop (i + 1)).length <= 7 := by simp; omega
 have h1 := zhM ((l.take 8).drop (i + 1)) fun c hc => hl c (List.mem_of_mem_take (List.mem_of_mem_drop hc))
 have h2 : 256 ^ ((l.take 8).drop (i + 1)).length <= 256 ^ 7 := Nat.pow_le_pow_right (by decide) hlen
 have h3 : numN ((l.take 8).drop (i + 1)) < 72057594037927936 := Nat.lt_of_lt_of_le h1 h2
 have e : (l.take 8).drop i = l.getD i 0 :: (l.take 8).drop (i + 1) := by
  have hi' : i < (l.take 8).length := by simp; omega
  rw [List.drop_eq_getElem_cons hi']
  congr 1
  rw [List.getElem_take, List.getD_eq_getElem?_getD, List.getElem?_eq_getElem hi]; rfl
 have e1 : ((numN ((l.take 8).drop (i + 1)) : Nat) : Int) * 256 = ((numN ((l.take 8).drop (i + 1)) * 256 : Nat) : Int) := by omega
 rw [e1, zjT (by unfold U64; omega), zjT (show U64 (l.getD i 0) by unfold U64; omega)]
 have e2 : ((numN ((l.take 8).drop (i + 1)) * 256 : Nat) : Int) + ((l.getD i 0 : Nat) : Int) = ((numN ((l.take 8).drop (i + 1)) * 256 + l.getD i 0 : Nat) : Int) := by omega
 rw [e2, zjT (by unfold U64; omega), e, numN]
 omega

theorem zwA : (∀ (x : List Nat),
 let q1 : Int := (↑(cstr x).length : Int) - 1; Oct x->I64 q1/\Exx (Nat->Prop) fun I => Exx (Nat->Nat) fun m => (Exx Nat fun t => I t/\(cstr x = cstr x/\Tr 2 (Tr 1 ((0 : Int) = (↑(numN (List.drop t (List.take 8 x))) : Int))/\Tr 1 (q1 = (t : Int) - 1)/\Tr 17 True))/\true = true/\True)/\∀ (t : Nat),
 let q2 : Int := (t : Int) - 1;
 let q3 : Prop := (0 : Int) <= q2;
 let q4 : Int := (↑(numN (List.drop t (List.take 8 x))) : Int);
 let q5 : Int := q2 - 1;
 let q6 : Prop := I64 q5; I t->BC (decide q3) (BC (decide (q2 < (8 : Int))) (∀ (n : Int), n = IntKind.u64.wrap (q4 * 256)->(q3/\q2 < (↑(cstr x).length : Int))/\∀ (m_1 : Int), m_1 = IntKind.u64.wrap ((cstr x).getD q2.toNat 0)->∀ (n_1 : Int), n_1 = IntKind.u64.wrap (n + m_1)->q6/\Exx Nat fun t' => (I t'/\m t' < m t)/\(cstr x = cstr x/\Tr 2 (Tr 1 (n_1 = (↑(numN (List.drop t' (List.take 8 x))) : Int))/\Tr 1 (q5 = (↑t' : Int) - 1)/\Tr 17 True))/\true = true/\True) (q6/\Exx Nat fun t' => (I t'/\m t' < m t)/\(cstr x = cstr x/\Tr 2 (Tr 1 (q4 = (↑(numN (List.drop t' (List.take 8 x))) : Int))/\Tr 1 (q5 = (↑t' : Int) - 1)/\Tr 17 True))/\true = true/\True)) (Exx Unit fun y => ((Tr 1 (q4 = (↑(readN x) : Int))/\True)/\true = true/\True)/\True)) = (fnVC tb [] Tryz.f129 zi7 (fun x => { loops := [(3, zsV x)] }) (fun _ => none)) := by kernel_rfl

theorem zqM : SpecOk Tryz.prog 129 (zaA zi7) := by
 refine zaF zaH zaG SPok.nil Tryz.func129 (by decide) (zaI fun _ => rfl) (Eq.mp zwA ?_)
 simp (maxSteps := 10000000) only [std, stdU, stdV, Exx, I64, Nat.reduceMul, Nat.reduceDiv, Nat.reduceAdd, Int.reduceToNat]
 rintro l ⟨hl, hlen⟩
 refine ⟨by omega, by omega, fun i => i <= l.length, ⟨l.length, by omega, ?_, rfl⟩, fun i => i, ?_⟩
 ·rw [List.drop_of_length_le (by simp; omega)]; rfl
 ·intro i hi
  refine ⟨fun h => ⟨fun h8 => ?_, fun h8 => ?_⟩, fun h => ?_⟩
  ·obtain ⟨j, rfl⟩ : ∃ j, i = j + 1 := ⟨i - 1, by omega⟩
   have e : ((j + 1 : Nat) : Int) - 1 = (j : Int) := by omega
   rw [e]
   refine ⟨by omega, by omega, by omega, by omega, j, by omega, by simp only; omega, ?_, rfl⟩
   rw [Int.toNat_natCast]
   exact qdU hl (by omega) (by omega)
  ·refine ⟨by omega, by omega, i - 1, by omega, by simp only; omega, ?_, by omega⟩
   rw [List.drop_of_length_le (by simp; omega), List.drop_of_length_le (by simp; omega)]
  ·rw [show i = 0 by omega, List.drop_zero]; rfl

set_option maxHeartbeats 4000000

theorem qc8 : ∀ (l : List Nat) (a : Nat), regN tableN a l = bitN a l := by
 intro l
 induction l with
 | nil => intro a; rfl
 | cons c s ih =>
   intro a
   show regN tableN (takeN tableN a c) s = bitN (stepsN 8 (a ^^^ c)) s
   rw [ih]
   congr 1
   show halfN (stepsN 4) (halfN (stepsN 4) (a ^^^ c)) = _
   rw [znV, znV]
   exact (znA 4 4 _).symm
theorem zzK {n : Nat} (h : n < 4294967296) : n ^^^ ones = ones - n := by
 have := Nat.xor_comm n ones
 apply Nat.eq_of_testBit_eq
 intro i
 have e2 : ones - n = 2 ^ 32 - (n + 1) := by unfold ones; omega
 rw [e2, Nat.testBit_two_pow_sub_succ h, Nat.testBit_xor, show ones = 2 ^ 32 - 1 from rfl, Nat.testBit_two_pow_sub_one]
 by_cases hi : i < 32
 ·simp [hi]
 ·have : n.testBit i = false := Nat.testBit_lt_two_pow (Nat.lt_of_lt_of_le h (by
   have := Nat.pow_le_pow_right (n := 2) (by omega) (show 32 <= i by omega); simpa using this))
  simp [hi, this]
theorem zwF {l : List Nat} (h : ∀ c ∈ l, c < 256) : ones - refAcc l = sumN [l] := by
 have hr : refAcc l < 4294967296 := zh7 h (by decide)
 rw [<- zzK hr, sumN]
 congr 1
 show _ = regN tableN ones l
 rw [qc8]; rfl
theorem zxV {l : List Nat} (h : ∀ c ∈ l, c < 256) : sumN [l] < 4294967296 := zhB (zmT fun m hm => by rw [List.mem_singleton] at hm; subst hm; exact h)

def zoV : Ctr := zbT (List Nat) Oct (fun l => [strN l]) (fun l => i64 (IntKind.i64.wrap ((readN l : Nat) : Int)))
theorem refIntV : (∀ (x : List Nat), Oct x->Exx (List Nat) fun x_1 => ((cstr x = cstr x_1/\True)/\true = true/\True)/\Oct x_1/\∀ (y : Unit), True->∀ (m :
 Int), m = IntKind.i64.wrap (↑(readN x_1) : Int)->Exx Unit fun y => ((Tr 1 (m = IntKind.i64.wrap (↑(readN x) : Int))/\True)/\true = true/\True)/\True) =
 (fnVC tb [(129, zaA zi7)] Tryz.f108 zoV (fun _ => {}) (fun _ => none)) := by kernel_rfl

theorem zqN : SpecOk Tryz.prog 108 (zaA zoV) := by
 refine zaF zaH zaG (SPok.cons zqM SPok.nil) Tryz.func108 (by decide) (zaI fun _ => rfl) (Eq.mp refIntV ?_)
 simp (maxSteps := 10000000) only [std, stdU, stdV, Exx, I64, Nat.reduceMul, Nat.reduceDiv, Nat.reduceAdd, Int.reduceToNat]
 exact fun l h => h

def zoY : Ctr := zbT (List Nat × Nat) (fun x => Oct x.1/\x.2 <= 1000) (fun x => [strN x.1, i64 (x.2 : Nat)]) (fun x => strN (x.1 ++ List.replicate (x.2 - x.1.length) 0))
theorem qdF : (∀ (x : List Nat × Nat),
 let q1 : Int := (x.2 : Int) - (↑(cstr x.1).length : Int);
 let q2 : Int := max q1 0;
 let q3 : Nat := q2.toNat; Oct x.1/\x.2 <= 1000->I64 q1/\((0 : Int) <= q2/\q2 <= q2/\(↑(1 : Nat) : Int) * q2 <= (281474976710656 : Int)/\q2 <= (9223372036854775807 : Int))/\0 + q3 <= q3/\Exx (List Nat) fun m => (q3 = m.length/\∀ (i : Nat), i < m.length->[AV.int .u8 0] = [AV.int .u8 (↑(m.getD i 0) : Int)])/\(∀ (c : Nat), c ∈ m->c < 256)/\(cstr x.1).length + (cstr m).length <= 9223372036854775807/\Exx Unit fun y => ((cstr x.1 ++ cstr m = cstr (x.1 ++ List.replicate (x.2 - x.1.length) 0)/\True)/\true = true/\True)/\True) = (fnVC tb [] Tryz.f143 zoY (fun _ => {}) (fun _ => none)) := by kernel_rfl

theorem zwE : SpecOk Tryz.prog 143 (zaA zoY) := by
 refine zaF zaH zaG SPok.nil Tryz.func143 (by decide) (zaI fun _ => rfl) (Eq.mp qdF ?_)
 simp (maxSteps := 10000000) only [std, stdU, stdV, Exx, I64, Nat.reduceMul, Nat.reduceDiv, Nat.reduceAdd, Int.reduceToNat]
 rintro l n ⟨⟨hl, h2⟩, h3⟩
 refine ⟨by omega, by omega, by omega, by omega, by omega, by omega, List.replicate (n - l.length) 0, by rw [List.length_replicate]; omega, fun i hi => ?_, fun c hc => by rw [(List.mem_replicate.1 hc).2]; decide, by rw [List.length_replicate]; omega, rfl⟩
 rw [zeI]; split <;> rfl

def zh6 : Ctr := zbT (Nat × Nat × List Nat) (fun x => x.1 < 256/\x.2.1 < 256/\(∀ c ∈ x.2.2, c < 256)/\x.2.2.length <= 56) (fun x => [i64 (x.1 : Nat), i64 (x.2.1 : Nat), strN x.2.2]) (fun x => strN (zbR x.1 x.2.1 x.2.2))
theorem qc9 : (
 let q1 : Prop := (0 : Nat) + (4 : Nat) <= (4 : Nat);
 let q2 : Nat := (TI.mk (TK.int IntKind.u8) 1 1 (ZL.cons (Value.int IntKind.u8 0) ZL.nil) false).size; ∀ (x : Nat × Nat × List Nat),
 let q3 : List Int := cstr (zbR x.1 x.2.1 x.2.2); x.1 < 256/\x.2.1 < 256/\(∀ (c : Nat), c ∈ x.2.2->c < 256)/\x.2.2.length <= 56->∀ (m : Int), m = IntKind.u8.wrap (x.1 : Int)->∀ (m_1 : Int),
 let q8 : Prop := Exx (List Nat × Nat) fun x_1 =>
 let q4 : List Int := cstr (x_1.1 ++ List.replicate (x_1.2 - x_1.1.length) 0); ((cstr x.2.2 = cstr x_1.1/\Tr 1 ((56 : Int) = (x_1.2 : Int))/\True)/\true = true/\True)/\(Oct x_1.1/\x_1.2 <= 1000)/\∀ (y : Unit), True->q1/\Exx (List Nat) fun m_2 =>
 let q5 : List Int := cstr m_2 ++ q4;
 let q6 : Nat := q5.length; (4 = m_2.length/\∀ (i : Nat),
 let q7 : Nat := 0 + i; i < m_2.length->[AV.int .u8 (if q7 = 3 * 1 / 1 then 0 else if q7 = 2 * 1 / 1 then 0 else if q7 = 1 * 1 / 1 then m_1 else if q7 = 0 * 1 / 1 then m else 0)] = [AV.int .u8 (↑(m_2.getD i 0) : Int)])/\(∀ (c : Nat), c ∈ m_2->c < 256)/\(cstr m_2).length + q4.length <= 9223372036854775807/\q6 <= 9223372036854775807/\∀ (cap : Nat), q6 <= cap/\cap <= 9223372036854775807->Exx (List Nat) fun x => (((0 + q6 <= q6/\q6 = x.length/\∀ (i : Nat), i < x.length->[AV.int .u8 (q5.getD (0 + i) 0)] = [AV.int .u8 (↑(x.getD i 0) : Int)])/\True)/\true = true/\True)/\zmW x/\∀ (y : Unit), True->∀ (m : Int), m = IntKind.u64.wrap (↑(ones - refAcc x) : Int)->Exx (Nat × Nat) fun x => ((Tr 1 (m = (x.1 : Int))/\Tr 1 ((4 : Int) = (x.2 : Int))/\True)/\true = true/\True)/\(U64 x.1/\x.2 <= 1000)/\∀ (y : Unit), True->(cstr (layN x.1 x.2)).length + q6 <= 9223372036854775807/\Exx Unit fun y => ((cstr (layN x.1 x.2) ++ q5 = q3/\True)/\true = true/\True)/\True; m_1 = IntKind.u8.wrap (x.2.1 : Int)->((q1/\Exx (List Nat) fun m_2 => (4 = m_2.length/\∀ (i : Nat),
 let q9 : Nat := 0 + i; i < m_2.length->[AV.int .u8 (if q9 = 3 * 1 / 1 then 0 else if q9 = 2 * 1 / 1 then 0 else if q9 = 1 * 1 / 1 then m_1 else if q9 = 0 * 1 / 1 then m else 0)] = [AV.int .u8 (↑(m_2.getD i 0) : Int)])/\(∀ (c : Nat), c ∈ m_2->c < 256)/\Exx (List Nat × Nat) fun x_1 =>
 let q10 : List Int := cstr (x_1.1 ++ List.replicate (x_1.2 - x_1.1.length) 0);
 let q11 : List Int := cstr m_2 ++ q10;
 let q12 : Nat := q11.length; ((cstr x.2.2 = cstr x_1.1/\Tr 1 ((56 : Int) = (x_1.2 : Int))/\True)/\true = true/\True)/\(Oct x_1.1/\x_1.2 <= 1000)/\∀ (y : Unit), True->(cstr m_2).length + q10.length <= 9223372036854775807/\q12 <= 9223372036854775807/\∀ (cap : Nat), q12 <= cap/\cap <= 9223372036854775807->Exx (List Nat) fun x => (((0 + q12 <= q12/\q12 = x.length/\∀ (i : Nat), i < x.length->[AV.int .u8 (q11.getD (0 + i) 0)] = [AV.int .u8 (↑(x.getD i 0) : Int)])/\True)/\true = true/\True)/\zmW x/\∀ (y : Unit), True->∀ (m : Int), m = IntKind.u64.wrap (↑(ones - refAcc x) : Int)->Exx (Nat × Nat) fun x => ((Tr 1 (m = (x.1 : Int))/\Tr 1 ((4 : Int) = (x.2 : Int))/\True)/\true = true/\True)/\(U64 x.1/\x.2 <= 1000)/\∀ (y : Unit), True->(cstr (layN x.1 x.2)).length + q12 <= 9223372036854775807/\Exx Unit fun y => ((cstr (layN x.1 x.2) ++ q11 = q3/\True)/\true = true/\True)/\True)/\q8)/\q8) = (fnVC tb [(130, zaA zlP), (143, zaA zoY), (144, zaA zsT)] Tryz.f128 zh6 (fun _ => {}) (fun _ => none)) := by kernel_rfl

theorem zi6 : SpecOk Tryz.prog 128 (zaA zh6) := by
 refine zaF zaH zaG (SPok.cons zlO (SPok.cons zwE (SPok.cons zyQ SPok.nil))) Tryz.func128 (by decide) (zaI fun _ => rfl) (Eq.mp qc9 ?_)
 simp (maxSteps := 10000000) only [std, stdU, stdV, Exx, I64, Nat.reduceMul, Nat.reduceDiv, Nat.reduceAdd, Int.reduceToNat]
 rintro k t b ⟨hk, ht, hb, hl⟩
 have hO : Oct b := ⟨hb, by omega⟩
 have hg : ∀ i, i < ([k, t, 0, 0] : List Nat).length->(if i = 3 then [AV.int IntKind.u8 0] else if i = 2 then [AV.int IntKind.u8 0] else if i = 1 then [AV.int IntKind.u8 (IntKind.u8.wrap ((t : Nat) : Int))] else if i = 0 then [AV.int IntKind.u8 (IntKind.u8.wrap ((k : Nat) : Int))] else [AV.int IntKind.u8 0]) = [AV.int IntKind.u8 ((([k, t, 0, 0] : List Nat).getD i 0 : Nat) : Int)] := fun i hi => by
  have hi : i < 4 := hi
  have : i = 0\/i = 1\/i = 2\/i = 3 := by omega
  rcases this with rfl | rfl | rfl | rfl
  ·rw [if_neg (by decide), if_neg (by decide), if_neg (by decide), if_pos rfl, zxG, Nat.mod_eq_of_lt hk]; rfl
  ·rw [if_neg (by decide), if_neg (by decide), if_pos rfl, zxG, Nat.mod_eq_of_lt ht]; rfl
  ·rfl
  ·rfl
 have hlt : ∀ c ∈ ([k, t, 0, 0] : List Nat), c < 256 := fun c hc => by
  simp only [List.mem_cons, List.not_mem_nil, or_false] at hc; omega
 have er : ([k, t, 0, 0] : List Nat) ++ (b ++ List.replicate (56 - b.length) 0) = za7 k t b := by rw [za7, List.append_assoc]
 have hlr := zcY (k := k) (t := t) hl
 have hrl := zuT hk ht hb
 have hbl : (b ++ List.replicate (56 - b.length) 0).length = 56 := by rw [List.length_append, List.length_replicate]; omega
 have tail : ([k, t, 0, 0] : List Nat).length + (b ++ List.replicate (56 - b.length) 0).length <= 9223372036854775807/\(([k, t, 0, 0] : List Nat) ++ (b ++ List.replicate (56 - b.length) 0)).length <= 9223372036854775807/\∀ (cap : Nat), (([k, t, 0, 0] : List Nat) ++ (b ++ List.replicate (56 - b.length) 0)).length <= cap/\cap <= 9223372036854775807->zmW (([k, t, 0, 0] : List Nat) ++ (b ++ List.replicate (56 - b.length) 0))/\∃ a : Nat, IntKind.u64.wrap ((ones - refAcc (([k, t, 0, 0] : List Nat) ++ (b ++ List.replicate (56 - b.length) 0)) : Nat) : Int) = (a : Int)/\∃ x_2 : Nat, (4 : Int) = (x_2 : Int)/\U64 a/\x_2 <= 1000/\(layN a x_2).length + (([k, t, 0, 0] : List Nat) ++ (b ++ List.replicate (56 - b.length) 0)).length <= 9223372036854775807/\layN a x_2 ++ (([k, t, 0, 0] : List Nat) ++ (b ++ List.replicate (56 - b.length) 0)) = zbR k t b := by
  rw [er, hbl, hlr]
  refine ⟨by simp, by omega, fun cap hc => ⟨⟨hrl, by omega⟩, sumN [za7 k t b], ?_, 4, rfl, ?_, by omega, by rw [zaD]; omega, rfl⟩⟩
  ·rw [zwF hrl]; exact zjT (by have := zxV hrl; unfold U64; omega)
  ·have := zxV hrl; unfold U64; omega
 exact ⟨⟨[k, t, 0, 0], rfl, hg, hlt, 56, rfl, hO, by omega, tail⟩, ⟨56, rfl, hO, by omega, [k, t, 0, 0], rfl, hg, hlt, tail⟩, ⟨56, rfl, hO, by omega, [k, t, 0, 0], rfl, hg, hlt, tail⟩⟩

def zkG : Ctr := zbT (List Nat) Oct (fun b => [octA b]) (fun b => .tup [i64 (kindN b : Nat), i64 (tagN b : Nat), strN (zb8 b), .bool (decide (zbG b))])
theorem qdA : (∀ (x : List Nat),
 let q1 : Prop := Exx Unit fun y => (((Tr 1 ((0 : Int) = (↑(kindN x) : Int))/\Tr 1 ((0 : Int) = (↑(tagN x) : Int))/\cstr (litL (ByteArray.mk #[])) = cstr (zb8 x)/\false = decide (zbG x)/\True)/\True)/\true = true/\True)/\True;
 let q2 : Prop := (0 : Int) <= (4 : Int)/\(4 : Int) < (x.length : Int);
 let q3 : Int := (↑(x.getD (Int.toNat 4) 0) : Int);
 let q4 : Prop := (0 : Int) <= (5 : Int)/\(5 : Int) < (x.length : Int);
 let q5 : Prop := Int.toNat 8 <= x.length/\x.length <= x.length; Oct x->BC (!decide ((x.length : Int) = (64 : Int))) q1 (q2/\BC (decide (q3 = (0 : Int))) q1 (q2/\∀ (m : Int), m = IntKind.i64.wrap q3->q4/\∀ (m_1 : Int),
 let q6 : Int := IntKind.i64.wrap (↑(x.getD (Int.toNat 5) 0) : Int); m_1 = q6->(0 : Int) <= (8 : Int)/\q5/\Exx (List Nat) fun m_2 =>
 let q7 : Nat := x.length - Int.toNat 8; (q7 = m_2.length/\∀ (i : Nat), i < m_2.length->[AV.int .u8 (↑(x.getD (Int.toNat 8 + i) 0) : Int)] = [AV.int .u8 (↑(m_2.getD i 0) : Int)])/\(∀ (c : Nat), c ∈ m_2->c < 256)/\Exx (List Nat) fun m_3 => (x.length = m_3.length/\∀ (i : Nat), i < m_3.length->[AV.int .u8 (↑(x.getD i 0) : Int)] = [AV.int .u8 (↑(m_3.getD i 0) : Int)])/\(∀ (c : Nat), c ∈ m_3->c < 256)/\Exx (Nat × Nat × List Nat) fun x_1 =>
 let q8 : List Int := cstr (zbR x_1.1 x_1.2.1 x_1.2.2); ((Tr 1 (m = (x_1.1 : Int))/\Tr 1 (m_1 = (x_1.2.1 : Int))/\cstr m_2 = cstr x_1.2.2/\True)/\true = true/\True)/\(x_1.1 < 256/\x_1.2.1 < 256/\(∀ (c : Nat), c ∈ x_1.2.2->c < 256)/\x_1.2.2.length <= 56)/\∀ (y : Unit), True->BC (!decide (q8 = cstr m_3)) q1 (q2/\∀ (m : Int), m = IntKind.i64.wrap q3->q4/\∀ (m_4 : Int), m_4 = q6->(0 : Int) <= (8 : Int)/\q5/\Exx (List Nat) fun m_5 => (q7 = m_5.length/\∀ (i : Nat), i < m_5.length->[AV.int .u8 (↑(x.getD (Int.toNat 8 + i) 0) : Int)] = [AV.int .u8 (↑(m_5.getD i 0) : Int)])/\(∀ (c : Nat), c ∈ m_5->c < 256)/\Exx Unit fun y => (((Tr 1 (m = (↑(kindN x) : Int))/\Tr 1 (m_4 = (↑(tagN x) : Int))/\cstr m_5 = cstr (zb8 x)/\true = decide (zbG x)/\True)/\True)/\true = true/\True)/\True)))) = (fnVC tb [(128, zaA zh6)] Tryz.f107 zkG (fun _ => {}) (fun _ => none)) := by kernel_rfl

theorem znJ : SpecOk Tryz.prog 107 (zaA zkG) := by
 refine zaF zaH zaG (SPok.cons zi6 SPok.nil) Tryz.func107 (by decide) (zaI fun _ => ⟨rfl, rfl, rfl, rfl, trivial⟩) (Eq.mp qdA ?_)
 simp (maxSteps := 10000000) only [std, stdU, stdV, Exx, I64, Nat.reduceMul, Nat.reduceDiv, Nat.reduceAdd, Int.reduceToNat]
 rintro b ⟨hb, hl⟩
 have hno : ¬ zbG b->((0 : Int) = ((kindN b : Nat) : Int)/\(0 : Int) = ((tagN b : Nat) : Int)/\List.map (fun c : UInt8 => c.toNat) [] = zb8 b/\false = decide (zbG b)) := fun h => by
  rw [kindN, if_neg h, tagN, if_neg h, zb8, if_neg h]; exact ⟨rfl, rfl, rfl, (decide_eq_false h).symm⟩
 have g4 : b.getD 4 0 < 256 := zbO (p := fun c => c < 256) hb (by decide) 4
 have g5 : b.getD 5 0 < 256 := zbO (p := fun c => c < 256) hb (by decide) 5
 have hb8 : ∀ c ∈ b.drop 8, c < 256 := fun c hc => hb c (List.mem_of_mem_drop hc)
 refine ⟨fun h => hno (fun k => h (by rw [k.1]; rfl)), fun h64 => ⟨by omega, by omega, fun h => hno (fun k => k.2.1 (by omega)), fun h4 => ⟨by omega, by omega, by omega, by omega, by omega, by omega, b.drop 8, by rw [List.length_drop], fun i hi => by rw [zaV], hb8, hb, b.getD 4 0, zbC ⟨by omega, by omega⟩, b.getD 5 0, zbC ⟨by omega, by omega⟩, g4, g5, hb8, by rw [List.length_drop]; omega, fun h => hno (fun k => h (zlG hb k)), fun h => ?_⟩⟩⟩
 have hr : zbG b := zv2 hb (by omega) (by omega) h
 refine ⟨by omega, by omega, by omega, by omega, by omega, by omega, b.drop 8, by rw [List.length_drop], fun i hi => by rw [zaV], hb8, ?_, ?_, ?_, (decide_eq_true hr).symm⟩
 ·rw [kindN, if_pos hr]; exact zbC ⟨by omega, by omega⟩
 ·rw [tagN, if_pos hr]; exact zbC ⟨by omega, by omega⟩
 ·rw [zb8, if_pos hr]

theorem zlM {l : List Nat} {a n : Nat} (hn : 1 <= n) (h8 : n <= 8) (h : a + n <= l.length) : readN ((l.take (a + n)).drop a) = getN l (a : Int) (n : Int) := by
 have e : (l.take (a + n)).drop a = (l.drop a).take n := by rw [List.drop_take]; congr 1; omega
 rw [e, zgV hn h8 h, readN, List.take_take, Nat.min_eq_right h8]

theorem zyE {l : Bool} {g n : Int} {p : SeatT->Prop} : (∃ x : SeatT, l = x.live/\g = x.gen/\n = x.next/\p x) ↔ p ⟨l, g, n⟩ :=
 ⟨fun ⟨x, h1, h2, h3, k⟩ => by subst h1; subst h2; subst h3; exact k, fun k => ⟨_, rfl, rfl, rfl, k⟩⟩
theorem zuO {x : SeatT} : (⟨x.live, x.gen, x.next⟩ : SeatT) = x := rfl
theorem shl7 {t : Nat} (h : t < 7) : IntKind.i64.wrap (1 * 2 ^ min t IntKind.i64.bits) = ((2 ^ t : Nat) : Int) := by
 have : t = 0\/t = 1\/t = 2\/t = 3\/t = 4\/t = 5\/t = 6 := by omega
 rcases this with rfl | rfl | rfl | rfl | rfl | rfl | rfl <;> rfl
def zsY : Ctr := zbT (Nat->Int) (fun f => ∀ i, i < 16->I64 (f i)) (fun f => [fanA f]) (fun f => .tup [strN (zaL f), .bool (decide (zdO f))])
def qdG (f : Nat->Int) : LA := { T := Nat, F := fun i => frm 33 [(1, .ptr 1 [] 0), (4, strN (kidsL f i)), (5, i64 (i : Nat))], H := fun _ => [.fence, .cells 113 (fanV f)] }
theorem refFanV : (
 let q1 : Prop := true = true/\zaB/\(0 : Nat) = 0;
 let q2 : Prop := (113 : TypeId) = 113; ∀ (x : Nat->Int),
 let q3 : Prop := (1 : Nat) = 1/\(16 : Nat) = 16/\(∀ (i : Nat), i < 16->[AV.int .i64 (x i)] = [AV.int .i64 (x i)])/\True;
 let q4 : Prop := true = true/\(q2/\q3)/\True; (∀ (i : Nat), i < 16->I64 (x i))->Exx (Nat->Prop) fun I => Exx (Nat->Nat) fun m => (Exx Nat fun t => I t/\Tr 1 (q1/\Tr 2 (cstr (litL (ByteArray.mk #[])) = cstr (kidsL x t)/\Tr 1 ((0 : Int) = (t : Int))/\Tr 27 True))/\true = true/\((113 : Nat) = (113 : TypeId)/\q3)/\True)/\∀ (t : Nat),
 let q5 : Prop := (0 : Int) <= (t : Int)/\(t : Int) < (↑(16 : Nat) : Int);
 let q6 : Prop := (t : Int).toNat < 16;
 let q7 : Int := (t : Int) + 1;
 let q8 : Prop := q5/\q6/\∀ (m_1 : Int), m_1 = IntKind.u64.wrap (x (t : Int).toNat)->Exx (Nat × Nat) fun x_1 => ((Tr 1 (m_1 = (x_1.1 : Int))/\Tr 1 ((2 : Int) = (x_1.2 : Int))/\True)/\true = true/\True)/\(U64 x_1.1/\x_1.2 <= 1000)/\∀ (y : Unit), True->(cstr (kidsL x t)).length + (cstr (layN x_1.1 x_1.2)).length <= 9223372036854775807/\I64 q7/\Exx Nat fun t' => (I t'/\m t' < m t)/\Tr 1 (q1/\Tr 2 (cstr (kidsL x t) ++ cstr (layN x_1.1 x_1.2) = cstr (kidsL x t')/\Tr 1 (q7 = (↑t' : Int))/\Tr 27 True))/\q4; I t->BC (decide ((t : Int) < (16 : Int))) (q5/\q6/\BC (!decide (x (t : Int).toNat = (0 : Int))) (q5/\q6/\Exx Int fun x_1 => ((Tr 1 (x (t : Int).toNat = x_1)/\True)/\true = true/\True)/\(-9223372036854775808 <= x_1/\x_1 <= (9223372036854775807 : Int))/\∀ (y : Unit), True->BC (!decide ((2 : Int) <= x_1/\x_1 <= (3071 : Int))) (Exx Unit fun y => (((cstr (litL (ByteArray.mk #[])) = cstr (zaL x)/\false = decide (zdO x)/\True)/\True)/\true = true/\True)/\True) q8) q8) (Exx (Nat × Nat × List Nat) fun x_1 => ((Tr 1 ((3 : Int) = (x_1.1 : Int))/\Tr 1 ((0 : Int) = (x_1.2.1 : Int))/\cstr (kidsL x t) = cstr x_1.2.2/\True)/\true = true/\True)/\(x_1.1 < 256/\x_1.2.1 < 256/\(∀ (c : Nat), c ∈ x_1.2.2->c < 256)/\x_1.2.2.length <= 56)/\∀ (y : Unit), True->Exx Unit fun y => (((cstr (zbR x_1.1 x_1.2.1 x_1.2.2) = cstr (zaL x)/\true = decide (zdO x)/\True)/\True)/\true = true/\True)/\True)) = (fnVC tb [(70, zaA zkS), (128, zaA zh6), (130, zaA zlP)] Tryz.f113 zsY (fun x => { loops := [(3, qdG x)] }) (fun _ => none)) := by kernel_rfl

theorem zyU : SpecOk Tryz.prog 113 (zaA zsY) := by
 refine zaF zaH zaG (SPok.cons zn8 (SPok.cons zi6 (SPok.cons zlO SPok.nil))) Tryz.func113 (by decide) (zaI fun _ => ⟨rfl, rfl, trivial⟩) (Eq.mp refFanV ?_)
 simp (maxSteps := 10000000) only [std, stdU, stdV, Exx, I64, Nat.reduceMul, Nat.reduceDiv, Nat.reduceAdd, Int.reduceToNat]
 intro f hf
 refine ⟨fun t => t <= 16/\∀ j, j < t->zf6 (f j), ⟨0, ⟨by omega, fun j hj => absurd hj (Nat.not_lt_zero _)⟩, rfl, rfl⟩, fun t => 16 - t, fun t ht => ⟨fun hlt => ?_, fun hge => ?_⟩⟩
 ·obtain ⟨h1, h2⟩ := ht
  have step : zf6 (f t)->0 <= (t : Int)/\(t : Int) < ((16 : Nat) : Int)/\t < 16/\∃ a : Nat, IntKind.u64.wrap (f t) = (a : Int)/\∃ x_2 : Nat, (2 : Int) = (x_2 : Int)/\U64 a/\x_2 <= 1000/\(kidsL f t).length + (layN a x_2).length <= 9223372036854775807/\-9223372036854775808 <= (t : Int) + 1/\(t : Int) + 1 <= 9223372036854775807/\∃ x_3 : Nat, (fun t : Nat => t <= 16/\∀ j, j < t->zf6 (f j)) x_3/\(fun t : Nat => 16 - t) x_3 < (fun t : Nat => 16 - t) t/\kidsL f t ++ layN a x_2 = kidsL f x_3/\(t : Int) + 1 = (x_3 : Int) := fun hk => by
   have hk0 := hk
   unfold zf6 at hk
   exact ⟨by omega, by omega, by omega, (f t).toNat, zbW (by omega) (by omega), 2, rfl, by unfold U64; omega, by omega, by rw [zbH, zaD]; omega, by omega, by omega, t + 1, ⟨by omega, fun j hj => by
    by_cases e : j = t
    ·subst e; exact hk0
    ·exact h2 j (by omega)⟩, by simp only; omega, (zdB f t).symm, by omega⟩
  refine ⟨by omega, by omega, by omega, fun hz => ⟨by omega, by omega, by omega, (hf t (by omega)).1, (hf t (by omega)).2, fun hb => ?_, fun hk => step (.inr hk)⟩, fun hz => step (.inl hz)⟩
  have hn : ¬ zdO f := fun k => by have := k t (by omega); unfold zf6 at this; omega
  rw [zaL, if_neg hn]; exact ⟨rfl, (decide_eq_false hn).symm⟩
 ·obtain ⟨h1, h2⟩ := ht
  have e : t = 16 := by omega
  subst e
  have hok : zdO f := h2
  exact ⟨3, rfl, 0, rfl, by omega, by omega, ziH f 16, by rw [zbH]; omega, by rw [zaL, if_pos hok], (decide_eq_true hok).symm⟩

def zoT : Ctr := zbT (Nat->SeatT) (fun l => ∀ i, i < 7->zc7 (l i)) (fun l => [ztH l]) (fun l => .tup [strN (zaJ l), .bool (decide (zc5 l))])
def zyS (l : Nat->SeatT) : LA := { T := Nat, F := fun i => frm 39 [(1, .ptr 1 [] 0), (4, strN (za9 l i)), (5, i64 (liveN l i : Nat)), (6, i64 (i : Nat))], H := fun _ => [.fence, .cells 116 (zwS l)] }
theorem qdC : (
 let q1 : Prop := true = true/\zaB/\(0 : Nat) = 0;
 let q2 : Prop := (116 : TypeId) = 116; ∀ (x : Nat->SeatT),
 let q4 : Prop := (3 : Nat) = 3/\(7 : Nat) = 7/\(∀ (i : Nat),
 let q3 : List AV := [AV.bool (x i).live, AV.int .i64 (x i).gen, AV.int .i64 (x i).next]; i < 7->q3 = q3)/\True;
 let q5 : Prop := true = true/\(q2/\q4)/\True; (∀ (i : Nat), i < 7->zc7 (x i))->Exx (Nat->Prop) fun I => Exx (Nat->Nat) fun m => (Exx Nat fun t => I t/\Tr 1 (q1/\Tr 2 (cstr (litL (ByteArray.mk #[])) = cstr (za9 x t)/\Tr 1 ((0 : Int) = (↑(liveN x t) : Int))/\Tr 1 ((0 : Int) = (t : Int))/\Tr 32 True))/\true = true/\((116 : Nat) = (116 : TypeId)/\q4)/\True)/\∀ (t : Nat),
 let q6 : Int := (t : Int) + 1;
 let q7 : Prop := I64 q6; I t->BC (decide ((t : Int) < (7 : Int))) (((0 : Int) <= (t : Int)/\(t : Int) < (↑(7 : Nat) : Int))/\(t : Int).toNat < 7/\Exx SeatT fun x_1 => ((((x (t : Int).toNat).live = x_1.live/\Tr 1 ((x (t : Int).toNat).gen = x_1.gen)/\Tr 1 ((x (t : Int).toNat).next = x_1.next)/\True)/\True)/\true = true/\True)/\zc7 x_1/\∀ (y : Unit), True->BC (!decide (zaX x_1)) (Exx Unit fun y => (((cstr (litL (ByteArray.mk #[])) = cstr (zaJ x)/\false = decide (zc5 x)/\True)/\True)/\true = true/\True)/\True) (BC (x (t : Int).toNat).live ((0 : Int) <= (t : Int)/\∀ (n : Int),
 let q8 : Int := (↑(liveN x t) : Int) + n; n = IntKind.i64.wrap (1 * 2 ^ min (t : Int).toNat IntKind.i64.bits)->I64 q8/\∀ (m_1 : Int), m_1 = IntKind.u64.wrap (x (t : Int).toNat).gen->∀ (m_2 : Int), m_2 = IntKind.u64.wrap (x (t : Int).toNat).next->Exx (Nat × Nat) fun x_2 =>
 let q9 : List Int := cstr (za9 x t) ++ cstr (layN x_2.1 x_2.2); ((Tr 1 (m_1 = (x_2.1 : Int))/\Tr 1 ((4 : Int) = (x_2.2 : Int))/\True)/\true = true/\True)/\(U64 x_2.1/\x_2.2 <= 1000)/\∀ (y : Unit), True->(cstr (za9 x t)).length + (cstr (layN x_2.1 x_2.2)).length <= 9223372036854775807/\Exx (Nat × Nat) fun x_3 => ((Tr 1 (m_2 = (x_3.1 : Int))/\Tr 1 ((4 : Int) = (x_3.2 : Int))/\True)/\true = true/\True)/\(U64 x_3.1/\x_3.2 <= 1000)/\∀ (y : Unit), True->q9.length + (cstr (layN x_3.1 x_3.2)).length <= 9223372036854775807/\q7/\Exx Nat fun t' => (I t'/\m t' < m t)/\Tr 1 (q1/\Tr 2 (q9 ++ cstr (layN x_3.1 x_3.2) = cstr (za9 x t')/\Tr 1 (q8 = (↑(liveN x t') : Int))/\Tr 1 (q6 = (↑t' : Int))/\Tr 32 True))/\q5) (∀ (m_1 : Int), m_1 = IntKind.u64.wrap (x (t : Int).toNat).gen->∀ (m_2 : Int), m_2 = IntKind.u64.wrap (x (t : Int).toNat).next->Exx (Nat × Nat) fun x_2 =>
 let q10 : List Int := cstr (za9 x t) ++ cstr (layN x_2.1 x_2.2); ((Tr 1 (m_1 = (x_2.1 : Int))/\Tr 1 ((4 : Int) = (x_2.2 : Int))/\True)/\true = true/\True)/\(U64 x_2.1/\x_2.2 <= 1000)/\∀ (y : Unit), True->(cstr (za9 x t)).length + (cstr (layN x_2.1 x_2.2)).length <= 9223372036854775807/\Exx (Nat × Nat) fun x_3 => ((Tr 1 (m_2 = (x_3.1 : Int))/\Tr 1 ((4 : Int) = (x_3.2 : Int))/\True)/\true = true/\True)/\(U64 x_3.1/\x_3.2 <= 1000)/\∀ (y : Unit), True->q10.length + (cstr (layN x_3.1 x_3.2)).length <= 9223372036854775807/\q7/\Exx Nat fun t' => (I t'/\m t' < m t)/\Tr 1 (q1/\Tr 2 (q10 ++ cstr (layN x_3.1 x_3.2) = cstr (za9 x t')/\Tr 1 ((↑(liveN x t) : Int) = (↑(liveN x t') : Int))/\Tr 1 (q6 = (↑t' : Int))/\Tr 32 True))/\q5))) (Exx (Nat × Nat × List Nat) fun x_1 => ((Tr 1 ((2 : Int) = (x_1.1 : Int))/\Tr 1 ((↑(liveN x t) : Int) = (x_1.2.1 : Int))/\cstr (za9 x t) = cstr x_1.2.2/\True)/\true = true/\True)/\(x_1.1 < 256/\x_1.2.1 < 256/\(∀ (c : Nat), c ∈ x_1.2.2->c < 256)/\x_1.2.2.length <= 56)/\∀ (y : Unit), True->Exx Unit fun y => (((cstr (zbR x_1.1 x_1.2.1 x_1.2.2) = cstr (zaJ x)/\true = decide (zc5 x)/\True)/\True)/\true = true/\True)/\True)) = (fnVC tb [(128, zaA zh6), (130, zaA zlP), (135, zaA zsP)] Tryz.f114 zoT (fun x => { loops := [(3, zyS x)] }) (fun _ => none)) := by kernel_rfl

theorem zwB : SpecOk Tryz.prog 114 (zaA zoT) := by
 refine zaF zaH zaG (SPok.cons zi6 (SPok.cons zlO (SPok.cons zyG SPok.nil))) Tryz.func114 (by decide) (zaI fun _ => ⟨rfl, rfl, trivial⟩) (Eq.mp qdC ?_)
 simp (maxSteps := 10000000) only [std, stdU, stdV, Exx, I64, Nat.reduceMul, Nat.reduceDiv, Nat.reduceAdd, Int.reduceToNat, zyE, zuO]
 intro l hl
 refine ⟨fun t => t <= 7/\∀ j, j < t->zaX (l j), ⟨0, ⟨by omega, fun j hj => absurd hj (Nat.not_lt_zero _)⟩, rfl, rfl, rfl⟩, fun t => 7 - t, fun t ht => ⟨fun hlt => ?_, fun hge => ?_⟩⟩
 ·obtain ⟨h1, h2⟩ := ht
  have ht7 : t < 7 := by omega
  refine ⟨by omega, by omega, by omega, hl t (by omega), fun hb => ?_, fun hs => ?_⟩
  ·have hn : ¬ zc5 l := fun k => hb (k t (by omega))
   rw [zaJ, if_neg hn]; exact ⟨rfl, (decide_eq_false hn).symm⟩
  ·have hsn := zkE hs
   have hll := zeB l t
   have hp : 2 ^ t <= 2 ^ 7 := Nat.pow_le_pow_right (by decide) (by omega)
   have e7 : (2 : Nat) ^ 7 = 128 := rfl
   have hx : ∀ j, j < t + 1->zaX (l j) := fun j hj => by
    by_cases e : j = t
    ·subst e; exact hs
    ·exact h2 j (by omega)
   rw [shl7 ht7]
   refine ⟨fun hlv => ⟨by omega, by omega, by omega, (l t).gen.toNat, zbW (by omega) (by omega), 4, rfl, by unfold U64; omega, by omega, by rw [za0, zaD]; omega, (l t).next.toNat, zbW (by omega) (by omega), 4, rfl, by unfold U64; omega, by omega, by rw [List.length_append, za0, zaD, zaD]; omega, by omega, by omega, t + 1, ⟨by omega, hx⟩, by simp only; omega, by rw [zcE, List.append_assoc], by rw [liveN, if_pos hlv]; omega, by omega⟩,
    fun hlv => ⟨(l t).gen.toNat, zbW (by omega) (by omega), 4, rfl, by unfold U64; omega, by omega, by rw [za0, zaD]; omega, (l t).next.toNat, zbW (by omega) (by omega), 4, rfl, by unfold U64; omega, by omega, by rw [List.length_append, za0, zaD, zaD]; omega, by omega, by omega, t + 1, ⟨by omega, hx⟩, by simp only; omega, by rw [zcE, List.append_assoc], by rw [liveN, hlv]; rfl, by omega⟩⟩
 ·obtain ⟨h1, h2⟩ := ht
  have e : t = 7 := by omega
  subst e
  have hok : zc5 l := h2
  have hll := zeB l 7
  exact ⟨2, rfl, by omega, by omega, zfW l 7, by rw [za0]; omega, by rw [zaJ, if_pos hok], (decide_eq_true hok).symm⟩

def zi8 : Ctr := zl7
theorem zoX : CtrOk zl7 := zaI fun _ => ⟨⟨fun _ _ => ⟨rfl, trivial⟩, trivial⟩, rfl, trivial⟩
def zsX (b : List Nat) : LA := { T := Nat, F := fun i => frm 56 [(0, octA b), (2, .ptr 1 [] 0), (6, strN (b.drop 8)), (8, .ptr 2 [] 0), (9, i64 (i : Nat))], H := fun i => [.fence, .cells 113 (fanV fun _ => 0), .cells 113 [.arr 1 16 (fun j => [i64 (if j < i then zcO b j else 0)])]] }
theorem zwD : (
 let q1 : Prop := true = true/\zaB/\(0 : Nat) = 0;
 let q2 : Prop := (1 : Nat) = 1/\(16 : Nat) = 16/\(∀ (i : Nat), i < 16->[AV.int .i64 (0 : Int)] = [AV.int .i64 (0 : Int)])/\True;
 let q3 : Prop := (113 : TypeId) = 113; ∀ (x : List Nat),
 let q4 : Prop := Exx Unit fun y => (((((1 : Nat) = 1/\(16 : Nat) = 16/\(∀ (i : Nat), i < 16->[AV.int .i64 0] = [AV.int .i64 (zbZ x i)])/\True)/\false = decide (zd0 x)/\True)/\True)/\true = true/\True)/\True;
 let q6 : Prop := (1 : Nat) = 1/\x.length = x.length/\∀ (i : Nat),
 let q5 : List AV := [AV.int .u8 (↑(x.getD i 0) : Int)]; i < x.length->q5 = q5; Oct x->Exx (List Nat) fun x_1 => (((x.length = x_1.length/\∀ (i : Nat), i < x_1.length->[AV.int .u8 (↑(x.getD i 0) : Int)] = [AV.int .u8 (↑(x_1.getD i 0) : Int)])/\True)/\true = true/\True)/\Oct x_1/\∀ (y : Unit), True->BC (!decide (zbG x_1)) q4 (BC (!decide ((↑(kindN x_1) : Int) = (3 : Int))) q4 (Exx (Nat->Prop) fun I => Exx (Nat->Nat) fun m => (Exx Nat fun t => I t/\(q6/\Tr 1 (q1/\Tr 3 (cstr (zb8 x_1) = cstr (List.drop 8 x)/\Tr 1 (q1/\Tr 1 ((0 : Int) = (t : Int))/\Tr 46 True))))/\true = true/\((113 : Nat) = (113 : TypeId)/\q2)/\((113 : Nat) = (113 : TypeId)/\(1 : Nat) = 1/\(16 : Nat) = 16/\(∀ (i : Nat), i < 16->[AV.int .i64 0] = [AV.int .i64 (if i < t then zcO x i else 0)])/\True)/\True)/\∀ (t : Nat),
 let q7 : Int := 2 * (t : Int);
 let q8 : Prop := I64 q7;
 let q9 : Int := q7 + 2;
 let q10 : Nat := q7.toNat;
 let q11 : Nat := q9.toNat;
 let q12 : Int := (t : Int) + 1; I t->BC (decide ((t : Int) < (16 : Int))) (q8/\q8/\I64 q9/\(0 : Int) <= q9/\(0 : Int) <= q7/\(q10 <= q11/\q11 <= (cstr (List.drop 8 x)).length)/\Exx (List Nat) fun x_2 => ((List.drop q10 (List.take q11 (cstr (List.drop 8 x))) = cstr x_2/\True)/\true = true/\True)/\Oct x_2/\∀ (y : Unit), True->((0 : Int) <= (t : Int)/\(t : Int) < (↑(16 : Nat) : Int))/\(t : Int).toNat < 16/\I64 q12/\Exx Nat fun t' => (I t'/\m t' < m t)/\(q6/\Tr 1 (q1/\Tr 3 (cstr (List.drop 8 x) = cstr (List.drop 8 x)/\Tr 1 (q1/\Tr 1 (q12 = (↑t' : Int))/\Tr 46 True))))/\true = true/\(q3/\q2)/\(q3/\(1 : Nat) = 1/\(16 : Nat) = 16/\(∀ (i : Nat), i < 16->[AV.int .i64 (if i = (t : Int).toNat then IntKind.i64.wrap (↑(readN x_2) : Int) else if i < t then zcO x i else 0)] = [AV.int .i64 (if i < t' then zcO x i else 0)])/\True)/\True) (Exx (Nat->Int) fun x_2 => ((((1 : Nat) = 1/\(16 : Nat) = 16/\(∀ (i : Nat), i < 16->[AV.int .i64 (if i < t then zcO x i else 0)] = [AV.int .i64 (x_2 i)])/\True)/\True)/\true = true/\True)/\(∀ (i : Nat), i < 16->I64 (x_2 i))/\∀ (y : Unit), True->BC (!decide (zdO x_2)) q4 (Exx (List Nat) fun m => (x.length = m.length/\∀ (i : Nat), i < m.length->[AV.int .u8 (↑(x.getD i 0) : Int)] = [AV.int .u8 (↑(m.getD i 0) : Int)])/\(∀ (c : Nat), c ∈ m->c < 256)/\BC (!decide (cstr (zaL x_2) = cstr m)) q4 (Exx Unit fun y => (((((1 : Nat) = 1/\(16 : Nat) = 16/\(∀ (i : Nat), i < 16->[AV.int .i64 (if i < t then zcO x i else 0)] = [AV.int .i64 (zbZ x i)])/\True)/\true = decide (zd0 x)/\True)/\True)/\true = true/\True)/\True)))))) = (fnVC tb [(107, zaA zkG), (108, zaA zoV), (113, zaA zsY)] Tryz.f90 zi8 (fun x => { loops := [(6, zsX x)] }) (fun _ => none)) := by kernel_rfl

theorem zqP : SpecOk Tryz.prog 90 (zaA zi8) := by
 refine zaF zaH zaG (SPok.cons znJ (SPok.cons zqN (SPok.cons zyU SPok.nil))) Tryz.func90 (by decide) zoX (Eq.mp zwD ?_)
 simp (maxSteps := 10000000) only [std, stdU, stdV, Exx, I64, Nat.reduceMul, Nat.reduceDiv, Nat.reduceAdd, Int.reduceToNat]
 rintro b ⟨hb, hl⟩
 have hno : ¬ zd0 b->((∀ i, i < 16->[AV.int IntKind.i64 0] = [AV.int IntKind.i64 (zbZ b i)])/\false = decide (zd0 b)) := fun h =>
  ⟨fun i _ => by rw [zbZ, if_neg h], (decide_eq_false h).symm⟩
 refine ⟨⟨hb, hl⟩, fun h => hno (fun k => h k.1), fun hr => ⟨fun h => hno (fun k => h (by rw [kindN, if_pos hr, k.2.1]; rfl)), fun hk => ?_⟩⟩
 have h64 := hr.1
 have hB : zb8 b = b.drop 8 := if_pos hr
 have hlen : (b.drop 8).length = 56 := by rw [List.length_drop]; omega
 have hbd : ∀ c ∈ b.drop 8, c < 256 := fun x hx => hb x (List.mem_of_mem_drop hx)
 refine ⟨fun t => t <= 16, ⟨0, by omega, hB, rfl, fun i _ => rfl⟩, fun t => 16 - t, fun t ht => ⟨fun hlt => ?_, fun hge => ?_⟩⟩
 ·have e1 : (2 * (t : Int)).toNat = 2 * t := by omega
  have e2 : (2 * (t : Int) + 2).toNat = 2 * t + 2 := by omega
  have p5 : readN (((b.drop 8).take (2 * t + 2)).drop (2 * t)) = getN (b.drop 8) ((2 * t : Nat) : Int) 2 := zlM (a := 2 * t) (n := 2) (by omega) (by omega) (by omega)
  have p6 := zgV (l := b.drop 8) (a := 2 * t) (n := 2) (by omega) (by omega) (by omega)
  have p7 := zo7 (l := b.drop 8) (a := 2 * t) (n := 2) hbd (by omega)
  rw [e1, e2]
  refine ⟨by omega, by omega, by omega, by omega, by omega, by omega, by omega, by omega, by omega, by omega, ⟨fun x hx => hbd x (List.mem_of_mem_take (List.mem_of_mem_drop hx)), by rw [List.length_drop, List.length_take]; omega⟩, by omega, by omega, by omega, by omega, by omega, t + 1, by omega, by simp only; omega, by omega, fun i hi => ?_⟩
  have hw : IntKind.i64.wrap ((readN (((b.drop 8).take (2 * t + 2)).drop (2 * t)) : Nat) : Int) = zcO b t := by
   have p6' : getN (b.drop 8) ((2 * t : Nat) : Int) 2 = numN (((b.drop 8).drop (2 * t)).take 2) := p6
   rw [p5, p6', zcO, List.drop_drop]
   rw [List.drop_drop] at p7
   exact zbC ⟨by omega, by omega⟩
  rw [hw]
  by_cases e : i = t
  ·subst e; rw [if_pos rfl, if_pos (by omega)]
  ·rw [if_neg e]
   by_cases e2 : i < t
   ·rw [if_pos e2, if_pos (by omega)]
   ·rw [if_neg e2, if_neg (by omega)]
 ·have e : t = 16 := by omega
  subst e
  refine ⟨zcO b, fun i hi => by rw [if_pos hi], fun i hi => ztK hb i, fun hn => hno (fun k => hn k.2.2.2.2), fun hok => ⟨hb, fun hn => hno (fun k => hn (qeD hb k)), fun h => ?_⟩⟩
  have hN : zd0 b := by
   have := (qaV hok).1
   rwa [h] at this
  exact ⟨fun i hi => by rw [if_pos hi, zbZ, if_pos hN], (decide_eq_true hN).symm⟩

def zhG : Ctr := ziJ
theorem zm0 : CtrOk ziJ := zaI fun _ => ⟨⟨fun _ _ => ⟨rfl, rfl, rfl, trivial⟩, trivial⟩, rfl, trivial⟩
def zqO (b : List Nat) : LA := { T := Nat, F := fun i => frm 72 [(0, octA b), (2, .ptr 1 [] 0), (5, i64 (b.getD 5 0 : Nat)), (6, strN (b.drop 8)), (8, .ptr 2 [] 0), (9, i64 (i : Nat))], H := fun i => [.fence, .cells 116 (zwS fun _ => seatZ), .cells 116 [.arr 3 7 (fun j => if j < i then zv1 (zaN b j) else zv1 seatZ)]] }
theorem zsW : (
 let q1 : List AV := [AV.bool false, AV.int .i64 0, AV.int .i64 0];
 let q2 : Prop := true = true/\zaB/\(0 : Nat) = 0;
 let q3 : List AV := [AV.bool seatZ.live, AV.int .i64 seatZ.gen, AV.int .i64 seatZ.next];
 let q4 : Prop := (116 : TypeId) = 116; ∀ (x : List Nat),
 let q5 : Prop := Exx Unit fun y => (((((3 : Nat) = 3/\(7 : Nat) = 7/\(∀ (i : Nat), i < 7->q1 = [AV.bool (zaK x i).live, AV.int .i64 (zaK x i).gen, AV.int .i64 (zaK x i).next])/\True)/\false = decide (zb6 x)/\True)/\True)/\true = true/\True)/\True;
 let q7 : Prop := (1 : Nat) = 1/\x.length = x.length/\∀ (i : Nat),
 let q6 : List AV := [AV.int .u8 (↑(x.getD i 0) : Int)]; i < x.length->q6 = q6;
 let q8 : Int := (↑(x.getD 5 0) : Int); Oct x->Exx (List Nat) fun x_1 => (((x.length = x_1.length/\∀ (i : Nat), i < x_1.length->[AV.int .u8 (↑(x.getD i 0) : Int)] = [AV.int .u8 (↑(x_1.getD i 0) : Int)])/\True)/\true = true/\True)/\Oct x_1/\∀ (y : Unit), True->BC (!decide (zbG x_1)) q5 (BC (!decide ((↑(kindN x_1) : Int) = (2 : Int))) q5 (Exx (Nat->Prop) fun I => Exx (Nat->Nat) fun m => (Exx Nat fun t => I t/\(q7/\Tr 1 (q2/\Tr 2 (Tr 1 ((↑(tagN x_1) : Int) = q8)/\cstr (zb8 x_1) = cstr (List.drop 8 x)/\Tr 1 (q2/\Tr 1 ((0 : Int) = (t : Int))/\Tr 62 True))))/\true = true/\((116 : Nat) = (116 : TypeId)/\(3 : Nat) = 3/\(7 : Nat) = 7/\(∀ (i : Nat), i < 7->q1 = q3)/\True)/\((116 : Nat) = (116 : TypeId)/\(3 : Nat) = 3/\(7 : Nat) = 7/\(∀ (i : Nat), i < 7->q1 = if i < t then [AV.bool (zaN x i).live, AV.int .i64 (zaN x i).gen, AV.int .i64 (zaN x i).next] else q3)/\True)/\True)/\∀ (t : Nat),
 let q9 : Int := 8 * (t : Int);
 let q10 : Prop := I64 q9;
 let q11 : Int := q9 + 4;
 let q12 : Prop := I64 q11;
 let q13 : Prop := (0 : Int) <= q11;
 let q14 : Nat := q9.toNat;
 let q15 : Nat := q11.toNat;
 let q16 : Int := q9 + 8;
 let q17 : Nat := q16.toNat;
 let q18 : Int := (t : Int) + 1; I t->BC (decide ((t : Int) < (7 : Int))) ((0 : Int) <= (t : Int)/\∀ (n : Int), n = IntKind.i64.wrap (1 * 2 ^ min (t : Int).toNat IntKind.i64.bits)->n ≠ (0 : Int)/\I64 (q8.tdiv n)/\(2 : Int) ≠ (0 : Int)/\∀ (n_1 : Int), n_1 = (q8.tdiv n).tmod 2->q10/\q10/\q12/\q13/\(0 : Int) <= q9/\(q14 <= q15/\q15 <= (cstr (List.drop 8 x)).length)/\q10/\q12/\q10/\I64 q16/\(0 : Int) <= q16/\q13/\(q15 <= q17/\q17 <= (cstr (List.drop 8 x)).length)/\Exx (List Nat) fun x_2 => ((List.drop q14 (List.take q15 (cstr (List.drop 8 x))) = cstr x_2/\True)/\true = true/\True)/\Oct x_2/\∀ (y : Unit), True->Exx (List Nat) fun x_3 =>
 let q19 : List AV := [AV.bool (decide (n_1 = (1 : Int))), AV.int .i64 (IntKind.i64.wrap (↑(readN x_2) : Int)), AV.int .i64 (IntKind.i64.wrap (↑(readN x_3) : Int))]; ((List.drop q15 (List.take q17 (cstr (List.drop 8 x))) = cstr x_3/\True)/\true = true/\True)/\Oct x_3/\∀ (y : Unit), True->((0 : Int) <= (t : Int)/\(t : Int) < (↑(7 : Nat) : Int))/\(t : Int).toNat < 7/\I64 q18/\Exx Nat fun t' => (I t'/\m t' < m t)/\(q7/\Tr 1 (q2/\Tr 2 (Tr 1 (q8 = q8)/\cstr (List.drop 8 x) = cstr (List.drop 8 x)/\Tr 1 (q2/\Tr 1 (q18 = (↑t' : Int))/\Tr 62 True))))/\true = true/\(q4/\(3 : Nat) = 3/\(7 : Nat) = 7/\(∀ (i : Nat), i < 7->q3 = q3)/\True)/\(q4/\(3 : Nat) = 3/\(7 : Nat) = 7/\(∀ (i : Nat),
 let q20 : List AV := [AV.bool (zaN x i).live, AV.int .i64 (zaN x i).gen, AV.int .i64 (zaN x i).next];
 let q21 : List AV := if i < t then q20 else q3; i < 7->zrA i (t : Int).toNat q19 q21 (zj4 i (t : Int).toNat q19 q21) = if i < t' then q20 else q3)/\True)/\True) (Exx (Nat->SeatT) fun x_2 => ((((3 : Nat) = 3/\(7 : Nat) = 7/\(∀ (i : Nat), i < 7->(if i < t then [AV.bool (zaN x i).live, AV.int .i64 (zaN x i).gen, AV.int .i64 (zaN x i).next] else q3) = [AV.bool (x_2 i).live, AV.int .i64 (x_2 i).gen, AV.int .i64 (x_2 i).next])/\True)/\True)/\true = true/\True)/\(∀ (i : Nat), i < 7->zc7 (x_2 i))/\∀ (y : Unit), True->BC (!decide (zc5 x_2)) q5 (Exx (List Nat) fun m => (x.length = m.length/\∀ (i : Nat), i < m.length->[AV.int .u8 (↑(x.getD i 0) : Int)] = [AV.int .u8 (↑(m.getD i 0) : Int)])/\(∀ (c : Nat), c ∈ m->c < 256)/\BC (!decide (cstr (zaJ x_2) = cstr m)) q5 (Exx Unit fun y => (((((3 : Nat) = 3/\(7 : Nat) = 7/\(∀ (i : Nat), i < 7->(if i < t then [AV.bool (zaN x i).live, AV.int .i64 (zaN x i).gen, AV.int .i64 (zaN x i).next] else q3) = [AV.bool (zaK x i).live, AV.int .i64 (zaK x i).gen, AV.int .i64 (zaK x i).next])/\True)/\true = decide (zb6 x)/\True)/\True)/\true = true/\True)/\True)))))) = (fnVC tb [(107, zaA zkG), (108, zaA zoV), (114, zaA zoT)] Tryz.f91 zhG (fun x => { loops := [(6, zqO x)], loose := [(8, [2])] }) (fun _ => none)) := by kernel_rfl

theorem zoW : SpecOk Tryz.prog 91 (zaA zhG) := by
 refine zaF zaH zaG (SPok.cons znJ (SPok.cons zqN (SPok.cons zwB SPok.nil))) Tryz.func91 (by decide) zm0 (Eq.mp zsW ?_)
 simp (maxSteps := 10000000) only [std, stdU, stdV, Exx, I64, Nat.reduceMul, Nat.reduceDiv, Nat.reduceAdd, Int.reduceToNat]
 rintro b ⟨hb, hl⟩
 have hno : ¬ zb6 b->((∀ i, i < 7->[AV.bool false, AV.int IntKind.i64 0, AV.int IntKind.i64 0] = [AV.bool (zaK b i).live, AV.int IntKind.i64 (zaK b i).gen, AV.int IntKind.i64 (zaK b i).next])/\false = decide (zb6 b)) := fun h =>
  ⟨fun i _ => by rw [zaK, if_neg h]; rfl, (decide_eq_false h).symm⟩
 refine ⟨⟨hb, hl⟩, fun h => hno (fun k => h k.1), fun hr => ⟨fun h => hno (fun k => h (by rw [kindN, if_pos hr, k.2.1]; rfl)), fun hk => ?_⟩⟩
 have h64 := hr.1
 have hB : zb8 b = b.drop 8 := if_pos hr
 have hT : tagN b = b.getD 5 0 := if_pos hr
 have g5 : b.getD 5 0 < 256 := zbO (p := fun c => c < 256) hb (by decide) 5
 have hlen : (b.drop 8).length = 56 := by rw [List.length_drop]; omega
 have hbd : ∀ c ∈ b.drop 8, c < 256 := fun x hx => hb x (List.mem_of_mem_drop hx)
 have ho : ∀ m n, Oct (((b.drop 8).take m).drop n) := fun m n => ⟨fun x hx => hbd x (List.mem_of_mem_take (List.mem_of_mem_drop hx)), by rw [List.length_drop, List.length_take]; omega⟩
 refine ⟨fun t => t <= 7, ⟨0, by omega, hT, hB, rfl, fun i _ => rfl, fun i _ => rfl⟩, fun t => 7 - t, fun t ht => ⟨fun hlt => ?_, fun hge => ?_⟩⟩
 ·have ht7 : t < 7 := by omega
  have e1 : (8 * (t : Int)).toNat = 8 * t := by omega
  have e2 : (8 * (t : Int) + 4).toNat = 8 * t + 4 := by omega
  have e3 : (8 * (t : Int) + 8).toNat = 8 * t + 4 + 4 := by omega
  have e4 : ((b.getD 5 0 : Nat) : Int).tdiv ((2 ^ t : Nat) : Int) = ((b.getD 5 0 / 2 ^ t : Nat) : Int) := rfl
  have e5 : ((b.getD 5 0 / 2 ^ t : Nat) : Int).tmod 2 = ((b.getD 5 0 / 2 ^ t % 2 : Nat) : Int) := rfl
  have hpos : 0 < 2 ^ t := Nat.pow_pos (by decide)
  have hdl : b.getD 5 0 / 2 ^ t <= b.getD 5 0 := Nat.div_le_self _ _
  have hw1 : IntKind.i64.wrap ((readN (((b.drop 8).take (8 * t + 4)).drop (8 * t)) : Nat) : Int) = (zaN b t).gen := by
   have p5 : readN (((b.drop 8).take (8 * t + 4)).drop (8 * t)) = getN (b.drop 8) ((8 * t : Nat) : Int) 4 := zlM (a := 8 * t) (n := 4) (by omega) (by omega) (by omega)
   have p6 : getN (b.drop 8) ((8 * t : Nat) : Int) 4 = numN (((b.drop 8).drop (8 * t)).take 4) := zgV (l := b.drop 8) (a := 8 * t) (n := 4) (by omega) (by omega) (by omega)
   have p7 := zo7 (l := b.drop 8) (a := 8 * t) (n := 4) hbd (by omega)
   rw [p5, p6, zaN, List.drop_drop]
   rw [List.drop_drop] at p7
   exact zbC ⟨by omega, by omega⟩
  have hw2 : IntKind.i64.wrap ((readN (((b.drop 8).take (8 * t + 4 + 4)).drop (8 * t + 4)) : Nat) : Int) = (zaN b t).next := by
   have p5 : readN (((b.drop 8).take (8 * t + 4 + 4)).drop (8 * t + 4)) = getN (b.drop 8) ((8 * t + 4 : Nat) : Int) 4 := zlM (a := 8 * t + 4) (n := 4) (by omega) (by omega) (by omega)
   have p6 : getN (b.drop 8) ((8 * t + 4 : Nat) : Int) 4 = numN (((b.drop 8).drop (8 * t + 4)).take 4) := zgV (l := b.drop 8) (a := 8 * t + 4) (n := 4) (by omega) (by omega) (by omega)
   have p7 := zo7 (l := b.drop 8) (a := 8 * t + 4) (n := 4) hbd (by omega)
   rw [p5, p6, zaN, List.drop_drop, show 8 + (8 * t + 4) = 12 + 8 * t by omega]
   rw [List.drop_drop, show 8 + (8 * t + 4) = 12 + 8 * t by omega] at p7
   exact zbC ⟨by omega, by omega⟩
  have hw3 : decide (((b.getD 5 0 / 2 ^ t % 2 : Nat) : Int) = 1) = (zaN b t).live := by
   rw [Bool.eq_iff_iff, decide_eq_true_iff, zaN, beq_iff_eq]; omega
  rw [shl7 ht7, e1, e2, e3, e4, e5, hw1, hw2, hw3]
  have hq : ∀ q : Nat, q <= b.getD 5 0->-9223372036854775808 <= (q : Int)/\(q : Int) <= 9223372036854775807 := fun q hq => ⟨by omega, by omega⟩
  have hq := hq _ hdl
  refine ⟨by omega, by omega, hq.1, hq.2, by omega, by omega, by omega, by omega, by omega, by omega, by omega, by omega, by omega, by omega, by omega, by omega, by omega, by omega, by omega, by omega, by omega, by omega, by omega, by omega, by omega, by omega, by omega, ho _ _, ho _ _, by omega, by omega, by omega, by omega, by omega, t + 1, by omega, by simp only; omega, by omega, fun i hi => ?_⟩
  by_cases e : i = t
  ·subst e; rw [if_pos rfl, if_pos (by omega)]
  ·rw [if_neg e]
   by_cases e2 : i < t
   ·rw [if_pos e2, if_pos (by omega)]
   ·rw [if_neg e2, if_neg (by omega)]
 ·have e : t = 7 := by omega
  subst e
  refine ⟨zaN b, fun i hi => by rw [if_pos hi], fun i hi => zoQ hb i, fun hn => hno (fun k => hn k.2.2.2), fun hok => ⟨hb, fun hn => hno (fun k => hn (zzZ hb k)), fun h => ?_⟩⟩
  have hN : zb6 b := by
   have := (zwR hok).1
   rwa [h] at this
  exact ⟨fun i hi => by rw [if_pos hi, zaK, if_pos hN], (decide_eq_true hN).symm⟩

end Yard
