/- The law of the sums' linearity. -/
import Derived.Test.YtoajfhpiepkjkaaCrcFam
namespace Yard
open Go Go.Sx Go.Proofs
set_option linter.unusedVariables false
set_option linter.unusedSimpArgs false
set_option maxRecDepth 4000
set_option maxHeartbeats 40000000

def linN (x : List Nat × List Nat × List Nat) : Nat := min (min x.1.length x.2.1.length) x.2.2.length
def linX (x : List Nat × List Nat × List Nat) (i : Nat) : Nat := x.1.getD i 0 ^^^ x.2.1.getD i 0 ^^^ x.2.2.getD i 0
def linL (x : List Nat × List Nat × List Nat) : LA := { T := Nat, F := fun i => frm 81 [(0, octs x.1), (1, octs x.2.1), (2, octs x.2.2), (7, .int .i64 (linN x : Nat)), (8, .sl 1 [] 0 1 0 (linN x) (linN x)), (9, .int .i64 (i : Int))], H := fun i => [.fence, .row 5 1 (linN x) (linN x) (fun j => [.int .u8 ((if j < i then linX x j else 0 : Nat) : Int)])] }

theorem xorL_getD : ∀ {l m : List Nat} {i : Nat}, l.length = m.length → (xorL l m).getD i 0 = l.getD i 0 ^^^ m.getD i 0
  | [], [], _, _ => by simp [xorL]
  | a :: l, b :: m, 0, _ => by simp [xorL]
  | a :: l, b :: m, i + 1, h => by
    have := xorL_getD (l := l) (m := m) (i := i) (by simpa using h)
    simpa [xorL] using this
  | [], _ :: _, _, h => by simp at h
  | _ :: _, [], _, h => by simp at h
theorem take_getD0 {l : List Nat} {n i : Nat} (h : i < n) : (l.take n).getD i 0 = l.getD i 0 := by
  rw [List.getD_eq_getElem?_getD, List.getD_eq_getElem?_getD, List.getElem?_take, if_pos h]
theorem take_bytes {l : List Nat} (h : OctL l) (hl : l.length ≤ 300) (n : Nat) : Bytes (l.take n) :=
  ⟨fun c hc => h.1 c (List.mem_of_mem_take hc), by rw [List.length_take]; omega⟩
def one (l : List Nat) (n : Nat) : Fam := ⟨1, fun _ => n, fun _ j => l.getD j 0⟩
theorem one_fit (l : List Nat) (n : Nat) : ∀ i : Nat, i < (one l n).n → (if i = 0 then [AV.ro 1 n fun i => [AV.int IntKind.u8 ((l.getD i 0 : Nat) : Int)]] else [AV.nils]) = [AV.ro 1 ((one l n).m i) fun j => [AV.int IntKind.u8 (((one l n).f i j : Nat) : Int)]] := fun i hi => by
  rw [if_pos (show i = 0 by have : (one l n).n = 1 := rfl; omega)]; rfl
theorem one_list {l : List Nat} {n : Nat} (h : n ≤ l.length) : famL (one l n) = [l.take n] := by
  have : (List.range n).map (fun j => l.getD j 0) = l.take n := list_ext_getD 0 (by simp; omega) fun i hi => by
    have hi' : i < n := by rw [List.length_take] at hi; omega
    rw [getD_mapRange, if_pos hi', take_getD0 hi']
  show [(List.range n).map (fun j => l.getD j 0)] = _
  rw [this]
theorem lin_sum {x y z d : Nat} (h : x ^^^ y ^^^ z = d) (o : Nat) : (((x ^^^ o) ^^^ (y ^^^ o)) ^^^ (z ^^^ o)) ^^^ (d ^^^ o) = 0 := by
  subst h
  apply Nat.eq_of_testBit_eq
  intro i
  simp only [Nat.testBit_xor, Nat.zero_testBit]
  cases x.testBit i <;> cases y.testBit i <;> cases z.testBit i <;> cases o.testBit i <;> rfl

-- callees: 18=crcAwake_ok 22=sumF_ok
theorem crcLinearV : (∀ (x : List Nat × List Nat × List Nat),
 OctL x.fst ∧ OctL x.snd.fst ∧ OctL x.snd.snd →
 Exx Unit fun x_1 =>
 Tr 1 (true = true ∧ True) ∧
 Tr 1
 (∀ (y : Unit),
 True →
 BC (decide (300 < (↑x.fst.length : Int)))
 (Exx Unit fun x => Tr 1 (true = true ∧ True) ∧ Tr 1 (∀ (y : Unit), True → Exx Unit fun y => ((true = true ∧ True) ∧ true = true ∧ True) ∧ True))
 (BC (decide (300 < (↑x.snd.fst.length : Int)))
 (Exx Unit fun x => Tr 1 (true = true ∧ True) ∧ Tr 1 (∀ (y : Unit), True → Exx Unit fun y => ((true = true ∧ True) ∧ true = true ∧ True) ∧ True))
 (BC (decide (300 < (↑x.snd.snd.length : Int)))
 (Exx Unit fun x => Tr 1 (true = true ∧ True) ∧ Tr 1 (∀ (y : Unit), True → Exx Unit fun y => ((true = true ∧ True) ∧ true = true ∧ True) ∧ True))
 ((0 ≤ min (min (↑x.fst.length : Int) (↑x.snd.fst.length : Int)) (↑x.snd.snd.length : Int) ∧
 min (min (↑x.fst.length : Int) (↑x.snd.fst.length : Int)) (↑x.snd.snd.length : Int) ≤
 min (min (↑x.fst.length : Int) (↑x.snd.fst.length : Int)) (↑x.snd.snd.length : Int) ∧
 (↑1 : Int) * min (min (↑x.fst.length : Int) (↑x.snd.fst.length : Int)) (↑x.snd.snd.length : Int) ≤ 281474976710656 ∧
 min (min (↑x.fst.length : Int) (↑x.snd.fst.length : Int)) (↑x.snd.snd.length : Int) ≤ 9223372036854775807) ∧
 Exx (Nat → Prop) fun I =>
 Exx (Nat → Nat) fun m =>
 (Exx Nat fun t =>
 I t ∧
 (((1 : Nat) = (1 : Nat) ∧
 x.fst.length = x.fst.length ∧
 ∀ (i : Nat), i < x.fst.length → [AV.int IntKind.u8 (↑(x.fst.getD i 0) : Int)] = [AV.int IntKind.u8 (↑(x.fst.getD i 0) : Int)]) ∧
 ((1 : Nat) = (1 : Nat) ∧
 x.snd.fst.length = x.snd.fst.length ∧
 ∀ (i : Nat),
 i < x.snd.fst.length → [AV.int IntKind.u8 (↑(x.snd.fst.getD i 0) : Int)] = [AV.int IntKind.u8 (↑(x.snd.fst.getD i 0) : Int)]) ∧
 ((1 : Nat) = (1 : Nat) ∧
 x.snd.snd.length = x.snd.snd.length ∧
 ∀ (i : Nat),
 i < x.snd.snd.length → [AV.int IntKind.u8 (↑(x.snd.snd.getD i 0) : Int)] = [AV.int IntKind.u8 (↑(x.snd.snd.getD i 0) : Int)]) ∧
 Tr 4
 (Tr 1 (min (min (↑x.fst.length : Int) (↑x.snd.fst.length : Int)) (↑x.snd.snd.length : Int) = (↑(linN x) : Int)) ∧
 (true = true ∧
 NilNil ∧
 (0 : Nat) = (0 : Nat) ∧
 (1 : Nat) = (1 : Nat) ∧
 (0 : Nat) = (0 : Nat) ∧
 (min (min (↑x.fst.length : Int) (↑x.snd.fst.length : Int)) (↑x.snd.snd.length : Int)).toNat = linN x ∧
 (min (min (↑x.fst.length : Int) (↑x.snd.fst.length : Int)) (↑x.snd.snd.length : Int)).toNat = linN x) ∧
 Tr 1 (0 = (↑t : Int)) ∧ Tr 71 True)) ∧
 true = true ∧
 ((5 : TypeId) = (5 : TypeId) ∧
 (1 : Nat) = (1 : Nat) ∧
 (min (min (↑x.fst.length : Int) (↑x.snd.fst.length : Int)) (↑x.snd.snd.length : Int)).toNat = linN x ∧
 linN x ≤ (min (min (↑x.fst.length : Int) (↑x.snd.fst.length : Int)) (↑x.snd.snd.length : Int)).toNat ∧
 ∀ (i : Nat), i < linN x → [AV.int IntKind.u8 0] = [AV.int IntKind.u8 (↑(if i < t then linX x i else 0) : Int)]) ∧
 True) ∧
 ∀ (t : Nat),
 I t →
 BC (decide ((↑t : Int) < (↑(linN x) : Int)))
 ((0 ≤ (↑t : Int) ∧ (↑t : Int) < (↑x.fst.length : Int)) ∧
 (0 ≤ (↑t : Int) ∧ (↑t : Int) < (↑x.snd.fst.length : Int)) ∧
 ∀ (n : Int),
 n = bits BinOp.xor IntKind.u8 (↑(x.fst.getD (↑t : Int).toNat 0) : Int) (↑(x.snd.fst.getD (↑t : Int).toNat 0) : Int) →
 (0 ≤ (↑t : Int) ∧ (↑t : Int) < (↑x.snd.snd.length : Int)) ∧
 ∀ (n_1 : Int),
 n_1 = bits BinOp.xor IntKind.u8 n (↑(x.snd.snd.getD (↑t : Int).toNat 0) : Int) →
 (0 ≤ (↑t : Int) ∧ (↑t : Int) < (↑(linN x) : Int)) ∧
 0 + (↑t : Int).toNat < linN x ∧
 linN x = linN x ∧
 I64 ((↑t : Int) + 1) ∧
 Exx Nat fun t' =>
 (I t' ∧ m t' < m t) ∧
 (((1 : Nat) = (1 : Nat) ∧
 x.fst.length = x.fst.length ∧
 ∀ (i : Nat),
 i < x.fst.length →
 [AV.int IntKind.u8 (↑(x.fst.getD i 0) : Int)] = [AV.int IntKind.u8 (↑(x.fst.getD i 0) : Int)]) ∧
 ((1 : Nat) = (1 : Nat) ∧
 x.snd.fst.length = x.snd.fst.length ∧
 ∀ (i : Nat),
 i < x.snd.fst.length →
 [AV.int IntKind.u8 (↑(x.snd.fst.getD i 0) : Int)] = [AV.int IntKind.u8 (↑(x.snd.fst.getD i 0) : Int)]) ∧
 ((1 : Nat) = (1 : Nat) ∧
 x.snd.snd.length = x.snd.snd.length ∧
 ∀ (i : Nat),
 i < x.snd.snd.length →
 [AV.int IntKind.u8 (↑(x.snd.snd.getD i 0) : Int)] = [AV.int IntKind.u8 (↑(x.snd.snd.getD i 0) : Int)]) ∧
 Tr 4
 (Tr 1 ((↑(linN x) : Int) = (↑(linN x) : Int)) ∧
 (true = true ∧
 NilNil ∧
 (0 : Nat) = (0 : Nat) ∧
 (1 : Nat) = (1 : Nat) ∧ (0 : Nat) = (0 : Nat) ∧ linN x = linN x ∧ linN x = linN x) ∧
 Tr 1 ((↑t : Int) + 1 = (↑t' : Int)) ∧ Tr 71 True)) ∧
 true = true ∧
 ((5 : TypeId) = (5 : TypeId) ∧
 (1 : Nat) = (1 : Nat) ∧
 linN x = linN x ∧
 linN x ≤ linN x ∧
 ∀ (i : Nat),
 i < linN x →
 (if i = 0 + (↑t : Int).toNat then [AV.int IntKind.u8 n_1]
 else [AV.int IntKind.u8 (↑(if i < t then linX x i else 0) : Int)]) =
 [AV.int IntKind.u8 (↑(if i < t' then linX x i else 0) : Int)]) ∧
 True)
 (0 ≤ (↑(linN x) : Int) ∧
 (0 ≤ (↑(linN x) : Int).toNat ∧ (↑(linN x) : Int).toNat ≤ x.fst.length) ∧
 0 ≤ (↑(linN x) : Int) ∧
 (0 ≤ (↑(linN x) : Int).toNat ∧ (↑(linN x) : Int).toNat ≤ x.snd.fst.length) ∧
 0 ≤ (↑(linN x) : Int) ∧
 (0 ≤ (↑(linN x) : Int).toNat ∧ (↑(linN x) : Int).toNat ≤ x.snd.snd.length) ∧
 ((Exx Fam fun x_2 =>
 ((((0 : Nat) + (1 : Nat) ≤ (1 : Nat) ∧
 1 = x_2.n ∧
 ∀ (i : Nat),
 i < x_2.n →
 (if 0 + i = 0 * 1 / 1 then
 [AV.ro 1 ((↑(linN x) : Int).toNat - 0) fun i => [AV.int IntKind.u8 (↑(x.fst.getD (0 + i) 0) : Int)]]
 else [AV.nils]) =
 [AV.ro 1 (x_2.m i) fun j => [AV.int IntKind.u8 (↑(x_2.f i j) : Int)]]) ∧
 True) ∧
 true = true ∧ True) ∧
 Bytess (famL x_2) ∧
 ∀ (y : Unit),
 True →
 ((Exx Fam fun x_3 =>
 ((((0 : Nat) + (1 : Nat) ≤ (1 : Nat) ∧
 1 = x_3.n ∧
 ∀ (i : Nat),
 i < x_3.n →
 (if 0 + i = 0 * 1 / 1 then
 [AV.ro 1 ((↑(linN x) : Int).toNat - 0) fun i =>
 [AV.int IntKind.u8 (↑(x.snd.fst.getD (0 + i) 0) : Int)]]
 else [AV.nils]) =
 [AV.ro 1 (x_3.m i) fun j => [AV.int IntKind.u8 (↑(x_3.f i j) : Int)]]) ∧
 True) ∧
 true = true ∧ True) ∧
 Bytess (famL x_3) ∧
 ∀ (y : Unit),
 True →
 ∀ (n : Int),
 n = bits BinOp.xor IntKind.u32 (↑(sumN (famL x_2)) : Int) (↑(sumN (famL x_3)) : Int) →
 ((Exx Fam fun x_4 =>
 ((((0 : Nat) + (1 : Nat) ≤ (1 : Nat) ∧
 1 = x_4.n ∧
 ∀ (i : Nat),
 i < x_4.n →
 (if 0 + i = 0 * 1 / 1 then
 [AV.ro 1 ((↑(linN x) : Int).toNat - 0) fun i =>
 [AV.int IntKind.u8 (↑(x.snd.snd.getD (0 + i) 0) : Int)]]
 else [AV.nils]) =
 [AV.ro 1 (x_4.m i) fun j => [AV.int IntKind.u8 (↑(x_4.f i j) : Int)]]) ∧
 True) ∧
 true = true ∧ True) ∧
 Bytess (famL x_4) ∧
 ∀ (y : Unit),
 True →
 ∀ (n_1 : Int),
 n_1 = bits BinOp.xor IntKind.u32 n (↑(sumN (famL x_4)) : Int) →
 Exx Fam fun x_5 =>
 ((((1 : Nat) = (1 : Nat) ∧
 1 = x_5.n ∧
 1 ≤ [AV.sl 1 [] 0 1 0 (linN x) (linN x)].length ∧
 (0 + linN x ≤ linN x ∧
 linN x = x_5.m 0 ∧
 ∀ (j : Nat),
 j < x_5.m 0 →
 [AV.int IntKind.u8
 (↑(if 0 + j < t then linX x (0 + j) else 0) : Int)] =
 [AV.int IntKind.u8 (↑(x_5.f 0 j) : Int)]) ∧
 True) ∧
 True) ∧
 true = true ∧ True) ∧
 Bytess (famL x_5) ∧
 ∀ (y : Unit),
 True →
 ∀ (n : Int),
 n = bits BinOp.xor IntKind.u32 n_1 (↑(sumN (famL x_5)) : Int) →
 Exx Unit fun y =>
 ((decide (n = 0) = true ∧ True) ∧ true = true ∧ True) ∧ True) ∧
 Exx Fam fun x_4 =>
 ((((0 : Nat) + (1 : Nat) ≤ (1 : Nat) ∧
 1 = x_4.n ∧
 ∀ (i : Nat),
 i < x_4.n →
 (if 0 + i = 0 * 1 / 1 then
 [AV.ro 1 ((↑(linN x) : Int).toNat - 0) fun i =>
 [AV.int IntKind.u8 (↑(x.snd.snd.getD (0 + i) 0) : Int)]]
 else [AV.nils]) =
 [AV.ro 1 (x_4.m i) fun j => [AV.int IntKind.u8 (↑(x_4.f i j) : Int)]]) ∧
 True) ∧
 true = true ∧ True) ∧
 Bytess (famL x_4) ∧
 ∀ (y : Unit),
 True →
 ∀ (n_1 : Int),
 n_1 = bits BinOp.xor IntKind.u32 n (↑(sumN (famL x_4)) : Int) →
 Exx Fam fun x_5 =>
 ((((1 : Nat) = (1 : Nat) ∧
 1 = x_5.n ∧
 1 ≤ [AV.sl 1 [] 0 1 0 (linN x) (linN x)].length ∧
 (0 + linN x ≤ linN x ∧
 linN x = x_5.m 0 ∧
 ∀ (j : Nat),
 j < x_5.m 0 →
 [AV.int IntKind.u8
 (↑(if 0 + j < t then linX x (0 + j) else 0) : Int)] =
 [AV.int IntKind.u8 (↑(x_5.f 0 j) : Int)]) ∧
 True) ∧
 True) ∧
 true = true ∧ True) ∧
 Bytess (famL x_5) ∧
 ∀ (y : Unit),
 True →
 ∀ (n : Int),
 n = bits BinOp.xor IntKind.u32 n_1 (↑(sumN (famL x_5)) : Int) →
 Exx Unit fun y =>
 ((decide (n = 0) = true ∧ True) ∧ true = true ∧ True) ∧ True) ∧
 Exx Fam fun x_4 =>
 ((((0 : Nat) + (1 : Nat) ≤ (1 : Nat) ∧
 1 = x_4.n ∧
 ∀ (i : Nat),
 i < x_4.n →
 (if 0 + i = 0 * 1 / 1 then
 [AV.ro 1 ((↑(linN x) : Int).toNat - 0) fun i =>
 [AV.int IntKind.u8 (↑(x.snd.snd.getD (0 + i) 0) : Int)]]
 else [AV.nils]) =
 [AV.ro 1 (x_4.m i) fun j => [AV.int IntKind.u8 (↑(x_4.f i j) : Int)]]) ∧
 True) ∧
 true = true ∧ True) ∧
 Bytess (famL x_4) ∧
 ∀ (y : Unit),
 True →
 ∀ (n_1 : Int),
 n_1 = bits BinOp.xor IntKind.u32 n (↑(sumN (famL x_4)) : Int) →
 Exx Fam fun x_5 =>
 ((((1 : Nat) = (1 : Nat) ∧
 1 = x_5.n ∧
 1 ≤ [AV.sl 1 [] 0 1 0 (linN x) (linN x)].length ∧
 (0 + linN x ≤ linN x ∧
 linN x = x_5.m 0 ∧
 ∀ (j : Nat),
 j < x_5.m 0 →
 [AV.int IntKind.u8
 (↑(if 0 + j < t then linX x (0 + j) else 0) : Int)] =
 [AV.int IntKind.u8 (↑(x_5.f 0 j) : Int)]) ∧
 True) ∧
 True) ∧
 true = true ∧ True) ∧
 Bytess (famL x_5) ∧
 ∀ (y : Unit),
 True →
 ∀ (n : Int),
 n = bits BinOp.xor IntKind.u32 n_1 (↑(sumN (famL x_5)) : Int) →
 Exx Unit fun y =>
 ((decide (n = 0) = true ∧ True) ∧ true = true ∧ True) ∧ True) ∧
 ((Exx Fam fun x_3 =>
 ((((0 : Nat) + (1 : Nat) ≤ (1 : Nat) ∧
 1 = x_3.n ∧
 ∀ (i : Nat),
 i < x_3.n →
 (if 0 + i = 0 * 1 / 1 then
 [AV.ro 1 ((↑(linN x) : Int).toNat - 0) fun i =>
 [AV.int IntKind.u8 (↑(x.snd.fst.getD (0 + i) 0) : Int)]]
 else [AV.nils]) =
 [AV.ro 1 (x_3.m i) fun j => [AV.int IntKind.u8 (↑(x_3.f i j) : Int)]]) ∧
 True) ∧
 true = true ∧ True) ∧
 Bytess (famL x_3) ∧
 ∀ (y : Unit),
 True →
 ∀ (n : Int),
 n = bits BinOp.xor IntKind.u32 (↑(sumN (famL x_2)) : Int) (↑(sumN (famL x_3)) : Int) →
 (Exx Fam fun x_4 =>
 ((((0 : Nat) + (1 : Nat) ≤ (1 : Nat) ∧
 1 = x_4.n ∧
 ∀ (i : Nat),
 i < x_4.n →
 (if 0 + i = 0 * 1 / 1 then
 [AV.ro 1 ((↑(linN x) : Int).toNat - 0) fun i =>
 [AV.int IntKind.u8 (↑(x.snd.snd.getD (0 + i) 0) : Int)]]
 else [AV.nils]) =
 [AV.ro 1 (x_4.m i) fun j => [AV.int IntKind.u8 (↑(x_4.f i j) : Int)]]) ∧
 True) ∧
 true = true ∧ True) ∧
 Bytess (famL x_4) ∧
 ∀ (y : Unit),
 True →
 ∀ (n_1 : Int),
 n_1 = bits BinOp.xor IntKind.u32 n (↑(sumN (famL x_4)) : Int) →
 Exx Fam fun x_5 =>
 ((((1 : Nat) = (1 : Nat) ∧
 1 = x_5.n ∧
 1 ≤ [AV.sl 1 [] 0 1 0 (linN x) (linN x)].length ∧
 (0 + linN x ≤ linN x ∧
 linN x = x_5.m 0 ∧
 ∀ (j : Nat),
 j < x_5.m 0 →
 [AV.int IntKind.u8
 (↑(if 0 + j < t then linX x (0 + j) else 0) :
 Int)] =
 [AV.int IntKind.u8 (↑(x_5.f 0 j) : Int)]) ∧
 True) ∧
 True) ∧
 true = true ∧ True) ∧
 Bytess (famL x_5) ∧
 ∀ (y : Unit),
 True →
 ∀ (n : Int),
 n = bits BinOp.xor IntKind.u32 n_1 (↑(sumN (famL x_5)) : Int) →
 Exx Unit fun y =>
 ((decide (n = 0) = true ∧ True) ∧ true = true ∧ True) ∧ True) ∧
 Exx Fam fun x_4 =>
 ((((0 : Nat) + (1 : Nat) ≤ (1 : Nat) ∧
 1 = x_4.n ∧
 ∀ (i : Nat),
 i < x_4.n →
 (if 0 + i = 0 * 1 / 1 then
 [AV.ro 1 ((↑(linN x) : Int).toNat - 0) fun i =>
 [AV.int IntKind.u8 (↑(x.snd.snd.getD (0 + i) 0) : Int)]]
 else [AV.nils]) =
 [AV.ro 1 (x_4.m i) fun j => [AV.int IntKind.u8 (↑(x_4.f i j) : Int)]]) ∧
 True) ∧
 true = true ∧ True) ∧
 Bytess (famL x_4) ∧
 ∀ (y : Unit),
 True →
 ∀ (n_1 : Int),
 n_1 = bits BinOp.xor IntKind.u32 n (↑(sumN (famL x_4)) : Int) →
 Exx Fam fun x_5 =>
 ((((1 : Nat) = (1 : Nat) ∧
 1 = x_5.n ∧
 1 ≤ [AV.sl 1 [] 0 1 0 (linN x) (linN x)].length ∧
 (0 + linN x ≤ linN x ∧
 linN x = x_5.m 0 ∧
 ∀ (j : Nat),
 j < x_5.m 0 →
 [AV.int IntKind.u8
 (↑(if 0 + j < t then linX x (0 + j) else 0) :
 Int)] =
 [AV.int IntKind.u8 (↑(x_5.f 0 j) : Int)]) ∧
 True) ∧
 True) ∧
 true = true ∧ True) ∧
 Bytess (famL x_5) ∧
 ∀ (y : Unit),
 True →
 ∀ (n : Int),
 n = bits BinOp.xor IntKind.u32 n_1 (↑(sumN (famL x_5)) : Int) →
 Exx Unit fun y =>
 ((decide (n = 0) = true ∧ True) ∧ true = true ∧ True) ∧ True) ∧
 Exx Fam fun x_3 =>
 ((((0 : Nat) + (1 : Nat) ≤ (1 : Nat) ∧
 1 = x_3.n ∧
 ∀ (i : Nat),
 i < x_3.n →
 (if 0 + i = 0 * 1 / 1 then
 [AV.ro 1 ((↑(linN x) : Int).toNat - 0) fun i =>
 [AV.int IntKind.u8 (↑(x.snd.fst.getD (0 + i) 0) : Int)]]
 else [AV.nils]) =
 [AV.ro 1 (x_3.m i) fun j => [AV.int IntKind.u8 (↑(x_3.f i j) : Int)]]) ∧
 True) ∧
 true = true ∧ True) ∧
 Bytess (famL x_3) ∧
 ∀ (y : Unit),
 True →
 ∀ (n : Int),
 n = bits BinOp.xor IntKind.u32 (↑(sumN (famL x_2)) : Int) (↑(sumN (famL x_3)) : Int) →
 Exx Fam fun x_4 =>
 ((((0 : Nat) + (1 : Nat) ≤ (1 : Nat) ∧
 1 = x_4.n ∧
 ∀ (i : Nat),
 i < x_4.n →
 (if 0 + i = 0 * 1 / 1 then
 [AV.ro 1 ((↑(linN x) : Int).toNat - 0) fun i =>
 [AV.int IntKind.u8 (↑(x.snd.snd.getD (0 + i) 0) : Int)]]
 else [AV.nils]) =
 [AV.ro 1 (x_4.m i) fun j => [AV.int IntKind.u8 (↑(x_4.f i j) : Int)]]) ∧
 True) ∧
 true = true ∧ True) ∧
 Bytess (famL x_4) ∧
 ∀ (y : Unit),
 True →
 ∀ (n_1 : Int),
 n_1 = bits BinOp.xor IntKind.u32 n (↑(sumN (famL x_4)) : Int) →
 Exx Fam fun x_5 =>
 ((((1 : Nat) = (1 : Nat) ∧
 1 = x_5.n ∧
 1 ≤ [AV.sl 1 [] 0 1 0 (linN x) (linN x)].length ∧
 (0 + linN x ≤ linN x ∧
 linN x = x_5.m 0 ∧
 ∀ (j : Nat),
 j < x_5.m 0 →
 [AV.int IntKind.u8
 (↑(if 0 + j < t then linX x (0 + j) else 0) : Int)] =
 [AV.int IntKind.u8 (↑(x_5.f 0 j) : Int)]) ∧
 True) ∧
 True) ∧
 true = true ∧ True) ∧
 Bytess (famL x_5) ∧
 ∀ (y : Unit),
 True →
 ∀ (n : Int),
 n = bits BinOp.xor IntKind.u32 n_1 (↑(sumN (famL x_5)) : Int) →
 Exx Unit fun y =>
 ((decide (n = 0) = true ∧ True) ∧ true = true ∧ True) ∧ True) ∧
 (Exx Fam fun x_3 =>
 ((((0 : Nat) + (1 : Nat) ≤ (1 : Nat) ∧
 1 = x_3.n ∧
 ∀ (i : Nat),
 i < x_3.n →
 (if 0 + i = 0 * 1 / 1 then
 [AV.ro 1 ((↑(linN x) : Int).toNat - 0) fun i =>
 [AV.int IntKind.u8 (↑(x.snd.fst.getD (0 + i) 0) : Int)]]
 else [AV.nils]) =
 [AV.ro 1 (x_3.m i) fun j => [AV.int IntKind.u8 (↑(x_3.f i j) : Int)]]) ∧
 True) ∧
 true = true ∧ True) ∧
 Bytess (famL x_3) ∧
 ∀ (y : Unit),
 True →
 ∀ (n : Int),
 n = bits BinOp.xor IntKind.u32 (↑(sumN (famL x_2)) : Int) (↑(sumN (famL x_3)) : Int) →
 Exx Fam fun x_4 =>
 ((((0 : Nat) + (1 : Nat) ≤ (1 : Nat) ∧
 1 = x_4.n ∧
 ∀ (i : Nat),
 i < x_4.n →
 (if 0 + i = 0 * 1 / 1 then
 [AV.ro 1 ((↑(linN x) : Int).toNat - 0) fun i =>
 [AV.int IntKind.u8 (↑(x.snd.snd.getD (0 + i) 0) : Int)]]
 else [AV.nils]) =
 [AV.ro 1 (x_4.m i) fun j => [AV.int IntKind.u8 (↑(x_4.f i j) : Int)]]) ∧
 True) ∧
 true = true ∧ True) ∧
 Bytess (famL x_4) ∧
 ∀ (y : Unit),
 True →
 ∀ (n_1 : Int),
 n_1 = bits BinOp.xor IntKind.u32 n (↑(sumN (famL x_4)) : Int) →
 Exx Fam fun x_5 =>
 ((((1 : Nat) = (1 : Nat) ∧
 1 = x_5.n ∧
 1 ≤ [AV.sl 1 [] 0 1 0 (linN x) (linN x)].length ∧
 (0 + linN x ≤ linN x ∧
 linN x = x_5.m 0 ∧
 ∀ (j : Nat),
 j < x_5.m 0 →
 [AV.int IntKind.u8
 (↑(if 0 + j < t then linX x (0 + j) else 0) : Int)] =
 [AV.int IntKind.u8 (↑(x_5.f 0 j) : Int)]) ∧
 True) ∧
 True) ∧
 true = true ∧ True) ∧
 Bytess (famL x_5) ∧
 ∀ (y : Unit),
 True →
 ∀ (n : Int),
 n = bits BinOp.xor IntKind.u32 n_1 (↑(sumN (famL x_5)) : Int) →
 Exx Unit fun y =>
 ((decide (n = 0) = true ∧ True) ∧ true = true ∧ True) ∧ True) ∧
 Exx Fam fun x_3 =>
 ((((0 : Nat) + (1 : Nat) ≤ (1 : Nat) ∧
 1 = x_3.n ∧
 ∀ (i : Nat),
 i < x_3.n →
 (if 0 + i = 0 * 1 / 1 then
 [AV.ro 1 ((↑(linN x) : Int).toNat - 0) fun i =>
 [AV.int IntKind.u8 (↑(x.snd.fst.getD (0 + i) 0) : Int)]]
 else [AV.nils]) =
 [AV.ro 1 (x_3.m i) fun j => [AV.int IntKind.u8 (↑(x_3.f i j) : Int)]]) ∧
 True) ∧
 true = true ∧ True) ∧
 Bytess (famL x_3) ∧
 ∀ (y : Unit),
 True →
 ∀ (n : Int),
 n = bits BinOp.xor IntKind.u32 (↑(sumN (famL x_2)) : Int) (↑(sumN (famL x_3)) : Int) →
 Exx Fam fun x_4 =>
 ((((0 : Nat) + (1 : Nat) ≤ (1 : Nat) ∧
 1 = x_4.n ∧
 ∀ (i : Nat),
 i < x_4.n →
 (if 0 + i = 0 * 1 / 1 then
 [AV.ro 1 ((↑(linN x) : Int).toNat - 0) fun i =>
 [AV.int IntKind.u8 (↑(x.snd.snd.getD (0 + i) 0) : Int)]]
 else [AV.nils]) =
 [AV.ro 1 (x_4.m i) fun j => [AV.int IntKind.u8 (↑(x_4.f i j) : Int)]]) ∧
 True) ∧
 true = true ∧ True) ∧
 Bytess (famL x_4) ∧
 ∀ (y : Unit),
 True →
 ∀ (n_1 : Int),
 n_1 = bits BinOp.xor IntKind.u32 n (↑(sumN (famL x_4)) : Int) →
 Exx Fam fun x_5 =>
 ((((1 : Nat) = (1 : Nat) ∧
 1 = x_5.n ∧
 1 ≤ [AV.sl 1 [] 0 1 0 (linN x) (linN x)].length ∧
 (0 + linN x ≤ linN x ∧
 linN x = x_5.m 0 ∧
 ∀ (j : Nat),
 j < x_5.m 0 →
 [AV.int IntKind.u8
 (↑(if 0 + j < t then linX x (0 + j) else 0) : Int)] =
 [AV.int IntKind.u8 (↑(x_5.f 0 j) : Int)]) ∧
 True) ∧
 True) ∧
 true = true ∧ True) ∧
 Bytess (famL x_5) ∧
 ∀ (y : Unit),
 True →
 ∀ (n : Int),
 n = bits BinOp.xor IntKind.u32 n_1 (↑(sumN (famL x_5)) : Int) →
 Exx Unit fun y =>
 ((decide (n = 0) = true ∧ True) ∧ true = true ∧ True) ∧ True) ∧
 (((Exx Fam fun x_3 =>
 ((((0 : Nat) + (1 : Nat) ≤ (1 : Nat) ∧
 1 = x_3.n ∧
 ∀ (i : Nat),
 i < x_3.n →
 (if 0 + i = 0 * 1 / 1 then
 [AV.ro 1 ((↑(linN x) : Int).toNat - 0) fun i =>
 [AV.int IntKind.u8 (↑(x.snd.fst.getD (0 + i) 0) : Int)]]
 else [AV.nils]) =
 [AV.ro 1 (x_3.m i) fun j => [AV.int IntKind.u8 (↑(x_3.f i j) : Int)]]) ∧
 True) ∧
 true = true ∧ True) ∧
 Bytess (famL x_3) ∧
 ∀ (y : Unit),
 True →
 ∀ (n : Int),
 n = bits BinOp.xor IntKind.u32 (↑(sumN (famL x_2)) : Int) (↑(sumN (famL x_3)) : Int) →
 (Exx Fam fun x_4 =>
 ((((0 : Nat) + (1 : Nat) ≤ (1 : Nat) ∧
 1 = x_4.n ∧
 ∀ (i : Nat),
 i < x_4.n →
 (if 0 + i = 0 * 1 / 1 then
 [AV.ro 1 ((↑(linN x) : Int).toNat - 0) fun i =>
 [AV.int IntKind.u8 (↑(x.snd.snd.getD (0 + i) 0) : Int)]]
 else [AV.nils]) =
 [AV.ro 1 (x_4.m i) fun j => [AV.int IntKind.u8 (↑(x_4.f i j) : Int)]]) ∧
 True) ∧
 true = true ∧ True) ∧
 Bytess (famL x_4) ∧
 ∀ (y : Unit),
 True →
 ∀ (n_1 : Int),
 n_1 = bits BinOp.xor IntKind.u32 n (↑(sumN (famL x_4)) : Int) →
 Exx Fam fun x_5 =>
 ((((1 : Nat) = (1 : Nat) ∧
 1 = x_5.n ∧
 1 ≤ [AV.sl 1 [] 0 1 0 (linN x) (linN x)].length ∧
 (0 + linN x ≤ linN x ∧
 linN x = x_5.m 0 ∧
 ∀ (j : Nat),
 j < x_5.m 0 →
 [AV.int IntKind.u8
 (↑(if 0 + j < t then linX x (0 + j) else 0) :
 Int)] =
 [AV.int IntKind.u8 (↑(x_5.f 0 j) : Int)]) ∧
 True) ∧
 True) ∧
 true = true ∧ True) ∧
 Bytess (famL x_5) ∧
 ∀ (y : Unit),
 True →
 ∀ (n : Int),
 n = bits BinOp.xor IntKind.u32 n_1 (↑(sumN (famL x_5)) : Int) →
 Exx Unit fun y =>
 ((decide (n = 0) = true ∧ True) ∧ true = true ∧ True) ∧ True) ∧
 Exx Fam fun x_4 =>
 ((((0 : Nat) + (1 : Nat) ≤ (1 : Nat) ∧
 1 = x_4.n ∧
 ∀ (i : Nat),
 i < x_4.n →
 (if 0 + i = 0 * 1 / 1 then
 [AV.ro 1 ((↑(linN x) : Int).toNat - 0) fun i =>
 [AV.int IntKind.u8 (↑(x.snd.snd.getD (0 + i) 0) : Int)]]
 else [AV.nils]) =
 [AV.ro 1 (x_4.m i) fun j => [AV.int IntKind.u8 (↑(x_4.f i j) : Int)]]) ∧
 True) ∧
 true = true ∧ True) ∧
 Bytess (famL x_4) ∧
 ∀ (y : Unit),
 True →
 ∀ (n_1 : Int),
 n_1 = bits BinOp.xor IntKind.u32 n (↑(sumN (famL x_4)) : Int) →
 Exx Fam fun x_5 =>
 ((((1 : Nat) = (1 : Nat) ∧
 1 = x_5.n ∧
 1 ≤ [AV.sl 1 [] 0 1 0 (linN x) (linN x)].length ∧
 (0 + linN x ≤ linN x ∧
 linN x = x_5.m 0 ∧
 ∀ (j : Nat),
 j < x_5.m 0 →
 [AV.int IntKind.u8
 (↑(if 0 + j < t then linX x (0 + j) else 0) :
 Int)] =
 [AV.int IntKind.u8 (↑(x_5.f 0 j) : Int)]) ∧
 True) ∧
 True) ∧
 true = true ∧ True) ∧
 Bytess (famL x_5) ∧
 ∀ (y : Unit),
 True →
 ∀ (n : Int),
 n = bits BinOp.xor IntKind.u32 n_1 (↑(sumN (famL x_5)) : Int) →
 Exx Unit fun y =>
 ((decide (n = 0) = true ∧ True) ∧ true = true ∧ True) ∧ True) ∧
 Exx Fam fun x_3 =>
 ((((0 : Nat) + (1 : Nat) ≤ (1 : Nat) ∧
 1 = x_3.n ∧
 ∀ (i : Nat),
 i < x_3.n →
 (if 0 + i = 0 * 1 / 1 then
 [AV.ro 1 ((↑(linN x) : Int).toNat - 0) fun i =>
 [AV.int IntKind.u8 (↑(x.snd.fst.getD (0 + i) 0) : Int)]]
 else [AV.nils]) =
 [AV.ro 1 (x_3.m i) fun j => [AV.int IntKind.u8 (↑(x_3.f i j) : Int)]]) ∧
 True) ∧
 true = true ∧ True) ∧
 Bytess (famL x_3) ∧
 ∀ (y : Unit),
 True →
 ∀ (n : Int),
 n = bits BinOp.xor IntKind.u32 (↑(sumN (famL x_2)) : Int) (↑(sumN (famL x_3)) : Int) →
 Exx Fam fun x_4 =>
 ((((0 : Nat) + (1 : Nat) ≤ (1 : Nat) ∧
 1 = x_4.n ∧
 ∀ (i : Nat),
 i < x_4.n →
 (if 0 + i = 0 * 1 / 1 then
 [AV.ro 1 ((↑(linN x) : Int).toNat - 0) fun i =>
 [AV.int IntKind.u8 (↑(x.snd.snd.getD (0 + i) 0) : Int)]]
 else [AV.nils]) =
 [AV.ro 1 (x_4.m i) fun j => [AV.int IntKind.u8 (↑(x_4.f i j) : Int)]]) ∧
 True) ∧
 true = true ∧ True) ∧
 Bytess (famL x_4) ∧
 ∀ (y : Unit),
 True →
 ∀ (n_1 : Int),
 n_1 = bits BinOp.xor IntKind.u32 n (↑(sumN (famL x_4)) : Int) →
 Exx Fam fun x_5 =>
 ((((1 : Nat) = (1 : Nat) ∧
 1 = x_5.n ∧
 1 ≤ [AV.sl 1 [] 0 1 0 (linN x) (linN x)].length ∧
 (0 + linN x ≤ linN x ∧
 linN x = x_5.m 0 ∧
 ∀ (j : Nat),
 j < x_5.m 0 →
 [AV.int IntKind.u8
 (↑(if 0 + j < t then linX x (0 + j) else 0) : Int)] =
 [AV.int IntKind.u8 (↑(x_5.f 0 j) : Int)]) ∧
 True) ∧
 True) ∧
 true = true ∧ True) ∧
 Bytess (famL x_5) ∧
 ∀ (y : Unit),
 True →
 ∀ (n : Int),
 n = bits BinOp.xor IntKind.u32 n_1 (↑(sumN (famL x_5)) : Int) →
 Exx Unit fun y =>
 ((decide (n = 0) = true ∧ True) ∧ true = true ∧ True) ∧ True) ∧
 Exx Fam fun x_3 =>
 ((((0 : Nat) + (1 : Nat) ≤ (1 : Nat) ∧
 1 = x_3.n ∧
 ∀ (i : Nat),
 i < x_3.n →
 (if 0 + i = 0 * 1 / 1 then
 [AV.ro 1 ((↑(linN x) : Int).toNat - 0) fun i =>
 [AV.int IntKind.u8 (↑(x.snd.fst.getD (0 + i) 0) : Int)]]
 else [AV.nils]) =
 [AV.ro 1 (x_3.m i) fun j => [AV.int IntKind.u8 (↑(x_3.f i j) : Int)]]) ∧
 True) ∧
 true = true ∧ True) ∧
 Bytess (famL x_3) ∧
 ∀ (y : Unit),
 True →
 ∀ (n : Int),
 n = bits BinOp.xor IntKind.u32 (↑(sumN (famL x_2)) : Int) (↑(sumN (famL x_3)) : Int) →
 Exx Fam fun x_4 =>
 ((((0 : Nat) + (1 : Nat) ≤ (1 : Nat) ∧
 1 = x_4.n ∧
 ∀ (i : Nat),
 i < x_4.n →
 (if 0 + i = 0 * 1 / 1 then
 [AV.ro 1 ((↑(linN x) : Int).toNat - 0) fun i =>
 [AV.int IntKind.u8 (↑(x.snd.snd.getD (0 + i) 0) : Int)]]
 else [AV.nils]) =
 [AV.ro 1 (x_4.m i) fun j => [AV.int IntKind.u8 (↑(x_4.f i j) : Int)]]) ∧
 True) ∧
 true = true ∧ True) ∧
 Bytess (famL x_4) ∧
 ∀ (y : Unit),
 True →
 ∀ (n_1 : Int),
 n_1 = bits BinOp.xor IntKind.u32 n (↑(sumN (famL x_4)) : Int) →
 Exx Fam fun x_5 =>
 ((((1 : Nat) = (1 : Nat) ∧
 1 = x_5.n ∧
 1 ≤ [AV.sl 1 [] 0 1 0 (linN x) (linN x)].length ∧
 (0 + linN x ≤ linN x ∧
 linN x = x_5.m 0 ∧
 ∀ (j : Nat),
 j < x_5.m 0 →
 [AV.int IntKind.u8
 (↑(if 0 + j < t then linX x (0 + j) else 0) : Int)] =
 [AV.int IntKind.u8 (↑(x_5.f 0 j) : Int)]) ∧
 True) ∧
 True) ∧
 true = true ∧ True) ∧
 Bytess (famL x_5) ∧
 ∀ (y : Unit),
 True →
 ∀ (n : Int),
 n = bits BinOp.xor IntKind.u32 n_1 (↑(sumN (famL x_5)) : Int) →
 Exx Unit fun y =>
 ((decide (n = 0) = true ∧ True) ∧ true = true ∧ True) ∧ True) ∧
 ((Exx Fam fun x_3 =>
 ((((0 : Nat) + (1 : Nat) ≤ (1 : Nat) ∧
 1 = x_3.n ∧
 ∀ (i : Nat),
 i < x_3.n →
 (if 0 + i = 0 * 1 / 1 then
 [AV.ro 1 ((↑(linN x) : Int).toNat - 0) fun i =>
 [AV.int IntKind.u8 (↑(x.snd.fst.getD (0 + i) 0) : Int)]]
 else [AV.nils]) =
 [AV.ro 1 (x_3.m i) fun j => [AV.int IntKind.u8 (↑(x_3.f i j) : Int)]]) ∧
 True) ∧
 true = true ∧ True) ∧
 Bytess (famL x_3) ∧
 ∀ (y : Unit),
 True →
 ∀ (n : Int),
 n = bits BinOp.xor IntKind.u32 (↑(sumN (famL x_2)) : Int) (↑(sumN (famL x_3)) : Int) →
 Exx Fam fun x_4 =>
 ((((0 : Nat) + (1 : Nat) ≤ (1 : Nat) ∧
 1 = x_4.n ∧
 ∀ (i : Nat),
 i < x_4.n →
 (if 0 + i = 0 * 1 / 1 then
 [AV.ro 1 ((↑(linN x) : Int).toNat - 0) fun i =>
 [AV.int IntKind.u8 (↑(x.snd.snd.getD (0 + i) 0) : Int)]]
 else [AV.nils]) =
 [AV.ro 1 (x_4.m i) fun j => [AV.int IntKind.u8 (↑(x_4.f i j) : Int)]]) ∧
 True) ∧
 true = true ∧ True) ∧
 Bytess (famL x_4) ∧
 ∀ (y : Unit),
 True →
 ∀ (n_1 : Int),
 n_1 = bits BinOp.xor IntKind.u32 n (↑(sumN (famL x_4)) : Int) →
 Exx Fam fun x_5 =>
 ((((1 : Nat) = (1 : Nat) ∧
 1 = x_5.n ∧
 1 ≤ [AV.sl 1 [] 0 1 0 (linN x) (linN x)].length ∧
 (0 + linN x ≤ linN x ∧
 linN x = x_5.m 0 ∧
 ∀ (j : Nat),
 j < x_5.m 0 →
 [AV.int IntKind.u8
 (↑(if 0 + j < t then linX x (0 + j) else 0) : Int)] =
 [AV.int IntKind.u8 (↑(x_5.f 0 j) : Int)]) ∧
 True) ∧
 True) ∧
 true = true ∧ True) ∧
 Bytess (famL x_5) ∧
 ∀ (y : Unit),
 True →
 ∀ (n : Int),
 n = bits BinOp.xor IntKind.u32 n_1 (↑(sumN (famL x_5)) : Int) →
 Exx Unit fun y =>
 ((decide (n = 0) = true ∧ True) ∧ true = true ∧ True) ∧ True) ∧
 Exx Fam fun x_3 =>
 ((((0 : Nat) + (1 : Nat) ≤ (1 : Nat) ∧
 1 = x_3.n ∧
 ∀ (i : Nat),
 i < x_3.n →
 (if 0 + i = 0 * 1 / 1 then
 [AV.ro 1 ((↑(linN x) : Int).toNat - 0) fun i =>
 [AV.int IntKind.u8 (↑(x.snd.fst.getD (0 + i) 0) : Int)]]
 else [AV.nils]) =
 [AV.ro 1 (x_3.m i) fun j => [AV.int IntKind.u8 (↑(x_3.f i j) : Int)]]) ∧
 True) ∧
 true = true ∧ True) ∧
 Bytess (famL x_3) ∧
 ∀ (y : Unit),
 True →
 ∀ (n : Int),
 n = bits BinOp.xor IntKind.u32 (↑(sumN (famL x_2)) : Int) (↑(sumN (famL x_3)) : Int) →
 Exx Fam fun x_4 =>
 ((((0 : Nat) + (1 : Nat) ≤ (1 : Nat) ∧
 1 = x_4.n ∧
 ∀ (i : Nat),
 i < x_4.n →
 (if 0 + i = 0 * 1 / 1 then
 [AV.ro 1 ((↑(linN x) : Int).toNat - 0) fun i =>
 [AV.int IntKind.u8 (↑(x.snd.snd.getD (0 + i) 0) : Int)]]
 else [AV.nils]) =
 [AV.ro 1 (x_4.m i) fun j => [AV.int IntKind.u8 (↑(x_4.f i j) : Int)]]) ∧
 True) ∧
 true = true ∧ True) ∧
 Bytess (famL x_4) ∧
 ∀ (y : Unit),
 True →
 ∀ (n_1 : Int),
 n_1 = bits BinOp.xor IntKind.u32 n (↑(sumN (famL x_4)) : Int) →
 Exx Fam fun x_5 =>
 ((((1 : Nat) = (1 : Nat) ∧
 1 = x_5.n ∧
 1 ≤ [AV.sl 1 [] 0 1 0 (linN x) (linN x)].length ∧
 (0 + linN x ≤ linN x ∧
 linN x = x_5.m 0 ∧
 ∀ (j : Nat),
 j < x_5.m 0 →
 [AV.int IntKind.u8
 (↑(if 0 + j < t then linX x (0 + j) else 0) : Int)] =
 [AV.int IntKind.u8 (↑(x_5.f 0 j) : Int)]) ∧
 True) ∧
 True) ∧
 true = true ∧ True) ∧
 Bytess (famL x_5) ∧
 ∀ (y : Unit),
 True →
 ∀ (n : Int),
 n = bits BinOp.xor IntKind.u32 n_1 (↑(sumN (famL x_5)) : Int) →
 Exx Unit fun y =>
 ((decide (n = 0) = true ∧ True) ∧ true = true ∧ True) ∧ True) ∧
 Exx Fam fun x_3 =>
 ((((0 : Nat) + (1 : Nat) ≤ (1 : Nat) ∧
 1 = x_3.n ∧
 ∀ (i : Nat),
 i < x_3.n →
 (if 0 + i = 0 * 1 / 1 then
 [AV.ro 1 ((↑(linN x) : Int).toNat - 0) fun i =>
 [AV.int IntKind.u8 (↑(x.snd.fst.getD (0 + i) 0) : Int)]]
 else [AV.nils]) =
 [AV.ro 1 (x_3.m i) fun j => [AV.int IntKind.u8 (↑(x_3.f i j) : Int)]]) ∧
 True) ∧
 true = true ∧ True) ∧
 Bytess (famL x_3) ∧
 ∀ (y : Unit),
 True →
 ∀ (n : Int),
 n = bits BinOp.xor IntKind.u32 (↑(sumN (famL x_2)) : Int) (↑(sumN (famL x_3)) : Int) →
 Exx Fam fun x_4 =>
 ((((0 : Nat) + (1 : Nat) ≤ (1 : Nat) ∧
 1 = x_4.n ∧
 ∀ (i : Nat),
 i < x_4.n →
 (if 0 + i = 0 * 1 / 1 then
 [AV.ro 1 ((↑(linN x) : Int).toNat - 0) fun i =>
 [AV.int IntKind.u8 (↑(x.snd.snd.getD (0 + i) 0) : Int)]]
 else [AV.nils]) =
 [AV.ro 1 (x_4.m i) fun j => [AV.int IntKind.u8 (↑(x_4.f i j) : Int)]]) ∧
 True) ∧
 true = true ∧ True) ∧
 Bytess (famL x_4) ∧
 ∀ (y : Unit),
 True →
 ∀ (n_1 : Int),
 n_1 = bits BinOp.xor IntKind.u32 n (↑(sumN (famL x_4)) : Int) →
 Exx Fam fun x_5 =>
 ((((1 : Nat) = (1 : Nat) ∧
 1 = x_5.n ∧
 1 ≤ [AV.sl 1 [] 0 1 0 (linN x) (linN x)].length ∧
 (0 + linN x ≤ linN x ∧
 linN x = x_5.m 0 ∧
 ∀ (j : Nat),
 j < x_5.m 0 →
 [AV.int IntKind.u8
 (↑(if 0 + j < t then linX x (0 + j) else 0) : Int)] =
 [AV.int IntKind.u8 (↑(x_5.f 0 j) : Int)]) ∧
 True) ∧
 True) ∧
 true = true ∧ True) ∧
 Bytess (famL x_5) ∧
 ∀ (y : Unit),
 True →
 ∀ (n : Int),
 n = bits BinOp.xor IntKind.u32 n_1 (↑(sumN (famL x_5)) : Int) →
 Exx Unit fun y =>
 ((decide (n = 0) = true ∧ True) ∧ true = true ∧ True) ∧ True) ∧
 ((Exx Fam fun x_2 =>
 ((((0 : Nat) + (1 : Nat) ≤ (1 : Nat) ∧
 1 = x_2.n ∧
 ∀ (i : Nat),
 i < x_2.n →
 (if 0 + i = 0 * 1 / 1 then
 [AV.ro 1 ((↑(linN x) : Int).toNat - 0) fun i => [AV.int IntKind.u8 (↑(x.fst.getD (0 + i) 0) : Int)]]
 else [AV.nils]) =
 [AV.ro 1 (x_2.m i) fun j => [AV.int IntKind.u8 (↑(x_2.f i j) : Int)]]) ∧
 True) ∧
 true = true ∧ True) ∧
 Bytess (famL x_2) ∧
 ∀ (y : Unit),
 True →
 (Exx Fam fun x_3 =>
 ((((0 : Nat) + (1 : Nat) ≤ (1 : Nat) ∧
 1 = x_3.n ∧
 ∀ (i : Nat),
 i < x_3.n →
 (if 0 + i = 0 * 1 / 1 then
 [AV.ro 1 ((↑(linN x) : Int).toNat - 0) fun i =>
 [AV.int IntKind.u8 (↑(x.snd.fst.getD (0 + i) 0) : Int)]]
 else [AV.nils]) =
 [AV.ro 1 (x_3.m i) fun j => [AV.int IntKind.u8 (↑(x_3.f i j) : Int)]]) ∧
 True) ∧
 true = true ∧ True) ∧
 Bytess (famL x_3) ∧
 ∀ (y : Unit),
 True →
 ∀ (n : Int),
 n = bits BinOp.xor IntKind.u32 (↑(sumN (famL x_2)) : Int) (↑(sumN (famL x_3)) : Int) →
 ((Exx Fam fun x_4 =>
 ((((0 : Nat) + (1 : Nat) ≤ (1 : Nat) ∧
 1 = x_4.n ∧
 ∀ (i : Nat),
 i < x_4.n →
 (if 0 + i = 0 * 1 / 1 then
 [AV.ro 1 ((↑(linN x) : Int).toNat - 0) fun i =>
 [AV.int IntKind.u8 (↑(x.snd.snd.getD (0 + i) 0) : Int)]]
 else [AV.nils]) =
 [AV.ro 1 (x_4.m i) fun j => [AV.int IntKind.u8 (↑(x_4.f i j) : Int)]]) ∧
 True) ∧
 true = true ∧ True) ∧
 Bytess (famL x_4) ∧
 ∀ (y : Unit),
 True →
 ∀ (n_1 : Int),
 n_1 = bits BinOp.xor IntKind.u32 n (↑(sumN (famL x_4)) : Int) →
 Exx Fam fun x_5 =>
 ((((1 : Nat) = (1 : Nat) ∧
 1 = x_5.n ∧
 1 ≤ [AV.sl 1 [] 0 1 0 (linN x) (linN x)].length ∧
 (0 + linN x ≤ linN x ∧
 linN x = x_5.m 0 ∧
 ∀ (j : Nat),
 j < x_5.m 0 →
 [AV.int IntKind.u8
 (↑(if 0 + j < t then linX x (0 + j) else 0) :
 Int)] =
 [AV.int IntKind.u8 (↑(x_5.f 0 j) : Int)]) ∧
 True) ∧
 True) ∧
 true = true ∧ True) ∧
 Bytess (famL x_5) ∧
 ∀ (y : Unit),
 True →
 ∀ (n : Int),
 n = bits BinOp.xor IntKind.u32 n_1 (↑(sumN (famL x_5)) : Int) →
 Exx Unit fun y =>
 ((decide (n = 0) = true ∧ True) ∧ true = true ∧ True) ∧ True) ∧
 Exx Fam fun x_4 =>
 ((((0 : Nat) + (1 : Nat) ≤ (1 : Nat) ∧
 1 = x_4.n ∧
 ∀ (i : Nat),
 i < x_4.n →
 (if 0 + i = 0 * 1 / 1 then
 [AV.ro 1 ((↑(linN x) : Int).toNat - 0) fun i =>
 [AV.int IntKind.u8 (↑(x.snd.snd.getD (0 + i) 0) : Int)]]
 else [AV.nils]) =
 [AV.ro 1 (x_4.m i) fun j => [AV.int IntKind.u8 (↑(x_4.f i j) : Int)]]) ∧
 True) ∧
 true = true ∧ True) ∧
 Bytess (famL x_4) ∧
 ∀ (y : Unit),
 True →
 ∀ (n_1 : Int),
 n_1 = bits BinOp.xor IntKind.u32 n (↑(sumN (famL x_4)) : Int) →
 Exx Fam fun x_5 =>
 ((((1 : Nat) = (1 : Nat) ∧
 1 = x_5.n ∧
 1 ≤ [AV.sl 1 [] 0 1 0 (linN x) (linN x)].length ∧
 (0 + linN x ≤ linN x ∧
 linN x = x_5.m 0 ∧
 ∀ (j : Nat),
 j < x_5.m 0 →
 [AV.int IntKind.u8
 (↑(if 0 + j < t then linX x (0 + j) else 0) :
 Int)] =
 [AV.int IntKind.u8 (↑(x_5.f 0 j) : Int)]) ∧
 True) ∧
 True) ∧
 true = true ∧ True) ∧
 Bytess (famL x_5) ∧
 ∀ (y : Unit),
 True →
 ∀ (n : Int),
 n = bits BinOp.xor IntKind.u32 n_1 (↑(sumN (famL x_5)) : Int) →
 Exx Unit fun y =>
 ((decide (n = 0) = true ∧ True) ∧ true = true ∧ True) ∧ True) ∧
 Exx Fam fun x_4 =>
 ((((0 : Nat) + (1 : Nat) ≤ (1 : Nat) ∧
 1 = x_4.n ∧
 ∀ (i : Nat),
 i < x_4.n →
 (if 0 + i = 0 * 1 / 1 then
 [AV.ro 1 ((↑(linN x) : Int).toNat - 0) fun i =>
 [AV.int IntKind.u8 (↑(x.snd.snd.getD (0 + i) 0) : Int)]]
 else [AV.nils]) =
 [AV.ro 1 (x_4.m i) fun j => [AV.int IntKind.u8 (↑(x_4.f i j) : Int)]]) ∧
 True) ∧
 true = true ∧ True) ∧
 Bytess (famL x_4) ∧
 ∀ (y : Unit),
 True →
 ∀ (n_1 : Int),
 n_1 = bits BinOp.xor IntKind.u32 n (↑(sumN (famL x_4)) : Int) →
 Exx Fam fun x_5 =>
 ((((1 : Nat) = (1 : Nat) ∧
 1 = x_5.n ∧
 1 ≤ [AV.sl 1 [] 0 1 0 (linN x) (linN x)].length ∧
 (0 + linN x ≤ linN x ∧
 linN x = x_5.m 0 ∧
 ∀ (j : Nat),
 j < x_5.m 0 →
 [AV.int IntKind.u8
 (↑(if 0 + j < t then linX x (0 + j) else 0) : Int)] =
 [AV.int IntKind.u8 (↑(x_5.f 0 j) : Int)]) ∧
 True) ∧
 True) ∧
 true = true ∧ True) ∧
 Bytess (famL x_5) ∧
 ∀ (y : Unit),
 True →
 ∀ (n : Int),
 n = bits BinOp.xor IntKind.u32 n_1 (↑(sumN (famL x_5)) : Int) →
 Exx Unit fun y =>
 ((decide (n = 0) = true ∧ True) ∧ true = true ∧ True) ∧ True) ∧
 ((Exx Fam fun x_3 =>
 ((((0 : Nat) + (1 : Nat) ≤ (1 : Nat) ∧
 1 = x_3.n ∧
 ∀ (i : Nat),
 i < x_3.n →
 (if 0 + i = 0 * 1 / 1 then
 [AV.ro 1 ((↑(linN x) : Int).toNat - 0) fun i =>
 [AV.int IntKind.u8 (↑(x.snd.fst.getD (0 + i) 0) : Int)]]
 else [AV.nils]) =
 [AV.ro 1 (x_3.m i) fun j => [AV.int IntKind.u8 (↑(x_3.f i j) : Int)]]) ∧
 True) ∧
 true = true ∧ True) ∧
 Bytess (famL x_3) ∧
 ∀ (y : Unit),
 True →
 ∀ (n : Int),
 n = bits BinOp.xor IntKind.u32 (↑(sumN (famL x_2)) : Int) (↑(sumN (famL x_3)) : Int) →
 (Exx Fam fun x_4 =>
 ((((0 : Nat) + (1 : Nat) ≤ (1 : Nat) ∧
 1 = x_4.n ∧
 ∀ (i : Nat),
 i < x_4.n →
 (if 0 + i = 0 * 1 / 1 then
 [AV.ro 1 ((↑(linN x) : Int).toNat - 0) fun i =>
 [AV.int IntKind.u8 (↑(x.snd.snd.getD (0 + i) 0) : Int)]]
 else [AV.nils]) =
 [AV.ro 1 (x_4.m i) fun j => [AV.int IntKind.u8 (↑(x_4.f i j) : Int)]]) ∧
 True) ∧
 true = true ∧ True) ∧
 Bytess (famL x_4) ∧
 ∀ (y : Unit),
 True →
 ∀ (n_1 : Int),
 n_1 = bits BinOp.xor IntKind.u32 n (↑(sumN (famL x_4)) : Int) →
 Exx Fam fun x_5 =>
 ((((1 : Nat) = (1 : Nat) ∧
 1 = x_5.n ∧
 1 ≤ [AV.sl 1 [] 0 1 0 (linN x) (linN x)].length ∧
 (0 + linN x ≤ linN x ∧
 linN x = x_5.m 0 ∧
 ∀ (j : Nat),
 j < x_5.m 0 →
 [AV.int IntKind.u8
 (↑(if 0 + j < t then linX x (0 + j) else 0) :
 Int)] =
 [AV.int IntKind.u8 (↑(x_5.f 0 j) : Int)]) ∧
 True) ∧
 True) ∧
 true = true ∧ True) ∧
 Bytess (famL x_5) ∧
 ∀ (y : Unit),
 True →
 ∀ (n : Int),
 n = bits BinOp.xor IntKind.u32 n_1 (↑(sumN (famL x_5)) : Int) →
 Exx Unit fun y =>
 ((decide (n = 0) = true ∧ True) ∧ true = true ∧ True) ∧ True) ∧
 Exx Fam fun x_4 =>
 ((((0 : Nat) + (1 : Nat) ≤ (1 : Nat) ∧
 1 = x_4.n ∧
 ∀ (i : Nat),
 i < x_4.n →
 (if 0 + i = 0 * 1 / 1 then
 [AV.ro 1 ((↑(linN x) : Int).toNat - 0) fun i =>
 [AV.int IntKind.u8 (↑(x.snd.snd.getD (0 + i) 0) : Int)]]
 else [AV.nils]) =
 [AV.ro 1 (x_4.m i) fun j => [AV.int IntKind.u8 (↑(x_4.f i j) : Int)]]) ∧
 True) ∧
 true = true ∧ True) ∧
 Bytess (famL x_4) ∧
 ∀ (y : Unit),
 True →
 ∀ (n_1 : Int),
 n_1 = bits BinOp.xor IntKind.u32 n (↑(sumN (famL x_4)) : Int) →
 Exx Fam fun x_5 =>
 ((((1 : Nat) = (1 : Nat) ∧
 1 = x_5.n ∧
 1 ≤ [AV.sl 1 [] 0 1 0 (linN x) (linN x)].length ∧
 (0 + linN x ≤ linN x ∧
 linN x = x_5.m 0 ∧
 ∀ (j : Nat),
 j < x_5.m 0 →
 [AV.int IntKind.u8
 (↑(if 0 + j < t then linX x (0 + j) else 0) :
 Int)] =
 [AV.int IntKind.u8 (↑(x_5.f 0 j) : Int)]) ∧
 True) ∧
 True) ∧
 true = true ∧ True) ∧
 Bytess (famL x_5) ∧
 ∀ (y : Unit),
 True →
 ∀ (n : Int),
 n = bits BinOp.xor IntKind.u32 n_1 (↑(sumN (famL x_5)) : Int) →
 Exx Unit fun y =>
 ((decide (n = 0) = true ∧ True) ∧ true = true ∧ True) ∧ True) ∧
 Exx Fam fun x_3 =>
 ((((0 : Nat) + (1 : Nat) ≤ (1 : Nat) ∧
 1 = x_3.n ∧
 ∀ (i : Nat),
 i < x_3.n →
 (if 0 + i = 0 * 1 / 1 then
 [AV.ro 1 ((↑(linN x) : Int).toNat - 0) fun i =>
 [AV.int IntKind.u8 (↑(x.snd.fst.getD (0 + i) 0) : Int)]]
 else [AV.nils]) =
 [AV.ro 1 (x_3.m i) fun j => [AV.int IntKind.u8 (↑(x_3.f i j) : Int)]]) ∧
 True) ∧
 true = true ∧ True) ∧
 Bytess (famL x_3) ∧
 ∀ (y : Unit),
 True →
 ∀ (n : Int),
 n = bits BinOp.xor IntKind.u32 (↑(sumN (famL x_2)) : Int) (↑(sumN (famL x_3)) : Int) →
 Exx Fam fun x_4 =>
 ((((0 : Nat) + (1 : Nat) ≤ (1 : Nat) ∧
 1 = x_4.n ∧
 ∀ (i : Nat),
 i < x_4.n →
 (if 0 + i = 0 * 1 / 1 then
 [AV.ro 1 ((↑(linN x) : Int).toNat - 0) fun i =>
 [AV.int IntKind.u8 (↑(x.snd.snd.getD (0 + i) 0) : Int)]]
 else [AV.nils]) =
 [AV.ro 1 (x_4.m i) fun j => [AV.int IntKind.u8 (↑(x_4.f i j) : Int)]]) ∧
 True) ∧
 true = true ∧ True) ∧
 Bytess (famL x_4) ∧
 ∀ (y : Unit),
 True →
 ∀ (n_1 : Int),
 n_1 = bits BinOp.xor IntKind.u32 n (↑(sumN (famL x_4)) : Int) →
 Exx Fam fun x_5 =>
 ((((1 : Nat) = (1 : Nat) ∧
 1 = x_5.n ∧
 1 ≤ [AV.sl 1 [] 0 1 0 (linN x) (linN x)].length ∧
 (0 + linN x ≤ linN x ∧
 linN x = x_5.m 0 ∧
 ∀ (j : Nat),
 j < x_5.m 0 →
 [AV.int IntKind.u8
 (↑(if 0 + j < t then linX x (0 + j) else 0) :
 Int)] =
 [AV.int IntKind.u8 (↑(x_5.f 0 j) : Int)]) ∧
 True) ∧
 True) ∧
 true = true ∧ True) ∧
 Bytess (famL x_5) ∧
 ∀ (y : Unit),
 True →
 ∀ (n : Int),
 n = bits BinOp.xor IntKind.u32 n_1 (↑(sumN (famL x_5)) : Int) →
 Exx Unit fun y =>
 ((decide (n = 0) = true ∧ True) ∧ true = true ∧ True) ∧ True) ∧
 (Exx Fam fun x_3 =>
 ((((0 : Nat) + (1 : Nat) ≤ (1 : Nat) ∧
 1 = x_3.n ∧
 ∀ (i : Nat),
 i < x_3.n →
 (if 0 + i = 0 * 1 / 1 then
 [AV.ro 1 ((↑(linN x) : Int).toNat - 0) fun i =>
 [AV.int IntKind.u8 (↑(x.snd.fst.getD (0 + i) 0) : Int)]]
 else [AV.nils]) =
 [AV.ro 1 (x_3.m i) fun j => [AV.int IntKind.u8 (↑(x_3.f i j) : Int)]]) ∧
 True) ∧
 true = true ∧ True) ∧
 Bytess (famL x_3) ∧
 ∀ (y : Unit),
 True →
 ∀ (n : Int),
 n = bits BinOp.xor IntKind.u32 (↑(sumN (famL x_2)) : Int) (↑(sumN (famL x_3)) : Int) →
 Exx Fam fun x_4 =>
 ((((0 : Nat) + (1 : Nat) ≤ (1 : Nat) ∧
 1 = x_4.n ∧
 ∀ (i : Nat),
 i < x_4.n →
 (if 0 + i = 0 * 1 / 1 then
 [AV.ro 1 ((↑(linN x) : Int).toNat - 0) fun i =>
 [AV.int IntKind.u8 (↑(x.snd.snd.getD (0 + i) 0) : Int)]]
 else [AV.nils]) =
 [AV.ro 1 (x_4.m i) fun j => [AV.int IntKind.u8 (↑(x_4.f i j) : Int)]]) ∧
 True) ∧
 true = true ∧ True) ∧
 Bytess (famL x_4) ∧
 ∀ (y : Unit),
 True →
 ∀ (n_1 : Int),
 n_1 = bits BinOp.xor IntKind.u32 n (↑(sumN (famL x_4)) : Int) →
 Exx Fam fun x_5 =>
 ((((1 : Nat) = (1 : Nat) ∧
 1 = x_5.n ∧
 1 ≤ [AV.sl 1 [] 0 1 0 (linN x) (linN x)].length ∧
 (0 + linN x ≤ linN x ∧
 linN x = x_5.m 0 ∧
 ∀ (j : Nat),
 j < x_5.m 0 →
 [AV.int IntKind.u8
 (↑(if 0 + j < t then linX x (0 + j) else 0) :
 Int)] =
 [AV.int IntKind.u8 (↑(x_5.f 0 j) : Int)]) ∧
 True) ∧
 True) ∧
 true = true ∧ True) ∧
 Bytess (famL x_5) ∧
 ∀ (y : Unit),
 True →
 ∀ (n : Int),
 n = bits BinOp.xor IntKind.u32 n_1 (↑(sumN (famL x_5)) : Int) →
 Exx Unit fun y =>
 ((decide (n = 0) = true ∧ True) ∧ true = true ∧ True) ∧ True) ∧
 Exx Fam fun x_3 =>
 ((((0 : Nat) + (1 : Nat) ≤ (1 : Nat) ∧
 1 = x_3.n ∧
 ∀ (i : Nat),
 i < x_3.n →
 (if 0 + i = 0 * 1 / 1 then
 [AV.ro 1 ((↑(linN x) : Int).toNat - 0) fun i =>
 [AV.int IntKind.u8 (↑(x.snd.fst.getD (0 + i) 0) : Int)]]
 else [AV.nils]) =
 [AV.ro 1 (x_3.m i) fun j => [AV.int IntKind.u8 (↑(x_3.f i j) : Int)]]) ∧
 True) ∧
 true = true ∧ True) ∧
 Bytess (famL x_3) ∧
 ∀ (y : Unit),
 True →
 ∀ (n : Int),
 n = bits BinOp.xor IntKind.u32 (↑(sumN (famL x_2)) : Int) (↑(sumN (famL x_3)) : Int) →
 Exx Fam fun x_4 =>
 ((((0 : Nat) + (1 : Nat) ≤ (1 : Nat) ∧
 1 = x_4.n ∧
 ∀ (i : Nat),
 i < x_4.n →
 (if 0 + i = 0 * 1 / 1 then
 [AV.ro 1 ((↑(linN x) : Int).toNat - 0) fun i =>
 [AV.int IntKind.u8 (↑(x.snd.snd.getD (0 + i) 0) : Int)]]
 else [AV.nils]) =
 [AV.ro 1 (x_4.m i) fun j => [AV.int IntKind.u8 (↑(x_4.f i j) : Int)]]) ∧
 True) ∧
 true = true ∧ True) ∧
 Bytess (famL x_4) ∧
 ∀ (y : Unit),
 True →
 ∀ (n_1 : Int),
 n_1 = bits BinOp.xor IntKind.u32 n (↑(sumN (famL x_4)) : Int) →
 Exx Fam fun x_5 =>
 ((((1 : Nat) = (1 : Nat) ∧
 1 = x_5.n ∧
 1 ≤ [AV.sl 1 [] 0 1 0 (linN x) (linN x)].length ∧
 (0 + linN x ≤ linN x ∧
 linN x = x_5.m 0 ∧
 ∀ (j : Nat),
 j < x_5.m 0 →
 [AV.int IntKind.u8
 (↑(if 0 + j < t then linX x (0 + j) else 0) :
 Int)] =
 [AV.int IntKind.u8 (↑(x_5.f 0 j) : Int)]) ∧
 True) ∧
 True) ∧
 true = true ∧ True) ∧
 Bytess (famL x_5) ∧
 ∀ (y : Unit),
 True →
 ∀ (n : Int),
 n = bits BinOp.xor IntKind.u32 n_1 (↑(sumN (famL x_5)) : Int) →
 Exx Unit fun y =>
 ((decide (n = 0) = true ∧ True) ∧ true = true ∧ True) ∧ True) ∧
 ((Exx Fam fun x_2 =>
 ((((0 : Nat) + (1 : Nat) ≤ (1 : Nat) ∧
 1 = x_2.n ∧
 ∀ (i : Nat),
 i < x_2.n →
 (if 0 + i = 0 * 1 / 1 then
 [AV.ro 1 ((↑(linN x) : Int).toNat - 0) fun i => [AV.int IntKind.u8 (↑(x.fst.getD (0 + i) 0) : Int)]]
 else [AV.nils]) =
 [AV.ro 1 (x_2.m i) fun j => [AV.int IntKind.u8 (↑(x_2.f i j) : Int)]]) ∧
 True) ∧
 true = true ∧ True) ∧
 Bytess (famL x_2) ∧
 ∀ (y : Unit),
 True →
 (Exx Fam fun x_3 =>
 ((((0 : Nat) + (1 : Nat) ≤ (1 : Nat) ∧
 1 = x_3.n ∧
 ∀ (i : Nat),
 i < x_3.n →
 (if 0 + i = 0 * 1 / 1 then
 [AV.ro 1 ((↑(linN x) : Int).toNat - 0) fun i =>
 [AV.int IntKind.u8 (↑(x.snd.fst.getD (0 + i) 0) : Int)]]
 else [AV.nils]) =
 [AV.ro 1 (x_3.m i) fun j => [AV.int IntKind.u8 (↑(x_3.f i j) : Int)]]) ∧
 True) ∧
 true = true ∧ True) ∧
 Bytess (famL x_3) ∧
 ∀ (y : Unit),
 True →
 ∀ (n : Int),
 n = bits BinOp.xor IntKind.u32 (↑(sumN (famL x_2)) : Int) (↑(sumN (famL x_3)) : Int) →
 (Exx Fam fun x_4 =>
 ((((0 : Nat) + (1 : Nat) ≤ (1 : Nat) ∧
 1 = x_4.n ∧
 ∀ (i : Nat),
 i < x_4.n →
 (if 0 + i = 0 * 1 / 1 then
 [AV.ro 1 ((↑(linN x) : Int).toNat - 0) fun i =>
 [AV.int IntKind.u8 (↑(x.snd.snd.getD (0 + i) 0) : Int)]]
 else [AV.nils]) =
 [AV.ro 1 (x_4.m i) fun j => [AV.int IntKind.u8 (↑(x_4.f i j) : Int)]]) ∧
 True) ∧
 true = true ∧ True) ∧
 Bytess (famL x_4) ∧
 ∀ (y : Unit),
 True →
 ∀ (n_1 : Int),
 n_1 = bits BinOp.xor IntKind.u32 n (↑(sumN (famL x_4)) : Int) →
 Exx Fam fun x_5 =>
 ((((1 : Nat) = (1 : Nat) ∧
 1 = x_5.n ∧
 1 ≤ [AV.sl 1 [] 0 1 0 (linN x) (linN x)].length ∧
 (0 + linN x ≤ linN x ∧
 linN x = x_5.m 0 ∧
 ∀ (j : Nat),
 j < x_5.m 0 →
 [AV.int IntKind.u8
 (↑(if 0 + j < t then linX x (0 + j) else 0) :
 Int)] =
 [AV.int IntKind.u8 (↑(x_5.f 0 j) : Int)]) ∧
 True) ∧
 True) ∧
 true = true ∧ True) ∧
 Bytess (famL x_5) ∧
 ∀ (y : Unit),
 True →
 ∀ (n : Int),
 n = bits BinOp.xor IntKind.u32 n_1 (↑(sumN (famL x_5)) : Int) →
 Exx Unit fun y =>
 ((decide (n = 0) = true ∧ True) ∧ true = true ∧ True) ∧ True) ∧
 Exx Fam fun x_4 =>
 ((((0 : Nat) + (1 : Nat) ≤ (1 : Nat) ∧
 1 = x_4.n ∧
 ∀ (i : Nat),
 i < x_4.n →
 (if 0 + i = 0 * 1 / 1 then
 [AV.ro 1 ((↑(linN x) : Int).toNat - 0) fun i =>
 [AV.int IntKind.u8 (↑(x.snd.snd.getD (0 + i) 0) : Int)]]
 else [AV.nils]) =
 [AV.ro 1 (x_4.m i) fun j => [AV.int IntKind.u8 (↑(x_4.f i j) : Int)]]) ∧
 True) ∧
 true = true ∧ True) ∧
 Bytess (famL x_4) ∧
 ∀ (y : Unit),
 True →
 ∀ (n_1 : Int),
 n_1 = bits BinOp.xor IntKind.u32 n (↑(sumN (famL x_4)) : Int) →
 Exx Fam fun x_5 =>
 ((((1 : Nat) = (1 : Nat) ∧
 1 = x_5.n ∧
 1 ≤ [AV.sl 1 [] 0 1 0 (linN x) (linN x)].length ∧
 (0 + linN x ≤ linN x ∧
 linN x = x_5.m 0 ∧
 ∀ (j : Nat),
 j < x_5.m 0 →
 [AV.int IntKind.u8
 (↑(if 0 + j < t then linX x (0 + j) else 0) :
 Int)] =
 [AV.int IntKind.u8 (↑(x_5.f 0 j) : Int)]) ∧
 True) ∧
 True) ∧
 true = true ∧ True) ∧
 Bytess (famL x_5) ∧
 ∀ (y : Unit),
 True →
 ∀ (n : Int),
 n = bits BinOp.xor IntKind.u32 n_1 (↑(sumN (famL x_5)) : Int) →
 Exx Unit fun y =>
 ((decide (n = 0) = true ∧ True) ∧ true = true ∧ True) ∧ True) ∧
 Exx Fam fun x_3 =>
 ((((0 : Nat) + (1 : Nat) ≤ (1 : Nat) ∧
 1 = x_3.n ∧
 ∀ (i : Nat),
 i < x_3.n →
 (if 0 + i = 0 * 1 / 1 then
 [AV.ro 1 ((↑(linN x) : Int).toNat - 0) fun i =>
 [AV.int IntKind.u8 (↑(x.snd.fst.getD (0 + i) 0) : Int)]]
 else [AV.nils]) =
 [AV.ro 1 (x_3.m i) fun j => [AV.int IntKind.u8 (↑(x_3.f i j) : Int)]]) ∧
 True) ∧
 true = true ∧ True) ∧
 Bytess (famL x_3) ∧
 ∀ (y : Unit),
 True →
 ∀ (n : Int),
 n = bits BinOp.xor IntKind.u32 (↑(sumN (famL x_2)) : Int) (↑(sumN (famL x_3)) : Int) →
 Exx Fam fun x_4 =>
 ((((0 : Nat) + (1 : Nat) ≤ (1 : Nat) ∧
 1 = x_4.n ∧
 ∀ (i : Nat),
 i < x_4.n →
 (if 0 + i = 0 * 1 / 1 then
 [AV.ro 1 ((↑(linN x) : Int).toNat - 0) fun i =>
 [AV.int IntKind.u8 (↑(x.snd.snd.getD (0 + i) 0) : Int)]]
 else [AV.nils]) =
 [AV.ro 1 (x_4.m i) fun j => [AV.int IntKind.u8 (↑(x_4.f i j) : Int)]]) ∧
 True) ∧
 true = true ∧ True) ∧
 Bytess (famL x_4) ∧
 ∀ (y : Unit),
 True →
 ∀ (n_1 : Int),
 n_1 = bits BinOp.xor IntKind.u32 n (↑(sumN (famL x_4)) : Int) →
 Exx Fam fun x_5 =>
 ((((1 : Nat) = (1 : Nat) ∧
 1 = x_5.n ∧
 1 ≤ [AV.sl 1 [] 0 1 0 (linN x) (linN x)].length ∧
 (0 + linN x ≤ linN x ∧
 linN x = x_5.m 0 ∧
 ∀ (j : Nat),
 j < x_5.m 0 →
 [AV.int IntKind.u8
 (↑(if 0 + j < t then linX x (0 + j) else 0) :
 Int)] =
 [AV.int IntKind.u8 (↑(x_5.f 0 j) : Int)]) ∧
 True) ∧
 True) ∧
 true = true ∧ True) ∧
 Bytess (famL x_5) ∧
 ∀ (y : Unit),
 True →
 ∀ (n : Int),
 n = bits BinOp.xor IntKind.u32 n_1 (↑(sumN (famL x_5)) : Int) →
 Exx Unit fun y =>
 ((decide (n = 0) = true ∧ True) ∧ true = true ∧ True) ∧ True) ∧
 Exx Fam fun x_2 =>
 ((((0 : Nat) + (1 : Nat) ≤ (1 : Nat) ∧
 1 = x_2.n ∧
 ∀ (i : Nat),
 i < x_2.n →
 (if 0 + i = 0 * 1 / 1 then
 [AV.ro 1 ((↑(linN x) : Int).toNat - 0) fun i => [AV.int IntKind.u8 (↑(x.fst.getD (0 + i) 0) : Int)]]
 else [AV.nils]) =
 [AV.ro 1 (x_2.m i) fun j => [AV.int IntKind.u8 (↑(x_2.f i j) : Int)]]) ∧
 True) ∧
 true = true ∧ True) ∧
 Bytess (famL x_2) ∧
 ∀ (y : Unit),
 True →
 Exx Fam fun x_3 =>
 ((((0 : Nat) + (1 : Nat) ≤ (1 : Nat) ∧
 1 = x_3.n ∧
 ∀ (i : Nat),
 i < x_3.n →
 (if 0 + i = 0 * 1 / 1 then
 [AV.ro 1 ((↑(linN x) : Int).toNat - 0) fun i =>
 [AV.int IntKind.u8 (↑(x.snd.fst.getD (0 + i) 0) : Int)]]
 else [AV.nils]) =
 [AV.ro 1 (x_3.m i) fun j => [AV.int IntKind.u8 (↑(x_3.f i j) : Int)]]) ∧
 True) ∧
 true = true ∧ True) ∧
 Bytess (famL x_3) ∧
 ∀ (y : Unit),
 True →
 ∀ (n : Int),
 n = bits BinOp.xor IntKind.u32 (↑(sumN (famL x_2)) : Int) (↑(sumN (famL x_3)) : Int) →
 Exx Fam fun x_4 =>
 ((((0 : Nat) + (1 : Nat) ≤ (1 : Nat) ∧
 1 = x_4.n ∧
 ∀ (i : Nat),
 i < x_4.n →
 (if 0 + i = 0 * 1 / 1 then
 [AV.ro 1 ((↑(linN x) : Int).toNat - 0) fun i =>
 [AV.int IntKind.u8 (↑(x.snd.snd.getD (0 + i) 0) : Int)]]
 else [AV.nils]) =
 [AV.ro 1 (x_4.m i) fun j => [AV.int IntKind.u8 (↑(x_4.f i j) : Int)]]) ∧
 True) ∧
 true = true ∧ True) ∧
 Bytess (famL x_4) ∧
 ∀ (y : Unit),
 True →
 ∀ (n_1 : Int),
 n_1 = bits BinOp.xor IntKind.u32 n (↑(sumN (famL x_4)) : Int) →
 Exx Fam fun x_5 =>
 ((((1 : Nat) = (1 : Nat) ∧
 1 = x_5.n ∧
 1 ≤ [AV.sl 1 [] 0 1 0 (linN x) (linN x)].length ∧
 (0 + linN x ≤ linN x ∧
 linN x = x_5.m 0 ∧
 ∀ (j : Nat),
 j < x_5.m 0 →
 [AV.int IntKind.u8
 (↑(if 0 + j < t then linX x (0 + j) else 0) : Int)] =
 [AV.int IntKind.u8 (↑(x_5.f 0 j) : Int)]) ∧
 True) ∧
 True) ∧
 true = true ∧ True) ∧
 Bytess (famL x_5) ∧
 ∀ (y : Unit),
 True →
 ∀ (n : Int),
 n = bits BinOp.xor IntKind.u32 n_1 (↑(sumN (famL x_5)) : Int) →
 Exx Unit fun y =>
 ((decide (n = 0) = true ∧ True) ∧ true = true ∧ True) ∧ True) ∧
 (Exx Fam fun x_2 =>
 ((((0 : Nat) + (1 : Nat) ≤ (1 : Nat) ∧
 1 = x_2.n ∧
 ∀ (i : Nat),
 i < x_2.n →
 (if 0 + i = 0 * 1 / 1 then
 [AV.ro 1 ((↑(linN x) : Int).toNat - 0) fun i => [AV.int IntKind.u8 (↑(x.fst.getD (0 + i) 0) : Int)]]
 else [AV.nils]) =
 [AV.ro 1 (x_2.m i) fun j => [AV.int IntKind.u8 (↑(x_2.f i j) : Int)]]) ∧
 True) ∧
 true = true ∧ True) ∧
 Bytess (famL x_2) ∧
 ∀ (y : Unit),
 True →
 (Exx Fam fun x_3 =>
 ((((0 : Nat) + (1 : Nat) ≤ (1 : Nat) ∧
 1 = x_3.n ∧
 ∀ (i : Nat),
 i < x_3.n →
 (if 0 + i = 0 * 1 / 1 then
 [AV.ro 1 ((↑(linN x) : Int).toNat - 0) fun i =>
 [AV.int IntKind.u8 (↑(x.snd.fst.getD (0 + i) 0) : Int)]]
 else [AV.nils]) =
 [AV.ro 1 (x_3.m i) fun j => [AV.int IntKind.u8 (↑(x_3.f i j) : Int)]]) ∧
 True) ∧
 true = true ∧ True) ∧
 Bytess (famL x_3) ∧
 ∀ (y : Unit),
 True →
 ∀ (n : Int),
 n = bits BinOp.xor IntKind.u32 (↑(sumN (famL x_2)) : Int) (↑(sumN (famL x_3)) : Int) →
 Exx Fam fun x_4 =>
 ((((0 : Nat) + (1 : Nat) ≤ (1 : Nat) ∧
 1 = x_4.n ∧
 ∀ (i : Nat),
 i < x_4.n →
 (if 0 + i = 0 * 1 / 1 then
 [AV.ro 1 ((↑(linN x) : Int).toNat - 0) fun i =>
 [AV.int IntKind.u8 (↑(x.snd.snd.getD (0 + i) 0) : Int)]]
 else [AV.nils]) =
 [AV.ro 1 (x_4.m i) fun j => [AV.int IntKind.u8 (↑(x_4.f i j) : Int)]]) ∧
 True) ∧
 true = true ∧ True) ∧
 Bytess (famL x_4) ∧
 ∀ (y : Unit),
 True →
 ∀ (n_1 : Int),
 n_1 = bits BinOp.xor IntKind.u32 n (↑(sumN (famL x_4)) : Int) →
 Exx Fam fun x_5 =>
 ((((1 : Nat) = (1 : Nat) ∧
 1 = x_5.n ∧
 1 ≤ [AV.sl 1 [] 0 1 0 (linN x) (linN x)].length ∧
 (0 + linN x ≤ linN x ∧
 linN x = x_5.m 0 ∧
 ∀ (j : Nat),
 j < x_5.m 0 →
 [AV.int IntKind.u8
 (↑(if 0 + j < t then linX x (0 + j) else 0) :
 Int)] =
 [AV.int IntKind.u8 (↑(x_5.f 0 j) : Int)]) ∧
 True) ∧
 True) ∧
 true = true ∧ True) ∧
 Bytess (famL x_5) ∧
 ∀ (y : Unit),
 True →
 ∀ (n : Int),
 n = bits BinOp.xor IntKind.u32 n_1 (↑(sumN (famL x_5)) : Int) →
 Exx Unit fun y =>
 ((decide (n = 0) = true ∧ True) ∧ true = true ∧ True) ∧ True) ∧
 Exx Fam fun x_3 =>
 ((((0 : Nat) + (1 : Nat) ≤ (1 : Nat) ∧
 1 = x_3.n ∧
 ∀ (i : Nat),
 i < x_3.n →
 (if 0 + i = 0 * 1 / 1 then
 [AV.ro 1 ((↑(linN x) : Int).toNat - 0) fun i =>
 [AV.int IntKind.u8 (↑(x.snd.fst.getD (0 + i) 0) : Int)]]
 else [AV.nils]) =
 [AV.ro 1 (x_3.m i) fun j => [AV.int IntKind.u8 (↑(x_3.f i j) : Int)]]) ∧
 True) ∧
 true = true ∧ True) ∧
 Bytess (famL x_3) ∧
 ∀ (y : Unit),
 True →
 ∀ (n : Int),
 n = bits BinOp.xor IntKind.u32 (↑(sumN (famL x_2)) : Int) (↑(sumN (famL x_3)) : Int) →
 Exx Fam fun x_4 =>
 ((((0 : Nat) + (1 : Nat) ≤ (1 : Nat) ∧
 1 = x_4.n ∧
 ∀ (i : Nat),
 i < x_4.n →
 (if 0 + i = 0 * 1 / 1 then
 [AV.ro 1 ((↑(linN x) : Int).toNat - 0) fun i =>
 [AV.int IntKind.u8 (↑(x.snd.snd.getD (0 + i) 0) : Int)]]
 else [AV.nils]) =
 [AV.ro 1 (x_4.m i) fun j => [AV.int IntKind.u8 (↑(x_4.f i j) : Int)]]) ∧
 True) ∧
 true = true ∧ True) ∧
 Bytess (famL x_4) ∧
 ∀ (y : Unit),
 True →
 ∀ (n_1 : Int),
 n_1 = bits BinOp.xor IntKind.u32 n (↑(sumN (famL x_4)) : Int) →
 Exx Fam fun x_5 =>
 ((((1 : Nat) = (1 : Nat) ∧
 1 = x_5.n ∧
 1 ≤ [AV.sl 1 [] 0 1 0 (linN x) (linN x)].length ∧
 (0 + linN x ≤ linN x ∧
 linN x = x_5.m 0 ∧
 ∀ (j : Nat),
 j < x_5.m 0 →
 [AV.int IntKind.u8
 (↑(if 0 + j < t then linX x (0 + j) else 0) :
 Int)] =
 [AV.int IntKind.u8 (↑(x_5.f 0 j) : Int)]) ∧
 True) ∧
 True) ∧
 true = true ∧ True) ∧
 Bytess (famL x_5) ∧
 ∀ (y : Unit),
 True →
 ∀ (n : Int),
 n = bits BinOp.xor IntKind.u32 n_1 (↑(sumN (famL x_5)) : Int) →
 Exx Unit fun y =>
 ((decide (n = 0) = true ∧ True) ∧ true = true ∧ True) ∧ True) ∧
 Exx Fam fun x_2 =>
 ((((0 : Nat) + (1 : Nat) ≤ (1 : Nat) ∧
 1 = x_2.n ∧
 ∀ (i : Nat),
 i < x_2.n →
 (if 0 + i = 0 * 1 / 1 then
 [AV.ro 1 ((↑(linN x) : Int).toNat - 0) fun i => [AV.int IntKind.u8 (↑(x.fst.getD (0 + i) 0) : Int)]]
 else [AV.nils]) =
 [AV.ro 1 (x_2.m i) fun j => [AV.int IntKind.u8 (↑(x_2.f i j) : Int)]]) ∧
 True) ∧
 true = true ∧ True) ∧
 Bytess (famL x_2) ∧
 ∀ (y : Unit),
 True →
 Exx Fam fun x_3 =>
 ((((0 : Nat) + (1 : Nat) ≤ (1 : Nat) ∧
 1 = x_3.n ∧
 ∀ (i : Nat),
 i < x_3.n →
 (if 0 + i = 0 * 1 / 1 then
 [AV.ro 1 ((↑(linN x) : Int).toNat - 0) fun i =>
 [AV.int IntKind.u8 (↑(x.snd.fst.getD (0 + i) 0) : Int)]]
 else [AV.nils]) =
 [AV.ro 1 (x_3.m i) fun j => [AV.int IntKind.u8 (↑(x_3.f i j) : Int)]]) ∧
 True) ∧
 true = true ∧ True) ∧
 Bytess (famL x_3) ∧
 ∀ (y : Unit),
 True →
 ∀ (n : Int),
 n = bits BinOp.xor IntKind.u32 (↑(sumN (famL x_2)) : Int) (↑(sumN (famL x_3)) : Int) →
 Exx Fam fun x_4 =>
 ((((0 : Nat) + (1 : Nat) ≤ (1 : Nat) ∧
 1 = x_4.n ∧
 ∀ (i : Nat),
 i < x_4.n →
 (if 0 + i = 0 * 1 / 1 then
 [AV.ro 1 ((↑(linN x) : Int).toNat - 0) fun i =>
 [AV.int IntKind.u8 (↑(x.snd.snd.getD (0 + i) 0) : Int)]]
 else [AV.nils]) =
 [AV.ro 1 (x_4.m i) fun j => [AV.int IntKind.u8 (↑(x_4.f i j) : Int)]]) ∧
 True) ∧
 true = true ∧ True) ∧
 Bytess (famL x_4) ∧
 ∀ (y : Unit),
 True →
 ∀ (n_1 : Int),
 n_1 = bits BinOp.xor IntKind.u32 n (↑(sumN (famL x_4)) : Int) →
 Exx Fam fun x_5 =>
 ((((1 : Nat) = (1 : Nat) ∧
 1 = x_5.n ∧
 1 ≤ [AV.sl 1 [] 0 1 0 (linN x) (linN x)].length ∧
 (0 + linN x ≤ linN x ∧
 linN x = x_5.m 0 ∧
 ∀ (j : Nat),
 j < x_5.m 0 →
 [AV.int IntKind.u8
 (↑(if 0 + j < t then linX x (0 + j) else 0) : Int)] =
 [AV.int IntKind.u8 (↑(x_5.f 0 j) : Int)]) ∧
 True) ∧
 True) ∧
 true = true ∧ True) ∧
 Bytess (famL x_5) ∧
 ∀ (y : Unit),
 True →
 ∀ (n : Int),
 n = bits BinOp.xor IntKind.u32 n_1 (↑(sumN (famL x_5)) : Int) →
 Exx Unit fun y =>
 ((decide (n = 0) = true ∧ True) ∧ true = true ∧ True) ∧ True) ∧
 ((Exx Fam fun x_2 =>
 ((((0 : Nat) + (1 : Nat) ≤ (1 : Nat) ∧
 1 = x_2.n ∧
 ∀ (i : Nat),
 i < x_2.n →
 (if 0 + i = 0 * 1 / 1 then
 [AV.ro 1 ((↑(linN x) : Int).toNat - 0) fun i => [AV.int IntKind.u8 (↑(x.fst.getD (0 + i) 0) : Int)]]
 else [AV.nils]) =
 [AV.ro 1 (x_2.m i) fun j => [AV.int IntKind.u8 (↑(x_2.f i j) : Int)]]) ∧
 True) ∧
 true = true ∧ True) ∧
 Bytess (famL x_2) ∧
 ∀ (y : Unit),
 True →
 ((Exx Fam fun x_3 =>
 ((((0 : Nat) + (1 : Nat) ≤ (1 : Nat) ∧
 1 = x_3.n ∧
 ∀ (i : Nat),
 i < x_3.n →
 (if 0 + i = 0 * 1 / 1 then
 [AV.ro 1 ((↑(linN x) : Int).toNat - 0) fun i =>
 [AV.int IntKind.u8 (↑(x.snd.fst.getD (0 + i) 0) : Int)]]
 else [AV.nils]) =
 [AV.ro 1 (x_3.m i) fun j => [AV.int IntKind.u8 (↑(x_3.f i j) : Int)]]) ∧
 True) ∧
 true = true ∧ True) ∧
 Bytess (famL x_3) ∧
 ∀ (y : Unit),
 True →
 ∀ (n : Int),
 n = bits BinOp.xor IntKind.u32 (↑(sumN (famL x_2)) : Int) (↑(sumN (famL x_3)) : Int) →
 (Exx Fam fun x_4 =>
 ((((0 : Nat) + (1 : Nat) ≤ (1 : Nat) ∧
 1 = x_4.n ∧
 ∀ (i : Nat),
 i < x_4.n →
 (if 0 + i = 0 * 1 / 1 then
 [AV.ro 1 ((↑(linN x) : Int).toNat - 0) fun i =>
 [AV.int IntKind.u8 (↑(x.snd.snd.getD (0 + i) 0) : Int)]]
 else [AV.nils]) =
 [AV.ro 1 (x_4.m i) fun j => [AV.int IntKind.u8 (↑(x_4.f i j) : Int)]]) ∧
 True) ∧
 true = true ∧ True) ∧
 Bytess (famL x_4) ∧
 ∀ (y : Unit),
 True →
 ∀ (n_1 : Int),
 n_1 = bits BinOp.xor IntKind.u32 n (↑(sumN (famL x_4)) : Int) →
 Exx Fam fun x_5 =>
 ((((1 : Nat) = (1 : Nat) ∧
 1 = x_5.n ∧
 1 ≤ [AV.sl 1 [] 0 1 0 (linN x) (linN x)].length ∧
 (0 + linN x ≤ linN x ∧
 linN x = x_5.m 0 ∧
 ∀ (j : Nat),
 j < x_5.m 0 →
 [AV.int IntKind.u8
 (↑(if 0 + j < t then linX x (0 + j) else 0) :
 Int)] =
 [AV.int IntKind.u8 (↑(x_5.f 0 j) : Int)]) ∧
 True) ∧
 True) ∧
 true = true ∧ True) ∧
 Bytess (famL x_5) ∧
 ∀ (y : Unit),
 True →
 ∀ (n : Int),
 n = bits BinOp.xor IntKind.u32 n_1 (↑(sumN (famL x_5)) : Int) →
 Exx Unit fun y =>
 ((decide (n = 0) = true ∧ True) ∧ true = true ∧ True) ∧ True) ∧
 Exx Fam fun x_4 =>
 ((((0 : Nat) + (1 : Nat) ≤ (1 : Nat) ∧
 1 = x_4.n ∧
 ∀ (i : Nat),
 i < x_4.n →
 (if 0 + i = 0 * 1 / 1 then
 [AV.ro 1 ((↑(linN x) : Int).toNat - 0) fun i =>
 [AV.int IntKind.u8 (↑(x.snd.snd.getD (0 + i) 0) : Int)]]
 else [AV.nils]) =
 [AV.ro 1 (x_4.m i) fun j => [AV.int IntKind.u8 (↑(x_4.f i j) : Int)]]) ∧
 True) ∧
 true = true ∧ True) ∧
 Bytess (famL x_4) ∧
 ∀ (y : Unit),
 True →
 ∀ (n_1 : Int),
 n_1 = bits BinOp.xor IntKind.u32 n (↑(sumN (famL x_4)) : Int) →
 Exx Fam fun x_5 =>
 ((((1 : Nat) = (1 : Nat) ∧
 1 = x_5.n ∧
 1 ≤ [AV.sl 1 [] 0 1 0 (linN x) (linN x)].length ∧
 (0 + linN x ≤ linN x ∧
 linN x = x_5.m 0 ∧
 ∀ (j : Nat),
 j < x_5.m 0 →
 [AV.int IntKind.u8
 (↑(if 0 + j < t then linX x (0 + j) else 0) :
 Int)] =
 [AV.int IntKind.u8 (↑(x_5.f 0 j) : Int)]) ∧
 True) ∧
 True) ∧
 true = true ∧ True) ∧
 Bytess (famL x_5) ∧
 ∀ (y : Unit),
 True →
 ∀ (n : Int),
 n = bits BinOp.xor IntKind.u32 n_1 (↑(sumN (famL x_5)) : Int) →
 Exx Unit fun y =>
 ((decide (n = 0) = true ∧ True) ∧ true = true ∧ True) ∧ True) ∧
 Exx Fam fun x_3 =>
 ((((0 : Nat) + (1 : Nat) ≤ (1 : Nat) ∧
 1 = x_3.n ∧
 ∀ (i : Nat),
 i < x_3.n →
 (if 0 + i = 0 * 1 / 1 then
 [AV.ro 1 ((↑(linN x) : Int).toNat - 0) fun i =>
 [AV.int IntKind.u8 (↑(x.snd.fst.getD (0 + i) 0) : Int)]]
 else [AV.nils]) =
 [AV.ro 1 (x_3.m i) fun j => [AV.int IntKind.u8 (↑(x_3.f i j) : Int)]]) ∧
 True) ∧
 true = true ∧ True) ∧
 Bytess (famL x_3) ∧
 ∀ (y : Unit),
 True →
 ∀ (n : Int),
 n = bits BinOp.xor IntKind.u32 (↑(sumN (famL x_2)) : Int) (↑(sumN (famL x_3)) : Int) →
 Exx Fam fun x_4 =>
 ((((0 : Nat) + (1 : Nat) ≤ (1 : Nat) ∧
 1 = x_4.n ∧
 ∀ (i : Nat),
 i < x_4.n →
 (if 0 + i = 0 * 1 / 1 then
 [AV.ro 1 ((↑(linN x) : Int).toNat - 0) fun i =>
 [AV.int IntKind.u8 (↑(x.snd.snd.getD (0 + i) 0) : Int)]]
 else [AV.nils]) =
 [AV.ro 1 (x_4.m i) fun j => [AV.int IntKind.u8 (↑(x_4.f i j) : Int)]]) ∧
 True) ∧
 true = true ∧ True) ∧
 Bytess (famL x_4) ∧
 ∀ (y : Unit),
 True →
 ∀ (n_1 : Int),
 n_1 = bits BinOp.xor IntKind.u32 n (↑(sumN (famL x_4)) : Int) →
 Exx Fam fun x_5 =>
 ((((1 : Nat) = (1 : Nat) ∧
 1 = x_5.n ∧
 1 ≤ [AV.sl 1 [] 0 1 0 (linN x) (linN x)].length ∧
 (0 + linN x ≤ linN x ∧
 linN x = x_5.m 0 ∧
 ∀ (j : Nat),
 j < x_5.m 0 →
 [AV.int IntKind.u8
 (↑(if 0 + j < t then linX x (0 + j) else 0) :
 Int)] =
 [AV.int IntKind.u8 (↑(x_5.f 0 j) : Int)]) ∧
 True) ∧
 True) ∧
 true = true ∧ True) ∧
 Bytess (famL x_5) ∧
 ∀ (y : Unit),
 True →
 ∀ (n : Int),
 n = bits BinOp.xor IntKind.u32 n_1 (↑(sumN (famL x_5)) : Int) →
 Exx Unit fun y =>
 ((decide (n = 0) = true ∧ True) ∧ true = true ∧ True) ∧ True) ∧
 Exx Fam fun x_3 =>
 ((((0 : Nat) + (1 : Nat) ≤ (1 : Nat) ∧
 1 = x_3.n ∧
 ∀ (i : Nat),
 i < x_3.n →
 (if 0 + i = 0 * 1 / 1 then
 [AV.ro 1 ((↑(linN x) : Int).toNat - 0) fun i =>
 [AV.int IntKind.u8 (↑(x.snd.fst.getD (0 + i) 0) : Int)]]
 else [AV.nils]) =
 [AV.ro 1 (x_3.m i) fun j => [AV.int IntKind.u8 (↑(x_3.f i j) : Int)]]) ∧
 True) ∧
 true = true ∧ True) ∧
 Bytess (famL x_3) ∧
 ∀ (y : Unit),
 True →
 ∀ (n : Int),
 n = bits BinOp.xor IntKind.u32 (↑(sumN (famL x_2)) : Int) (↑(sumN (famL x_3)) : Int) →
 Exx Fam fun x_4 =>
 ((((0 : Nat) + (1 : Nat) ≤ (1 : Nat) ∧
 1 = x_4.n ∧
 ∀ (i : Nat),
 i < x_4.n →
 (if 0 + i = 0 * 1 / 1 then
 [AV.ro 1 ((↑(linN x) : Int).toNat - 0) fun i =>
 [AV.int IntKind.u8 (↑(x.snd.snd.getD (0 + i) 0) : Int)]]
 else [AV.nils]) =
 [AV.ro 1 (x_4.m i) fun j => [AV.int IntKind.u8 (↑(x_4.f i j) : Int)]]) ∧
 True) ∧
 true = true ∧ True) ∧
 Bytess (famL x_4) ∧
 ∀ (y : Unit),
 True →
 ∀ (n_1 : Int),
 n_1 = bits BinOp.xor IntKind.u32 n (↑(sumN (famL x_4)) : Int) →
 Exx Fam fun x_5 =>
 ((((1 : Nat) = (1 : Nat) ∧
 1 = x_5.n ∧
 1 ≤ [AV.sl 1 [] 0 1 0 (linN x) (linN x)].length ∧
 (0 + linN x ≤ linN x ∧
 linN x = x_5.m 0 ∧
 ∀ (j : Nat),
 j < x_5.m 0 →
 [AV.int IntKind.u8
 (↑(if 0 + j < t then linX x (0 + j) else 0) : Int)] =
 [AV.int IntKind.u8 (↑(x_5.f 0 j) : Int)]) ∧
 True) ∧
 True) ∧
 true = true ∧ True) ∧
 Bytess (famL x_5) ∧
 ∀ (y : Unit),
 True →
 ∀ (n : Int),
 n = bits BinOp.xor IntKind.u32 n_1 (↑(sumN (famL x_5)) : Int) →
 Exx Unit fun y =>
 ((decide (n = 0) = true ∧ True) ∧ true = true ∧ True) ∧ True) ∧
 ((Exx Fam fun x_2 =>
 ((((0 : Nat) + (1 : Nat) ≤ (1 : Nat) ∧
 1 = x_2.n ∧
 ∀ (i : Nat),
 i < x_2.n →
 (if 0 + i = 0 * 1 / 1 then
 [AV.ro 1 ((↑(linN x) : Int).toNat - 0) fun i => [AV.int IntKind.u8 (↑(x.fst.getD (0 + i) 0) : Int)]]
 else [AV.nils]) =
 [AV.ro 1 (x_2.m i) fun j => [AV.int IntKind.u8 (↑(x_2.f i j) : Int)]]) ∧
 True) ∧
 true = true ∧ True) ∧
 Bytess (famL x_2) ∧
 ∀ (y : Unit),
 True →
 (Exx Fam fun x_3 =>
 ((((0 : Nat) + (1 : Nat) ≤ (1 : Nat) ∧
 1 = x_3.n ∧
 ∀ (i : Nat),
 i < x_3.n →
 (if 0 + i = 0 * 1 / 1 then
 [AV.ro 1 ((↑(linN x) : Int).toNat - 0) fun i =>
 [AV.int IntKind.u8 (↑(x.snd.fst.getD (0 + i) 0) : Int)]]
 else [AV.nils]) =
 [AV.ro 1 (x_3.m i) fun j => [AV.int IntKind.u8 (↑(x_3.f i j) : Int)]]) ∧
 True) ∧
 true = true ∧ True) ∧
 Bytess (famL x_3) ∧
 ∀ (y : Unit),
 True →
 ∀ (n : Int),
 n = bits BinOp.xor IntKind.u32 (↑(sumN (famL x_2)) : Int) (↑(sumN (famL x_3)) : Int) →
 (Exx Fam fun x_4 =>
 ((((0 : Nat) + (1 : Nat) ≤ (1 : Nat) ∧
 1 = x_4.n ∧
 ∀ (i : Nat),
 i < x_4.n →
 (if 0 + i = 0 * 1 / 1 then
 [AV.ro 1 ((↑(linN x) : Int).toNat - 0) fun i =>
 [AV.int IntKind.u8 (↑(x.snd.snd.getD (0 + i) 0) : Int)]]
 else [AV.nils]) =
 [AV.ro 1 (x_4.m i) fun j => [AV.int IntKind.u8 (↑(x_4.f i j) : Int)]]) ∧
 True) ∧
 true = true ∧ True) ∧
 Bytess (famL x_4) ∧
 ∀ (y : Unit),
 True →
 ∀ (n_1 : Int),
 n_1 = bits BinOp.xor IntKind.u32 n (↑(sumN (famL x_4)) : Int) →
 Exx Fam fun x_5 =>
 ((((1 : Nat) = (1 : Nat) ∧
 1 = x_5.n ∧
 1 ≤ [AV.sl 1 [] 0 1 0 (linN x) (linN x)].length ∧
 (0 + linN x ≤ linN x ∧
 linN x = x_5.m 0 ∧
 ∀ (j : Nat),
 j < x_5.m 0 →
 [AV.int IntKind.u8
 (↑(if 0 + j < t then linX x (0 + j) else 0) :
 Int)] =
 [AV.int IntKind.u8 (↑(x_5.f 0 j) : Int)]) ∧
 True) ∧
 True) ∧
 true = true ∧ True) ∧
 Bytess (famL x_5) ∧
 ∀ (y : Unit),
 True →
 ∀ (n : Int),
 n = bits BinOp.xor IntKind.u32 n_1 (↑(sumN (famL x_5)) : Int) →
 Exx Unit fun y =>
 ((decide (n = 0) = true ∧ True) ∧ true = true ∧ True) ∧
 True) ∧
 Exx Fam fun x_4 =>
 ((((0 : Nat) + (1 : Nat) ≤ (1 : Nat) ∧
 1 = x_4.n ∧
 ∀ (i : Nat),
 i < x_4.n →
 (if 0 + i = 0 * 1 / 1 then
 [AV.ro 1 ((↑(linN x) : Int).toNat - 0) fun i =>
 [AV.int IntKind.u8 (↑(x.snd.snd.getD (0 + i) 0) : Int)]]
 else [AV.nils]) =
 [AV.ro 1 (x_4.m i) fun j => [AV.int IntKind.u8 (↑(x_4.f i j) : Int)]]) ∧
 True) ∧
 true = true ∧ True) ∧
 Bytess (famL x_4) ∧
 ∀ (y : Unit),
 True →
 ∀ (n_1 : Int),
 n_1 = bits BinOp.xor IntKind.u32 n (↑(sumN (famL x_4)) : Int) →
 Exx Fam fun x_5 =>
 ((((1 : Nat) = (1 : Nat) ∧
 1 = x_5.n ∧
 1 ≤ [AV.sl 1 [] 0 1 0 (linN x) (linN x)].length ∧
 (0 + linN x ≤ linN x ∧
 linN x = x_5.m 0 ∧
 ∀ (j : Nat),
 j < x_5.m 0 →
 [AV.int IntKind.u8
 (↑(if 0 + j < t then linX x (0 + j) else 0) :
 Int)] =
 [AV.int IntKind.u8 (↑(x_5.f 0 j) : Int)]) ∧
 True) ∧
 True) ∧
 true = true ∧ True) ∧
 Bytess (famL x_5) ∧
 ∀ (y : Unit),
 True →
 ∀ (n : Int),
 n = bits BinOp.xor IntKind.u32 n_1 (↑(sumN (famL x_5)) : Int) →
 Exx Unit fun y =>
 ((decide (n = 0) = true ∧ True) ∧ true = true ∧ True) ∧
 True) ∧
 Exx Fam fun x_3 =>
 ((((0 : Nat) + (1 : Nat) ≤ (1 : Nat) ∧
 1 = x_3.n ∧
 ∀ (i : Nat),
 i < x_3.n →
 (if 0 + i = 0 * 1 / 1 then
 [AV.ro 1 ((↑(linN x) : Int).toNat - 0) fun i =>
 [AV.int IntKind.u8 (↑(x.snd.fst.getD (0 + i) 0) : Int)]]
 else [AV.nils]) =
 [AV.ro 1 (x_3.m i) fun j => [AV.int IntKind.u8 (↑(x_3.f i j) : Int)]]) ∧
 True) ∧
 true = true ∧ True) ∧
 Bytess (famL x_3) ∧
 ∀ (y : Unit),
 True →
 ∀ (n : Int),
 n = bits BinOp.xor IntKind.u32 (↑(sumN (famL x_2)) : Int) (↑(sumN (famL x_3)) : Int) →
 Exx Fam fun x_4 =>
 ((((0 : Nat) + (1 : Nat) ≤ (1 : Nat) ∧
 1 = x_4.n ∧
 ∀ (i : Nat),
 i < x_4.n →
 (if 0 + i = 0 * 1 / 1 then
 [AV.ro 1 ((↑(linN x) : Int).toNat - 0) fun i =>
 [AV.int IntKind.u8 (↑(x.snd.snd.getD (0 + i) 0) : Int)]]
 else [AV.nils]) =
 [AV.ro 1 (x_4.m i) fun j => [AV.int IntKind.u8 (↑(x_4.f i j) : Int)]]) ∧
 True) ∧
 true = true ∧ True) ∧
 Bytess (famL x_4) ∧
 ∀ (y : Unit),
 True →
 ∀ (n_1 : Int),
 n_1 = bits BinOp.xor IntKind.u32 n (↑(sumN (famL x_4)) : Int) →
 Exx Fam fun x_5 =>
 ((((1 : Nat) = (1 : Nat) ∧
 1 = x_5.n ∧
 1 ≤ [AV.sl 1 [] 0 1 0 (linN x) (linN x)].length ∧
 (0 + linN x ≤ linN x ∧
 linN x = x_5.m 0 ∧
 ∀ (j : Nat),
 j < x_5.m 0 →
 [AV.int IntKind.u8
 (↑(if 0 + j < t then linX x (0 + j) else 0) :
 Int)] =
 [AV.int IntKind.u8 (↑(x_5.f 0 j) : Int)]) ∧
 True) ∧
 True) ∧
 true = true ∧ True) ∧
 Bytess (famL x_5) ∧
 ∀ (y : Unit),
 True →
 ∀ (n : Int),
 n = bits BinOp.xor IntKind.u32 n_1 (↑(sumN (famL x_5)) : Int) →
 Exx Unit fun y =>
 ((decide (n = 0) = true ∧ True) ∧ true = true ∧ True) ∧ True) ∧
 Exx Fam fun x_2 =>
 ((((0 : Nat) + (1 : Nat) ≤ (1 : Nat) ∧
 1 = x_2.n ∧
 ∀ (i : Nat),
 i < x_2.n →
 (if 0 + i = 0 * 1 / 1 then
 [AV.ro 1 ((↑(linN x) : Int).toNat - 0) fun i => [AV.int IntKind.u8 (↑(x.fst.getD (0 + i) 0) : Int)]]
 else [AV.nils]) =
 [AV.ro 1 (x_2.m i) fun j => [AV.int IntKind.u8 (↑(x_2.f i j) : Int)]]) ∧
 True) ∧
 true = true ∧ True) ∧
 Bytess (famL x_2) ∧
 ∀ (y : Unit),
 True →
 Exx Fam fun x_3 =>
 ((((0 : Nat) + (1 : Nat) ≤ (1 : Nat) ∧
 1 = x_3.n ∧
 ∀ (i : Nat),
 i < x_3.n →
 (if 0 + i = 0 * 1 / 1 then
 [AV.ro 1 ((↑(linN x) : Int).toNat - 0) fun i =>
 [AV.int IntKind.u8 (↑(x.snd.fst.getD (0 + i) 0) : Int)]]
 else [AV.nils]) =
 [AV.ro 1 (x_3.m i) fun j => [AV.int IntKind.u8 (↑(x_3.f i j) : Int)]]) ∧
 True) ∧
 true = true ∧ True) ∧
 Bytess (famL x_3) ∧
 ∀ (y : Unit),
 True →
 ∀ (n : Int),
 n = bits BinOp.xor IntKind.u32 (↑(sumN (famL x_2)) : Int) (↑(sumN (famL x_3)) : Int) →
 Exx Fam fun x_4 =>
 ((((0 : Nat) + (1 : Nat) ≤ (1 : Nat) ∧
 1 = x_4.n ∧
 ∀ (i : Nat),
 i < x_4.n →
 (if 0 + i = 0 * 1 / 1 then
 [AV.ro 1 ((↑(linN x) : Int).toNat - 0) fun i =>
 [AV.int IntKind.u8 (↑(x.snd.snd.getD (0 + i) 0) : Int)]]
 else [AV.nils]) =
 [AV.ro 1 (x_4.m i) fun j => [AV.int IntKind.u8 (↑(x_4.f i j) : Int)]]) ∧
 True) ∧
 true = true ∧ True) ∧
 Bytess (famL x_4) ∧
 ∀ (y : Unit),
 True →
 ∀ (n_1 : Int),
 n_1 = bits BinOp.xor IntKind.u32 n (↑(sumN (famL x_4)) : Int) →
 Exx Fam fun x_5 =>
 ((((1 : Nat) = (1 : Nat) ∧
 1 = x_5.n ∧
 1 ≤ [AV.sl 1 [] 0 1 0 (linN x) (linN x)].length ∧
 (0 + linN x ≤ linN x ∧
 linN x = x_5.m 0 ∧
 ∀ (j : Nat),
 j < x_5.m 0 →
 [AV.int IntKind.u8
 (↑(if 0 + j < t then linX x (0 + j) else 0) :
 Int)] =
 [AV.int IntKind.u8 (↑(x_5.f 0 j) : Int)]) ∧
 True) ∧
 True) ∧
 true = true ∧ True) ∧
 Bytess (famL x_5) ∧
 ∀ (y : Unit),
 True →
 ∀ (n : Int),
 n = bits BinOp.xor IntKind.u32 n_1 (↑(sumN (famL x_5)) : Int) →
 Exx Unit fun y =>
 ((decide (n = 0) = true ∧ True) ∧ true = true ∧ True) ∧ True) ∧
 (Exx Fam fun x_2 =>
 ((((0 : Nat) + (1 : Nat) ≤ (1 : Nat) ∧
 1 = x_2.n ∧
 ∀ (i : Nat),
 i < x_2.n →
 (if 0 + i = 0 * 1 / 1 then
 [AV.ro 1 ((↑(linN x) : Int).toNat - 0) fun i => [AV.int IntKind.u8 (↑(x.fst.getD (0 + i) 0) : Int)]]
 else [AV.nils]) =
 [AV.ro 1 (x_2.m i) fun j => [AV.int IntKind.u8 (↑(x_2.f i j) : Int)]]) ∧
 True) ∧
 true = true ∧ True) ∧
 Bytess (famL x_2) ∧
 ∀ (y : Unit),
 True →
 Exx Fam fun x_3 =>
 ((((0 : Nat) + (1 : Nat) ≤ (1 : Nat) ∧
 1 = x_3.n ∧
 ∀ (i : Nat),
 i < x_3.n →
 (if 0 + i = 0 * 1 / 1 then
 [AV.ro 1 ((↑(linN x) : Int).toNat - 0) fun i =>
 [AV.int IntKind.u8 (↑(x.snd.fst.getD (0 + i) 0) : Int)]]
 else [AV.nils]) =
 [AV.ro 1 (x_3.m i) fun j => [AV.int IntKind.u8 (↑(x_3.f i j) : Int)]]) ∧
 True) ∧
 true = true ∧ True) ∧
 Bytess (famL x_3) ∧
 ∀ (y : Unit),
 True →
 ∀ (n : Int),
 n = bits BinOp.xor IntKind.u32 (↑(sumN (famL x_2)) : Int) (↑(sumN (famL x_3)) : Int) →
 Exx Fam fun x_4 =>
 ((((0 : Nat) + (1 : Nat) ≤ (1 : Nat) ∧
 1 = x_4.n ∧
 ∀ (i : Nat),
 i < x_4.n →
 (if 0 + i = 0 * 1 / 1 then
 [AV.ro 1 ((↑(linN x) : Int).toNat - 0) fun i =>
 [AV.int IntKind.u8 (↑(x.snd.snd.getD (0 + i) 0) : Int)]]
 else [AV.nils]) =
 [AV.ro 1 (x_4.m i) fun j => [AV.int IntKind.u8 (↑(x_4.f i j) : Int)]]) ∧
 True) ∧
 true = true ∧ True) ∧
 Bytess (famL x_4) ∧
 ∀ (y : Unit),
 True →
 ∀ (n_1 : Int),
 n_1 = bits BinOp.xor IntKind.u32 n (↑(sumN (famL x_4)) : Int) →
 Exx Fam fun x_5 =>
 ((((1 : Nat) = (1 : Nat) ∧
 1 = x_5.n ∧
 1 ≤ [AV.sl 1 [] 0 1 0 (linN x) (linN x)].length ∧
 (0 + linN x ≤ linN x ∧
 linN x = x_5.m 0 ∧
 ∀ (j : Nat),
 j < x_5.m 0 →
 [AV.int IntKind.u8
 (↑(if 0 + j < t then linX x (0 + j) else 0) :
 Int)] =
 [AV.int IntKind.u8 (↑(x_5.f 0 j) : Int)]) ∧
 True) ∧
 True) ∧
 true = true ∧ True) ∧
 Bytess (famL x_5) ∧
 ∀ (y : Unit),
 True →
 ∀ (n : Int),
 n = bits BinOp.xor IntKind.u32 n_1 (↑(sumN (famL x_5)) : Int) →
 Exx Unit fun y =>
 ((decide (n = 0) = true ∧ True) ∧ true = true ∧ True) ∧ True) ∧
 Exx Fam fun x_2 =>
 ((((0 : Nat) + (1 : Nat) ≤ (1 : Nat) ∧
 1 = x_2.n ∧
 ∀ (i : Nat),
 i < x_2.n →
 (if 0 + i = 0 * 1 / 1 then
 [AV.ro 1 ((↑(linN x) : Int).toNat - 0) fun i => [AV.int IntKind.u8 (↑(x.fst.getD (0 + i) 0) : Int)]]
 else [AV.nils]) =
 [AV.ro 1 (x_2.m i) fun j => [AV.int IntKind.u8 (↑(x_2.f i j) : Int)]]) ∧
 True) ∧
 true = true ∧ True) ∧
 Bytess (famL x_2) ∧
 ∀ (y : Unit),
 True →
 Exx Fam fun x_3 =>
 ((((0 : Nat) + (1 : Nat) ≤ (1 : Nat) ∧
 1 = x_3.n ∧
 ∀ (i : Nat),
 i < x_3.n →
 (if 0 + i = 0 * 1 / 1 then
 [AV.ro 1 ((↑(linN x) : Int).toNat - 0) fun i =>
 [AV.int IntKind.u8 (↑(x.snd.fst.getD (0 + i) 0) : Int)]]
 else [AV.nils]) =
 [AV.ro 1 (x_3.m i) fun j => [AV.int IntKind.u8 (↑(x_3.f i j) : Int)]]) ∧
 True) ∧
 true = true ∧ True) ∧
 Bytess (famL x_3) ∧
 ∀ (y : Unit),
 True →
 ∀ (n : Int),
 n = bits BinOp.xor IntKind.u32 (↑(sumN (famL x_2)) : Int) (↑(sumN (famL x_3)) : Int) →
 Exx Fam fun x_4 =>
 ((((0 : Nat) + (1 : Nat) ≤ (1 : Nat) ∧
 1 = x_4.n ∧
 ∀ (i : Nat),
 i < x_4.n →
 (if 0 + i = 0 * 1 / 1 then
 [AV.ro 1 ((↑(linN x) : Int).toNat - 0) fun i =>
 [AV.int IntKind.u8 (↑(x.snd.snd.getD (0 + i) 0) : Int)]]
 else [AV.nils]) =
 [AV.ro 1 (x_4.m i) fun j => [AV.int IntKind.u8 (↑(x_4.f i j) : Int)]]) ∧
 True) ∧
 true = true ∧ True) ∧
 Bytess (famL x_4) ∧
 ∀ (y : Unit),
 True →
 ∀ (n_1 : Int),
 n_1 = bits BinOp.xor IntKind.u32 n (↑(sumN (famL x_4)) : Int) →
 Exx Fam fun x_5 =>
 ((((1 : Nat) = (1 : Nat) ∧
 1 = x_5.n ∧
 1 ≤ [AV.sl 1 [] 0 1 0 (linN x) (linN x)].length ∧
 (0 + linN x ≤ linN x ∧
 linN x = x_5.m 0 ∧
 ∀ (j : Nat),
 j < x_5.m 0 →
 [AV.int IntKind.u8
 (↑(if 0 + j < t then linX x (0 + j) else 0) :
 Int)] =
 [AV.int IntKind.u8 (↑(x_5.f 0 j) : Int)]) ∧
 True) ∧
 True) ∧
 true = true ∧ True) ∧
 Bytess (famL x_5) ∧
 ∀ (y : Unit),
 True →
 ∀ (n : Int),
 n = bits BinOp.xor IntKind.u32 n_1 (↑(sumN (famL x_5)) : Int) →
 Exx Unit fun y =>
 ((decide (n = 0) = true ∧ True) ∧ true = true ∧ True) ∧ True) ∧
 (Exx Fam fun x_2 =>
 ((((0 : Nat) + (1 : Nat) ≤ (1 : Nat) ∧
 1 = x_2.n ∧
 ∀ (i : Nat),
 i < x_2.n →
 (if 0 + i = 0 * 1 / 1 then
 [AV.ro 1 ((↑(linN x) : Int).toNat - 0) fun i => [AV.int IntKind.u8 (↑(x.fst.getD (0 + i) 0) : Int)]]
 else [AV.nils]) =
 [AV.ro 1 (x_2.m i) fun j => [AV.int IntKind.u8 (↑(x_2.f i j) : Int)]]) ∧
 True) ∧
 true = true ∧ True) ∧
 Bytess (famL x_2) ∧
 ∀ (y : Unit),
 True →
 ((Exx Fam fun x_3 =>
 ((((0 : Nat) + (1 : Nat) ≤ (1 : Nat) ∧
 1 = x_3.n ∧
 ∀ (i : Nat),
 i < x_3.n →
 (if 0 + i = 0 * 1 / 1 then
 [AV.ro 1 ((↑(linN x) : Int).toNat - 0) fun i =>
 [AV.int IntKind.u8 (↑(x.snd.fst.getD (0 + i) 0) : Int)]]
 else [AV.nils]) =
 [AV.ro 1 (x_3.m i) fun j => [AV.int IntKind.u8 (↑(x_3.f i j) : Int)]]) ∧
 True) ∧
 true = true ∧ True) ∧
 Bytess (famL x_3) ∧
 ∀ (y : Unit),
 True →
 ∀ (n : Int),
 n = bits BinOp.xor IntKind.u32 (↑(sumN (famL x_2)) : Int) (↑(sumN (famL x_3)) : Int) →
 Exx Fam fun x_4 =>
 ((((0 : Nat) + (1 : Nat) ≤ (1 : Nat) ∧
 1 = x_4.n ∧
 ∀ (i : Nat),
 i < x_4.n →
 (if 0 + i = 0 * 1 / 1 then
 [AV.ro 1 ((↑(linN x) : Int).toNat - 0) fun i =>
 [AV.int IntKind.u8 (↑(x.snd.snd.getD (0 + i) 0) : Int)]]
 else [AV.nils]) =
 [AV.ro 1 (x_4.m i) fun j => [AV.int IntKind.u8 (↑(x_4.f i j) : Int)]]) ∧
 True) ∧
 true = true ∧ True) ∧
 Bytess (famL x_4) ∧
 ∀ (y : Unit),
 True →
 ∀ (n_1 : Int),
 n_1 = bits BinOp.xor IntKind.u32 n (↑(sumN (famL x_4)) : Int) →
 Exx Fam fun x_5 =>
 ((((1 : Nat) = (1 : Nat) ∧
 1 = x_5.n ∧
 1 ≤ [AV.sl 1 [] 0 1 0 (linN x) (linN x)].length ∧
 (0 + linN x ≤ linN x ∧
 linN x = x_5.m 0 ∧
 ∀ (j : Nat),
 j < x_5.m 0 →
 [AV.int IntKind.u8
 (↑(if 0 + j < t then linX x (0 + j) else 0) :
 Int)] =
 [AV.int IntKind.u8 (↑(x_5.f 0 j) : Int)]) ∧
 True) ∧
 True) ∧
 true = true ∧ True) ∧
 Bytess (famL x_5) ∧
 ∀ (y : Unit),
 True →
 ∀ (n : Int),
 n = bits BinOp.xor IntKind.u32 n_1 (↑(sumN (famL x_5)) : Int) →
 Exx Unit fun y =>
 ((decide (n = 0) = true ∧ True) ∧ true = true ∧ True) ∧ True) ∧
 Exx Fam fun x_3 =>
 ((((0 : Nat) + (1 : Nat) ≤ (1 : Nat) ∧
 1 = x_3.n ∧
 ∀ (i : Nat),
 i < x_3.n →
 (if 0 + i = 0 * 1 / 1 then
 [AV.ro 1 ((↑(linN x) : Int).toNat - 0) fun i =>
 [AV.int IntKind.u8 (↑(x.snd.fst.getD (0 + i) 0) : Int)]]
 else [AV.nils]) =
 [AV.ro 1 (x_3.m i) fun j => [AV.int IntKind.u8 (↑(x_3.f i j) : Int)]]) ∧
 True) ∧
 true = true ∧ True) ∧
 Bytess (famL x_3) ∧
 ∀ (y : Unit),
 True →
 ∀ (n : Int),
 n = bits BinOp.xor IntKind.u32 (↑(sumN (famL x_2)) : Int) (↑(sumN (famL x_3)) : Int) →
 Exx Fam fun x_4 =>
 ((((0 : Nat) + (1 : Nat) ≤ (1 : Nat) ∧
 1 = x_4.n ∧
 ∀ (i : Nat),
 i < x_4.n →
 (if 0 + i = 0 * 1 / 1 then
 [AV.ro 1 ((↑(linN x) : Int).toNat - 0) fun i =>
 [AV.int IntKind.u8 (↑(x.snd.snd.getD (0 + i) 0) : Int)]]
 else [AV.nils]) =
 [AV.ro 1 (x_4.m i) fun j => [AV.int IntKind.u8 (↑(x_4.f i j) : Int)]]) ∧
 True) ∧
 true = true ∧ True) ∧
 Bytess (famL x_4) ∧
 ∀ (y : Unit),
 True →
 ∀ (n_1 : Int),
 n_1 = bits BinOp.xor IntKind.u32 n (↑(sumN (famL x_4)) : Int) →
 Exx Fam fun x_5 =>
 ((((1 : Nat) = (1 : Nat) ∧
 1 = x_5.n ∧
 1 ≤ [AV.sl 1 [] 0 1 0 (linN x) (linN x)].length ∧
 (0 + linN x ≤ linN x ∧
 linN x = x_5.m 0 ∧
 ∀ (j : Nat),
 j < x_5.m 0 →
 [AV.int IntKind.u8
 (↑(if 0 + j < t then linX x (0 + j) else 0) :
 Int)] =
 [AV.int IntKind.u8 (↑(x_5.f 0 j) : Int)]) ∧
 True) ∧
 True) ∧
 true = true ∧ True) ∧
 Bytess (famL x_5) ∧
 ∀ (y : Unit),
 True →
 ∀ (n : Int),
 n = bits BinOp.xor IntKind.u32 n_1 (↑(sumN (famL x_5)) : Int) →
 Exx Unit fun y =>
 ((decide (n = 0) = true ∧ True) ∧ true = true ∧ True) ∧ True) ∧
 Exx Fam fun x_3 =>
 ((((0 : Nat) + (1 : Nat) ≤ (1 : Nat) ∧
 1 = x_3.n ∧
 ∀ (i : Nat),
 i < x_3.n →
 (if 0 + i = 0 * 1 / 1 then
 [AV.ro 1 ((↑(linN x) : Int).toNat - 0) fun i =>
 [AV.int IntKind.u8 (↑(x.snd.fst.getD (0 + i) 0) : Int)]]
 else [AV.nils]) =
 [AV.ro 1 (x_3.m i) fun j => [AV.int IntKind.u8 (↑(x_3.f i j) : Int)]]) ∧
 True) ∧
 true = true ∧ True) ∧
 Bytess (famL x_3) ∧
 ∀ (y : Unit),
 True →
 ∀ (n : Int),
 n = bits BinOp.xor IntKind.u32 (↑(sumN (famL x_2)) : Int) (↑(sumN (famL x_3)) : Int) →
 Exx Fam fun x_4 =>
 ((((0 : Nat) + (1 : Nat) ≤ (1 : Nat) ∧
 1 = x_4.n ∧
 ∀ (i : Nat),
 i < x_4.n →
 (if 0 + i = 0 * 1 / 1 then
 [AV.ro 1 ((↑(linN x) : Int).toNat - 0) fun i =>
 [AV.int IntKind.u8 (↑(x.snd.snd.getD (0 + i) 0) : Int)]]
 else [AV.nils]) =
 [AV.ro 1 (x_4.m i) fun j => [AV.int IntKind.u8 (↑(x_4.f i j) : Int)]]) ∧
 True) ∧
 true = true ∧ True) ∧
 Bytess (famL x_4) ∧
 ∀ (y : Unit),
 True →
 ∀ (n_1 : Int),
 n_1 = bits BinOp.xor IntKind.u32 n (↑(sumN (famL x_4)) : Int) →
 Exx Fam fun x_5 =>
 ((((1 : Nat) = (1 : Nat) ∧
 1 = x_5.n ∧
 1 ≤ [AV.sl 1 [] 0 1 0 (linN x) (linN x)].length ∧
 (0 + linN x ≤ linN x ∧
 linN x = x_5.m 0 ∧
 ∀ (j : Nat),
 j < x_5.m 0 →
 [AV.int IntKind.u8
 (↑(if 0 + j < t then linX x (0 + j) else 0) : Int)] =
 [AV.int IntKind.u8 (↑(x_5.f 0 j) : Int)]) ∧
 True) ∧
 True) ∧
 true = true ∧ True) ∧
 Bytess (famL x_5) ∧
 ∀ (y : Unit),
 True →
 ∀ (n : Int),
 n = bits BinOp.xor IntKind.u32 n_1 (↑(sumN (famL x_5)) : Int) →
 Exx Unit fun y =>
 ((decide (n = 0) = true ∧ True) ∧ true = true ∧ True) ∧ True) ∧
 ((Exx Fam fun x_2 =>
 ((((0 : Nat) + (1 : Nat) ≤ (1 : Nat) ∧
 1 = x_2.n ∧
 ∀ (i : Nat),
 i < x_2.n →
 (if 0 + i = 0 * 1 / 1 then
 [AV.ro 1 ((↑(linN x) : Int).toNat - 0) fun i => [AV.int IntKind.u8 (↑(x.fst.getD (0 + i) 0) : Int)]]
 else [AV.nils]) =
 [AV.ro 1 (x_2.m i) fun j => [AV.int IntKind.u8 (↑(x_2.f i j) : Int)]]) ∧
 True) ∧
 true = true ∧ True) ∧
 Bytess (famL x_2) ∧
 ∀ (y : Unit),
 True →
 (Exx Fam fun x_3 =>
 ((((0 : Nat) + (1 : Nat) ≤ (1 : Nat) ∧
 1 = x_3.n ∧
 ∀ (i : Nat),
 i < x_3.n →
 (if 0 + i = 0 * 1 / 1 then
 [AV.ro 1 ((↑(linN x) : Int).toNat - 0) fun i =>
 [AV.int IntKind.u8 (↑(x.snd.fst.getD (0 + i) 0) : Int)]]
 else [AV.nils]) =
 [AV.ro 1 (x_3.m i) fun j => [AV.int IntKind.u8 (↑(x_3.f i j) : Int)]]) ∧
 True) ∧
 true = true ∧ True) ∧
 Bytess (famL x_3) ∧
 ∀ (y : Unit),
 True →
 ∀ (n : Int),
 n = bits BinOp.xor IntKind.u32 (↑(sumN (famL x_2)) : Int) (↑(sumN (famL x_3)) : Int) →
 Exx Fam fun x_4 =>
 ((((0 : Nat) + (1 : Nat) ≤ (1 : Nat) ∧
 1 = x_4.n ∧
 ∀ (i : Nat),
 i < x_4.n →
 (if 0 + i = 0 * 1 / 1 then
 [AV.ro 1 ((↑(linN x) : Int).toNat - 0) fun i =>
 [AV.int IntKind.u8 (↑(x.snd.snd.getD (0 + i) 0) : Int)]]
 else [AV.nils]) =
 [AV.ro 1 (x_4.m i) fun j => [AV.int IntKind.u8 (↑(x_4.f i j) : Int)]]) ∧
 True) ∧
 true = true ∧ True) ∧
 Bytess (famL x_4) ∧
 ∀ (y : Unit),
 True →
 ∀ (n_1 : Int),
 n_1 = bits BinOp.xor IntKind.u32 n (↑(sumN (famL x_4)) : Int) →
 Exx Fam fun x_5 =>
 ((((1 : Nat) = (1 : Nat) ∧
 1 = x_5.n ∧
 1 ≤ [AV.sl 1 [] 0 1 0 (linN x) (linN x)].length ∧
 (0 + linN x ≤ linN x ∧
 linN x = x_5.m 0 ∧
 ∀ (j : Nat),
 j < x_5.m 0 →
 [AV.int IntKind.u8
 (↑(if 0 + j < t then linX x (0 + j) else 0) :
 Int)] =
 [AV.int IntKind.u8 (↑(x_5.f 0 j) : Int)]) ∧
 True) ∧
 True) ∧
 true = true ∧ True) ∧
 Bytess (famL x_5) ∧
 ∀ (y : Unit),
 True →
 ∀ (n : Int),
 n = bits BinOp.xor IntKind.u32 n_1 (↑(sumN (famL x_5)) : Int) →
 Exx Unit fun y =>
 ((decide (n = 0) = true ∧ True) ∧ true = true ∧ True) ∧ True) ∧
 Exx Fam fun x_3 =>
 ((((0 : Nat) + (1 : Nat) ≤ (1 : Nat) ∧
 1 = x_3.n ∧
 ∀ (i : Nat),
 i < x_3.n →
 (if 0 + i = 0 * 1 / 1 then
 [AV.ro 1 ((↑(linN x) : Int).toNat - 0) fun i =>
 [AV.int IntKind.u8 (↑(x.snd.fst.getD (0 + i) 0) : Int)]]
 else [AV.nils]) =
 [AV.ro 1 (x_3.m i) fun j => [AV.int IntKind.u8 (↑(x_3.f i j) : Int)]]) ∧
 True) ∧
 true = true ∧ True) ∧
 Bytess (famL x_3) ∧
 ∀ (y : Unit),
 True →
 ∀ (n : Int),
 n = bits BinOp.xor IntKind.u32 (↑(sumN (famL x_2)) : Int) (↑(sumN (famL x_3)) : Int) →
 Exx Fam fun x_4 =>
 ((((0 : Nat) + (1 : Nat) ≤ (1 : Nat) ∧
 1 = x_4.n ∧
 ∀ (i : Nat),
 i < x_4.n →
 (if 0 + i = 0 * 1 / 1 then
 [AV.ro 1 ((↑(linN x) : Int).toNat - 0) fun i =>
 [AV.int IntKind.u8 (↑(x.snd.snd.getD (0 + i) 0) : Int)]]
 else [AV.nils]) =
 [AV.ro 1 (x_4.m i) fun j => [AV.int IntKind.u8 (↑(x_4.f i j) : Int)]]) ∧
 True) ∧
 true = true ∧ True) ∧
 Bytess (famL x_4) ∧
 ∀ (y : Unit),
 True →
 ∀ (n_1 : Int),
 n_1 = bits BinOp.xor IntKind.u32 n (↑(sumN (famL x_4)) : Int) →
 Exx Fam fun x_5 =>
 ((((1 : Nat) = (1 : Nat) ∧
 1 = x_5.n ∧
 1 ≤ [AV.sl 1 [] 0 1 0 (linN x) (linN x)].length ∧
 (0 + linN x ≤ linN x ∧
 linN x = x_5.m 0 ∧
 ∀ (j : Nat),
 j < x_5.m 0 →
 [AV.int IntKind.u8
 (↑(if 0 + j < t then linX x (0 + j) else 0) :
 Int)] =
 [AV.int IntKind.u8 (↑(x_5.f 0 j) : Int)]) ∧
 True) ∧
 True) ∧
 true = true ∧ True) ∧
 Bytess (famL x_5) ∧
 ∀ (y : Unit),
 True →
 ∀ (n : Int),
 n = bits BinOp.xor IntKind.u32 n_1 (↑(sumN (famL x_5)) : Int) →
 Exx Unit fun y =>
 ((decide (n = 0) = true ∧ True) ∧ true = true ∧ True) ∧ True) ∧
 Exx Fam fun x_2 =>
 ((((0 : Nat) + (1 : Nat) ≤ (1 : Nat) ∧
 1 = x_2.n ∧
 ∀ (i : Nat),
 i < x_2.n →
 (if 0 + i = 0 * 1 / 1 then
 [AV.ro 1 ((↑(linN x) : Int).toNat - 0) fun i => [AV.int IntKind.u8 (↑(x.fst.getD (0 + i) 0) : Int)]]
 else [AV.nils]) =
 [AV.ro 1 (x_2.m i) fun j => [AV.int IntKind.u8 (↑(x_2.f i j) : Int)]]) ∧
 True) ∧
 true = true ∧ True) ∧
 Bytess (famL x_2) ∧
 ∀ (y : Unit),
 True →
 Exx Fam fun x_3 =>
 ((((0 : Nat) + (1 : Nat) ≤ (1 : Nat) ∧
 1 = x_3.n ∧
 ∀ (i : Nat),
 i < x_3.n →
 (if 0 + i = 0 * 1 / 1 then
 [AV.ro 1 ((↑(linN x) : Int).toNat - 0) fun i =>
 [AV.int IntKind.u8 (↑(x.snd.fst.getD (0 + i) 0) : Int)]]
 else [AV.nils]) =
 [AV.ro 1 (x_3.m i) fun j => [AV.int IntKind.u8 (↑(x_3.f i j) : Int)]]) ∧
 True) ∧
 true = true ∧ True) ∧
 Bytess (famL x_3) ∧
 ∀ (y : Unit),
 True →
 ∀ (n : Int),
 n = bits BinOp.xor IntKind.u32 (↑(sumN (famL x_2)) : Int) (↑(sumN (famL x_3)) : Int) →
 Exx Fam fun x_4 =>
 ((((0 : Nat) + (1 : Nat) ≤ (1 : Nat) ∧
 1 = x_4.n ∧
 ∀ (i : Nat),
 i < x_4.n →
 (if 0 + i = 0 * 1 / 1 then
 [AV.ro 1 ((↑(linN x) : Int).toNat - 0) fun i =>
 [AV.int IntKind.u8 (↑(x.snd.snd.getD (0 + i) 0) : Int)]]
 else [AV.nils]) =
 [AV.ro 1 (x_4.m i) fun j => [AV.int IntKind.u8 (↑(x_4.f i j) : Int)]]) ∧
 True) ∧
 true = true ∧ True) ∧
 Bytess (famL x_4) ∧
 ∀ (y : Unit),
 True →
 ∀ (n_1 : Int),
 n_1 = bits BinOp.xor IntKind.u32 n (↑(sumN (famL x_4)) : Int) →
 Exx Fam fun x_5 =>
 ((((1 : Nat) = (1 : Nat) ∧
 1 = x_5.n ∧
 1 ≤ [AV.sl 1 [] 0 1 0 (linN x) (linN x)].length ∧
 (0 + linN x ≤ linN x ∧
 linN x = x_5.m 0 ∧
 ∀ (j : Nat),
 j < x_5.m 0 →
 [AV.int IntKind.u8
 (↑(if 0 + j < t then linX x (0 + j) else 0) :
 Int)] =
 [AV.int IntKind.u8 (↑(x_5.f 0 j) : Int)]) ∧
 True) ∧
 True) ∧
 true = true ∧ True) ∧
 Bytess (famL x_5) ∧
 ∀ (y : Unit),
 True →
 ∀ (n : Int),
 n = bits BinOp.xor IntKind.u32 n_1 (↑(sumN (famL x_5)) : Int) →
 Exx Unit fun y =>
 ((decide (n = 0) = true ∧ True) ∧ true = true ∧ True) ∧ True) ∧
 (Exx Fam fun x_2 =>
 ((((0 : Nat) + (1 : Nat) ≤ (1 : Nat) ∧
 1 = x_2.n ∧
 ∀ (i : Nat),
 i < x_2.n →
 (if 0 + i = 0 * 1 / 1 then
 [AV.ro 1 ((↑(linN x) : Int).toNat - 0) fun i => [AV.int IntKind.u8 (↑(x.fst.getD (0 + i) 0) : Int)]]
 else [AV.nils]) =
 [AV.ro 1 (x_2.m i) fun j => [AV.int IntKind.u8 (↑(x_2.f i j) : Int)]]) ∧
 True) ∧
 true = true ∧ True) ∧
 Bytess (famL x_2) ∧
 ∀ (y : Unit),
 True →
 Exx Fam fun x_3 =>
 ((((0 : Nat) + (1 : Nat) ≤ (1 : Nat) ∧
 1 = x_3.n ∧
 ∀ (i : Nat),
 i < x_3.n →
 (if 0 + i = 0 * 1 / 1 then
 [AV.ro 1 ((↑(linN x) : Int).toNat - 0) fun i =>
 [AV.int IntKind.u8 (↑(x.snd.fst.getD (0 + i) 0) : Int)]]
 else [AV.nils]) =
 [AV.ro 1 (x_3.m i) fun j => [AV.int IntKind.u8 (↑(x_3.f i j) : Int)]]) ∧
 True) ∧
 true = true ∧ True) ∧
 Bytess (famL x_3) ∧
 ∀ (y : Unit),
 True →
 ∀ (n : Int),
 n = bits BinOp.xor IntKind.u32 (↑(sumN (famL x_2)) : Int) (↑(sumN (famL x_3)) : Int) →
 Exx Fam fun x_4 =>
 ((((0 : Nat) + (1 : Nat) ≤ (1 : Nat) ∧
 1 = x_4.n ∧
 ∀ (i : Nat),
 i < x_4.n →
 (if 0 + i = 0 * 1 / 1 then
 [AV.ro 1 ((↑(linN x) : Int).toNat - 0) fun i =>
 [AV.int IntKind.u8 (↑(x.snd.snd.getD (0 + i) 0) : Int)]]
 else [AV.nils]) =
 [AV.ro 1 (x_4.m i) fun j => [AV.int IntKind.u8 (↑(x_4.f i j) : Int)]]) ∧
 True) ∧
 true = true ∧ True) ∧
 Bytess (famL x_4) ∧
 ∀ (y : Unit),
 True →
 ∀ (n_1 : Int),
 n_1 = bits BinOp.xor IntKind.u32 n (↑(sumN (famL x_4)) : Int) →
 Exx Fam fun x_5 =>
 ((((1 : Nat) = (1 : Nat) ∧
 1 = x_5.n ∧
 1 ≤ [AV.sl 1 [] 0 1 0 (linN x) (linN x)].length ∧
 (0 + linN x ≤ linN x ∧
 linN x = x_5.m 0 ∧
 ∀ (j : Nat),
 j < x_5.m 0 →
 [AV.int IntKind.u8
 (↑(if 0 + j < t then linX x (0 + j) else 0) :
 Int)] =
 [AV.int IntKind.u8 (↑(x_5.f 0 j) : Int)]) ∧
 True) ∧
 True) ∧
 true = true ∧ True) ∧
 Bytess (famL x_5) ∧
 ∀ (y : Unit),
 True →
 ∀ (n : Int),
 n = bits BinOp.xor IntKind.u32 n_1 (↑(sumN (famL x_5)) : Int) →
 Exx Unit fun y =>
 ((decide (n = 0) = true ∧ True) ∧ true = true ∧ True) ∧ True) ∧
 Exx Fam fun x_2 =>
 ((((0 : Nat) + (1 : Nat) ≤ (1 : Nat) ∧
 1 = x_2.n ∧
 ∀ (i : Nat),
 i < x_2.n →
 (if 0 + i = 0 * 1 / 1 then
 [AV.ro 1 ((↑(linN x) : Int).toNat - 0) fun i => [AV.int IntKind.u8 (↑(x.fst.getD (0 + i) 0) : Int)]]
 else [AV.nils]) =
 [AV.ro 1 (x_2.m i) fun j => [AV.int IntKind.u8 (↑(x_2.f i j) : Int)]]) ∧
 True) ∧
 true = true ∧ True) ∧
 Bytess (famL x_2) ∧
 ∀ (y : Unit),
 True →
 Exx Fam fun x_3 =>
 ((((0 : Nat) + (1 : Nat) ≤ (1 : Nat) ∧
 1 = x_3.n ∧
 ∀ (i : Nat),
 i < x_3.n →
 (if 0 + i = 0 * 1 / 1 then
 [AV.ro 1 ((↑(linN x) : Int).toNat - 0) fun i =>
 [AV.int IntKind.u8 (↑(x.snd.fst.getD (0 + i) 0) : Int)]]
 else [AV.nils]) =
 [AV.ro 1 (x_3.m i) fun j => [AV.int IntKind.u8 (↑(x_3.f i j) : Int)]]) ∧
 True) ∧
 true = true ∧ True) ∧
 Bytess (famL x_3) ∧
 ∀ (y : Unit),
 True →
 ∀ (n : Int),
 n = bits BinOp.xor IntKind.u32 (↑(sumN (famL x_2)) : Int) (↑(sumN (famL x_3)) : Int) →
 Exx Fam fun x_4 =>
 ((((0 : Nat) + (1 : Nat) ≤ (1 : Nat) ∧
 1 = x_4.n ∧
 ∀ (i : Nat),
 i < x_4.n →
 (if 0 + i = 0 * 1 / 1 then
 [AV.ro 1 ((↑(linN x) : Int).toNat - 0) fun i =>
 [AV.int IntKind.u8 (↑(x.snd.snd.getD (0 + i) 0) : Int)]]
 else [AV.nils]) =
 [AV.ro 1 (x_4.m i) fun j => [AV.int IntKind.u8 (↑(x_4.f i j) : Int)]]) ∧
 True) ∧
 true = true ∧ True) ∧
 Bytess (famL x_4) ∧
 ∀ (y : Unit),
 True →
 ∀ (n_1 : Int),
 n_1 = bits BinOp.xor IntKind.u32 n (↑(sumN (famL x_4)) : Int) →
 Exx Fam fun x_5 =>
 ((((1 : Nat) = (1 : Nat) ∧
 1 = x_5.n ∧
 1 ≤ [AV.sl 1 [] 0 1 0 (linN x) (linN x)].length ∧
 (0 + linN x ≤ linN x ∧
 linN x = x_5.m 0 ∧
 ∀ (j : Nat),
 j < x_5.m 0 →
 [AV.int IntKind.u8
 (↑(if 0 + j < t then linX x (0 + j) else 0) :
 Int)] =
 [AV.int IntKind.u8 (↑(x_5.f 0 j) : Int)]) ∧
 True) ∧
 True) ∧
 true = true ∧ True) ∧
 Bytess (famL x_5) ∧
 ∀ (y : Unit),
 True →
 ∀ (n : Int),
 n = bits BinOp.xor IntKind.u32 n_1 (↑(sumN (famL x_5)) : Int) →
 Exx Unit fun y =>
 ((decide (n = 0) = true ∧ True) ∧ true = true ∧ True) ∧ True) ∧
 (((Exx Fam fun x_2 =>
 ((((0 : Nat) + (1 : Nat) ≤ (1 : Nat) ∧
 1 = x_2.n ∧
 ∀ (i : Nat),
 i < x_2.n →
 (if 0 + i = 0 * 1 / 1 then
 [AV.ro 1 ((↑(linN x) : Int).toNat - 0) fun i => [AV.int IntKind.u8 (↑(x.fst.getD (0 + i) 0) : Int)]]
 else [AV.nils]) =
 [AV.ro 1 (x_2.m i) fun j => [AV.int IntKind.u8 (↑(x_2.f i j) : Int)]]) ∧
 True) ∧
 true = true ∧ True) ∧
 Bytess (famL x_2) ∧
 ∀ (y : Unit),
 True →
 (Exx Fam fun x_3 =>
 ((((0 : Nat) + (1 : Nat) ≤ (1 : Nat) ∧
 1 = x_3.n ∧
 ∀ (i : Nat),
 i < x_3.n →
 (if 0 + i = 0 * 1 / 1 then
 [AV.ro 1 ((↑(linN x) : Int).toNat - 0) fun i =>
 [AV.int IntKind.u8 (↑(x.snd.fst.getD (0 + i) 0) : Int)]]
 else [AV.nils]) =
 [AV.ro 1 (x_3.m i) fun j => [AV.int IntKind.u8 (↑(x_3.f i j) : Int)]]) ∧
 True) ∧
 true = true ∧ True) ∧
 Bytess (famL x_3) ∧
 ∀ (y : Unit),
 True →
 ∀ (n : Int),
 n = bits BinOp.xor IntKind.u32 (↑(sumN (famL x_2)) : Int) (↑(sumN (famL x_3)) : Int) →
 ((Exx Fam fun x_4 =>
 ((((0 : Nat) + (1 : Nat) ≤ (1 : Nat) ∧
 1 = x_4.n ∧
 ∀ (i : Nat),
 i < x_4.n →
 (if 0 + i = 0 * 1 / 1 then
 [AV.ro 1 ((↑(linN x) : Int).toNat - 0) fun i =>
 [AV.int IntKind.u8 (↑(x.snd.snd.getD (0 + i) 0) : Int)]]
 else [AV.nils]) =
 [AV.ro 1 (x_4.m i) fun j => [AV.int IntKind.u8 (↑(x_4.f i j) : Int)]]) ∧
 True) ∧
 true = true ∧ True) ∧
 Bytess (famL x_4) ∧
 ∀ (y : Unit),
 True →
 ∀ (n_1 : Int),
 n_1 = bits BinOp.xor IntKind.u32 n (↑(sumN (famL x_4)) : Int) →
 Exx Fam fun x_5 =>
 ((((1 : Nat) = (1 : Nat) ∧
 1 = x_5.n ∧
 1 ≤ [AV.sl 1 [] 0 1 0 (linN x) (linN x)].length ∧
 (0 + linN x ≤ linN x ∧
 linN x = x_5.m 0 ∧
 ∀ (j : Nat),
 j < x_5.m 0 →
 [AV.int IntKind.u8
 (↑(if 0 + j < t then linX x (0 + j) else 0) :
 Int)] =
 [AV.int IntKind.u8 (↑(x_5.f 0 j) : Int)]) ∧
 True) ∧
 True) ∧
 true = true ∧ True) ∧
 Bytess (famL x_5) ∧
 ∀ (y : Unit),
 True →
 ∀ (n : Int),
 n = bits BinOp.xor IntKind.u32 n_1 (↑(sumN (famL x_5)) : Int) →
 Exx Unit fun y =>
 ((decide (n = 0) = true ∧ True) ∧ true = true ∧ True) ∧ True) ∧
 Exx Fam fun x_4 =>
 ((((0 : Nat) + (1 : Nat) ≤ (1 : Nat) ∧
 1 = x_4.n ∧
 ∀ (i : Nat),
 i < x_4.n →
 (if 0 + i = 0 * 1 / 1 then
 [AV.ro 1 ((↑(linN x) : Int).toNat - 0) fun i =>
 [AV.int IntKind.u8 (↑(x.snd.snd.getD (0 + i) 0) : Int)]]
 else [AV.nils]) =
 [AV.ro 1 (x_4.m i) fun j => [AV.int IntKind.u8 (↑(x_4.f i j) : Int)]]) ∧
 True) ∧
 true = true ∧ True) ∧
 Bytess (famL x_4) ∧
 ∀ (y : Unit),
 True →
 ∀ (n_1 : Int),
 n_1 = bits BinOp.xor IntKind.u32 n (↑(sumN (famL x_4)) : Int) →
 Exx Fam fun x_5 =>
 ((((1 : Nat) = (1 : Nat) ∧
 1 = x_5.n ∧
 1 ≤ [AV.sl 1 [] 0 1 0 (linN x) (linN x)].length ∧
 (0 + linN x ≤ linN x ∧
 linN x = x_5.m 0 ∧
 ∀ (j : Nat),
 j < x_5.m 0 →
 [AV.int IntKind.u8
 (↑(if 0 + j < t then linX x (0 + j) else 0) :
 Int)] =
 [AV.int IntKind.u8 (↑(x_5.f 0 j) : Int)]) ∧
 True) ∧
 True) ∧
 true = true ∧ True) ∧
 Bytess (famL x_5) ∧
 ∀ (y : Unit),
 True →
 ∀ (n : Int),
 n = bits BinOp.xor IntKind.u32 n_1 (↑(sumN (famL x_5)) : Int) →
 Exx Unit fun y =>
 ((decide (n = 0) = true ∧ True) ∧ true = true ∧ True) ∧ True) ∧
 Exx Fam fun x_4 =>
 ((((0 : Nat) + (1 : Nat) ≤ (1 : Nat) ∧
 1 = x_4.n ∧
 ∀ (i : Nat),
 i < x_4.n →
 (if 0 + i = 0 * 1 / 1 then
 [AV.ro 1 ((↑(linN x) : Int).toNat - 0) fun i =>
 [AV.int IntKind.u8 (↑(x.snd.snd.getD (0 + i) 0) : Int)]]
 else [AV.nils]) =
 [AV.ro 1 (x_4.m i) fun j => [AV.int IntKind.u8 (↑(x_4.f i j) : Int)]]) ∧
 True) ∧
 true = true ∧ True) ∧
 Bytess (famL x_4) ∧
 ∀ (y : Unit),
 True →
 ∀ (n_1 : Int),
 n_1 = bits BinOp.xor IntKind.u32 n (↑(sumN (famL x_4)) : Int) →
 Exx Fam fun x_5 =>
 ((((1 : Nat) = (1 : Nat) ∧
 1 = x_5.n ∧
 1 ≤ [AV.sl 1 [] 0 1 0 (linN x) (linN x)].length ∧
 (0 + linN x ≤ linN x ∧
 linN x = x_5.m 0 ∧
 ∀ (j : Nat),
 j < x_5.m 0 →
 [AV.int IntKind.u8
 (↑(if 0 + j < t then linX x (0 + j) else 0) : Int)] =
 [AV.int IntKind.u8 (↑(x_5.f 0 j) : Int)]) ∧
 True) ∧
 True) ∧
 true = true ∧ True) ∧
 Bytess (famL x_5) ∧
 ∀ (y : Unit),
 True →
 ∀ (n : Int),
 n = bits BinOp.xor IntKind.u32 n_1 (↑(sumN (famL x_5)) : Int) →
 Exx Unit fun y =>
 ((decide (n = 0) = true ∧ True) ∧ true = true ∧ True) ∧ True) ∧
 ((Exx Fam fun x_3 =>
 ((((0 : Nat) + (1 : Nat) ≤ (1 : Nat) ∧
 1 = x_3.n ∧
 ∀ (i : Nat),
 i < x_3.n →
 (if 0 + i = 0 * 1 / 1 then
 [AV.ro 1 ((↑(linN x) : Int).toNat - 0) fun i =>
 [AV.int IntKind.u8 (↑(x.snd.fst.getD (0 + i) 0) : Int)]]
 else [AV.nils]) =
 [AV.ro 1 (x_3.m i) fun j => [AV.int IntKind.u8 (↑(x_3.f i j) : Int)]]) ∧
 True) ∧
 true = true ∧ True) ∧
 Bytess (famL x_3) ∧
 ∀ (y : Unit),
 True →
 ∀ (n : Int),
 n = bits BinOp.xor IntKind.u32 (↑(sumN (famL x_2)) : Int) (↑(sumN (famL x_3)) : Int) →
 (Exx Fam fun x_4 =>
 ((((0 : Nat) + (1 : Nat) ≤ (1 : Nat) ∧
 1 = x_4.n ∧
 ∀ (i : Nat),
 i < x_4.n →
 (if 0 + i = 0 * 1 / 1 then
 [AV.ro 1 ((↑(linN x) : Int).toNat - 0) fun i =>
 [AV.int IntKind.u8 (↑(x.snd.snd.getD (0 + i) 0) : Int)]]
 else [AV.nils]) =
 [AV.ro 1 (x_4.m i) fun j => [AV.int IntKind.u8 (↑(x_4.f i j) : Int)]]) ∧
 True) ∧
 true = true ∧ True) ∧
 Bytess (famL x_4) ∧
 ∀ (y : Unit),
 True →
 ∀ (n_1 : Int),
 n_1 = bits BinOp.xor IntKind.u32 n (↑(sumN (famL x_4)) : Int) →
 Exx Fam fun x_5 =>
 ((((1 : Nat) = (1 : Nat) ∧
 1 = x_5.n ∧
 1 ≤ [AV.sl 1 [] 0 1 0 (linN x) (linN x)].length ∧
 (0 + linN x ≤ linN x ∧
 linN x = x_5.m 0 ∧
 ∀ (j : Nat),
 j < x_5.m 0 →
 [AV.int IntKind.u8
 (↑(if 0 + j < t then linX x (0 + j) else 0) :
 Int)] =
 [AV.int IntKind.u8 (↑(x_5.f 0 j) : Int)]) ∧
 True) ∧
 True) ∧
 true = true ∧ True) ∧
 Bytess (famL x_5) ∧
 ∀ (y : Unit),
 True →
 ∀ (n : Int),
 n = bits BinOp.xor IntKind.u32 n_1 (↑(sumN (famL x_5)) : Int) →
 Exx Unit fun y =>
 ((decide (n = 0) = true ∧ True) ∧ true = true ∧ True) ∧ True) ∧
 Exx Fam fun x_4 =>
 ((((0 : Nat) + (1 : Nat) ≤ (1 : Nat) ∧
 1 = x_4.n ∧
 ∀ (i : Nat),
 i < x_4.n →
 (if 0 + i = 0 * 1 / 1 then
 [AV.ro 1 ((↑(linN x) : Int).toNat - 0) fun i =>
 [AV.int IntKind.u8 (↑(x.snd.snd.getD (0 + i) 0) : Int)]]
 else [AV.nils]) =
 [AV.ro 1 (x_4.m i) fun j => [AV.int IntKind.u8 (↑(x_4.f i j) : Int)]]) ∧
 True) ∧
 true = true ∧ True) ∧
 Bytess (famL x_4) ∧
 ∀ (y : Unit),
 True →
 ∀ (n_1 : Int),
 n_1 = bits BinOp.xor IntKind.u32 n (↑(sumN (famL x_4)) : Int) →
 Exx Fam fun x_5 =>
 ((((1 : Nat) = (1 : Nat) ∧
 1 = x_5.n ∧
 1 ≤ [AV.sl 1 [] 0 1 0 (linN x) (linN x)].length ∧
 (0 + linN x ≤ linN x ∧
 linN x = x_5.m 0 ∧
 ∀ (j : Nat),
 j < x_5.m 0 →
 [AV.int IntKind.u8
 (↑(if 0 + j < t then linX x (0 + j) else 0) :
 Int)] =
 [AV.int IntKind.u8 (↑(x_5.f 0 j) : Int)]) ∧
 True) ∧
 True) ∧
 true = true ∧ True) ∧
 Bytess (famL x_5) ∧
 ∀ (y : Unit),
 True →
 ∀ (n : Int),
 n = bits BinOp.xor IntKind.u32 n_1 (↑(sumN (famL x_5)) : Int) →
 Exx Unit fun y =>
 ((decide (n = 0) = true ∧ True) ∧ true = true ∧ True) ∧ True) ∧
 Exx Fam fun x_3 =>
 ((((0 : Nat) + (1 : Nat) ≤ (1 : Nat) ∧
 1 = x_3.n ∧
 ∀ (i : Nat),
 i < x_3.n →
 (if 0 + i = 0 * 1 / 1 then
 [AV.ro 1 ((↑(linN x) : Int).toNat - 0) fun i =>
 [AV.int IntKind.u8 (↑(x.snd.fst.getD (0 + i) 0) : Int)]]
 else [AV.nils]) =
 [AV.ro 1 (x_3.m i) fun j => [AV.int IntKind.u8 (↑(x_3.f i j) : Int)]]) ∧
 True) ∧
 true = true ∧ True) ∧
 Bytess (famL x_3) ∧
 ∀ (y : Unit),
 True →
 ∀ (n : Int),
 n = bits BinOp.xor IntKind.u32 (↑(sumN (famL x_2)) : Int) (↑(sumN (famL x_3)) : Int) →
 Exx Fam fun x_4 =>
 ((((0 : Nat) + (1 : Nat) ≤ (1 : Nat) ∧
 1 = x_4.n ∧
 ∀ (i : Nat),
 i < x_4.n →
 (if 0 + i = 0 * 1 / 1 then
 [AV.ro 1 ((↑(linN x) : Int).toNat - 0) fun i =>
 [AV.int IntKind.u8 (↑(x.snd.snd.getD (0 + i) 0) : Int)]]
 else [AV.nils]) =
 [AV.ro 1 (x_4.m i) fun j => [AV.int IntKind.u8 (↑(x_4.f i j) : Int)]]) ∧
 True) ∧
 true = true ∧ True) ∧
 Bytess (famL x_4) ∧
 ∀ (y : Unit),
 True →
 ∀ (n_1 : Int),
 n_1 = bits BinOp.xor IntKind.u32 n (↑(sumN (famL x_4)) : Int) →
 Exx Fam fun x_5 =>
 ((((1 : Nat) = (1 : Nat) ∧
 1 = x_5.n ∧
 1 ≤ [AV.sl 1 [] 0 1 0 (linN x) (linN x)].length ∧
 (0 + linN x ≤ linN x ∧
 linN x = x_5.m 0 ∧
 ∀ (j : Nat),
 j < x_5.m 0 →
 [AV.int IntKind.u8
 (↑(if 0 + j < t then linX x (0 + j) else 0) :
 Int)] =
 [AV.int IntKind.u8 (↑(x_5.f 0 j) : Int)]) ∧
 True) ∧
 True) ∧
 true = true ∧ True) ∧
 Bytess (famL x_5) ∧
 ∀ (y : Unit),
 True →
 ∀ (n : Int),
 n = bits BinOp.xor IntKind.u32 n_1 (↑(sumN (famL x_5)) : Int) →
 Exx Unit fun y =>
 ((decide (n = 0) = true ∧ True) ∧ true = true ∧ True) ∧ True) ∧
 (Exx Fam fun x_3 =>
 ((((0 : Nat) + (1 : Nat) ≤ (1 : Nat) ∧
 1 = x_3.n ∧
 ∀ (i : Nat),
 i < x_3.n →
 (if 0 + i = 0 * 1 / 1 then
 [AV.ro 1 ((↑(linN x) : Int).toNat - 0) fun i =>
 [AV.int IntKind.u8 (↑(x.snd.fst.getD (0 + i) 0) : Int)]]
 else [AV.nils]) =
 [AV.ro 1 (x_3.m i) fun j => [AV.int IntKind.u8 (↑(x_3.f i j) : Int)]]) ∧
 True) ∧
 true = true ∧ True) ∧
 Bytess (famL x_3) ∧
 ∀ (y : Unit),
 True →
 ∀ (n : Int),
 n = bits BinOp.xor IntKind.u32 (↑(sumN (famL x_2)) : Int) (↑(sumN (famL x_3)) : Int) →
 Exx Fam fun x_4 =>
 ((((0 : Nat) + (1 : Nat) ≤ (1 : Nat) ∧
 1 = x_4.n ∧
 ∀ (i : Nat),
 i < x_4.n →
 (if 0 + i = 0 * 1 / 1 then
 [AV.ro 1 ((↑(linN x) : Int).toNat - 0) fun i =>
 [AV.int IntKind.u8 (↑(x.snd.snd.getD (0 + i) 0) : Int)]]
 else [AV.nils]) =
 [AV.ro 1 (x_4.m i) fun j => [AV.int IntKind.u8 (↑(x_4.f i j) : Int)]]) ∧
 True) ∧
 true = true ∧ True) ∧
 Bytess (famL x_4) ∧
 ∀ (y : Unit),
 True →
 ∀ (n_1 : Int),
 n_1 = bits BinOp.xor IntKind.u32 n (↑(sumN (famL x_4)) : Int) →
 Exx Fam fun x_5 =>
 ((((1 : Nat) = (1 : Nat) ∧
 1 = x_5.n ∧
 1 ≤ [AV.sl 1 [] 0 1 0 (linN x) (linN x)].length ∧
 (0 + linN x ≤ linN x ∧
 linN x = x_5.m 0 ∧
 ∀ (j : Nat),
 j < x_5.m 0 →
 [AV.int IntKind.u8
 (↑(if 0 + j < t then linX x (0 + j) else 0) :
 Int)] =
 [AV.int IntKind.u8 (↑(x_5.f 0 j) : Int)]) ∧
 True) ∧
 True) ∧
 true = true ∧ True) ∧
 Bytess (famL x_5) ∧
 ∀ (y : Unit),
 True →
 ∀ (n : Int),
 n = bits BinOp.xor IntKind.u32 n_1 (↑(sumN (famL x_5)) : Int) →
 Exx Unit fun y =>
 ((decide (n = 0) = true ∧ True) ∧ true = true ∧ True) ∧ True) ∧
 Exx Fam fun x_3 =>
 ((((0 : Nat) + (1 : Nat) ≤ (1 : Nat) ∧
 1 = x_3.n ∧
 ∀ (i : Nat),
 i < x_3.n →
 (if 0 + i = 0 * 1 / 1 then
 [AV.ro 1 ((↑(linN x) : Int).toNat - 0) fun i =>
 [AV.int IntKind.u8 (↑(x.snd.fst.getD (0 + i) 0) : Int)]]
 else [AV.nils]) =
 [AV.ro 1 (x_3.m i) fun j => [AV.int IntKind.u8 (↑(x_3.f i j) : Int)]]) ∧
 True) ∧
 true = true ∧ True) ∧
 Bytess (famL x_3) ∧
 ∀ (y : Unit),
 True →
 ∀ (n : Int),
 n = bits BinOp.xor IntKind.u32 (↑(sumN (famL x_2)) : Int) (↑(sumN (famL x_3)) : Int) →
 Exx Fam fun x_4 =>
 ((((0 : Nat) + (1 : Nat) ≤ (1 : Nat) ∧
 1 = x_4.n ∧
 ∀ (i : Nat),
 i < x_4.n →
 (if 0 + i = 0 * 1 / 1 then
 [AV.ro 1 ((↑(linN x) : Int).toNat - 0) fun i =>
 [AV.int IntKind.u8 (↑(x.snd.snd.getD (0 + i) 0) : Int)]]
 else [AV.nils]) =
 [AV.ro 1 (x_4.m i) fun j => [AV.int IntKind.u8 (↑(x_4.f i j) : Int)]]) ∧
 True) ∧
 true = true ∧ True) ∧
 Bytess (famL x_4) ∧
 ∀ (y : Unit),
 True →
 ∀ (n_1 : Int),
 n_1 = bits BinOp.xor IntKind.u32 n (↑(sumN (famL x_4)) : Int) →
 Exx Fam fun x_5 =>
 ((((1 : Nat) = (1 : Nat) ∧
 1 = x_5.n ∧
 1 ≤ [AV.sl 1 [] 0 1 0 (linN x) (linN x)].length ∧
 (0 + linN x ≤ linN x ∧
 linN x = x_5.m 0 ∧
 ∀ (j : Nat),
 j < x_5.m 0 →
 [AV.int IntKind.u8
 (↑(if 0 + j < t then linX x (0 + j) else 0) :
 Int)] =
 [AV.int IntKind.u8 (↑(x_5.f 0 j) : Int)]) ∧
 True) ∧
 True) ∧
 true = true ∧ True) ∧
 Bytess (famL x_5) ∧
 ∀ (y : Unit),
 True →
 ∀ (n : Int),
 n = bits BinOp.xor IntKind.u32 n_1 (↑(sumN (famL x_5)) : Int) →
 Exx Unit fun y =>
 ((decide (n = 0) = true ∧ True) ∧ true = true ∧ True) ∧ True) ∧
 ((Exx Fam fun x_2 =>
 ((((0 : Nat) + (1 : Nat) ≤ (1 : Nat) ∧
 1 = x_2.n ∧
 ∀ (i : Nat),
 i < x_2.n →
 (if 0 + i = 0 * 1 / 1 then
 [AV.ro 1 ((↑(linN x) : Int).toNat - 0) fun i => [AV.int IntKind.u8 (↑(x.fst.getD (0 + i) 0) : Int)]]
 else [AV.nils]) =
 [AV.ro 1 (x_2.m i) fun j => [AV.int IntKind.u8 (↑(x_2.f i j) : Int)]]) ∧
 True) ∧
 true = true ∧ True) ∧
 Bytess (famL x_2) ∧
 ∀ (y : Unit),
 True →
 (Exx Fam fun x_3 =>
 ((((0 : Nat) + (1 : Nat) ≤ (1 : Nat) ∧
 1 = x_3.n ∧
 ∀ (i : Nat),
 i < x_3.n →
 (if 0 + i = 0 * 1 / 1 then
 [AV.ro 1 ((↑(linN x) : Int).toNat - 0) fun i =>
 [AV.int IntKind.u8 (↑(x.snd.fst.getD (0 + i) 0) : Int)]]
 else [AV.nils]) =
 [AV.ro 1 (x_3.m i) fun j => [AV.int IntKind.u8 (↑(x_3.f i j) : Int)]]) ∧
 True) ∧
 true = true ∧ True) ∧
 Bytess (famL x_3) ∧
 ∀ (y : Unit),
 True →
 ∀ (n : Int),
 n = bits BinOp.xor IntKind.u32 (↑(sumN (famL x_2)) : Int) (↑(sumN (famL x_3)) : Int) →
 (Exx Fam fun x_4 =>
 ((((0 : Nat) + (1 : Nat) ≤ (1 : Nat) ∧
 1 = x_4.n ∧
 ∀ (i : Nat),
 i < x_4.n →
 (if 0 + i = 0 * 1 / 1 then
 [AV.ro 1 ((↑(linN x) : Int).toNat - 0) fun i =>
 [AV.int IntKind.u8 (↑(x.snd.snd.getD (0 + i) 0) : Int)]]
 else [AV.nils]) =
 [AV.ro 1 (x_4.m i) fun j => [AV.int IntKind.u8 (↑(x_4.f i j) : Int)]]) ∧
 True) ∧
 true = true ∧ True) ∧
 Bytess (famL x_4) ∧
 ∀ (y : Unit),
 True →
 ∀ (n_1 : Int),
 n_1 = bits BinOp.xor IntKind.u32 n (↑(sumN (famL x_4)) : Int) →
 Exx Fam fun x_5 =>
 ((((1 : Nat) = (1 : Nat) ∧
 1 = x_5.n ∧
 1 ≤ [AV.sl 1 [] 0 1 0 (linN x) (linN x)].length ∧
 (0 + linN x ≤ linN x ∧
 linN x = x_5.m 0 ∧
 ∀ (j : Nat),
 j < x_5.m 0 →
 [AV.int IntKind.u8
 (↑(if 0 + j < t then linX x (0 + j) else 0) :
 Int)] =
 [AV.int IntKind.u8 (↑(x_5.f 0 j) : Int)]) ∧
 True) ∧
 True) ∧
 true = true ∧ True) ∧
 Bytess (famL x_5) ∧
 ∀ (y : Unit),
 True →
 ∀ (n : Int),
 n = bits BinOp.xor IntKind.u32 n_1 (↑(sumN (famL x_5)) : Int) →
 Exx Unit fun y =>
 ((decide (n = 0) = true ∧ True) ∧ true = true ∧ True) ∧ True) ∧
 Exx Fam fun x_4 =>
 ((((0 : Nat) + (1 : Nat) ≤ (1 : Nat) ∧
 1 = x_4.n ∧
 ∀ (i : Nat),
 i < x_4.n →
 (if 0 + i = 0 * 1 / 1 then
 [AV.ro 1 ((↑(linN x) : Int).toNat - 0) fun i =>
 [AV.int IntKind.u8 (↑(x.snd.snd.getD (0 + i) 0) : Int)]]
 else [AV.nils]) =
 [AV.ro 1 (x_4.m i) fun j => [AV.int IntKind.u8 (↑(x_4.f i j) : Int)]]) ∧
 True) ∧
 true = true ∧ True) ∧
 Bytess (famL x_4) ∧
 ∀ (y : Unit),
 True →
 ∀ (n_1 : Int),
 n_1 = bits BinOp.xor IntKind.u32 n (↑(sumN (famL x_4)) : Int) →
 Exx Fam fun x_5 =>
 ((((1 : Nat) = (1 : Nat) ∧
 1 = x_5.n ∧
 1 ≤ [AV.sl 1 [] 0 1 0 (linN x) (linN x)].length ∧
 (0 + linN x ≤ linN x ∧
 linN x = x_5.m 0 ∧
 ∀ (j : Nat),
 j < x_5.m 0 →
 [AV.int IntKind.u8
 (↑(if 0 + j < t then linX x (0 + j) else 0) :
 Int)] =
 [AV.int IntKind.u8 (↑(x_5.f 0 j) : Int)]) ∧
 True) ∧
 True) ∧
 true = true ∧ True) ∧
 Bytess (famL x_5) ∧
 ∀ (y : Unit),
 True →
 ∀ (n : Int),
 n = bits BinOp.xor IntKind.u32 n_1 (↑(sumN (famL x_5)) : Int) →
 Exx Unit fun y =>
 ((decide (n = 0) = true ∧ True) ∧ true = true ∧ True) ∧ True) ∧
 Exx Fam fun x_3 =>
 ((((0 : Nat) + (1 : Nat) ≤ (1 : Nat) ∧
 1 = x_3.n ∧
 ∀ (i : Nat),
 i < x_3.n →
 (if 0 + i = 0 * 1 / 1 then
 [AV.ro 1 ((↑(linN x) : Int).toNat - 0) fun i =>
 [AV.int IntKind.u8 (↑(x.snd.fst.getD (0 + i) 0) : Int)]]
 else [AV.nils]) =
 [AV.ro 1 (x_3.m i) fun j => [AV.int IntKind.u8 (↑(x_3.f i j) : Int)]]) ∧
 True) ∧
 true = true ∧ True) ∧
 Bytess (famL x_3) ∧
 ∀ (y : Unit),
 True →
 ∀ (n : Int),
 n = bits BinOp.xor IntKind.u32 (↑(sumN (famL x_2)) : Int) (↑(sumN (famL x_3)) : Int) →
 Exx Fam fun x_4 =>
 ((((0 : Nat) + (1 : Nat) ≤ (1 : Nat) ∧
 1 = x_4.n ∧
 ∀ (i : Nat),
 i < x_4.n →
 (if 0 + i = 0 * 1 / 1 then
 [AV.ro 1 ((↑(linN x) : Int).toNat - 0) fun i =>
 [AV.int IntKind.u8 (↑(x.snd.snd.getD (0 + i) 0) : Int)]]
 else [AV.nils]) =
 [AV.ro 1 (x_4.m i) fun j => [AV.int IntKind.u8 (↑(x_4.f i j) : Int)]]) ∧
 True) ∧
 true = true ∧ True) ∧
 Bytess (famL x_4) ∧
 ∀ (y : Unit),
 True →
 ∀ (n_1 : Int),
 n_1 = bits BinOp.xor IntKind.u32 n (↑(sumN (famL x_4)) : Int) →
 Exx Fam fun x_5 =>
 ((((1 : Nat) = (1 : Nat) ∧
 1 = x_5.n ∧
 1 ≤ [AV.sl 1 [] 0 1 0 (linN x) (linN x)].length ∧
 (0 + linN x ≤ linN x ∧
 linN x = x_5.m 0 ∧
 ∀ (j : Nat),
 j < x_5.m 0 →
 [AV.int IntKind.u8
 (↑(if 0 + j < t then linX x (0 + j) else 0) :
 Int)] =
 [AV.int IntKind.u8 (↑(x_5.f 0 j) : Int)]) ∧
 True) ∧
 True) ∧
 true = true ∧ True) ∧
 Bytess (famL x_5) ∧
 ∀ (y : Unit),
 True →
 ∀ (n : Int),
 n = bits BinOp.xor IntKind.u32 n_1 (↑(sumN (famL x_5)) : Int) →
 Exx Unit fun y =>
 ((decide (n = 0) = true ∧ True) ∧ true = true ∧ True) ∧ True) ∧
 Exx Fam fun x_2 =>
 ((((0 : Nat) + (1 : Nat) ≤ (1 : Nat) ∧
 1 = x_2.n ∧
 ∀ (i : Nat),
 i < x_2.n →
 (if 0 + i = 0 * 1 / 1 then
 [AV.ro 1 ((↑(linN x) : Int).toNat - 0) fun i => [AV.int IntKind.u8 (↑(x.fst.getD (0 + i) 0) : Int)]]
 else [AV.nils]) =
 [AV.ro 1 (x_2.m i) fun j => [AV.int IntKind.u8 (↑(x_2.f i j) : Int)]]) ∧
 True) ∧
 true = true ∧ True) ∧
 Bytess (famL x_2) ∧
 ∀ (y : Unit),
 True →
 Exx Fam fun x_3 =>
 ((((0 : Nat) + (1 : Nat) ≤ (1 : Nat) ∧
 1 = x_3.n ∧
 ∀ (i : Nat),
 i < x_3.n →
 (if 0 + i = 0 * 1 / 1 then
 [AV.ro 1 ((↑(linN x) : Int).toNat - 0) fun i =>
 [AV.int IntKind.u8 (↑(x.snd.fst.getD (0 + i) 0) : Int)]]
 else [AV.nils]) =
 [AV.ro 1 (x_3.m i) fun j => [AV.int IntKind.u8 (↑(x_3.f i j) : Int)]]) ∧
 True) ∧
 true = true ∧ True) ∧
 Bytess (famL x_3) ∧
 ∀ (y : Unit),
 True →
 ∀ (n : Int),
 n = bits BinOp.xor IntKind.u32 (↑(sumN (famL x_2)) : Int) (↑(sumN (famL x_3)) : Int) →
 Exx Fam fun x_4 =>
 ((((0 : Nat) + (1 : Nat) ≤ (1 : Nat) ∧
 1 = x_4.n ∧
 ∀ (i : Nat),
 i < x_4.n →
 (if 0 + i = 0 * 1 / 1 then
 [AV.ro 1 ((↑(linN x) : Int).toNat - 0) fun i =>
 [AV.int IntKind.u8 (↑(x.snd.snd.getD (0 + i) 0) : Int)]]
 else [AV.nils]) =
 [AV.ro 1 (x_4.m i) fun j => [AV.int IntKind.u8 (↑(x_4.f i j) : Int)]]) ∧
 True) ∧
 true = true ∧ True) ∧
 Bytess (famL x_4) ∧
 ∀ (y : Unit),
 True →
 ∀ (n_1 : Int),
 n_1 = bits BinOp.xor IntKind.u32 n (↑(sumN (famL x_4)) : Int) →
 Exx Fam fun x_5 =>
 ((((1 : Nat) = (1 : Nat) ∧
 1 = x_5.n ∧
 1 ≤ [AV.sl 1 [] 0 1 0 (linN x) (linN x)].length ∧
 (0 + linN x ≤ linN x ∧
 linN x = x_5.m 0 ∧
 ∀ (j : Nat),
 j < x_5.m 0 →
 [AV.int IntKind.u8
 (↑(if 0 + j < t then linX x (0 + j) else 0) : Int)] =
 [AV.int IntKind.u8 (↑(x_5.f 0 j) : Int)]) ∧
 True) ∧
 True) ∧
 true = true ∧ True) ∧
 Bytess (famL x_5) ∧
 ∀ (y : Unit),
 True →
 ∀ (n : Int),
 n = bits BinOp.xor IntKind.u32 n_1 (↑(sumN (famL x_5)) : Int) →
 Exx Unit fun y =>
 ((decide (n = 0) = true ∧ True) ∧ true = true ∧ True) ∧ True) ∧
 (Exx Fam fun x_2 =>
 ((((0 : Nat) + (1 : Nat) ≤ (1 : Nat) ∧
 1 = x_2.n ∧
 ∀ (i : Nat),
 i < x_2.n →
 (if 0 + i = 0 * 1 / 1 then
 [AV.ro 1 ((↑(linN x) : Int).toNat - 0) fun i => [AV.int IntKind.u8 (↑(x.fst.getD (0 + i) 0) : Int)]]
 else [AV.nils]) =
 [AV.ro 1 (x_2.m i) fun j => [AV.int IntKind.u8 (↑(x_2.f i j) : Int)]]) ∧
 True) ∧
 true = true ∧ True) ∧
 Bytess (famL x_2) ∧
 ∀ (y : Unit),
 True →
 (Exx Fam fun x_3 =>
 ((((0 : Nat) + (1 : Nat) ≤ (1 : Nat) ∧
 1 = x_3.n ∧
 ∀ (i : Nat),
 i < x_3.n →
 (if 0 + i = 0 * 1 / 1 then
 [AV.ro 1 ((↑(linN x) : Int).toNat - 0) fun i =>
 [AV.int IntKind.u8 (↑(x.snd.fst.getD (0 + i) 0) : Int)]]
 else [AV.nils]) =
 [AV.ro 1 (x_3.m i) fun j => [AV.int IntKind.u8 (↑(x_3.f i j) : Int)]]) ∧
 True) ∧
 true = true ∧ True) ∧
 Bytess (famL x_3) ∧
 ∀ (y : Unit),
 True →
 ∀ (n : Int),
 n = bits BinOp.xor IntKind.u32 (↑(sumN (famL x_2)) : Int) (↑(sumN (famL x_3)) : Int) →
 Exx Fam fun x_4 =>
 ((((0 : Nat) + (1 : Nat) ≤ (1 : Nat) ∧
 1 = x_4.n ∧
 ∀ (i : Nat),
 i < x_4.n →
 (if 0 + i = 0 * 1 / 1 then
 [AV.ro 1 ((↑(linN x) : Int).toNat - 0) fun i =>
 [AV.int IntKind.u8 (↑(x.snd.snd.getD (0 + i) 0) : Int)]]
 else [AV.nils]) =
 [AV.ro 1 (x_4.m i) fun j => [AV.int IntKind.u8 (↑(x_4.f i j) : Int)]]) ∧
 True) ∧
 true = true ∧ True) ∧
 Bytess (famL x_4) ∧
 ∀ (y : Unit),
 True →
 ∀ (n_1 : Int),
 n_1 = bits BinOp.xor IntKind.u32 n (↑(sumN (famL x_4)) : Int) →
 Exx Fam fun x_5 =>
 ((((1 : Nat) = (1 : Nat) ∧
 1 = x_5.n ∧
 1 ≤ [AV.sl 1 [] 0 1 0 (linN x) (linN x)].length ∧
 (0 + linN x ≤ linN x ∧
 linN x = x_5.m 0 ∧
 ∀ (j : Nat),
 j < x_5.m 0 →
 [AV.int IntKind.u8
 (↑(if 0 + j < t then linX x (0 + j) else 0) :
 Int)] =
 [AV.int IntKind.u8 (↑(x_5.f 0 j) : Int)]) ∧
 True) ∧
 True) ∧
 true = true ∧ True) ∧
 Bytess (famL x_5) ∧
 ∀ (y : Unit),
 True →
 ∀ (n : Int),
 n = bits BinOp.xor IntKind.u32 n_1 (↑(sumN (famL x_5)) : Int) →
 Exx Unit fun y =>
 ((decide (n = 0) = true ∧ True) ∧ true = true ∧ True) ∧ True) ∧
 Exx Fam fun x_3 =>
 ((((0 : Nat) + (1 : Nat) ≤ (1 : Nat) ∧
 1 = x_3.n ∧
 ∀ (i : Nat),
 i < x_3.n →
 (if 0 + i = 0 * 1 / 1 then
 [AV.ro 1 ((↑(linN x) : Int).toNat - 0) fun i =>
 [AV.int IntKind.u8 (↑(x.snd.fst.getD (0 + i) 0) : Int)]]
 else [AV.nils]) =
 [AV.ro 1 (x_3.m i) fun j => [AV.int IntKind.u8 (↑(x_3.f i j) : Int)]]) ∧
 True) ∧
 true = true ∧ True) ∧
 Bytess (famL x_3) ∧
 ∀ (y : Unit),
 True →
 ∀ (n : Int),
 n = bits BinOp.xor IntKind.u32 (↑(sumN (famL x_2)) : Int) (↑(sumN (famL x_3)) : Int) →
 Exx Fam fun x_4 =>
 ((((0 : Nat) + (1 : Nat) ≤ (1 : Nat) ∧
 1 = x_4.n ∧
 ∀ (i : Nat),
 i < x_4.n →
 (if 0 + i = 0 * 1 / 1 then
 [AV.ro 1 ((↑(linN x) : Int).toNat - 0) fun i =>
 [AV.int IntKind.u8 (↑(x.snd.snd.getD (0 + i) 0) : Int)]]
 else [AV.nils]) =
 [AV.ro 1 (x_4.m i) fun j => [AV.int IntKind.u8 (↑(x_4.f i j) : Int)]]) ∧
 True) ∧
 true = true ∧ True) ∧
 Bytess (famL x_4) ∧
 ∀ (y : Unit),
 True →
 ∀ (n_1 : Int),
 n_1 = bits BinOp.xor IntKind.u32 n (↑(sumN (famL x_4)) : Int) →
 Exx Fam fun x_5 =>
 ((((1 : Nat) = (1 : Nat) ∧
 1 = x_5.n ∧
 1 ≤ [AV.sl 1 [] 0 1 0 (linN x) (linN x)].length ∧
 (0 + linN x ≤ linN x ∧
 linN x = x_5.m 0 ∧
 ∀ (j : Nat),
 j < x_5.m 0 →
 [AV.int IntKind.u8
 (↑(if 0 + j < t then linX x (0 + j) else 0) :
 Int)] =
 [AV.int IntKind.u8 (↑(x_5.f 0 j) : Int)]) ∧
 True) ∧
 True) ∧
 true = true ∧ True) ∧
 Bytess (famL x_5) ∧
 ∀ (y : Unit),
 True →
 ∀ (n : Int),
 n = bits BinOp.xor IntKind.u32 n_1 (↑(sumN (famL x_5)) : Int) →
 Exx Unit fun y =>
 ((decide (n = 0) = true ∧ True) ∧ true = true ∧ True) ∧ True) ∧
 Exx Fam fun x_2 =>
 ((((0 : Nat) + (1 : Nat) ≤ (1 : Nat) ∧
 1 = x_2.n ∧
 ∀ (i : Nat),
 i < x_2.n →
 (if 0 + i = 0 * 1 / 1 then
 [AV.ro 1 ((↑(linN x) : Int).toNat - 0) fun i => [AV.int IntKind.u8 (↑(x.fst.getD (0 + i) 0) : Int)]]
 else [AV.nils]) =
 [AV.ro 1 (x_2.m i) fun j => [AV.int IntKind.u8 (↑(x_2.f i j) : Int)]]) ∧
 True) ∧
 true = true ∧ True) ∧
 Bytess (famL x_2) ∧
 ∀ (y : Unit),
 True →
 Exx Fam fun x_3 =>
 ((((0 : Nat) + (1 : Nat) ≤ (1 : Nat) ∧
 1 = x_3.n ∧
 ∀ (i : Nat),
 i < x_3.n →
 (if 0 + i = 0 * 1 / 1 then
 [AV.ro 1 ((↑(linN x) : Int).toNat - 0) fun i =>
 [AV.int IntKind.u8 (↑(x.snd.fst.getD (0 + i) 0) : Int)]]
 else [AV.nils]) =
 [AV.ro 1 (x_3.m i) fun j => [AV.int IntKind.u8 (↑(x_3.f i j) : Int)]]) ∧
 True) ∧
 true = true ∧ True) ∧
 Bytess (famL x_3) ∧
 ∀ (y : Unit),
 True →
 ∀ (n : Int),
 n = bits BinOp.xor IntKind.u32 (↑(sumN (famL x_2)) : Int) (↑(sumN (famL x_3)) : Int) →
 Exx Fam fun x_4 =>
 ((((0 : Nat) + (1 : Nat) ≤ (1 : Nat) ∧
 1 = x_4.n ∧
 ∀ (i : Nat),
 i < x_4.n →
 (if 0 + i = 0 * 1 / 1 then
 [AV.ro 1 ((↑(linN x) : Int).toNat - 0) fun i =>
 [AV.int IntKind.u8 (↑(x.snd.snd.getD (0 + i) 0) : Int)]]
 else [AV.nils]) =
 [AV.ro 1 (x_4.m i) fun j => [AV.int IntKind.u8 (↑(x_4.f i j) : Int)]]) ∧
 True) ∧
 true = true ∧ True) ∧
 Bytess (famL x_4) ∧
 ∀ (y : Unit),
 True →
 ∀ (n_1 : Int),
 n_1 = bits BinOp.xor IntKind.u32 n (↑(sumN (famL x_4)) : Int) →
 Exx Fam fun x_5 =>
 ((((1 : Nat) = (1 : Nat) ∧
 1 = x_5.n ∧
 1 ≤ [AV.sl 1 [] 0 1 0 (linN x) (linN x)].length ∧
 (0 + linN x ≤ linN x ∧
 linN x = x_5.m 0 ∧
 ∀ (j : Nat),
 j < x_5.m 0 →
 [AV.int IntKind.u8
 (↑(if 0 + j < t then linX x (0 + j) else 0) : Int)] =
 [AV.int IntKind.u8 (↑(x_5.f 0 j) : Int)]) ∧
 True) ∧
 True) ∧
 true = true ∧ True) ∧
 Bytess (famL x_5) ∧
 ∀ (y : Unit),
 True →
 ∀ (n : Int),
 n = bits BinOp.xor IntKind.u32 n_1 (↑(sumN (famL x_5)) : Int) →
 Exx Unit fun y =>
 ((decide (n = 0) = true ∧ True) ∧ true = true ∧ True) ∧ True) ∧
 (((Exx Fam fun x_2 =>
 ((((0 : Nat) + (1 : Nat) ≤ (1 : Nat) ∧
 1 = x_2.n ∧
 ∀ (i : Nat),
 i < x_2.n →
 (if 0 + i = 0 * 1 / 1 then
 [AV.ro 1 ((↑(linN x) : Int).toNat - 0) fun i => [AV.int IntKind.u8 (↑(x.fst.getD (0 + i) 0) : Int)]]
 else [AV.nils]) =
 [AV.ro 1 (x_2.m i) fun j => [AV.int IntKind.u8 (↑(x_2.f i j) : Int)]]) ∧
 True) ∧
 true = true ∧ True) ∧
 Bytess (famL x_2) ∧
 ∀ (y : Unit),
 True →
 (Exx Fam fun x_3 =>
 ((((0 : Nat) + (1 : Nat) ≤ (1 : Nat) ∧
 1 = x_3.n ∧
 ∀ (i : Nat),
 i < x_3.n →
 (if 0 + i = 0 * 1 / 1 then
 [AV.ro 1 ((↑(linN x) : Int).toNat - 0) fun i =>
 [AV.int IntKind.u8 (↑(x.snd.fst.getD (0 + i) 0) : Int)]]
 else [AV.nils]) =
 [AV.ro 1 (x_3.m i) fun j => [AV.int IntKind.u8 (↑(x_3.f i j) : Int)]]) ∧
 True) ∧
 true = true ∧ True) ∧
 Bytess (famL x_3) ∧
 ∀ (y : Unit),
 True →
 ∀ (n : Int),
 n = bits BinOp.xor IntKind.u32 (↑(sumN (famL x_2)) : Int) (↑(sumN (famL x_3)) : Int) →
 (Exx Fam fun x_4 =>
 ((((0 : Nat) + (1 : Nat) ≤ (1 : Nat) ∧
 1 = x_4.n ∧
 ∀ (i : Nat),
 i < x_4.n →
 (if 0 + i = 0 * 1 / 1 then
 [AV.ro 1 ((↑(linN x) : Int).toNat - 0) fun i =>
 [AV.int IntKind.u8 (↑(x.snd.snd.getD (0 + i) 0) : Int)]]
 else [AV.nils]) =
 [AV.ro 1 (x_4.m i) fun j => [AV.int IntKind.u8 (↑(x_4.f i j) : Int)]]) ∧
 True) ∧
 true = true ∧ True) ∧
 Bytess (famL x_4) ∧
 ∀ (y : Unit),
 True →
 ∀ (n_1 : Int),
 n_1 = bits BinOp.xor IntKind.u32 n (↑(sumN (famL x_4)) : Int) →
 Exx Fam fun x_5 =>
 ((((1 : Nat) = (1 : Nat) ∧
 1 = x_5.n ∧
 1 ≤ [AV.sl 1 [] 0 1 0 (linN x) (linN x)].length ∧
 (0 + linN x ≤ linN x ∧
 linN x = x_5.m 0 ∧
 ∀ (j : Nat),
 j < x_5.m 0 →
 [AV.int IntKind.u8
 (↑(if 0 + j < t then linX x (0 + j) else 0) :
 Int)] =
 [AV.int IntKind.u8 (↑(x_5.f 0 j) : Int)]) ∧
 True) ∧
 True) ∧
 true = true ∧ True) ∧
 Bytess (famL x_5) ∧
 ∀ (y : Unit),
 True →
 ∀ (n : Int),
 n = bits BinOp.xor IntKind.u32 n_1 (↑(sumN (famL x_5)) : Int) →
 Exx Unit fun y =>
 ((decide (n = 0) = true ∧ True) ∧ true = true ∧ True) ∧ True) ∧
 Exx Fam fun x_4 =>
 ((((0 : Nat) + (1 : Nat) ≤ (1 : Nat) ∧
 1 = x_4.n ∧
 ∀ (i : Nat),
 i < x_4.n →
 (if 0 + i = 0 * 1 / 1 then
 [AV.ro 1 ((↑(linN x) : Int).toNat - 0) fun i =>
 [AV.int IntKind.u8 (↑(x.snd.snd.getD (0 + i) 0) : Int)]]
 else [AV.nils]) =
 [AV.ro 1 (x_4.m i) fun j => [AV.int IntKind.u8 (↑(x_4.f i j) : Int)]]) ∧
 True) ∧
 true = true ∧ True) ∧
 Bytess (famL x_4) ∧
 ∀ (y : Unit),
 True →
 ∀ (n_1 : Int),
 n_1 = bits BinOp.xor IntKind.u32 n (↑(sumN (famL x_4)) : Int) →
 Exx Fam fun x_5 =>
 ((((1 : Nat) = (1 : Nat) ∧
 1 = x_5.n ∧
 1 ≤ [AV.sl 1 [] 0 1 0 (linN x) (linN x)].length ∧
 (0 + linN x ≤ linN x ∧
 linN x = x_5.m 0 ∧
 ∀ (j : Nat),
 j < x_5.m 0 →
 [AV.int IntKind.u8
 (↑(if 0 + j < t then linX x (0 + j) else 0) :
 Int)] =
 [AV.int IntKind.u8 (↑(x_5.f 0 j) : Int)]) ∧
 True) ∧
 True) ∧
 true = true ∧ True) ∧
 Bytess (famL x_5) ∧
 ∀ (y : Unit),
 True →
 ∀ (n : Int),
 n = bits BinOp.xor IntKind.u32 n_1 (↑(sumN (famL x_5)) : Int) →
 Exx Unit fun y =>
 ((decide (n = 0) = true ∧ True) ∧ true = true ∧ True) ∧ True) ∧
 Exx Fam fun x_3 =>
 ((((0 : Nat) + (1 : Nat) ≤ (1 : Nat) ∧
 1 = x_3.n ∧
 ∀ (i : Nat),
 i < x_3.n →
 (if 0 + i = 0 * 1 / 1 then
 [AV.ro 1 ((↑(linN x) : Int).toNat - 0) fun i =>
 [AV.int IntKind.u8 (↑(x.snd.fst.getD (0 + i) 0) : Int)]]
 else [AV.nils]) =
 [AV.ro 1 (x_3.m i) fun j => [AV.int IntKind.u8 (↑(x_3.f i j) : Int)]]) ∧
 True) ∧
 true = true ∧ True) ∧
 Bytess (famL x_3) ∧
 ∀ (y : Unit),
 True →
 ∀ (n : Int),
 n = bits BinOp.xor IntKind.u32 (↑(sumN (famL x_2)) : Int) (↑(sumN (famL x_3)) : Int) →
 Exx Fam fun x_4 =>
 ((((0 : Nat) + (1 : Nat) ≤ (1 : Nat) ∧
 1 = x_4.n ∧
 ∀ (i : Nat),
 i < x_4.n →
 (if 0 + i = 0 * 1 / 1 then
 [AV.ro 1 ((↑(linN x) : Int).toNat - 0) fun i =>
 [AV.int IntKind.u8 (↑(x.snd.snd.getD (0 + i) 0) : Int)]]
 else [AV.nils]) =
 [AV.ro 1 (x_4.m i) fun j => [AV.int IntKind.u8 (↑(x_4.f i j) : Int)]]) ∧
 True) ∧
 true = true ∧ True) ∧
 Bytess (famL x_4) ∧
 ∀ (y : Unit),
 True →
 ∀ (n_1 : Int),
 n_1 = bits BinOp.xor IntKind.u32 n (↑(sumN (famL x_4)) : Int) →
 Exx Fam fun x_5 =>
 ((((1 : Nat) = (1 : Nat) ∧
 1 = x_5.n ∧
 1 ≤ [AV.sl 1 [] 0 1 0 (linN x) (linN x)].length ∧
 (0 + linN x ≤ linN x ∧
 linN x = x_5.m 0 ∧
 ∀ (j : Nat),
 j < x_5.m 0 →
 [AV.int IntKind.u8
 (↑(if 0 + j < t then linX x (0 + j) else 0) :
 Int)] =
 [AV.int IntKind.u8 (↑(x_5.f 0 j) : Int)]) ∧
 True) ∧
 True) ∧
 true = true ∧ True) ∧
 Bytess (famL x_5) ∧
 ∀ (y : Unit),
 True →
 ∀ (n : Int),
 n = bits BinOp.xor IntKind.u32 n_1 (↑(sumN (famL x_5)) : Int) →
 Exx Unit fun y =>
 ((decide (n = 0) = true ∧ True) ∧ true = true ∧ True) ∧ True) ∧
 Exx Fam fun x_2 =>
 ((((0 : Nat) + (1 : Nat) ≤ (1 : Nat) ∧
 1 = x_2.n ∧
 ∀ (i : Nat),
 i < x_2.n →
 (if 0 + i = 0 * 1 / 1 then
 [AV.ro 1 ((↑(linN x) : Int).toNat - 0) fun i => [AV.int IntKind.u8 (↑(x.fst.getD (0 + i) 0) : Int)]]
 else [AV.nils]) =
 [AV.ro 1 (x_2.m i) fun j => [AV.int IntKind.u8 (↑(x_2.f i j) : Int)]]) ∧
 True) ∧
 true = true ∧ True) ∧
 Bytess (famL x_2) ∧
 ∀ (y : Unit),
 True →
 Exx Fam fun x_3 =>
 ((((0 : Nat) + (1 : Nat) ≤ (1 : Nat) ∧
 1 = x_3.n ∧
 ∀ (i : Nat),
 i < x_3.n →
 (if 0 + i = 0 * 1 / 1 then
 [AV.ro 1 ((↑(linN x) : Int).toNat - 0) fun i =>
 [AV.int IntKind.u8 (↑(x.snd.fst.getD (0 + i) 0) : Int)]]
 else [AV.nils]) =
 [AV.ro 1 (x_3.m i) fun j => [AV.int IntKind.u8 (↑(x_3.f i j) : Int)]]) ∧
 True) ∧
 true = true ∧ True) ∧
 Bytess (famL x_3) ∧
 ∀ (y : Unit),
 True →
 ∀ (n : Int),
 n = bits BinOp.xor IntKind.u32 (↑(sumN (famL x_2)) : Int) (↑(sumN (famL x_3)) : Int) →
 Exx Fam fun x_4 =>
 ((((0 : Nat) + (1 : Nat) ≤ (1 : Nat) ∧
 1 = x_4.n ∧
 ∀ (i : Nat),
 i < x_4.n →
 (if 0 + i = 0 * 1 / 1 then
 [AV.ro 1 ((↑(linN x) : Int).toNat - 0) fun i =>
 [AV.int IntKind.u8 (↑(x.snd.snd.getD (0 + i) 0) : Int)]]
 else [AV.nils]) =
 [AV.ro 1 (x_4.m i) fun j => [AV.int IntKind.u8 (↑(x_4.f i j) : Int)]]) ∧
 True) ∧
 true = true ∧ True) ∧
 Bytess (famL x_4) ∧
 ∀ (y : Unit),
 True →
 ∀ (n_1 : Int),
 n_1 = bits BinOp.xor IntKind.u32 n (↑(sumN (famL x_4)) : Int) →
 Exx Fam fun x_5 =>
 ((((1 : Nat) = (1 : Nat) ∧
 1 = x_5.n ∧
 1 ≤ [AV.sl 1 [] 0 1 0 (linN x) (linN x)].length ∧
 (0 + linN x ≤ linN x ∧
 linN x = x_5.m 0 ∧
 ∀ (j : Nat),
 j < x_5.m 0 →
 [AV.int IntKind.u8
 (↑(if 0 + j < t then linX x (0 + j) else 0) : Int)] =
 [AV.int IntKind.u8 (↑(x_5.f 0 j) : Int)]) ∧
 True) ∧
 True) ∧
 true = true ∧ True) ∧
 Bytess (famL x_5) ∧
 ∀ (y : Unit),
 True →
 ∀ (n : Int),
 n = bits BinOp.xor IntKind.u32 n_1 (↑(sumN (famL x_5)) : Int) →
 Exx Unit fun y =>
 ((decide (n = 0) = true ∧ True) ∧ true = true ∧ True) ∧ True) ∧
 Exx Fam fun x_2 =>
 ((((0 : Nat) + (1 : Nat) ≤ (1 : Nat) ∧
 1 = x_2.n ∧
 ∀ (i : Nat),
 i < x_2.n →
 (if 0 + i = 0 * 1 / 1 then
 [AV.ro 1 ((↑(linN x) : Int).toNat - 0) fun i => [AV.int IntKind.u8 (↑(x.fst.getD (0 + i) 0) : Int)]]
 else [AV.nils]) =
 [AV.ro 1 (x_2.m i) fun j => [AV.int IntKind.u8 (↑(x_2.f i j) : Int)]]) ∧
 True) ∧
 true = true ∧ True) ∧
 Bytess (famL x_2) ∧
 ∀ (y : Unit),
 True →
 Exx Fam fun x_3 =>
 ((((0 : Nat) + (1 : Nat) ≤ (1 : Nat) ∧
 1 = x_3.n ∧
 ∀ (i : Nat),
 i < x_3.n →
 (if 0 + i = 0 * 1 / 1 then
 [AV.ro 1 ((↑(linN x) : Int).toNat - 0) fun i =>
 [AV.int IntKind.u8 (↑(x.snd.fst.getD (0 + i) 0) : Int)]]
 else [AV.nils]) =
 [AV.ro 1 (x_3.m i) fun j => [AV.int IntKind.u8 (↑(x_3.f i j) : Int)]]) ∧
 True) ∧
 true = true ∧ True) ∧
 Bytess (famL x_3) ∧
 ∀ (y : Unit),
 True →
 ∀ (n : Int),
 n = bits BinOp.xor IntKind.u32 (↑(sumN (famL x_2)) : Int) (↑(sumN (famL x_3)) : Int) →
 Exx Fam fun x_4 =>
 ((((0 : Nat) + (1 : Nat) ≤ (1 : Nat) ∧
 1 = x_4.n ∧
 ∀ (i : Nat),
 i < x_4.n →
 (if 0 + i = 0 * 1 / 1 then
 [AV.ro 1 ((↑(linN x) : Int).toNat - 0) fun i =>
 [AV.int IntKind.u8 (↑(x.snd.snd.getD (0 + i) 0) : Int)]]
 else [AV.nils]) =
 [AV.ro 1 (x_4.m i) fun j => [AV.int IntKind.u8 (↑(x_4.f i j) : Int)]]) ∧
 True) ∧
 true = true ∧ True) ∧
 Bytess (famL x_4) ∧
 ∀ (y : Unit),
 True →
 ∀ (n_1 : Int),
 n_1 = bits BinOp.xor IntKind.u32 n (↑(sumN (famL x_4)) : Int) →
 Exx Fam fun x_5 =>
 ((((1 : Nat) = (1 : Nat) ∧
 1 = x_5.n ∧
 1 ≤ [AV.sl 1 [] 0 1 0 (linN x) (linN x)].length ∧
 (0 + linN x ≤ linN x ∧
 linN x = x_5.m 0 ∧
 ∀ (j : Nat),
 j < x_5.m 0 →
 [AV.int IntKind.u8
 (↑(if 0 + j < t then linX x (0 + j) else 0) : Int)] =
 [AV.int IntKind.u8 (↑(x_5.f 0 j) : Int)]) ∧
 True) ∧
 True) ∧
 true = true ∧ True) ∧
 Bytess (famL x_5) ∧
 ∀ (y : Unit),
 True →
 ∀ (n : Int),
 n = bits BinOp.xor IntKind.u32 n_1 (↑(sumN (famL x_5)) : Int) →
 Exx Unit fun y =>
 ((decide (n = 0) = true ∧ True) ∧ true = true ∧ True) ∧ True) ∧
 ((Exx Fam fun x_2 =>
 ((((0 : Nat) + (1 : Nat) ≤ (1 : Nat) ∧
 1 = x_2.n ∧
 ∀ (i : Nat),
 i < x_2.n →
 (if 0 + i = 0 * 1 / 1 then
 [AV.ro 1 ((↑(linN x) : Int).toNat - 0) fun i => [AV.int IntKind.u8 (↑(x.fst.getD (0 + i) 0) : Int)]]
 else [AV.nils]) =
 [AV.ro 1 (x_2.m i) fun j => [AV.int IntKind.u8 (↑(x_2.f i j) : Int)]]) ∧
 True) ∧
 true = true ∧ True) ∧
 Bytess (famL x_2) ∧
 ∀ (y : Unit),
 True →
 (Exx Fam fun x_3 =>
 ((((0 : Nat) + (1 : Nat) ≤ (1 : Nat) ∧
 1 = x_3.n ∧
 ∀ (i : Nat),
 i < x_3.n →
 (if 0 + i = 0 * 1 / 1 then
 [AV.ro 1 ((↑(linN x) : Int).toNat - 0) fun i =>
 [AV.int IntKind.u8 (↑(x.snd.fst.getD (0 + i) 0) : Int)]]
 else [AV.nils]) =
 [AV.ro 1 (x_3.m i) fun j => [AV.int IntKind.u8 (↑(x_3.f i j) : Int)]]) ∧
 True) ∧
 true = true ∧ True) ∧
 Bytess (famL x_3) ∧
 ∀ (y : Unit),
 True →
 ∀ (n : Int),
 n = bits BinOp.xor IntKind.u32 (↑(sumN (famL x_2)) : Int) (↑(sumN (famL x_3)) : Int) →
 Exx Fam fun x_4 =>
 ((((0 : Nat) + (1 : Nat) ≤ (1 : Nat) ∧
 1 = x_4.n ∧
 ∀ (i : Nat),
 i < x_4.n →
 (if 0 + i = 0 * 1 / 1 then
 [AV.ro 1 ((↑(linN x) : Int).toNat - 0) fun i =>
 [AV.int IntKind.u8 (↑(x.snd.snd.getD (0 + i) 0) : Int)]]
 else [AV.nils]) =
 [AV.ro 1 (x_4.m i) fun j => [AV.int IntKind.u8 (↑(x_4.f i j) : Int)]]) ∧
 True) ∧
 true = true ∧ True) ∧
 Bytess (famL x_4) ∧
 ∀ (y : Unit),
 True →
 ∀ (n_1 : Int),
 n_1 = bits BinOp.xor IntKind.u32 n (↑(sumN (famL x_4)) : Int) →
 Exx Fam fun x_5 =>
 ((((1 : Nat) = (1 : Nat) ∧
 1 = x_5.n ∧
 1 ≤ [AV.sl 1 [] 0 1 0 (linN x) (linN x)].length ∧
 (0 + linN x ≤ linN x ∧
 linN x = x_5.m 0 ∧
 ∀ (j : Nat),
 j < x_5.m 0 →
 [AV.int IntKind.u8
 (↑(if 0 + j < t then linX x (0 + j) else 0) :
 Int)] =
 [AV.int IntKind.u8 (↑(x_5.f 0 j) : Int)]) ∧
 True) ∧
 True) ∧
 true = true ∧ True) ∧
 Bytess (famL x_5) ∧
 ∀ (y : Unit),
 True →
 ∀ (n : Int),
 n = bits BinOp.xor IntKind.u32 n_1 (↑(sumN (famL x_5)) : Int) →
 Exx Unit fun y =>
 ((decide (n = 0) = true ∧ True) ∧ true = true ∧ True) ∧ True) ∧
 Exx Fam fun x_3 =>
 ((((0 : Nat) + (1 : Nat) ≤ (1 : Nat) ∧
 1 = x_3.n ∧
 ∀ (i : Nat),
 i < x_3.n →
 (if 0 + i = 0 * 1 / 1 then
 [AV.ro 1 ((↑(linN x) : Int).toNat - 0) fun i =>
 [AV.int IntKind.u8 (↑(x.snd.fst.getD (0 + i) 0) : Int)]]
 else [AV.nils]) =
 [AV.ro 1 (x_3.m i) fun j => [AV.int IntKind.u8 (↑(x_3.f i j) : Int)]]) ∧
 True) ∧
 true = true ∧ True) ∧
 Bytess (famL x_3) ∧
 ∀ (y : Unit),
 True →
 ∀ (n : Int),
 n = bits BinOp.xor IntKind.u32 (↑(sumN (famL x_2)) : Int) (↑(sumN (famL x_3)) : Int) →
 Exx Fam fun x_4 =>
 ((((0 : Nat) + (1 : Nat) ≤ (1 : Nat) ∧
 1 = x_4.n ∧
 ∀ (i : Nat),
 i < x_4.n →
 (if 0 + i = 0 * 1 / 1 then
 [AV.ro 1 ((↑(linN x) : Int).toNat - 0) fun i =>
 [AV.int IntKind.u8 (↑(x.snd.snd.getD (0 + i) 0) : Int)]]
 else [AV.nils]) =
 [AV.ro 1 (x_4.m i) fun j => [AV.int IntKind.u8 (↑(x_4.f i j) : Int)]]) ∧
 True) ∧
 true = true ∧ True) ∧
 Bytess (famL x_4) ∧
 ∀ (y : Unit),
 True →
 ∀ (n_1 : Int),
 n_1 = bits BinOp.xor IntKind.u32 n (↑(sumN (famL x_4)) : Int) →
 Exx Fam fun x_5 =>
 ((((1 : Nat) = (1 : Nat) ∧
 1 = x_5.n ∧
 1 ≤ [AV.sl 1 [] 0 1 0 (linN x) (linN x)].length ∧
 (0 + linN x ≤ linN x ∧
 linN x = x_5.m 0 ∧
 ∀ (j : Nat),
 j < x_5.m 0 →
 [AV.int IntKind.u8
 (↑(if 0 + j < t then linX x (0 + j) else 0) :
 Int)] =
 [AV.int IntKind.u8 (↑(x_5.f 0 j) : Int)]) ∧
 True) ∧
 True) ∧
 true = true ∧ True) ∧
 Bytess (famL x_5) ∧
 ∀ (y : Unit),
 True →
 ∀ (n : Int),
 n = bits BinOp.xor IntKind.u32 n_1 (↑(sumN (famL x_5)) : Int) →
 Exx Unit fun y =>
 ((decide (n = 0) = true ∧ True) ∧ true = true ∧ True) ∧ True) ∧
 Exx Fam fun x_2 =>
 ((((0 : Nat) + (1 : Nat) ≤ (1 : Nat) ∧
 1 = x_2.n ∧
 ∀ (i : Nat),
 i < x_2.n →
 (if 0 + i = 0 * 1 / 1 then
 [AV.ro 1 ((↑(linN x) : Int).toNat - 0) fun i => [AV.int IntKind.u8 (↑(x.fst.getD (0 + i) 0) : Int)]]
 else [AV.nils]) =
 [AV.ro 1 (x_2.m i) fun j => [AV.int IntKind.u8 (↑(x_2.f i j) : Int)]]) ∧
 True) ∧
 true = true ∧ True) ∧
 Bytess (famL x_2) ∧
 ∀ (y : Unit),
 True →
 Exx Fam fun x_3 =>
 ((((0 : Nat) + (1 : Nat) ≤ (1 : Nat) ∧
 1 = x_3.n ∧
 ∀ (i : Nat),
 i < x_3.n →
 (if 0 + i = 0 * 1 / 1 then
 [AV.ro 1 ((↑(linN x) : Int).toNat - 0) fun i =>
 [AV.int IntKind.u8 (↑(x.snd.fst.getD (0 + i) 0) : Int)]]
 else [AV.nils]) =
 [AV.ro 1 (x_3.m i) fun j => [AV.int IntKind.u8 (↑(x_3.f i j) : Int)]]) ∧
 True) ∧
 true = true ∧ True) ∧
 Bytess (famL x_3) ∧
 ∀ (y : Unit),
 True →
 ∀ (n : Int),
 n = bits BinOp.xor IntKind.u32 (↑(sumN (famL x_2)) : Int) (↑(sumN (famL x_3)) : Int) →
 Exx Fam fun x_4 =>
 ((((0 : Nat) + (1 : Nat) ≤ (1 : Nat) ∧
 1 = x_4.n ∧
 ∀ (i : Nat),
 i < x_4.n →
 (if 0 + i = 0 * 1 / 1 then
 [AV.ro 1 ((↑(linN x) : Int).toNat - 0) fun i =>
 [AV.int IntKind.u8 (↑(x.snd.snd.getD (0 + i) 0) : Int)]]
 else [AV.nils]) =
 [AV.ro 1 (x_4.m i) fun j => [AV.int IntKind.u8 (↑(x_4.f i j) : Int)]]) ∧
 True) ∧
 true = true ∧ True) ∧
 Bytess (famL x_4) ∧
 ∀ (y : Unit),
 True →
 ∀ (n_1 : Int),
 n_1 = bits BinOp.xor IntKind.u32 n (↑(sumN (famL x_4)) : Int) →
 Exx Fam fun x_5 =>
 ((((1 : Nat) = (1 : Nat) ∧
 1 = x_5.n ∧
 1 ≤ [AV.sl 1 [] 0 1 0 (linN x) (linN x)].length ∧
 (0 + linN x ≤ linN x ∧
 linN x = x_5.m 0 ∧
 ∀ (j : Nat),
 j < x_5.m 0 →
 [AV.int IntKind.u8
 (↑(if 0 + j < t then linX x (0 + j) else 0) : Int)] =
 [AV.int IntKind.u8 (↑(x_5.f 0 j) : Int)]) ∧
 True) ∧
 True) ∧
 true = true ∧ True) ∧
 Bytess (famL x_5) ∧
 ∀ (y : Unit),
 True →
 ∀ (n : Int),
 n = bits BinOp.xor IntKind.u32 n_1 (↑(sumN (famL x_5)) : Int) →
 Exx Unit fun y =>
 ((decide (n = 0) = true ∧ True) ∧ true = true ∧ True) ∧ True) ∧
 Exx Fam fun x_2 =>
 ((((0 : Nat) + (1 : Nat) ≤ (1 : Nat) ∧
 1 = x_2.n ∧
 ∀ (i : Nat),
 i < x_2.n →
 (if 0 + i = 0 * 1 / 1 then
 [AV.ro 1 ((↑(linN x) : Int).toNat - 0) fun i => [AV.int IntKind.u8 (↑(x.fst.getD (0 + i) 0) : Int)]]
 else [AV.nils]) =
 [AV.ro 1 (x_2.m i) fun j => [AV.int IntKind.u8 (↑(x_2.f i j) : Int)]]) ∧
 True) ∧
 true = true ∧ True) ∧
 Bytess (famL x_2) ∧
 ∀ (y : Unit),
 True →
 Exx Fam fun x_3 =>
 ((((0 : Nat) + (1 : Nat) ≤ (1 : Nat) ∧
 1 = x_3.n ∧
 ∀ (i : Nat),
 i < x_3.n →
 (if 0 + i = 0 * 1 / 1 then
 [AV.ro 1 ((↑(linN x) : Int).toNat - 0) fun i =>
 [AV.int IntKind.u8 (↑(x.snd.fst.getD (0 + i) 0) : Int)]]
 else [AV.nils]) =
 [AV.ro 1 (x_3.m i) fun j => [AV.int IntKind.u8 (↑(x_3.f i j) : Int)]]) ∧
 True) ∧
 true = true ∧ True) ∧
 Bytess (famL x_3) ∧
 ∀ (y : Unit),
 True →
 ∀ (n : Int),
 n = bits BinOp.xor IntKind.u32 (↑(sumN (famL x_2)) : Int) (↑(sumN (famL x_3)) : Int) →
 Exx Fam fun x_4 =>
 ((((0 : Nat) + (1 : Nat) ≤ (1 : Nat) ∧
 1 = x_4.n ∧
 ∀ (i : Nat),
 i < x_4.n →
 (if 0 + i = 0 * 1 / 1 then
 [AV.ro 1 ((↑(linN x) : Int).toNat - 0) fun i =>
 [AV.int IntKind.u8 (↑(x.snd.snd.getD (0 + i) 0) : Int)]]
 else [AV.nils]) =
 [AV.ro 1 (x_4.m i) fun j => [AV.int IntKind.u8 (↑(x_4.f i j) : Int)]]) ∧
 True) ∧
 true = true ∧ True) ∧
 Bytess (famL x_4) ∧
 ∀ (y : Unit),
 True →
 ∀ (n_1 : Int),
 n_1 = bits BinOp.xor IntKind.u32 n (↑(sumN (famL x_4)) : Int) →
 Exx Fam fun x_5 =>
 ((((1 : Nat) = (1 : Nat) ∧
 1 = x_5.n ∧
 1 ≤ [AV.sl 1 [] 0 1 0 (linN x) (linN x)].length ∧
 (0 + linN x ≤ linN x ∧
 linN x = x_5.m 0 ∧
 ∀ (j : Nat),
 j < x_5.m 0 →
 [AV.int IntKind.u8
 (↑(if 0 + j < t then linX x (0 + j) else 0) : Int)] =
 [AV.int IntKind.u8 (↑(x_5.f 0 j) : Int)]) ∧
 True) ∧
 True) ∧
 true = true ∧ True) ∧
 Bytess (famL x_5) ∧
 ∀ (y : Unit),
 True →
 ∀ (n : Int),
 n = bits BinOp.xor IntKind.u32 n_1 (↑(sumN (famL x_5)) : Int) →
 Exx Unit fun y =>
 ((decide (n = 0) = true ∧ True) ∧ true = true ∧ True) ∧ True) ∧
 (((Exx Fam fun x_2 =>
 ((((0 : Nat) + (1 : Nat) ≤ (1 : Nat) ∧
 1 = x_2.n ∧
 ∀ (i : Nat),
 i < x_2.n →
 (if 0 + i = 0 * 1 / 1 then
 [AV.ro 1 ((↑(linN x) : Int).toNat - 0) fun i => [AV.int IntKind.u8 (↑(x.fst.getD (0 + i) 0) : Int)]]
 else [AV.nils]) =
 [AV.ro 1 (x_2.m i) fun j => [AV.int IntKind.u8 (↑(x_2.f i j) : Int)]]) ∧
 True) ∧
 true = true ∧ True) ∧
 Bytess (famL x_2) ∧
 ∀ (y : Unit),
 True →
 ((Exx Fam fun x_3 =>
 ((((0 : Nat) + (1 : Nat) ≤ (1 : Nat) ∧
 1 = x_3.n ∧
 ∀ (i : Nat),
 i < x_3.n →
 (if 0 + i = 0 * 1 / 1 then
 [AV.ro 1 ((↑(linN x) : Int).toNat - 0) fun i =>
 [AV.int IntKind.u8 (↑(x.snd.fst.getD (0 + i) 0) : Int)]]
 else [AV.nils]) =
 [AV.ro 1 (x_3.m i) fun j => [AV.int IntKind.u8 (↑(x_3.f i j) : Int)]]) ∧
 True) ∧
 true = true ∧ True) ∧
 Bytess (famL x_3) ∧
 ∀ (y : Unit),
 True →
 ∀ (n : Int),
 n = bits BinOp.xor IntKind.u32 (↑(sumN (famL x_2)) : Int) (↑(sumN (famL x_3)) : Int) →
 (Exx Fam fun x_4 =>
 ((((0 : Nat) + (1 : Nat) ≤ (1 : Nat) ∧
 1 = x_4.n ∧
 ∀ (i : Nat),
 i < x_4.n →
 (if 0 + i = 0 * 1 / 1 then
 [AV.ro 1 ((↑(linN x) : Int).toNat - 0) fun i =>
 [AV.int IntKind.u8 (↑(x.snd.snd.getD (0 + i) 0) : Int)]]
 else [AV.nils]) =
 [AV.ro 1 (x_4.m i) fun j => [AV.int IntKind.u8 (↑(x_4.f i j) : Int)]]) ∧
 True) ∧
 true = true ∧ True) ∧
 Bytess (famL x_4) ∧
 ∀ (y : Unit),
 True →
 ∀ (n_1 : Int),
 n_1 = bits BinOp.xor IntKind.u32 n (↑(sumN (famL x_4)) : Int) →
 Exx Fam fun x_5 =>
 ((((1 : Nat) = (1 : Nat) ∧
 1 = x_5.n ∧
 1 ≤ [AV.sl 1 [] 0 1 0 (linN x) (linN x)].length ∧
 (0 + linN x ≤ linN x ∧
 linN x = x_5.m 0 ∧
 ∀ (j : Nat),
 j < x_5.m 0 →
 [AV.int IntKind.u8
 (↑(if 0 + j < t then linX x (0 + j) else 0) :
 Int)] =
 [AV.int IntKind.u8 (↑(x_5.f 0 j) : Int)]) ∧
 True) ∧
 True) ∧
 true = true ∧ True) ∧
 Bytess (famL x_5) ∧
 ∀ (y : Unit),
 True →
 ∀ (n : Int),
 n = bits BinOp.xor IntKind.u32 n_1 (↑(sumN (famL x_5)) : Int) →
 Exx Unit fun y =>
 ((decide (n = 0) = true ∧ True) ∧ true = true ∧ True) ∧ True) ∧
 Exx Fam fun x_4 =>
 ((((0 : Nat) + (1 : Nat) ≤ (1 : Nat) ∧
 1 = x_4.n ∧
 ∀ (i : Nat),
 i < x_4.n →
 (if 0 + i = 0 * 1 / 1 then
 [AV.ro 1 ((↑(linN x) : Int).toNat - 0) fun i =>
 [AV.int IntKind.u8 (↑(x.snd.snd.getD (0 + i) 0) : Int)]]
 else [AV.nils]) =
 [AV.ro 1 (x_4.m i) fun j => [AV.int IntKind.u8 (↑(x_4.f i j) : Int)]]) ∧
 True) ∧
 true = true ∧ True) ∧
 Bytess (famL x_4) ∧
 ∀ (y : Unit),
 True →
 ∀ (n_1 : Int),
 n_1 = bits BinOp.xor IntKind.u32 n (↑(sumN (famL x_4)) : Int) →
 Exx Fam fun x_5 =>
 ((((1 : Nat) = (1 : Nat) ∧
 1 = x_5.n ∧
 1 ≤ [AV.sl 1 [] 0 1 0 (linN x) (linN x)].length ∧
 (0 + linN x ≤ linN x ∧
 linN x = x_5.m 0 ∧
 ∀ (j : Nat),
 j < x_5.m 0 →
 [AV.int IntKind.u8
 (↑(if 0 + j < t then linX x (0 + j) else 0) :
 Int)] =
 [AV.int IntKind.u8 (↑(x_5.f 0 j) : Int)]) ∧
 True) ∧
 True) ∧
 true = true ∧ True) ∧
 Bytess (famL x_5) ∧
 ∀ (y : Unit),
 True →
 ∀ (n : Int),
 n = bits BinOp.xor IntKind.u32 n_1 (↑(sumN (famL x_5)) : Int) →
 Exx Unit fun y =>
 ((decide (n = 0) = true ∧ True) ∧ true = true ∧ True) ∧ True) ∧
 Exx Fam fun x_3 =>
 ((((0 : Nat) + (1 : Nat) ≤ (1 : Nat) ∧
 1 = x_3.n ∧
 ∀ (i : Nat),
 i < x_3.n →
 (if 0 + i = 0 * 1 / 1 then
 [AV.ro 1 ((↑(linN x) : Int).toNat - 0) fun i =>
 [AV.int IntKind.u8 (↑(x.snd.fst.getD (0 + i) 0) : Int)]]
 else [AV.nils]) =
 [AV.ro 1 (x_3.m i) fun j => [AV.int IntKind.u8 (↑(x_3.f i j) : Int)]]) ∧
 True) ∧
 true = true ∧ True) ∧
 Bytess (famL x_3) ∧
 ∀ (y : Unit),
 True →
 ∀ (n : Int),
 n = bits BinOp.xor IntKind.u32 (↑(sumN (famL x_2)) : Int) (↑(sumN (famL x_3)) : Int) →
 Exx Fam fun x_4 =>
 ((((0 : Nat) + (1 : Nat) ≤ (1 : Nat) ∧
 1 = x_4.n ∧
 ∀ (i : Nat),
 i < x_4.n →
 (if 0 + i = 0 * 1 / 1 then
 [AV.ro 1 ((↑(linN x) : Int).toNat - 0) fun i =>
 [AV.int IntKind.u8 (↑(x.snd.snd.getD (0 + i) 0) : Int)]]
 else [AV.nils]) =
 [AV.ro 1 (x_4.m i) fun j => [AV.int IntKind.u8 (↑(x_4.f i j) : Int)]]) ∧
 True) ∧
 true = true ∧ True) ∧
 Bytess (famL x_4) ∧
 ∀ (y : Unit),
 True →
 ∀ (n_1 : Int),
 n_1 = bits BinOp.xor IntKind.u32 n (↑(sumN (famL x_4)) : Int) →
 Exx Fam fun x_5 =>
 ((((1 : Nat) = (1 : Nat) ∧
 1 = x_5.n ∧
 1 ≤ [AV.sl 1 [] 0 1 0 (linN x) (linN x)].length ∧
 (0 + linN x ≤ linN x ∧
 linN x = x_5.m 0 ∧
 ∀ (j : Nat),
 j < x_5.m 0 →
 [AV.int IntKind.u8
 (↑(if 0 + j < t then linX x (0 + j) else 0) :
 Int)] =
 [AV.int IntKind.u8 (↑(x_5.f 0 j) : Int)]) ∧
 True) ∧
 True) ∧
 true = true ∧ True) ∧
 Bytess (famL x_5) ∧
 ∀ (y : Unit),
 True →
 ∀ (n : Int),
 n = bits BinOp.xor IntKind.u32 n_1 (↑(sumN (famL x_5)) : Int) →
 Exx Unit fun y =>
 ((decide (n = 0) = true ∧ True) ∧ true = true ∧ True) ∧ True) ∧
 Exx Fam fun x_3 =>
 ((((0 : Nat) + (1 : Nat) ≤ (1 : Nat) ∧
 1 = x_3.n ∧
 ∀ (i : Nat),
 i < x_3.n →
 (if 0 + i = 0 * 1 / 1 then
 [AV.ro 1 ((↑(linN x) : Int).toNat - 0) fun i =>
 [AV.int IntKind.u8 (↑(x.snd.fst.getD (0 + i) 0) : Int)]]
 else [AV.nils]) =
 [AV.ro 1 (x_3.m i) fun j => [AV.int IntKind.u8 (↑(x_3.f i j) : Int)]]) ∧
 True) ∧
 true = true ∧ True) ∧
 Bytess (famL x_3) ∧
 ∀ (y : Unit),
 True →
 ∀ (n : Int),
 n = bits BinOp.xor IntKind.u32 (↑(sumN (famL x_2)) : Int) (↑(sumN (famL x_3)) : Int) →
 Exx Fam fun x_4 =>
 ((((0 : Nat) + (1 : Nat) ≤ (1 : Nat) ∧
 1 = x_4.n ∧
 ∀ (i : Nat),
 i < x_4.n →
 (if 0 + i = 0 * 1 / 1 then
 [AV.ro 1 ((↑(linN x) : Int).toNat - 0) fun i =>
 [AV.int IntKind.u8 (↑(x.snd.snd.getD (0 + i) 0) : Int)]]
 else [AV.nils]) =
 [AV.ro 1 (x_4.m i) fun j => [AV.int IntKind.u8 (↑(x_4.f i j) : Int)]]) ∧
 True) ∧
 true = true ∧ True) ∧
 Bytess (famL x_4) ∧
 ∀ (y : Unit),
 True →
 ∀ (n_1 : Int),
 n_1 = bits BinOp.xor IntKind.u32 n (↑(sumN (famL x_4)) : Int) →
 Exx Fam fun x_5 =>
 ((((1 : Nat) = (1 : Nat) ∧
 1 = x_5.n ∧
 1 ≤ [AV.sl 1 [] 0 1 0 (linN x) (linN x)].length ∧
 (0 + linN x ≤ linN x ∧
 linN x = x_5.m 0 ∧
 ∀ (j : Nat),
 j < x_5.m 0 →
 [AV.int IntKind.u8
 (↑(if 0 + j < t then linX x (0 + j) else 0) : Int)] =
 [AV.int IntKind.u8 (↑(x_5.f 0 j) : Int)]) ∧
 True) ∧
 True) ∧
 true = true ∧ True) ∧
 Bytess (famL x_5) ∧
 ∀ (y : Unit),
 True →
 ∀ (n : Int),
 n = bits BinOp.xor IntKind.u32 n_1 (↑(sumN (famL x_5)) : Int) →
 Exx Unit fun y =>
 ((decide (n = 0) = true ∧ True) ∧ true = true ∧ True) ∧ True) ∧
 ((Exx Fam fun x_2 =>
 ((((0 : Nat) + (1 : Nat) ≤ (1 : Nat) ∧
 1 = x_2.n ∧
 ∀ (i : Nat),
 i < x_2.n →
 (if 0 + i = 0 * 1 / 1 then
 [AV.ro 1 ((↑(linN x) : Int).toNat - 0) fun i => [AV.int IntKind.u8 (↑(x.fst.getD (0 + i) 0) : Int)]]
 else [AV.nils]) =
 [AV.ro 1 (x_2.m i) fun j => [AV.int IntKind.u8 (↑(x_2.f i j) : Int)]]) ∧
 True) ∧
 true = true ∧ True) ∧
 Bytess (famL x_2) ∧
 ∀ (y : Unit),
 True →
 (Exx Fam fun x_3 =>
 ((((0 : Nat) + (1 : Nat) ≤ (1 : Nat) ∧
 1 = x_3.n ∧
 ∀ (i : Nat),
 i < x_3.n →
 (if 0 + i = 0 * 1 / 1 then
 [AV.ro 1 ((↑(linN x) : Int).toNat - 0) fun i =>
 [AV.int IntKind.u8 (↑(x.snd.fst.getD (0 + i) 0) : Int)]]
 else [AV.nils]) =
 [AV.ro 1 (x_3.m i) fun j => [AV.int IntKind.u8 (↑(x_3.f i j) : Int)]]) ∧
 True) ∧
 true = true ∧ True) ∧
 Bytess (famL x_3) ∧
 ∀ (y : Unit),
 True →
 ∀ (n : Int),
 n = bits BinOp.xor IntKind.u32 (↑(sumN (famL x_2)) : Int) (↑(sumN (famL x_3)) : Int) →
 (Exx Fam fun x_4 =>
 ((((0 : Nat) + (1 : Nat) ≤ (1 : Nat) ∧
 1 = x_4.n ∧
 ∀ (i : Nat),
 i < x_4.n →
 (if 0 + i = 0 * 1 / 1 then
 [AV.ro 1 ((↑(linN x) : Int).toNat - 0) fun i =>
 [AV.int IntKind.u8 (↑(x.snd.snd.getD (0 + i) 0) : Int)]]
 else [AV.nils]) =
 [AV.ro 1 (x_4.m i) fun j => [AV.int IntKind.u8 (↑(x_4.f i j) : Int)]]) ∧
 True) ∧
 true = true ∧ True) ∧
 Bytess (famL x_4) ∧
 ∀ (y : Unit),
 True →
 ∀ (n_1 : Int),
 n_1 = bits BinOp.xor IntKind.u32 n (↑(sumN (famL x_4)) : Int) →
 Exx Fam fun x_5 =>
 ((((1 : Nat) = (1 : Nat) ∧
 1 = x_5.n ∧
 1 ≤ [AV.sl 1 [] 0 1 0 (linN x) (linN x)].length ∧
 (0 + linN x ≤ linN x ∧
 linN x = x_5.m 0 ∧
 ∀ (j : Nat),
 j < x_5.m 0 →
 [AV.int IntKind.u8
 (↑(if 0 + j < t then linX x (0 + j) else 0) :
 Int)] =
 [AV.int IntKind.u8 (↑(x_5.f 0 j) : Int)]) ∧
 True) ∧
 True) ∧
 true = true ∧ True) ∧
 Bytess (famL x_5) ∧
 ∀ (y : Unit),
 True →
 ∀ (n : Int),
 n = bits BinOp.xor IntKind.u32 n_1 (↑(sumN (famL x_5)) : Int) →
 Exx Unit fun y =>
 ((decide (n = 0) = true ∧ True) ∧ true = true ∧ True) ∧
 True) ∧
 Exx Fam fun x_4 =>
 ((((0 : Nat) + (1 : Nat) ≤ (1 : Nat) ∧
 1 = x_4.n ∧
 ∀ (i : Nat),
 i < x_4.n →
 (if 0 + i = 0 * 1 / 1 then
 [AV.ro 1 ((↑(linN x) : Int).toNat - 0) fun i =>
 [AV.int IntKind.u8 (↑(x.snd.snd.getD (0 + i) 0) : Int)]]
 else [AV.nils]) =
 [AV.ro 1 (x_4.m i) fun j => [AV.int IntKind.u8 (↑(x_4.f i j) : Int)]]) ∧
 True) ∧
 true = true ∧ True) ∧
 Bytess (famL x_4) ∧
 ∀ (y : Unit),
 True →
 ∀ (n_1 : Int),
 n_1 = bits BinOp.xor IntKind.u32 n (↑(sumN (famL x_4)) : Int) →
 Exx Fam fun x_5 =>
 ((((1 : Nat) = (1 : Nat) ∧
 1 = x_5.n ∧
 1 ≤ [AV.sl 1 [] 0 1 0 (linN x) (linN x)].length ∧
 (0 + linN x ≤ linN x ∧
 linN x = x_5.m 0 ∧
 ∀ (j : Nat),
 j < x_5.m 0 →
 [AV.int IntKind.u8
 (↑(if 0 + j < t then linX x (0 + j) else 0) :
 Int)] =
 [AV.int IntKind.u8 (↑(x_5.f 0 j) : Int)]) ∧
 True) ∧
 True) ∧
 true = true ∧ True) ∧
 Bytess (famL x_5) ∧
 ∀ (y : Unit),
 True →
 ∀ (n : Int),
 n = bits BinOp.xor IntKind.u32 n_1 (↑(sumN (famL x_5)) : Int) →
 Exx Unit fun y =>
 ((decide (n = 0) = true ∧ True) ∧ true = true ∧ True) ∧
 True) ∧
 Exx Fam fun x_3 =>
 ((((0 : Nat) + (1 : Nat) ≤ (1 : Nat) ∧
 1 = x_3.n ∧
 ∀ (i : Nat),
 i < x_3.n →
 (if 0 + i = 0 * 1 / 1 then
 [AV.ro 1 ((↑(linN x) : Int).toNat - 0) fun i =>
 [AV.int IntKind.u8 (↑(x.snd.fst.getD (0 + i) 0) : Int)]]
 else [AV.nils]) =
 [AV.ro 1 (x_3.m i) fun j => [AV.int IntKind.u8 (↑(x_3.f i j) : Int)]]) ∧
 True) ∧
 true = true ∧ True) ∧
 Bytess (famL x_3) ∧
 ∀ (y : Unit),
 True →
 ∀ (n : Int),
 n = bits BinOp.xor IntKind.u32 (↑(sumN (famL x_2)) : Int) (↑(sumN (famL x_3)) : Int) →
 Exx Fam fun x_4 =>
 ((((0 : Nat) + (1 : Nat) ≤ (1 : Nat) ∧
 1 = x_4.n ∧
 ∀ (i : Nat),
 i < x_4.n →
 (if 0 + i = 0 * 1 / 1 then
 [AV.ro 1 ((↑(linN x) : Int).toNat - 0) fun i =>
 [AV.int IntKind.u8 (↑(x.snd.snd.getD (0 + i) 0) : Int)]]
 else [AV.nils]) =
 [AV.ro 1 (x_4.m i) fun j => [AV.int IntKind.u8 (↑(x_4.f i j) : Int)]]) ∧
 True) ∧
 true = true ∧ True) ∧
 Bytess (famL x_4) ∧
 ∀ (y : Unit),
 True →
 ∀ (n_1 : Int),
 n_1 = bits BinOp.xor IntKind.u32 n (↑(sumN (famL x_4)) : Int) →
 Exx Fam fun x_5 =>
 ((((1 : Nat) = (1 : Nat) ∧
 1 = x_5.n ∧
 1 ≤ [AV.sl 1 [] 0 1 0 (linN x) (linN x)].length ∧
 (0 + linN x ≤ linN x ∧
 linN x = x_5.m 0 ∧
 ∀ (j : Nat),
 j < x_5.m 0 →
 [AV.int IntKind.u8
 (↑(if 0 + j < t then linX x (0 + j) else 0) :
 Int)] =
 [AV.int IntKind.u8 (↑(x_5.f 0 j) : Int)]) ∧
 True) ∧
 True) ∧
 true = true ∧ True) ∧
 Bytess (famL x_5) ∧
 ∀ (y : Unit),
 True →
 ∀ (n : Int),
 n = bits BinOp.xor IntKind.u32 n_1 (↑(sumN (famL x_5)) : Int) →
 Exx Unit fun y =>
 ((decide (n = 0) = true ∧ True) ∧ true = true ∧ True) ∧ True) ∧
 Exx Fam fun x_2 =>
 ((((0 : Nat) + (1 : Nat) ≤ (1 : Nat) ∧
 1 = x_2.n ∧
 ∀ (i : Nat),
 i < x_2.n →
 (if 0 + i = 0 * 1 / 1 then
 [AV.ro 1 ((↑(linN x) : Int).toNat - 0) fun i => [AV.int IntKind.u8 (↑(x.fst.getD (0 + i) 0) : Int)]]
 else [AV.nils]) =
 [AV.ro 1 (x_2.m i) fun j => [AV.int IntKind.u8 (↑(x_2.f i j) : Int)]]) ∧
 True) ∧
 true = true ∧ True) ∧
 Bytess (famL x_2) ∧
 ∀ (y : Unit),
 True →
 Exx Fam fun x_3 =>
 ((((0 : Nat) + (1 : Nat) ≤ (1 : Nat) ∧
 1 = x_3.n ∧
 ∀ (i : Nat),
 i < x_3.n →
 (if 0 + i = 0 * 1 / 1 then
 [AV.ro 1 ((↑(linN x) : Int).toNat - 0) fun i =>
 [AV.int IntKind.u8 (↑(x.snd.fst.getD (0 + i) 0) : Int)]]
 else [AV.nils]) =
 [AV.ro 1 (x_3.m i) fun j => [AV.int IntKind.u8 (↑(x_3.f i j) : Int)]]) ∧
 True) ∧
 true = true ∧ True) ∧
 Bytess (famL x_3) ∧
 ∀ (y : Unit),
 True →
 ∀ (n : Int),
 n = bits BinOp.xor IntKind.u32 (↑(sumN (famL x_2)) : Int) (↑(sumN (famL x_3)) : Int) →
 Exx Fam fun x_4 =>
 ((((0 : Nat) + (1 : Nat) ≤ (1 : Nat) ∧
 1 = x_4.n ∧
 ∀ (i : Nat),
 i < x_4.n →
 (if 0 + i = 0 * 1 / 1 then
 [AV.ro 1 ((↑(linN x) : Int).toNat - 0) fun i =>
 [AV.int IntKind.u8 (↑(x.snd.snd.getD (0 + i) 0) : Int)]]
 else [AV.nils]) =
 [AV.ro 1 (x_4.m i) fun j => [AV.int IntKind.u8 (↑(x_4.f i j) : Int)]]) ∧
 True) ∧
 true = true ∧ True) ∧
 Bytess (famL x_4) ∧
 ∀ (y : Unit),
 True →
 ∀ (n_1 : Int),
 n_1 = bits BinOp.xor IntKind.u32 n (↑(sumN (famL x_4)) : Int) →
 Exx Fam fun x_5 =>
 ((((1 : Nat) = (1 : Nat) ∧
 1 = x_5.n ∧
 1 ≤ [AV.sl 1 [] 0 1 0 (linN x) (linN x)].length ∧
 (0 + linN x ≤ linN x ∧
 linN x = x_5.m 0 ∧
 ∀ (j : Nat),
 j < x_5.m 0 →
 [AV.int IntKind.u8
 (↑(if 0 + j < t then linX x (0 + j) else 0) :
 Int)] =
 [AV.int IntKind.u8 (↑(x_5.f 0 j) : Int)]) ∧
 True) ∧
 True) ∧
 true = true ∧ True) ∧
 Bytess (famL x_5) ∧
 ∀ (y : Unit),
 True →
 ∀ (n : Int),
 n = bits BinOp.xor IntKind.u32 n_1 (↑(sumN (famL x_5)) : Int) →
 Exx Unit fun y =>
 ((decide (n = 0) = true ∧ True) ∧ true = true ∧ True) ∧ True) ∧
 (Exx Fam fun x_2 =>
 ((((0 : Nat) + (1 : Nat) ≤ (1 : Nat) ∧
 1 = x_2.n ∧
 ∀ (i : Nat),
 i < x_2.n →
 (if 0 + i = 0 * 1 / 1 then
 [AV.ro 1 ((↑(linN x) : Int).toNat - 0) fun i => [AV.int IntKind.u8 (↑(x.fst.getD (0 + i) 0) : Int)]]
 else [AV.nils]) =
 [AV.ro 1 (x_2.m i) fun j => [AV.int IntKind.u8 (↑(x_2.f i j) : Int)]]) ∧
 True) ∧
 true = true ∧ True) ∧
 Bytess (famL x_2) ∧
 ∀ (y : Unit),
 True →
 Exx Fam fun x_3 =>
 ((((0 : Nat) + (1 : Nat) ≤ (1 : Nat) ∧
 1 = x_3.n ∧
 ∀ (i : Nat),
 i < x_3.n →
 (if 0 + i = 0 * 1 / 1 then
 [AV.ro 1 ((↑(linN x) : Int).toNat - 0) fun i =>
 [AV.int IntKind.u8 (↑(x.snd.fst.getD (0 + i) 0) : Int)]]
 else [AV.nils]) =
 [AV.ro 1 (x_3.m i) fun j => [AV.int IntKind.u8 (↑(x_3.f i j) : Int)]]) ∧
 True) ∧
 true = true ∧ True) ∧
 Bytess (famL x_3) ∧
 ∀ (y : Unit),
 True →
 ∀ (n : Int),
 n = bits BinOp.xor IntKind.u32 (↑(sumN (famL x_2)) : Int) (↑(sumN (famL x_3)) : Int) →
 Exx Fam fun x_4 =>
 ((((0 : Nat) + (1 : Nat) ≤ (1 : Nat) ∧
 1 = x_4.n ∧
 ∀ (i : Nat),
 i < x_4.n →
 (if 0 + i = 0 * 1 / 1 then
 [AV.ro 1 ((↑(linN x) : Int).toNat - 0) fun i =>
 [AV.int IntKind.u8 (↑(x.snd.snd.getD (0 + i) 0) : Int)]]
 else [AV.nils]) =
 [AV.ro 1 (x_4.m i) fun j => [AV.int IntKind.u8 (↑(x_4.f i j) : Int)]]) ∧
 True) ∧
 true = true ∧ True) ∧
 Bytess (famL x_4) ∧
 ∀ (y : Unit),
 True →
 ∀ (n_1 : Int),
 n_1 = bits BinOp.xor IntKind.u32 n (↑(sumN (famL x_4)) : Int) →
 Exx Fam fun x_5 =>
 ((((1 : Nat) = (1 : Nat) ∧
 1 = x_5.n ∧
 1 ≤ [AV.sl 1 [] 0 1 0 (linN x) (linN x)].length ∧
 (0 + linN x ≤ linN x ∧
 linN x = x_5.m 0 ∧
 ∀ (j : Nat),
 j < x_5.m 0 →
 [AV.int IntKind.u8
 (↑(if 0 + j < t then linX x (0 + j) else 0) :
 Int)] =
 [AV.int IntKind.u8 (↑(x_5.f 0 j) : Int)]) ∧
 True) ∧
 True) ∧
 true = true ∧ True) ∧
 Bytess (famL x_5) ∧
 ∀ (y : Unit),
 True →
 ∀ (n : Int),
 n = bits BinOp.xor IntKind.u32 n_1 (↑(sumN (famL x_5)) : Int) →
 Exx Unit fun y =>
 ((decide (n = 0) = true ∧ True) ∧ true = true ∧ True) ∧ True) ∧
 Exx Fam fun x_2 =>
 ((((0 : Nat) + (1 : Nat) ≤ (1 : Nat) ∧
 1 = x_2.n ∧
 ∀ (i : Nat),
 i < x_2.n →
 (if 0 + i = 0 * 1 / 1 then
 [AV.ro 1 ((↑(linN x) : Int).toNat - 0) fun i => [AV.int IntKind.u8 (↑(x.fst.getD (0 + i) 0) : Int)]]
 else [AV.nils]) =
 [AV.ro 1 (x_2.m i) fun j => [AV.int IntKind.u8 (↑(x_2.f i j) : Int)]]) ∧
 True) ∧
 true = true ∧ True) ∧
 Bytess (famL x_2) ∧
 ∀ (y : Unit),
 True →
 Exx Fam fun x_3 =>
 ((((0 : Nat) + (1 : Nat) ≤ (1 : Nat) ∧
 1 = x_3.n ∧
 ∀ (i : Nat),
 i < x_3.n →
 (if 0 + i = 0 * 1 / 1 then
 [AV.ro 1 ((↑(linN x) : Int).toNat - 0) fun i =>
 [AV.int IntKind.u8 (↑(x.snd.fst.getD (0 + i) 0) : Int)]]
 else [AV.nils]) =
 [AV.ro 1 (x_3.m i) fun j => [AV.int IntKind.u8 (↑(x_3.f i j) : Int)]]) ∧
 True) ∧
 true = true ∧ True) ∧
 Bytess (famL x_3) ∧
 ∀ (y : Unit),
 True →
 ∀ (n : Int),
 n = bits BinOp.xor IntKind.u32 (↑(sumN (famL x_2)) : Int) (↑(sumN (famL x_3)) : Int) →
 Exx Fam fun x_4 =>
 ((((0 : Nat) + (1 : Nat) ≤ (1 : Nat) ∧
 1 = x_4.n ∧
 ∀ (i : Nat),
 i < x_4.n →
 (if 0 + i = 0 * 1 / 1 then
 [AV.ro 1 ((↑(linN x) : Int).toNat - 0) fun i =>
 [AV.int IntKind.u8 (↑(x.snd.snd.getD (0 + i) 0) : Int)]]
 else [AV.nils]) =
 [AV.ro 1 (x_4.m i) fun j => [AV.int IntKind.u8 (↑(x_4.f i j) : Int)]]) ∧
 True) ∧
 true = true ∧ True) ∧
 Bytess (famL x_4) ∧
 ∀ (y : Unit),
 True →
 ∀ (n_1 : Int),
 n_1 = bits BinOp.xor IntKind.u32 n (↑(sumN (famL x_4)) : Int) →
 Exx Fam fun x_5 =>
 ((((1 : Nat) = (1 : Nat) ∧
 1 = x_5.n ∧
 1 ≤ [AV.sl 1 [] 0 1 0 (linN x) (linN x)].length ∧
 (0 + linN x ≤ linN x ∧
 linN x = x_5.m 0 ∧
 ∀ (j : Nat),
 j < x_5.m 0 →
 [AV.int IntKind.u8
 (↑(if 0 + j < t then linX x (0 + j) else 0) :
 Int)] =
 [AV.int IntKind.u8 (↑(x_5.f 0 j) : Int)]) ∧
 True) ∧
 True) ∧
 true = true ∧ True) ∧
 Bytess (famL x_5) ∧
 ∀ (y : Unit),
 True →
 ∀ (n : Int),
 n = bits BinOp.xor IntKind.u32 n_1 (↑(sumN (famL x_5)) : Int) →
 Exx Unit fun y =>
 ((decide (n = 0) = true ∧ True) ∧ true = true ∧ True) ∧ True) ∧
 (((Exx Fam fun x_2 =>
 ((((0 : Nat) + (1 : Nat) ≤ (1 : Nat) ∧
 1 = x_2.n ∧
 ∀ (i : Nat),
 i < x_2.n →
 (if 0 + i = 0 * 1 / 1 then
 [AV.ro 1 ((↑(linN x) : Int).toNat - 0) fun i => [AV.int IntKind.u8 (↑(x.fst.getD (0 + i) 0) : Int)]]
 else [AV.nils]) =
 [AV.ro 1 (x_2.m i) fun j => [AV.int IntKind.u8 (↑(x_2.f i j) : Int)]]) ∧
 True) ∧
 true = true ∧ True) ∧
 Bytess (famL x_2) ∧
 ∀ (y : Unit),
 True →
 (Exx Fam fun x_3 =>
 ((((0 : Nat) + (1 : Nat) ≤ (1 : Nat) ∧
 1 = x_3.n ∧
 ∀ (i : Nat),
 i < x_3.n →
 (if 0 + i = 0 * 1 / 1 then
 [AV.ro 1 ((↑(linN x) : Int).toNat - 0) fun i =>
 [AV.int IntKind.u8 (↑(x.snd.fst.getD (0 + i) 0) : Int)]]
 else [AV.nils]) =
 [AV.ro 1 (x_3.m i) fun j => [AV.int IntKind.u8 (↑(x_3.f i j) : Int)]]) ∧
 True) ∧
 true = true ∧ True) ∧
 Bytess (famL x_3) ∧
 ∀ (y : Unit),
 True →
 ∀ (n : Int),
 n = bits BinOp.xor IntKind.u32 (↑(sumN (famL x_2)) : Int) (↑(sumN (famL x_3)) : Int) →
 (Exx Fam fun x_4 =>
 ((((0 : Nat) + (1 : Nat) ≤ (1 : Nat) ∧
 1 = x_4.n ∧
 ∀ (i : Nat),
 i < x_4.n →
 (if 0 + i = 0 * 1 / 1 then
 [AV.ro 1 ((↑(linN x) : Int).toNat - 0) fun i =>
 [AV.int IntKind.u8 (↑(x.snd.snd.getD (0 + i) 0) : Int)]]
 else [AV.nils]) =
 [AV.ro 1 (x_4.m i) fun j => [AV.int IntKind.u8 (↑(x_4.f i j) : Int)]]) ∧
 True) ∧
 true = true ∧ True) ∧
 Bytess (famL x_4) ∧
 ∀ (y : Unit),
 True →
 ∀ (n_1 : Int),
 n_1 = bits BinOp.xor IntKind.u32 n (↑(sumN (famL x_4)) : Int) →
 Exx Fam fun x_5 =>
 ((((1 : Nat) = (1 : Nat) ∧
 1 = x_5.n ∧
 1 ≤ [AV.sl 1 [] 0 1 0 (linN x) (linN x)].length ∧
 (0 + linN x ≤ linN x ∧
 linN x = x_5.m 0 ∧
 ∀ (j : Nat),
 j < x_5.m 0 →
 [AV.int IntKind.u8
 (↑(if 0 + j < t then linX x (0 + j) else 0) :
 Int)] =
 [AV.int IntKind.u8 (↑(x_5.f 0 j) : Int)]) ∧
 True) ∧
 True) ∧
 true = true ∧ True) ∧
 Bytess (famL x_5) ∧
 ∀ (y : Unit),
 True →
 ∀ (n : Int),
 n = bits BinOp.xor IntKind.u32 n_1 (↑(sumN (famL x_5)) : Int) →
 Exx Unit fun y =>
 ((decide (n = 0) = true ∧ True) ∧ true = true ∧ True) ∧
 True) ∧
 Exx Fam fun x_4 =>
 ((((0 : Nat) + (1 : Nat) ≤ (1 : Nat) ∧
 1 = x_4.n ∧
 ∀ (i : Nat),
 i < x_4.n →
 (if 0 + i = 0 * 1 / 1 then
 [AV.ro 1 ((↑(linN x) : Int).toNat - 0) fun i =>
 [AV.int IntKind.u8 (↑(x.snd.snd.getD (0 + i) 0) : Int)]]
 else [AV.nils]) =
 [AV.ro 1 (x_4.m i) fun j => [AV.int IntKind.u8 (↑(x_4.f i j) : Int)]]) ∧
 True) ∧
 true = true ∧ True) ∧
 Bytess (famL x_4) ∧
 ∀ (y : Unit),
 True →
 ∀ (n_1 : Int),
 n_1 = bits BinOp.xor IntKind.u32 n (↑(sumN (famL x_4)) : Int) →
 Exx Fam fun x_5 =>
 ((((1 : Nat) = (1 : Nat) ∧
 1 = x_5.n ∧
 1 ≤ [AV.sl 1 [] 0 1 0 (linN x) (linN x)].length ∧
 (0 + linN x ≤ linN x ∧
 linN x = x_5.m 0 ∧
 ∀ (j : Nat),
 j < x_5.m 0 →
 [AV.int IntKind.u8
 (↑(if 0 + j < t then linX x (0 + j) else 0) :
 Int)] =
 [AV.int IntKind.u8 (↑(x_5.f 0 j) : Int)]) ∧
 True) ∧
 True) ∧
 true = true ∧ True) ∧
 Bytess (famL x_5) ∧
 ∀ (y : Unit),
 True →
 ∀ (n : Int),
 n = bits BinOp.xor IntKind.u32 n_1 (↑(sumN (famL x_5)) : Int) →
 Exx Unit fun y =>
 ((decide (n = 0) = true ∧ True) ∧ true = true ∧ True) ∧
 True) ∧
 Exx Fam fun x_3 =>
 ((((0 : Nat) + (1 : Nat) ≤ (1 : Nat) ∧
 1 = x_3.n ∧
 ∀ (i : Nat),
 i < x_3.n →
 (if 0 + i = 0 * 1 / 1 then
 [AV.ro 1 ((↑(linN x) : Int).toNat - 0) fun i =>
 [AV.int IntKind.u8 (↑(x.snd.fst.getD (0 + i) 0) : Int)]]
 else [AV.nils]) =
 [AV.ro 1 (x_3.m i) fun j => [AV.int IntKind.u8 (↑(x_3.f i j) : Int)]]) ∧
 True) ∧
 true = true ∧ True) ∧
 Bytess (famL x_3) ∧
 ∀ (y : Unit),
 True →
 ∀ (n : Int),
 n = bits BinOp.xor IntKind.u32 (↑(sumN (famL x_2)) : Int) (↑(sumN (famL x_3)) : Int) →
 Exx Fam fun x_4 =>
 ((((0 : Nat) + (1 : Nat) ≤ (1 : Nat) ∧
 1 = x_4.n ∧
 ∀ (i : Nat),
 i < x_4.n →
 (if 0 + i = 0 * 1 / 1 then
 [AV.ro 1 ((↑(linN x) : Int).toNat - 0) fun i =>
 [AV.int IntKind.u8 (↑(x.snd.snd.getD (0 + i) 0) : Int)]]
 else [AV.nils]) =
 [AV.ro 1 (x_4.m i) fun j => [AV.int IntKind.u8 (↑(x_4.f i j) : Int)]]) ∧
 True) ∧
 true = true ∧ True) ∧
 Bytess (famL x_4) ∧
 ∀ (y : Unit),
 True →
 ∀ (n_1 : Int),
 n_1 = bits BinOp.xor IntKind.u32 n (↑(sumN (famL x_4)) : Int) →
 Exx Fam fun x_5 =>
 ((((1 : Nat) = (1 : Nat) ∧
 1 = x_5.n ∧
 1 ≤ [AV.sl 1 [] 0 1 0 (linN x) (linN x)].length ∧
 (0 + linN x ≤ linN x ∧
 linN x = x_5.m 0 ∧
 ∀ (j : Nat),
 j < x_5.m 0 →
 [AV.int IntKind.u8
 (↑(if 0 + j < t then linX x (0 + j) else 0) :
 Int)] =
 [AV.int IntKind.u8 (↑(x_5.f 0 j) : Int)]) ∧
 True) ∧
 True) ∧
 true = true ∧ True) ∧
 Bytess (famL x_5) ∧
 ∀ (y : Unit),
 True →
 ∀ (n : Int),
 n = bits BinOp.xor IntKind.u32 n_1 (↑(sumN (famL x_5)) : Int) →
 Exx Unit fun y =>
 ((decide (n = 0) = true ∧ True) ∧ true = true ∧ True) ∧ True) ∧
 Exx Fam fun x_2 =>
 ((((0 : Nat) + (1 : Nat) ≤ (1 : Nat) ∧
 1 = x_2.n ∧
 ∀ (i : Nat),
 i < x_2.n →
 (if 0 + i = 0 * 1 / 1 then
 [AV.ro 1 ((↑(linN x) : Int).toNat - 0) fun i => [AV.int IntKind.u8 (↑(x.fst.getD (0 + i) 0) : Int)]]
 else [AV.nils]) =
 [AV.ro 1 (x_2.m i) fun j => [AV.int IntKind.u8 (↑(x_2.f i j) : Int)]]) ∧
 True) ∧
 true = true ∧ True) ∧
 Bytess (famL x_2) ∧
 ∀ (y : Unit),
 True →
 Exx Fam fun x_3 =>
 ((((0 : Nat) + (1 : Nat) ≤ (1 : Nat) ∧
 1 = x_3.n ∧
 ∀ (i : Nat),
 i < x_3.n →
 (if 0 + i = 0 * 1 / 1 then
 [AV.ro 1 ((↑(linN x) : Int).toNat - 0) fun i =>
 [AV.int IntKind.u8 (↑(x.snd.fst.getD (0 + i) 0) : Int)]]
 else [AV.nils]) =
 [AV.ro 1 (x_3.m i) fun j => [AV.int IntKind.u8 (↑(x_3.f i j) : Int)]]) ∧
 True) ∧
 true = true ∧ True) ∧
 Bytess (famL x_3) ∧
 ∀ (y : Unit),
 True →
 ∀ (n : Int),
 n = bits BinOp.xor IntKind.u32 (↑(sumN (famL x_2)) : Int) (↑(sumN (famL x_3)) : Int) →
 Exx Fam fun x_4 =>
 ((((0 : Nat) + (1 : Nat) ≤ (1 : Nat) ∧
 1 = x_4.n ∧
 ∀ (i : Nat),
 i < x_4.n →
 (if 0 + i = 0 * 1 / 1 then
 [AV.ro 1 ((↑(linN x) : Int).toNat - 0) fun i =>
 [AV.int IntKind.u8 (↑(x.snd.snd.getD (0 + i) 0) : Int)]]
 else [AV.nils]) =
 [AV.ro 1 (x_4.m i) fun j => [AV.int IntKind.u8 (↑(x_4.f i j) : Int)]]) ∧
 True) ∧
 true = true ∧ True) ∧
 Bytess (famL x_4) ∧
 ∀ (y : Unit),
 True →
 ∀ (n_1 : Int),
 n_1 = bits BinOp.xor IntKind.u32 n (↑(sumN (famL x_4)) : Int) →
 Exx Fam fun x_5 =>
 ((((1 : Nat) = (1 : Nat) ∧
 1 = x_5.n ∧
 1 ≤ [AV.sl 1 [] 0 1 0 (linN x) (linN x)].length ∧
 (0 + linN x ≤ linN x ∧
 linN x = x_5.m 0 ∧
 ∀ (j : Nat),
 j < x_5.m 0 →
 [AV.int IntKind.u8
 (↑(if 0 + j < t then linX x (0 + j) else 0) :
 Int)] =
 [AV.int IntKind.u8 (↑(x_5.f 0 j) : Int)]) ∧
 True) ∧
 True) ∧
 true = true ∧ True) ∧
 Bytess (famL x_5) ∧
 ∀ (y : Unit),
 True →
 ∀ (n : Int),
 n = bits BinOp.xor IntKind.u32 n_1 (↑(sumN (famL x_5)) : Int) →
 Exx Unit fun y =>
 ((decide (n = 0) = true ∧ True) ∧ true = true ∧ True) ∧ True) ∧
 Exx Fam fun x_2 =>
 ((((0 : Nat) + (1 : Nat) ≤ (1 : Nat) ∧
 1 = x_2.n ∧
 ∀ (i : Nat),
 i < x_2.n →
 (if 0 + i = 0 * 1 / 1 then
 [AV.ro 1 ((↑(linN x) : Int).toNat - 0) fun i => [AV.int IntKind.u8 (↑(x.fst.getD (0 + i) 0) : Int)]]
 else [AV.nils]) =
 [AV.ro 1 (x_2.m i) fun j => [AV.int IntKind.u8 (↑(x_2.f i j) : Int)]]) ∧
 True) ∧
 true = true ∧ True) ∧
 Bytess (famL x_2) ∧
 ∀ (y : Unit),
 True →
 Exx Fam fun x_3 =>
 ((((0 : Nat) + (1 : Nat) ≤ (1 : Nat) ∧
 1 = x_3.n ∧
 ∀ (i : Nat),
 i < x_3.n →
 (if 0 + i = 0 * 1 / 1 then
 [AV.ro 1 ((↑(linN x) : Int).toNat - 0) fun i =>
 [AV.int IntKind.u8 (↑(x.snd.fst.getD (0 + i) 0) : Int)]]
 else [AV.nils]) =
 [AV.ro 1 (x_3.m i) fun j => [AV.int IntKind.u8 (↑(x_3.f i j) : Int)]]) ∧
 True) ∧
 true = true ∧ True) ∧
 Bytess (famL x_3) ∧
 ∀ (y : Unit),
 True →
 ∀ (n : Int),
 n = bits BinOp.xor IntKind.u32 (↑(sumN (famL x_2)) : Int) (↑(sumN (famL x_3)) : Int) →
 Exx Fam fun x_4 =>
 ((((0 : Nat) + (1 : Nat) ≤ (1 : Nat) ∧
 1 = x_4.n ∧
 ∀ (i : Nat),
 i < x_4.n →
 (if 0 + i = 0 * 1 / 1 then
 [AV.ro 1 ((↑(linN x) : Int).toNat - 0) fun i =>
 [AV.int IntKind.u8 (↑(x.snd.snd.getD (0 + i) 0) : Int)]]
 else [AV.nils]) =
 [AV.ro 1 (x_4.m i) fun j => [AV.int IntKind.u8 (↑(x_4.f i j) : Int)]]) ∧
 True) ∧
 true = true ∧ True) ∧
 Bytess (famL x_4) ∧
 ∀ (y : Unit),
 True →
 ∀ (n_1 : Int),
 n_1 = bits BinOp.xor IntKind.u32 n (↑(sumN (famL x_4)) : Int) →
 Exx Fam fun x_5 =>
 ((((1 : Nat) = (1 : Nat) ∧
 1 = x_5.n ∧
 1 ≤ [AV.sl 1 [] 0 1 0 (linN x) (linN x)].length ∧
 (0 + linN x ≤ linN x ∧
 linN x = x_5.m 0 ∧
 ∀ (j : Nat),
 j < x_5.m 0 →
 [AV.int IntKind.u8
 (↑(if 0 + j < t then linX x (0 + j) else 0) : Int)] =
 [AV.int IntKind.u8 (↑(x_5.f 0 j) : Int)]) ∧
 True) ∧
 True) ∧
 true = true ∧ True) ∧
 Bytess (famL x_5) ∧
 ∀ (y : Unit),
 True →
 ∀ (n : Int),
 n = bits BinOp.xor IntKind.u32 n_1 (↑(sumN (famL x_5)) : Int) →
 Exx Unit fun y =>
 ((decide (n = 0) = true ∧ True) ∧ true = true ∧ True) ∧ True) ∧
 ((Exx Fam fun x_2 =>
 ((((0 : Nat) + (1 : Nat) ≤ (1 : Nat) ∧
 1 = x_2.n ∧
 ∀ (i : Nat),
 i < x_2.n →
 (if 0 + i = 0 * 1 / 1 then
 [AV.ro 1 ((↑(linN x) : Int).toNat - 0) fun i => [AV.int IntKind.u8 (↑(x.fst.getD (0 + i) 0) : Int)]]
 else [AV.nils]) =
 [AV.ro 1 (x_2.m i) fun j => [AV.int IntKind.u8 (↑(x_2.f i j) : Int)]]) ∧
 True) ∧
 true = true ∧ True) ∧
 Bytess (famL x_2) ∧
 ∀ (y : Unit),
 True →
 Exx Fam fun x_3 =>
 ((((0 : Nat) + (1 : Nat) ≤ (1 : Nat) ∧
 1 = x_3.n ∧
 ∀ (i : Nat),
 i < x_3.n →
 (if 0 + i = 0 * 1 / 1 then
 [AV.ro 1 ((↑(linN x) : Int).toNat - 0) fun i =>
 [AV.int IntKind.u8 (↑(x.snd.fst.getD (0 + i) 0) : Int)]]
 else [AV.nils]) =
 [AV.ro 1 (x_3.m i) fun j => [AV.int IntKind.u8 (↑(x_3.f i j) : Int)]]) ∧
 True) ∧
 true = true ∧ True) ∧
 Bytess (famL x_3) ∧
 ∀ (y : Unit),
 True →
 ∀ (n : Int),
 n = bits BinOp.xor IntKind.u32 (↑(sumN (famL x_2)) : Int) (↑(sumN (famL x_3)) : Int) →
 Exx Fam fun x_4 =>
 ((((0 : Nat) + (1 : Nat) ≤ (1 : Nat) ∧
 1 = x_4.n ∧
 ∀ (i : Nat),
 i < x_4.n →
 (if 0 + i = 0 * 1 / 1 then
 [AV.ro 1 ((↑(linN x) : Int).toNat - 0) fun i =>
 [AV.int IntKind.u8 (↑(x.snd.snd.getD (0 + i) 0) : Int)]]
 else [AV.nils]) =
 [AV.ro 1 (x_4.m i) fun j => [AV.int IntKind.u8 (↑(x_4.f i j) : Int)]]) ∧
 True) ∧
 true = true ∧ True) ∧
 Bytess (famL x_4) ∧
 ∀ (y : Unit),
 True →
 ∀ (n_1 : Int),
 n_1 = bits BinOp.xor IntKind.u32 n (↑(sumN (famL x_4)) : Int) →
 Exx Fam fun x_5 =>
 ((((1 : Nat) = (1 : Nat) ∧
 1 = x_5.n ∧
 1 ≤ [AV.sl 1 [] 0 1 0 (linN x) (linN x)].length ∧
 (0 + linN x ≤ linN x ∧
 linN x = x_5.m 0 ∧
 ∀ (j : Nat),
 j < x_5.m 0 →
 [AV.int IntKind.u8
 (↑(if 0 + j < t then linX x (0 + j) else 0) :
 Int)] =
 [AV.int IntKind.u8 (↑(x_5.f 0 j) : Int)]) ∧
 True) ∧
 True) ∧
 true = true ∧ True) ∧
 Bytess (famL x_5) ∧
 ∀ (y : Unit),
 True →
 ∀ (n : Int),
 n = bits BinOp.xor IntKind.u32 n_1 (↑(sumN (famL x_5)) : Int) →
 Exx Unit fun y =>
 ((decide (n = 0) = true ∧ True) ∧ true = true ∧ True) ∧ True) ∧
 Exx Fam fun x_2 =>
 ((((0 : Nat) + (1 : Nat) ≤ (1 : Nat) ∧
 1 = x_2.n ∧
 ∀ (i : Nat),
 i < x_2.n →
 (if 0 + i = 0 * 1 / 1 then
 [AV.ro 1 ((↑(linN x) : Int).toNat - 0) fun i => [AV.int IntKind.u8 (↑(x.fst.getD (0 + i) 0) : Int)]]
 else [AV.nils]) =
 [AV.ro 1 (x_2.m i) fun j => [AV.int IntKind.u8 (↑(x_2.f i j) : Int)]]) ∧
 True) ∧
 true = true ∧ True) ∧
 Bytess (famL x_2) ∧
 ∀ (y : Unit),
 True →
 Exx Fam fun x_3 =>
 ((((0 : Nat) + (1 : Nat) ≤ (1 : Nat) ∧
 1 = x_3.n ∧
 ∀ (i : Nat),
 i < x_3.n →
 (if 0 + i = 0 * 1 / 1 then
 [AV.ro 1 ((↑(linN x) : Int).toNat - 0) fun i =>
 [AV.int IntKind.u8 (↑(x.snd.fst.getD (0 + i) 0) : Int)]]
 else [AV.nils]) =
 [AV.ro 1 (x_3.m i) fun j => [AV.int IntKind.u8 (↑(x_3.f i j) : Int)]]) ∧
 True) ∧
 true = true ∧ True) ∧
 Bytess (famL x_3) ∧
 ∀ (y : Unit),
 True →
 ∀ (n : Int),
 n = bits BinOp.xor IntKind.u32 (↑(sumN (famL x_2)) : Int) (↑(sumN (famL x_3)) : Int) →
 Exx Fam fun x_4 =>
 ((((0 : Nat) + (1 : Nat) ≤ (1 : Nat) ∧
 1 = x_4.n ∧
 ∀ (i : Nat),
 i < x_4.n →
 (if 0 + i = 0 * 1 / 1 then
 [AV.ro 1 ((↑(linN x) : Int).toNat - 0) fun i =>
 [AV.int IntKind.u8 (↑(x.snd.snd.getD (0 + i) 0) : Int)]]
 else [AV.nils]) =
 [AV.ro 1 (x_4.m i) fun j => [AV.int IntKind.u8 (↑(x_4.f i j) : Int)]]) ∧
 True) ∧
 true = true ∧ True) ∧
 Bytess (famL x_4) ∧
 ∀ (y : Unit),
 True →
 ∀ (n_1 : Int),
 n_1 = bits BinOp.xor IntKind.u32 n (↑(sumN (famL x_4)) : Int) →
 Exx Fam fun x_5 =>
 ((((1 : Nat) = (1 : Nat) ∧
 1 = x_5.n ∧
 1 ≤ [AV.sl 1 [] 0 1 0 (linN x) (linN x)].length ∧
 (0 + linN x ≤ linN x ∧
 linN x = x_5.m 0 ∧
 ∀ (j : Nat),
 j < x_5.m 0 →
 [AV.int IntKind.u8
 (↑(if 0 + j < t then linX x (0 + j) else 0) :
 Int)] =
 [AV.int IntKind.u8 (↑(x_5.f 0 j) : Int)]) ∧
 True) ∧
 True) ∧
 true = true ∧ True) ∧
 Bytess (famL x_5) ∧
 ∀ (y : Unit),
 True →
 ∀ (n : Int),
 n = bits BinOp.xor IntKind.u32 n_1 (↑(sumN (famL x_5)) : Int) →
 Exx Unit fun y =>
 ((decide (n = 0) = true ∧ True) ∧ true = true ∧ True) ∧ True) ∧
 Exx Fam fun x_2 =>
 ((((0 : Nat) + (1 : Nat) ≤ (1 : Nat) ∧
 1 = x_2.n ∧
 ∀ (i : Nat),
 i < x_2.n →
 (if 0 + i = 0 * 1 / 1 then
 [AV.ro 1 ((↑(linN x) : Int).toNat - 0) fun i => [AV.int IntKind.u8 (↑(x.fst.getD (0 + i) 0) : Int)]]
 else [AV.nils]) =
 [AV.ro 1 (x_2.m i) fun j => [AV.int IntKind.u8 (↑(x_2.f i j) : Int)]]) ∧
 True) ∧
 true = true ∧ True) ∧
 Bytess (famL x_2) ∧
 ∀ (y : Unit),
 True →
 Exx Fam fun x_3 =>
 ((((0 : Nat) + (1 : Nat) ≤ (1 : Nat) ∧
 1 = x_3.n ∧
 ∀ (i : Nat),
 i < x_3.n →
 (if 0 + i = 0 * 1 / 1 then
 [AV.ro 1 ((↑(linN x) : Int).toNat - 0) fun i =>
 [AV.int IntKind.u8 (↑(x.snd.fst.getD (0 + i) 0) : Int)]]
 else [AV.nils]) =
 [AV.ro 1 (x_3.m i) fun j => [AV.int IntKind.u8 (↑(x_3.f i j) : Int)]]) ∧
 True) ∧
 true = true ∧ True) ∧
 Bytess (famL x_3) ∧
 ∀ (y : Unit),
 True →
 ∀ (n : Int),
 n = bits BinOp.xor IntKind.u32 (↑(sumN (famL x_2)) : Int) (↑(sumN (famL x_3)) : Int) →
 Exx Fam fun x_4 =>
 ((((0 : Nat) + (1 : Nat) ≤ (1 : Nat) ∧
 1 = x_4.n ∧
 ∀ (i : Nat),
 i < x_4.n →
 (if 0 + i = 0 * 1 / 1 then
 [AV.ro 1 ((↑(linN x) : Int).toNat - 0) fun i =>
 [AV.int IntKind.u8 (↑(x.snd.snd.getD (0 + i) 0) : Int)]]
 else [AV.nils]) =
 [AV.ro 1 (x_4.m i) fun j => [AV.int IntKind.u8 (↑(x_4.f i j) : Int)]]) ∧
 True) ∧
 true = true ∧ True) ∧
 Bytess (famL x_4) ∧
 ∀ (y : Unit),
 True →
 ∀ (n_1 : Int),
 n_1 = bits BinOp.xor IntKind.u32 n (↑(sumN (famL x_4)) : Int) →
 Exx Fam fun x_5 =>
 ((((1 : Nat) = (1 : Nat) ∧
 1 = x_5.n ∧
 1 ≤ [AV.sl 1 [] 0 1 0 (linN x) (linN x)].length ∧
 (0 + linN x ≤ linN x ∧
 linN x = x_5.m 0 ∧
 ∀ (j : Nat),
 j < x_5.m 0 →
 [AV.int IntKind.u8
 (↑(if 0 + j < t then linX x (0 + j) else 0) : Int)] =
 [AV.int IntKind.u8 (↑(x_5.f 0 j) : Int)]) ∧
 True) ∧
 True) ∧
 true = true ∧ True) ∧
 Bytess (famL x_5) ∧
 ∀ (y : Unit),
 True →
 ∀ (n : Int),
 n = bits BinOp.xor IntKind.u32 n_1 (↑(sumN (famL x_5)) : Int) →
 Exx Unit fun y =>
 ((decide (n = 0) = true ∧ True) ∧ true = true ∧ True) ∧ True) ∧
 ((Exx Fam fun x_2 =>
 ((((0 : Nat) + (1 : Nat) ≤ (1 : Nat) ∧
 1 = x_2.n ∧
 ∀ (i : Nat),
 i < x_2.n →
 (if 0 + i = 0 * 1 / 1 then
 [AV.ro 1 ((↑(linN x) : Int).toNat - 0) fun i => [AV.int IntKind.u8 (↑(x.fst.getD (0 + i) 0) : Int)]]
 else [AV.nils]) =
 [AV.ro 1 (x_2.m i) fun j => [AV.int IntKind.u8 (↑(x_2.f i j) : Int)]]) ∧
 True) ∧
 true = true ∧ True) ∧
 Bytess (famL x_2) ∧
 ∀ (y : Unit),
 True →
 ((Exx Fam fun x_3 =>
 ((((0 : Nat) + (1 : Nat) ≤ (1 : Nat) ∧
 1 = x_3.n ∧
 ∀ (i : Nat),
 i < x_3.n →
 (if 0 + i = 0 * 1 / 1 then
 [AV.ro 1 ((↑(linN x) : Int).toNat - 0) fun i =>
 [AV.int IntKind.u8 (↑(x.snd.fst.getD (0 + i) 0) : Int)]]
 else [AV.nils]) =
 [AV.ro 1 (x_3.m i) fun j => [AV.int IntKind.u8 (↑(x_3.f i j) : Int)]]) ∧
 True) ∧
 true = true ∧ True) ∧
 Bytess (famL x_3) ∧
 ∀ (y : Unit),
 True →
 ∀ (n : Int),
 n = bits BinOp.xor IntKind.u32 (↑(sumN (famL x_2)) : Int) (↑(sumN (famL x_3)) : Int) →
 Exx Fam fun x_4 =>
 ((((0 : Nat) + (1 : Nat) ≤ (1 : Nat) ∧
 1 = x_4.n ∧
 ∀ (i : Nat),
 i < x_4.n →
 (if 0 + i = 0 * 1 / 1 then
 [AV.ro 1 ((↑(linN x) : Int).toNat - 0) fun i =>
 [AV.int IntKind.u8 (↑(x.snd.snd.getD (0 + i) 0) : Int)]]
 else [AV.nils]) =
 [AV.ro 1 (x_4.m i) fun j => [AV.int IntKind.u8 (↑(x_4.f i j) : Int)]]) ∧
 True) ∧
 true = true ∧ True) ∧
 Bytess (famL x_4) ∧
 ∀ (y : Unit),
 True →
 ∀ (n_1 : Int),
 n_1 = bits BinOp.xor IntKind.u32 n (↑(sumN (famL x_4)) : Int) →
 Exx Fam fun x_5 =>
 ((((1 : Nat) = (1 : Nat) ∧
 1 = x_5.n ∧
 1 ≤ [AV.sl 1 [] 0 1 0 (linN x) (linN x)].length ∧
 (0 + linN x ≤ linN x ∧
 linN x = x_5.m 0 ∧
 ∀ (j : Nat),
 j < x_5.m 0 →
 [AV.int IntKind.u8
 (↑(if 0 + j < t then linX x (0 + j) else 0) :
 Int)] =
 [AV.int IntKind.u8 (↑(x_5.f 0 j) : Int)]) ∧
 True) ∧
 True) ∧
 true = true ∧ True) ∧
 Bytess (famL x_5) ∧
 ∀ (y : Unit),
 True →
 ∀ (n : Int),
 n = bits BinOp.xor IntKind.u32 n_1 (↑(sumN (famL x_5)) : Int) →
 Exx Unit fun y =>
 ((decide (n = 0) = true ∧ True) ∧ true = true ∧ True) ∧ True) ∧
 Exx Fam fun x_3 =>
 ((((0 : Nat) + (1 : Nat) ≤ (1 : Nat) ∧
 1 = x_3.n ∧
 ∀ (i : Nat),
 i < x_3.n →
 (if 0 + i = 0 * 1 / 1 then
 [AV.ro 1 ((↑(linN x) : Int).toNat - 0) fun i =>
 [AV.int IntKind.u8 (↑(x.snd.fst.getD (0 + i) 0) : Int)]]
 else [AV.nils]) =
 [AV.ro 1 (x_3.m i) fun j => [AV.int IntKind.u8 (↑(x_3.f i j) : Int)]]) ∧
 True) ∧
 true = true ∧ True) ∧
 Bytess (famL x_3) ∧
 ∀ (y : Unit),
 True →
 ∀ (n : Int),
 n = bits BinOp.xor IntKind.u32 (↑(sumN (famL x_2)) : Int) (↑(sumN (famL x_3)) : Int) →
 Exx Fam fun x_4 =>
 ((((0 : Nat) + (1 : Nat) ≤ (1 : Nat) ∧
 1 = x_4.n ∧
 ∀ (i : Nat),
 i < x_4.n →
 (if 0 + i = 0 * 1 / 1 then
 [AV.ro 1 ((↑(linN x) : Int).toNat - 0) fun i =>
 [AV.int IntKind.u8 (↑(x.snd.snd.getD (0 + i) 0) : Int)]]
 else [AV.nils]) =
 [AV.ro 1 (x_4.m i) fun j => [AV.int IntKind.u8 (↑(x_4.f i j) : Int)]]) ∧
 True) ∧
 true = true ∧ True) ∧
 Bytess (famL x_4) ∧
 ∀ (y : Unit),
 True →
 ∀ (n_1 : Int),
 n_1 = bits BinOp.xor IntKind.u32 n (↑(sumN (famL x_4)) : Int) →
 Exx Fam fun x_5 =>
 ((((1 : Nat) = (1 : Nat) ∧
 1 = x_5.n ∧
 1 ≤ [AV.sl 1 [] 0 1 0 (linN x) (linN x)].length ∧
 (0 + linN x ≤ linN x ∧
 linN x = x_5.m 0 ∧
 ∀ (j : Nat),
 j < x_5.m 0 →
 [AV.int IntKind.u8
 (↑(if 0 + j < t then linX x (0 + j) else 0) :
 Int)] =
 [AV.int IntKind.u8 (↑(x_5.f 0 j) : Int)]) ∧
 True) ∧
 True) ∧
 true = true ∧ True) ∧
 Bytess (famL x_5) ∧
 ∀ (y : Unit),
 True →
 ∀ (n : Int),
 n = bits BinOp.xor IntKind.u32 n_1 (↑(sumN (famL x_5)) : Int) →
 Exx Unit fun y =>
 ((decide (n = 0) = true ∧ True) ∧ true = true ∧ True) ∧ True) ∧
 Exx Fam fun x_3 =>
 ((((0 : Nat) + (1 : Nat) ≤ (1 : Nat) ∧
 1 = x_3.n ∧
 ∀ (i : Nat),
 i < x_3.n →
 (if 0 + i = 0 * 1 / 1 then
 [AV.ro 1 ((↑(linN x) : Int).toNat - 0) fun i =>
 [AV.int IntKind.u8 (↑(x.snd.fst.getD (0 + i) 0) : Int)]]
 else [AV.nils]) =
 [AV.ro 1 (x_3.m i) fun j => [AV.int IntKind.u8 (↑(x_3.f i j) : Int)]]) ∧
 True) ∧
 true = true ∧ True) ∧
 Bytess (famL x_3) ∧
 ∀ (y : Unit),
 True →
 ∀ (n : Int),
 n = bits BinOp.xor IntKind.u32 (↑(sumN (famL x_2)) : Int) (↑(sumN (famL x_3)) : Int) →
 Exx Fam fun x_4 =>
 ((((0 : Nat) + (1 : Nat) ≤ (1 : Nat) ∧
 1 = x_4.n ∧
 ∀ (i : Nat),
 i < x_4.n →
 (if 0 + i = 0 * 1 / 1 then
 [AV.ro 1 ((↑(linN x) : Int).toNat - 0) fun i =>
 [AV.int IntKind.u8 (↑(x.snd.snd.getD (0 + i) 0) : Int)]]
 else [AV.nils]) =
 [AV.ro 1 (x_4.m i) fun j => [AV.int IntKind.u8 (↑(x_4.f i j) : Int)]]) ∧
 True) ∧
 true = true ∧ True) ∧
 Bytess (famL x_4) ∧
 ∀ (y : Unit),
 True →
 ∀ (n_1 : Int),
 n_1 = bits BinOp.xor IntKind.u32 n (↑(sumN (famL x_4)) : Int) →
 Exx Fam fun x_5 =>
 ((((1 : Nat) = (1 : Nat) ∧
 1 = x_5.n ∧
 1 ≤ [AV.sl 1 [] 0 1 0 (linN x) (linN x)].length ∧
 (0 + linN x ≤ linN x ∧
 linN x = x_5.m 0 ∧
 ∀ (j : Nat),
 j < x_5.m 0 →
 [AV.int IntKind.u8
 (↑(if 0 + j < t then linX x (0 + j) else 0) : Int)] =
 [AV.int IntKind.u8 (↑(x_5.f 0 j) : Int)]) ∧
 True) ∧
 True) ∧
 true = true ∧ True) ∧
 Bytess (famL x_5) ∧
 ∀ (y : Unit),
 True →
 ∀ (n : Int),
 n = bits BinOp.xor IntKind.u32 n_1 (↑(sumN (famL x_5)) : Int) →
 Exx Unit fun y =>
 ((decide (n = 0) = true ∧ True) ∧ true = true ∧ True) ∧ True) ∧
 ((Exx Fam fun x_2 =>
 ((((0 : Nat) + (1 : Nat) ≤ (1 : Nat) ∧
 1 = x_2.n ∧
 ∀ (i : Nat),
 i < x_2.n →
 (if 0 + i = 0 * 1 / 1 then
 [AV.ro 1 ((↑(linN x) : Int).toNat - 0) fun i => [AV.int IntKind.u8 (↑(x.fst.getD (0 + i) 0) : Int)]]
 else [AV.nils]) =
 [AV.ro 1 (x_2.m i) fun j => [AV.int IntKind.u8 (↑(x_2.f i j) : Int)]]) ∧
 True) ∧
 true = true ∧ True) ∧
 Bytess (famL x_2) ∧
 ∀ (y : Unit),
 True →
 (Exx Fam fun x_3 =>
 ((((0 : Nat) + (1 : Nat) ≤ (1 : Nat) ∧
 1 = x_3.n ∧
 ∀ (i : Nat),
 i < x_3.n →
 (if 0 + i = 0 * 1 / 1 then
 [AV.ro 1 ((↑(linN x) : Int).toNat - 0) fun i =>
 [AV.int IntKind.u8 (↑(x.snd.fst.getD (0 + i) 0) : Int)]]
 else [AV.nils]) =
 [AV.ro 1 (x_3.m i) fun j => [AV.int IntKind.u8 (↑(x_3.f i j) : Int)]]) ∧
 True) ∧
 true = true ∧ True) ∧
 Bytess (famL x_3) ∧
 ∀ (y : Unit),
 True →
 ∀ (n : Int),
 n = bits BinOp.xor IntKind.u32 (↑(sumN (famL x_2)) : Int) (↑(sumN (famL x_3)) : Int) →
 Exx Fam fun x_4 =>
 ((((0 : Nat) + (1 : Nat) ≤ (1 : Nat) ∧
 1 = x_4.n ∧
 ∀ (i : Nat),
 i < x_4.n →
 (if 0 + i = 0 * 1 / 1 then
 [AV.ro 1 ((↑(linN x) : Int).toNat - 0) fun i =>
 [AV.int IntKind.u8 (↑(x.snd.snd.getD (0 + i) 0) : Int)]]
 else [AV.nils]) =
 [AV.ro 1 (x_4.m i) fun j => [AV.int IntKind.u8 (↑(x_4.f i j) : Int)]]) ∧
 True) ∧
 true = true ∧ True) ∧
 Bytess (famL x_4) ∧
 ∀ (y : Unit),
 True →
 ∀ (n_1 : Int),
 n_1 = bits BinOp.xor IntKind.u32 n (↑(sumN (famL x_4)) : Int) →
 Exx Fam fun x_5 =>
 ((((1 : Nat) = (1 : Nat) ∧
 1 = x_5.n ∧
 1 ≤ [AV.sl 1 [] 0 1 0 (linN x) (linN x)].length ∧
 (0 + linN x ≤ linN x ∧
 linN x = x_5.m 0 ∧
 ∀ (j : Nat),
 j < x_5.m 0 →
 [AV.int IntKind.u8
 (↑(if 0 + j < t then linX x (0 + j) else 0) :
 Int)] =
 [AV.int IntKind.u8 (↑(x_5.f 0 j) : Int)]) ∧
 True) ∧
 True) ∧
 true = true ∧ True) ∧
 Bytess (famL x_5) ∧
 ∀ (y : Unit),
 True →
 ∀ (n : Int),
 n = bits BinOp.xor IntKind.u32 n_1 (↑(sumN (famL x_5)) : Int) →
 Exx Unit fun y =>
 ((decide (n = 0) = true ∧ True) ∧ true = true ∧ True) ∧ True) ∧
 Exx Fam fun x_3 =>
 ((((0 : Nat) + (1 : Nat) ≤ (1 : Nat) ∧
 1 = x_3.n ∧
 ∀ (i : Nat),
 i < x_3.n →
 (if 0 + i = 0 * 1 / 1 then
 [AV.ro 1 ((↑(linN x) : Int).toNat - 0) fun i =>
 [AV.int IntKind.u8 (↑(x.snd.fst.getD (0 + i) 0) : Int)]]
 else [AV.nils]) =
 [AV.ro 1 (x_3.m i) fun j => [AV.int IntKind.u8 (↑(x_3.f i j) : Int)]]) ∧
 True) ∧
 true = true ∧ True) ∧
 Bytess (famL x_3) ∧
 ∀ (y : Unit),
 True →
 ∀ (n : Int),
 n = bits BinOp.xor IntKind.u32 (↑(sumN (famL x_2)) : Int) (↑(sumN (famL x_3)) : Int) →
 Exx Fam fun x_4 =>
 ((((0 : Nat) + (1 : Nat) ≤ (1 : Nat) ∧
 1 = x_4.n ∧
 ∀ (i : Nat),
 i < x_4.n →
 (if 0 + i = 0 * 1 / 1 then
 [AV.ro 1 ((↑(linN x) : Int).toNat - 0) fun i =>
 [AV.int IntKind.u8 (↑(x.snd.snd.getD (0 + i) 0) : Int)]]
 else [AV.nils]) =
 [AV.ro 1 (x_4.m i) fun j => [AV.int IntKind.u8 (↑(x_4.f i j) : Int)]]) ∧
 True) ∧
 true = true ∧ True) ∧
 Bytess (famL x_4) ∧
 ∀ (y : Unit),
 True →
 ∀ (n_1 : Int),
 n_1 = bits BinOp.xor IntKind.u32 n (↑(sumN (famL x_4)) : Int) →
 Exx Fam fun x_5 =>
 ((((1 : Nat) = (1 : Nat) ∧
 1 = x_5.n ∧
 1 ≤ [AV.sl 1 [] 0 1 0 (linN x) (linN x)].length ∧
 (0 + linN x ≤ linN x ∧
 linN x = x_5.m 0 ∧
 ∀ (j : Nat),
 j < x_5.m 0 →
 [AV.int IntKind.u8
 (↑(if 0 + j < t then linX x (0 + j) else 0) :
 Int)] =
 [AV.int IntKind.u8 (↑(x_5.f 0 j) : Int)]) ∧
 True) ∧
 True) ∧
 true = true ∧ True) ∧
 Bytess (famL x_5) ∧
 ∀ (y : Unit),
 True →
 ∀ (n : Int),
 n = bits BinOp.xor IntKind.u32 n_1 (↑(sumN (famL x_5)) : Int) →
 Exx Unit fun y =>
 ((decide (n = 0) = true ∧ True) ∧ true = true ∧ True) ∧ True) ∧
 Exx Fam fun x_2 =>
 ((((0 : Nat) + (1 : Nat) ≤ (1 : Nat) ∧
 1 = x_2.n ∧
 ∀ (i : Nat),
 i < x_2.n →
 (if 0 + i = 0 * 1 / 1 then
 [AV.ro 1 ((↑(linN x) : Int).toNat - 0) fun i => [AV.int IntKind.u8 (↑(x.fst.getD (0 + i) 0) : Int)]]
 else [AV.nils]) =
 [AV.ro 1 (x_2.m i) fun j => [AV.int IntKind.u8 (↑(x_2.f i j) : Int)]]) ∧
 True) ∧
 true = true ∧ True) ∧
 Bytess (famL x_2) ∧
 ∀ (y : Unit),
 True →
 Exx Fam fun x_3 =>
 ((((0 : Nat) + (1 : Nat) ≤ (1 : Nat) ∧
 1 = x_3.n ∧
 ∀ (i : Nat),
 i < x_3.n →
 (if 0 + i = 0 * 1 / 1 then
 [AV.ro 1 ((↑(linN x) : Int).toNat - 0) fun i =>
 [AV.int IntKind.u8 (↑(x.snd.fst.getD (0 + i) 0) : Int)]]
 else [AV.nils]) =
 [AV.ro 1 (x_3.m i) fun j => [AV.int IntKind.u8 (↑(x_3.f i j) : Int)]]) ∧
 True) ∧
 true = true ∧ True) ∧
 Bytess (famL x_3) ∧
 ∀ (y : Unit),
 True →
 ∀ (n : Int),
 n = bits BinOp.xor IntKind.u32 (↑(sumN (famL x_2)) : Int) (↑(sumN (famL x_3)) : Int) →
 Exx Fam fun x_4 =>
 ((((0 : Nat) + (1 : Nat) ≤ (1 : Nat) ∧
 1 = x_4.n ∧
 ∀ (i : Nat),
 i < x_4.n →
 (if 0 + i = 0 * 1 / 1 then
 [AV.ro 1 ((↑(linN x) : Int).toNat - 0) fun i =>
 [AV.int IntKind.u8 (↑(x.snd.snd.getD (0 + i) 0) : Int)]]
 else [AV.nils]) =
 [AV.ro 1 (x_4.m i) fun j => [AV.int IntKind.u8 (↑(x_4.f i j) : Int)]]) ∧
 True) ∧
 true = true ∧ True) ∧
 Bytess (famL x_4) ∧
 ∀ (y : Unit),
 True →
 ∀ (n_1 : Int),
 n_1 = bits BinOp.xor IntKind.u32 n (↑(sumN (famL x_4)) : Int) →
 Exx Fam fun x_5 =>
 ((((1 : Nat) = (1 : Nat) ∧
 1 = x_5.n ∧
 1 ≤ [AV.sl 1 [] 0 1 0 (linN x) (linN x)].length ∧
 (0 + linN x ≤ linN x ∧
 linN x = x_5.m 0 ∧
 ∀ (j : Nat),
 j < x_5.m 0 →
 [AV.int IntKind.u8
 (↑(if 0 + j < t then linX x (0 + j) else 0) :
 Int)] =
 [AV.int IntKind.u8 (↑(x_5.f 0 j) : Int)]) ∧
 True) ∧
 True) ∧
 true = true ∧ True) ∧
 Bytess (famL x_5) ∧
 ∀ (y : Unit),
 True →
 ∀ (n : Int),
 n = bits BinOp.xor IntKind.u32 n_1 (↑(sumN (famL x_5)) : Int) →
 Exx Unit fun y =>
 ((decide (n = 0) = true ∧ True) ∧ true = true ∧ True) ∧ True) ∧
 (Exx Fam fun x_2 =>
 ((((0 : Nat) + (1 : Nat) ≤ (1 : Nat) ∧
 1 = x_2.n ∧
 ∀ (i : Nat),
 i < x_2.n →
 (if 0 + i = 0 * 1 / 1 then
 [AV.ro 1 ((↑(linN x) : Int).toNat - 0) fun i => [AV.int IntKind.u8 (↑(x.fst.getD (0 + i) 0) : Int)]]
 else [AV.nils]) =
 [AV.ro 1 (x_2.m i) fun j => [AV.int IntKind.u8 (↑(x_2.f i j) : Int)]]) ∧
 True) ∧
 true = true ∧ True) ∧
 Bytess (famL x_2) ∧
 ∀ (y : Unit),
 True →
 Exx Fam fun x_3 =>
 ((((0 : Nat) + (1 : Nat) ≤ (1 : Nat) ∧
 1 = x_3.n ∧
 ∀ (i : Nat),
 i < x_3.n →
 (if 0 + i = 0 * 1 / 1 then
 [AV.ro 1 ((↑(linN x) : Int).toNat - 0) fun i =>
 [AV.int IntKind.u8 (↑(x.snd.fst.getD (0 + i) 0) : Int)]]
 else [AV.nils]) =
 [AV.ro 1 (x_3.m i) fun j => [AV.int IntKind.u8 (↑(x_3.f i j) : Int)]]) ∧
 True) ∧
 true = true ∧ True) ∧
 Bytess (famL x_3) ∧
 ∀ (y : Unit),
 True →
 ∀ (n : Int),
 n = bits BinOp.xor IntKind.u32 (↑(sumN (famL x_2)) : Int) (↑(sumN (famL x_3)) : Int) →
 Exx Fam fun x_4 =>
 ((((0 : Nat) + (1 : Nat) ≤ (1 : Nat) ∧
 1 = x_4.n ∧
 ∀ (i : Nat),
 i < x_4.n →
 (if 0 + i = 0 * 1 / 1 then
 [AV.ro 1 ((↑(linN x) : Int).toNat - 0) fun i =>
 [AV.int IntKind.u8 (↑(x.snd.snd.getD (0 + i) 0) : Int)]]
 else [AV.nils]) =
 [AV.ro 1 (x_4.m i) fun j => [AV.int IntKind.u8 (↑(x_4.f i j) : Int)]]) ∧
 True) ∧
 true = true ∧ True) ∧
 Bytess (famL x_4) ∧
 ∀ (y : Unit),
 True →
 ∀ (n_1 : Int),
 n_1 = bits BinOp.xor IntKind.u32 n (↑(sumN (famL x_4)) : Int) →
 Exx Fam fun x_5 =>
 ((((1 : Nat) = (1 : Nat) ∧
 1 = x_5.n ∧
 1 ≤ [AV.sl 1 [] 0 1 0 (linN x) (linN x)].length ∧
 (0 + linN x ≤ linN x ∧
 linN x = x_5.m 0 ∧
 ∀ (j : Nat),
 j < x_5.m 0 →
 [AV.int IntKind.u8
 (↑(if 0 + j < t then linX x (0 + j) else 0) :
 Int)] =
 [AV.int IntKind.u8 (↑(x_5.f 0 j) : Int)]) ∧
 True) ∧
 True) ∧
 true = true ∧ True) ∧
 Bytess (famL x_5) ∧
 ∀ (y : Unit),
 True →
 ∀ (n : Int),
 n = bits BinOp.xor IntKind.u32 n_1 (↑(sumN (famL x_5)) : Int) →
 Exx Unit fun y =>
 ((decide (n = 0) = true ∧ True) ∧ true = true ∧ True) ∧ True) ∧
 Exx Fam fun x_2 =>
 ((((0 : Nat) + (1 : Nat) ≤ (1 : Nat) ∧
 1 = x_2.n ∧
 ∀ (i : Nat),
 i < x_2.n →
 (if 0 + i = 0 * 1 / 1 then
 [AV.ro 1 ((↑(linN x) : Int).toNat - 0) fun i => [AV.int IntKind.u8 (↑(x.fst.getD (0 + i) 0) : Int)]]
 else [AV.nils]) =
 [AV.ro 1 (x_2.m i) fun j => [AV.int IntKind.u8 (↑(x_2.f i j) : Int)]]) ∧
 True) ∧
 true = true ∧ True) ∧
 Bytess (famL x_2) ∧
 ∀ (y : Unit),
 True →
 Exx Fam fun x_3 =>
 ((((0 : Nat) + (1 : Nat) ≤ (1 : Nat) ∧
 1 = x_3.n ∧
 ∀ (i : Nat),
 i < x_3.n →
 (if 0 + i = 0 * 1 / 1 then
 [AV.ro 1 ((↑(linN x) : Int).toNat - 0) fun i =>
 [AV.int IntKind.u8 (↑(x.snd.fst.getD (0 + i) 0) : Int)]]
 else [AV.nils]) =
 [AV.ro 1 (x_3.m i) fun j => [AV.int IntKind.u8 (↑(x_3.f i j) : Int)]]) ∧
 True) ∧
 true = true ∧ True) ∧
 Bytess (famL x_3) ∧
 ∀ (y : Unit),
 True →
 ∀ (n : Int),
 n = bits BinOp.xor IntKind.u32 (↑(sumN (famL x_2)) : Int) (↑(sumN (famL x_3)) : Int) →
 Exx Fam fun x_4 =>
 ((((0 : Nat) + (1 : Nat) ≤ (1 : Nat) ∧
 1 = x_4.n ∧
 ∀ (i : Nat),
 i < x_4.n →
 (if 0 + i = 0 * 1 / 1 then
 [AV.ro 1 ((↑(linN x) : Int).toNat - 0) fun i =>
 [AV.int IntKind.u8 (↑(x.snd.snd.getD (0 + i) 0) : Int)]]
 else [AV.nils]) =
 [AV.ro 1 (x_4.m i) fun j => [AV.int IntKind.u8 (↑(x_4.f i j) : Int)]]) ∧
 True) ∧
 true = true ∧ True) ∧
 Bytess (famL x_4) ∧
 ∀ (y : Unit),
 True →
 ∀ (n_1 : Int),
 n_1 = bits BinOp.xor IntKind.u32 n (↑(sumN (famL x_4)) : Int) →
 Exx Fam fun x_5 =>
 ((((1 : Nat) = (1 : Nat) ∧
 1 = x_5.n ∧
 1 ≤ [AV.sl 1 [] 0 1 0 (linN x) (linN x)].length ∧
 (0 + linN x ≤ linN x ∧
 linN x = x_5.m 0 ∧
 ∀ (j : Nat),
 j < x_5.m 0 →
 [AV.int IntKind.u8
 (↑(if 0 + j < t then linX x (0 + j) else 0) :
 Int)] =
 [AV.int IntKind.u8 (↑(x_5.f 0 j) : Int)]) ∧
 True) ∧
 True) ∧
 true = true ∧ True) ∧
 Bytess (famL x_5) ∧
 ∀ (y : Unit),
 True →
 ∀ (n : Int),
 n = bits BinOp.xor IntKind.u32 n_1 (↑(sumN (famL x_5)) : Int) →
 Exx Unit fun y =>
 ((decide (n = 0) = true ∧ True) ∧ true = true ∧ True) ∧ True) ∧
 (((Exx Fam fun x_2 =>
 ((((0 : Nat) + (1 : Nat) ≤ (1 : Nat) ∧
 1 = x_2.n ∧
 ∀ (i : Nat),
 i < x_2.n →
 (if 0 + i = 0 * 1 / 1 then
 [AV.ro 1 ((↑(linN x) : Int).toNat - 0) fun i => [AV.int IntKind.u8 (↑(x.fst.getD (0 + i) 0) : Int)]]
 else [AV.nils]) =
 [AV.ro 1 (x_2.m i) fun j => [AV.int IntKind.u8 (↑(x_2.f i j) : Int)]]) ∧
 True) ∧
 true = true ∧ True) ∧
 Bytess (famL x_2) ∧
 ∀ (y : Unit),
 True →
 (Exx Fam fun x_3 =>
 ((((0 : Nat) + (1 : Nat) ≤ (1 : Nat) ∧
 1 = x_3.n ∧
 ∀ (i : Nat),
 i < x_3.n →
 (if 0 + i = 0 * 1 / 1 then
 [AV.ro 1 ((↑(linN x) : Int).toNat - 0) fun i =>
 [AV.int IntKind.u8 (↑(x.snd.fst.getD (0 + i) 0) : Int)]]
 else [AV.nils]) =
 [AV.ro 1 (x_3.m i) fun j => [AV.int IntKind.u8 (↑(x_3.f i j) : Int)]]) ∧
 True) ∧
 true = true ∧ True) ∧
 Bytess (famL x_3) ∧
 ∀ (y : Unit),
 True →
 ∀ (n : Int),
 n = bits BinOp.xor IntKind.u32 (↑(sumN (famL x_2)) : Int) (↑(sumN (famL x_3)) : Int) →
 Exx Fam fun x_4 =>
 ((((0 : Nat) + (1 : Nat) ≤ (1 : Nat) ∧
 1 = x_4.n ∧
 ∀ (i : Nat),
 i < x_4.n →
 (if 0 + i = 0 * 1 / 1 then
 [AV.ro 1 ((↑(linN x) : Int).toNat - 0) fun i =>
 [AV.int IntKind.u8 (↑(x.snd.snd.getD (0 + i) 0) : Int)]]
 else [AV.nils]) =
 [AV.ro 1 (x_4.m i) fun j => [AV.int IntKind.u8 (↑(x_4.f i j) : Int)]]) ∧
 True) ∧
 true = true ∧ True) ∧
 Bytess (famL x_4) ∧
 ∀ (y : Unit),
 True →
 ∀ (n_1 : Int),
 n_1 = bits BinOp.xor IntKind.u32 n (↑(sumN (famL x_4)) : Int) →
 Exx Fam fun x_5 =>
 ((((1 : Nat) = (1 : Nat) ∧
 1 = x_5.n ∧
 1 ≤ [AV.sl 1 [] 0 1 0 (linN x) (linN x)].length ∧
 (0 + linN x ≤ linN x ∧
 linN x = x_5.m 0 ∧
 ∀ (j : Nat),
 j < x_5.m 0 →
 [AV.int IntKind.u8
 (↑(if 0 + j < t then linX x (0 + j) else 0) :
 Int)] =
 [AV.int IntKind.u8 (↑(x_5.f 0 j) : Int)]) ∧
 True) ∧
 True) ∧
 true = true ∧ True) ∧
 Bytess (famL x_5) ∧
 ∀ (y : Unit),
 True →
 ∀ (n : Int),
 n = bits BinOp.xor IntKind.u32 n_1 (↑(sumN (famL x_5)) : Int) →
 Exx Unit fun y =>
 ((decide (n = 0) = true ∧ True) ∧ true = true ∧ True) ∧ True) ∧
 Exx Fam fun x_3 =>
 ((((0 : Nat) + (1 : Nat) ≤ (1 : Nat) ∧
 1 = x_3.n ∧
 ∀ (i : Nat),
 i < x_3.n →
 (if 0 + i = 0 * 1 / 1 then
 [AV.ro 1 ((↑(linN x) : Int).toNat - 0) fun i =>
 [AV.int IntKind.u8 (↑(x.snd.fst.getD (0 + i) 0) : Int)]]
 else [AV.nils]) =
 [AV.ro 1 (x_3.m i) fun j => [AV.int IntKind.u8 (↑(x_3.f i j) : Int)]]) ∧
 True) ∧
 true = true ∧ True) ∧
 Bytess (famL x_3) ∧
 ∀ (y : Unit),
 True →
 ∀ (n : Int),
 n = bits BinOp.xor IntKind.u32 (↑(sumN (famL x_2)) : Int) (↑(sumN (famL x_3)) : Int) →
 Exx Fam fun x_4 =>
 ((((0 : Nat) + (1 : Nat) ≤ (1 : Nat) ∧
 1 = x_4.n ∧
 ∀ (i : Nat),
 i < x_4.n →
 (if 0 + i = 0 * 1 / 1 then
 [AV.ro 1 ((↑(linN x) : Int).toNat - 0) fun i =>
 [AV.int IntKind.u8 (↑(x.snd.snd.getD (0 + i) 0) : Int)]]
 else [AV.nils]) =
 [AV.ro 1 (x_4.m i) fun j => [AV.int IntKind.u8 (↑(x_4.f i j) : Int)]]) ∧
 True) ∧
 true = true ∧ True) ∧
 Bytess (famL x_4) ∧
 ∀ (y : Unit),
 True →
 ∀ (n_1 : Int),
 n_1 = bits BinOp.xor IntKind.u32 n (↑(sumN (famL x_4)) : Int) →
 Exx Fam fun x_5 =>
 ((((1 : Nat) = (1 : Nat) ∧
 1 = x_5.n ∧
 1 ≤ [AV.sl 1 [] 0 1 0 (linN x) (linN x)].length ∧
 (0 + linN x ≤ linN x ∧
 linN x = x_5.m 0 ∧
 ∀ (j : Nat),
 j < x_5.m 0 →
 [AV.int IntKind.u8
 (↑(if 0 + j < t then linX x (0 + j) else 0) :
 Int)] =
 [AV.int IntKind.u8 (↑(x_5.f 0 j) : Int)]) ∧
 True) ∧
 True) ∧
 true = true ∧ True) ∧
 Bytess (famL x_5) ∧
 ∀ (y : Unit),
 True →
 ∀ (n : Int),
 n = bits BinOp.xor IntKind.u32 n_1 (↑(sumN (famL x_5)) : Int) →
 Exx Unit fun y =>
 ((decide (n = 0) = true ∧ True) ∧ true = true ∧ True) ∧ True) ∧
 Exx Fam fun x_2 =>
 ((((0 : Nat) + (1 : Nat) ≤ (1 : Nat) ∧
 1 = x_2.n ∧
 ∀ (i : Nat),
 i < x_2.n →
 (if 0 + i = 0 * 1 / 1 then
 [AV.ro 1 ((↑(linN x) : Int).toNat - 0) fun i => [AV.int IntKind.u8 (↑(x.fst.getD (0 + i) 0) : Int)]]
 else [AV.nils]) =
 [AV.ro 1 (x_2.m i) fun j => [AV.int IntKind.u8 (↑(x_2.f i j) : Int)]]) ∧
 True) ∧
 true = true ∧ True) ∧
 Bytess (famL x_2) ∧
 ∀ (y : Unit),
 True →
 Exx Fam fun x_3 =>
 ((((0 : Nat) + (1 : Nat) ≤ (1 : Nat) ∧
 1 = x_3.n ∧
 ∀ (i : Nat),
 i < x_3.n →
 (if 0 + i = 0 * 1 / 1 then
 [AV.ro 1 ((↑(linN x) : Int).toNat - 0) fun i =>
 [AV.int IntKind.u8 (↑(x.snd.fst.getD (0 + i) 0) : Int)]]
 else [AV.nils]) =
 [AV.ro 1 (x_3.m i) fun j => [AV.int IntKind.u8 (↑(x_3.f i j) : Int)]]) ∧
 True) ∧
 true = true ∧ True) ∧
 Bytess (famL x_3) ∧
 ∀ (y : Unit),
 True →
 ∀ (n : Int),
 n = bits BinOp.xor IntKind.u32 (↑(sumN (famL x_2)) : Int) (↑(sumN (famL x_3)) : Int) →
 Exx Fam fun x_4 =>
 ((((0 : Nat) + (1 : Nat) ≤ (1 : Nat) ∧
 1 = x_4.n ∧
 ∀ (i : Nat),
 i < x_4.n →
 (if 0 + i = 0 * 1 / 1 then
 [AV.ro 1 ((↑(linN x) : Int).toNat - 0) fun i =>
 [AV.int IntKind.u8 (↑(x.snd.snd.getD (0 + i) 0) : Int)]]
 else [AV.nils]) =
 [AV.ro 1 (x_4.m i) fun j => [AV.int IntKind.u8 (↑(x_4.f i j) : Int)]]) ∧
 True) ∧
 true = true ∧ True) ∧
 Bytess (famL x_4) ∧
 ∀ (y : Unit),
 True →
 ∀ (n_1 : Int),
 n_1 = bits BinOp.xor IntKind.u32 n (↑(sumN (famL x_4)) : Int) →
 Exx Fam fun x_5 =>
 ((((1 : Nat) = (1 : Nat) ∧
 1 = x_5.n ∧
 1 ≤ [AV.sl 1 [] 0 1 0 (linN x) (linN x)].length ∧
 (0 + linN x ≤ linN x ∧
 linN x = x_5.m 0 ∧
 ∀ (j : Nat),
 j < x_5.m 0 →
 [AV.int IntKind.u8
 (↑(if 0 + j < t then linX x (0 + j) else 0) :
 Int)] =
 [AV.int IntKind.u8 (↑(x_5.f 0 j) : Int)]) ∧
 True) ∧
 True) ∧
 true = true ∧ True) ∧
 Bytess (famL x_5) ∧
 ∀ (y : Unit),
 True →
 ∀ (n : Int),
 n = bits BinOp.xor IntKind.u32 n_1 (↑(sumN (famL x_5)) : Int) →
 Exx Unit fun y =>
 ((decide (n = 0) = true ∧ True) ∧ true = true ∧ True) ∧ True) ∧
 Exx Fam fun x_2 =>
 ((((0 : Nat) + (1 : Nat) ≤ (1 : Nat) ∧
 1 = x_2.n ∧
 ∀ (i : Nat),
 i < x_2.n →
 (if 0 + i = 0 * 1 / 1 then
 [AV.ro 1 ((↑(linN x) : Int).toNat - 0) fun i => [AV.int IntKind.u8 (↑(x.fst.getD (0 + i) 0) : Int)]]
 else [AV.nils]) =
 [AV.ro 1 (x_2.m i) fun j => [AV.int IntKind.u8 (↑(x_2.f i j) : Int)]]) ∧
 True) ∧
 true = true ∧ True) ∧
 Bytess (famL x_2) ∧
 ∀ (y : Unit),
 True →
 Exx Fam fun x_3 =>
 ((((0 : Nat) + (1 : Nat) ≤ (1 : Nat) ∧
 1 = x_3.n ∧
 ∀ (i : Nat),
 i < x_3.n →
 (if 0 + i = 0 * 1 / 1 then
 [AV.ro 1 ((↑(linN x) : Int).toNat - 0) fun i =>
 [AV.int IntKind.u8 (↑(x.snd.fst.getD (0 + i) 0) : Int)]]
 else [AV.nils]) =
 [AV.ro 1 (x_3.m i) fun j => [AV.int IntKind.u8 (↑(x_3.f i j) : Int)]]) ∧
 True) ∧
 true = true ∧ True) ∧
 Bytess (famL x_3) ∧
 ∀ (y : Unit),
 True →
 ∀ (n : Int),
 n = bits BinOp.xor IntKind.u32 (↑(sumN (famL x_2)) : Int) (↑(sumN (famL x_3)) : Int) →
 Exx Fam fun x_4 =>
 ((((0 : Nat) + (1 : Nat) ≤ (1 : Nat) ∧
 1 = x_4.n ∧
 ∀ (i : Nat),
 i < x_4.n →
 (if 0 + i = 0 * 1 / 1 then
 [AV.ro 1 ((↑(linN x) : Int).toNat - 0) fun i =>
 [AV.int IntKind.u8 (↑(x.snd.snd.getD (0 + i) 0) : Int)]]
 else [AV.nils]) =
 [AV.ro 1 (x_4.m i) fun j => [AV.int IntKind.u8 (↑(x_4.f i j) : Int)]]) ∧
 True) ∧
 true = true ∧ True) ∧
 Bytess (famL x_4) ∧
 ∀ (y : Unit),
 True →
 ∀ (n_1 : Int),
 n_1 = bits BinOp.xor IntKind.u32 n (↑(sumN (famL x_4)) : Int) →
 Exx Fam fun x_5 =>
 ((((1 : Nat) = (1 : Nat) ∧
 1 = x_5.n ∧
 1 ≤ [AV.sl 1 [] 0 1 0 (linN x) (linN x)].length ∧
 (0 + linN x ≤ linN x ∧
 linN x = x_5.m 0 ∧
 ∀ (j : Nat),
 j < x_5.m 0 →
 [AV.int IntKind.u8
 (↑(if 0 + j < t then linX x (0 + j) else 0) : Int)] =
 [AV.int IntKind.u8 (↑(x_5.f 0 j) : Int)]) ∧
 True) ∧
 True) ∧
 true = true ∧ True) ∧
 Bytess (famL x_5) ∧
 ∀ (y : Unit),
 True →
 ∀ (n : Int),
 n = bits BinOp.xor IntKind.u32 n_1 (↑(sumN (famL x_5)) : Int) →
 Exx Unit fun y =>
 ((decide (n = 0) = true ∧ True) ∧ true = true ∧ True) ∧ True) ∧
 ((Exx Fam fun x_2 =>
 ((((0 : Nat) + (1 : Nat) ≤ (1 : Nat) ∧
 1 = x_2.n ∧
 ∀ (i : Nat),
 i < x_2.n →
 (if 0 + i = 0 * 1 / 1 then
 [AV.ro 1 ((↑(linN x) : Int).toNat - 0) fun i => [AV.int IntKind.u8 (↑(x.fst.getD (0 + i) 0) : Int)]]
 else [AV.nils]) =
 [AV.ro 1 (x_2.m i) fun j => [AV.int IntKind.u8 (↑(x_2.f i j) : Int)]]) ∧
 True) ∧
 true = true ∧ True) ∧
 Bytess (famL x_2) ∧
 ∀ (y : Unit),
 True →
 Exx Fam fun x_3 =>
 ((((0 : Nat) + (1 : Nat) ≤ (1 : Nat) ∧
 1 = x_3.n ∧
 ∀ (i : Nat),
 i < x_3.n →
 (if 0 + i = 0 * 1 / 1 then
 [AV.ro 1 ((↑(linN x) : Int).toNat - 0) fun i =>
 [AV.int IntKind.u8 (↑(x.snd.fst.getD (0 + i) 0) : Int)]]
 else [AV.nils]) =
 [AV.ro 1 (x_3.m i) fun j => [AV.int IntKind.u8 (↑(x_3.f i j) : Int)]]) ∧
 True) ∧
 true = true ∧ True) ∧
 Bytess (famL x_3) ∧
 ∀ (y : Unit),
 True →
 ∀ (n : Int),
 n = bits BinOp.xor IntKind.u32 (↑(sumN (famL x_2)) : Int) (↑(sumN (famL x_3)) : Int) →
 Exx Fam fun x_4 =>
 ((((0 : Nat) + (1 : Nat) ≤ (1 : Nat) ∧
 1 = x_4.n ∧
 ∀ (i : Nat),
 i < x_4.n →
 (if 0 + i = 0 * 1 / 1 then
 [AV.ro 1 ((↑(linN x) : Int).toNat - 0) fun i =>
 [AV.int IntKind.u8 (↑(x.snd.snd.getD (0 + i) 0) : Int)]]
 else [AV.nils]) =
 [AV.ro 1 (x_4.m i) fun j => [AV.int IntKind.u8 (↑(x_4.f i j) : Int)]]) ∧
 True) ∧
 true = true ∧ True) ∧
 Bytess (famL x_4) ∧
 ∀ (y : Unit),
 True →
 ∀ (n_1 : Int),
 n_1 = bits BinOp.xor IntKind.u32 n (↑(sumN (famL x_4)) : Int) →
 Exx Fam fun x_5 =>
 ((((1 : Nat) = (1 : Nat) ∧
 1 = x_5.n ∧
 1 ≤ [AV.sl 1 [] 0 1 0 (linN x) (linN x)].length ∧
 (0 + linN x ≤ linN x ∧
 linN x = x_5.m 0 ∧
 ∀ (j : Nat),
 j < x_5.m 0 →
 [AV.int IntKind.u8
 (↑(if 0 + j < t then linX x (0 + j) else 0) :
 Int)] =
 [AV.int IntKind.u8 (↑(x_5.f 0 j) : Int)]) ∧
 True) ∧
 True) ∧
 true = true ∧ True) ∧
 Bytess (famL x_5) ∧
 ∀ (y : Unit),
 True →
 ∀ (n : Int),
 n = bits BinOp.xor IntKind.u32 n_1 (↑(sumN (famL x_5)) : Int) →
 Exx Unit fun y =>
 ((decide (n = 0) = true ∧ True) ∧ true = true ∧ True) ∧ True) ∧
 Exx Fam fun x_2 =>
 ((((0 : Nat) + (1 : Nat) ≤ (1 : Nat) ∧
 1 = x_2.n ∧
 ∀ (i : Nat),
 i < x_2.n →
 (if 0 + i = 0 * 1 / 1 then
 [AV.ro 1 ((↑(linN x) : Int).toNat - 0) fun i => [AV.int IntKind.u8 (↑(x.fst.getD (0 + i) 0) : Int)]]
 else [AV.nils]) =
 [AV.ro 1 (x_2.m i) fun j => [AV.int IntKind.u8 (↑(x_2.f i j) : Int)]]) ∧
 True) ∧
 true = true ∧ True) ∧
 Bytess (famL x_2) ∧
 ∀ (y : Unit),
 True →
 Exx Fam fun x_3 =>
 ((((0 : Nat) + (1 : Nat) ≤ (1 : Nat) ∧
 1 = x_3.n ∧
 ∀ (i : Nat),
 i < x_3.n →
 (if 0 + i = 0 * 1 / 1 then
 [AV.ro 1 ((↑(linN x) : Int).toNat - 0) fun i =>
 [AV.int IntKind.u8 (↑(x.snd.fst.getD (0 + i) 0) : Int)]]
 else [AV.nils]) =
 [AV.ro 1 (x_3.m i) fun j => [AV.int IntKind.u8 (↑(x_3.f i j) : Int)]]) ∧
 True) ∧
 true = true ∧ True) ∧
 Bytess (famL x_3) ∧
 ∀ (y : Unit),
 True →
 ∀ (n : Int),
 n = bits BinOp.xor IntKind.u32 (↑(sumN (famL x_2)) : Int) (↑(sumN (famL x_3)) : Int) →
 Exx Fam fun x_4 =>
 ((((0 : Nat) + (1 : Nat) ≤ (1 : Nat) ∧
 1 = x_4.n ∧
 ∀ (i : Nat),
 i < x_4.n →
 (if 0 + i = 0 * 1 / 1 then
 [AV.ro 1 ((↑(linN x) : Int).toNat - 0) fun i =>
 [AV.int IntKind.u8 (↑(x.snd.snd.getD (0 + i) 0) : Int)]]
 else [AV.nils]) =
 [AV.ro 1 (x_4.m i) fun j => [AV.int IntKind.u8 (↑(x_4.f i j) : Int)]]) ∧
 True) ∧
 true = true ∧ True) ∧
 Bytess (famL x_4) ∧
 ∀ (y : Unit),
 True →
 ∀ (n_1 : Int),
 n_1 = bits BinOp.xor IntKind.u32 n (↑(sumN (famL x_4)) : Int) →
 Exx Fam fun x_5 =>
 ((((1 : Nat) = (1 : Nat) ∧
 1 = x_5.n ∧
 1 ≤ [AV.sl 1 [] 0 1 0 (linN x) (linN x)].length ∧
 (0 + linN x ≤ linN x ∧
 linN x = x_5.m 0 ∧
 ∀ (j : Nat),
 j < x_5.m 0 →
 [AV.int IntKind.u8
 (↑(if 0 + j < t then linX x (0 + j) else 0) :
 Int)] =
 [AV.int IntKind.u8 (↑(x_5.f 0 j) : Int)]) ∧
 True) ∧
 True) ∧
 true = true ∧ True) ∧
 Bytess (famL x_5) ∧
 ∀ (y : Unit),
 True →
 ∀ (n : Int),
 n = bits BinOp.xor IntKind.u32 n_1 (↑(sumN (famL x_5)) : Int) →
 Exx Unit fun y =>
 ((decide (n = 0) = true ∧ True) ∧ true = true ∧ True) ∧ True) ∧
 Exx Fam fun x_2 =>
 ((((0 : Nat) + (1 : Nat) ≤ (1 : Nat) ∧
 1 = x_2.n ∧
 ∀ (i : Nat),
 i < x_2.n →
 (if 0 + i = 0 * 1 / 1 then
 [AV.ro 1 ((↑(linN x) : Int).toNat - 0) fun i => [AV.int IntKind.u8 (↑(x.fst.getD (0 + i) 0) : Int)]]
 else [AV.nils]) =
 [AV.ro 1 (x_2.m i) fun j => [AV.int IntKind.u8 (↑(x_2.f i j) : Int)]]) ∧
 True) ∧
 true = true ∧ True) ∧
 Bytess (famL x_2) ∧
 ∀ (y : Unit),
 True →
 Exx Fam fun x_3 =>
 ((((0 : Nat) + (1 : Nat) ≤ (1 : Nat) ∧
 1 = x_3.n ∧
 ∀ (i : Nat),
 i < x_3.n →
 (if 0 + i = 0 * 1 / 1 then
 [AV.ro 1 ((↑(linN x) : Int).toNat - 0) fun i =>
 [AV.int IntKind.u8 (↑(x.snd.fst.getD (0 + i) 0) : Int)]]
 else [AV.nils]) =
 [AV.ro 1 (x_3.m i) fun j => [AV.int IntKind.u8 (↑(x_3.f i j) : Int)]]) ∧
 True) ∧
 true = true ∧ True) ∧
 Bytess (famL x_3) ∧
 ∀ (y : Unit),
 True →
 ∀ (n : Int),
 n = bits BinOp.xor IntKind.u32 (↑(sumN (famL x_2)) : Int) (↑(sumN (famL x_3)) : Int) →
 Exx Fam fun x_4 =>
 ((((0 : Nat) + (1 : Nat) ≤ (1 : Nat) ∧
 1 = x_4.n ∧
 ∀ (i : Nat),
 i < x_4.n →
 (if 0 + i = 0 * 1 / 1 then
 [AV.ro 1 ((↑(linN x) : Int).toNat - 0) fun i =>
 [AV.int IntKind.u8 (↑(x.snd.snd.getD (0 + i) 0) : Int)]]
 else [AV.nils]) =
 [AV.ro 1 (x_4.m i) fun j => [AV.int IntKind.u8 (↑(x_4.f i j) : Int)]]) ∧
 True) ∧
 true = true ∧ True) ∧
 Bytess (famL x_4) ∧
 ∀ (y : Unit),
 True →
 ∀ (n_1 : Int),
 n_1 = bits BinOp.xor IntKind.u32 n (↑(sumN (famL x_4)) : Int) →
 Exx Fam fun x_5 =>
 ((((1 : Nat) = (1 : Nat) ∧
 1 = x_5.n ∧
 1 ≤ [AV.sl 1 [] 0 1 0 (linN x) (linN x)].length ∧
 (0 + linN x ≤ linN x ∧
 linN x = x_5.m 0 ∧
 ∀ (j : Nat),
 j < x_5.m 0 →
 [AV.int IntKind.u8
 (↑(if 0 + j < t then linX x (0 + j) else 0) : Int)] =
 [AV.int IntKind.u8 (↑(x_5.f 0 j) : Int)]) ∧
 True) ∧
 True) ∧
 true = true ∧ True) ∧
 Bytess (famL x_5) ∧
 ∀ (y : Unit),
 True →
 ∀ (n : Int),
 n = bits BinOp.xor IntKind.u32 n_1 (↑(sumN (famL x_5)) : Int) →
 Exx Unit fun y =>
 ((decide (n = 0) = true ∧ True) ∧ true = true ∧ True) ∧ True)))))) =
 (fnVC tb [(18, specOf crcAwakeC), (22, specOf sumFC)] Try.f4 crcLinearC (fun x => { loops := [(6, linL x)], loose := [(9, [1])] }) (fun _ => none)) := by kernel_rfl

theorem crcLinear_ok : SpecOk Try.prog 4 (specOf crcLinearC) := by
  refine specOk mixed tb_ok (SPok.cons crcAwake_ok (SPok.cons sumF_ok SPok.nil)) Try.func4 (by decide) (pureC_ok fun _ => rfl) (an := (fun x => { loops := [(6, linL x)], loose := [(9, [1])] })) (σ := (fun _ => none)) ?_
  rw [← crcLinearV]
  simp only [Exx, Tr_eq, true_and, and_true, exists_const, forall_const, implies_true, forall_eq, exists_eq, exists_eq', exists_eq_left, exists_eq_left', exists_eq_right, Prod.exists, Prod.forall, and_assoc, exists_and_left, BC_iff, Bool.not_eq_true', Bool.not_eq_false', decide_eq_true_eq, decide_eq_false_iff_not, I64, nat_cast_inj, Int.toNat_natCast, nats_iff, nats_iff', ints_iff, ints_iff', natss_iff, natss_iff', nilnil, litL_eq, str_inj, str_append, str_length, str_getD, str_take, lit1_iff, one_iff, two_iff, one_get, Nat.zero_add, Nat.sub_zero, Nat.reduceMul, Nat.reduceDiv, Nat.reduceAdd, Int.reduceToNat, Nat.not_lt_zero, if_false, if_true, Nat.le_refl, List.length_singleton, List.length_cons, List.length_nil, Bool.false_eq_true, not_true_eq_false, false_implies, not_false_eq_true, Prod.mk.injEq]
  rintro a b c ⟨ha, hb, hc⟩ la lb lc
  have l1 : linN (a, b, c) ≤ a.length := by unfold linN; simp only; omega
  have l2 : linN (a, b, c) ≤ b.length := by unfold linN; simp only; omega
  have l3 : linN (a, b, c) ≤ c.length := by unfold linN; simp only; omega
  have en : min (min (a.length : Int) (b.length : Int)) (c.length : Int) = (linN (a, b, c) : Nat) := by unfold linN; simp only; omega
  have bA := take_bytes ha (by omega) (linN (a, b, c))
  have bB := take_bytes hb (by omega) (linN (a, b, c))
  have bC := take_bytes hc (by omega) (linN (a, b, c))
  have sA := one_list l1
  have sB := one_list l2
  have sC := one_list l3
  rw [en]
  clear en
  have hD : ∀ i, i < linN (a, b, c) → linX (a, b, c) i < 256 := fun i hi => by
    have k1 := bytes_get bA i
    have k2 := bytes_get bB i
    have k3 := bytes_get bC i
    rw [take_getD0 hi] at k1 k2 k3
    exact lt256 (lt256 k1 k2) k3
  have eD : (List.range (linN (a, b, c))).map (linX (a, b, c)) = xorL (xorL (a.take (linN (a, b, c))) (b.take (linN (a, b, c)))) (c.take (linN (a, b, c))) := by
    have e1 : (a.take (linN (a, b, c))).length = (b.take (linN (a, b, c))).length := by simp only [List.length_take]; omega
    have e2 : (xorL (a.take (linN (a, b, c))) (b.take (linN (a, b, c)))).length = (c.take (linN (a, b, c))).length := by rw [xorL_len e1]; simp only [List.length_take]; omega
    refine list_ext_getD 0 (by rw [xorL_len e2, xorL_len e1]; simp; omega) fun i hi => ?_
    have hi' : i < linN (a, b, c) := by rw [xorL_len e2, xorL_len e1, List.length_take] at hi; omega
    rw [getD_mapRange, if_pos hi', xorL_getD e2, xorL_getD e1, take_getD0 hi', take_getD0 hi', take_getD0 hi']; rfl
  have bD : Bytes ((List.range (linN (a, b, c))).map (linX (a, b, c))) := ⟨fun x hx => by
    obtain ⟨i, hi, rfl⟩ := List.mem_map.1 hx
    exact hD i (List.mem_range.1 hi), by simp; omega⟩
  have fin : ((sumN [a.take (linN (a, b, c))] ^^^ sumN [b.take (linN (a, b, c))]) ^^^ sumN [c.take (linN (a, b, c))]) ^^^ sumN [(List.range (linN (a, b, c))).map (linX (a, b, c))] = 0 := by
    rw [sum_bits, sum_bits, sum_bits, sum_bits, eD]
    simp only [List.flatten_cons, List.flatten_nil, List.append_nil]
    refine lin_sum ?_ ones
    have e1 : (a.take (linN (a, b, c))).length = (b.take (linN (a, b, c))).length := by simp only [List.length_take]; omega
    have e2 : (xorL (a.take (linN (a, b, c))) (b.take (linN (a, b, c)))).length = (c.take (linN (a, b, c))).length := by rw [xorL_len e1]; simp only [List.length_take]; omega
    rw [bitN_xor e1, bitN_xor e2, Nat.xor_self, Nat.zero_xor]
  have sl : ∀ l : List Nat, Bytes l → sumN [l] < 4294967296 := fun l hl => xor_ones_lt (accN_lt fun m hm => by simp at hm; subst hm; exact hl.1)
  have fini : bits BinOp.xor IntKind.u32 (bits BinOp.xor IntKind.u32 (bits BinOp.xor IntKind.u32 ((sumN [a.take (linN (a, b, c))] : Nat) : Int) ((sumN [b.take (linN (a, b, c))] : Nat) : Int)) ((sumN [c.take (linN (a, b, c))] : Nat) : Int)) ((sumN [(List.range (linN (a, b, c))).map (linX (a, b, c))] : Nat) : Int) = 0 := by
    have x1 := xor32 (sl _ bA) (sl _ bB)
    rw [xor_nat (sl _ bA) (sl _ bB), xor_nat x1 (sl _ bC), xor_nat (xor32 x1 (sl _ bC)) (sl _ bD), fin]; rfl
  clear fin
  have pA : Bytess (famL (one a (linN (a, b, c)))) := by rw [sA]; exact bytess_one bA
  have pB : Bytess (famL (one b (linN (a, b, c)))) := by rw [sB]; exact bytess_one bB
  have pC : Bytess (famL (one c (linN (a, b, c)))) := by rw [sC]; exact bytess_one bC
  have fA := one_fit a (linN (a, b, c))
  have fB := one_fit b (linN (a, b, c))
  have fC := one_fit c (linN (a, b, c))
  rw [← sA, ← sB, ← sC] at fini
  refine ⟨by omega, by omega, by omega, by omega, fun i => i ≤ linN (a, b, c), ⟨0, by omega, rfl, by omega, by omega, rfl, by omega, by omega, fun i _ => rfl⟩, fun i => linN (a, b, c) - i, fun i hi => ⟨fun hlt => ?_, fun hge => ?_⟩⟩
  · have k1 := bytes_get bA i
    have k2 := bytes_get bB i
    have k3 := bytes_get bC i
    have hlt' : i < linN (a, b, c) := by omega
    rw [take_getD0 hlt'] at k1 k2 k3
    have hx : bits BinOp.xor IntKind.u8 (bits BinOp.xor IntKind.u8 ((a.getD i 0 : Nat) : Int) ((b.getD i 0 : Nat) : Int)) ((c.getD i 0 : Nat) : Int) = ((linX (a, b, c) i : Nat) : Int) := by
      rw [bits_xor (k := .u8) rfl k1 k2, bits_xor (k := .u8) rfl (lt256 k1 k2) k3]; rfl
    refine ⟨by omega, by omega, by omega, by omega, by omega, by omega, by omega, by omega, by omega, by omega, by omega, i + 1, by omega, by simp only; omega, by omega, fun j hj => ?_⟩
    rw [hx]
    by_cases e : j = i
    · subst e; rw [if_pos rfl, if_pos (by omega)]
    · rw [if_neg e]
      by_cases e2 : j < i
      · rw [if_pos e2, if_pos (by omega)]
      · rw [if_neg e2, if_neg (by omega)]
  · refine ⟨by omega, by omega, by omega, by omega, by omega, by omega, by omega, by omega, by omega, ?_⟩
    have fD : ∀ j : Nat, j < linN (a, b, c) → [AV.int IntKind.u8 ((if j < i then linX (a, b, c) j else 0 : Nat) : Int)] = [AV.int IntKind.u8 ((linX (a, b, c) j : Nat) : Int)] := fun j hj => by rw [if_pos (by omega)]
    have pD : Bytess (famL ⟨1, fun _ => linN (a, b, c), fun _ j => linX (a, b, c) j⟩) := bytess_one bD
    have fini' : bits BinOp.xor IntKind.u32 (bits BinOp.xor IntKind.u32 (bits BinOp.xor IntKind.u32 ((sumN (famL (one a (linN (a, b, c)))) : Nat) : Int) ((sumN (famL (one b (linN (a, b, c)))) : Nat) : Int)) ((sumN (famL (one c (linN (a, b, c)))) : Nat) : Int)) ((sumN (famL ⟨1, fun _ => linN (a, b, c), fun _ j => linX (a, b, c) j⟩) : Nat) : Int) = 0 := fini
    repeat' (first
      | exact fini'
      | refine ⟨one a (linN (a, b, c)), rfl, fA, pA, ?_⟩
      | refine ⟨one b (linN (a, b, c)), rfl, fB, pB, ?_⟩
      | refine ⟨one c (linN (a, b, c)), rfl, fC, pC, ?_⟩
      | refine ⟨⟨1, fun _ => linN (a, b, c), fun _ j => linX (a, b, c) j⟩, rfl, rfl, fD, pD, ?_⟩
      | refine And.intro ?_ ?_)

end Yard
