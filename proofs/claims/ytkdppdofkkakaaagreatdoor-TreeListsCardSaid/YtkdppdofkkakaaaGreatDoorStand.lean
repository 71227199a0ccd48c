import Derived.Test.YtkdppdofkkakaaaGreatDoorShadow
import Derived.Test.YtkdppdofkkakaaaGreatDoorRefList
import Derived.Test.YtkdppdofkkakaaaGreatDoorAwMath

namespace Yard
open Go Go.Sx Go.Proofs
set_option linter.unusedVariables false
set_option linter.unusedSimpArgs false
set_option maxRecDepth 4000
set_option maxHeartbeats 4000000

def fromL (img : List Nat) : List Nat := wordsN (img.take (64 * min (img.length / 64) 4096))
def devFromC : Ctr where
  X := List Nat
  Y := Unit
  conv := true
  tau := fun _ _ => []
  pre := Oct
  args := fun img => [octA img]
  heap := fun _ => []
  Q := fun _ _ => True
  res := fun _ _ => .ptr 1 [] 0
  its := fun _ _ => []
  new := fun img _ => [devI (fromL img)]
theorem devFromC_ok : CtrOk devFromC :=
  ⟨fun _ _ _ _ => rfl, fun _ _ _ _ => ⟨rfl, rfl⟩, fun x _ _ _ _ => ⟨⟨trivial, trivial, trivial⟩, rfl⟩⟩
def fromRen (F : Fr) (H : AH) : Option Ren := match H[(1 : Nat)]? with
  | some (.cells _ (.sl q _ _ _ _ _ _ :: _)) => some [some 0, some 1, some 2, some q]
  | _ => some [some 0, some 1, some 2, none]
def devFromLA (img : List Nat) : LA := { T := Nat × Nat × Nat, F := fun t => frm 37 [(4, .ptr 1 [] 0), (17, .sl 2 [] 0 1 0 (fromL img).length t.2.1), (18, i64 ((fromL img).length : Nat)), (19, i64 (t.1 : Nat))], H := fun t => [.fence, .cells 135 [.sl 3 [] 0 4 0 t.1 t.2.2, .nils, i64 0, .bool false, .bool false, i64 0, i64 0], rowN 127 .u64 t.2.1 (fromL img), .row 129 4 t.2.2 t.1 (fun j => [u64 ((fromL img).getD j 0), u64 ((fromL img).getD j 0), u64 0, .bool false])], ρ₁ := fromRen, ρ₂ := fromRen }
def ptrSg (av : AV) : Option Ren := match av with
  | .ptr q _ _ => some [some 0, some q]
  | _ => none
theorem devFromV : (
 let q1 : Prop := true = true ∧ NilNil ∧ (0 : Nat) = 0; 
 let q2 : Prop := Tr 1 (Tr 1 ((0 : Int) = 0) ∧ false = false ∧ false = false ∧ Tr 1 ((0 : Int) = 0) ∧ Tr 1 ((0 : Int) = 0) ∧ True); 
 let q3 : Prop := (127 : TypeId) = 127; 
 let q4 : Prop := (135 : TypeId) = 135; 
 let q5 : Prop := (129 : TypeId) = 129; 
 let q6 : List AV := [AV.int .u64 (↑(0 : Nat) : Int), AV.bool false]; 
 let q7 : Nat := (TI.mk (TK.struct [(0, 127), (1, 127), (2, 127), (3, 4)]) 4 32 (ZL.cons (Value.int IntKind.u64 0) (ZL.cons (Value.int IntKind.u64 0) (ZL.cons (Value.int IntKind.u64 0) (ZL.cons (Value.bool false) ZL.nil)))) false).size; ∀ (x : List Nat), 
 let q8 : Int := min ((↑x.length : Int).tdiv 64) 4096 * 64; 
 let q9 : Nat := q8.toNat; Oct x → (64 : Int) ≠ (0 : Int) ∧ I64 ((↑x.length : Int).tdiv 64) ∧ I64 q8 ∧ (0 : Int) ≤ q8 ∧ (0 ≤ q9 ∧ q9 ≤ x.length) ∧ Exx (List Nat) fun x_1 => (((q9 - 0 = x_1.length ∧ ∀ (i : Nat), i < x_1.length → [AV.int .u8 (↑(x.getD (0 + i) 0) : Int)] = [AV.int .u8 (↑(x_1.getD i 0) : Int)]) ∧ True) ∧ true = true ∧ True) ∧ Oct x_1 ∧ ∀ (y : Nat), (wordsN x_1).length ≤ y → Exx (Nat × Nat × Nat → Prop) fun I => Exx (Nat × Nat × Nat → Nat) fun m => (Exx (Nat × Nat × Nat) fun t => I t ∧ Tr 4 (q1 ∧ Tr 12 ((true = true ∧ NilNil ∧ (0 : Nat) = 0 ∧ (1 : Nat) = 1 ∧ (0 : Nat) = 0 ∧ (wordsN x_1).length = (fromL x).length ∧ y = t.2.1) ∧ Tr 1 ((↑(wordsN x_1).length : Int) = (↑(fromL x).length : Int)) ∧ Tr 1 ((0 : Int) = (↑t.1 : Int)) ∧ Tr 17 True)) ∧ true = true ∧ ((135 : Nat) = (135 : TypeId) ∧ (t.1 = 0 ∧ t.2.2 = 0) ∧ q2) ∧ (q3 ∧ (1 : Nat) = 1 ∧ y = t.2.1 ∧ (fromL x).length ≤ (wordsN x_1).length ∧ ∀ (i : Nat), i < (fromL x).length → [AV.int .u64 (↑((wordsN x_1).getD i 0) : Int)] = [AV.int .u64 (↑((fromL x).getD i 0) : Int)]) ∧ (t.2.2 = 0 ∧ t.1 = 0) ∧ True) ∧ ∀ (t : Nat × Nat × Nat), 
 let q10 : Prop := (↑t.1 : Int) < (↑(fromL x).length : Int); 
 let q11 : Nat := 0 + (↑t.1 : Int).toNat; 
 let q12 : Nat := t.1 + 1; 
 let q13 : Int := (↑t.1 : Int) + 1; I t → BC (decide q10) (((0 : Int) ≤ (↑t.1 : Int) ∧ q10) ∧ q11 < (fromL x).length ∧ (0 : Nat) + (1 : Nat) ≤ (1 : Nat) ∧ true = true ∧ (t.1 ≤ t.1 ∧ t.2.2 = t.2.2) ∧ (q12 ≤ 9223372036854775807 ∧ q12 * 32 ≤ 140737488355328) ∧ ∀ (cap : Nat), q12 ≤ cap ∧ cap ≤ 9223372036854775807 → I64 q13 ∧ Exx (Nat × Nat × Nat) fun t' => (I t' ∧ m t' < m t) ∧ Tr 4 (q1 ∧ Tr 12 ((true = true ∧ NilNil ∧ (0 : Nat) = 0 ∧ (1 : Nat) = 1 ∧ (0 : Nat) = 0 ∧ (fromL x).length = (fromL x).length ∧ t.2.1 = t'.snd.1) ∧ Tr 1 ((↑(fromL x).length : Int) = (↑(fromL x).length : Int)) ∧ Tr 1 (q13 = (↑t'.fst : Int)) ∧ Tr 17 True)) ∧ true = true ∧ (q4 ∧ (true = true ∧ NilNil ∧ (0 : Nat) = 0 ∧ (4 : Nat) = 4 ∧ (0 : Nat) = 0 ∧ q12 = t'.fst ∧ cap = t'.snd.2) ∧ q2) ∧ (q3 ∧ (1 : Nat) = 1 ∧ t.2.1 = t'.snd.1 ∧ (fromL x).length ≤ (fromL x).length ∧ ∀ (i : Nat), 
 let q14 : List AV := [AV.int .u64 (↑((fromL x).getD i 0) : Int)]; i < (fromL x).length → q14 = q14) ∧ (q5 ∧ (4 : Nat) = 4 ∧ cap = t'.snd.2 ∧ t'.fst ≤ q12 ∧ ∀ (i : Nat), 
 let q15 : AV := AV.int .u64 (↑((fromL x).getD i 0) : Int); 
 let q16 : List AV := q15 :: q15 :: q6; 
 let q17 : Nat := 0 + (i - t.1); 
 let q18 : Prop := q17 = 0 * 4 / 4; 
 let q19 : AV := AV.int .u64 (if q18 then (↑((fromL x).getD q11 0) : Int) else 0); i < t'.fst → (if i < t.1 then q16 else [q19, q19, AV.int .u64 (if q18 then 0 else 0), AV.bool (if q18 then false else false)]) = q16) ∧ True) (Exx Unit fun y => Exx DevG fun g => Tr 1 ((q4 ∧ (true = true ∧ NilNil ∧ (0 : Nat) = 0 ∧ (4 : Nat) = 4 ∧ (0 : Nat) = 0 ∧ t.1 = (fromL x).length ∧ t.2.2 = g.cap) ∧ Tr 1 (Tr 1 ((0 : Int) = 0) ∧ false = false ∧ false = false ∧ Tr 1 ((0 : Int) = g.left) ∧ Tr 1 ((0 : Int) = g.steps) ∧ True)) ∧ (q5 ∧ (4 : Nat) = 4 ∧ t.2.2 = g.cap ∧ (fromL x).length ≤ t.1 ∧ ∀ (i : Nat), 
 let q20 : AV := AV.int .u64 (↑((fromL x).getD i 0) : Int); i < (fromL x).length → q20 :: q20 :: q6 = [AV.int .u64 (↑(g.la i) : Int), q20, AV.int .u64 (↑(g.se i) : Int), AV.bool (g.fl i)]) ∧ True) ∧ ((q1 ∧ True) ∧ true = true ∧ (devO (fromL x)).ob = devB (fromL x) ∧ True) ∧ True)) = (fnVCo tb [(53, specOf wordsC)] Tryz.f13 devFromC (fun x => { loops := [(4, devFromLA x)] }) (fun _ av _ => ptrSg av) (fun _ => []) (fun x y av H => [(1, [3], devO (fromL x))])) := by kernel_rfl 

theorem devFrom_ok : SpecOk Tryz.prog 13 (specOf devFromC) := by
  refine specOko mixed tb_ok (SPok.cons words_ok SPok.nil) Tryz.func13 (by decide) devFromC_ok (an := (fun x => { loops := [(4, devFromLA x)] })) (σ := (fun _ av _ => ptrSg av)) (op := (fun _ => [])) (cl := (fun x y av H => [(1, [3], devO (fromL x))])) ?_
  rw [← devFromV]
  simp (maxSteps := 10000000) only [std, stdU, stdV, Exx, I64, Nat.reduceMul, Nat.reduceDiv, Nat.reduceAdd, Int.reduceToNat, devB_open, devB_close, devB_inj]
  rintro img ⟨h, hl⟩
  have e1 : ((img.length : Int)).tdiv 64 = ((img.length / 64 : Nat) : Int) := rfl
  have e2 : (min ((img.length / 64 : Nat) : Int) 4096 * 64).toNat = 64 * min (img.length / 64) 4096 := by omega
  have hlt : (img.take (64 * min (img.length / 64) 4096)).length = 64 * min (img.length / 64) 4096 := by rw [List.length_take]; omega
  have hwl : (fromL img).length = 8 * min (img.length / 64) 4096 := by rw [fromL, wordsN_length, hlt]; omega
  rw [e1, e2]
  refine ⟨by omega, by omega, by omega, by omega, by omega, by omega, by omega, by omega, img.take (64 * min (img.length / 64) 4096), hlt.symm, fun i hi => by rw [hlt] at hi; rw [getD_take, if_pos hi], ⟨fun c hc => h c (List.mem_of_mem_take hc), by rw [hlt]; omega⟩, fun y hy => ?_⟩
  refine ⟨fun t => t.1 ≤ (fromL img).length ∧ t.2.1 = y, ⟨0, y, 0, ⟨Nat.zero_le _, rfl⟩, rfl, rfl, rfl, rfl, rfl, rfl, rfl, Nat.le_refl _, fun _ _ => rfl, rfl, rfl⟩, fun t => (fromL img).length - t.1, fun a c d hJ => ⟨fun hlt => ?_, fun hge => ?_⟩⟩
  · obtain ⟨q1, q2⟩ := hJ
    simp only at q1 q2
    refine ⟨by omega, by omega, by omega, by omega, by omega, fun cap hcap => ⟨by omega, by omega, a + 1, c, cap, ⟨by simp only; omega, q2⟩, by simp only; omega, rfl, by omega, rfl, rfl, rfl, rfl, Nat.le_refl _, fun i hi => ?_⟩⟩
    by_cases e : i < a
    · rw [if_pos e]
    · have e4 : i = a := by omega
      subst e4
      rw [if_neg e]
      simp only [Nat.sub_self, if_true]; rfl
  · obtain ⟨q1, q2⟩ := hJ
    simp only at q1 q2
    exact ⟨by omega, { la := fun j => (fromL img).getD j 0, se := fun _ => 0, fl := fun _ => false, cap := d, left := 0, steps := 0 }, rfl, rfl, rfl, rfl, by omega, fun _ _ => rfl⟩

end Yard


namespace Yard
open Go Go.Sx Go.Proofs
set_option linter.unusedVariables false
set_option linter.unusedSimpArgs false
set_option maxRecDepth 4000
set_option maxHeartbeats 4000000

end Yard
