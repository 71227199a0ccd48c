import Derived.Test.YtkdppdofkkakaaaGreatDoorRefPage
import Derived.Test.YtkdppdofkkakaaaGreatDoorTreeList

namespace Yard
open Go Go.Sx Go.Proofs
set_option linter.unusedVariables false
set_option linter.unusedSimpArgs false
set_option maxRecDepth 4000
set_option maxHeartbeats 4000000

def imgOk (img : List Nat) (a : Int) : Prop := 0 ≤ a ∧ a < ((img.length / 64 : Nat) : Int)
instance (img : List Nat) (a : Int) : Decidable (imgOk img a) := by unfold imgOk; infer_instance
def imgL (img : List Nat) (a : Int) : List Nat := if imgOk img a then (img.drop (64 * a.toNat)).take 64 else []
theorem imgL_oct {img : List Nat} (h : Oct img) (a : Int) : Oct (imgL img a) := by
  unfold imgL
  split
  · exact ⟨fun c hc => h.1 c (List.mem_of_mem_drop (List.mem_of_mem_take hc)), by rw [List.length_take]; omega⟩
  · exact ⟨by simp, by simp⟩
theorem imgL_len {img : List Nat} {a : Int} (h : imgOk img a) : (imgL img a).length = 64 := by
  rw [imgL, if_pos h, List.length_take, List.length_drop]
  unfold imgOk at h; omega
def refLineI : Ctr2 where
  X := List Nat × Int
  conv := true
  tau := fun _ _ => []
  pre := fun x => Oct x.1 ∧ I64 x.2
  args := fun x => [strN x.1, i64 x.2]
  heap := fun _ => []
  p := fun x => imgOk x.1 x.2
  a := { Y := Nat, Q := fun _ cap => 64 ≤ cap, res := fun _ cap => .tup [.sl 1 [] 0 1 0 64 cap, .bool true], its := fun _ _ => [], new := fun x _ => [.view 1 64 (fun i => [.int .u8 (((imgL x.1 x.2).getD i 0 : Nat) : Int)])] }
  b := { Y := Unit, Q := fun _ _ => True, res := fun _ _ => .tup [.nils, .bool false], its := fun _ _ => [], new := fun _ _ => [] }

def lineSg (av : AV) : Option Ren := match av with
  | .tup (.sl q _ _ _ _ _ _ :: _) => some [some 0, some q]
  | _ => some [some 0]
theorem refLineV : (∀ (x : List Nat × Int), 
 let q1 : Prop := (0 : Int) ≤ x.2 ∧ x.2 < (↑(x.1.length / 64) : Int); 
 let q2 : Prop := (q1 ∧ Exx Nat fun y => False ∧ Nat.le 64 y) ∨ ¬refLineI.p x ∧ Exx Unit fun y => ((Tr 1 (false = false ∧ True) ∧ True) ∧ true = true ∧ True) ∧ True; 
 let q3 : Int := (↑(cstr x.1).length : Int).tdiv 64; 
 let q4 : Int := 64 * x.2; 
 let q5 : Prop := I64 q4; 
 let q6 : Int := q4 + 64; 
 let q7 : Nat := q4.toNat; 
 let q8 : Nat := q6.toNat; 
 let q9 : List Int := List.drop q7 (List.take q8 (cstr x.1)); 
 let q10 : Nat := q9.length; Oct x.1 ∧ I64 x.2 → BC (decide (x.2 < (0 : Int))) q2 ((64 : Int) ≠ (0 : Int) ∧ I64 q3 ∧ BC (decide (q3 ≤ x.2)) q2 (q5 ∧ q5 ∧ I64 q6 ∧ (0 : Int) ≤ q6 ∧ (0 : Int) ≤ q4 ∧ (q7 ≤ q8 ∧ q8 ≤ (cstr x.1).length) ∧ q10 ≤ 9223372036854775807 ∧ ∀ (cap : Nat), q10 ≤ cap ∧ cap ≤ 9223372036854775807 → (q1 ∧ Exx Nat fun y => ((((true = true ∧ NilNil ∧ (0 : Nat) = 0 ∧ (1 : Nat) = 1 ∧ (0 : Nat) = 0 ∧ q10 = 64 ∧ cap = y) ∧ true = true ∧ True) ∧ True) ∧ true = true ∧ ((1 : Nat) = 1 ∧ 64 ≤ q10 ∧ ∀ (i : Nat), i < 64 → [AV.int .u8 (q9.getD i 0)] = [AV.int .u8 (↑((imgL x.1 x.2).getD i 0) : Int)]) ∧ True) ∧ Nat.le 64 y) ∨ ¬refLineI.p x ∧ Exx Unit fun y => False ∧ True))) = (fnVC2 tb [] Tryz.f74 refLineI (fun _ => {}) (fun _ av _ => lineSg av) (fun _ => []) (fun _ _ _ _ => []) (fun _ _ _ _ => [])) := by kernel_rfl 

theorem refLine_ok : SpecOk Tryz.prog 74 (specIf refLineI) := by
  refine specIfo mixed tb_ok SPok.nil Tryz.func74 (by decide) ⟨fun _ _ _ _ => rfl, fun _ _ _ _ => ⟨rfl, rfl⟩, fun x _ _ _ _ => ⟨⟨trivial, ⟨⟨fun _ _ => ⟨rfl, trivial⟩, trivial⟩, trivial⟩⟩, rfl, rfl, trivial⟩⟩ ⟨fun _ _ _ _ => rfl, fun _ _ _ _ => ⟨rfl, rfl⟩, fun x _ _ _ _ => ⟨⟨trivial, trivial⟩, rfl, rfl, trivial⟩⟩ (an := (fun _ => {})) (σ := (fun _ av _ => lineSg av)) (op := (fun _ => [])) (clA := (fun _ _ _ _ => [])) (clB := (fun _ _ _ _ => [])) ?_
  rw [← refLineV]
  simp (maxSteps := 10000000) only [std, stdU, stdV, Exx, I64, Nat.reduceMul, Nat.reduceDiv, Nat.reduceAdd, Int.reduceToNat]
  rintro img a ⟨⟨hi, hl⟩, h1, h2⟩
  have e1 : ((img.length : Int)).tdiv 64 = ((img.length / 64 : Nat) : Int) := rfl
  rw [e1]
  refine ⟨fun h k => ?_, fun h0 => ⟨by omega, by omega, by omega, fun h k => ?_, fun h => ?_⟩⟩
  · have : imgOk img a := k
    unfold imgOk at this; omega
  · have : imgOk img a := k
    unfold imgOk at this; omega
  · have hk : imgOk img a := ⟨by omega, by omega⟩
    have e2 : (64 * a).toNat = 64 * a.toNat := by omega
    have e3 : (64 * a + 64).toNat = 64 * a.toNat + 64 := by omega
    have e4 : (img.take (64 * a.toNat + 64)).drop (64 * a.toNat) = imgL img a := by
      rw [imgL, if_pos hk, List.drop_take]; congr 1; omega
    have h64 := imgL_len hk
    rw [e2, e3, e4, h64]
    exact ⟨by omega, by omega, by omega, by omega, by omega, by omega, by omega, by omega, by omega, by omega, by omega, fun cap hc => ⟨by omega, by omega, rfl, by omega, fun _ _ => rfl, hc.1⟩⟩
theorem imgL_no {img : List Nat} {a : Int} (h : ¬ imgOk img a) : imgL img a = [] := by rw [imgL, if_neg h]
theorem not_node : ¬ isNode [] := fun k => by have := k.1.1; simp at this

def imgNodeC : Ctr := rowJC (List Nat × Int) (fun x => Oct x.1 ∧ I64 x.2) (fun x => [strN x.1, i64 x.2]) 3 .i64 (fun x => (getNodeT (imgL x.1 x.2)).kids) (fun x r => .tup [nodeRA (getNodeT (imgL x.1 x.2)) r, .bool (decide (isNode (imgL x.1 x.2)))])
theorem imgNodeC_ok : CtrOk imgNodeC := rowJC_ok fun _ _ _ => ⟨⟨rfl, rfl, rfl, rfl, rfl, trivial⟩, rfl, trivial⟩
theorem imgNodeV : (∀ (x : List Nat × Int), 
 let q1 : Bool := decide (isNode (imgL x.1 x.2)); 
 let q2 : Prop := (getNodeT (imgL x.1 x.2)).kids.length = 0; Oct x.1 ∧ I64 x.2 → Exx (List Nat × Int) fun x_1 => ((cstr x.1 = cstr x_1.1 ∧ Tr 1 (x.2 = x_1.2) ∧ True) ∧ true = true ∧ True) ∧ (Oct x_1.1 ∧ I64 x_1.2) ∧ ((0 : Int) ≤ x_1.2 ∧ x_1.2 < (↑(x_1.1.length / 64) : Int) → ∀ (y : Nat), Nat.le 64 y → Exx (List Nat) fun x_2 => ((((0 : Nat) + (64 : Nat) ≤ (64 : Nat) ∧ 64 = x_2.length ∧ ∀ (i : Nat), i < x_2.length → [AV.int .u8 (↑((imgL x_1.1 x_1.2).getD (0 + i) 0) : Int)] = [AV.int .u8 (↑(x_2.getD i 0) : Int)]) ∧ True) ∧ true = true ∧ True) ∧ Oct x_2 ∧ ∀ (y : Nat), (getNodeT x_2).kids.length ≤ y ∧ y ≤ 9223372036854775807 → Exx Nat fun y_1 => ((((Tr 1 ((getNodeT x_2).e.slot = (getNodeT (imgL x.1 x.2)).e.slot) ∧ Tr 1 ((getNodeT x_2).e.gen = (getNodeT (imgL x.1 x.2)).e.gen) ∧ Tr 1 ((getNodeT x_2).e.key = (getNodeT (imgL x.1 x.2)).e.key) ∧ Tr 1 ((getNodeT x_2).e.value = (getNodeT (imgL x.1 x.2)).e.value) ∧ (true = true ∧ NilNil ∧ (0 : Nat) = 0 ∧ (1 : Nat) = 1 ∧ (0 : Nat) = 0 ∧ (getNodeT x_2).kids.length = (getNodeT (imgL x.1 x.2)).kids.length ∧ y = y_1) ∧ True) ∧ decide (isNode x_2) = q1 ∧ True) ∧ True) ∧ true = true ∧ ((3 : TypeId) = 3 ∧ (1 : Nat) = 1 ∧ y = y_1 ∧ (getNodeT (imgL x.1 x.2)).kids.length ≤ (getNodeT x_2).kids.length ∧ ∀ (i : Nat), i < (getNodeT (imgL x.1 x.2)).kids.length → [AV.int .i64 ((getNodeT x_2).kids.getD i 0)] = [AV.int .i64 ((getNodeT (imgL x.1 x.2)).kids.getD i 0)]) ∧ True) ∧ (getNodeT (imgL x.1 x.2)).kids.length ≤ y_1 ∧ y_1 ≤ 9223372036854775807) ∧ (¬refLineI.p x_1 → ∀ (y : Unit), True → Exx Nat fun y => ((((Tr 1 ((0 : Int) = (getNodeT (imgL x.1 x.2)).e.slot) ∧ Tr 1 ((0 : Int) = (getNodeT (imgL x.1 x.2)).e.gen) ∧ Tr 1 ((0 : Int) = (getNodeT (imgL x.1 x.2)).e.key) ∧ Tr 1 ((0 : Int) = (getNodeT (imgL x.1 x.2)).e.value) ∧ (q2 ∧ y = 0) ∧ True) ∧ false = q1 ∧ True) ∧ True) ∧ true = true ∧ (y = 0 ∧ q2) ∧ True) ∧ (getNodeT (imgL x.1 x.2)).kids.length ≤ y ∧ y ≤ 9223372036854775807)) = (fnVCo tb [(74, specIf refLineI), (75, specOf refGetNodeC)] Tryz.f33 imgNodeC (fun _ => {}) (fun _ av _ => aggSl1 av) (fun _ => []) (fun _ _ _ _ => [])) := by kernel_rfl 

theorem imgNode_ok : SpecOk Tryz.prog 33 (specOf imgNodeC) := by
  refine specOko mixed tb_ok (SPok.cons refLine_ok (SPok.cons refGetNode_ok SPok.nil)) Tryz.func33 (by decide) imgNodeC_ok (an := (fun _ => {})) (σ := (fun _ av _ => aggSl1 av)) (op := (fun _ => [])) (cl := (fun _ _ _ _ => [])) ?_
  rw [← imgNodeV]
  simp (maxSteps := 10000000) only [std, stdU, stdV, Exx, I64, Nat.reduceMul, Nat.reduceDiv, Nat.reduceAdd, Int.reduceToNat]
  rintro img a ⟨h, h1, h2⟩
  refine ⟨h, h1, h2, fun hk y hy => ⟨imgL img a, (imgL_len hk).symm, fun _ _ => rfl, imgL_oct h a, fun y2 hy2 => ⟨rfl, rfl, rfl, rfl, rfl, rfl, Nat.le_refl _, fun _ _ => rfl, hy2.1, hy2.2⟩⟩, fun hk => ?_⟩
  rw [imgL_no (show ¬ imgOk img a from hk), getNodeT, if_neg not_node]
  exact ⟨rfl, rfl, rfl, rfl, rfl, (decide_eq_false not_node).symm, rfl, Nat.le_refl _, by omega⟩

end Yard


namespace Yard
open Go Go.Sx Go.Proofs
set_option linter.unusedVariables false
set_option linter.unusedSimpArgs false
set_option maxRecDepth 4000
set_option maxHeartbeats 4000000

def imgN (img : List Nat) (a : Int) : Option NodeT := if isNode (imgL img a) then some (nodeB (imgL img a)) else none
theorem imgN_I {img : List Nat} {a : Int} {n : NodeT} (h : imgN img a = some n) : NodeI n ∧ nodeOk n := by
  unfold imgN at h
  split at h
  · rename_i hn
    cases h
    exact ⟨(nodeB_I _).2 (by have := hn.2.2.1; omega), hn.2.2.2.1⟩
  · cases h
end Yard


namespace Yard
open Go Go.Sx Go.Proofs
set_option linter.unusedVariables false
set_option linter.unusedSimpArgs false
set_option maxRecDepth 4000
set_option maxHeartbeats 4000000

def listH (N : Int → Option NodeT) : Nat → List EntT → List Int → List EntT × Bool
  | 0, out, [] => (out, true)
  | _ + 1, out, [] => (out, true)
  | 0, _, _ :: _ => ([], false)
  | n + 1, out, a :: r => match N a with
    | none => ([], false)
    | some x => listH N n (out ++ [x.e]) (x.kids ++ r)
def imgList (img : List Nat) (a : Int) : List EntT × Bool := listH (imgN img) 1792 [] [a]
def refListC : Ctr where
  X := List Nat × Int
  Y := Nat
  conv := true
  tau := fun _ _ => []
  pre := fun x => Oct x.1 ∧ I64 x.2
  args := fun x => [strN x.1, i64 x.2]
  heap := fun _ => []
  Q := fun x cap => (imgList x.1 x.2).1.length ≤ cap ∧ cap ≤ 9223372036854775807
  res := fun x cap => .tup [.sl 1 [] 0 4 0 (imgList x.1 x.2).1.length cap, .bool (imgList x.1 x.2).2]
  its := fun _ _ => []
  new := fun x cap => [entR cap (imgList x.1 x.2).1]
theorem refListC_ok : CtrOk refListC :=
  ⟨fun _ _ _ _ => rfl, fun _ _ _ _ => ⟨rfl, rfl⟩, fun x _ _ _ _ => ⟨⟨trivial, ⟨⟨fun _ _ => ⟨rfl, rfl, rfl, rfl, trivial⟩, trivial⟩, trivial⟩⟩, rfl, rfl, trivial⟩⟩
def refListRen (F : Fr) (_ : AH) : Option Ren := match F.getD 6 .any, F.getD 7 .any with
  | .sl q _ _ _ _ _ _, .sl r _ _ _ _ _ _ => some [some 0, some q, some r]
  | _, .sl r _ _ _ _ _ _ => some [some 0, none, some r]
  | .sl q _ _ _ _ _ _, _ => some [some 0, some q, none]
  | _, _ => none
def refListLA (x : List Nat × Int) : LA := { T := (List EntT × Nat) × (List Int × Nat), F := fun t => frm 43 [(0, strN x.1), (6, .sl 1 [] 0 4 0 t.1.1.length t.1.2), (7, .sl 2 [] 0 1 0 t.2.1.length t.2.2)], H := fun t => [.fence, entR t.1.2 t.1.1, rowI 3 .i64 t.2.2 t.2.1], ρ₁ := refListRen, ρ₂ := refListRen }

theorem snocE (l : List EntT) (e : EntT) : ∀ i, i < (l ++ [e]).length → (if i < l.length then [i64 (l.getD i entZ).slot, i64 (l.getD i entZ).gen, i64 (l.getD i entZ).key, i64 (l.getD i entZ).value] else i64 (if i - l.length = 0 then e.slot else 0) :: i64 (if i - l.length = 0 then e.gen else 0) :: i64 (if i - l.length = 0 then e.key else 0) :: if i - l.length = 0 then [i64 e.value] else [i64 0]) = [i64 ((l ++ [e]).getD i entZ).slot, i64 ((l ++ [e]).getD i entZ).gen, i64 ((l ++ [e]).getD i entZ).key, i64 ((l ++ [e]).getD i entZ).value] := fun i hi => by
  rw [getD_append]
  rw [List.length_append] at hi
  simp only [List.length_cons, List.length_nil] at hi
  by_cases e1 : i < l.length
  · rw [if_pos e1, if_pos e1]
  · have e2 : i - l.length = 0 := by omega
    rw [if_neg e1, if_neg e1, if_pos e2, if_pos e2, if_pos e2, if_pos e2, e2]; rfl
theorem refListV : (
 let q1 : Prop := (3 : TypeId) = 3; 
 let q2 : Nat := (TI.mk (TK.int IntKind.i64) 1 8 (ZL.cons (Value.int IntKind.i64 0) ZL.nil) false).size; 
 let q3 : Nat := 0 + Int.toNat 0; 
 let q4 : Nat := 0 + Int.toNat 1; 
 let q5 : Prop := (77 : TypeId) = 77; 
 let q6 : Nat := (TI.mk (TK.struct [(0, 67), (2, 3), (3, 3)]) 4 32 (ZL.cons (Value.int IntKind.i64 0) (ZL.cons (Value.int IntKind.i64 0) (ZL.cons (Value.int IntKind.i64 0) (ZL.cons (Value.int IntKind.i64 0) ZL.nil)))) true).size; ∀ (x : List Nat × Int), 
 let q7 : Nat := (imgList x.1 x.2).1.length; 
 let q8 : Prop := q7 = 0; 
 let q9 : Prop := Exx Nat fun y => ((((q8 ∧ y = 0) ∧ false = (imgList x.1 x.2).2 ∧ True) ∧ True) ∧ true = true ∧ (y = 0 ∧ q8) ∧ True) ∧ q7 ≤ y ∧ y ≤ 9223372036854775807; Oct x.1 ∧ I64 x.2 → Exx ((List EntT × Nat) × List Int × Nat → Prop) fun I => Exx ((List EntT × Nat) × List Int × Nat → Nat) fun m => (Exx ((List EntT × Nat) × List Int × Nat) fun t => 
 let q10 : Prop := t.1.1.length = 0; 
 let q11 : Prop := t.1.2 = 0; 
 let q12 : Prop := 1 = t.2.2; I t ∧ (cstr x.1 = cstr x.1 ∧ Tr 5 ((q10 ∧ q11) ∧ (true = true ∧ NilNil ∧ (0 : Nat) = 0 ∧ (1 : Nat) = 1 ∧ (0 : Nat) = 0 ∧ 1 = t.2.1.length ∧ q12) ∧ Tr 35 True)) ∧ true = true ∧ (q11 ∧ q10) ∧ (q1 ∧ (1 : Nat) = 1 ∧ q12 ∧ t.2.1.length ≤ 1 ∧ ∀ (i : Nat), i < t.2.1.length → [AV.int .i64 (if i = 0 * 1 / 1 then x.2 else 0)] = [AV.int .i64 (t.2.1.getD i 0)]) ∧ True) ∧ ∀ (t : (List EntT × Nat) × List Int × Nat), 
 let q13 : Int := (↑t.2.1.length : Int); 
 let q14 : Prop := (0 : Int) < q13; 
 let q15 : Int := (↑t.1.1.length : Int); 
 let q16 : Nat := t.1.1.length + 1; 
 let q17 : Nat := t.2.1.length - Int.toNat 1; I t → BC (decide q14) (((0 : Int) ≤ (0 : Int) ∧ q14) ∧ q3 < t.2.1.length ∧ Exx (List Nat × Int) fun x_1 => 
 let q18 : Nat := 0 + (getNodeT (imgL x_1.1 x_1.2)).kids.length; 
 let q19 : Nat := q18 + q17; ((cstr x.1 = cstr x_1.1 ∧ Tr 1 (t.2.1.getD q3 0 = x_1.2) ∧ True) ∧ true = true ∧ True) ∧ (Oct x_1.1 ∧ I64 x_1.2) ∧ ∀ (y : Nat), (getNodeT (imgL x_1.1 x_1.2)).kids.length ≤ y ∧ y ≤ 9223372036854775807 → BC (!decide (isNode (imgL x_1.1 x_1.2))) q9 (BC (decide (q15 = (1792 : Int))) q9 ((0 : Nat) + (1 : Nat) ≤ (1 : Nat) ∧ true = true ∧ (t.1.1.length ≤ t.1.1.length ∧ t.1.2 = t.1.2) ∧ (q16 ≤ 9223372036854775807 ∧ q16 * 32 ≤ 140737488355328) ∧ ∀ (cap : Nat), q16 ≤ cap ∧ cap ≤ 9223372036854775807 → (0 : Int) ≤ (1 : Int) ∧ (Int.toNat 1 ≤ t.2.1.length ∧ t.2.1.length ≤ t.2.2) ∧ q18 ≤ (getNodeT (imgL x_1.1 x_1.2)).kids.length ∧ true = true ∧ ((0 : Nat) ≤ (0 : Nat) ∧ (0 : Nat) = 0) ∧ (q18 ≤ 9223372036854775807 ∧ q18 * 8 ≤ 140737488355328) ∧ ∀ (cap_1 : Nat), q18 ≤ cap_1 ∧ cap_1 ≤ 9223372036854775807 → q4 + q17 ≤ t.2.1.length ∧ true = true ∧ (q18 ≤ q18 ∧ cap_1 = cap_1) ∧ (q19 ≤ 9223372036854775807 ∧ q19 * 8 ≤ 140737488355328) ∧ ∀ (cap_2 : Nat), q19 ≤ cap_2 ∧ cap_2 ≤ 9223372036854775807 → Exx ((List EntT × Nat) × List Int × Nat) fun t' => (I t' ∧ m t' < m t) ∧ (cstr x.1 = cstr x.1 ∧ Tr 5 ((true = true ∧ NilNil ∧ (0 : Nat) = 0 ∧ (4 : Nat) = 4 ∧ (0 : Nat) = 0 ∧ q16 = t'.fst.1.length ∧ cap = t'.fst.2) ∧ (true = true ∧ NilNil ∧ (0 : Nat) = 0 ∧ (1 : Nat) = 1 ∧ (0 : Nat) = 0 ∧ q19 = t'.snd.1.length ∧ cap_2 = t'.snd.2) ∧ Tr 35 True)) ∧ true = true ∧ (q5 ∧ (4 : Nat) = 4 ∧ cap = t'.fst.2 ∧ t'.fst.1.length ≤ q16 ∧ ∀ (i : Nat), 
 let q20 : EntT := t.1.1.getD i entZ; 
 let q21 : Nat := 0 + (i - t.1.1.length); 
 let q22 : Prop := q21 = 0 * 4 / 4; 
 let q23 : EntT := t'.fst.1.getD i entZ; i < t'.fst.1.length → (if i < t.1.1.length then [AV.int .i64 q20.slot, AV.int .i64 q20.gen, AV.int .i64 q20.key, AV.int .i64 q20.value] else [AV.int .i64 (if q22 then (getNodeT (imgL x_1.1 x_1.2)).e.slot else 0), AV.int .i64 (if q22 then (getNodeT (imgL x_1.1 x_1.2)).e.gen else 0), AV.int .i64 (if q22 then (getNodeT (imgL x_1.1 x_1.2)).e.key else 0), AV.int .i64 (if q22 then (getNodeT (imgL x_1.1 x_1.2)).e.value else 0)]) = [AV.int .i64 q23.slot, AV.int .i64 q23.gen, AV.int .i64 q23.key, AV.int .i64 q23.value]) ∧ (q1 ∧ (1 : Nat) = 1 ∧ cap_2 = t'.snd.2 ∧ t'.snd.1.length ≤ q19 ∧ ∀ (i : Nat), i < t'.snd.1.length → (if i < q18 then if i < 0 then [] else [AV.int .i64 ((getNodeT (imgL x_1.1 x_1.2)).kids.getD (0 + (i - 0)) 0)] else [AV.int .i64 (t.2.1.getD (q4 + (i - q18)) 0)]) = [AV.int .i64 (t'.snd.1.getD i 0)]) ∧ True))) (Exx Nat fun y => ((((true = true ∧ NilNil ∧ (0 : Nat) = 0 ∧ (4 : Nat) = 4 ∧ (0 : Nat) = 0 ∧ t.1.1.length = q7 ∧ t.1.2 = y) ∧ true = (imgList x.1 x.2).2 ∧ True) ∧ True) ∧ true = true ∧ (q5 ∧ (4 : Nat) = 4 ∧ t.1.2 = y ∧ q7 ≤ t.1.1.length ∧ ∀ (i : Nat), 
 let q24 : EntT := t.1.1.getD i entZ; 
 let q25 : EntT := (imgList x.1 x.2).1.getD i entZ; i < q7 → [AV.int .i64 q24.slot, AV.int .i64 q24.gen, AV.int .i64 q24.key, AV.int .i64 q24.value] = [AV.int .i64 q25.slot, AV.int .i64 q25.gen, AV.int .i64 q25.key, AV.int .i64 q25.value]) ∧ True) ∧ q7 ≤ y ∧ y ≤ 9223372036854775807)) = (fnVCo tb [(33, specOf imgNodeC)] Tryz.f35 refListC (fun x => { loops := [(3, refListLA x)], loose := [(8, [2, 3])] }) (fun _ av _ => tupSl1 av) (fun _ => []) (fun _ _ _ _ => [])) := by kernel_rfl 

theorem refList_ok : SpecOk Tryz.prog 35 (specOf refListC) := by
  refine specOko mixed tb_ok (SPok.cons imgNode_ok SPok.nil) Tryz.func35 (by decide) refListC_ok (an := (fun x => { loops := [(3, refListLA x)], loose := [(8, [2, 3])] })) (σ := (fun _ av _ => tupSl1 av)) (op := (fun _ => [])) (cl := (fun _ _ _ _ => [])) ?_
  rw [← refListV]
  simp (maxSteps := 10000000) only [std, stdU, stdV, Exx, I64, Nat.reduceMul, Nat.reduceDiv, Nat.reduceAdd, Int.reduceToNat]
  rintro img a ⟨h, h1, h2⟩
  have bad : imgList img a = ([], false) → ((imgList img a).1.length = 0 ∧ false = (imgList img a).2 ∧ (imgList img a).1.length = 0 ∧ (imgList img a).1.length ≤ 0 ∧ (0 : Nat) ≤ 9223372036854775807) := fun he => by
    rw [he]; exact ⟨rfl, rfl, rfl, Nat.le_refl _, by omega⟩
  refine ⟨fun t => t.1.1.length ≤ t.1.2 ∧ t.1.2 ≤ 9223372036854775807 ∧ t.2.1.length ≤ t.2.2 ∧ (∀ c ∈ t.2.1, I64 c) ∧ t.1.1.length ≤ 1792 ∧ t.2.1.length ≤ 1 + 12 * t.1.1.length ∧ imgList img a = listH (imgN img) (1792 - t.1.1.length) t.1.1 t.2.1,
    ⟨[], 0, [a], 1, ⟨Nat.le_refl _, by simp only; omega, Nat.le_refl _, fun c hc => (List.mem_singleton.1 hc) ▸ ⟨h1, h2⟩, by simp, by simp, rfl⟩, rfl, rfl, rfl, rfl, rfl, rfl, rfl, Nat.le_refl _, fun i hi => ?_⟩, fun t => 1793 - t.1.1.length, fun out b todo c hJ => ⟨fun hlt => ?_, fun hge => ?_⟩⟩
  · have : i = 0 := by simp at hi; exact hi
    subst this; rfl
  · obtain ⟨q1, q2, q3, q4, q5, q6, q7⟩ := hJ
    simp only at q1 q2 q3 q4 q5 q6 q7
    cases todo with
    | nil => simp at hlt
    | cons x r =>
      have hx : I64 x := q4 x (List.mem_cons_self ..)
      have e0 : (x :: r).getD 0 0 = x := rfl
      rw [e0]
      simp only [List.length_cons] at q3 q6 hlt ⊢
      refine ⟨by omega, by omega, by omega, h, hx.1, hx.2, fun y hy => ⟨fun hn => bad ?_, fun hN => ?_⟩⟩
      · rw [q7]
        cases 1792 - out.length with
        | zero => rfl
        | succ n => rw [listH, imgN, if_neg hn]
      · have eN : imgN img x = some (nodeB (imgL img x)) := by rw [imgN, if_pos hN]
        have eT : getNodeT (imgL img x) = nodeB (imgL img x) := by rw [getNodeT, if_pos hN]
        have hI := imgN_I eN
        rw [eT] at hy ⊢
        have hk : (nodeB (imgL img x)).kids.length ≤ 12 := hI.2.2.2.2.2.1
        generalize nodeB (imgL img x) = n at *
        refine ⟨fun h3 => bad ?_, fun h3 => ?_⟩
        · rw [q7, show 1792 - out.length = 0 by omega]; rfl
        · have hn : 1792 - out.length = (1791 - out.length) + 1 := by omega
          rw [hn, listH, eN] at q7
          simp only at q7
          refine ⟨by omega, by omega, fun cap hcap => ⟨by omega, by omega, by omega, by omega, by omega, fun cap1 hcap1 => ⟨by omega, by omega, by omega, fun cap2 hcap2 => ⟨out ++ [n.e], cap, n.kids ++ r, cap2, ⟨by simp only [List.length_append, List.length_cons, List.length_nil]; omega, hcap.2, by simp only [List.length_append]; omega, fun c hc => ?_, by simp only [List.length_append, List.length_cons, List.length_nil]; omega, by simp only [List.length_append, List.length_cons, List.length_nil]; omega, ?_⟩, by simp only [List.length_append, List.length_cons, List.length_nil]; omega, by simp, rfl, by simp, rfl, rfl, by simp, snocE out n.e, rfl, by simp, fun i hi => ?_⟩⟩⟩⟩
          · rcases List.mem_append.1 hc with k | k
            · exact hI.1.2.1 c k
            · exact q4 c (List.mem_cons_of_mem _ k)
          · rw [q7]
            simp only [List.length_append, List.length_cons, List.length_nil]
            rw [show 1791 - out.length = 1792 - (out.length + 1) by omega]
          · rw [getD_append]
            by_cases e : i < n.kids.length
            · rw [if_pos e, if_pos e]
            · rw [if_neg e, if_neg e, Nat.add_comm 1, List.getD_cons_succ]
  · obtain ⟨q1, q2, q3, q4, q5, q6, q7⟩ := hJ
    simp only at q1 q2 q3 q4 q5 q6 q7
    have h0 : todo = [] := List.eq_nil_of_length_eq_zero (by omega)
    have e : imgList img a = (out, true) := by
      rw [q7, h0]
      cases 1792 - out.length <;> rfl
    rw [e]
    exact ⟨rfl, rfl, Nat.le_refl _, fun _ _ => rfl, q1, q2⟩

def refIntsC : Ctr := pureC (List Int × List Int) (fun x => KidsI x.1 ∧ KidsI x.2) (fun x => [kidsA x.1, kidsA x.2]) (fun x => .bool (decide (x.1 = x.2)))
def refIntsLA (x : List Int × List Int) : LA := { T := Nat, F := fun i => frm 26 [(0, kidsA x.1), (1, kidsA x.2), (5, i64 (i : Nat))], H := fun _ => [.fence] }
theorem refIntsV : (∀ (x : List Int × List Int), 
 let q1 : Bool := decide (x.1 = x.2); 
 let q2 : Prop := Exx Unit fun y => ((false = q1 ∧ True) ∧ true = true ∧ True) ∧ True; 
 let q4 : Prop := (1 : Nat) = 1 ∧ x.1.length = x.1.length ∧ ∀ (i : Nat), 
 let q3 : List AV := [AV.int .i64 (x.1.getD i 0)]; i < x.1.length → q3 = q3; 
 let q6 : Prop := (1 : Nat) = 1 ∧ x.2.length = x.2.length ∧ ∀ (i : Nat), 
 let q5 : List AV := [AV.int .i64 (x.2.getD i 0)]; i < x.2.length → q5 = q5; KidsI x.1 ∧ KidsI x.2 → BC (!decide ((↑x.1.length : Int) = (↑x.2.length : Int))) q2 (Exx (Nat → Prop) fun I => Exx (Nat → Nat) fun m => (Exx Nat fun t => I t ∧ (q4 ∧ q6 ∧ Tr 3 (Tr 1 ((0 : Int) = (↑t : Int)) ∧ Tr 20 True)) ∧ true = true ∧ True) ∧ ∀ (t : Nat), 
 let q7 : Prop := (↑t : Int) < (↑x.1.length : Int); 
 let q8 : Int := x.1.getD (↑t : Int).toNat 0; 
 let q9 : Int := x.2.getD (↑t : Int).toNat 0; 
 let q10 : Int := (↑t : Int) + 1; I t → BC (decide q7) (((0 : Int) ≤ (↑t : Int) ∧ q7) ∧ ((0 : Int) ≤ (↑t : Int) ∧ (↑t : Int) < (↑x.2.length : Int)) ∧ BC (!decide (q8 = q9)) q2 (I64 q10 ∧ Exx Nat fun t' => (I t' ∧ m t' < m t) ∧ (q4 ∧ q6 ∧ Tr 3 (Tr 1 (q10 = (↑t' : Int)) ∧ Tr 20 True)) ∧ true = true ∧ True)) (Exx Unit fun y => ((true = q1 ∧ True) ∧ true = true ∧ True) ∧ True))) = (fnVC tb [] Tryz.f19 refIntsC (fun x => { loops := [(4, refIntsLA x)] }) (fun _ => none)) := by kernel_rfl 

theorem refInts_ok : SpecOk Tryz.prog 19 (specOf refIntsC) := by
  refine specOk mixed tb_ok SPok.nil Tryz.func19 (by decide) (pureC_ok fun _ => rfl) (an := (fun x => { loops := [(4, refIntsLA x)] })) (σ := (fun _ => none)) ?_
  rw [← refIntsV]
  simp (maxSteps := 10000000) only [std, stdU, stdV, Exx, I64, Nat.reduceMul, Nat.reduceDiv, Nat.reduceAdd, Int.reduceToNat]
  rintro l q ⟨⟨h1, h2⟩, h3, h4⟩
  refine ⟨fun h => (decide_eq_false (fun e => h (by rw [e]))).symm, fun he => ⟨fun i => i ≤ l.length ∧ ∀ j, j < i → l.getD j 0 = q.getD j 0, ⟨0, ⟨by omega, fun j hj => absurd hj (Nat.not_lt_zero _)⟩, rfl⟩, fun i => l.length - i, fun i hi => ⟨fun hlt => ⟨by omega, by omega, by omega, by omega, fun h => (decide_eq_false (fun e => h (by rw [e]))).symm, fun h => ⟨by omega, by omega, i + 1, ⟨by omega, fun j hj => ?_⟩, by simp only; omega, by omega⟩⟩, fun hge => (decide_eq_true (list_eq_of 0 he fun j hj => hi.2 j (by omega))).symm⟩⟩⟩
  by_cases e : j = i
  · subst e; exact h
  · exact hi.2 j (by omega)

def refSameC : Ctr := pureC (NodeT × NodeT) (fun x => NodeI x.1 ∧ NodeI x.2) (fun x => [nodeA x.1, nodeA x.2]) (fun x => .bool (decide (x.1.e = x.2.e ∧ x.1.kids = x.2.kids)))
theorem refSameV : (∀ (x : NodeT × NodeT), 
 let q1 : Bool := decide (x.1.e = x.2.e ∧ x.1.kids = x.2.kids); NodeI x.1 ∧ NodeI x.2 → (Tr 2 True ∧ Tr 2 True) ∧ (Tr 2 True ∧ Tr 2 True) ∧ ∀ (b : Bool), (b = true ↔ (x.1.e.slot = x.2.e.slot ∧ x.1.e.gen = x.2.e.gen ∧ True) ∧ x.1.e.key = x.2.e.key ∧ x.1.e.value = x.2.e.value ∧ True) → BC b (Exx (List Int × List Int) fun x_1 => (((x.1.kids.length = x_1.1.length ∧ ∀ (i : Nat), i < x_1.1.length → [AV.int .i64 (x.1.kids.getD i 0)] = [AV.int .i64 (x_1.1.getD i 0)]) ∧ (x.2.kids.length = x_1.2.length ∧ ∀ (i : Nat), i < x_1.2.length → [AV.int .i64 (x.2.kids.getD i 0)] = [AV.int .i64 (x_1.2.getD i 0)]) ∧ True) ∧ true = true ∧ True) ∧ (KidsI x_1.1 ∧ KidsI x_1.2) ∧ ∀ (y : Unit), True → Exx Unit fun y => ((decide (x_1.1 = x_1.2) = q1 ∧ True) ∧ true = true ∧ True) ∧ True) (Exx Unit fun y => ((false = q1 ∧ True) ∧ true = true ∧ True) ∧ True)) = (fnVC tb [(19, specOf refIntsC)] Tryz.f32 refSameC (fun _ => {}) (fun _ => none)) := by kernel_rfl 

theorem refSame_ok : SpecOk Tryz.prog 32 (specOf refSameC) := by
  refine specOk mixed tb_ok (SPok.cons refInts_ok SPok.nil) Tryz.func32 (by decide) (pureC_ok fun _ => rfl) (an := (fun _ => {})) (σ := (fun _ => none)) ?_
  rw [← refSameV]
  simp (maxSteps := 10000000) only [std, stdU, stdV, Exx, I64, Nat.reduceMul, Nat.reduceDiv, Nat.reduceAdd, Int.reduceToNat]
  rintro a b ⟨ha, hb⟩ c hc
  have he : c = true ↔ a.e = b.e := by
    rw [hc]
    refine ⟨fun ⟨h1, h2, h3, h4⟩ => ?_, fun h => by rw [h]; exact ⟨rfl, rfl, rfl, rfl⟩⟩
    obtain ⟨⟨_, _, _, _⟩, _⟩ := a
    obtain ⟨⟨_, _, _, _⟩, _⟩ := b
    simp only at h1 h2 h3 h4 ⊢
    rw [h1, h2, h3, h4]
  refine ⟨fun h => ⟨ha.2, hb.2, decide_eq_decide.2 ⟨fun k => ⟨he.1 h, k⟩, fun k => k.2⟩⟩, fun h => (decide_eq_false fun k => ?_).symm⟩
  have := he.2 k.1
  rw [h] at this; cases this

abbrev entsA (l : List EntT) : AV := .ro 4 l.length (entF l)
def EntsI (l : List EntT) : Prop := (∀ x ∈ l, EntI x) ∧ l.length ≤ 1000000
def refEntriesC : Ctr := pureC (List EntT × List EntT) (fun x => EntsI x.1 ∧ EntsI x.2) (fun x => [entsA x.1, entsA x.2]) (fun x => .bool (decide (x.1 = x.2)))
def refEntriesLA (x : List EntT × List EntT) : LA := { T := Nat, F := fun i => frm 26 [(0, entsA x.1), (1, entsA x.2), (5, i64 (i : Nat))], H := fun _ => [.fence] }
theorem refEntriesV : (∀ (x : List EntT × List EntT), 
 let q1 : Bool := decide (x.1 = x.2); 
 let q2 : Prop := Exx Unit fun y => ((false = q1 ∧ True) ∧ true = true ∧ True) ∧ True; 
 let q4 : Prop := (4 : Nat) = 4 ∧ x.1.length = x.1.length ∧ ∀ (i : Nat), 
 let q3 : List AV := [AV.int .i64 (x.1.getD i entZ).slot, AV.int .i64 (x.1.getD i entZ).gen, AV.int .i64 (x.1.getD i entZ).key, AV.int .i64 (x.1.getD i entZ).value]; i < x.1.length → q3 = q3; 
 let q6 : Prop := (4 : Nat) = 4 ∧ x.2.length = x.2.length ∧ ∀ (i : Nat), 
 let q5 : List AV := [AV.int .i64 (x.2.getD i entZ).slot, AV.int .i64 (x.2.getD i entZ).gen, AV.int .i64 (x.2.getD i entZ).key, AV.int .i64 (x.2.getD i entZ).value]; i < x.2.length → q5 = q5; EntsI x.1 ∧ EntsI x.2 → BC (!decide ((↑x.1.length : Int) = (↑x.2.length : Int))) q2 (Exx (Nat → Prop) fun I => Exx (Nat → Nat) fun m => (Exx Nat fun t => I t ∧ (q4 ∧ q6 ∧ Tr 3 (Tr 1 ((0 : Int) = (↑t : Int)) ∧ Tr 20 True)) ∧ true = true ∧ True) ∧ ∀ (t : Nat), 
 let q7 : Prop := (↑t : Int) < (↑x.1.length : Int); 
 let q8 : EntT := x.1.getD (↑t : Int).toNat entZ; 
 let q9 : EntT := x.2.getD (↑t : Int).toNat entZ; 
 let q10 : Int := (↑t : Int) + 1; I t → BC (decide q7) (((0 : Int) ≤ (↑t : Int) ∧ q7) ∧ ((0 : Int) ≤ (↑t : Int) ∧ (↑t : Int) < (↑x.2.length : Int)) ∧ (Tr 2 True ∧ Tr 2 True) ∧ (Tr 2 True ∧ Tr 2 True) ∧ ∀ (b : Bool), (b = true ↔ (q8.slot = q9.slot ∧ q8.gen = q9.gen ∧ True) ∧ q8.key = q9.key ∧ q8.value = q9.value ∧ True) → BC (!b) q2 (I64 q10 ∧ Exx Nat fun t' => (I t' ∧ m t' < m t) ∧ (q4 ∧ q6 ∧ Tr 3 (Tr 1 (q10 = (↑t' : Int)) ∧ Tr 20 True)) ∧ true = true ∧ True)) (Exx Unit fun y => ((true = q1 ∧ True) ∧ true = true ∧ True) ∧ True))) = (fnVC tb [] Tryz.f36 refEntriesC (fun x => { loops := [(4, refEntriesLA x)] }) (fun _ => none)) := by kernel_rfl 

theorem refEntries_ok : SpecOk Tryz.prog 36 (specOf refEntriesC) := by
  refine specOk mixed tb_ok SPok.nil Tryz.func36 (by decide) (pureC_ok fun _ => rfl) (an := (fun x => { loops := [(4, refEntriesLA x)] })) (σ := (fun _ => none)) ?_
  rw [← refEntriesV]
  simp (maxSteps := 10000000) only [std, stdU, stdV, Exx, I64, Nat.reduceMul, Nat.reduceDiv, Nat.reduceAdd, Int.reduceToNat]
  rintro l q ⟨⟨h1, h2⟩, h3, h4⟩
  refine ⟨fun h => (decide_eq_false (fun e => h (by rw [e]))).symm, fun he => ⟨fun i => i ≤ l.length ∧ ∀ j, j < i → l.getD j entZ = q.getD j entZ, ⟨0, ⟨by omega, fun j hj => absurd hj (Nat.not_lt_zero _)⟩, rfl⟩, fun i => l.length - i, fun i hi => ⟨fun hlt => ⟨by omega, by omega, by omega, by omega, fun c hc => ?_⟩, fun hge => (decide_eq_true (list_eq_of entZ he fun j hj => hi.2 j (by omega))).symm⟩⟩⟩
  have hce : c = true ↔ l.getD i entZ = q.getD i entZ := by
    rw [hc]
    refine ⟨fun ⟨h1, h2, h3, h4⟩ => ?_, fun h => by rw [h]; exact ⟨rfl, rfl, rfl, rfl⟩⟩
    cases e1 : l.getD i entZ
    cases e2 : q.getD i entZ
    rw [e1, e2] at h1 h2 h3 h4
    simp only at h1 h2 h3 h4
    rw [h1, h2, h3, h4]
  refine ⟨fun h => (decide_eq_false (fun e => ?_)).symm, fun h => ⟨by omega, by omega, i + 1, ⟨by omega, fun j hj => ?_⟩, by simp only; omega, by omega⟩⟩
  · have := hce.2 (by rw [e])
    rw [h] at this; cases this
  · by_cases e : j = i
    · subst e; exact hce.1 h
    · exact hi.2 j (by omega)

theorem EntsI.take {l : List EntT} (h : EntsI l) (n : Nat) : EntsI (l.take n) := ⟨fun x hx => h.1 x (List.mem_of_mem_take hx), by rw [List.length_take]; have := h.2; omega⟩
end Yard
