import Derived.Test.YtlicnnoljbfhfaaDoorLaw18
import Derived.Test.YtlicnnoljbfhfaaDoorRef18Free

namespace Yard
open Go Go.Sx Go.Proofs
set_option linter.unusedVariables false
set_option linter.unusedSimpArgs false
set_option maxRecDepth 4000
set_option maxHeartbeats 4000000

theorem filter_tail {p : Nat → Bool} {h : Nat} {t : List Nat} : ∀ {l : List Nat}, l.Nodup → l.filter p = h :: t → l.filter (fun i => p i && !decide (i = h)) = t := fun {l} hn e => by
  have e2 : l.filter (fun i => p i && !decide (i = h)) = (l.filter p).filter (fun i => !decide (i = h)) := by
    rw [List.filter_filter]; congr 1; funext i; exact Bool.and_comm ..
  rw [e2, e]
  have hd : (h :: t).Nodup := e ▸ hn.filter _
  rw [List.filter_cons, if_neg (by simp), List.filter_eq_self]
  intro a ha
  have : a ≠ h := fun k => by subst k; exact (List.nodup_cons.1 hd).1 ha
  simpa using this
theorem freeL_add {x : AllocT} (h : RefW x) (hl : 0 < (freeL x).length) : freeL { x with w := add1 x.n x.w ((freeL x).getD 0 0) } = (freeL x).tail := by
  unfold freeL freeP at hl ⊢
  cases hf : (List.range x.n).filter (fun i => !(heldN x).testBit i) with
  | nil => rw [hf] at hl; cases hl
  | cons i t =>
    have hm : i ∈ (List.range x.n).filter (fun i => !(heldN x).testBit i) := by rw [hf]; exact List.mem_cons_self ..
    have hi := List.mem_range.1 (List.mem_filter.1 hm).1
    have e := filter_tail List.nodup_range hf
    have e3 : (List.range x.n).filter (fun k => !(heldN { x with w := add1 x.n x.w (i : Int) }).testBit k) = (List.range x.n).filter (fun k => !(heldN x).testBit k && !decide (k = i)) := by
      refine List.filter_congr fun k hk => ?_
      have hk := List.mem_range.1 hk
      unfold heldN
      simp only [Nat.testBit_or, add1_bit]
      have : decide (k < x.n ∧ (k : Int) = (i : Int)) = decide (k = i) := by
        by_cases q : k = i
        · subst q; simp [hk]
        · rw [decide_eq_false q, decide_eq_false (by omega)]
      rw [this]
      cases x.w.testBit k <;> cases x.c.testBit k <;> cases x.e.testBit k <;> cases x.m.testBit k <;> cases decide (k = i) <;> rfl
    show ((List.range x.n).filter (fun k => !(heldN { x with w := add1 x.n x.w (i : Int) }).testBit k)).map (fun i : Nat => (i : Int)) = t.map (fun i : Nat => (i : Int))
    rw [e3, e]

structure FullI (b x : AllocT) (i : Nat) : Prop where
  R : RefR x
  r : x.r = b.r
  l : freeL x = (freeL b).drop i
theorem FullI.len {b x : AllocT} {i : Nat} (h : FullI b x i) : freeN x = ((freeL b).length - i : Nat) := by
  rw [← freeL_len h.R.W.W, h.l, List.length_drop]
theorem FullI.take {b x : AllocT} {i : Nat} (h : FullI b x i) {r : Int} (h0 : 0 ≤ r) (hr : r < ((freeL b).length - i : Nat)) : takeErr x r = 0 ∧ takeAt x r = (freeL b).getD i 0 ∧ FullI b (takeS x r) (i + 1) := by
  have hl : (freeL x).length = (freeL b).length - i := by rw [h.l, List.length_drop]
  obtain ⟨a1, a2, a3, a4, a5, a6⟩ := take_yes (b := r) h.R.W (by rw [hl]; omega) (by omega) (.inl h0)
  have hR : RefR (takeS x r) := ⟨⟨takeS_W' h.R.W.W _, by rw [(takeS_n x _).1]; exact h.R.W.n⟩, by rw [(takeS_n x _).2]; exact h.R.r⟩
  refine ⟨a5, by rw [a4, h.l]; simp [List.getD], hR, by rw [(takeS_n x _).2]; exact h.r, ?_⟩
  rw [a3, freeL_add h.R.W a6, h.l, List.tail_drop]
theorem FullI.no {b x : AllocT} {i : Nat} (h : FullI b x i) {r : Int} (hr : (((freeL b).length - i : Nat) : Int) ≤ r) : takeErr x r = 10 ∧ takeAt x r = 0 ∧ takeS x r = x := by
  have hl : (freeL x).length = (freeL b).length - i := by rw [h.l, List.length_drop]
  obtain ⟨a1, a2, a3⟩ := take_no (b := r) h.R.W (by rw [hl]; omega)
  exact ⟨a3, a2, a1⟩

def fullC : Ctr := pureC StartX StartI (fun x => [startA x]) (fun _ => .bool true)
def fullLA (x : StartX) : LA := { T := Nat × AllocT × Nat, F := fun t => frm 91 [(1, .ptr 1 [] 0), (3, .ptr 2 [] 0), (5, .sl 4 [] 0 1 0 (freeL (startS x)).length t.2.2), (6, i64 (t.1 : Nat))], H := fun t => [.fence, .cells 24 [.int .u8 (x.1 : Nat), intA x.2.1, intA x.2.2.1, i64 x.2.2.2], allocI t.2.1, refI (startS x), rowI 3 .i64 t.2.2 (freeL (startS x))] }

theorem fullV : (∀ (x : Nat × List Int × List Int × Int), StartI x → Exx Unit fun x_1 => Tr 1 (true = true ∧ True) ∧ Tr 1 (∀ (y : Unit), True → Exx (Nat × List
 Int × List Int × Int) fun x_2 => (((Tr 1 ((↑x.1 : Int) = (↑x_2.1 : Int)) ∧ (x.2.1.length = x_2.2.1.length ∧ ∀ (i : Nat), i < x_2.2.1.length → [AV.int .i64
 (x.2.1.getD i 0)] = [AV.int .i64 (x_2.2.1.getD i 0)]) ∧ (x.2.2.1.length = x_2.2.2.1.length ∧ ∀ (i : Nat), i < x_2.2.2.1.length → [AV.int .i64 (x.2.2.1.getD i
 0)] = [AV.int .i64 (x_2.2.2.1.getD i 0)]) ∧ Tr 1 (x.2.2.2 = x_2.2.2.2) ∧ True) ∧ True) ∧ true = true ∧ True) ∧ (x_2.1 < 256 ∧ IntL x_2.2.1 ∧ IntL x_2.2.2.1 ∧
 I64 x_2.2.2.2) ∧ (x_2.2.1.length ≤ 40 ∧ x_2.2.2.1.length ≤ 40 ∧ (0 : Int) ≤ x_2.2.2.2 → ∀ (y : Unit), True → Exx AllocT fun x_3 => (((true = true ∧ NilNil ∧ (0
 : Nat) = 0) ∧ True) ∧ true = true ∧ refB (startS x_2) = refB x_3 ∧ True) ∧ RefW x_3 ∧ ∀ (y : Nat), (freeL x_3).length ≤ y ∧ y ≤ 9223372036854775807 → Exx (Nat ×
 AllocT × Nat → Prop) fun I => Exx (Nat × AllocT × Nat → Nat) fun m => (Exx (Nat × AllocT × Nat) fun t => I t ∧ Tr 1 ((true = true ∧ NilNil ∧ (0 : Nat) = 0) ∧ Tr
 1 ((true = true ∧ NilNil ∧ (0 : Nat) = 0) ∧ Tr 1 ((true = true ∧ NilNil ∧ (0 : Nat) = 0 ∧ (1 : Nat) = 1 ∧ (0 : Nat) = 0 ∧ (freeL x_3).length = (freeL (startS
 x)).length ∧ y = t.2.2) ∧ Tr 1 ((0 : Int) = (↑t.1 : Int)) ∧ Tr 84 True))) ∧ true = true ∧ ((24 : Nat) = (24 : TypeId) ∧ Tr 1 ((↑x.1 : Int) = (↑x.1 : Int)) ∧ ((1
 : Nat) = 1 ∧ x.2.1.length = x.2.1.length ∧ ∀ (i : Nat), i < x.2.1.length → [AV.int .i64 (x.2.1.getD i 0)] = [AV.int .i64 (x.2.1.getD i 0)]) ∧ ((1 : Nat) = 1 ∧
 x.2.2.1.length = x.2.2.1.length ∧ ∀ (i : Nat), i < x.2.2.1.length → [AV.int .i64 (x.2.2.1.getD i 0)] = [AV.int .i64 (x.2.2.1.getD i 0)]) ∧ Tr 1 (x.2.2.2 =
 x.2.2.2) ∧ True) ∧ allocB (startS x_2) = allocB t.2.1 ∧ refB x_3 = refB (startS x) ∧ ((3 : TypeId) = 3 ∧ (1 : Nat) = 1 ∧ y = t.2.2 ∧ (freeL (startS x)).length ≤
 (freeL x_3).length ∧ ∀ (i : Nat), i < (freeL (startS x)).length → [AV.int .i64 ((freeL x_3).getD i 0)] = [AV.int .i64 ((freeL (startS x)).getD i 0)]) ∧ True) ∧
 ∀ (t : Nat × AllocT × Nat), I t → BC (decide ((↑t.1 : Int) < (↑(freeL (startS x)).length : Int))) (Exx (AllocT × Unit) fun x_4 => (((true = true ∧ NilNil ∧ (0 :
 Nat) = 0) ∧ True) ∧ true = true ∧ allocB t.2.1 = allocB x_4.1 ∧ True) ∧ (AllocW x_4.1 ∧ True) ∧ ∀ (y : Unit), True → (100 : Int) ≠ (0 : Int) ∧ ∀ (n : Int), n =
 x.2.2.2.tmod 100 → I64 ((↑t.1 : Int) + n) ∧ BC (decide ((↑t.1 : Int) + n < (↑(freeL (startS x)).length : Int))) (BC (decide (x.2.2.2 < (100 : Int))) (BC
 (!decide (takeErr x_4.1 x_4.1.r = (0 : Int))) (Exx Unit fun y => ((false = true ∧ True) ∧ true = true ∧ True) ∧ True) (((0 : Int) ≤ (↑t.1 : Int) ∧ (↑t.1 : Int)
 < (↑(freeL (startS x)).length : Int)) ∧ 0 + (↑t.1 : Int).toNat < (freeL (startS x)).length ∧ BC (!decide (takeAt x_4.1 x_4.1.r = (freeL (startS x)).getD (0 +
 (↑t.1 : Int).toNat) 0)) (Exx Unit fun y => ((false = true ∧ True) ∧ true = true ∧ True) ∧ True) (I64 ((↑t.1 : Int) + 1) ∧ Exx (Nat × AllocT × Nat) fun t' => (I
 t' ∧ m t' < m t) ∧ Tr 1 ((true = true ∧ NilNil ∧ (0 : Nat) = 0) ∧ Tr 1 ((true = true ∧ NilNil ∧ (0 : Nat) = 0) ∧ Tr 1 ((true = true ∧ NilNil ∧ (0 : Nat) = 0 ∧
 (1 : Nat) = 1 ∧ (0 : Nat) = 0 ∧ (freeL (startS x)).length = (freeL (startS x)).length ∧ t.2.2 = t'.snd.2) ∧ Tr 1 ((↑t.1 : Int) + 1 = (↑t'.fst : Int)) ∧ Tr 84
 True))) ∧ true = true ∧ ((24 : TypeId) = 24 ∧ Tr 1 ((↑x.1 : Int) = (↑x.1 : Int)) ∧ ((1 : Nat) = 1 ∧ x.2.1.length = x.2.1.length ∧ ∀ (i : Nat), i < x.2.1.length
 → [AV.int .i64 (x.2.1.getD i 0)] = [AV.int .i64 (x.2.1.getD i 0)]) ∧ ((1 : Nat) = 1 ∧ x.2.2.1.length = x.2.2.1.length ∧ ∀ (i : Nat), i < x.2.2.1.length →
 [AV.int .i64 (x.2.2.1.getD i 0)] = [AV.int .i64 (x.2.2.1.getD i 0)]) ∧ Tr 1 (x.2.2.2 = x.2.2.2) ∧ True) ∧ allocB (takeS x_4.1 x_4.1.r) = allocB t'.snd.1 ∧ refB
 (startS x) = refB (startS x) ∧ ((3 : TypeId) = 3 ∧ (1 : Nat) = 1 ∧ t.2.2 = t'.snd.2 ∧ (freeL (startS x)).length ≤ (freeL (startS x)).length ∧ ∀ (i : Nat), i <
 (freeL (startS x)).length → [AV.int .i64 ((freeL (startS x)).getD i 0)] = [AV.int .i64 ((freeL (startS x)).getD i 0)]) ∧ True))) (BC (!decide (takeErr x_4.1
 x_4.1.r = (10 : Int))) (Exx Unit fun y => ((false = true ∧ True) ∧ true = true ∧ True) ∧ True) (BC (!decide (takeAt x_4.1 x_4.1.r = (0 : Int))) (Exx Unit fun y
 => ((false = true ∧ True) ∧ true = true ∧ True) ∧ True) (Exx (AllocT × Unit) fun x_5 => (((true = true ∧ NilNil ∧ (0 : Nat) = 0) ∧ True) ∧ true = true ∧ allocB
 (takeS x_4.1 x_4.1.r) = allocB x_5.1 ∧ True) ∧ (AllocW x_5.1 ∧ True) ∧ ∀ (y : Unit), True → BC (!decide (takeErr x_5.1 0 = (0 : Int))) (Exx Unit fun y =>
 ((false = true ∧ True) ∧ true = true ∧ True) ∧ True) (((0 : Int) ≤ (↑t.1 : Int) ∧ (↑t.1 : Int) < (↑(freeL (startS x)).length : Int)) ∧ 0 + (↑t.1 : Int).toNat <
 (freeL (startS x)).length ∧ BC (!decide (takeAt x_5.1 0 = (freeL (startS x)).getD (0 + (↑t.1 : Int).toNat) 0)) (Exx Unit fun y => ((false = true ∧ True) ∧ true
 = true ∧ True) ∧ True) (I64 ((↑t.1 : Int) + 1) ∧ Exx (Nat × AllocT × Nat) fun t' => (I t' ∧ m t' < m t) ∧ Tr 1 ((true = true ∧ NilNil ∧ (0 : Nat) = 0) ∧ Tr 1
 ((true = true ∧ NilNil ∧ (0 : Nat) = 0) ∧ Tr 1 ((true = true ∧ NilNil ∧ (0 : Nat) = 0 ∧ (1 : Nat) = 1 ∧ (0 : Nat) = 0 ∧ (freeL (startS x)).length = (freeL
 (startS x)).length ∧ t.2.2 = t'.snd.2) ∧ Tr 1 ((↑t.1 : Int) + 1 = (↑t'.fst : Int)) ∧ Tr 84 True))) ∧ true = true ∧ ((24 : TypeId) = 24 ∧ Tr 1 ((↑x.1 : Int) =
 (↑x.1 : Int)) ∧ ((1 : Nat) = 1 ∧ x.2.1.length = x.2.1.length ∧ ∀ (i : Nat), i < x.2.1.length → [AV.int .i64 (x.2.1.getD i 0)] = [AV.int .i64 (x.2.1.getD i 0)])
 ∧ ((1 : Nat) = 1 ∧ x.2.2.1.length = x.2.2.1.length ∧ ∀ (i : Nat), i < x.2.2.1.length → [AV.int .i64 (x.2.2.1.getD i 0)] = [AV.int .i64 (x.2.2.1.getD i 0)]) ∧ Tr
 1 (x.2.2.2 = x.2.2.2) ∧ True) ∧ allocB (takeS x_5.1 0) = allocB t'.snd.1 ∧ refB (startS x) = refB (startS x) ∧ ((3 : TypeId) = 3 ∧ (1 : Nat) = 1 ∧ t.2.2 =
 t'.snd.2 ∧ (freeL (startS x)).length ≤ (freeL (startS x)).length ∧ ∀ (i : Nat), i < (freeL (startS x)).length → [AV.int .i64 ((freeL (startS x)).getD i 0)] =
 [AV.int .i64 ((freeL (startS x)).getD i 0)]) ∧ True)))))) (BC (!decide (takeErr x_4.1 x_4.1.r = (10 : Int))) (Exx Unit fun y => ((false = true ∧ True) ∧ true =
 true ∧ True) ∧ True) (BC (!decide (takeAt x_4.1 x_4.1.r = (0 : Int))) (Exx Unit fun y => ((false = true ∧ True) ∧ true = true ∧ True) ∧ True) (Exx (AllocT ×
 Unit) fun x_5 => (((true = true ∧ NilNil ∧ (0 : Nat) = 0) ∧ True) ∧ true = true ∧ allocB (takeS x_4.1 x_4.1.r) = allocB x_5.1 ∧ True) ∧ (AllocW x_5.1 ∧ True) ∧
 ∀ (y : Unit), True → BC (!decide (takeErr x_5.1 0 = (0 : Int))) (Exx Unit fun y => ((false = true ∧ True) ∧ true = true ∧ True) ∧ True) (((0 : Int) ≤ (↑t.1 :
 Int) ∧ (↑t.1 : Int) < (↑(freeL (startS x)).length : Int)) ∧ 0 + (↑t.1 : Int).toNat < (freeL (startS x)).length ∧ BC (!decide (takeAt x_5.1 0 = (freeL (startS
 x)).getD (0 + (↑t.1 : Int).toNat) 0)) (Exx Unit fun y => ((false = true ∧ True) ∧ true = true ∧ True) ∧ True) (I64 ((↑t.1 : Int) + 1) ∧ Exx (Nat × AllocT × Nat)
 fun t' => (I t' ∧ m t' < m t) ∧ Tr 1 ((true = true ∧ NilNil ∧ (0 : Nat) = 0) ∧ Tr 1 ((true = true ∧ NilNil ∧ (0 : Nat) = 0) ∧ Tr 1 ((true = true ∧ NilNil ∧ (0 :
 Nat) = 0 ∧ (1 : Nat) = 1 ∧ (0 : Nat) = 0 ∧ (freeL (startS x)).length = (freeL (startS x)).length ∧ t.2.2 = t'.snd.2) ∧ Tr 1 ((↑t.1 : Int) + 1 = (↑t'.fst : Int))
 ∧ Tr 84 True))) ∧ true = true ∧ ((24 : TypeId) = 24 ∧ Tr 1 ((↑x.1 : Int) = (↑x.1 : Int)) ∧ ((1 : Nat) = 1 ∧ x.2.1.length = x.2.1.length ∧ ∀ (i : Nat), i <
 x.2.1.length → [AV.int .i64 (x.2.1.getD i 0)] = [AV.int .i64 (x.2.1.getD i 0)]) ∧ ((1 : Nat) = 1 ∧ x.2.2.1.length = x.2.2.1.length ∧ ∀ (i : Nat), i <
 x.2.2.1.length → [AV.int .i64 (x.2.2.1.getD i 0)] = [AV.int .i64 (x.2.2.1.getD i 0)]) ∧ Tr 1 (x.2.2.2 = x.2.2.2) ∧ True) ∧ allocB (takeS x_5.1 0) = allocB
 t'.snd.1 ∧ refB (startS x) = refB (startS x) ∧ ((3 : TypeId) = 3 ∧ (1 : Nat) = 1 ∧ t.2.2 = t'.snd.2 ∧ (freeL (startS x)).length ≤ (freeL (startS x)).length ∧ ∀
 (i : Nat), i < (freeL (startS x)).length → [AV.int .i64 ((freeL (startS x)).getD i 0)] = [AV.int .i64 ((freeL (startS x)).getD i 0)]) ∧ True)))))) (Exx (AllocT
 × Unit) fun x => (((true = true ∧ NilNil ∧ (0 : Nat) = 0) ∧ True) ∧ true = true ∧ allocB t.2.1 = allocB x.1 ∧ True) ∧ (AllocW x.1 ∧ True) ∧ ∀ (y : Unit), True →
 BC (decide (takeErr x.1 0 = (10 : Int))) (Exx (AllocT × Unit) fun x_4 => (((true = true ∧ NilNil ∧ (0 : Nat) = 0) ∧ True) ∧ true = true ∧ allocB (takeS x.1 0) =
 allocB x_4.1 ∧ True) ∧ (AllocW x_4.1 ∧ True) ∧ ∀ (y : Unit), True → Exx Unit fun y => ((decide (freeN x_4.1 = (0 : Int)) = true ∧ True) ∧ true = true ∧ True) ∧
 True) (Exx Unit fun y => ((false = true ∧ True) ∧ true = true ∧ True) ∧ True))) ∧ (¬made18I.p x_2 → ∀ (y : Unit), True → Exx Unit fun y => ((true = true ∧ True)
 ∧ true = true ∧ True) ∧ True))) = (fnVC tb [(7, specOf awake18C), (8, specIf made18I), (9, specOf refFreeC), (10, specOf allocTakeC), (11, specOf allocSpareC), (12, specOf allocFreeC)] Tryd.f3 fullC (fun x => { loops := [(10, fullLA x)], loose := [(22, [1, 2, 3, 4])] }) (fun _ => none)) := by kernel_rfl 

theorem full_ok : SpecOk Tryd.prog 3 (specOf fullC) := by
  refine specOk mixed tb_ok (SPok.cons awake18_ok (SPok.cons made18_ok (SPok.cons refFree_ok (SPok.cons allocTake_ok (SPok.cons allocSpare_ok (SPok.cons allocFree_ok SPok.nil)))))) Tryd.func3 (by decide) (pureC_ok fun _ => rfl) (an := (fun x => { loops := [(10, fullLA x)], loose := [(22, [1, 2, 3, 4])] })) (σ := (fun _ => none)) ?_
  rw [← fullV]
  simp (maxSteps := 10000000) only [and_false, false_and, false_or, or_false, bOf_true, bOf_false, true_bOf, false_bOf, Exx, int_ite, merge_o, Tr_eq, true_and, and_true, exists_const, forall_const, implies_true, forall_eq, exists_eq, exists_eq', exists_eq_left, exists_eq_left', exists_eq_right, Prod.exists, Prod.forall, and_assoc, exists_and_left, BC_iff, Bool.not_eq_true', Bool.not_eq_false', decide_eq_true_eq, decide_eq_false_iff_not, I64, nat_cast_inj, Int.toNat_natCast, nats_iff, nats_iff', ints_iff, ints_iff', natss_iff, natss_iff', nilnil, litL_eq, str_inj, str_append, str_length, str_getD, str_take, lit1_iff, one_iff, two_iff, one_get, Nat.zero_add, Nat.sub_zero, Nat.reduceMul, Nat.reduceDiv, Nat.reduceAdd, Int.reduceToNat, Nat.not_lt_zero, if_false, if_true, Nat.le_refl, List.length_singleton, List.length_cons, List.length_nil, Bool.false_eq_true, not_true_eq_false, false_implies, not_false_eq_true, Prod.mk.injEq, allocB_inj, refB_inj]
  rintro n u e r hS
  have hS' := hS
  obtain ⟨s1, s2, s3, s4, s5⟩ := hS
  refine ⟨s1, s2, s3, s4, s5, fun hp => ?_⟩
  have hR := startS_R hS' hp
  have hr0 : 0 ≤ r := hp.2.2
  have er : (startS (n, u, e, r)).r = r := rfl
  have hl40 : (freeL (startS (n, u, e, r))).length ≤ 40 := Nat.le_trans (freeP_len _ _) hR.W.n
  generalize hb : startS (n, u, e, r) = b at *
  refine ⟨hR.W, fun cap hc => ⟨fun t => FullI b t.2.1 t.1 ∧ t.1 ≤ (freeL b).length, ⟨0, b, cap, ⟨⟨hR, rfl, rfl⟩, Nat.zero_le _⟩, rfl, rfl, rfl, rfl⟩, fun t => (freeL b).length - t.1, fun i x c hI => ?_⟩⟩
  obtain ⟨hI, hi⟩ := hI
  simp only at hI hi
  have hxr : x.r = r := hI.r.trans er
  refine ⟨fun hlt => ?_, fun hge => ?_⟩
  · have hlt' : i < (freeL b).length := by omega
    have hm := Int.emod_nonneg r (show (100 : Int) ≠ 0 by decide)
    have hm2 := Int.emod_lt_of_pos r (show (0 : Int) < 100 by decide)
    rw [Int.tmod_eq_emod_of_nonneg hr0, hxr]
    have spare : (r ≥ 100 ∨ ¬ (i : Int) + r % 100 < (freeL b).length) → (¬takeErr x r = 10 → False) ∧ (takeErr x r = 10 → (¬takeAt x r = 0 → False) ∧ (takeAt x r = 0 → AllocW (takeS x r) ∧ (¬takeErr (takeS x r) 0 = 0 → False) ∧ (takeErr (takeS x r) 0 = 0 → 0 ≤ (i : Int) ∧ (i : Int) < (freeL b).length ∧ i < (freeL b).length ∧ (¬takeAt (takeS x r) 0 = (freeL b).getD i 0 → False) ∧ (takeAt (takeS x r) 0 = (freeL b).getD i 0 → -9223372036854775808 ≤ (i : Int) + 1 ∧ (i : Int) + 1 ≤ 9223372036854775807 ∧ ∃ (a : Nat) (y : AllocT) (d : Nat), (FullI b y a ∧ a ≤ (freeL b).length) ∧ (freeL b).length - a < (freeL b).length - i ∧ c = d ∧ (i : Int) + 1 = (a : Int) ∧ takeS (takeS x r) 0 = y ∧ c = d)))) := fun hs => by
      obtain ⟨n1, n2, n3⟩ := hI.no (r := r) (by omega)
      obtain ⟨t1, t2, t3⟩ := hI.take (r := 0) (Int.le_refl _) (by omega)
      rw [n3]
      exact ⟨fun k => k n1, fun _ => ⟨fun k => k n2, fun _ => ⟨hI.R.W.W, fun k => k t1, fun _ => ⟨by omega, hlt, hlt', fun k => k t2, fun _ => ⟨by omega, by omega, i + 1, _, c, ⟨t3, by omega⟩, by omega, rfl, by omega, rfl, rfl⟩⟩⟩⟩⟩
    refine ⟨hI.R.W.W, by decide, by omega, by omega, fun h1 => ⟨fun h2 => ?_, fun h2 => spare (.inl (by omega))⟩, fun h1 => spare (.inr h1)⟩
    obtain ⟨t1, t2, t3⟩ := hI.take (r := r) hr0 (by omega)
    exact ⟨fun k => k t1, fun _ => ⟨by omega, hlt, hlt', fun k => k t2, fun _ => ⟨by omega, by omega, i + 1, _, c, ⟨t3, by simp only; omega⟩, by simp only; omega, rfl, by omega, rfl, rfl⟩⟩⟩
  · obtain ⟨n1, n2, n3⟩ := hI.no (r := 0) (by omega)
    have hf := hI.len
    rw [n3]
    exact ⟨hI.R.W.W, fun _ => ⟨hI.R.W.W, by omega⟩, fun k => k n1⟩

end Yard
