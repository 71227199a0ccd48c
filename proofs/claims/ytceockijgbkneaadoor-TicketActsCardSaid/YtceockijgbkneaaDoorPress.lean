import Derived.Test.YtceockijgbkneaaDoorPmem

namespace Yard
open Go Go.Sx Go.Proofs
set_option linter.unusedVariables false
set_option linter.unusedSimpArgs false
set_option maxRecDepth 4000

def putW (ws : List Nat) (k : Nat) (q : List Nat) : List Nat := (List.range ws.length).map fun i => if k ≤ i ∧ i < k + q.length then q.getD (i - k) 0 else ws.getD i 0
theorem putW_length (ws : List Nat) (k : Nat) (q : List Nat) : (putW ws k q).length = ws.length := by simp [putW]
theorem putW_get {ws : List Nat} {k : Nat} {q : List Nat} {i : Nat} : (putW ws k q).getD i 0 = if i < ws.length ∧ k ≤ i ∧ i < k + q.length then q.getD (i - k) 0 else ws.getD i 0 := by
  rw [putW, getD_mapRange]
  by_cases h : i < ws.length
  · rw [if_pos h]; simp [h]
  · rw [if_neg h, if_neg (fun k => h k.1), List.getD_eq_getElem?_getD, List.getElem?_eq_none (by omega)]; rfl
theorem putW_nil (ws : List Nat) (k : Nat) : putW ws k [] = ws := list_ext_getD 0 (putW_length _ _ _) fun i hi => by rw [putW_get, if_neg (by rw [List.length_nil]; omega)]
theorem putW_snoc {ws : List Nat} {k : Nat} {q : List Nat} {i : Nat} (hi : i < q.length) (hk : k + q.length ≤ ws.length) : (putW ws k (q.take i)).set (k + i) (q.getD i 0) = putW ws k (q.take (i + 1)) := by
  refine list_ext_getD 0 (by rw [List.length_set, putW_length, putW_length]) fun j hj => ?_
  rw [putW_length] at hj
  rw [getD_set (by rw [putW_length]; omega), putW_get, putW_get, List.length_take, List.length_take, Nat.min_eq_left (by omega), Nat.min_eq_left (by omega)]
  by_cases e : j = k + i
  · subst e
    rw [if_pos rfl, if_pos (by omega), getD_take, show k + i - k = i by omega, if_pos (by omega)]
  · rw [if_neg e]
    by_cases e2 : j < ws.length ∧ k ≤ j ∧ j < k + i
    · rw [if_pos e2, if_pos (by omega), getD_take, getD_take, if_pos (by omega), if_pos (by omega)]
    · rw [if_neg e2, if_neg (by omega)]
theorem mem_of_getD {l : List Nat} {p : Nat → Prop} (h : ∀ i, i < l.length → p (l.getD i 0)) : ∀ x ∈ l, p x := fun x hx => by
  obtain ⟨i, hi, e⟩ := List.mem_iff_getElem.1 hx
  have := h i hi
  rw [List.getD_eq_getElem?_getD, List.getElem?_eq_getElem hi] at this
  rw [← e]; exact this
theorem putW_W {ws : List Nat} {k : Nat} {q : List Nat} (h : DevW ws) (hq : ∀ w ∈ q, U64 w) : DevW (putW ws k q) := by
  refine ⟨by rw [putW_length]; exact h.1, mem_of_getD fun i hi => ?_⟩
  rw [putW_get]
  split
  · exact getD_mem (p := U64) hq (by unfold U64; omega) _
  · exact getD_mem (p := U64) h.2 (by unfold U64; omega) _

def linesN (ws : List Nat) : Nat := ws.length / 8
def lineW (ws : List Nat) (a : Nat) : List Nat := (ws.drop (8 * a)).take 8
def inLine (ws : List Nat) (a : Int) : Prop := 0 ≤ a ∧ a < (linesN ws : Int)
instance (ws : List Nat) (a : Int) : Decidable (inLine ws a) := by unfold inLine; infer_instance
def lineErr (ws : List Nat) (a : Int) : Int := mayErr a (linesN ws : Int)
theorem lineErr_zero {ws : List Nat} {a : Int} : lineErr ws a = 0 ↔ inLine ws a := by
  unfold lineErr mayErr inLine
  split
  · rename_i h; exact ⟨fun _ => h, fun _ => rfl⟩
  · rename_i h; exact ⟨fun k => (by cases k), fun k => absurd k h⟩
def pressMayC : Ctr := devGetC Int (fun x => I64 x.2) (fun x => [i64 x.2]) (fun x => i64 (lineErr x.1 x.2))

theorem pressMayV : (∀ (x : List Nat × Int), DevW x.1 ∧ I64 x.2 → BC (decide (x.2 < (0 : Int))) (Exx Unit fun y => ((Tr 1 ((2 : Int) = lineErr x.1 x.2) ∧ True)
 ∧ devB x.1 = devB x.1 ∧ true = true ∧ True) ∧ True) (Exx (List Nat × Unit) fun x_1 => (((true = true ∧ NilNil ∧ (0 : Nat) = 0) ∧ True) ∧ true = true ∧ devB x.1
 = devB x_1.1 ∧ True) ∧ (DevW x_1.1 ∧ True) ∧ ∀ (y : Unit), True → BC (decide ((↑(x_1.1.length / 8) : Int) ≤ x.2)) (Exx Unit fun y => ((Tr 1 ((2 : Int) = lineErr
 x.1 x.2) ∧ True) ∧ devB x_1.1 = devB x.1 ∧ true = true ∧ True) ∧ True) (Exx Unit fun y => ((Tr 1 ((0 : Int) = lineErr x.1 x.2) ∧ True) ∧ devB x_1.1 = devB x.1 ∧
 true = true ∧ True) ∧ True))) = (fnVC tb [(42, specObj (specOf devLinesC) (specOf devLinesOC))] Tryd.f84 pressMayC (fun _ => {}) (fun _ => none)) := by kernel_rfl 

theorem pressMay_ok : SpecOk Tryd.prog 84 (specOf pressMayC) := by
  refine specOk mixed tb_ok (SPok.cons (specObj_ok devLines_ok devLinesO_ok) SPok.nil) Tryd.func84 (by decide) (devGetC_ok fun _ => rfl) (an := (fun _ => {})) (σ := (fun _ => none)) ?_
  rw [← pressMayV]
  simp (maxSteps := 10000000) only [and_false, false_and, false_or, or_false, bOf_true, bOf_false, true_bOf, false_bOf, Exx, int_ite, merge_o, Tr_eq, true_and, and_true, exists_const, forall_const, implies_true, forall_eq, exists_eq, exists_eq', exists_eq_left, exists_eq_left', exists_eq_right, Prod.exists, Prod.forall, and_assoc, exists_and_left, BC_iff, Bool.not_eq_true', Bool.not_eq_false', decide_eq_true_eq, decide_eq_false_iff_not, I64, nat_cast_inj, Int.toNat_natCast, nats_iff, nats_iff', ints_iff, ints_iff', natss_iff, natss_iff', nilnil, litL_eq, str_inj, str_append, str_length, str_getD, str_take, lit1_iff, one_iff, two_iff, one_get, Nat.zero_add, Nat.sub_zero, Nat.reduceMul, Nat.reduceDiv, Nat.reduceAdd, Int.reduceToNat, Nat.not_lt_zero, if_false, if_true, Nat.le_refl, List.length_singleton, List.length_cons, List.length_nil, Bool.false_eq_true, not_true_eq_false, false_implies, not_false_eq_true, Prod.mk.injEq, devB_inj]
  rintro ws a ⟨h, h1, h2⟩
  have e : linesN ws = ws.length / 8 := rfl
  exact ⟨fun g => by rw [lineErr, mayErr, if_neg (by omega)], fun g => ⟨h, fun g2 => by rw [lineErr, mayErr, if_neg (by omega)], fun g2 => by rw [lineErr, mayErr, if_pos (by omega)]⟩⟩

def pressStoreC : Ctr := devSetC (Nat × Nat × List Nat) (fun x => x.2.1 * 8 + x.2.2.1 + x.2.2.2.length ≤ x.1.length ∧ x.2.1 < linesN x.1 ∧ ∀ w ∈ x.2.2.2, U64 w) (fun x => [i64 (x.2.1 : Nat), i64 (x.2.2.1 : Nat), natsA .u64 x.2.2.2]) (fun x => putW x.1 (x.2.1 * 8 + x.2.2.1) x.2.2.2) (fun x => i64 0)
def pressStoreLA (x : List Nat × Nat × Nat × List Nat) : LA := { T := Nat, F := fun i => frm 35 [(0, .ptr 0 [] 0), (1, i64 (x.2.1 : Nat)), (2, i64 (x.2.2.1 : Nat)), (12, natsA .u64 x.2.2.2), (13, i64 (x.2.2.2.length : Nat)), (14, i64 (i : Nat))], H := fun i => [devI (putW x.1 (x.2.1 * 8 + x.2.2.1) (x.2.2.2.take i)), .fence] }

theorem pressStoreV : (∀ (x : List Nat × Nat × Nat × List Nat), (DevW x.1 ∧ x.2.1 * 8 + x.2.2.1 + x.2.2.2.length ≤ x.1.length ∧ x.2.1 < linesN x.1 ∧ ∀ (w :
 Nat), w ∈ x.2.2.2 → U64 w) → Exx (Nat → Prop) fun I => Exx (Nat → Nat) fun m => (Exx Nat fun t => I t ∧ ((true = true ∧ NilNil ∧ (0 : Nat) = 0) ∧ Tr 1 ((↑x.2.1
 : Int) = (↑x.2.1 : Int)) ∧ Tr 1 ((↑x.2.2.1 : Int) = (↑x.2.2.1 : Int)) ∧ Tr 9 (((1 : Nat) = 1 ∧ x.2.2.2.length = x.2.2.2.length ∧ ∀ (i : Nat), i < x.2.2.2.length
 → [AV.int .u64 (↑(x.2.2.2.getD i 0) : Int)] = [AV.int .u64 (↑(x.2.2.2.getD i 0) : Int)]) ∧ Tr 1 ((↑x.2.2.2.length : Int) = (↑x.2.2.2.length : Int)) ∧ Tr 1 ((0 :
 Int) = (↑t : Int)) ∧ Tr 20 True)) ∧ devB x.1 = devB (putW x.1 (x.2.1 * 8 + x.2.2.1) (List.take t x.2.2.2)) ∧ true = true ∧ True) ∧ ∀ (t : Nat), I t → BC (decide
 ((↑t : Int) < (↑x.2.2.2.length : Int))) (((0 : Int) ≤ (↑t : Int) ∧ (↑t : Int) < (↑x.2.2.2.length : Int)) ∧ I64 ((↑x.2.1 : Int) * 8) ∧ I64 ((↑x.2.1 : Int) * 8 +
 (↑x.2.2.1 : Int)) ∧ I64 ((↑x.2.1 : Int) * 8 + (↑x.2.2.1 : Int) + (↑t : Int)) ∧ Exx (List Nat × Int × Nat) fun x_1 => (((true = true ∧ NilNil ∧ (0 : Nat) = 0) ∧
 Tr 1 ((↑x.2.1 : Int) * 8 + (↑x.2.2.1 : Int) + (↑t : Int) = x_1.2.1) ∧ Tr 1 ((↑(x.2.2.2.getD (↑t : Int).toNat 0) : Int) = (↑x_1.2.2 : Int)) ∧ True) ∧ true = true
 ∧ devB (putW x.1 (x.2.1 * 8 + x.2.2.1) (List.take t x.2.2.2)) = devB x_1.1 ∧ True) ∧ (DevW x_1.1 ∧ I64 x_1.2.1 ∧ U64 x_1.2.2) ∧ ∀ (y : Unit), True → BC (!decide
 (storeErr x_1.1 x_1.2.1 = (0 : Int))) (Exx Unit fun y => ((Tr 1 (storeErr x_1.1 x_1.2.1 = (0 : Int)) ∧ True) ∧ devB (storeL x_1.1 x_1.2.1 x_1.2.2) = devB (putW
 x.1 (x.2.1 * 8 + x.2.2.1) x.2.2.2) ∧ true = true ∧ True) ∧ True) (I64 ((↑t : Int) + 1) ∧ Exx Nat fun t' => (I t' ∧ m t' < m t) ∧ ((true = true ∧ NilNil ∧ (0 :
 Nat) = 0) ∧ Tr 1 ((↑x.2.1 : Int) = (↑x.2.1 : Int)) ∧ Tr 1 ((↑x.2.2.1 : Int) = (↑x.2.2.1 : Int)) ∧ Tr 9 (((1 : Nat) = 1 ∧ x.2.2.2.length = x.2.2.2.length ∧ ∀ (i
 : Nat), i < x.2.2.2.length → [AV.int .u64 (↑(x.2.2.2.getD i 0) : Int)] = [AV.int .u64 (↑(x.2.2.2.getD i 0) : Int)]) ∧ Tr 1 ((↑x.2.2.2.length : Int) =
 (↑x.2.2.2.length : Int)) ∧ Tr 1 ((↑t : Int) + 1 = (↑t' : Int)) ∧ Tr 20 True)) ∧ devB (storeL x_1.1 x_1.2.1 x_1.2.2) = devB (putW x.1 (x.2.1 * 8 + x.2.2.1)
 (List.take t' x.2.2.2)) ∧ true = true ∧ True)) (Exx (List Nat × Int) fun x_1 => (((true = true ∧ NilNil ∧ (0 : Nat) = 0) ∧ Tr 1 ((↑x.2.1 : Int) = x_1.2) ∧ True)
 ∧ true = true ∧ devB (putW x.1 (x.2.1 * 8 + x.2.2.1) (List.take t x.2.2.2)) = devB x_1.1 ∧ True) ∧ (DevW x_1.1 ∧ I64 x_1.2) ∧ ∀ (y : Unit), True → Exx Unit fun
 y => ((Tr 1 (mayErr x_1.2 (↑(x_1.1.length / 8) : Int) = (0 : Int)) ∧ True) ∧ devB x_1.1 = devB (putW x.1 (x.2.1 * 8 + x.2.2.1) x.2.2.2) ∧ true = true ∧ True) ∧
 True)) = (fnVC tb [(99, specOf devStoreC), (100, specOf devFlushC)] Tryd.f94 pressStoreC (fun x => { loops := [(2, pressStoreLA x)] }) (fun _ => none)) := by kernel_rfl 

theorem pressStore_ok : SpecOk Tryd.prog 94 (specOf pressStoreC) := by
  refine specOk mixed tb_ok (SPok.cons devStore_ok (SPok.cons devFlush_ok SPok.nil)) Tryd.func94 (by decide) (devSetC_ok fun _ => rfl) (an := (fun x => { loops := [(2, pressStoreLA x)] })) (σ := (fun _ => none)) ?_
  rw [← pressStoreV]
  simp (maxSteps := 10000000) only [and_false, false_and, false_or, or_false, bOf_true, bOf_false, true_bOf, false_bOf, Exx, int_ite, merge_o, Tr_eq, true_and, and_true, exists_const, forall_const, implies_true, forall_eq, exists_eq, exists_eq', exists_eq_left, exists_eq_left', exists_eq_right, Prod.exists, Prod.forall, and_assoc, exists_and_left, BC_iff, Bool.not_eq_true', Bool.not_eq_false', decide_eq_true_eq, decide_eq_false_iff_not, I64, nat_cast_inj, Int.toNat_natCast, nats_iff, nats_iff', ints_iff, ints_iff', natss_iff, natss_iff', nilnil, litL_eq, str_inj, str_append, str_length, str_getD, str_take, lit1_iff, one_iff, two_iff, one_get, Nat.zero_add, Nat.sub_zero, Nat.reduceMul, Nat.reduceDiv, Nat.reduceAdd, Int.reduceToNat, Nat.not_lt_zero, if_false, if_true, Nat.le_refl, List.length_singleton, List.length_cons, List.length_nil, Bool.false_eq_true, not_true_eq_false, false_implies, not_false_eq_true, Prod.mk.injEq, devB_inj]
  rintro ws ln f q ⟨h, hr, hl, hq⟩
  have hlen := h.1
  refine ⟨fun t => t ≤ q.length, ⟨0, by omega, rfl, by rw [List.take_zero, putW_nil]⟩, fun t => q.length - t, fun t ht => ⟨fun hlt => ?_, fun hge => ?_⟩⟩
  · have hw : DevW (putW ws (ln * 8 + f) (q.take t)) := putW_W h fun w hw => hq w (List.mem_of_mem_take hw)
    have hn : (ln : Int) * 8 + (f : Int) + (t : Int) = ((ln * 8 + f + t : Nat) : Int) := by omega
    have he : storeErr (putW ws (ln * 8 + f) (q.take t)) ((ln : Int) * 8 + (f : Int) + (t : Int)) = 0 := by rw [storeErr, mayErr, putW_length, if_pos (by omega)]
    have hs : storeL (putW ws (ln * 8 + f) (q.take t)) ((ln : Int) * 8 + (f : Int) + (t : Int)) (q.getD t 0) = putW ws (ln * 8 + f) (q.take (t + 1)) := by
      rw [storeL, if_pos (by omega), hn, Int.toNat_natCast]
      exact putW_snoc (by omega) (by omega)
    exact ⟨by omega, by omega, by omega, by omega, by omega, by omega, by omega, by omega, hw, by omega, by omega, getD_mem (p := U64) hq (by unfold U64; omega) t, fun g => absurd he g, fun _ => ⟨by omega, by omega, t + 1, by omega, by simp only; omega, by omega, hs⟩⟩
  · rw [show t = q.length by omega, List.take_length]
    exact ⟨putW_W h hq, by omega, by omega, by rw [mayErr, if_pos (by rw [putW_length]; unfold linesN at hl; omega)], rfl⟩

theorem wordsN_u64 {b : List Nat} (h : ∀ x ∈ b, x < 256) : ∀ w ∈ wordsN b, U64 w := fun w hw => by
  obtain ⟨i, _, rfl⟩ := List.mem_map.1 hw
  have h1 : ∀ c ∈ (b.drop (8 * i)).take 8, c < 256 := fun c hc => h c (List.mem_of_mem_drop (List.mem_of_mem_take hc))
  have := numN_lt _ h1
  have h2 : ((b.drop (8 * i)).take 8).length ≤ 8 := by rw [List.length_take]; omega
  have h3 : 256 ^ ((b.drop (8 * i)).take 8).length ≤ 256 ^ 8 := Nat.pow_le_pow_right (by decide) h2
  unfold U64; omega
def writeL (ws : List Nat) (a : Int) (b : List Nat) : List Nat := if inLine ws a ∧ b.length = 64 then putW ws (8 * a.toNat) (wordsN b) else ws
def writeErr (ws : List Nat) (a : Int) (b : List Nat) : Int := if inLine ws a ∧ b.length = 64 then 0 else 2
def pressWriteC : Ctr := devSetC (Int × List Nat) (fun x => I64 x.2.1 ∧ Oct x.2.2) (fun x => [i64 x.2.1, octA x.2.2]) (fun x => writeL x.1 x.2.1 x.2.2) (fun x => i64 (writeErr x.1 x.2.1 x.2.2))

theorem pressWriteV : (∀ (x : List Nat × Int × List Nat), DevW x.1 ∧ I64 x.2.1 ∧ Oct x.2.2 → Exx (List Nat × Int) fun x_1 => (((true = true ∧ NilNil ∧ (0 : Nat)
 = 0) ∧ Tr 1 (x.2.1 = x_1.2) ∧ True) ∧ true = true ∧ devB x.1 = devB x_1.1 ∧ True) ∧ (DevW x_1.1 ∧ I64 x_1.2) ∧ ∀ (y : Unit), True → BC (!decide (lineErr x_1.1
 x_1.2 = (0 : Int))) (Exx Unit fun y => ((Tr 1 (lineErr x_1.1 x_1.2 = writeErr x.1 x.2.1 x.2.2) ∧ True) ∧ devB x_1.1 = devB (writeL x.1 x.2.1 x.2.2) ∧ true =
 true ∧ True) ∧ True) (BC (!decide ((↑x.2.2.length : Int) = (64 : Int))) (Exx Unit fun y => ((Tr 1 ((2 : Int) = writeErr x.1 x.2.1 x.2.2) ∧ True) ∧ devB x_1.1 =
 devB (writeL x.1 x.2.1 x.2.2) ∧ true = true ∧ True) ∧ True) (Exx (List Nat) fun x_2 => (((x.2.2.length = x_2.length ∧ ∀ (i : Nat), i < x_2.length → [AV.int .u8
 (↑(x.2.2.getD i 0) : Int)] = [AV.int .u8 (↑(x_2.getD i 0) : Int)]) ∧ True) ∧ true = true ∧ True) ∧ Oct x_2 ∧ ∀ (y : Nat), (wordsN x_2).length ≤ y → Exx (List
 Nat × Nat × Nat × List Nat) fun x_3 => (((true = true ∧ NilNil ∧ (0 : Nat) = 0) ∧ Tr 1 (x.2.1 = (↑x_3.2.1 : Int)) ∧ Tr 1 ((0 : Int) = (↑x_3.2.2.1 : Int)) ∧ (0 +
 (wordsN x_2).length ≤ (wordsN x_2).length ∧ (wordsN x_2).length = x_3.2.2.2.length ∧ ∀ (i : Nat), i < x_3.2.2.2.length → [AV.int .u64 (↑((wordsN x_2).getD (0 +
 i) 0) : Int)] = [AV.int .u64 (↑(x_3.2.2.2.getD i 0) : Int)]) ∧ True) ∧ true = true ∧ devB x_1.1 = devB x_3.1 ∧ True) ∧ (DevW x_3.1 ∧ x_3.2.1 * 8 + x_3.2.2.1 +
 x_3.2.2.2.length ≤ x_3.1.length ∧ x_3.2.1 < linesN x_3.1 ∧ ∀ (w : Nat), w ∈ x_3.2.2.2 → U64 w) ∧ ∀ (y : Unit), True → Exx Unit fun y => ((Tr 1 ((0 : Int) =
 writeErr x.1 x.2.1 x.2.2) ∧ True) ∧ devB (putW x_3.1 (x_3.2.1 * 8 + x_3.2.2.1) x_3.2.2.2) = devB (writeL x.1 x.2.1 x.2.2) ∧ true = true ∧ True) ∧ True))) = (fnVC tb [(84, specOf pressMayC), (94, specOf pressStoreC), (95, specOf wordsC)] Tryd.f82 pressWriteC (fun _ => {}) (fun _ => none)) := by kernel_rfl 

theorem pressWrite_ok : SpecOk Tryd.prog 82 (specOf pressWriteC) := by
  refine specOk mixed tb_ok (SPok.cons pressMay_ok (SPok.cons pressStore_ok (SPok.cons words_ok SPok.nil))) Tryd.func82 (by decide) (devSetC_ok fun _ => rfl) (an := (fun _ => {})) (σ := (fun _ => none)) ?_
  rw [← pressWriteV]
  simp (maxSteps := 10000000) only [and_false, false_and, false_or, or_false, bOf_true, bOf_false, true_bOf, false_bOf, Exx, int_ite, merge_o, Tr_eq, true_and, and_true, exists_const, forall_const, implies_true, forall_eq, exists_eq, exists_eq', exists_eq_left, exists_eq_left', exists_eq_right, Prod.exists, Prod.forall, and_assoc, exists_and_left, BC_iff, Bool.not_eq_true', Bool.not_eq_false', decide_eq_true_eq, decide_eq_false_iff_not, I64, nat_cast_inj, Int.toNat_natCast, nats_iff, nats_iff', ints_iff, ints_iff', natss_iff, natss_iff', nilnil, litL_eq, str_inj, str_append, str_length, str_getD, str_take, lit1_iff, one_iff, two_iff, one_get, Nat.zero_add, Nat.sub_zero, Nat.reduceMul, Nat.reduceDiv, Nat.reduceAdd, Int.reduceToNat, Nat.not_lt_zero, if_false, if_true, Nat.le_refl, List.length_singleton, List.length_cons, List.length_nil, Bool.false_eq_true, not_true_eq_false, false_implies, not_false_eq_true, Prod.mk.injEq, devB_inj]
  rintro ws a b ⟨h, h1, h2, hb⟩
  have hlen := h.1
  refine ⟨h, h1, h2, fun hne => ?_, fun hz => ⟨fun hb2 => ?_, fun hb2 => ⟨hb, fun y hy => ?_⟩⟩⟩
  · have hn : ¬ inLine ws a := fun k => hne (lineErr_zero.2 k)
    rw [writeErr, if_neg (fun k => hn k.1), writeL, if_neg (fun k => hn k.1), lineErr, mayErr, if_neg (show ¬ (0 ≤ a ∧ a < (linesN ws : Int)) from hn)]
    exact ⟨rfl, rfl⟩
  · rw [writeErr, if_neg (fun k => hb2 (by rw [k.2]; rfl)), writeL, if_neg (fun k => hb2 (by rw [k.2]; rfl))]
    exact ⟨rfl, rfl⟩
  · have hin := lineErr_zero.1 hz
    have hl := hin
    unfold inLine linesN at hl
    have hb3 : b.length = 64 := by omega
    have hwl := wordsN_length b
    refine ⟨ws, a.toNat, by omega, 0, rfl, rfl, h, by omega, by unfold linesN; omega, wordsN_u64 hb.1, by rw [writeErr, if_pos ⟨hin, hb3⟩], ?_⟩
    rw [writeL, if_pos ⟨hin, hb3⟩, Nat.add_zero, Nat.mul_comm]

def lineL (ws : List Nat) (a : Int) : List Nat := if inLine ws a then octetsN (lineW ws a.toNat) else []
def pressReadC : Ctr where
  X := List Nat × Int
  Y := Nat
  conv := true
  tau := ptrTau
  pre := fun x => DevW x.1 ∧ I64 x.2
  args := fun x => [.ptr 0 [] 0, i64 x.2]
  heap := fun x => [devI x.1]
  Q := fun x cap => (lineL x.1 x.2).length ≤ cap
  res := fun x cap => .tup [.sl 2 [] 0 1 0 (lineL x.1 x.2).length cap, i64 (lineErr x.1 x.2)]
  its := fun x _ => [devI x.1]
  new := fun x cap => [rowN 5 .u8 cap (lineL x.1 x.2)]
theorem pressReadC_ok : CtrOk pressReadC :=
  ⟨fun _ _ _ _ => (rfl : 1 = 1), fun _ _ _ _ => ⟨rfl, rfl⟩, fun x _ _ _ _ => ⟨⟨⟨trivial, trivial⟩, ⟨⟨fun _ _ => ⟨rfl, trivial⟩, trivial⟩, trivial⟩⟩, rfl, rfl, trivial⟩⟩
def pressReadLA (x : List Nat × Int) : LA := { T := Nat, F := fun i => frm 38 [(0, .ptr 0 [] 0), (1, i64 x.2), (7, .ptr 2 [] 0), (17, i64 (i : Nat))], H := fun i => [devI x.1, .fence, .cells 165 [.arr 1 8 (fun j => [u64 (if j < i then (lineW x.1 x.2.toNat).getD j 0 else 0)])]] }
def tupSl2 (av : AV) : Option Ren := match av with
  | .tup (.sl q _ _ _ _ _ _ :: _) => some [some 0, some 1, some q]
  | _ => some [some 0, some 1, none]

theorem pressReadV : (∀ (x : List Nat × Int), DevW x.1 ∧ I64 x.2 → Exx (List Nat × Int) fun x_1 => (((true = true ∧ NilNil ∧ (0 : Nat) = 0) ∧ Tr 1 (x.2 = x_1.2)
 ∧ True) ∧ true = true ∧ devB x.1 = devB x_1.1 ∧ True) ∧ (DevW x_1.1 ∧ I64 x_1.2) ∧ ∀ (y : Unit), True → BC (!decide (lineErr x_1.1 x_1.2 = (0 : Int))) (Exx Nat
 fun y => (((((lineL x.1 x.2).length = 0 ∧ y = 0) ∧ Tr 1 (lineErr x_1.1 x_1.2 = lineErr x.1 x.2) ∧ True) ∧ True) ∧ devB x_1.1 = devB x.1 ∧ true = true ∧ (y = 0 ∧
 (lineL x.1 x.2).length = 0) ∧ True) ∧ (lineL x.1 x.2).length ≤ y) (Exx (Nat → Prop) fun I => Exx (Nat → Nat) fun m => (Exx Nat fun t => I t ∧ ((true = true ∧
 NilNil ∧ (0 : Nat) = 0) ∧ Tr 1 (x.2 = x.2) ∧ Tr 5 ((true = true ∧ NilNil ∧ (0 : Nat) = 0) ∧ Tr 9 (Tr 1 ((0 : Int) = (↑t : Int)) ∧ Tr 20 True))) ∧ devB x_1.1 =
 devB x.1 ∧ true = true ∧ ((165 : Nat) = (165 : TypeId) ∧ (1 : Nat) = 1 ∧ (8 : Nat) = 8 ∧ (∀ (i : Nat), i < 8 → [AV.int .u64 0] = [AV.int .u64 (↑(if i < t then
 (lineW x.1 x.2.toNat).getD i 0 else 0) : Int)]) ∧ True) ∧ True) ∧ ∀ (t : Nat), I t → BC (decide ((↑t : Int) < (8 : Int))) (I64 (x.2 * 8) ∧ I64 (x.2 * 8 + (↑t :
 Int)) ∧ Exx (List Nat × Int) fun x_2 => (((true = true ∧ NilNil ∧ (0 : Nat) = 0) ∧ Tr 1 (x.2 * 8 + (↑t : Int) = x_2.2) ∧ True) ∧ true = true ∧ devB x.1 = devB
 x_2.1 ∧ True) ∧ (DevW x_2.1 ∧ I64 x_2.2) ∧ ∀ (y : Unit), True → BC (!decide (storeErr x_2.1 x_2.2 = (0 : Int))) (Exx Nat fun y => (((((lineL x.1 x.2).length = 0
 ∧ y = 0) ∧ Tr 1 (storeErr x_2.1 x_2.2 = lineErr x.1 x.2) ∧ True) ∧ True) ∧ devB x_2.1 = devB x.1 ∧ true = true ∧ (y = 0 ∧ (lineL x.1 x.2).length = 0) ∧ True) ∧
 (lineL x.1 x.2).length ≤ y) (((0 : Int) ≤ (↑t : Int) ∧ (↑t : Int) < (↑8 : Int)) ∧ (↑t : Int).toNat < 8 ∧ I64 ((↑t : Int) + 1) ∧ Exx Nat fun t' => (I t' ∧ m t' <
 m t) ∧ ((true = true ∧ NilNil ∧ (0 : Nat) = 0) ∧ Tr 1 (x.2 = x.2) ∧ Tr 5 ((true = true ∧ NilNil ∧ (0 : Nat) = 0) ∧ Tr 9 (Tr 1 ((↑t : Int) + 1 = (↑t' : Int)) ∧
 Tr 20 True))) ∧ devB x_2.1 = devB x.1 ∧ true = true ∧ ((165 : TypeId) = 165 ∧ (1 : Nat) = 1 ∧ (8 : Nat) = 8 ∧ (∀ (i : Nat), i < 8 → [AV.int .u64 (if i = (↑t :
 Int).toNat then (↑(if (0 : Int) ≤ x_2.2 then x_2.1.getD x_2.2.toNat 0 else 0) : Int) else (↑(if i < t then (lineW x.1 x.2.toNat).getD i 0 else 0) : Int))] =
 [AV.int .u64 (↑(if i < t' then (lineW x.1 x.2.toNat).getD i 0 else 0) : Int)]) ∧ True) ∧ True)) (((0 : Nat) ≤ (8 : Nat) ∧ (8 : Nat) ≤ (8 : Nat)) ∧ Exx (List
 Nat) fun x_2 => ((((0 : Nat) + ((8 : Nat) - (0 : Nat)) ≤ (8 : Nat) ∧ 8 - 0 = x_2.length ∧ ∀ (i : Nat), i < x_2.length → [AV.int .u64 (↑(if 0 + i < t then (lineW
 x.1 x.2.toNat).getD (0 + i) 0 else 0) : Int)] = [AV.int .u64 (↑(x_2.getD i 0) : Int)]) ∧ True) ∧ true = true ∧ True) ∧ ((∀ (w : Nat), w ∈ x_2 → U64 w) ∧
 x_2.length ≤ 1000000) ∧ ∀ (y : Nat), (octetsN x_2).length ≤ y → Exx Nat fun y_1 => ((((true = true ∧ NilNil ∧ (0 : Nat) = 0 ∧ (1 : Nat) = 1 ∧ (0 : Nat) = 0 ∧
 (octetsN x_2).length = (lineL x.1 x.2).length ∧ y = y_1) ∧ Tr 1 ((0 : Int) = lineErr x.1 x.2) ∧ True) ∧ True) ∧ devB x.1 = devB x.1 ∧ true = true ∧ ((5 :
 TypeId) = 5 ∧ (1 : Nat) = 1 ∧ y = y_1 ∧ (lineL x.1 x.2).length ≤ (octetsN x_2).length ∧ ∀ (i : Nat), i < (lineL x.1 x.2).length → [AV.int .u8 (↑((octetsN
 x_2).getD i 0) : Int)] = [AV.int .u8 (↑((lineL x.1 x.2).getD i 0) : Int)]) ∧ True) ∧ (lineL x.1 x.2).length ≤ y_1))) = (fnVCo tb [(84, specOf pressMayC), (85, specOf devLoadC), (86, specOf octetsC)] Tryd.f75 pressReadC (fun x => { loops := [(6, pressReadLA x)] }) (fun _ av _ => tupSl2 av) (fun _ => []) (fun _ _ _ _ => [])) := by kernel_rfl 

theorem pressRead_ok : SpecOk Tryd.prog 75 (specOf pressReadC) := by
  refine specOko mixed tb_ok (SPok.cons pressMay_ok (SPok.cons devLoad_ok (SPok.cons octets_ok SPok.nil))) Tryd.func75 (by decide) pressReadC_ok (an := (fun x => { loops := [(6, pressReadLA x)] })) (σ := (fun _ av _ => tupSl2 av)) (op := (fun _ => [])) (cl := (fun _ _ _ _ => [])) ?_
  rw [← pressReadV]
  simp (maxSteps := 10000000) only [and_false, false_and, false_or, or_false, bOf_true, bOf_false, true_bOf, false_bOf, Exx, int_ite, merge_o, Tr_eq, true_and, and_true, exists_const, forall_const, implies_true, forall_eq, exists_eq, exists_eq', exists_eq_left, exists_eq_left', exists_eq_right, Prod.exists, Prod.forall, and_assoc, exists_and_left, BC_iff, Bool.not_eq_true', Bool.not_eq_false', decide_eq_true_eq, decide_eq_false_iff_not, I64, nat_cast_inj, Int.toNat_natCast, nats_iff, nats_iff', ints_iff, ints_iff', natss_iff, natss_iff', nilnil, litL_eq, str_inj, str_append, str_length, str_getD, str_take, lit1_iff, one_iff, two_iff, one_get, Nat.zero_add, Nat.sub_zero, Nat.reduceMul, Nat.reduceDiv, Nat.reduceAdd, Int.reduceToNat, Nat.not_lt_zero, if_false, if_true, Nat.le_refl, List.length_singleton, List.length_cons, List.length_nil, Bool.false_eq_true, not_true_eq_false, false_implies, not_false_eq_true, Prod.mk.injEq, devB_inj]
  rintro ws a ⟨h, h1, h2⟩
  have hlen := h.1
  refine ⟨h, h1, h2, fun hne => ?_, fun hz => ?_⟩
  · have : lineL ws a = [] := by rw [lineL, if_neg (fun k => hne (lineErr_zero.2 k))]
    rw [this]; exact ⟨rfl, rfl, Nat.le_refl _⟩
  have hin := lineErr_zero.1 hz
  have hl := hin
  unfold inLine linesN at hl
  have hL : lineL ws a = octetsN (lineW ws a.toNat) := by rw [lineL, if_pos hin]
  have hW : (lineW ws a.toNat).length = 8 := by rw [lineW, List.length_take, List.length_drop]; omega
  have hg : ∀ t, t < 8 → (lineW ws a.toNat).getD t 0 = ws.getD (8 * a.toNat + t) 0 := fun t ht => by rw [lineW, getD_take, if_pos ht, getD_drop]
  refine ⟨fun t => t ≤ 8, ⟨0, by omega, rfl, fun i _ => by simp⟩, fun t => 8 - t, fun t ht => ⟨fun hlt => ?_, fun hge => ?_⟩⟩
  · have he : storeErr ws (a * 8 + (t : Int)) = 0 := by rw [storeErr, mayErr, if_pos (by omega)]
    refine ⟨by omega, by omega, by omega, by omega, h, by omega, by omega, fun g => absurd he g, fun _ => ⟨by omega, by omega, by omega, by omega, by omega, t + 1, by omega, by simp only; omega, by omega, fun i hi => ?_⟩⟩
    by_cases e : i = t
    · subst e
      rw [if_pos rfl, if_pos (by omega), if_pos (by omega), hg i hi, show (a * 8 + (i : Int)).toNat = 8 * a.toNat + i by omega]
    · rw [if_neg e]
      by_cases e2 : i < t
      · rw [if_pos e2, if_pos (by omega)]
      · rw [if_neg e2, if_neg (by omega)]
  · refine ⟨by omega, lineW ws a.toNat, hW.symm, fun i hi => by rw [if_pos (by omega)], fun w hw => h.2 w (List.mem_of_mem_drop (List.mem_of_mem_take hw)), by omega, fun y hy => ?_⟩
    rw [hL]
    exact ⟨rfl, hz.symm, Nat.le_refl _, fun _ _ => rfl, hy⟩

end Yard
