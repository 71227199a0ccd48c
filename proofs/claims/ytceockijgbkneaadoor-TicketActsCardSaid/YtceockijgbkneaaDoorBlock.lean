import Derived.Test.YtceockijgbkneaaDoorShadow
import Derived.Test.YtceockijgbkneaaDoorCrc

namespace Yard
open Go Go.Sx Go.Proofs
set_option linter.unusedVariables false
set_option linter.unusedSimpArgs false
set_option maxRecDepth 4000

def restL (kind tag : Nat) (body : List Nat) : List Nat := [kind, tag, 0, 0] ++ body ++ List.replicate (56 - body.length) 0
def sealOk (kind tag : Int) (body : List Nat) : Prop := 1 ≤ kind ∧ kind < 256 ∧ 0 ≤ tag ∧ tag < 256 ∧ body.length ≤ 56
instance (kind tag : Int) (body : List Nat) : Decidable (sealOk kind tag body) := by unfold sealOk; infer_instance
def sealN (kind tag : Nat) (body : List Nat) : List Nat := layN (sumN [restL kind tag body]) 4 ++ restL kind tag body
def sealL (kind tag : Int) (body : List Nat) : List Nat := if sealOk kind tag body then sealN kind.toNat tag.toNat body else []
def sealC : Ctr := rowC (Int × Int × List Nat) (fun x => I64 x.1 ∧ I64 x.2.1 ∧ Oct x.2.2) (fun x => [i64 x.1, i64 x.2.1, octA x.2.2]) 5 .u8 (fun x => sealL x.1 x.2.1 x.2.2) (fun x r => .tup [r, .bool (decide (sealOk x.1 x.2.1 x.2.2))])
def rightP (b : List Nat) : Prop := b.length = 64 ∧ b.getD 4 0 ≠ 0 ∧ noughts b 6 2 = true ∧ sumN [b.drop 4] = readN (b.take 4)
instance (b : List Nat) : Decidable (rightP b) := by unfold rightP; infer_instance
def rightC : Ctr := pureC (List Nat) Oct (fun b => [octA b]) (fun b => .bool (decide (rightP b)))
def kindN (b : List Nat) : Nat := if rightP b then b.getD 4 0 else 0
def tagN (b : List Nat) : Nat := if rightP b then b.getD 5 0 else 0
def bodyL (b : List Nat) : List Nat := if rightP b then b.drop 8 else []
def openC : Ctr := rowC (List Nat) Oct (fun b => [octA b]) 5 .u8 bodyL (fun b r => .tup [i64 (kindN b : Nat), i64 (tagN b : Nat), r, .bool (decide (rightP b))])
def bcloneC : Ctr := rowC (List Nat) Oct (fun b => [octA b]) 5 .u8 (fun b => b) (fun _ r => r)

theorem bcloneV : (∀ (x : List Nat), Oct x → ∀ (b : Bool), (x.length ≠ 0 → b = false) → BC b (Exx Nat fun y => (((x.length = 0 ∧ y = 0) ∧ True) ∧ true = true ∧
 (y = 0 ∧ x.length = 0) ∧ True) ∧ x.length ≤ y) (true = true ∧ ((0 : Nat) ≤ (0 : Nat) ∧ (0 : Nat) = 0) ∧ (0 + x.length ≤ 9223372036854775807 ∧ (0 + x.length) * 1
 ≤ 140737488355328) ∧ ∀ (cap : Nat), 0 + x.length ≤ cap ∧ cap ≤ 9223372036854775807 → Exx Nat fun y => (((true = true ∧ NilNil ∧ (0 : Nat) = 0 ∧ (1 : Nat) = 1 ∧
 (0 : Nat) = 0 ∧ 0 + x.length = x.length ∧ cap = y) ∧ True) ∧ true = true ∧ ((5 : TypeId) = 5 ∧ (1 : Nat) = 1 ∧ cap = y ∧ x.length ≤ 0 + x.length ∧ ∀ (i : Nat),
 i < x.length → (if i < 0 then [] else [AV.int .u8 (↑(x.getD (i - 0) 0) : Int)]) = [AV.int .u8 (↑(x.getD i 0) : Int)]) ∧ True) ∧ x.length ≤ y)) = (fnVC tb [] Tryd.f88 bcloneC (fun _ => {}) (fun _ => none)) := by kernel_rfl 

theorem bclone_ok : SpecOk Tryd.prog 88 (specOf bcloneC) := by
  refine specOk mixed tb_ok SPok.nil Tryd.func88 (by decide) (rowC_ok fun _ _ _ => rfl) (an := (fun _ => {})) (σ := (fun _ => none)) ?_
  rw [← bcloneV]
  simp (maxSteps := 10000000) only [and_false, false_and, false_or, or_false, bOf_true, bOf_false, true_bOf, false_bOf, Exx, int_ite, merge_o, Tr_eq, true_and, and_true, exists_const, forall_const, implies_true, forall_eq, exists_eq, exists_eq', exists_eq_left, exists_eq_left', exists_eq_right, Prod.exists, Prod.forall, and_assoc, exists_and_left, BC_iff, Bool.not_eq_true', Bool.not_eq_false', decide_eq_true_eq, decide_eq_false_iff_not, I64, nat_cast_inj, Int.toNat_natCast, nats_iff, nats_iff', ints_iff, ints_iff', natss_iff, natss_iff', nilnil, litL_eq, str_inj, str_append, str_length, str_getD, str_take, lit1_iff, one_iff, two_iff, one_get, Nat.zero_add, Nat.sub_zero, Nat.reduceMul, Nat.reduceDiv, Nat.reduceAdd, Int.reduceToNat, Nat.not_lt_zero, if_false, if_true, Nat.le_refl, List.length_singleton, List.length_cons, List.length_nil, Bool.false_eq_true, not_true_eq_false, false_implies, not_false_eq_true, Prod.mk.injEq]
  rintro b ⟨hb, hl⟩ c
  exact fun h => ⟨fun k => by have := h; cases c <;> simp_all, fun k => ⟨by omega, by omega, fun cap hc => hc.1⟩⟩

theorem readN_take {l : List Nat} {n : Nat} (h : n ≤ 8) : readN (l.take n) = numN (l.take n) := by
  rw [readN, List.take_take, Nat.min_eq_right h]
theorem numN4 {l : List Nat} (h : ∀ c ∈ l, c < 256) : numN (l.take 4) < 4294967296 := by
  have h1 := numN_lt (l.take 4) fun c hc => h c (List.mem_of_mem_take hc)
  have h2 : 256 ^ (l.take 4).length ≤ 256 ^ 4 := Nat.pow_le_pow_right (by decide) (by rw [List.length_take]; omega)
  omega

theorem rightV : (∀ (x : List Nat), Oct x → BC (decide ((↑x.length : Int) = (64 : Int))) (((0 : Int) ≤ (4 : Int) ∧ (4 : Int) < (↑x.length : Int)) ∧ BC (!decide
 ((↑(x.getD (Int.toNat 4) 0) : Int) = (0 : Int))) (Exx (List Nat × Int × Int) fun x_1 => (((x.length = x_1.1.length ∧ ∀ (i : Nat), i < x_1.1.length → [AV.int .u8
 (↑(x.getD i 0) : Int)] = [AV.int .u8 (↑(x_1.1.getD i 0) : Int)]) ∧ Tr 1 ((6 : Int) = x_1.2.1) ∧ Tr 1 ((2 : Int) = x_1.2.2) ∧ True) ∧ true = true ∧ True) ∧ (Oct
 x_1.1 ∧ I64 x_1.2.1 ∧ I64 x_1.2.2) ∧ ∀ (y : Unit), True → BC (noughts x_1.1 x_1.2.1 x_1.2.2) ((0 : Int) ≤ (4 : Int) ∧ ((0 : Nat) ≤ (4 : Int).toNat ∧ Int.toNat 4
 ≤ x.length) ∧ (0 : Int) ≤ (4 : Int) ∧ (Int.toNat 4 ≤ x.length ∧ x.length ≤ x.length) ∧ (Exx (List Nat) fun x_2 => (((Int.toNat 4 - 0 = x_2.length ∧ ∀ (i : Nat),
 i < x_2.length → [AV.int .u8 (↑(x.getD (0 + i) 0) : Int)] = [AV.int .u8 (↑(x_2.getD i 0) : Int)]) ∧ True) ∧ true = true ∧ True) ∧ Oct x_2 ∧ ∀ (y : Unit), True →
 ∀ (m : Int), m = IntKind.u32.wrap (↑(readN x_2) : Int) → Exx (Nat × List (List Nat)) fun x_3 => ((Tr 1 (m = (↑x_3.1 : Int)) ∧ ((0 : Nat) + (1 : Nat) ≤ (1 : Nat)
 ∧ 1 = x_3.2.length ∧ ∀ (i : Nat), i < x_3.2.length → mergeO (0 + i) (0 * 1 / 1) [AV.ro 1 (x.length - Int.toNat 4) fun i => [AV.int .u8 (↑(x.getD (Int.toNat 4 +
 i) 0) : Int)]] [AV.nils] (mergeS (0 + i) (0 * 1 / 1) [AV.ro 1 (x.length - Int.toNat 4) fun i => [AV.int .u8 (↑(x.getD (Int.toNat 4 + i) 0) : Int)]] [AV.nils]) =
 [AV.ro 1 (x_3.2.getD i []).length fun i_1 => [AV.int .u8 (↑((x_3.2.getD i []).getD i_1 0) : Int)]]) ∧ True) ∧ true = true ∧ True) ∧ (x_3.1 < 4294967296 ∧ Bytess
 x_3.2) ∧ ∀ (y : Unit), True → Exx Unit fun y => ((decide (sumN x_3.2 = x_3.1) = decide (rightP x) ∧ True) ∧ true = true ∧ True) ∧ True) ∧ Exx (List Nat) fun x_2
 => (((Int.toNat 4 - 0 = x_2.length ∧ ∀ (i : Nat), i < x_2.length → [AV.int .u8 (↑(x.getD (0 + i) 0) : Int)] = [AV.int .u8 (↑(x_2.getD i 0) : Int)]) ∧ True) ∧
 true = true ∧ True) ∧ Oct x_2 ∧ ∀ (y : Unit), True → ∀ (m : Int), m = IntKind.u32.wrap (↑(readN x_2) : Int) → Exx (Nat × List (List Nat)) fun x_3 => ((Tr 1 (m =
 (↑x_3.1 : Int)) ∧ ((0 : Nat) + (1 : Nat) ≤ (1 : Nat) ∧ 1 = x_3.2.length ∧ ∀ (i : Nat), i < x_3.2.length → mergeO (0 + i) (0 * 1 / 1) [AV.ro 1 (x.length -
 Int.toNat 4) fun i => [AV.int .u8 (↑(x.getD (Int.toNat 4 + i) 0) : Int)]] [AV.nils] (mergeS (0 + i) (0 * 1 / 1) [AV.ro 1 (x.length - Int.toNat 4) fun i =>
 [AV.int .u8 (↑(x.getD (Int.toNat 4 + i) 0) : Int)]] [AV.nils]) = [AV.ro 1 (x_3.2.getD i []).length fun i_1 => [AV.int .u8 (↑((x_3.2.getD i []).getD i_1 0) :
 Int)]]) ∧ True) ∧ true = true ∧ True) ∧ (x_3.1 < 4294967296 ∧ Bytess x_3.2) ∧ ∀ (y : Unit), True → Exx Unit fun y => ((decide (sumN x_3.2 = x_3.1) = decide
 (rightP x) ∧ True) ∧ true = true ∧ True) ∧ True) (Exx Unit fun y => ((false = decide (rightP x) ∧ True) ∧ true = true ∧ True) ∧ True)) (Exx Unit fun y =>
 ((false = decide (rightP x) ∧ True) ∧ true = true ∧ True) ∧ True)) (Exx Unit fun y => ((false = decide (rightP x) ∧ True) ∧ true = true ∧ True) ∧ True)) = (fnVC tb [(77, specOf noughtsC), (78, specOf readC), (97, specOf sumFitsC)] Tryd.f87 rightC (fun _ => {}) (fun _ => none)) := by kernel_rfl 

theorem right_ok : SpecOk Tryd.prog 87 (specOf rightC) := by
  refine specOk mixed tb_ok (SPok.cons noughts_ok (SPok.cons read_ok (SPok.cons sumFits_ok SPok.nil))) Tryd.func87 (by decide) (pureC_ok fun _ => rfl) (an := (fun _ => {})) (σ := (fun _ => none)) ?_
  rw [← rightV]
  simp (maxSteps := 10000000) only [and_false, false_and, false_or, or_false, bOf_true, bOf_false, true_bOf, false_bOf, Exx, int_ite, merge_o, Tr_eq, true_and, and_true, exists_const, forall_const, implies_true, forall_eq, exists_eq, exists_eq', exists_eq_left, exists_eq_left', exists_eq_right, Prod.exists, Prod.forall, and_assoc, exists_and_left, BC_iff, Bool.not_eq_true', Bool.not_eq_false', decide_eq_true_eq, decide_eq_false_iff_not, I64, nat_cast_inj, Int.toNat_natCast, nats_iff, nats_iff', ints_iff, ints_iff', natss_iff, natss_iff', nilnil, litL_eq, str_inj, str_append, str_length, str_getD, str_take, lit1_iff, one_iff, two_iff, one_get, Nat.zero_add, Nat.sub_zero, Nat.reduceMul, Nat.reduceDiv, Nat.reduceAdd, Int.reduceToNat, Nat.not_lt_zero, if_false, if_true, Nat.le_refl, List.length_singleton, List.length_cons, List.length_nil, Bool.false_eq_true, not_true_eq_false, false_implies, not_false_eq_true, Prod.mk.injEq]
  rintro b ⟨hb, hl⟩
  have hno : ¬ rightP b → false = decide (rightP b) := fun h => (decide_eq_false h).symm
  refine ⟨fun h64 => ⟨by omega, by omega, fun h4 => ⟨⟨hb, hl⟩, by omega, by omega, by omega, by omega, fun h6 => ?_, fun h6 => hno fun k => by rw [k.2.2.1] at h6; cases h6⟩, fun h4 => hno fun k => k.2.1 (by omega)⟩, fun h64 => hno fun k => h64 (by rw [k.1]; rfl)⟩
  have hp : ∃ x : List Nat, 4 = x.length ∧ (∀ i, i < x.length → [AV.int IntKind.u8 ((b.getD i 0 : Nat) : Int)] = [AV.int IntKind.u8 ((x.getD i 0 : Nat) : Int)]) ∧ Oct x ∧ ∃ a : Nat, IntKind.u32.wrap ((readN x : Nat) : Int) = (a : Int) ∧ ∃ x : List (List Nat), 1 = x.length ∧ (∀ i, i < x.length → (if i = 0 then [AV.ro 1 (b.length - 4) fun i => [AV.int IntKind.u8 ((b.getD (4 + i) 0 : Nat) : Int)]] else [AV.nils]) = [AV.ro 1 (x.getD i []).length fun j => [AV.int IntKind.u8 (((x.getD i []).getD j 0 : Nat) : Int)]]) ∧ a < 4294967296 ∧ Bytess x ∧ decide (sumN x = a) = decide (rightP b) := by
    have hn : readN (b.take 4) < 4294967296 := by rw [readN_take (by decide)]; exact numN4 hb
    refine ⟨b.take 4, by rw [List.length_take]; omega, fun i hi => by rw [getD_take, if_pos (by rw [List.length_take] at hi; omega)], ⟨fun x hx => hb x (List.mem_of_mem_take hx), by rw [List.length_take]; omega⟩, readN (b.take 4), wrap32 (by omega), [b.drop 4], rfl, fun i hi => ?_, hn, ⟨fun l hl' => ?_, (show 1 ≤ 1000 by decide)⟩, ?_⟩
    · have : i = 0 := by have : i < 1 := hi; omega
      subst this
      show [AV.ro 1 (b.length - 4) _] = [AV.ro 1 (b.drop 4).length fun j => [AV.int IntKind.u8 (((b.drop 4).getD j 0 : Nat) : Int)]]
      rw [List.length_drop]
      congr 2
      funext j
      rw [getD_drop]
    · rw [List.mem_singleton] at hl'
      subst hl'
      exact ⟨fun c hc => hb c (List.mem_of_mem_drop hc), by rw [List.length_drop]; omega⟩
    · exact decide_eq_decide.2 ⟨fun e => ⟨by omega, by omega, h6, e⟩, fun k => k.2.2.2⟩
  exact ⟨by omega, by omega, by omega, by omega, by omega, hp, hp⟩

theorem openV : (∀ (x : List Nat), Oct x → Exx (List Nat) fun x_1 => (((x.length = x_1.length ∧ ∀ (i : Nat), i < x_1.length → [AV.int .u8 (↑(x.getD i 0) : Int)]
 = [AV.int .u8 (↑(x_1.getD i 0) : Int)]) ∧ True) ∧ true = true ∧ True) ∧ Oct x_1 ∧ ∀ (y : Unit), True → BC (!decide (rightP x_1)) (Exx Nat fun y => (((Tr 1 ((0 :
 Int) = (↑(kindN x) : Int)) ∧ Tr 1 ((0 : Int) = (↑(tagN x) : Int)) ∧ ((bodyL x).length = 0 ∧ y = 0) ∧ false = decide (rightP x) ∧ True) ∧ True) ∧ true = true ∧
 (y = 0 ∧ (bodyL x).length = 0) ∧ True) ∧ (bodyL x).length ≤ y) (((0 : Int) ≤ (4 : Int) ∧ (4 : Int) < (↑x.length : Int)) ∧ ∀ (m : Int), m = IntKind.i64.wrap
 (↑(x.getD (Int.toNat 4) 0) : Int) → ((0 : Int) ≤ (5 : Int) ∧ (5 : Int) < (↑x.length : Int)) ∧ ∀ (m_1 : Int), m_1 = IntKind.i64.wrap (↑(x.getD (Int.toNat 5) 0) :
 Int) → (0 : Int) ≤ (8 : Int) ∧ (Int.toNat 8 ≤ x.length ∧ x.length ≤ x.length) ∧ Exx (List Nat) fun x_2 => (((x.length - Int.toNat 8 = x_2.length ∧ ∀ (i : Nat),
 i < x_2.length → [AV.int .u8 (↑(x.getD (Int.toNat 8 + i) 0) : Int)] = [AV.int .u8 (↑(x_2.getD i 0) : Int)]) ∧ True) ∧ true = true ∧ True) ∧ Oct x_2 ∧ ∀ (y :
 Nat), x_2.length ≤ y → Exx Nat fun y_1 => (((Tr 1 (m = (↑(kindN x) : Int)) ∧ Tr 1 (m_1 = (↑(tagN x) : Int)) ∧ (true = true ∧ NilNil ∧ (0 : Nat) = 0 ∧ (1 : Nat)
 = 1 ∧ (0 : Nat) = 0 ∧ x_2.length = (bodyL x).length ∧ y = y_1) ∧ true = decide (rightP x) ∧ True) ∧ True) ∧ true = true ∧ ((5 : TypeId) = 5 ∧ (1 : Nat) = 1 ∧ y
 = y_1 ∧ (bodyL x).length ≤ x_2.length ∧ ∀ (i : Nat), i < (bodyL x).length → [AV.int .u8 (↑(x_2.getD i 0) : Int)] = [AV.int .u8 (↑((bodyL x).getD i 0) : Int)]) ∧
 True) ∧ (bodyL x).length ≤ y_1)) = (fnVC tb [(87, specOf rightC), (88, specOf bcloneC)] Tryd.f76 openC (fun x => { loose := [(3, [1])] }) (fun _ => none)) := by kernel_rfl 

theorem open_ok : SpecOk Tryd.prog 76 (specOf openC) := by
  refine specOk mixed tb_ok (SPok.cons right_ok (SPok.cons bclone_ok SPok.nil)) Tryd.func76 (by decide) (rowC_ok fun _ _ _ => ⟨rfl, rfl, rfl, rfl, trivial⟩) (an := (fun x => { loose := [(3, [1])] })) (σ := (fun _ => none)) ?_
  rw [← openV]
  simp (maxSteps := 10000000) only [and_false, false_and, false_or, or_false, bOf_true, bOf_false, true_bOf, false_bOf, Exx, int_ite, merge_o, Tr_eq, true_and, and_true, exists_const, forall_const, implies_true, forall_eq, exists_eq, exists_eq', exists_eq_left, exists_eq_left', exists_eq_right, Prod.exists, Prod.forall, and_assoc, exists_and_left, BC_iff, Bool.not_eq_true', Bool.not_eq_false', decide_eq_true_eq, decide_eq_false_iff_not, I64, nat_cast_inj, Int.toNat_natCast, nats_iff, nats_iff', ints_iff, ints_iff', natss_iff, natss_iff', nilnil, litL_eq, str_inj, str_append, str_length, str_getD, str_take, lit1_iff, one_iff, two_iff, one_get, Nat.zero_add, Nat.sub_zero, Nat.reduceMul, Nat.reduceDiv, Nat.reduceAdd, Int.reduceToNat, Nat.not_lt_zero, if_false, if_true, Nat.le_refl, List.length_singleton, List.length_cons, List.length_nil, Bool.false_eq_true, not_true_eq_false, false_implies, not_false_eq_true, Prod.mk.injEq]
  rintro b ⟨hb, hl⟩
  refine ⟨⟨hb, hl⟩, fun hn => ?_, fun hr => ?_⟩
  · rw [kindN, if_neg hn, tagN, if_neg hn, bodyL, if_neg hn]
    exact ⟨rfl, rfl, rfl, (decide_eq_false hn).symm, rfl, Nat.le_refl _⟩
  · have h64 := hr.1
    refine ⟨by omega, by omega, by omega, by omega, by omega, by omega, b.drop 8, by rw [List.length_drop], fun i hi => by rw [getD_drop], ⟨fun x hx => hb x (List.mem_of_mem_drop hx), by rw [List.length_drop]; omega⟩, fun y hy => ?_⟩
    have h4 : b.getD 4 0 < 256 := getD_mem (p := fun c => c < 256) hb (by decide) 4
    have h5 : b.getD 5 0 < 256 := getD_mem (p := fun c => c < 256) hb (by decide) 5
    rw [kindN, if_pos hr, tagN, if_pos hr, bodyL, if_pos hr, wrap_I64 ⟨by omega, by omega⟩, wrap_I64 ⟨by omega, by omega⟩]
    exact ⟨rfl, rfl, rfl, (decide_eq_true hr).symm, Nat.le_refl _, fun _ _ => rfl, hy⟩

theorem sealV : (∀ (x : Int × Int × List Nat), I64 x.1 ∧ I64 x.2.1 ∧ Oct x.2.2 → BC (decide (x.1 < (1 : Int))) (Exx Nat fun y => (((((sealL x.1 x.2.1
 x.2.2).length = 0 ∧ y = 0) ∧ false = decide (sealOk x.1 x.2.1 x.2.2) ∧ True) ∧ True) ∧ true = true ∧ (y = 0 ∧ (sealL x.1 x.2.1 x.2.2).length = 0) ∧ True) ∧
 (sealL x.1 x.2.1 x.2.2).length ≤ y) (BC (decide ((256 : Int) ≤ x.1)) (Exx Nat fun y => (((((sealL x.1 x.2.1 x.2.2).length = 0 ∧ y = 0) ∧ false = decide (sealOk
 x.1 x.2.1 x.2.2) ∧ True) ∧ True) ∧ true = true ∧ (y = 0 ∧ (sealL x.1 x.2.1 x.2.2).length = 0) ∧ True) ∧ (sealL x.1 x.2.1 x.2.2).length ≤ y) (BC (decide (x.2.1 <
 (0 : Int))) (Exx Nat fun y => (((((sealL x.1 x.2.1 x.2.2).length = 0 ∧ y = 0) ∧ false = decide (sealOk x.1 x.2.1 x.2.2) ∧ True) ∧ True) ∧ true = true ∧ (y = 0 ∧
 (sealL x.1 x.2.1 x.2.2).length = 0) ∧ True) ∧ (sealL x.1 x.2.1 x.2.2).length ≤ y) (BC (decide ((256 : Int) ≤ x.2.1)) (Exx Nat fun y => (((((sealL x.1 x.2.1
 x.2.2).length = 0 ∧ y = 0) ∧ false = decide (sealOk x.1 x.2.1 x.2.2) ∧ True) ∧ True) ∧ true = true ∧ (y = 0 ∧ (sealL x.1 x.2.1 x.2.2).length = 0) ∧ True) ∧
 (sealL x.1 x.2.1 x.2.2).length ≤ y) (BC (decide ((56 : Int) < (↑x.2.2.length : Int))) (Exx Nat fun y => (((((sealL x.1 x.2.1 x.2.2).length = 0 ∧ y = 0) ∧ false
 = decide (sealOk x.1 x.2.1 x.2.2) ∧ True) ∧ True) ∧ true = true ∧ (y = 0 ∧ (sealL x.1 x.2.1 x.2.2).length = 0) ∧ True) ∧ (sealL x.1 x.2.1 x.2.2).length ≤ y)
 (((0 : Int) ≤ (64 : Int) ∧ (64 : Int) ≤ (64 : Int) ∧ (↑(1 : Nat) : Int) * (64 : Int) ≤ (281474976710656 : Int) ∧ (64 : Int) ≤ (9223372036854775807 : Int)) ∧ ∀
 (m : Int), m = IntKind.u8.wrap x.1 → ∀ (m_1 : Int), m_1 = IntKind.u8.wrap x.2.1 → ((0 : Int) ≤ (4 : Int) ∧ (4 : Int) < (↑(64 : Int).toNat : Int)) ∧ (0 : Nat) +
 (4 : Int).toNat < (64 : Int).toNat ∧ (64 : Int).toNat = (64 : Int).toNat ∧ ((0 : Int) ≤ (5 : Int) ∧ (5 : Int) < (↑(64 : Int).toNat : Int)) ∧ (0 : Nat) + (5 :
 Int).toNat < (64 : Int).toNat ∧ (64 : Int).toNat = (64 : Int).toNat ∧ (0 : Int) ≤ (8 : Int) ∧ ((8 : Int).toNat ≤ (64 : Int).toNat ∧ (64 : Int).toNat ≤ (64 :
 Int).toNat) ∧ 0 + Int.toNat 8 + min x.2.2.length (Int.toNat 64 - Int.toNat 8) ≤ Int.toNat 64 ∧ (0 : Int) ≤ (4 : Int) ∧ ((4 : Int).toNat ≤ (64 : Int).toNat ∧ (64
 : Int).toNat ≤ (64 : Int).toNat) ∧ Exx (List (List Nat)) fun x_1 => ((((1 : Nat) = 1 ∧ 1 = x_1.length ∧ (1 : Nat) ≤ [AV.sl [Item.fence].length [] (0 : Nat) (1 :
 Nat) ((0 : Nat) + (4 : Int).toNat) ((64 : Int).toNat - (4 : Int).toNat) ((64 : Int).toNat - (4 : Int).toNat)].length ∧ ((0 : Nat) + (4 : Int).toNat + ((64 :
 Int).toNat - (4 : Int).toNat) ≤ (64 : Int).toNat ∧ Int.toNat 64 - Int.toNat 4 = (x_1.getD 0 []).length ∧ ∀ (j : Nat), j < (x_1.getD 0 []).length → (if 0 +
 Int.toNat 8 ≤ 0 + Int.toNat 4 + j ∧ 0 + Int.toNat 4 + j < 0 + Int.toNat 8 + min x.2.2.length (Int.toNat 64 - Int.toNat 8) then [AV.int .u8 (↑(x.2.2.getD (0 +
 Int.toNat 4 + j - (0 + Int.toNat 8)) 0) : Int)] else [AV.int .u8 (if 0 + Int.toNat 4 + j = 0 + Int.toNat 5 then m_1 else if 0 + Int.toNat 4 + j = 0 + Int.toNat
 4 then m else 0)]) = [AV.int .u8 (↑((x_1.getD 0 []).getD j 0) : Int)]) ∧ True) ∧ True) ∧ true = true ∧ True) ∧ Bytess x_1 ∧ ∀ (y : Unit), True → ∀ (m_2 : Int),
 m_2 = IntKind.u64.wrap (↑(sumN x_1) : Int) → Exx (Nat × Int) fun x_2 => ((Tr 1 (m_2 = (↑x_2.1 : Int)) ∧ Tr 1 ((4 : Int) = x_2.2) ∧ True) ∧ true = true ∧ True) ∧
 (U64 x_2.1 ∧ I64 x_2.2) ∧ ∀ (y : Nat), (layL x_2.1 x_2.2).length ≤ y → 0 + (layL x_2.1 x_2.2).length ≤ (layL x_2.1 x_2.2).length ∧ 0 + min (layL x_2.1
 x_2.2).length (Int.toNat 64) ≤ Int.toNat 64 ∧ Exx Nat fun y => ((((true = true ∧ NilNil ∧ (0 : Nat) = 0 ∧ (1 : Nat) = 1 ∧ (0 : Nat) = 0 ∧ Int.toNat 64 = (sealL
 x.1 x.2.1 x.2.2).length ∧ Int.toNat 64 = y) ∧ true = decide (sealOk x.1 x.2.1 x.2.2) ∧ True) ∧ True) ∧ true = true ∧ ((5 : TypeId) = 5 ∧ (1 : Nat) = 1 ∧
 Int.toNat 64 = y ∧ (sealL x.1 x.2.1 x.2.2).length ≤ Int.toNat 64 ∧ ∀ (i : Nat), i < (sealL x.1 x.2.1 x.2.2).length → (if 0 ≤ i ∧ i < 0 + min (layL x_2.1
 x_2.2).length (Int.toNat 64) then [AV.int .u8 (↑((layL x_2.1 x_2.2).getD (0 + (i - 0)) 0) : Int)] else if 0 + Int.toNat 8 ≤ i ∧ i < 0 + Int.toNat 8 + min
 x.2.2.length (Int.toNat 64 - Int.toNat 8) then [AV.int .u8 (↑(x.2.2.getD (i - (0 + Int.toNat 8)) 0) : Int)] else [AV.int .u8 (if i = 0 + Int.toNat 5 then m_1
 else if i = 0 + Int.toNat 4 then m else 0)]) = [AV.int .u8 (↑((sealL x.1 x.2.1 x.2.2).getD i 0) : Int)]) ∧ True) ∧ (sealL x.1 x.2.1 x.2.2).length ≤ y)))))) = (fnVC tb [(59, specOf layC), (69, specOf sumC)] Tryd.f60 sealC (fun _ => {}) (fun _ => none)) := by kernel_rfl 

theorem seal_ok : SpecOk Tryd.prog 60 (specOf sealC) := by
  refine specOk mixed tb_ok (SPok.cons lay_ok (SPok.cons sum_ok SPok.nil)) Tryd.func60 (by decide) (rowC_ok fun _ _ _ => ⟨rfl, rfl, trivial⟩) (an := (fun _ => {})) (σ := (fun _ => none)) ?_
  rw [← sealV]
  simp (maxSteps := 10000000) only [and_false, false_and, false_or, or_false, bOf_true, bOf_false, true_bOf, false_bOf, Exx, int_ite, merge_o, Tr_eq, true_and, and_true, exists_const, forall_const, implies_true, forall_eq, exists_eq, exists_eq', exists_eq_left, exists_eq_left', exists_eq_right, Prod.exists, Prod.forall, and_assoc, exists_and_left, BC_iff, Bool.not_eq_true', Bool.not_eq_false', decide_eq_true_eq, decide_eq_false_iff_not, I64, nat_cast_inj, Int.toNat_natCast, nats_iff, nats_iff', ints_iff, ints_iff', natss_iff, natss_iff', nilnil, litL_eq, str_inj, str_append, str_length, str_getD, str_take, lit1_iff, one_iff, two_iff, one_get, Nat.zero_add, Nat.sub_zero, Nat.reduceMul, Nat.reduceDiv, Nat.reduceAdd, Int.reduceToNat, Nat.not_lt_zero, if_false, if_true, Nat.le_refl, List.length_singleton, List.length_cons, List.length_nil, Bool.false_eq_true, not_true_eq_false, false_implies, not_false_eq_true, Prod.mk.injEq]
  rintro k t b ⟨h1, h2, h3, h4, hb, hl⟩
  have hno : ¬ sealOk k t b → ((sealL k t b).length = 0 ∧ false = decide (sealOk k t b) ∧ (sealL k t b).length = 0 ∧ (sealL k t b).length ≤ 0) := fun h => by
    rw [sealL, if_neg h]; exact ⟨rfl, (decide_eq_false h).symm, rfl, Nat.le_refl _⟩
  refine ⟨fun h => hno (fun g => by have := g.1; omega), fun g1 => ⟨fun h => hno (fun g => by have := g.2.1; omega), fun g2 => ⟨fun h => hno (fun g => by have := g.2.2.1; omega), fun g3 => ⟨fun h => hno (fun g => by have := g.2.2.2.1; omega), fun g4 => ⟨fun h => hno (fun g => by have := g.2.2.2.2; omega), fun g5 => ?_⟩⟩⟩⟩⟩
  have hok : sealOk k t b := ⟨by omega, by omega, by omega, by omega, by omega⟩
  rw [sealL, if_pos hok, decide_eq_true hok]
  have hw : ∀ z : Int, 0 ≤ z → z < 256 → IntKind.u8.wrap z = z := fun z h h' => by
    rw [show z = ((z.toNat : Nat) : Int) by omega, wrap8]; omega
  have hlb : b.length ≤ 56 := by omega
  have hlen : (restL k.toNat t.toNat b).length = 60 := by simp only [restL, List.length_append, List.length_replicate, List.length_cons, List.length_nil]; omega
  have hget : ∀ j, j < 60 → (restL k.toNat t.toNat b).getD j 0 = if 8 ≤ 4 + j ∧ 4 + j < 8 + b.length then b.getD (4 + j - 8) 0 else if 4 + j = 5 then t.toNat else if 4 + j = 4 then k.toNat else 0 := fun j hj => by
    rw [restL, getD_append, getD_append]
    by_cases e : j < 4
    · rw [if_pos (by simp only [List.length_append, List.length_cons, List.length_nil]; omega), if_pos (by simp only [List.length_cons, List.length_nil]; omega), if_neg (by omega)]
      have : j = 0 ∨ j = 1 ∨ j = 2 ∨ j = 3 := by omega
      rcases this with rfl | rfl | rfl | rfl <;> rfl
    · by_cases e2 : j < 4 + b.length
      · rw [if_pos (by simp only [List.length_append, List.length_cons, List.length_nil]; omega), if_neg (by simp only [List.length_cons, List.length_nil]; omega), if_pos (by omega)]
        congr 1
        simp only [List.length_cons, List.length_nil]; omega
      · rw [if_neg (by simp only [List.length_append, List.length_cons, List.length_nil]; omega), if_neg (by omega), if_neg (by omega), if_neg (by omega), getD_replicate]
        split <;> rfl
  have hoct : ∀ c ∈ restL k.toNat t.toNat b, c < 256 := fun c hc => by
    rcases List.mem_append.1 hc with h | h
    · rcases List.mem_append.1 h with h | h
      · simp only [List.mem_cons, List.not_mem_nil, or_false] at h; omega
      · exact hb c h
    · have := (List.mem_replicate.1 h).2; omega
  have hby : Bytess [restL k.toNat t.toNat b] := ⟨fun l hl' => by rw [List.mem_singleton] at hl'; subst hl'; exact ⟨hoct, by omega⟩, (show 1 ≤ 1000 by decide)⟩
  have hs : sumN [restL k.toNat t.toNat b] < 4294967296 := xor_ones_lt (accN_lt fun l hl' => (hby.1 l hl').1)
  have hmin : min b.length (64 - 8) = b.length := by omega
  have hl4 : layL (sumN [restL k.toNat t.toNat b]) 4 = layN (sumN [restL k.toNat t.toNat b]) 4 := layL_in (by omega)
  have hsl : (sealN k.toNat t.toNat b).length = 64 := by rw [sealN, List.length_append, hlen, layN_length]
  rw [hmin]
  refine ⟨by omega, by omega, by omega, by omega, by omega, by omega, by omega, by omega, by omega, by omega, by omega, by omega, by omega, by omega, by omega, [restL k.toNat t.toNat b], rfl, hlen.symm, fun j hj => ?_, hby, sumN [restL k.toNat t.toNat b], wrap64 (by unfold U64; omega), by unfold U64; omega, by omega, by omega, fun y hy => ?_⟩
  · have hj' : j < 60 := by rw [← hlen]; exact hj
    show _ = [AV.int IntKind.u8 (((restL k.toNat t.toNat b).getD j 0 : Nat) : Int)]
    rw [hget j hj', hw k (by omega) (by omega), hw t (by omega) (by omega)]
    split
    · rfl
    · split
      · rw [Int.toNat_of_nonneg (by omega)]
      · split
        · rw [Int.toNat_of_nonneg (by omega)]
        · rfl
  · rw [hl4, layN_length, hsl]
    refine ⟨by omega, rfl, rfl, Nat.le_refl _, fun i hi => ?_, Nat.le_refl _⟩
    rw [sealN, getD_append, layN_length, hw k (by omega) (by omega), hw t (by omega) (by omega)]
    by_cases e : i < 4
    · rw [if_pos (by omega), if_pos e]
    · rw [if_neg (by omega), if_neg e, hget (i - 4) (by omega), show 4 + (i - 4) = i by omega]
      split
      · rfl
      · split
        · rw [Int.toNat_of_nonneg (by omega)]
        · split
          · rw [Int.toNat_of_nonneg (by omega)]
          · rfl

end Yard
