import Derived.Test.YtceockijgbkneaaDoorLaw21
/- The law TicketSpent. -/
namespace Yard
open Go Go.Sx Go.Proofs
set_option linter.unusedVariables false
set_option linter.unusedSimpArgs false
set_option maxRecDepth 4000

def ticketSpentC : Ctr := pureC Nat (fun x => x < 256) (fun x => [.int .u8 (x : Nat)]) (fun _ => .bool true)
def spentA (x : Nat) : LA := { T := Nat × StoreT × TickT, F := fun t => frm 86 [(3, .ptr 1 [] 0), (5, .ptr 3 [] 0), (6, i64 ((1 + x % 30 : Nat) : Int)), (7, .ptr 4 [] 0), (8, i64 (t.1 : Nat))], H := fun t => storeH t.2.1 ++ [tickC t.2.2] }

/-- The desk ahead of round i. -/
def spentD (m : Int) (i : Nat) : DeskT := if i ≤ 1 then desk0 else ⟨[(i : Int) - 1], [0], if (i : Int) - 1 < m then [0] else []⟩
theorem spent_next {m : Int} {i : Nat} (h1 : 1 ≤ i) (hm : (i : Int) ≤ m) : deskNext 1 (spentD m i) = some (0, (i : Int)) := by
  unfold spentD
  by_cases h : i ≤ 1
  · rw [if_pos h]; have : i = 1 := by omega
    subst this; rfl
  · rw [if_neg h, if_pos (by omega)]
    show some (0, (i : Int) - 1 + 1) = _
    congr 2; omega
theorem spent_step {m : Int} {i : Nat} (h1 : 1 ≤ i) (hm' : (i : Int) ≤ m) (a : Int) : deskRel m (deskIss (spentD m i) a) 0 = spentD m (i + 1) := by
  have e : spentD m (i + 1) = ⟨[(i : Int)], [0], if (i : Int) < m then [0] else []⟩ := by
    unfold spentD
    rw [if_neg (by omega)]
    have : ((i + 1 : Nat) : Int) - 1 = i := by omega
    rw [this]
  rw [e]
  unfold spentD
  by_cases h : i ≤ 1
  · rw [if_pos h]; have : i = 1 := by omega
    subst this; rfl
  · rw [if_neg h]
    by_cases hm : (i : Int) - 1 < m
    · rw [if_pos hm]
      show DeskT.mk [(i : Int) - 1 + 1] [0] (if (i : Int) - 1 + 1 < m then [0] else []) = _
      rw [show (i : Int) - 1 + 1 = i by omega]
    · omega

-- callees: 8=awake21_ok 9=madeStore_ok 10=first_ok 11=allocMark_ok 12=tickIssue_ok 15=tickRelease_ok
theorem ticketSpentV : (∀ (x : Nat), x < 256 → Exx Unit fun x_1 => Tr 1 (true = true ∧ True) ∧ Tr 1 (∀ (y : Unit), True → Exx (Nat × Int) fun x_2 => ((Tr 1
 ((100 : Int) = (↑x_2.fst : Int)) ∧ Tr 1 ((0 : Int) = x_2.snd) ∧ True) ∧ true = true ∧ True) ∧ (x_2.fst ≤ 3072 ∧ (0 : Int) ≤ x_2.snd ∧ I64 x_2.snd) ∧ ∀ (y :
 Unit), True → ∀ (m : Int), m = IntKind.i64.wrap (↑x : Int) → (30 : Int) ≠ (0 : Int) ∧ ∀ (n : Int), n = m.tmod 30 → I64 (1 + n) ∧ Exx (Int × Int) fun x_3 => ((Tr
 1 ((1 : Int) = x_3.fst) ∧ Tr 1 (1 + n = x_3.snd) ∧ True) ∧ true = true ∧ True) ∧ (I64 x_3.fst ∧ I64 x_3.snd) ∧ ∀ (y : Unit), True → Exx (Nat × StoreT × TickT →
 Prop) fun I => Exx (Nat × StoreT × TickT → Nat) fun m => (Exx (Nat × StoreT × TickT) fun t => I t ∧ Tr 3 ((true = true ∧ NilNil ∧ (0 : Nat) = (0 : Nat)) ∧ Tr 1
 ((true = true ∧ NilNil ∧ (0 : Nat) = (0 : Nat)) ∧ Tr 1 (1 + n = (↑(1 + x % 30) : Int)) ∧ (true = true ∧ NilNil ∧ (0 : Nat) = (0 : Nat)) ∧ Tr 1 ((1 : Int) =
 (↑t.fst : Int)) ∧ Tr 77 True)) ∧ true = true ∧ ((105 : TypeId) = (105 : TypeId) ∧ (true = true ∧ NilNil ∧ (0 : Nat) = (0 : Nat)) ∧ (true = true ∧ NilNil ∧ (0 :
 Nat) = (0 : Nat)) ∧ True) ∧ devB (madeS x_2.fst x_2.snd).ws = devB t.snd.fst.ws ∧ allocB (madeS x_2.fst x_2.snd).a = allocB t.snd.fst.a ∧ ((32 : Nat) = (32 :
 TypeId) ∧ Tr 1 ((tick0 100 x_3.fst x_3.snd).blocks = t.snd.snd.blocks) ∧ Tr 1 ((tick0 100 x_3.fst x_3.snd).slots = t.snd.snd.slots) ∧ Tr 1 ((tick0 100 x_3.fst
 x_3.snd).gens = t.snd.snd.gens) ∧ Tr 1 ((tick0 100 x_3.fst x_3.snd).top = t.snd.snd.top) ∧ Tr 1 ((tick0 100 x_3.fst x_3.snd).high = t.snd.snd.high) ∧ Tr 1
 ((tick0 100 x_3.fst x_3.snd).free = t.snd.snd.free) ∧ True) ∧ True) ∧ ∀ (t : Nat × StoreT × TickT), I t → BC (decide ((↑t.fst : Int) ≤ (↑(1 + x % 30) : Int)))
 (Exx (AllocT × Unit) fun x_4 => (((true = true ∧ NilNil ∧ (0 : Nat) = (0 : Nat)) ∧ True) ∧ true = true ∧ allocB t.snd.fst.a = allocB x_4.fst ∧ True) ∧ (AllocW
 x_4.fst ∧ True) ∧ ∀ (y : Unit), True → I64 (2 + (↑t.fst : Int)) ∧ Exx (StoreT × TickT × Int) fun x_5 => (((true = true ∧ NilNil ∧ (0 : Nat) = (0 : Nat)) ∧ (Tr 1
 (t.snd.snd.blocks = x_5.snd.fst.blocks) ∧ Tr 1 (t.snd.snd.slots = x_5.snd.fst.slots) ∧ Tr 1 (t.snd.snd.gens = x_5.snd.fst.gens) ∧ Tr 1 (t.snd.snd.top =
 x_5.snd.fst.top) ∧ Tr 1 (t.snd.snd.high = x_5.snd.fst.high) ∧ Tr 1 (t.snd.snd.free = x_5.snd.fst.free) ∧ True) ∧ Tr 1 (2 + (↑t.fst : Int) = x_5.snd.snd) ∧ True)
 ∧ true = true ∧ ((105 : TypeId) = (105 : TypeId) ∧ (true = true ∧ NilNil ∧ (0 : Nat) = (0 : Nat)) ∧ (true = true ∧ NilNil ∧ (0 : Nat) = (0 : Nat)) ∧ True) ∧
 devB t.snd.fst.ws = devB x_5.fst.ws ∧ allocB (markS x_4.fst) = allocB x_5.fst.a ∧ True) ∧ (StoreW x_5.fst ∧ TickI x_5.snd.fst ∧ I64 x_5.snd.snd) ∧ ∀ (y : Unit),
 True → BC (!decide (issE x_5.fst x_5.snd.fst x_5.snd.snd = (0 : Int))) (Exx Unit fun y => ((false = true ∧ True) ∧ true = true ∧ True) ∧ True) (Tr 2 True ∧ Tr 2
 True ∧ ∀ (b : Bool), (b = true ↔ (issH x_5.fst x_5.snd.fst x_5.snd.snd).slot = (0 : Int) ∧ (issH x_5.fst x_5.snd.fst x_5.snd.snd).gen = (↑t.fst : Int) ∧ True) →
 BC (!b) (Exx Unit fun y => ((false = true ∧ True) ∧ true = true ∧ True) ∧ True) (Exx (StoreT × TickT × HandT) fun x_6 => (((true = true ∧ NilNil ∧ (0 : Nat) =
 (0 : Nat)) ∧ (Tr 1 ((issT x_5.fst x_5.snd.fst x_5.snd.snd).blocks = x_6.snd.fst.blocks) ∧ Tr 1 ((issT x_5.fst x_5.snd.fst x_5.snd.snd).slots =
 x_6.snd.fst.slots) ∧ Tr 1 ((issT x_5.fst x_5.snd.fst x_5.snd.snd).gens = x_6.snd.fst.gens) ∧ Tr 1 ((issT x_5.fst x_5.snd.fst x_5.snd.snd).top = x_6.snd.fst.top)
 ∧ Tr 1 ((issT x_5.fst x_5.snd.fst x_5.snd.snd).high = x_6.snd.fst.high) ∧ Tr 1 ((issT x_5.fst x_5.snd.fst x_5.snd.snd).free = x_6.snd.fst.free) ∧ True) ∧ (Tr 1
 ((issH x_5.fst x_5.snd.fst x_5.snd.snd).slot = x_6.snd.snd.slot) ∧ Tr 1 ((issH x_5.fst x_5.snd.fst x_5.snd.snd).gen = x_6.snd.snd.gen) ∧ True) ∧ True) ∧ true =
 true ∧ ((105 : TypeId) = (105 : TypeId) ∧ (true = true ∧ NilNil ∧ (0 : Nat) = (0 : Nat)) ∧ (true = true ∧ NilNil ∧ (0 : Nat) = (0 : Nat)) ∧ True) ∧ devB (issS
 x_5.fst x_5.snd.fst x_5.snd.snd).ws = devB x_6.fst.ws ∧ allocB (issS x_5.fst x_5.snd.fst x_5.snd.snd).a = allocB x_6.fst.a ∧ True) ∧ (StoreW x_6.fst ∧ TickI
 x_6.snd.fst ∧ HandI x_6.snd.snd) ∧ ∀ (y : Unit), True → BC (!decide (relE x_6.fst x_6.snd.fst x_6.snd.snd = (0 : Int))) (Exx Unit fun y => ((false = true ∧
 True) ∧ true = true ∧ True) ∧ True) (I64 ((↑t.fst : Int) + 1) ∧ Exx (Nat × StoreT × TickT) fun t' => (I t' ∧ m t' < m t) ∧ Tr 3 ((true = true ∧ NilNil ∧ (0 :
 Nat) = (0 : Nat)) ∧ Tr 1 ((true = true ∧ NilNil ∧ (0 : Nat) = (0 : Nat)) ∧ Tr 1 ((↑(1 + x % 30) : Int) = (↑(1 + x % 30) : Int)) ∧ (true = true ∧ NilNil ∧ (0 :
 Nat) = (0 : Nat)) ∧ Tr 1 ((↑t.fst : Int) + 1 = (↑t'.fst : Int)) ∧ Tr 77 True)) ∧ true = true ∧ ((105 : TypeId) = (105 : TypeId) ∧ (true = true ∧ NilNil ∧ (0 :
 Nat) = (0 : Nat)) ∧ (true = true ∧ NilNil ∧ (0 : Nat) = (0 : Nat)) ∧ True) ∧ devB (relS x_6.fst x_6.snd.fst x_6.snd.snd).ws = devB t'.snd.fst.ws ∧ allocB (relS
 x_6.fst x_6.snd.fst x_6.snd.snd).a = allocB t'.snd.fst.a ∧ ((32 : TypeId) = (32 : TypeId) ∧ Tr 1 ((relT x_6.fst x_6.snd.fst x_6.snd.snd).blocks =
 t'.snd.snd.blocks) ∧ Tr 1 ((relT x_6.fst x_6.snd.fst x_6.snd.snd).slots = t'.snd.snd.slots) ∧ Tr 1 ((relT x_6.fst x_6.snd.fst x_6.snd.snd).gens =
 t'.snd.snd.gens) ∧ Tr 1 ((relT x_6.fst x_6.snd.fst x_6.snd.snd).top = t'.snd.snd.top) ∧ Tr 1 ((relT x_6.fst x_6.snd.fst x_6.snd.snd).high = t'.snd.snd.high) ∧
 Tr 1 ((relT x_6.fst x_6.snd.fst x_6.snd.snd).free = t'.snd.snd.free) ∧ True) ∧ True)))) (Exx (StoreT × TickT × Int) fun x => (((true = true ∧ NilNil ∧ (0 : Nat)
 = (0 : Nat)) ∧ (Tr 1 (t.snd.snd.blocks = x.snd.fst.blocks) ∧ Tr 1 (t.snd.snd.slots = x.snd.fst.slots) ∧ Tr 1 (t.snd.snd.gens = x.snd.fst.gens) ∧ Tr 1
 (t.snd.snd.top = x.snd.fst.top) ∧ Tr 1 (t.snd.snd.high = x.snd.fst.high) ∧ Tr 1 (t.snd.snd.free = x.snd.fst.free) ∧ True) ∧ Tr 1 ((5 : Int) = x.snd.snd) ∧ True)
 ∧ true = true ∧ ((105 : TypeId) = (105 : TypeId) ∧ (true = true ∧ NilNil ∧ (0 : Nat) = (0 : Nat)) ∧ (true = true ∧ NilNil ∧ (0 : Nat) = (0 : Nat)) ∧ True) ∧
 devB t.snd.fst.ws = devB x.fst.ws ∧ allocB t.snd.fst.a = allocB x.fst.a ∧ True) ∧ (StoreW x.fst ∧ TickI x.snd.fst ∧ I64 x.snd.snd) ∧ ∀ (y : Unit), True → BC
 (decide (issE x.fst x.snd.fst x.snd.snd = (10 : Int))) (BC (decide (t.snd.snd.high = (1 : Int))) (Exx Unit fun y => ((decide (t.snd.snd.free = (0 : Int)) = true
 ∧ True) ∧ true = true ∧ True) ∧ True) (Exx Unit fun y => ((false = true ∧ True) ∧ true = true ∧ True) ∧ True)) (Exx Unit fun y => ((false = true ∧ True) ∧ true
 = true ∧ True) ∧ True)))) = (fnVC tb [(8, specOf awake21C), (9, specOf madeStoreC), (10, specOf firstC), (11, specOf allocMarkC), (12, specOf tickIssueC), (15, specOf tickReleaseC)] Tryd.f4 ticketSpentC (fun x => { loops := [(9, spentA x)], loose := [(12, [4])] }) (fun _ => none)) := by kernel_rfl 

theorem ticketSpent_ok : SpecOk Tryd.prog 4 (specOf ticketSpentC) := by
  refine specOk mixed tb_ok (SPok.cons awake21_ok (SPok.cons madeStore_ok (SPok.cons first_ok (SPok.cons allocMark_ok (SPok.cons tickIssue_ok (SPok.cons tickRelease_ok SPok.nil)))))) Tryd.func4 (by decide) (pureC_ok fun _ => rfl) (an := (fun x => { loops := [(9, spentA x)], loose := [(12, [4])] })) (σ := (fun _ => none)) ?_
  rw [← ticketSpentV]
  simp (maxSteps := 10000000) only [and_false, false_and, false_or, or_false, bOf_true, bOf_false, true_bOf, false_bOf, Exx, int_ite, merge_o, Tr_eq, true_and, and_true, exists_const, forall_const, implies_true, forall_eq, exists_eq, exists_eq', exists_eq_left, exists_eq_left', exists_eq_right, Prod.exists, Prod.forall, and_assoc, exists_and_left, BC_iff, Bool.not_eq_true', Bool.not_eq_false', decide_eq_true_eq, decide_eq_false_iff_not, I64, nat_cast_inj, Int.toNat_natCast, nats_iff, nats_iff', ints_iff, ints_iff', natss_iff, natss_iff', nilnil, litL_eq, str_inj, str_append, str_length, str_getD, str_take, lit1_iff, one_iff, two_iff, one_get, Nat.zero_add, Nat.sub_zero, Nat.reduceMul, Nat.reduceDiv, Nat.reduceAdd, Int.reduceToNat, Nat.not_lt_zero, if_false, if_true, Nat.le_refl, List.length_singleton, List.length_cons, List.length_nil, Bool.false_eq_true, not_true_eq_false, false_implies, not_false_eq_true, Prod.mk.injEq, devB_inj, allocB_inj, setB_inj, tick_ex, store_ex, hand_ex, tick_eta, store_eta, hand_eta, store_mark]
  intro x hx
  have hw : IntKind.i64.wrap (x : Int) = (x : Int) := wrap_I64 ⟨by omega, by omega⟩
  have hm : (x : Int).tmod 30 = ((x % 30 : Nat) : Int) := rfl
  rw [hw, hm]
  have h30 : x % 30 < 30 := Nat.mod_lt _ (by decide)
  have hg : ∀ m : Int, 1 ≤ m → m ≤ 30 → geomOk 100 1 m := fun m h1 h2 => ⟨by omega, by omega, by omega, by omega, by omega, by omega⟩
  refine ⟨100, rfl, by omega, by omega, by omega, by omega, by omega, by omega, by omega, by omega, by omega, by omega, by omega, fun t => Desk 100 t.2.1 t.2.2 (spentD (1 + x % 30 : Nat) t.1) ∧ t.2.2.slots = 1 ∧ t.2.2.gens = (1 + x % 30 : Nat) ∧ 1 ≤ t.1 ∧ t.1 ≤ 31,
    ⟨1, madeS 100 0, tick0 100 1 (1 + (x % 30 : Nat)), ⟨desk_made (by omega) (by omega) (hg _ (by omega) (by omega)), rfl, by simp only [tick0]; omega, Nat.le_refl _, by omega⟩, by omega, rfl, rfl, rfl, rfl, rfl, rfl, rfl, rfl, rfl⟩, fun t => 31 - t.1, fun i s t hI => ⟨fun hle => ?_, fun hgt => ?_⟩⟩
  · obtain ⟨D, hs, hn, h1, h31⟩ := hI
    simp only at D hs hn h1 h31
    have DM := D.mark (by omega)
    obtain ⟨e1, k1, D1⟩ := DM.issue (by omega) (by omega) (at_ := 2 + (i : Int)) (by omega) (a := 0) (g := i) (by rw [hs]; exact spent_next h1 hle)
    have g1 := issT_geo e1
    have hl : liveD (deskIss (spentD (1 + x % 30 : Nat) i) (2 + (i : Int))) ⟨0, i⟩ := by
      unfold spentD
      by_cases h : i ≤ 1
      · rw [if_pos h]; have : i = 1 := by omega
        subst this; decide
      · rw [if_neg h, if_pos (by omega)]
        exact ⟨Int.le_refl _, show (0 : Int) < ((1 : Nat) : Int) by omega, show (i : Int) - 1 + 1 = i by omega, show (2 : Int) + i ≠ 0 by omega⟩
    have hk1 : issH (markT s) t (2 + (i : Int)) = ⟨0, i⟩ := k1
    obtain ⟨e2, D2⟩ := D1.release (by omega) (by rw [g1.1]; omega) hl
    have g2 := relT_geo e2
    rw [g1.2.1, hn, show ((⟨0, i⟩ : HandT).slot).toNat = 0 from rfl, spent_step h1 hle] at D2
    rw [hk1]
    refine ⟨D.W.2, by omega, by omega, DM.W, DM.tI, by omega, by omega, fun q => q e1, fun _ b hb => ⟨fun q => ?_, fun _ => ⟨D1.W, D1.tI, handI_of I64_0 ⟨by omega, by omega⟩, fun q => q e2, fun _ => ⟨by omega, by omega, i + 1, _, _, ⟨D2, ?_, ?_, by simp only; omega, by simp only; omega⟩, by simp only; omega, by omega, rfl, rfl, rfl, rfl, rfl, rfl, rfl, rfl⟩⟩⟩⟩
    · rw [hb.2 ⟨rfl, rfl⟩] at q; cases q
    · exact g2.1.trans (g1.1.trans hs)
    · exact g2.2.1.trans (g1.2.1.trans hn)
  · obtain ⟨D, hs, hn, h1, h31⟩ := hI
    simp only at D hs hn h1 h31
    have ei : 1 < i := by omega
    have eD : spentD (1 + x % 30 : Nat) i = ⟨[(i : Int) - 1], [0], []⟩ := by
      unfold spentD
      rw [if_neg (by omega)]
      by_cases h : (i : Int) - 1 < ((1 + x % 30 : Nat) : Int)
      · omega
      · rw [if_neg h]
    rw [eD] at D
    have e10 := (issue_none D.inv (at_ := 5) (by omega) (by rw [hs]; rfl)).1
    exact ⟨D.W, D.tI, by omega, by omega, fun _ => ⟨fun _ => D.inv.free, fun q => q D.inv.high⟩, fun q => q e10⟩

end Yard
