/- The octets' laws: what the law's functions compute. -/
import Derived.Test.YtoajfhpiepkjkaaRefOctet
namespace Yard
open Go Go.Sx Go.Proofs
set_option linter.unusedVariables false
set_option linter.unusedSimpArgs false
set_option maxRecDepth 4000

def OctL (l : List Nat) : Prop := (∀ x ∈ l, x < 256) ∧ l.length ≤ 9223372036854775807
theorem OctL.oct {l : List Nat} (h : OctL l) (hl : l.length ≤ 1000) : Oct l := ⟨h.1, by omega⟩
def octAwakeC : Ctr := pureC Unit (fun _ => True) (fun _ => []) (fun _ => .bool true)
abbrev twoI (l : List Int) : AV := .agg [.arr 1 2 (fun i => [.int .i64 (l.getD i 0)])]
abbrev twoU (l : List Nat) : AV := .agg [.arr 1 2 (fun i => [.int .u64 ((l.getD i 0 : Nat) : Int)])]
def octetLaysC : Ctr := pureC (Nat × Int × List Nat) (fun x => U64 x.1 ∧ I64 x.2.1 ∧ OctL x.2.2) (fun x => [u64 x.1, i64 x.2.1, octA x.2.2]) (fun _ => .bool true)
def octetPutsC : Ctr := pureC (List Nat × List Int × Nat) (fun x => OctL x.1 ∧ (∀ i, I64 (x.2.1.getD i 0)) ∧ U64 x.2.2) (fun x => [octA x.1, twoI x.2.1, u64 x.2.2]) (fun _ => .bool true)
def octetTwiceC : Ctr := pureC (List Nat × List Int × List Nat) (fun x => OctL x.1 ∧ (∀ i, I64 (x.2.1.getD i 0)) ∧ (∀ i, U64 (x.2.2.getD i 0))) (fun x => [octA x.1, twoI x.2.1, twoU x.2.2]) (fun _ => .bool true)
def octetNoughtsC : Ctr := pureC (List Nat × Int × Int) (fun x => OctL x.1 ∧ I64 x.2.1 ∧ I64 x.2.2) (fun x => [octA x.1, i64 x.2.1, i64 x.2.2]) (fun _ => .bool true)
def octetWordsC : Ctr := pureC (List Nat × List Nat) (fun x => OctL x.1 ∧ (∀ w ∈ x.2, U64 w) ∧ x.2.length ≤ 9223372036854775807) (fun x => [octA x.1, natsA .u64 x.2]) (fun _ => .bool true)

theorem octAwakeV : (∀ (x : Unit),
  True →
    Exx (List Nat × Int × Int) fun x =>
      ((((0 : Nat) + (4 : Nat) ≤ (4 : Nat) ∧
              4 = x.fst.length ∧
                ∀ (i : Nat),
                  i < x.fst.length →
                    (if 0 + i = 3 * 1 / 1 then [AV.int IntKind.u8 9]
                      else
                        if 0 + i = 2 * 1 / 1 then [AV.int IntKind.u8 1]
                        else if 0 + i = 1 * 1 / 1 then [AV.int IntKind.u8 2] else if 0 + i = 0 * 1 / 1 then [AV.int IntKind.u8 9] else [AV.int IntKind.u8 0]) =
                      [AV.int IntKind.u8 (↑(x.fst.getD i 0) : Int)]) ∧
            Tr 1 (1 = x.snd.fst) ∧ Tr 1 (2 = x.snd.snd) ∧ True) ∧
          true = true ∧ True) ∧
        (Oct x.fst ∧ I64 x.snd.fst ∧ I64 x.snd.snd) ∧
          ∀ (y : Unit),
            True →
              Exx (Nat × Int) fun x_1 =>
                ((Tr 1 (258 = (↑x_1.fst : Int)) ∧ Tr 1 (3 = x_1.snd) ∧ True) ∧ true = true ∧ True) ∧
                  (U64 x_1.fst ∧ I64 x_1.snd) ∧
                    ∀ (y : Nat),
                      (layL x_1.fst x_1.snd).length ≤ y →
                        0 + (layL x_1.fst x_1.snd).length ≤ (layL x_1.fst x_1.snd).length ∧
                          Exx (List Nat) fun m =>
                            ((layL x_1.fst x_1.snd).length = m.length ∧
                                ∀ (i : Nat), i < m.length → [AV.int IntKind.u8 (↑((layL x_1.fst x_1.snd).getD (0 + i) 0) : Int)] = [AV.int IntKind.u8 (↑(m.getD i 0) : Int)]) ∧
                              (∀ (c : Nat), c ∈ m → c < 256) ∧
                                BC (decide (cstr m = cstr (litL { data := #[2, 1, 0] })))
                                  (BC (decide (getOk x.fst.length x.snd.fst x.snd.snd))
                                    (BC (decide ((↑(getN x.fst x.snd.fst x.snd.snd) : Int) = 258))
                                      (Exx (List Nat) fun x =>
                                        ((((0 : Nat) + (1 : Nat) ≤ (1 : Nat) ∧
                                                1 = x.length ∧
                                                  ∀ (i : Nat),
                                                    i < x.length →
                                                      (if 0 + i = 0 * 1 / 1 then [AV.int IntKind.u64 1] else [AV.int IntKind.u64 0]) = [AV.int IntKind.u64 (↑(x.getD i 0) : Int)]) ∧
                                              True) ∧
                                            true = true ∧ True) ∧
                                          ((∀ (w : Nat), w ∈ x → U64 w) ∧ x.length ≤ 1000000) ∧
                                            ∀ (y : Nat),
                                              (octetsN x).length ≤ y → Exx Unit fun y => ((decide ((↑(octetsN x).length : Int) = 8) = true ∧ True) ∧ true = true ∧ True) ∧ True)
                                      (Exx Unit fun y => ((false = true ∧ True) ∧ true = true ∧ True) ∧ True))
                                    (Exx Unit fun y => ((false = true ∧ True) ∧ true = true ∧ True) ∧ True))
                                  (Exx Unit fun y => ((false = true ∧ True) ∧ true = true ∧ True) ∧ True)) =
    (fnVC tb [(26, specOf layC), (46, specOf octetsC), (47, specOf getC)] Try.f25 octAwakeC (fun _ => {}) (fun _ => none)) := by kernel_rfl

theorem octAwake_ok : SpecOk Try.prog 25 (specOf octAwakeC) := by
  refine specOk mixed tb_ok (SPok.cons lay_ok (SPok.cons octets_ok (SPok.cons get_ok SPok.nil))) Try.func25 (by decide) (pureC_ok fun _ => rfl) (an := (fun _ => {})) (σ := (fun _ => none)) ?_
  rw [← octAwakeV]
  simp only [Exx, Tr_eq, true_and, and_true, exists_const, forall_const, implies_true, forall_eq, exists_eq, exists_eq', exists_eq_left, exists_eq_left', exists_eq_right, Prod.exists, Prod.forall, and_assoc, exists_and_left, BC_iff, Bool.not_eq_true', Bool.not_eq_false', decide_eq_true_eq, decide_eq_false_iff_not, I64, nat_cast_inj, Int.toNat_natCast, nats_iff, nats_iff', ints_iff, ints_iff', natss_iff, natss_iff', nilnil, litL_eq, str_inj, str_append, str_length, str_getD, str_take, lit1_iff, one_iff, two_iff, one_get, Nat.zero_add, Nat.sub_zero, Nat.reduceMul, Nat.reduceDiv, Nat.reduceAdd, Int.reduceToNat, Nat.not_lt_zero, if_false, if_true, Nat.le_refl, List.length_singleton, Bool.false_eq_true, not_true_eq_false, false_implies, not_false_eq_true]
  have h1 : getN [9, 2, 1, 9] 1 2 = 258 := by decide
  have h2 : getOk 4 1 2 := by decide
  have h3 : layL 258 3 = [2, 1, 0] := by decide
  refine ⟨[9, 2, 1, 9], rfl, fun i hi => ?_, ⟨by decide, by decide⟩, by omega, by omega, by omega, by omega, 258, rfl, by unfold U64; omega, by omega, by omega, fun y hy => ?_⟩
  · have : i = 0 ∨ i = 1 ∨ i = 2 ∨ i = 3 := by simp at hi; omega
    rcases this with rfl | rfl | rfl | rfl <;> rfl
  rw [h1, h3]
  refine ⟨by decide, fun _ => ⟨fun _ => ⟨fun _ => ⟨[1], rfl, fun i hi => ?_, fun w hw => by simp at hw; subst hw; unfold U64; omega, by decide, fun y hy => by rw [octetsN_length]; rfl⟩, fun h => h rfl⟩, fun h => h h2⟩, fun h => h rfl⟩
  have : i = 0 := by simpa using hi
  subst this; rfl

theorem lay_mem {v : Nat} {n : Int} : ∀ c ∈ layL v n, c < 256 := fun c hc => by
  unfold layL at hc
  split at hc
  · exact layN_lt _ _ c hc
  · cases hc

theorem octetLaysV : (∀ (x : Nat × Int × List Nat),
  U64 x.fst ∧ I64 x.snd.fst ∧ OctL x.snd.snd →
    Exx Unit fun x_1 =>
      Tr 1 (true = true ∧ True) ∧
        Tr 1
          (∀ (y : Unit),
            True →
              BC (decide (1000 < (↑x.snd.snd.length : Int)))
                (Exx Unit fun x => Tr 1 (true = true ∧ True) ∧ Tr 1 (∀ (y : Unit), True → Exx Unit fun y => ((true = true ∧ True) ∧ true = true ∧ True) ∧ True))
                (BC (decide (x.snd.fst < 0))
                  (Exx (Nat × Int) fun x_2 =>
                    ((Tr 1 ((↑x.fst : Int) = (↑x_2.fst : Int)) ∧ Tr 1 (x.snd.fst = x_2.snd) ∧ True) ∧ true = true ∧ True) ∧
                      (U64 x_2.fst ∧ I64 x_2.snd) ∧
                        ∀ (y : Nat),
                          (layL x_2.fst x_2.snd).length ≤ y →
                            BC (decide ((↑(layL x_2.fst x_2.snd).length : Int) = 0))
                              (Exx (List Nat) fun m =>
                                (x.snd.snd.length = m.length ∧
                                    ∀ (i : Nat), i < m.length → [AV.int IntKind.u8 (↑(x.snd.snd.getD i 0) : Int)] = [AV.int IntKind.u8 (↑(m.getD i 0) : Int)]) ∧
                                  (∀ (c : Nat), c ∈ m → c < 256) ∧
                                    Exx (List Nat) fun x_3 =>
                                      (((x.snd.snd.length = x_3.length ∧
                                              ∀ (i : Nat), i < x_3.length → [AV.int IntKind.u8 (↑(x.snd.snd.getD i 0) : Int)] = [AV.int IntKind.u8 (↑(x_3.getD i 0) : Int)]) ∧
                                            True) ∧
                                          true = true ∧ True) ∧
                                        Oct x_3 ∧
                                          ∀ (y : Unit),
                                            True →
                                              Exx (List Nat) fun x =>
                                                ((cstr m = cstr x ∧ True) ∧ true = true ∧ True) ∧
                                                  Oct x ∧
                                                    ∀ (y : Unit),
                                                      True → Exx Unit fun y => ((decide ((↑(readN x_3) : Int) = (↑(readN x) : Int)) = true ∧ True) ∧ true = true ∧ True) ∧ True)
                              (Exx Unit fun y => ((false = true ∧ True) ∧ true = true ∧ True) ∧ True))
                  (BC (decide (8 < x.snd.fst))
                    (Exx (Nat × Int) fun x_2 =>
                      ((Tr 1 ((↑x.fst : Int) = (↑x_2.fst : Int)) ∧ Tr 1 (x.snd.fst = x_2.snd) ∧ True) ∧ true = true ∧ True) ∧
                        (U64 x_2.fst ∧ I64 x_2.snd) ∧
                          ∀ (y : Nat),
                            (layL x_2.fst x_2.snd).length ≤ y →
                              BC (decide ((↑(layL x_2.fst x_2.snd).length : Int) = 0))
                                (Exx (List Nat) fun m =>
                                  (x.snd.snd.length = m.length ∧
                                      ∀ (i : Nat), i < m.length → [AV.int IntKind.u8 (↑(x.snd.snd.getD i 0) : Int)] = [AV.int IntKind.u8 (↑(m.getD i 0) : Int)]) ∧
                                    (∀ (c : Nat), c ∈ m → c < 256) ∧
                                      Exx (List Nat) fun x_3 =>
                                        (((x.snd.snd.length = x_3.length ∧
                                                ∀ (i : Nat), i < x_3.length → [AV.int IntKind.u8 (↑(x.snd.snd.getD i 0) : Int)] = [AV.int IntKind.u8 (↑(x_3.getD i 0) : Int)]) ∧
                                              True) ∧
                                            true = true ∧ True) ∧
                                          Oct x_3 ∧
                                            ∀ (y : Unit),
                                              True →
                                                Exx (List Nat) fun x =>
                                                  ((cstr m = cstr x ∧ True) ∧ true = true ∧ True) ∧
                                                    Oct x ∧
                                                      ∀ (y : Unit),
                                                        True → Exx Unit fun y => ((decide ((↑(readN x_3) : Int) = (↑(readN x) : Int)) = true ∧ True) ∧ true = true ∧ True) ∧ True)
                                (Exx Unit fun y => ((false = true ∧ True) ∧ true = true ∧ True) ∧ True))
                    (Exx (Nat × Int) fun x_2 =>
                      ((Tr 1 ((↑x.fst : Int) = (↑x_2.fst : Int)) ∧ Tr 1 (x.snd.fst = x_2.snd) ∧ True) ∧ true = true ∧ True) ∧
                        (U64 x_2.fst ∧ I64 x_2.snd) ∧
                          ∀ (y : Nat),
                            (layL x_2.fst x_2.snd).length ≤ y →
                              (0 + (layL x_2.fst x_2.snd).length ≤ (layL x_2.fst x_2.snd).length ∧
                                  Exx (List Nat) fun m =>
                                    ((layL x_2.fst x_2.snd).length = m.length ∧
                                        ∀ (i : Nat),
                                          i < m.length → [AV.int IntKind.u8 (↑((layL x_2.fst x_2.snd).getD (0 + i) 0) : Int)] = [AV.int IntKind.u8 (↑(m.getD i 0) : Int)]) ∧
                                      (∀ (c : Nat), c ∈ m → c < 256) ∧
                                        Exx (Nat × Nat) fun x_3 =>
                                          ((Tr 1 ((↑x.fst : Int) = (↑x_3.fst : Int)) ∧ Tr 1 (x.snd.fst = (↑x_3.snd : Int)) ∧ True) ∧ true = true ∧ True) ∧
                                            (U64 x_3.fst ∧ x_3.snd ≤ 1000) ∧
                                              ∀ (y : Unit),
                                                True →
                                                  BC (decide (cstr m = cstr (layN x_3.fst x_3.snd)))
                                                    (Exx (List Nat) fun m =>
                                                      (x.snd.snd.length = m.length ∧
                                                          ∀ (i : Nat),
                                                            i < m.length → [AV.int IntKind.u8 (↑(x.snd.snd.getD i 0) : Int)] = [AV.int IntKind.u8 (↑(m.getD i 0) : Int)]) ∧
                                                        (∀ (c : Nat), c ∈ m → c < 256) ∧
                                                          Exx (List Nat) fun x_4 =>
                                                            (((x.snd.snd.length = x_4.length ∧
                                                                    ∀ (i : Nat),
                                                                      i < x_4.length →
                                                                        [AV.int IntKind.u8 (↑(x.snd.snd.getD i 0) : Int)] = [AV.int IntKind.u8 (↑(x_4.getD i 0) : Int)]) ∧
                                                                  True) ∧
                                                                true = true ∧ True) ∧
                                                              Oct x_4 ∧
                                                                ∀ (y : Unit),
                                                                  True →
                                                                    Exx (List Nat) fun x =>
                                                                      ((cstr m = cstr x ∧ True) ∧ true = true ∧ True) ∧
                                                                        Oct x ∧
                                                                          ∀ (y : Unit),
                                                                            True →
                                                                              Exx Unit fun y =>
                                                                                ((decide ((↑(readN x_4) : Int) = (↑(readN x) : Int)) = true ∧ True) ∧ true = true ∧ True) ∧ True)
                                                    (Exx Unit fun y => ((false = true ∧ True) ∧ true = true ∧ True) ∧ True)) ∧
                                Exx (Nat × Nat) fun x_3 =>
                                  ((Tr 1 ((↑x.fst : Int) = (↑x_3.fst : Int)) ∧ Tr 1 (x.snd.fst = (↑x_3.snd : Int)) ∧ True) ∧ true = true ∧ True) ∧
                                    (U64 x_3.fst ∧ x_3.snd ≤ 1000) ∧
                                      ∀ (y : Unit),
                                        True →
                                          0 + (layL x_2.fst x_2.snd).length ≤ (layL x_2.fst x_2.snd).length ∧
                                            Exx (List Nat) fun m =>
                                              ((layL x_2.fst x_2.snd).length = m.length ∧
                                                  ∀ (i : Nat),
                                                    i < m.length →
                                                      [AV.int IntKind.u8 (↑((layL x_2.fst x_2.snd).getD (0 + i) 0) : Int)] = [AV.int IntKind.u8 (↑(m.getD i 0) : Int)]) ∧
                                                (∀ (c : Nat), c ∈ m → c < 256) ∧
                                                  BC (decide (cstr m = cstr (layN x_3.fst x_3.snd)))
                                                    (Exx (List Nat) fun m =>
                                                      (x.snd.snd.length = m.length ∧
                                                          ∀ (i : Nat),
                                                            i < m.length → [AV.int IntKind.u8 (↑(x.snd.snd.getD i 0) : Int)] = [AV.int IntKind.u8 (↑(m.getD i 0) : Int)]) ∧
                                                        (∀ (c : Nat), c ∈ m → c < 256) ∧
                                                          Exx (List Nat) fun x_4 =>
                                                            (((x.snd.snd.length = x_4.length ∧
                                                                    ∀ (i : Nat),
                                                                      i < x_4.length →
                                                                        [AV.int IntKind.u8 (↑(x.snd.snd.getD i 0) : Int)] = [AV.int IntKind.u8 (↑(x_4.getD i 0) : Int)]) ∧
                                                                  True) ∧
                                                                true = true ∧ True) ∧
                                                              Oct x_4 ∧
                                                                ∀ (y : Unit),
                                                                  True →
                                                                    Exx (List Nat) fun x =>
                                                                      ((cstr m = cstr x ∧ True) ∧ true = true ∧ True) ∧
                                                                        Oct x ∧
                                                                          ∀ (y : Unit),
                                                                            True →
                                                                              Exx Unit fun y =>
                                                                                ((decide ((↑(readN x_4) : Int) = (↑(readN x) : Int)) = true ∧ True) ∧ true = true ∧ True) ∧ True)
                                                    (Exx Unit fun y => ((false = true ∧ True) ∧ true = true ∧ True) ∧ True)))))) =
    (fnVC tb [(25, specOf octAwakeC), (26, specOf layC), (27, specOf readC), (28, specOf refNumberC), (29, specOf refLayC)] Try.f7 octetLaysC (fun _ => {}) (fun _ => none)) := by kernel_rfl

theorem octetLays_ok : SpecOk Try.prog 7 (specOf octetLaysC) := by
  refine specOk mixed tb_ok (SPok.cons octAwake_ok (SPok.cons lay_ok (SPok.cons read_ok (SPok.cons refNumber_ok (SPok.cons refLay_ok SPok.nil))))) Try.func7 (by decide) (pureC_ok fun _ => rfl) (an := (fun _ => {})) (σ := (fun _ => none)) ?_
  rw [← octetLaysV]
  simp only [Exx, Tr_eq, true_and, and_true, exists_const, forall_const, implies_true, forall_eq, exists_eq, exists_eq', exists_eq_left, exists_eq_left', exists_eq_right, Prod.exists, Prod.forall, and_assoc, exists_and_left, BC_iff, Bool.not_eq_true', Bool.not_eq_false', decide_eq_true_eq, decide_eq_false_iff_not, I64, nat_cast_inj, Int.toNat_natCast, nats_iff, nats_iff', ints_iff, ints_iff', natss_iff, natss_iff', nilnil, litL_eq, str_inj, str_append, str_length, str_getD, str_take, lit1_iff, one_iff, two_iff, one_get, Nat.zero_add, Nat.sub_zero, Nat.reduceMul, Nat.reduceDiv, Nat.reduceAdd, Int.reduceToNat, Nat.not_lt_zero, if_false, if_true, Nat.le_refl, List.length_singleton, Bool.false_eq_true, not_true_eq_false, false_implies, not_false_eq_true]
  rintro v n l ⟨hv, h1, h2, hl⟩ hlen
  have ho := hl.oct (by omega)
  refine ⟨fun h => ⟨hv, h1, h2, fun y hy => ⟨fun _ => ⟨hl.1, ho, ho⟩, fun h' => ?_⟩⟩, fun h => ⟨fun h' => ⟨hv, h1, h2, fun y hy => ⟨fun _ => ⟨hl.1, ho, ho⟩, fun h'' => ?_⟩⟩, fun h' => ⟨hv, h1, h2, fun y hy => ?_⟩⟩⟩
  · rw [layL_out (by omega)] at h'; exact absurd rfl h'
  · rw [layL_out (by omega)] at h''; exact absurd rfl h''
  · have e : layL v n = layN v n.toNat := layL_in (by omega)
    have hn : n = ((n.toNat : Nat) : Int) := by omega
    exact ⟨lay_mem, ⟨n.toNat, hn, hv, by omega, fun _ => ⟨hl.1, ho, ho⟩, fun h => absurd e h⟩, n.toNat, hn, hv, by omega, lay_mem, fun _ => ⟨hl.1, ho, ho⟩, fun h => absurd e h⟩

theorem noughts_eq {l : List Nat} {a n : Int} (h : hasB l.length a n) : (noughts l a n == decide (cut l a n = List.replicate n.toNat 0)) = true := by
  have hc := cut_length h
  have e : noughts l a n = decide (cut l a n = List.replicate n.toNat 0) := by
    rw [noughts, decide_eq_true h, Bool.true_and, Bool.eq_iff_iff, List.all_eq_true, decide_eq_true_eq]
    constructor
    · intro k
      refine list_ext_getD 0 (by rw [hc, List.length_replicate]) fun i hi => ?_
      rw [List.length_replicate] at hi
      rw [getD_replicate, if_pos hi]
      have hi' : i < (cut l a n).length := by omega
      have := k ((cut l a n).getD i 0) (by rw [List.getD_eq_getElem?_getD, List.getElem?_eq_getElem hi']; exact List.getElem_mem _)
      simpa using this
    · intro k c hcm
      rw [k] at hcm
      rw [List.eq_of_mem_replicate hcm]; rfl
  rw [e]; simp

theorem octetNoughtsV : (∀ (x : List Nat × Int × Int),
  OctL x.fst ∧ I64 x.snd.fst ∧ I64 x.snd.snd →
    Exx Unit fun x_1 =>
      Tr 1 (true = true ∧ True) ∧
        Tr 1
          (∀ (y : Unit),
            True →
              BC (decide (1000 < (↑x.fst.length : Int)))
                (Exx Unit fun x => Tr 1 (true = true ∧ True) ∧ Tr 1 (∀ (y : Unit), True → Exx Unit fun y => ((true = true ∧ True) ∧ true = true ∧ True) ∧ True))
                (Exx (List Nat × Int × Int) fun x_2 =>
                  (((x.fst.length = x_2.fst.length ∧
                          ∀ (i : Nat), i < x_2.fst.length → [AV.int IntKind.u8 (↑(x.fst.getD i 0) : Int)] = [AV.int IntKind.u8 (↑(x_2.fst.getD i 0) : Int)]) ∧
                        Tr 1 (x.snd.fst = x_2.snd.fst) ∧ Tr 1 (x.snd.snd = x_2.snd.snd) ∧ True) ∧
                      true = true ∧ True) ∧
                    (Oct x_2.fst ∧ I64 x_2.snd.fst ∧ I64 x_2.snd.snd) ∧
                      ∀ (y : Unit),
                        True →
                          BC (!decide (hasB x_2.fst.length x_2.snd.fst x_2.snd.snd))
                            (Exx (List Nat × Int × Int) fun x_3 =>
                              (((x.fst.length = x_3.fst.length ∧
                                      ∀ (i : Nat), i < x_3.fst.length → [AV.int IntKind.u8 (↑(x.fst.getD i 0) : Int)] = [AV.int IntKind.u8 (↑(x_3.fst.getD i 0) : Int)]) ∧
                                    Tr 1 (x.snd.fst = x_3.snd.fst) ∧ Tr 1 (x.snd.snd = x_3.snd.snd) ∧ True) ∧
                                  true = true ∧ True) ∧
                                (Oct x_3.fst ∧ I64 x_3.snd.fst ∧ I64 x_3.snd.snd) ∧
                                  ∀ (y : Unit), True → Exx Unit fun y => (((!noughts x_3.fst x_3.snd.fst x_3.snd.snd) = true ∧ True) ∧ true = true ∧ True) ∧ True)
                            (I64 (x.snd.fst + x.snd.snd) ∧
                              0 ≤ x.snd.fst + x.snd.snd ∧
                                0 ≤ x.snd.fst ∧
                                  (x.snd.fst.toNat ≤ (x.snd.fst + x.snd.snd).toNat ∧ (x.snd.fst + x.snd.snd).toNat ≤ x.fst.length) ∧
                                    Exx (List Nat) fun m =>
                                      ((x.snd.fst + x.snd.snd).toNat - x.snd.fst.toNat = m.length ∧
                                          ∀ (i : Nat),
                                            i < m.length → [AV.int IntKind.u8 (↑(x.fst.getD (x.snd.fst.toNat + i) 0) : Int)] = [AV.int IntKind.u8 (↑(m.getD i 0) : Int)]) ∧
                                        (∀ (c : Nat), c ∈ m → c < 256) ∧
                                          (Exx (List Nat × Int × Int) fun x_3 =>
                                              (((x.fst.length = x_3.fst.length ∧
                                                      ∀ (i : Nat),
                                                        i < x_3.fst.length → [AV.int IntKind.u8 (↑(x.fst.getD i 0) : Int)] = [AV.int IntKind.u8 (↑(x_3.fst.getD i 0) : Int)]) ∧
                                                    Tr 1 (x.snd.fst = x_3.snd.fst) ∧ Tr 1 (x.snd.snd = x_3.snd.snd) ∧ True) ∧
                                                  true = true ∧ True) ∧
                                                (Oct x_3.fst ∧ I64 x_3.snd.fst ∧ I64 x_3.snd.snd) ∧
                                                  ∀ (y : Unit),
                                                    True →
                                                      (0 ≤ x.snd.snd ∧ x.snd.snd ≤ x.snd.snd ∧ (↑1 : Int) * x.snd.snd ≤ 281474976710656 ∧ x.snd.snd ≤ 9223372036854775807) ∧
                                                        0 + x.snd.snd.toNat ≤ x.snd.snd.toNat ∧
                                                          Exx (List Nat) fun m_1 =>
                                                            (x.snd.snd.toNat = m_1.length ∧
                                                                ∀ (i : Nat), i < m_1.length → [AV.int IntKind.u8 0] = [AV.int IntKind.u8 (↑(m_1.getD i 0) : Int)]) ∧
                                                              (∀ (c : Nat), c ∈ m_1 → c < 256) ∧
                                                                Exx Unit fun y =>
                                                                  (((noughts x_3.fst x_3.snd.fst x_3.snd.snd == decide (cstr m = cstr m_1)) = true ∧ True) ∧ true = true ∧ True) ∧
                                                                    True) ∧
                                            (0 ≤ x.snd.snd ∧ x.snd.snd ≤ x.snd.snd ∧ (↑1 : Int) * x.snd.snd ≤ 281474976710656 ∧ x.snd.snd ≤ 9223372036854775807) ∧
                                              (Exx (List Nat × Int × Int) fun x_3 =>
                                                  (((x.fst.length = x_3.fst.length ∧
                                                          ∀ (i : Nat),
                                                            i < x_3.fst.length → [AV.int IntKind.u8 (↑(x.fst.getD i 0) : Int)] = [AV.int IntKind.u8 (↑(x_3.fst.getD i 0) : Int)]) ∧
                                                        Tr 1 (x.snd.fst = x_3.snd.fst) ∧ Tr 1 (x.snd.snd = x_3.snd.snd) ∧ True) ∧
                                                      true = true ∧ True) ∧
                                                    (Oct x_3.fst ∧ I64 x_3.snd.fst ∧ I64 x_3.snd.snd) ∧
                                                      ∀ (y : Unit),
                                                        True →
                                                          0 + x.snd.snd.toNat ≤ x.snd.snd.toNat ∧
                                                            Exx (List Nat) fun m_1 =>
                                                              (x.snd.snd.toNat = m_1.length ∧
                                                                  ∀ (i : Nat), i < m_1.length → [AV.int IntKind.u8 0] = [AV.int IntKind.u8 (↑(m_1.getD i 0) : Int)]) ∧
                                                                (∀ (c : Nat), c ∈ m_1 → c < 256) ∧
                                                                  Exx Unit fun y =>
                                                                    (((noughts x_3.fst x_3.snd.fst x_3.snd.snd == decide (cstr m = cstr m_1)) = true ∧ True) ∧ true = true ∧ True) ∧
                                                                      True) ∧
                                                0 + x.snd.snd.toNat ≤ x.snd.snd.toNat ∧
                                                  Exx (List Nat) fun m_1 =>
                                                    (x.snd.snd.toNat = m_1.length ∧
                                                        ∀ (i : Nat), i < m_1.length → [AV.int IntKind.u8 0] = [AV.int IntKind.u8 (↑(m_1.getD i 0) : Int)]) ∧
                                                      (∀ (c : Nat), c ∈ m_1 → c < 256) ∧
                                                        Exx (List Nat × Int × Int) fun x_3 =>
                                                          (((x.fst.length = x_3.fst.length ∧
                                                                  ∀ (i : Nat),
                                                                    i < x_3.fst.length →
                                                                      [AV.int IntKind.u8 (↑(x.fst.getD i 0) : Int)] = [AV.int IntKind.u8 (↑(x_3.fst.getD i 0) : Int)]) ∧
                                                                Tr 1 (x.snd.fst = x_3.snd.fst) ∧ Tr 1 (x.snd.snd = x_3.snd.snd) ∧ True) ∧
                                                              true = true ∧ True) ∧
                                                            (Oct x_3.fst ∧ I64 x_3.snd.fst ∧ I64 x_3.snd.snd) ∧
                                                              ∀ (y : Unit),
                                                                True →
                                                                  Exx Unit fun y =>
                                                                    (((noughts x_3.fst x_3.snd.fst x_3.snd.snd == decide (cstr m = cstr m_1)) = true ∧ True) ∧ true = true ∧ True) ∧
                                                                      True)))) =
    (fnVC tb [(25, specOf octAwakeC), (49, specOf refHasC), (50, specOf noughtsC)] Try.f17 octetNoughtsC (fun _ => {}) (fun _ => none)) := by kernel_rfl

theorem octetNoughts_ok : SpecOk Try.prog 17 (specOf octetNoughtsC) := by
  refine specOk mixed tb_ok (SPok.cons octAwake_ok (SPok.cons refHas_ok (SPok.cons noughts_ok SPok.nil))) Try.func17 (by decide) (pureC_ok fun _ => rfl) (an := (fun _ => {})) (σ := (fun _ => none)) ?_
  rw [← octetNoughtsV]
  simp only [Exx, Tr_eq, true_and, and_true, exists_const, forall_const, implies_true, forall_eq, exists_eq, exists_eq', exists_eq_left, exists_eq_left', exists_eq_right, Prod.exists, Prod.forall, and_assoc, exists_and_left, BC_iff, Bool.not_eq_true', Bool.not_eq_false', decide_eq_true_eq, decide_eq_false_iff_not, I64, nat_cast_inj, Int.toNat_natCast, nats_iff, nats_iff', ints_iff, ints_iff', natss_iff, natss_iff', nilnil, litL_eq, str_inj, str_append, str_length, str_getD, str_take, lit1_iff, one_iff, two_iff, one_get, Nat.zero_add, Nat.sub_zero, Nat.reduceMul, Nat.reduceDiv, Nat.reduceAdd, Int.reduceToNat, Nat.not_lt_zero, if_false, if_true, Nat.le_refl, List.length_singleton, Bool.false_eq_true, not_true_eq_false, false_implies, not_false_eq_true]
  rintro l a n ⟨hl, h1, h2, h3, h4⟩ hlen
  have ho := hl.oct (by omega)
  refine ⟨ho, h1, h2, h3, h4, fun h => ⟨ho, h1, h2, h3, h4, by rw [noughts, decide_eq_false h]; rfl⟩, fun h => ?_⟩
  have hb := h
  unfold hasB at hb
  have hc := cut_length h
  repeat refine And.intro (by omega) ?_
  refine ⟨cut l a n, by rw [hc]; omega, fun i hi => by rw [cut_getD (by omega)], cut_mem hl.1, ?_⟩
  have hz : n.toNat = (List.replicate n.toNat 0).length := by simp
  have hz2 : ∀ i, i < (List.replicate n.toNat 0).length → [AV.int IntKind.u8 0] = [AV.int IntKind.u8 (((List.replicate n.toNat 0).getD i 0 : Nat) : Int)] := fun i hi => by
    rw [getD_replicate]; split <;> rfl
  have hz3 : ∀ c ∈ List.replicate n.toNat 0, c < 256 := fun c hc => by rw [List.eq_of_mem_replicate hc]; decide
  have hn := noughts_eq h
  exact ⟨ho, h1, h2, h3, h4, by omega, by omega, by omega, by omega, ⟨_, hz, hz2, hz3, hn⟩, by omega, by omega, by omega, by omega, ho, h1, h2, h3, h4, ⟨_, hz, hz2, hz3, hn⟩, _, hz, hz2, hz3, ho, h1, h2, h3, h4, hn⟩

theorem getOk_I {len : Nat} {a n : Int} (h : getOk len a n) : 0 ≤ a ∧ 1 ≤ n ∧ n ≤ 8 ∧ a + n ≤ (len : Int) := ⟨h.2.2.1, h.1, h.2.1, h.2.2.2.2⟩
theorem putN_ok {l : List Nat} {a n : Int} {v : Nat} (h : getOk l.length a n) : putN l a n v = putL l a.toNat (layN v n.toNat) := if_pos h
theorem putN_len {l : List Nat} {a n : Int} {v : Nat} (h : getOk l.length a n) : (putN l a n v).length = l.length := by
  have := getOk_I h
  rw [putN_ok h, putL_length (by rw [layN_length]; omega)]
theorem putN_mem {l : List Nat} {a n : Int} {v : Nat} (h : getOk l.length a n) (hl : ∀ x ∈ l, x < 256) : ∀ x ∈ putN l a n v, x < 256 := by
  rw [putN_ok h]; exact putL_mem hl (layN_lt _ _)
theorem getN_put {l : List Nat} {a n : Int} {v : Nat} (h : getOk l.length a n) : getN (putN l a n v) a n = numN (layN v n.toNat) := by
  have hi := getOk_I h
  rw [getN, putN_len h, if_pos h, putN_ok h, cut_putL (layN_length _ _) (by rw [layN_length]; omega)]

theorem octetPutsV : (∀ (x : List Nat × List Int × Nat),
  OctL x.fst ∧ (∀ (i : Nat), I64 (x.snd.fst.getD i 0)) ∧ U64 x.snd.snd →
    Exx Unit fun x_1 =>
      Tr 1 (true = true ∧ True) ∧
        Tr 1
          (∀ (y : Unit),
            True →
              BC (decide (1000 < (↑x.fst.length : Int)))
                (Exx Unit fun x => Tr 1 (true = true ∧ True) ∧ Tr 1 (∀ (y : Unit), True → Exx Unit fun y => ((true = true ∧ True) ∧ true = true ∧ True) ∧ True))
                (((0 : Int) ≤ (0 : Int) ∧ (0 : Int) < (↑(2 : Nat) : Int)) ∧
                  (0 : Int).toNat < (2 : Nat) ∧
                    ((0 : Int) ≤ (1 : Int) ∧ (1 : Int) < (↑(2 : Nat) : Int)) ∧
                      (1 : Int).toNat < (2 : Nat) ∧
                        true = true ∧
                          ((0 : Nat) ≤ (0 : Nat) ∧ (0 : Nat) = (0 : Nat)) ∧
                            (0 + x.fst.length ≤ 9223372036854775807 ∧ (0 + x.fst.length) * 1 ≤ 140737488355328) ∧
                              ∀ (cap : Nat),
                                0 + x.fst.length ≤ cap ∧ cap ≤ 9223372036854775807 →
                                  Exx (List Nat × Int × Int) fun x_2 =>
                                    (((0 + (0 + x.fst.length) ≤ 0 + x.fst.length ∧
                                            0 + x.fst.length = x_2.fst.length ∧
                                              ∀ (i : Nat),
                                                i < x_2.fst.length →
                                                  (if 0 + i < 0 then [] else [AV.int IntKind.u8 (↑(x.fst.getD (0 + i - 0) 0) : Int)]) =
                                                    [AV.int IntKind.u8 (↑(x_2.fst.getD i 0) : Int)]) ∧
                                          Tr 1 (x.snd.fst.getD (Int.toNat 0) 0 = x_2.snd.fst) ∧ Tr 1 (x.snd.fst.getD (Int.toNat 1) 0 = x_2.snd.snd) ∧ True) ∧
                                        true = true ∧ True) ∧
                                      (Oct x_2.fst ∧ I64 x_2.snd.fst ∧ I64 x_2.snd.snd) ∧
                                        ∀ (y : Unit),
                                          True →
                                            Exx (List Nat × Int × Int × Nat) fun x_3 =>
                                              (((0 + (0 + x.fst.length) ≤ 0 + x.fst.length ∧
                                                      0 + x.fst.length = x_3.fst.length ∧
                                                        ∀ (i : Nat),
                                                          i < x_3.fst.length →
                                                            (if 0 + i < 0 then [] else [AV.int IntKind.u8 (↑(x.fst.getD (0 + i - 0) 0) : Int)]) =
                                                              [AV.int IntKind.u8 (↑(x_3.fst.getD i 0) : Int)]) ∧
                                                    Tr 1 (x.snd.fst.getD (Int.toNat 0) 0 = x_3.snd.fst) ∧
                                                      Tr 1 (x.snd.fst.getD (Int.toNat 1) 0 = x_3.snd.snd.fst) ∧ Tr 1 ((↑x.snd.snd : Int) = (↑x_3.snd.snd.snd : Int)) ∧ True) ∧
                                                  true = true ∧ True) ∧
                                                (Oct x_3.fst ∧ I64 x_3.snd.fst ∧ I64 x_3.snd.snd.fst ∧ U64 x_3.snd.snd.snd) ∧
                                                  ∀ (y : Nat),
                                                    (putN x_3.fst x_3.snd.fst x_3.snd.snd.fst x_3.snd.snd.snd).length ≤ y →
                                                      0 + (0 + x.fst.length) ≤ 0 + x.fst.length ∧
                                                        Exx (List Nat) fun m =>
                                                          (0 + x.fst.length = m.length ∧
                                                              ∀ (i : Nat),
                                                                i < m.length →
                                                                  (if 0 + i < 0 then [] else [AV.int IntKind.u8 (↑(x.fst.getD (0 + i - 0) 0) : Int)]) =
                                                                    [AV.int IntKind.u8 (↑(m.getD i 0) : Int)]) ∧
                                                            (∀ (c : Nat), c ∈ m → c < 256) ∧
                                                              Exx (List Nat) fun m_1 =>
                                                                (x.fst.length = m_1.length ∧
                                                                    ∀ (i : Nat),
                                                                      i < m_1.length →
                                                                        [AV.int IntKind.u8 (↑(x.fst.getD i 0) : Int)] = [AV.int IntKind.u8 (↑(m_1.getD i 0) : Int)]) ∧
                                                                  (∀ (c : Nat), c ∈ m_1 → c < 256) ∧
                                                                    BC (!decide (cstr m = cstr m_1)) (Exx Unit fun y => ((false = true ∧ True) ∧ true = true ∧ True) ∧ True)
                                                                      (BC (decide (x.snd.fst.getD (Int.toNat 1) 0 < 1))
                                                                        (BC (!decide (getOk x_2.fst.length x_2.snd.fst x_2.snd.snd))
                                                                          (BC (!decide (getOk x_3.fst.length x_3.snd.fst x_3.snd.snd.fst))
                                                                            (BC (decide ((↑(getN x_2.fst x_2.snd.fst x_2.snd.snd) : Int) = 0))
                                                                              (Exx Unit fun y =>
                                                                                ((decide ((↑(putN x_3.fst x_3.snd.fst x_3.snd.snd.fst x_3.snd.snd.snd).length : Int) = 0) = true ∧
                                                                                      True) ∧
                                                                                    true = true ∧ True) ∧
                                                                                  True)
                                                                              (Exx Unit fun y => ((false = true ∧ True) ∧ true = true ∧ True) ∧ True))
                                                                            (Exx Unit fun y => ((false = true ∧ True) ∧ true = true ∧ True) ∧ True))
                                                                          (Exx Unit fun y => ((false = true ∧ True) ∧ true = true ∧ True) ∧ True))
                                                                        (BC (decide (8 < x.snd.fst.getD (Int.toNat 1) 0))
                                                                          (BC (!decide (getOk x_2.fst.length x_2.snd.fst x_2.snd.snd))
                                                                            (BC (!decide (getOk x_3.fst.length x_3.snd.fst x_3.snd.snd.fst))
                                                                              (BC (decide ((↑(getN x_2.fst x_2.snd.fst x_2.snd.snd) : Int) = 0))
                                                                                (Exx Unit fun y =>
                                                                                  ((decide ((↑(putN x_3.fst x_3.snd.fst x_3.snd.snd.fst x_3.snd.snd.snd).length : Int) = 0) = true ∧
                                                                                        True) ∧
                                                                                      true = true ∧ True) ∧
                                                                                    True)
                                                                                (Exx Unit fun y => ((false = true ∧ True) ∧ true = true ∧ True) ∧ True))
                                                                              (Exx Unit fun y => ((false = true ∧ True) ∧ true = true ∧ True) ∧ True))
                                                                            (Exx Unit fun y => ((false = true ∧ True) ∧ true = true ∧ True) ∧ True))
                                                                          (Exx (List Nat × Int × Int) fun x_4 =>
                                                                            (((x.fst.length = x_4.fst.length ∧
                                                                                    ∀ (i : Nat),
                                                                                      i < x_4.fst.length →
                                                                                        [AV.int IntKind.u8 (↑(x.fst.getD i 0) : Int)] =
                                                                                          [AV.int IntKind.u8 (↑(x_4.fst.getD i 0) : Int)]) ∧
                                                                                  Tr 1 (x.snd.fst.getD (Int.toNat 0) 0 = x_4.snd.fst) ∧
                                                                                    Tr 1 (x.snd.fst.getD (Int.toNat 1) 0 = x_4.snd.snd) ∧ True) ∧
                                                                                true = true ∧ True) ∧
                                                                              (Oct x_4.fst ∧ I64 x_4.snd.fst ∧ I64 x_4.snd.snd) ∧
                                                                                ∀ (y : Unit),
                                                                                  True →
                                                                                    BC (!decide (hasB x_4.fst.length x_4.snd.fst x_4.snd.snd))
                                                                                      (BC (!decide (getOk x_2.fst.length x_2.snd.fst x_2.snd.snd))
                                                                                        (BC (!decide (getOk x_3.fst.length x_3.snd.fst x_3.snd.snd.fst))
                                                                                          (BC (decide ((↑(getN x_2.fst x_2.snd.fst x_2.snd.snd) : Int) = 0))
                                                                                            (Exx Unit fun y =>
                                                                                              ((decide
                                                                                                        ((↑(putN x_3.fst x_3.snd.fst x_3.snd.snd.fst x_3.snd.snd.snd).length :
                                                                                                            Int) =
                                                                                                          0) =
                                                                                                      true ∧
                                                                                                    True) ∧
                                                                                                  true = true ∧ True) ∧
                                                                                                True)
                                                                                            (Exx Unit fun y => ((false = true ∧ True) ∧ true = true ∧ True) ∧ True))
                                                                                          (Exx Unit fun y => ((false = true ∧ True) ∧ true = true ∧ True) ∧ True))
                                                                                        (Exx Unit fun y => ((false = true ∧ True) ∧ true = true ∧ True) ∧ True))
                                                                                      (Exx (List Nat × Int × Int) fun x_5 =>
                                                                                        (((0 + (putN x_3.fst x_3.snd.fst x_3.snd.snd.fst x_3.snd.snd.snd).length ≤
                                                                                                  (putN x_3.fst x_3.snd.fst x_3.snd.snd.fst x_3.snd.snd.snd).length ∧
                                                                                                (putN x_3.fst x_3.snd.fst x_3.snd.snd.fst x_3.snd.snd.snd).length = x_5.fst.length ∧
                                                                                                  ∀ (i : Nat),
                                                                                                    i < x_5.fst.length →
                                                                                                      [AV.int IntKind.u8
                                                                                                            (↑((putN x_3.fst x_3.snd.fst x_3.snd.snd.fst x_3.snd.snd.snd).getD
                                                                                                                  (0 + i) 0) :
                                                                                                              Int)] =
                                                                                                        [AV.int IntKind.u8 (↑(x_5.fst.getD i 0) : Int)]) ∧
                                                                                              Tr 1 (x.snd.fst.getD (Int.toNat 0) 0 = x_5.snd.fst) ∧
                                                                                                Tr 1 (x.snd.fst.getD (Int.toNat 1) 0 = x_5.snd.snd) ∧ True) ∧
                                                                                            true = true ∧ True) ∧
                                                                                          (Oct x_5.fst ∧ I64 x_5.snd.fst ∧ I64 x_5.snd.snd) ∧
                                                                                            ∀ (y : Unit),
                                                                                              True →
                                                                                                BC (decide (getOk x_2.fst.length x_2.snd.fst x_2.snd.snd))
                                                                                                  (BC (decide (getOk x_3.fst.length x_3.snd.fst x_3.snd.snd.fst))
                                                                                                    (BC (decide (getOk x_5.fst.length x_5.snd.fst x_5.snd.snd))
                                                                                                      (I64 (x.snd.fst.getD (Int.toNat 0) 0 + x.snd.fst.getD (Int.toNat 1) 0) ∧
                                                                                                        0 ≤ x.snd.fst.getD (Int.toNat 0) 0 + x.snd.fst.getD (Int.toNat 1) 0 ∧
                                                                                                          0 ≤ x.snd.fst.getD (Int.toNat 0) 0 ∧
                                                                                                            ((x.snd.fst.getD (Int.toNat 0) 0).toNat ≤
                                                                                                                  (x.snd.fst.getD (Int.toNat 0) 0 +
                                                                                                                      x.snd.fst.getD (Int.toNat 1) 0).toNat ∧
                                                                                                                (x.snd.fst.getD (Int.toNat 0) 0 +
                                                                                                                      x.snd.fst.getD (Int.toNat 1) 0).toNat ≤
                                                                                                                  x.fst.length) ∧
                                                                                                              Exx (List Nat) fun m =>
                                                                                                                ((x.snd.fst.getD (Int.toNat 0) 0 +
                                                                                                                            x.snd.fst.getD (Int.toNat 1) 0).toNat -
                                                                                                                        (x.snd.fst.getD (Int.toNat 0) 0).toNat =
                                                                                                                      m.length ∧
                                                                                                                    ∀ (i : Nat),
                                                                                                                      i < m.length →
                                                                                                                        [AV.int IntKind.u8
                                                                                                                              (↑(x.fst.getD
                                                                                                                                    ((x.snd.fst.getD (Int.toNat 0) 0).toNat + i)
                                                                                                                                    0) :
                                                                                                                                Int)] =
                                                                                                                          [AV.int IntKind.u8 (↑(m.getD i 0) : Int)]) ∧
                                                                                                                  (∀ (c : Nat), c ∈ m → c < 256) ∧
                                                                                                                    Exx (List Nat) fun x_6 =>
                                                                                                                      ((cstr m = cstr x_6 ∧ True) ∧ true = true ∧ True) ∧
                                                                                                                        Oct x_6 ∧
                                                                                                                          ∀ (y : Unit),
                                                                                                                            True →
                                                                                                                              BC
                                                                                                                                (decide
                                                                                                                                  ((↑(getN x_2.fst x_2.snd.fst x_2.snd.snd) : Int) =
                                                                                                                                    (↑(readN x_6) : Int)))
                                                                                                                                (Exx (Nat × Nat) fun x_7 =>
                                                                                                                                  ((Tr 1 ((↑x.snd.snd : Int) = (↑x_7.fst : Int)) ∧
                                                                                                                                        Tr 1
                                                                                                                                            (x.snd.fst.getD (Int.toNat 1) 0 =
                                                                                                                                              (↑x_7.snd : Int)) ∧
                                                                                                                                          True) ∧
                                                                                                                                      true = true ∧ True) ∧
                                                                                                                                    (U64 x_7.fst ∧ x_7.snd ≤ 1000) ∧
                                                                                                                                      ∀ (y : Unit),
                                                                                                                                        True →
                                                                                                                                          Exx (List Nat) fun x_8 =>
                                                                                                                                            ((cstr (layN x_7.fst x_7.snd) =
                                                                                                                                                    cstr x_8 ∧
                                                                                                                                                  True) ∧
                                                                                                                                                true = true ∧ True) ∧
                                                                                                                                              Oct x_8 ∧
                                                                                                                                                ∀ (y : Unit),
                                                                                                                                                  True →
                                                                                                                                                    BC
                                                                                                                                                      (decide
                                                                                                                                                        ((↑(getN x_5.fst x_5.snd.fst
                                                                                                                                                                x_5.snd.snd) :
                                                                                                                                                            Int) =
                                                                                                                                                          (↑(readN x_8) : Int)))
                                                                                                                                                      (0 +
                                                                                                                                                            (putN x_3.fst
                                                                                                                                                                x_3.snd.fst
                                                                                                                                                                x_3.snd.snd.fst
                                                                                                                                                                x_3.snd.snd.snd).length ≤
                                                                                                                                                          (putN x_3.fst x_3.snd.fst
                                                                                                                                                              x_3.snd.snd.fst
                                                                                                                                                              x_3.snd.snd.snd).length ∧
                                                                                                                                                        Exx (List Nat) fun m =>
                                                                                                                                                          ((putN x_3.fst x_3.snd.fst
                                                                                                                                                                    x_3.snd.snd.fst
                                                                                                                                                                    x_3.snd.snd.snd).length =
                                                                                                                                                                m.length ∧
                                                                                                                                                              ∀ (i : Nat),
                                                                                                                                                                i < m.length →
                                                                                                                                                                  [AV.int IntKind.u8
                                                                                                                                                                        (↑((putN
                                                                                                                                                                                  x_3.fst
                                                                                                                                                                                  x_3.snd.fst
                                                                                                                                                                                  x_3.snd.snd.fst
                                                                                                                                                                                  x_3.snd.snd.snd).getD
                                                                                                                                                                              (0 +
                                                                                                                                                                                i)
                                                                                                                                                                              0) :
                                                                                                                                                                          Int)] =
                                                                                                                                                                    [AV.int
                                                                                                                                                                        IntKind.u8
                                                                                                                                                                        (↑(m.getD i
                                                                                                                                                                              0) :
                                                                                                                                                                          Int)]) ∧
                                                                                                                                                            (∀ (c : Nat),
                                                                                                                                                                c ∈ m → c < 256) ∧
                                                                                                                                                              0 ≤
                                                                                                                                                                  x.snd.fst.getD
                                                                                                                                                                    (Int.toNat 0)
                                                                                                                                                                    0 ∧
                                                                                                                                                                (0 ≤
                                                                                                                                                                      (x.snd.fst.getD
                                                                                                                                                                          (Int.toNat
                                                                                                                                                                            0)
                                                                                                                                                                          0).toNat ∧
                                                                                                                                                                    (x.snd.fst.getD
                                                                                                                                                                          (Int.toNat
                                                                                                                                                                            0)
                                                                                                                                                                          0).toNat ≤
                                                                                                                                                                      x.fst.length) ∧
                                                                                                                                                                  Exx (List Nat)
                                                                                                                                                                    fun m_2 =>
                                                                                                                                                                    ((x.snd.fst.getD
                                                                                                                                                                                (Int.toNat
                                                                                                                                                                                  0)
                                                                                                                                                                                0).toNat -
                                                                                                                                                                            0 =
                                                                                                                                                                          m_2.length ∧
                                                                                                                                                                        ∀ (i : Nat),
                                                                                                                                                                          i <
                                                                                                                                                                              m_2.length →
                                                                                                                                                                            [AV.int
                                                                                                                                                                                  IntKind.u8
                                                                                                                                                                                  (↑(x.fst.getD
                                                                                                                                                                                        (0 +
                                                                                                                                                                                          i)
                                                                                                                                                                                        0) :
                                                                                                                                                                                    Int)] =
                                                                                                                                                                              [AV.int
                                                                                                                                                                                  IntKind.u8
                                                                                                                                                                                  (↑(m_2.getD
                                                                                                                                                                                        i
                                                                                                                                                                                        0) :
                                                                                                                                                                                    Int)]) ∧
                                                                                                                                                                      (∀ (c : Nat),
                                                                                                                                                                          c ∈ m_2 →
                                                                                                                                                                            c <
                                                                                                                                                                              256) ∧
                                                                                                                                                                        I64
                                                                                                                                                                            (x.snd.fst.getD
                                                                                                                                                                                (Int.toNat
                                                                                                                                                                                  0)
                                                                                                                                                                                0 +
                                                                                                                                                                              x.snd.fst.getD
                                                                                                                                                                                (Int.toNat
                                                                                                                                                                                  1)
                                                                                                                                                                                0) ∧
                                                                                                                                                                          0 ≤
                                                                                                                                                                              x.snd.fst.getD
                                                                                                                                                                                  (Int.toNat
                                                                                                                                                                                    0)
                                                                                                                                                                                  0 +
                                                                                                                                                                                x.snd.fst.getD
                                                                                                                                                                                  (Int.toNat
                                                                                                                                                                                    1)
                                                                                                                                                                                  0 ∧
                                                                                                                                                                            ((x.snd.fst.getD
                                                                                                                                                                                        (Int.toNat
                                                                                                                                                                                          0)
                                                                                                                                                                                        0 +
                                                                                                                                                                                      x.snd.fst.getD
                                                                                                                                                                                        (Int.toNat
                                                                                                                                                                                          1)
                                                                                                                                                                                        0).toNat ≤
                                                                                                                                                                                  x.fst.length ∧
                                                                                                                                                                                x.fst.length ≤
                                                                                                                                                                                  x.fst.length) ∧
                                                                                                                                                                              Exx
                                                                                                                                                                                (List
                                                                                                                                                                                  Nat)
                                                                                                                                                                                fun
                                                                                                                                                                                  m_3 =>
                                                                                                                                                                                (x.fst.length -
                                                                                                                                                                                        (x.snd.fst.getD
                                                                                                                                                                                              (Int.toNat
                                                                                                                                                                                                0)
                                                                                                                                                                                              0 +
                                                                                                                                                                                            x.snd.fst.getD
                                                                                                                                                                                              (Int.toNat
                                                                                                                                                                                                1)
                                                                                                                                                                                              0).toNat =
                                                                                                                                                                                      m_3.length ∧
                                                                                                                                                                                    ∀
                                                                                                                                                                                      (i :
                                                                                                                                                                                        Nat),
                                                                                                                                                                                      i <
                                                                                                                                                                                          m_3.length →
                                                                                                                                                                                        [AV.int
                                                                                                                                                                                              IntKind.u8
                                                                                                                                                                                              (↑(x.fst.getD
                                                                                                                                                                                                    ((x.snd.fst.getD
                                                                                                                                                                                                            (Int.toNat
                                                                                                                                                                                                              0)
                                                                                                                                                                                                            0 +
                                                                                                                                                                                                          x.snd.fst.getD
                                                                                                                                                                                                            (Int.toNat
                                                                                                                                                                                                              1)
                                                                                                                                                                                                            0).toNat +
                                                                                                                                                                                                      i)
                                                                                                                                                                                                    0) :
                                                                                                                                                                                                Int)] =
                                                                                                                                                                                          [AV.int
                                                                                                                                                                                              IntKind.u8
                                                                                                                                                                                              (↑(m_3.getD
                                                                                                                                                                                                    i
                                                                                                                                                                                                    0) :
                                                                                                                                                                                                Int)]) ∧
                                                                                                                                                                                  (∀
                                                                                                                                                                                      (c :
                                                                                                                                                                                        Nat),
                                                                                                                                                                                      c ∈
                                                                                                                                                                                          m_3 →
                                                                                                                                                                                        c <
                                                                                                                                                                                          256) ∧
                                                                                                                                                                                    Exx
                                                                                                                                                                                      (Nat ×
                                                                                                                                                                                        Nat)
                                                                                                                                                                                      fun
                                                                                                                                                                                        x_9 =>
                                                                                                                                                                                      ((Tr
                                                                                                                                                                                              1
                                                                                                                                                                                              ((↑x.snd.snd :
                                                                                                                                                                                                  Int) =
                                                                                                                                                                                                (↑x_9.fst :
                                                                                                                                                                                                  Int)) ∧
                                                                                                                                                                                            Tr
                                                                                                                                                                                                1
                                                                                                                                                                                                (x.snd.fst.getD
                                                                                                                                                                                                    (Int.toNat
                                                                                                                                                                                                      1)
                                                                                                                                                                                                    0 =
                                                                                                                                                                                                  (↑x_9.snd :
                                                                                                                                                                                                    Int)) ∧
                                                                                                                                                                                              True) ∧
                                                                                                                                                                                          true =
                                                                                                                                                                                              true ∧
                                                                                                                                                                                            True) ∧
                                                                                                                                                                                        (U64
                                                                                                                                                                                              x_9.fst ∧
                                                                                                                                                                                            x_9.snd ≤
                                                                                                                                                                                              1000) ∧
                                                                                                                                                                                          ∀
                                                                                                                                                                                            (y :
                                                                                                                                                                                              Unit),
                                                                                                                                                                                            True →
                                                                                                                                                                                              (cstr
                                                                                                                                                                                                        m_2).length +
                                                                                                                                                                                                    (cstr
                                                                                                                                                                                                        (layN
                                                                                                                                                                                                          x_9.fst
                                                                                                                                                                                                          x_9.snd)).length ≤
                                                                                                                                                                                                  9223372036854775807 ∧
                                                                                                                                                                                                (cstr
                                                                                                                                                                                                            m_2 ++
                                                                                                                                                                                                          cstr
                                                                                                                                                                                                            (layN
                                                                                                                                                                                                              x_9.fst
                                                                                                                                                                                                              x_9.snd)).length +
                                                                                                                                                                                                      (cstr
                                                                                                                                                                                                          m_3).length ≤
                                                                                                                                                                                                    9223372036854775807 ∧
                                                                                                                                                                                                  Exx
                                                                                                                                                                                                    Unit
                                                                                                                                                                                                    fun
                                                                                                                                                                                                      y =>
                                                                                                                                                                                                    ((decide
                                                                                                                                                                                                              (cstr
                                                                                                                                                                                                                  m =
                                                                                                                                                                                                                cstr
                                                                                                                                                                                                                      m_2 ++
                                                                                                                                                                                                                    cstr
                                                                                                                                                                                                                      (layN
                                                                                                                                                                                                                        x_9.fst
                                                                                                                                                                                                                        x_9.snd) ++
                                                                                                                                                                                                                  cstr
                                                                                                                                                                                                                    m_3) =
                                                                                                                                                                                                            true ∧
                                                                                                                                                                                                          True) ∧
                                                                                                                                                                                                        true =
                                                                                                                                                                                                            true ∧
                                                                                                                                                                                                          True) ∧
                                                                                                                                                                                                      True)
                                                                                                                                                      (Exx Unit fun y =>
                                                                                                                                                        ((false = true ∧ True) ∧
                                                                                                                                                            true = true ∧ True) ∧
                                                                                                                                                          True))
                                                                                                                                (Exx Unit fun y =>
                                                                                                                                  ((false = true ∧ True) ∧ true = true ∧ True) ∧
                                                                                                                                    True))
                                                                                                      (Exx Unit fun y => ((false = true ∧ True) ∧ true = true ∧ True) ∧ True))
                                                                                                    (Exx Unit fun y => ((false = true ∧ True) ∧ true = true ∧ True) ∧ True))
                                                                                                  (Exx Unit fun y => ((false = true ∧ True) ∧ true = true ∧ True) ∧ True)))))))) =
    (fnVC tb [(25, specOf octAwakeC), (28, specOf refNumberC), (29, specOf refLayC), (47, specOf getC), (48, specOf putC), (49, specOf refHasC)] Try.f15 octetPutsC (fun _ => {}) (fun _ => none)) := by kernel_rfl

theorem octetPuts_ok : SpecOk Try.prog 15 (specOf octetPutsC) := by
  refine specOk mixed tb_ok (SPok.cons octAwake_ok (SPok.cons refNumber_ok (SPok.cons refLay_ok (SPok.cons get_ok (SPok.cons put_ok (SPok.cons refHas_ok SPok.nil)))))) Try.func15 (by decide) (pureC_ok fun _ => rfl) (an := (fun _ => {})) (σ := (fun _ => none)) ?_
  rw [← octetPutsV]
  simp only [Exx, Tr_eq, true_and, and_true, exists_const, forall_const, implies_true, forall_eq, exists_eq, exists_eq', exists_eq_left, exists_eq_left', exists_eq_right, Prod.exists, Prod.forall, and_assoc, exists_and_left, BC_iff, Bool.not_eq_true', Bool.not_eq_false', decide_eq_true_eq, decide_eq_false_iff_not, I64, nat_cast_inj, Int.toNat_natCast, nats_iff, nats_iff', ints_iff, ints_iff', natss_iff, natss_iff', nilnil, litL_eq, str_inj, str_append, str_length, str_getD, str_take, lit1_iff, one_iff, two_iff, one_get, Nat.zero_add, Nat.sub_zero, Nat.reduceMul, Nat.reduceDiv, Nat.reduceAdd, Int.reduceToNat, Nat.not_lt_zero, if_false, if_true, Nat.le_refl, List.length_singleton, Bool.false_eq_true, not_true_eq_false, false_implies, not_false_eq_true]
  rintro l q v ⟨hl, hq, hv⟩ hlen
  have ho := hl.oct (by omega)
  have hq0 := hq 0
  have hq1 := hq 1
  generalize q.getD 0 0 = a at *
  generalize q.getD 1 0 = n at *
  have hno : ¬ getOk l.length a n → ((¬getOk l.length a n → (¬getOk l.length a n → (((getN l a n : Nat) : Int) = 0 → (((putN l a n v).length : Nat) : Int) = 0) ∧ (¬((getN l a n : Nat) : Int) = 0 → False)) ∧ (getOk l.length a n → False)) ∧ (getOk l.length a n → False)) := fun h => by
    have e1 : getN l a n = 0 := if_neg h
    have e2 : putN l a n v = [] := if_neg h
    rw [e1, e2]
    exact ⟨fun _ => ⟨fun _ => ⟨fun _ => rfl, fun k => k rfl⟩, h⟩, h⟩
  repeat refine And.intro (by omega) ?_
  rintro cap ⟨hc1, hc2⟩
  refine ⟨ho, hq0.1, hq0.2, hq1.1, hq1.2, ho, hq0.1, hq0.2, hq1.1, hq1.2, hv, fun y hy => ⟨hl.1, hl.1, fun h => hno (by unfold getOk; omega), fun h => ⟨fun h' => hno (by unfold getOk; omega), fun h' => ⟨ho, hq0.1, hq0.2, hq1.1, hq1.2, fun h'' => hno (fun k => h'' k.2.2), fun h'' => ?_⟩⟩⟩⟩
  have hok : getOk l.length a n := ⟨by omega, by omega, h''⟩
  have hi := getOk_I hok
  have hpl := putN_len (v := v) hok
  have hpm := putN_mem (v := v) hok hl.1
  have hcl := cut_length h''
  have hn : n = ((n.toNat : Nat) : Int) := by omega
  have hlt : (l.take a.toNat).length = a.toNat := by rw [List.length_take]; omega
  refine ⟨⟨hpm, by omega⟩, hq0.1, hq0.2, hq1.1, hq1.2, fun _ => ⟨fun _ => ⟨fun _ => ?_, fun k => k (by rw [hpl]; exact hok)⟩, fun k => k hok⟩, fun k => k hok⟩
  repeat refine And.intro (by omega) ?_
  refine ⟨cut l a n, by rw [hcl]; omega, fun i hi => by rw [cut_getD (by omega)], cut_mem hl.1, ⟨cut_mem hl.1, by omega⟩, fun _ => ⟨n.toNat, hn, hv, by omega, ⟨layN_lt _ _, by rw [layN_length]; omega⟩, fun _ => ⟨hpm, by omega, by omega, by omega, l.take a.toNat, hlt.symm, fun i hi => ?_, fun c hc => hl.1 c (List.mem_of_mem_take hc), by omega, by omega, by omega, by omega, l.drop (a + n).toNat, by simp, fun i hi => ?_, fun c hc => hl.1 c (List.mem_of_mem_drop hc), n.toNat, hn, hv, by omega, ?_, ?_, ?_⟩, fun k => k ?_⟩, fun k => k ?_⟩
  · rw [hlt] at hi; rw [getD_take, if_pos hi]
  · rw [getD_drop]
  · rw [layN_length]; omega
  · simp only [List.length_append, layN_length, List.length_drop]; omega
  · rw [putN_ok hok, putL, layN_length, show a.toNat + n.toNat = (a + n).toNat by omega]
  · rw [getN_put hok, readN, List.take_of_length_le (by rw [layN_length]; omega)]
  · rw [getN, if_pos hok, readN, List.take_of_length_le (by omega)]

theorem octetTwiceV : (∀ (x : List Nat × List Int × List Nat),
  (OctL x.fst ∧ (∀ (i : Nat), I64 (x.snd.fst.getD i 0)) ∧ ∀ (i : Nat), U64 (x.snd.snd.getD i 0)) →
    Exx Unit fun x_1 =>
      Tr 1 (true = true ∧ True) ∧
        Tr 1
          (∀ (y : Unit),
            True →
              BC (decide (1000 < (↑x.fst.length : Int)))
                (Exx Unit fun x => Tr 1 (true = true ∧ True) ∧ Tr 1 (∀ (y : Unit), True → Exx Unit fun y => ((true = true ∧ True) ∧ true = true ∧ True) ∧ True))
                (BC (decide ((↑x.fst.length : Int) < 16))
                  (Exx Unit fun x => Tr 1 (true = true ∧ True) ∧ Tr 1 (∀ (y : Unit), True → Exx Unit fun y => ((true = true ∧ True) ∧ true = true ∧ True) ∧ True))
                  (((0 : Int) ≤ (0 : Int) ∧ (0 : Int) < (↑(2 : Nat) : Int)) ∧
                    (0 : Int).toNat < (2 : Nat) ∧
                      I64 ((↑x.fst.length : Int) - 7) ∧
                        Exx (Int × Int) fun x_2 =>
                          ((Tr 1 (x.snd.fst.getD (Int.toNat 0) 0 = x_2.fst) ∧ Tr 1 ((↑x.fst.length : Int) - 7 = x_2.snd) ∧ True) ∧ true = true ∧ True) ∧
                            (I64 x_2.fst ∧ 1 ≤ x_2.snd ∧ x_2.snd ≤ 1000000) ∧
                              ∀ (y : Unit),
                                True →
                                  ((0 : Int) ≤ (1 : Int) ∧ (1 : Int) < (↑(2 : Nat) : Int)) ∧
                                    (1 : Int).toNat < (2 : Nat) ∧
                                      I64 ((↑x.fst.length : Int) - 7) ∧
                                        Exx (Int × Int) fun x_3 =>
                                          ((Tr 1 (x.snd.fst.getD (Int.toNat 1) 0 = x_3.fst) ∧ Tr 1 ((↑x.fst.length : Int) - 7 = x_3.snd) ∧ True) ∧ true = true ∧ True) ∧
                                            (I64 x_3.fst ∧ 1 ≤ x_3.snd ∧ x_3.snd ≤ 1000000) ∧
                                              ∀ (y : Unit),
                                                True →
                                                  ((0 : Int) ≤ (0 : Int) ∧ (0 : Int) < (↑(2 : Nat) : Int)) ∧
                                                    (0 : Int).toNat < (2 : Nat) ∧
                                                      ((0 : Int) ≤ (1 : Int) ∧ (1 : Int) < (↑(2 : Nat) : Int)) ∧
                                                        (1 : Int).toNat < (2 : Nat) ∧
                                                          Exx (List Nat × Int × Int × Nat) fun x_4 =>
                                                            (((x.fst.length = x_4.fst.length ∧
                                                                    ∀ (i : Nat),
                                                                      i < x_4.fst.length →
                                                                        [AV.int IntKind.u8 (↑(x.fst.getD i 0) : Int)] = [AV.int IntKind.u8 (↑(x_4.fst.getD i 0) : Int)]) ∧
                                                                  Tr 1 (x_2.fst % x_2.snd = x_4.snd.fst) ∧
                                                                    Tr 1 (8 = x_4.snd.snd.fst) ∧
                                                                      Tr 1 ((↑(x.snd.snd.getD (Int.toNat 0) 0) : Int) = (↑x_4.snd.snd.snd : Int)) ∧ True) ∧
                                                                true = true ∧ True) ∧
                                                              (Oct x_4.fst ∧ I64 x_4.snd.fst ∧ I64 x_4.snd.snd.fst ∧ U64 x_4.snd.snd.snd) ∧
                                                                ∀ (y : Nat),
                                                                  (putN x_4.fst x_4.snd.fst x_4.snd.snd.fst x_4.snd.snd.snd).length ≤ y →
                                                                    Exx (List Nat × Int × Int × Nat) fun x_5 =>
                                                                      (((0 + (putN x_4.fst x_4.snd.fst x_4.snd.snd.fst x_4.snd.snd.snd).length ≤
                                                                                (putN x_4.fst x_4.snd.fst x_4.snd.snd.fst x_4.snd.snd.snd).length ∧
                                                                              (putN x_4.fst x_4.snd.fst x_4.snd.snd.fst x_4.snd.snd.snd).length = x_5.fst.length ∧
                                                                                ∀ (i : Nat),
                                                                                  i < x_5.fst.length →
                                                                                    [AV.int IntKind.u8
                                                                                          (↑((putN x_4.fst x_4.snd.fst x_4.snd.snd.fst x_4.snd.snd.snd).getD (0 + i) 0) : Int)] =
                                                                                      [AV.int IntKind.u8 (↑(x_5.fst.getD i 0) : Int)]) ∧
                                                                            Tr 1 (x_3.fst % x_3.snd = x_5.snd.fst) ∧
                                                                              Tr 1 (8 = x_5.snd.snd.fst) ∧
                                                                                Tr 1 ((↑(x.snd.snd.getD (Int.toNat 1) 0) : Int) = (↑x_5.snd.snd.snd : Int)) ∧ True) ∧
                                                                          true = true ∧ True) ∧
                                                                        (Oct x_5.fst ∧ I64 x_5.snd.fst ∧ I64 x_5.snd.snd.fst ∧ U64 x_5.snd.snd.snd) ∧
                                                                          ∀ (y : Nat),
                                                                            (putN x_5.fst x_5.snd.fst x_5.snd.snd.fst x_5.snd.snd.snd).length ≤ y →
                                                                              Exx (List Nat × Int × Int × Nat) fun x_6 =>
                                                                                (((x.fst.length = x_6.fst.length ∧
                                                                                        ∀ (i : Nat),
                                                                                          i < x_6.fst.length →
                                                                                            [AV.int IntKind.u8 (↑(x.fst.getD i 0) : Int)] =
                                                                                              [AV.int IntKind.u8 (↑(x_6.fst.getD i 0) : Int)]) ∧
                                                                                      Tr 1 (x_3.fst % x_3.snd = x_6.snd.fst) ∧
                                                                                        Tr 1 (8 = x_6.snd.snd.fst) ∧
                                                                                          Tr 1 ((↑(x.snd.snd.getD (Int.toNat 1) 0) : Int) = (↑x_6.snd.snd.snd : Int)) ∧ True) ∧
                                                                                    true = true ∧ True) ∧
                                                                                  (Oct x_6.fst ∧ I64 x_6.snd.fst ∧ I64 x_6.snd.snd.fst ∧ U64 x_6.snd.snd.snd) ∧
                                                                                    ∀ (y : Nat),
                                                                                      (putN x_6.fst x_6.snd.fst x_6.snd.snd.fst x_6.snd.snd.snd).length ≤ y →
                                                                                        Exx (List Nat × Int × Int × Nat) fun x_7 =>
                                                                                          (((0 + (putN x_6.fst x_6.snd.fst x_6.snd.snd.fst x_6.snd.snd.snd).length ≤
                                                                                                    (putN x_6.fst x_6.snd.fst x_6.snd.snd.fst x_6.snd.snd.snd).length ∧
                                                                                                  (putN x_6.fst x_6.snd.fst x_6.snd.snd.fst x_6.snd.snd.snd).length =
                                                                                                      x_7.fst.length ∧
                                                                                                    ∀ (i : Nat),
                                                                                                      i < x_7.fst.length →
                                                                                                        [AV.int IntKind.u8
                                                                                                              (↑((putN x_6.fst x_6.snd.fst x_6.snd.snd.fst x_6.snd.snd.snd).getD
                                                                                                                    (0 + i) 0) :
                                                                                                                Int)] =
                                                                                                          [AV.int IntKind.u8 (↑(x_7.fst.getD i 0) : Int)]) ∧
                                                                                                Tr 1 (x_2.fst % x_2.snd = x_7.snd.fst) ∧
                                                                                                  Tr 1 (8 = x_7.snd.snd.fst) ∧
                                                                                                    Tr 1 ((↑(x.snd.snd.getD (Int.toNat 0) 0) : Int) = (↑x_7.snd.snd.snd : Int)) ∧
                                                                                                      True) ∧
                                                                                              true = true ∧ True) ∧
                                                                                            (Oct x_7.fst ∧ I64 x_7.snd.fst ∧ I64 x_7.snd.snd.fst ∧ U64 x_7.snd.snd.snd) ∧
                                                                                              ∀ (y : Nat),
                                                                                                (putN x_7.fst x_7.snd.fst x_7.snd.snd.fst x_7.snd.snd.snd).length ≤ y →
                                                                                                  I64 (x_2.fst % x_2.snd - x_3.fst % x_3.snd) ∧
                                                                                                    BC (decide (x_2.fst % x_2.snd - x_3.fst % x_3.snd < 8))
                                                                                                      (I64 (x_3.fst % x_3.snd - x_2.fst % x_2.snd) ∧
                                                                                                        BC (decide (x_3.fst % x_3.snd - x_2.fst % x_2.snd < 8))
                                                                                                          (Exx (List Nat × Int × Int) fun x_8 =>
                                                                                                            (((0 +
                                                                                                                        (putN x_5.fst x_5.snd.fst x_5.snd.snd.fst
                                                                                                                            x_5.snd.snd.snd).length ≤
                                                                                                                      (putN x_5.fst x_5.snd.fst x_5.snd.snd.fst
                                                                                                                          x_5.snd.snd.snd).length ∧
                                                                                                                    (putN x_5.fst x_5.snd.fst x_5.snd.snd.fst
                                                                                                                            x_5.snd.snd.snd).length =
                                                                                                                        x_8.fst.length ∧
                                                                                                                      ∀ (i : Nat),
                                                                                                                        i < x_8.fst.length →
                                                                                                                          [AV.int IntKind.u8
                                                                                                                                (↑((putN x_5.fst x_5.snd.fst x_5.snd.snd.fst
                                                                                                                                          x_5.snd.snd.snd).getD
                                                                                                                                      (0 + i) 0) :
                                                                                                                                  Int)] =
                                                                                                                            [AV.int IntKind.u8 (↑(x_8.fst.getD i 0) : Int)]) ∧
                                                                                                                  Tr 1 (x_3.fst % x_3.snd = x_8.snd.fst) ∧
                                                                                                                    Tr 1 (8 = x_8.snd.snd) ∧ True) ∧
                                                                                                                true = true ∧ True) ∧
                                                                                                              (Oct x_8.fst ∧ I64 x_8.snd.fst ∧ I64 x_8.snd.snd) ∧
                                                                                                                ∀ (y : Unit),
                                                                                                                  True →
                                                                                                                    BC (decide (getOk x_8.fst.length x_8.snd.fst x_8.snd.snd))
                                                                                                                      (BC
                                                                                                                        (decide
                                                                                                                          ((↑(getN x_8.fst x_8.snd.fst x_8.snd.snd) : Int) =
                                                                                                                            (↑(x.snd.snd.getD (Int.toNat 1) 0) : Int)))
                                                                                                                        (Exx Unit fun y =>
                                                                                                                          ((decide
                                                                                                                                    ((↑(putN x_7.fst x_7.snd.fst x_7.snd.snd.fst
                                                                                                                                              x_7.snd.snd.snd).length :
                                                                                                                                        Int) =
                                                                                                                                      (↑x.fst.length : Int)) =
                                                                                                                                  true ∧
                                                                                                                                True) ∧
                                                                                                                              true = true ∧ True) ∧
                                                                                                                            True)
                                                                                                                        (Exx Unit fun y =>
                                                                                                                          ((false = true ∧ True) ∧ true = true ∧ True) ∧ True))
                                                                                                                      (Exx Unit fun y =>
                                                                                                                        ((false = true ∧ True) ∧ true = true ∧ True) ∧ True))
                                                                                                          (Exx (List Nat × Int × Int) fun x_8 =>
                                                                                                            (((0 +
                                                                                                                        (putN x_5.fst x_5.snd.fst x_5.snd.snd.fst
                                                                                                                            x_5.snd.snd.snd).length ≤
                                                                                                                      (putN x_5.fst x_5.snd.fst x_5.snd.snd.fst
                                                                                                                          x_5.snd.snd.snd).length ∧
                                                                                                                    (putN x_5.fst x_5.snd.fst x_5.snd.snd.fst
                                                                                                                            x_5.snd.snd.snd).length =
                                                                                                                        x_8.fst.length ∧
                                                                                                                      ∀ (i : Nat),
                                                                                                                        i < x_8.fst.length →
                                                                                                                          [AV.int IntKind.u8
                                                                                                                                (↑((putN x_5.fst x_5.snd.fst x_5.snd.snd.fst
                                                                                                                                          x_5.snd.snd.snd).getD
                                                                                                                                      (0 + i) 0) :
                                                                                                                                  Int)] =
                                                                                                                            [AV.int IntKind.u8 (↑(x_8.fst.getD i 0) : Int)]) ∧
                                                                                                                  Tr 1 (x_2.fst % x_2.snd = x_8.snd.fst) ∧
                                                                                                                    Tr 1 (8 = x_8.snd.snd) ∧ True) ∧
                                                                                                                true = true ∧ True) ∧
                                                                                                              (Oct x_8.fst ∧ I64 x_8.snd.fst ∧ I64 x_8.snd.snd) ∧
                                                                                                                ∀ (y : Unit),
                                                                                                                  True →
                                                                                                                    Exx (List Nat × Int × Int) fun x_9 =>
                                                                                                                      (((0 +
                                                                                                                                  (putN x_5.fst x_5.snd.fst x_5.snd.snd.fst
                                                                                                                                      x_5.snd.snd.snd).length ≤
                                                                                                                                (putN x_5.fst x_5.snd.fst x_5.snd.snd.fst
                                                                                                                                    x_5.snd.snd.snd).length ∧
                                                                                                                              (putN x_5.fst x_5.snd.fst x_5.snd.snd.fst
                                                                                                                                      x_5.snd.snd.snd).length =
                                                                                                                                  x_9.fst.length ∧
                                                                                                                                ∀ (i : Nat),
                                                                                                                                  i < x_9.fst.length →
                                                                                                                                    [AV.int IntKind.u8
                                                                                                                                          (↑((putN x_5.fst x_5.snd.fst
                                                                                                                                                    x_5.snd.snd.fst
                                                                                                                                                    x_5.snd.snd.snd).getD
                                                                                                                                                (0 + i) 0) :
                                                                                                                                            Int)] =
                                                                                                                                      [AV.int IntKind.u8
                                                                                                                                          (↑(x_9.fst.getD i 0) : Int)]) ∧
                                                                                                                            Tr 1 (x_3.fst % x_3.snd = x_9.snd.fst) ∧
                                                                                                                              Tr 1 (8 = x_9.snd.snd) ∧ True) ∧
                                                                                                                          true = true ∧ True) ∧
                                                                                                                        (Oct x_9.fst ∧ I64 x_9.snd.fst ∧ I64 x_9.snd.snd) ∧
                                                                                                                          ∀ (y : Unit),
                                                                                                                            True →
                                                                                                                              0 +
                                                                                                                                    (putN x_5.fst x_5.snd.fst x_5.snd.snd.fst
                                                                                                                                        x_5.snd.snd.snd).length ≤
                                                                                                                                  (putN x_5.fst x_5.snd.fst x_5.snd.snd.fst
                                                                                                                                      x_5.snd.snd.snd).length ∧
                                                                                                                                Exx (List Nat) fun m =>
                                                                                                                                  ((putN x_5.fst x_5.snd.fst x_5.snd.snd.fst
                                                                                                                                            x_5.snd.snd.snd).length =
                                                                                                                                        m.length ∧
                                                                                                                                      ∀ (i : Nat),
                                                                                                                                        i < m.length →
                                                                                                                                          [AV.int IntKind.u8
                                                                                                                                                (↑((putN x_5.fst x_5.snd.fst
                                                                                                                                                          x_5.snd.snd.fst
                                                                                                                                                          x_5.snd.snd.snd).getD
                                                                                                                                                      (0 + i) 0) :
                                                                                                                                                  Int)] =
                                                                                                                                            [AV.int IntKind.u8
                                                                                                                                                (↑(m.getD i 0) : Int)]) ∧
                                                                                                                                    (∀ (c : Nat), c ∈ m → c < 256) ∧
                                                                                                                                      0 +
                                                                                                                                            (putN x_7.fst x_7.snd.fst
                                                                                                                                                x_7.snd.snd.fst
                                                                                                                                                x_7.snd.snd.snd).length ≤
                                                                                                                                          (putN x_7.fst x_7.snd.fst x_7.snd.snd.fst
                                                                                                                                              x_7.snd.snd.snd).length ∧
                                                                                                                                        Exx (List Nat) fun m_1 =>
                                                                                                                                          ((putN x_7.fst x_7.snd.fst x_7.snd.snd.fst
                                                                                                                                                    x_7.snd.snd.snd).length =
                                                                                                                                                m_1.length ∧
                                                                                                                                              ∀ (i : Nat),
                                                                                                                                                i < m_1.length →
                                                                                                                                                  [AV.int IntKind.u8
                                                                                                                                                        (↑((putN x_7.fst x_7.snd.fst
                                                                                                                                                                  x_7.snd.snd.fst
                                                                                                                                                                  x_7.snd.snd.snd).getD
                                                                                                                                                              (0 + i) 0) :
                                                                                                                                                          Int)] =
                                                                                                                                                    [AV.int IntKind.u8
                                                                                                                                                        (↑(m_1.getD i 0) : Int)]) ∧
                                                                                                                                            (∀ (c : Nat), c ∈ m_1 → c < 256) ∧
                                                                                                                                              BC (decide (cstr m = cstr m_1))
                                                                                                                                                (BC
                                                                                                                                                  (decide
                                                                                                                                                    (getOk x_8.fst.length
                                                                                                                                                      x_8.snd.fst x_8.snd.snd))
                                                                                                                                                  (BC
                                                                                                                                                    (decide
                                                                                                                                                      (getOk x_9.fst.length
                                                                                                                                                        x_9.snd.fst x_9.snd.snd))
                                                                                                                                                    (BC
                                                                                                                                                      (decide
                                                                                                                                                        ((↑(getN x_8.fst x_8.snd.fst
                                                                                                                                                                x_8.snd.snd) :
                                                                                                                                                            Int) =
                                                                                                                                                          (↑(x.snd.snd.getD
                                                                                                                                                                (Int.toNat 0) 0) :
                                                                                                                                                            Int)))
                                                                                                                                                      (Exx Unit fun y =>
                                                                                                                                                        ((decide
                                                                                                                                                                  ((↑(getN x_9.fst
                                                                                                                                                                          x_9.snd.fst
                                                                                                                                                                          x_9.snd.snd) :
                                                                                                                                                                      Int) =
                                                                                                                                                                    (↑(x.snd.snd.getD
                                                                                                                                                                          (Int.toNat
                                                                                                                                                                            1)
                                                                                                                                                                          0) :
                                                                                                                                                                      Int)) =
                                                                                                                                                                true ∧
                                                                                                                                                              True) ∧
                                                                                                                                                            true = true ∧ True) ∧
                                                                                                                                                          True)
                                                                                                                                                      (Exx Unit fun y =>
                                                                                                                                                        ((false = true ∧ True) ∧
                                                                                                                                                            true = true ∧ True) ∧
                                                                                                                                                          True))
                                                                                                                                                    (Exx Unit fun y =>
                                                                                                                                                      ((false = true ∧ True) ∧
                                                                                                                                                          true = true ∧ True) ∧
                                                                                                                                                        True))
                                                                                                                                                  (Exx Unit fun y =>
                                                                                                                                                    ((false = true ∧ True) ∧
                                                                                                                                                        true = true ∧ True) ∧
                                                                                                                                                      True))
                                                                                                                                                (Exx Unit fun y =>
                                                                                                                                                  ((false = true ∧ True) ∧
                                                                                                                                                      true = true ∧ True) ∧
                                                                                                                                                    True)))
                                                                                                      (Exx (List Nat × Int × Int) fun x_8 =>
                                                                                                        (((0 + (putN x_5.fst x_5.snd.fst x_5.snd.snd.fst x_5.snd.snd.snd).length ≤
                                                                                                                  (putN x_5.fst x_5.snd.fst x_5.snd.snd.fst
                                                                                                                      x_5.snd.snd.snd).length ∧
                                                                                                                (putN x_5.fst x_5.snd.fst x_5.snd.snd.fst x_5.snd.snd.snd).length =
                                                                                                                    x_8.fst.length ∧
                                                                                                                  ∀ (i : Nat),
                                                                                                                    i < x_8.fst.length →
                                                                                                                      [AV.int IntKind.u8
                                                                                                                            (↑((putN x_5.fst x_5.snd.fst x_5.snd.snd.fst
                                                                                                                                      x_5.snd.snd.snd).getD
                                                                                                                                  (0 + i) 0) :
                                                                                                                              Int)] =
                                                                                                                        [AV.int IntKind.u8 (↑(x_8.fst.getD i 0) : Int)]) ∧
                                                                                                              Tr 1 (x_2.fst % x_2.snd = x_8.snd.fst) ∧
                                                                                                                Tr 1 (8 = x_8.snd.snd) ∧ True) ∧
                                                                                                            true = true ∧ True) ∧
                                                                                                          (Oct x_8.fst ∧ I64 x_8.snd.fst ∧ I64 x_8.snd.snd) ∧
                                                                                                            ∀ (y : Unit),
                                                                                                              True →
                                                                                                                Exx (List Nat × Int × Int) fun x_9 =>
                                                                                                                  (((0 +
                                                                                                                              (putN x_5.fst x_5.snd.fst x_5.snd.snd.fst
                                                                                                                                  x_5.snd.snd.snd).length ≤
                                                                                                                            (putN x_5.fst x_5.snd.fst x_5.snd.snd.fst
                                                                                                                                x_5.snd.snd.snd).length ∧
                                                                                                                          (putN x_5.fst x_5.snd.fst x_5.snd.snd.fst
                                                                                                                                  x_5.snd.snd.snd).length =
                                                                                                                              x_9.fst.length ∧
                                                                                                                            ∀ (i : Nat),
                                                                                                                              i < x_9.fst.length →
                                                                                                                                [AV.int IntKind.u8
                                                                                                                                      (↑((putN x_5.fst x_5.snd.fst x_5.snd.snd.fst
                                                                                                                                                x_5.snd.snd.snd).getD
                                                                                                                                            (0 + i) 0) :
                                                                                                                                        Int)] =
                                                                                                                                  [AV.int IntKind.u8 (↑(x_9.fst.getD i 0) : Int)]) ∧
                                                                                                                        Tr 1 (x_3.fst % x_3.snd = x_9.snd.fst) ∧
                                                                                                                          Tr 1 (8 = x_9.snd.snd) ∧ True) ∧
                                                                                                                      true = true ∧ True) ∧
                                                                                                                    (Oct x_9.fst ∧ I64 x_9.snd.fst ∧ I64 x_9.snd.snd) ∧
                                                                                                                      ∀ (y : Unit),
                                                                                                                        True →
                                                                                                                          0 +
                                                                                                                                (putN x_5.fst x_5.snd.fst x_5.snd.snd.fst
                                                                                                                                    x_5.snd.snd.snd).length ≤
                                                                                                                              (putN x_5.fst x_5.snd.fst x_5.snd.snd.fst
                                                                                                                                  x_5.snd.snd.snd).length ∧
                                                                                                                            Exx (List Nat) fun m =>
                                                                                                                              ((putN x_5.fst x_5.snd.fst x_5.snd.snd.fst
                                                                                                                                        x_5.snd.snd.snd).length =
                                                                                                                                    m.length ∧
                                                                                                                                  ∀ (i : Nat),
                                                                                                                                    i < m.length →
                                                                                                                                      [AV.int IntKind.u8
                                                                                                                                            (↑((putN x_5.fst x_5.snd.fst
                                                                                                                                                      x_5.snd.snd.fst
                                                                                                                                                      x_5.snd.snd.snd).getD
                                                                                                                                                  (0 + i) 0) :
                                                                                                                                              Int)] =
                                                                                                                                        [AV.int IntKind.u8 (↑(m.getD i 0) : Int)]) ∧
                                                                                                                                (∀ (c : Nat), c ∈ m → c < 256) ∧
                                                                                                                                  0 +
                                                                                                                                        (putN x_7.fst x_7.snd.fst x_7.snd.snd.fst
                                                                                                                                            x_7.snd.snd.snd).length ≤
                                                                                                                                      (putN x_7.fst x_7.snd.fst x_7.snd.snd.fst
                                                                                                                                          x_7.snd.snd.snd).length ∧
                                                                                                                                    Exx (List Nat) fun m_1 =>
                                                                                                                                      ((putN x_7.fst x_7.snd.fst x_7.snd.snd.fst
                                                                                                                                                x_7.snd.snd.snd).length =
                                                                                                                                            m_1.length ∧
                                                                                                                                          ∀ (i : Nat),
                                                                                                                                            i < m_1.length →
                                                                                                                                              [AV.int IntKind.u8
                                                                                                                                                    (↑((putN x_7.fst x_7.snd.fst
                                                                                                                                                              x_7.snd.snd.fst
                                                                                                                                                              x_7.snd.snd.snd).getD
                                                                                                                                                          (0 + i) 0) :
                                                                                                                                                      Int)] =
                                                                                                                                                [AV.int IntKind.u8
                                                                                                                                                    (↑(m_1.getD i 0) : Int)]) ∧
                                                                                                                                        (∀ (c : Nat), c ∈ m_1 → c < 256) ∧
                                                                                                                                          BC (decide (cstr m = cstr m_1))
                                                                                                                                            (BC
                                                                                                                                              (decide
                                                                                                                                                (getOk x_8.fst.length x_8.snd.fst
                                                                                                                                                  x_8.snd.snd))
                                                                                                                                              (BC
                                                                                                                                                (decide
                                                                                                                                                  (getOk x_9.fst.length x_9.snd.fst
                                                                                                                                                    x_9.snd.snd))
                                                                                                                                                (BC
                                                                                                                                                  (decide
                                                                                                                                                    ((↑(getN x_8.fst x_8.snd.fst
                                                                                                                                                            x_8.snd.snd) :
                                                                                                                                                        Int) =
                                                                                                                                                      (↑(x.snd.snd.getD
                                                                                                                                                            (Int.toNat 0) 0) :
                                                                                                                                                        Int)))
                                                                                                                                                  (Exx Unit fun y =>
                                                                                                                                                    ((decide
                                                                                                                                                              ((↑(getN x_9.fst
                                                                                                                                                                      x_9.snd.fst
                                                                                                                                                                      x_9.snd.snd) :
                                                                                                                                                                  Int) =
                                                                                                                                                                (↑(x.snd.snd.getD
                                                                                                                                                                      (Int.toNat 1)
                                                                                                                                                                      0) :
                                                                                                                                                                  Int)) =
                                                                                                                                                            true ∧
                                                                                                                                                          True) ∧
                                                                                                                                                        true = true ∧ True) ∧
                                                                                                                                                      True)
                                                                                                                                                  (Exx Unit fun y =>
                                                                                                                                                    ((false = true ∧ True) ∧
                                                                                                                                                        true = true ∧ True) ∧
                                                                                                                                                      True))
                                                                                                                                                (Exx Unit fun y =>
                                                                                                                                                  ((false = true ∧ True) ∧
                                                                                                                                                      true = true ∧ True) ∧
                                                                                                                                                    True))
                                                                                                                                              (Exx Unit fun y =>
                                                                                                                                                ((false = true ∧ True) ∧
                                                                                                                                                    true = true ∧ True) ∧
                                                                                                                                                  True))
                                                                                                                                            (Exx Unit fun y =>
                                                                                                                                              ((false = true ∧ True) ∧
                                                                                                                                                  true = true ∧ True) ∧
                                                                                                                                                True)))))) =
    (fnVC tb [(19, specOf restC), (25, specOf octAwakeC), (47, specOf getC), (48, specOf putC)] Try.f16 octetTwiceC (fun _ => {}) (fun _ => none)) := by kernel_rfl

theorem octetTwice_ok : SpecOk Try.prog 16 (specOf octetTwiceC) := by
  refine specOk mixed tb_ok (SPok.cons rest_ok (SPok.cons octAwake_ok (SPok.cons get_ok (SPok.cons put_ok SPok.nil)))) Try.func16 (by decide) (pureC_ok fun _ => rfl) (an := (fun _ => {})) (σ := (fun _ => none)) ?_
  rw [← octetTwiceV]
  simp only [Exx, Tr_eq, true_and, and_true, exists_const, forall_const, implies_true, forall_eq, exists_eq, exists_eq', exists_eq_left, exists_eq_left', exists_eq_right, Prod.exists, Prod.forall, and_assoc, exists_and_left, BC_iff, Bool.not_eq_true', Bool.not_eq_false', decide_eq_true_eq, decide_eq_false_iff_not, I64, nat_cast_inj, Int.toNat_natCast, nats_iff, nats_iff', ints_iff, ints_iff', natss_iff, natss_iff', nilnil, litL_eq, str_inj, str_append, str_length, str_getD, str_take, lit1_iff, one_iff, two_iff, one_get, Nat.zero_add, Nat.sub_zero, Nat.reduceMul, Nat.reduceDiv, Nat.reduceAdd, Int.reduceToNat, Nat.not_lt_zero, if_false, if_true, Nat.le_refl, List.length_singleton, Bool.false_eq_true, not_true_eq_false, false_implies, not_false_eq_true]
  rintro l p q ⟨hl, hp, hq⟩ h1 h2
  have ho := hl.oct (by omega)
  have hp0 := hp 0
  have hp1 := hp 1
  have hv := hq 0
  have hw := hq 1
  have i1 := Int.emod_nonneg (p.getD 0 0) (b := (l.length : Int) - 7) (by omega)
  have i2 := Int.emod_lt_of_pos (p.getD 0 0) (b := (l.length : Int) - 7) (by omega)
  have k1 := Int.emod_nonneg (p.getD 1 0) (b := (l.length : Int) - 7) (by omega)
  have k2 := Int.emod_lt_of_pos (p.getD 1 0) (b := (l.length : Int) - 7) (by omega)
  generalize p.getD 0 0 % ((l.length : Int) - 7) = i at *
  generalize p.getD 1 0 % ((l.length : Int) - 7) = k at *
  generalize q.getD 0 0 = v at *
  generalize q.getD 1 0 = w at *
  have oi : getOk l.length i 8 := ⟨by omega, by omega, by omega, by omega, by omega⟩
  have ok : getOk l.length k 8 := ⟨by omega, by omega, by omega, by omega, by omega⟩
  have ei := putN_len (v := v) oi
  have ek := putN_len (v := w) ok
  have oik : getOk (putN l i 8 v).length k 8 := by rw [ei]; exact ok
  have oki : getOk (putN l k 8 w).length i 8 := by rw [ek]; exact oi
  have eA := putN_len (v := w) oik
  have eB := putN_len (v := v) oki
  have mi := putN_mem (v := v) oi hl.1
  have mk := putN_mem (v := w) ok hl.1
  have mA := putN_mem (v := w) oik mi
  have mB := putN_mem (v := v) oki mk
  have gA : getN (putN (putN l i 8 v) k 8 w) k 8 = w := by rw [getN_put oik]; exact numN_lay 8 w hw
  have gB : getN (putN (putN l k 8 w) i 8 v) i 8 = v := by rw [getN_put oki]; exact numN_lay 8 v hv
  have okA : getOk (putN (putN l i 8 v) k 8 w).length k 8 := by rw [eA]; exact oik
  have oiA : getOk (putN (putN l i 8 v) k 8 w).length i 8 := by rw [eA, ei]; exact oi
  have oA : Oct (putN (putN l i 8 v) k 8 w) := ⟨mA, by omega⟩
  have far : (¬ i - k < 8 ∨ ¬ k - i < 8) → putN (putN l i 8 v) k 8 w = putN (putN l k 8 w) i 8 v := fun h => by
    rw [putN_ok oik, putN_ok oki, putN_ok oi, putN_ok ok]
    exact putL_comm (by rw [layN_length]; omega) (by rw [layN_length]; omega) (by rw [layN_length, layN_length]; omega)
  have fin : (¬ i - k < 8 ∨ ¬ k - i < 8) → (Oct (putN (putN l i 8 v) k 8 w) ∧ -9223372036854775808 ≤ i ∧ i ≤ 9223372036854775807 ∧ -9223372036854775808 ≤ (8 : Int) ∧ (8 : Int) ≤ 9223372036854775807 ∧ Oct (putN (putN l i 8 v) k 8 w) ∧ -9223372036854775808 ≤ k ∧ k ≤ 9223372036854775807 ∧ -9223372036854775808 ≤ (8 : Int) ∧ (8 : Int) ≤ 9223372036854775807 ∧
      (∀ c ∈ putN (putN l i 8 v) k 8 w, c < 256) ∧ (∀ c ∈ putN (putN l k 8 w) i 8 v, c < 256) ∧ (putN (putN l i 8 v) k 8 w = putN (putN l k 8 w) i 8 v →
      (getOk (putN (putN l i 8 v) k 8 w).length i 8 → (getOk (putN (putN l i 8 v) k 8 w).length k 8 → (getN (putN (putN l i 8 v) k 8 w) i 8 = v → getN (putN (putN l i 8 v) k 8 w) k 8 = w) ∧ (¬getN (putN (putN l i 8 v) k 8 w) i 8 = v → False)) ∧ (¬getOk (putN (putN l i 8 v) k 8 w).length k 8 → False)) ∧ (¬getOk (putN (putN l i 8 v) k 8 w).length i 8 → False)) ∧
      (¬putN (putN l i 8 v) k 8 w = putN (putN l k 8 w) i 8 v → False)) := fun h =>
    ⟨oA, by omega, by omega, by omega, by omega, oA, by omega, by omega, by omega, by omega, mA, mB, fun e => ⟨fun _ => ⟨fun _ => ⟨fun _ => gA, fun k => k (by rw [e, gB])⟩, fun k => k okA⟩, fun k => k oiA⟩, fun k => k (far h)⟩
  repeat refine And.intro (by omega) ?_
  refine fun _ _ => ⟨⟨mi, by omega⟩, by omega, by omega, by omega, by omega, hw, fun _ _ => ⟨ho, by omega, by omega, by omega, by omega, hw, fun _ _ => ⟨⟨mk, by omega⟩, by omega, by omega, by omega, by omega, hv, fun _ _ => ⟨by omega, by omega, fun c1 => ⟨by omega, by omega, fun c2 => ?_, fun c2 => fin (.inr c2)⟩, fun c1 => fin (.inl c1)⟩⟩⟩⟩
  exact ⟨oA, by omega, by omega, by omega, by omega, fun _ => ⟨fun _ => by omega, fun k => k gA⟩, fun k => k okA⟩


def owL1 (x : List Nat × List Nat) : LA := { T := Nat × Nat, F := fun s => frm 109 [(0, octA x.1), (1, natsA .u64 x.2), (5, .sl 1 [] 0 1 0 (x.1.length / 8) s.2), (6, i64 (s.1 : Int))], H := fun s => [.fence, rowN 37 .u64 s.2 (wordsN x.1)] }
def owL2 (x : List Nat × List Nat) : LA := { T := Nat × Nat × Nat × Nat, F := fun s => frm 109 [(0, octA x.1), (1, natsA .u64 x.2), (5, .sl 1 [] 0 1 0 (x.1.length / 8) s.2.1), (7, .sl 2 [] 0 1 0 (8 * x.2.length) s.2.2.1), (8, .sl 3 [] 0 1 0 x.2.length s.2.2.2), (9, i64 (s.1 : Int))], H := fun s => [.fence, rowN 37 .u64 s.2.1 (wordsN x.1), rowN 5 .u8 s.2.2.1 (octetsN x.2), rowN 37 .u64 s.2.2.2 x.2] }

theorem octetWordsV : (∀ (x : List Nat × List Nat),
  OctL x.fst ∧ (∀ (w : Nat), w ∈ x.snd → U64 w) ∧ x.snd.length ≤ 9223372036854775807 →
    Exx Unit fun x_1 =>
      Tr 1 (true = true ∧ True) ∧
        Tr 1
          (∀ (y : Unit),
            True →
              BC (decide (1000 < (↑x.fst.length : Int)))
                (Exx Unit fun x => Tr 1 (true = true ∧ True) ∧ Tr 1 (∀ (y : Unit), True → Exx Unit fun y => ((true = true ∧ True) ∧ true = true ∧ True) ∧ True))
                (BC (decide (100 < (↑x.snd.length : Int)))
                  (Exx Unit fun x => Tr 1 (true = true ∧ True) ∧ Tr 1 (∀ (y : Unit), True → Exx Unit fun y => ((true = true ∧ True) ∧ true = true ∧ True) ∧ True))
                  (Exx (List Nat) fun x_2 =>
                    (((x.fst.length = x_2.length ∧ ∀ (i : Nat), i < x_2.length → [AV.int IntKind.u8 (↑(x.fst.getD i 0) : Int)] = [AV.int IntKind.u8 (↑(x_2.getD i 0) : Int)]) ∧
                          True) ∧
                        true = true ∧ True) ∧
                      Oct x_2 ∧
                        ∀ (y : Nat),
                          (wordsN x_2).length ≤ y →
                            (8 : Int) ≠ (0 : Int) ∧
                              I64 ((↑x.fst.length : Int).tdiv 8) ∧
                                BC (!decide ((↑(wordsN x_2).length : Int) = (↑x.fst.length : Int).tdiv 8)) (Exx Unit fun y => ((false = true ∧ True) ∧ true = true ∧ True) ∧ True)
                                  (Exx (Nat × Nat → Prop) fun I =>
                                    Exx (Nat × Nat → Nat) fun m =>
                                      (Exx (Nat × Nat) fun t =>
                                          I t ∧
                                            (((1 : Nat) = (1 : Nat) ∧
                                                  x.fst.length = x.fst.length ∧
                                                    ∀ (i : Nat), i < x.fst.length → [AV.int IntKind.u8 (↑(x.fst.getD i 0) : Int)] = [AV.int IntKind.u8 (↑(x.fst.getD i 0) : Int)]) ∧
                                                ((1 : Nat) = (1 : Nat) ∧
                                                    x.snd.length = x.snd.length ∧
                                                      ∀ (i : Nat),
                                                        i < x.snd.length → [AV.int IntKind.u64 (↑(x.snd.getD i 0) : Int)] = [AV.int IntKind.u64 (↑(x.snd.getD i 0) : Int)]) ∧
                                                  Tr 3
                                                    ((true = true ∧
                                                        NilNil ∧
                                                          (0 : Nat) = (0 : Nat) ∧
                                                            (1 : Nat) = (1 : Nat) ∧ (0 : Nat) = (0 : Nat) ∧ (wordsN x_2).length = x.fst.length / 8 ∧ y = t.snd) ∧
                                                      Tr 1 (0 = (↑t.fst : Int)) ∧ Tr 102 True)) ∧
                                              true = true ∧
                                                ((37 : TypeId) = (37 : TypeId) ∧
                                                    (1 : Nat) = (1 : Nat) ∧
                                                      y = t.snd ∧
                                                        (wordsN x.fst).length ≤ (wordsN x_2).length ∧
                                                          ∀ (i : Nat),
                                                            i < (wordsN x.fst).length →
                                                              [AV.int IntKind.u64 (↑((wordsN x_2).getD i 0) : Int)] = [AV.int IntKind.u64 (↑((wordsN x.fst).getD i 0) : Int)]) ∧
                                                  True) ∧
                                        ∀ (t : Nat × Nat),
                                          I t →
                                            BC (decide ((↑t.fst : Int) < (↑(x.fst.length / 8) : Int)))
                                              ((0 ≤ (↑t.fst : Int) ∧ (↑t.fst : Int) < (↑(x.fst.length / 8) : Int)) ∧
                                                0 + (↑t.fst : Int).toNat < (wordsN x.fst).length ∧
                                                  I64 (8 * (↑t.fst : Int)) ∧
                                                    I64 (8 * (↑t.fst : Int)) ∧
                                                      I64 (8 * (↑t.fst : Int) + 8) ∧
                                                        0 ≤ 8 * (↑t.fst : Int) + 8 ∧
                                                          0 ≤ 8 * (↑t.fst : Int) ∧
                                                            ((8 * (↑t.fst : Int)).toNat ≤ (8 * (↑t.fst : Int) + 8).toNat ∧ (8 * (↑t.fst : Int) + 8).toNat ≤ x.fst.length) ∧
                                                              Exx (List Nat) fun m_1 =>
                                                                ((8 * (↑t.fst : Int) + 8).toNat - (8 * (↑t.fst : Int)).toNat = m_1.length ∧
                                                                    ∀ (i : Nat),
                                                                      i < m_1.length →
                                                                        [AV.int IntKind.u8 (↑(x.fst.getD ((8 * (↑t.fst : Int)).toNat + i) 0) : Int)] =
                                                                          [AV.int IntKind.u8 (↑(m_1.getD i 0) : Int)]) ∧
                                                                  (∀ (c : Nat), c ∈ m_1 → c < 256) ∧
                                                                    Exx (List Nat) fun x_3 =>
                                                                      ((cstr m_1 = cstr x_3 ∧ True) ∧ true = true ∧ True) ∧
                                                                        Oct x_3 ∧
                                                                          ∀ (y : Unit),
                                                                            True →
                                                                              BC (!decide ((↑((wordsN x.fst).getD (0 + (↑t.fst : Int).toNat) 0) : Int) = (↑(readN x_3) : Int)))
                                                                                (Exx Unit fun y => ((false = true ∧ True) ∧ true = true ∧ True) ∧ True)
                                                                                (I64 ((↑t.fst : Int) + 1) ∧
                                                                                  Exx (Nat × Nat) fun t' =>
                                                                                    (I t' ∧ m t' < m t) ∧
                                                                                      (((1 : Nat) = (1 : Nat) ∧
                                                                                            x.fst.length = x.fst.length ∧
                                                                                              ∀ (i : Nat),
                                                                                                i < x.fst.length →
                                                                                                  [AV.int IntKind.u8 (↑(x.fst.getD i 0) : Int)] =
                                                                                                    [AV.int IntKind.u8 (↑(x.fst.getD i 0) : Int)]) ∧
                                                                                          ((1 : Nat) = (1 : Nat) ∧
                                                                                              x.snd.length = x.snd.length ∧
                                                                                                ∀ (i : Nat),
                                                                                                  i < x.snd.length →
                                                                                                    [AV.int IntKind.u64 (↑(x.snd.getD i 0) : Int)] =
                                                                                                      [AV.int IntKind.u64 (↑(x.snd.getD i 0) : Int)]) ∧
                                                                                            Tr 3
                                                                                              ((true = true ∧
                                                                                                  NilNil ∧
                                                                                                    (0 : Nat) = (0 : Nat) ∧
                                                                                                      (1 : Nat) = (1 : Nat) ∧
                                                                                                        (0 : Nat) = (0 : Nat) ∧
                                                                                                          x.fst.length / 8 = x.fst.length / 8 ∧ t.snd = t'.snd) ∧
                                                                                                Tr 1 ((↑t.fst : Int) + 1 = (↑t'.fst : Int)) ∧ Tr 102 True)) ∧
                                                                                        true = true ∧
                                                                                          ((37 : TypeId) = (37 : TypeId) ∧
                                                                                              (1 : Nat) = (1 : Nat) ∧
                                                                                                t.snd = t'.snd ∧
                                                                                                  (wordsN x.fst).length ≤ (wordsN x.fst).length ∧
                                                                                                    ∀ (i : Nat),
                                                                                                      i < (wordsN x.fst).length →
                                                                                                        [AV.int IntKind.u64 (↑((wordsN x.fst).getD i 0) : Int)] =
                                                                                                          [AV.int IntKind.u64 (↑((wordsN x.fst).getD i 0) : Int)]) ∧
                                                                                            True))
                                              (Exx (List Nat) fun x_3 =>
                                                (((x.snd.length = x_3.length ∧
                                                        ∀ (i : Nat),
                                                          i < x_3.length → [AV.int IntKind.u64 (↑(x.snd.getD i 0) : Int)] = [AV.int IntKind.u64 (↑(x_3.getD i 0) : Int)]) ∧
                                                      True) ∧
                                                    true = true ∧ True) ∧
                                                  ((∀ (w : Nat), w ∈ x_3 → U64 w) ∧ x_3.length ≤ 1000000) ∧
                                                    ∀ (y : Nat),
                                                      (octetsN x_3).length ≤ y →
                                                        Exx (List Nat) fun x_4 =>
                                                          (((0 + (octetsN x_3).length ≤ (octetsN x_3).length ∧
                                                                  (octetsN x_3).length = x_4.length ∧
                                                                    ∀ (i : Nat),
                                                                      i < x_4.length →
                                                                        [AV.int IntKind.u8 (↑((octetsN x_3).getD (0 + i) 0) : Int)] = [AV.int IntKind.u8 (↑(x_4.getD i 0) : Int)]) ∧
                                                                True) ∧
                                                              true = true ∧ True) ∧
                                                            Oct x_4 ∧
                                                              ∀ (y_1 : Nat),
                                                                (wordsN x_4).length ≤ y_1 →
                                                                  I64 (8 * (↑x.snd.length : Int)) ∧
                                                                    BC (!decide ((↑(octetsN x_3).length : Int) = 8 * (↑x.snd.length : Int)))
                                                                      (Exx Unit fun y => ((false = true ∧ True) ∧ true = true ∧ True) ∧ True)
                                                                      (BC (!decide ((↑(wordsN x_4).length : Int) = (↑x.snd.length : Int)))
                                                                        (Exx Unit fun y => ((false = true ∧ True) ∧ true = true ∧ True) ∧ True)
                                                                        (Exx (Nat × Nat × Nat × Nat → Prop) fun I =>
                                                                          Exx (Nat × Nat × Nat × Nat → Nat) fun m =>
                                                                            (Exx (Nat × Nat × Nat × Nat) fun t_1 =>
                                                                                I t_1 ∧
                                                                                  (((1 : Nat) = (1 : Nat) ∧
                                                                                        x.fst.length = x.fst.length ∧
                                                                                          ∀ (i : Nat),
                                                                                            i < x.fst.length →
                                                                                              [AV.int IntKind.u8 (↑(x.fst.getD i 0) : Int)] =
                                                                                                [AV.int IntKind.u8 (↑(x.fst.getD i 0) : Int)]) ∧
                                                                                      ((1 : Nat) = (1 : Nat) ∧
                                                                                          x.snd.length = x.snd.length ∧
                                                                                            ∀ (i : Nat),
                                                                                              i < x.snd.length →
                                                                                                [AV.int IntKind.u64 (↑(x.snd.getD i 0) : Int)] =
                                                                                                  [AV.int IntKind.u64 (↑(x.snd.getD i 0) : Int)]) ∧
                                                                                        Tr 3
                                                                                          ((true = true ∧
                                                                                              NilNil ∧
                                                                                                (0 : Nat) = (0 : Nat) ∧
                                                                                                  (1 : Nat) = (1 : Nat) ∧
                                                                                                    (0 : Nat) = (0 : Nat) ∧
                                                                                                      x.fst.length / 8 = x.fst.length / 8 ∧ t.snd = t_1.snd.fst) ∧
                                                                                            Tr 1
                                                                                              ((true = true ∧
                                                                                                  NilNil ∧
                                                                                                    (0 : Nat) = (0 : Nat) ∧
                                                                                                      (1 : Nat) = (1 : Nat) ∧
                                                                                                        (0 : Nat) = (0 : Nat) ∧
                                                                                                          (octetsN x_3).length = 8 * x.snd.length ∧ y = t_1.snd.snd.fst) ∧
                                                                                                (true = true ∧
                                                                                                    NilNil ∧
                                                                                                      (0 : Nat) = (0 : Nat) ∧
                                                                                                        (1 : Nat) = (1 : Nat) ∧
                                                                                                          (0 : Nat) = (0 : Nat) ∧
                                                                                                            (wordsN x_4).length = x.snd.length ∧ y_1 = t_1.snd.snd.snd) ∧
                                                                                                  Tr 1 (0 = (↑t_1.fst : Int)) ∧ Tr 99 True))) ∧
                                                                                    true = true ∧
                                                                                      ((37 : TypeId) = (37 : TypeId) ∧
                                                                                          (1 : Nat) = (1 : Nat) ∧
                                                                                            t.snd = t_1.snd.fst ∧
                                                                                              (wordsN x.fst).length ≤ (wordsN x.fst).length ∧
                                                                                                ∀ (i : Nat),
                                                                                                  i < (wordsN x.fst).length →
                                                                                                    [AV.int IntKind.u64 (↑((wordsN x.fst).getD i 0) : Int)] =
                                                                                                      [AV.int IntKind.u64 (↑((wordsN x.fst).getD i 0) : Int)]) ∧
                                                                                        ((5 : TypeId) = (5 : TypeId) ∧
                                                                                            (1 : Nat) = (1 : Nat) ∧
                                                                                              y = t_1.snd.snd.fst ∧
                                                                                                (octetsN x.snd).length ≤ (octetsN x_3).length ∧
                                                                                                  ∀ (i : Nat),
                                                                                                    i < (octetsN x.snd).length →
                                                                                                      [AV.int IntKind.u8 (↑((octetsN x_3).getD i 0) : Int)] =
                                                                                                        [AV.int IntKind.u8 (↑((octetsN x.snd).getD i 0) : Int)]) ∧
                                                                                          ((37 : TypeId) = (37 : TypeId) ∧
                                                                                              (1 : Nat) = (1 : Nat) ∧
                                                                                                y_1 = t_1.snd.snd.snd ∧
                                                                                                  x.snd.length ≤ (wordsN x_4).length ∧
                                                                                                    ∀ (i : Nat),
                                                                                                      i < x.snd.length →
                                                                                                        [AV.int IntKind.u64 (↑((wordsN x_4).getD i 0) : Int)] =
                                                                                                          [AV.int IntKind.u64 (↑(x.snd.getD i 0) : Int)]) ∧
                                                                                            True) ∧
                                                                              ∀ (t : Nat × Nat × Nat × Nat),
                                                                                I t →
                                                                                  BC (decide ((↑t.fst : Int) < (↑x.snd.length : Int)))
                                                                                    ((0 ≤ (↑t.fst : Int) ∧ (↑t.fst : Int) < (↑x.snd.length : Int)) ∧
                                                                                      0 + (↑t.fst : Int).toNat < x.snd.length ∧
                                                                                        (0 ≤ (↑t.fst : Int) ∧ (↑t.fst : Int) < (↑x.snd.length : Int)) ∧
                                                                                          BC
                                                                                            (!decide
                                                                                                ((↑(x.snd.getD (0 + (↑t.fst : Int).toNat) 0) : Int) =
                                                                                                  (↑(x.snd.getD (↑t.fst : Int).toNat 0) : Int)))
                                                                                            (Exx Unit fun y => ((false = true ∧ True) ∧ true = true ∧ True) ∧ True)
                                                                                            (I64 (8 * (↑t.fst : Int)) ∧
                                                                                              I64 (8 * (↑t.fst : Int)) ∧
                                                                                                I64 (8 * (↑t.fst : Int) + 8) ∧
                                                                                                  0 ≤ 8 * (↑t.fst : Int) + 8 ∧
                                                                                                    0 ≤ 8 * (↑t.fst : Int) ∧
                                                                                                      ((8 * (↑t.fst : Int)).toNat ≤ (8 * (↑t.fst : Int) + 8).toNat ∧
                                                                                                          (8 * (↑t.fst : Int) + 8).toNat ≤ t.snd.snd.fst) ∧
                                                                                                        0 + (8 * (↑t.fst : Int)).toNat +
                                                                                                              ((8 * (↑t.fst : Int) + 8).toNat - (8 * (↑t.fst : Int)).toNat) ≤
                                                                                                            (octetsN x.snd).length ∧
                                                                                                          Exx (List Nat) fun m_1 =>
                                                                                                            ((8 * (↑t.fst : Int) + 8).toNat - (8 * (↑t.fst : Int)).toNat =
                                                                                                                  m_1.length ∧
                                                                                                                ∀ (i : Nat),
                                                                                                                  i < m_1.length →
                                                                                                                    [AV.int IntKind.u8
                                                                                                                          (↑((octetsN x.snd).getD
                                                                                                                                (0 + (8 * (↑t.fst : Int)).toNat + i) 0) :
                                                                                                                            Int)] =
                                                                                                                      [AV.int IntKind.u8 (↑(m_1.getD i 0) : Int)]) ∧
                                                                                                              (∀ (c : Nat), c ∈ m_1 → c < 256) ∧
                                                                                                                (0 ≤ (↑t.fst : Int) ∧ (↑t.fst : Int) < (↑x.snd.length : Int)) ∧
                                                                                                                  Exx (Nat × Nat) fun x_5 =>
                                                                                                                    ((Tr 1
                                                                                                                            ((↑(x.snd.getD (↑t.fst : Int).toNat 0) : Int) =
                                                                                                                              (↑x_5.fst : Int)) ∧
                                                                                                                          Tr 1 (8 = (↑x_5.snd : Int)) ∧ True) ∧
                                                                                                                        true = true ∧ True) ∧
                                                                                                                      (U64 x_5.fst ∧ x_5.snd ≤ 1000) ∧
                                                                                                                        ∀ (y : Unit),
                                                                                                                          True →
                                                                                                                            BC (!decide (cstr m_1 = cstr (layN x_5.fst x_5.snd)))
                                                                                                                              (Exx Unit fun y =>
                                                                                                                                ((false = true ∧ True) ∧ true = true ∧ True) ∧ True)
                                                                                                                              (I64 ((↑t.fst : Int) + 1) ∧
                                                                                                                                Exx (Nat × Nat × Nat × Nat) fun t' =>
                                                                                                                                  (I t' ∧ m t' < m t) ∧
                                                                                                                                    (((1 : Nat) = (1 : Nat) ∧
                                                                                                                                          x.fst.length = x.fst.length ∧
                                                                                                                                            ∀ (i : Nat),
                                                                                                                                              i < x.fst.length →
                                                                                                                                                [AV.int IntKind.u8
                                                                                                                                                      (↑(x.fst.getD i 0) : Int)] =
                                                                                                                                                  [AV.int IntKind.u8
                                                                                                                                                      (↑(x.fst.getD i 0) : Int)]) ∧
                                                                                                                                        ((1 : Nat) = (1 : Nat) ∧
                                                                                                                                            x.snd.length = x.snd.length ∧
                                                                                                                                              ∀ (i : Nat),
                                                                                                                                                i < x.snd.length →
                                                                                                                                                  [AV.int IntKind.u64
                                                                                                                                                        (↑(x.snd.getD i 0) : Int)] =
                                                                                                                                                    [AV.int IntKind.u64
                                                                                                                                                        (↑(x.snd.getD i 0) :
                                                                                                                                                          Int)]) ∧
                                                                                                                                          Tr 3
                                                                                                                                            ((true = true ∧
                                                                                                                                                NilNil ∧
                                                                                                                                                  (0 : Nat) = (0 : Nat) ∧
                                                                                                                                                    (1 : Nat) = (1 : Nat) ∧
                                                                                                                                                      (0 : Nat) = (0 : Nat) ∧
                                                                                                                                                        x.fst.length / 8 =
                                                                                                                                                            x.fst.length / 8 ∧
                                                                                                                                                          t.snd.fst = t'.snd.fst) ∧
                                                                                                                                              Tr 1
                                                                                                                                                ((true = true ∧
                                                                                                                                                    NilNil ∧
                                                                                                                                                      (0 : Nat) = (0 : Nat) ∧
                                                                                                                                                        (1 : Nat) = (1 : Nat) ∧
                                                                                                                                                          (0 : Nat) = (0 : Nat) ∧
                                                                                                                                                            8 * x.snd.length =
                                                                                                                                                                8 * x.snd.length ∧
                                                                                                                                                              t.snd.snd.fst =
                                                                                                                                                                t'.snd.snd.fst) ∧
                                                                                                                                                  (true = true ∧
                                                                                                                                                      NilNil ∧
                                                                                                                                                        (0 : Nat) = (0 : Nat) ∧
                                                                                                                                                          (1 : Nat) = (1 : Nat) ∧
                                                                                                                                                            (0 : Nat) = (0 : Nat) ∧
                                                                                                                                                              x.snd.length =
                                                                                                                                                                  x.snd.length ∧
                                                                                                                                                                t.snd.snd.snd =
                                                                                                                                                                  t'.snd.snd.snd) ∧
                                                                                                                                                    Tr 1
                                                                                                                                                        ((↑t.fst : Int) + 1 =
                                                                                                                                                          (↑t'.fst : Int)) ∧
                                                                                                                                                      Tr 99 True))) ∧
                                                                                                                                      true = true ∧
                                                                                                                                        ((37 : TypeId) = (37 : TypeId) ∧
                                                                                                                                            (1 : Nat) = (1 : Nat) ∧
                                                                                                                                              t.snd.fst = t'.snd.fst ∧
                                                                                                                                                (wordsN x.fst).length ≤
                                                                                                                                                    (wordsN x.fst).length ∧
                                                                                                                                                  ∀ (i : Nat),
                                                                                                                                                    i < (wordsN x.fst).length →
                                                                                                                                                      [AV.int IntKind.u64
                                                                                                                                                            (↑((wordsN x.fst).getD i
                                                                                                                                                                  0) :
                                                                                                                                                              Int)] =
                                                                                                                                                        [AV.int IntKind.u64
                                                                                                                                                            (↑((wordsN x.fst).getD i
                                                                                                                                                                  0) :
                                                                                                                                                              Int)]) ∧
                                                                                                                                          ((5 : TypeId) = (5 : TypeId) ∧
                                                                                                                                              (1 : Nat) = (1 : Nat) ∧
                                                                                                                                                t.snd.snd.fst = t'.snd.snd.fst ∧
                                                                                                                                                  (octetsN x.snd).length ≤
                                                                                                                                                      (octetsN x.snd).length ∧
                                                                                                                                                    ∀ (i : Nat),
                                                                                                                                                      i < (octetsN x.snd).length →
                                                                                                                                                        [AV.int IntKind.u8
                                                                                                                                                              (↑((octetsN
                                                                                                                                                                        x.snd).getD
                                                                                                                                                                    i 0) :
                                                                                                                                                                Int)] =
                                                                                                                                                          [AV.int IntKind.u8
                                                                                                                                                              (↑((octetsN
                                                                                                                                                                        x.snd).getD
                                                                                                                                                                    i 0) :
                                                                                                                                                                Int)]) ∧
                                                                                                                                            ((37 : TypeId) = (37 : TypeId) ∧
                                                                                                                                                (1 : Nat) = (1 : Nat) ∧
                                                                                                                                                  t.snd.snd.snd = t'.snd.snd.snd ∧
                                                                                                                                                    x.snd.length ≤ x.snd.length ∧
                                                                                                                                                      ∀ (i : Nat),
                                                                                                                                                        i < x.snd.length →
                                                                                                                                                          [AV.int IntKind.u64
                                                                                                                                                                (↑(x.snd.getD i 0) :
                                                                                                                                                                  Int)] =
                                                                                                                                                            [AV.int IntKind.u64
                                                                                                                                                                (↑(x.snd.getD i 0) :
                                                                                                                                                                  Int)]) ∧
                                                                                                                                              True)))
                                                                                    (I64 (8 * (↑(x.fst.length / 8) : Int)) ∧
                                                                                      0 ≤ 8 * (↑(x.fst.length / 8) : Int) ∧
                                                                                        (0 ≤ (8 * (↑(x.fst.length / 8) : Int)).toNat ∧
                                                                                            (8 * (↑(x.fst.length / 8) : Int)).toNat ≤ x.fst.length) ∧
                                                                                          Exx (List Nat) fun m =>
                                                                                            ((8 * (↑(x.fst.length / 8) : Int)).toNat - 0 = m.length ∧
                                                                                                ∀ (i : Nat),
                                                                                                  i < m.length →
                                                                                                    [AV.int IntKind.u8 (↑(x.fst.getD (0 + i) 0) : Int)] =
                                                                                                      [AV.int IntKind.u8 (↑(m.getD i 0) : Int)]) ∧
                                                                                              (∀ (c : Nat), c ∈ m → c < 256) ∧
                                                                                                Exx (List Nat) fun x_5 =>
                                                                                                  (((0 + x.fst.length / 8 ≤ (wordsN x.fst).length ∧
                                                                                                          x.fst.length / 8 = x_5.length ∧
                                                                                                            ∀ (i : Nat),
                                                                                                              i < x_5.length →
                                                                                                                [AV.int IntKind.u64 (↑((wordsN x.fst).getD (0 + i) 0) : Int)] =
                                                                                                                  [AV.int IntKind.u64 (↑(x_5.getD i 0) : Int)]) ∧
                                                                                                        True) ∧
                                                                                                      true = true ∧ True) ∧
                                                                                                    ((∀ (w : Nat), w ∈ x_5 → U64 w) ∧ x_5.length ≤ 1000000) ∧
                                                                                                      ∀ (y : Nat),
                                                                                                        (octetsN x_5).length ≤ y →
                                                                                                          0 + (octetsN x_5).length ≤ (octetsN x_5).length ∧
                                                                                                            Exx (List Nat) fun m_1 =>
                                                                                                              ((octetsN x_5).length = m_1.length ∧
                                                                                                                  ∀ (i : Nat),
                                                                                                                    i < m_1.length →
                                                                                                                      [AV.int IntKind.u8 (↑((octetsN x_5).getD (0 + i) 0) : Int)] =
                                                                                                                        [AV.int IntKind.u8 (↑(m_1.getD i 0) : Int)]) ∧
                                                                                                                (∀ (c : Nat), c ∈ m_1 → c < 256) ∧
                                                                                                                  Exx Unit fun y =>
                                                                                                                    ((decide (cstr m_1 = cstr m) = true ∧ True) ∧
                                                                                                                        true = true ∧ True) ∧
                                                                                                                      True))))))))) =
    (fnVC tb [(25, specOf octAwakeC), (28, specOf refNumberC), (29, specOf refLayC), (45, specOf wordsC), (46, specOf octetsC)] Try.f14 octetWordsC (fun x => { loops := [(7, owL1 x), (16, owL2 x)], loose := [(20, [1])] }) (fun _ => none)) := by kernel_rfl

theorem octetWords_ok : SpecOk Try.prog 14 (specOf octetWordsC) := by
  refine specOk mixed tb_ok (SPok.cons octAwake_ok (SPok.cons refNumber_ok (SPok.cons refLay_ok (SPok.cons words_ok (SPok.cons octets_ok SPok.nil))))) Try.func14 (by decide) (pureC_ok fun _ => rfl) (an := (fun x => { loops := [(7, owL1 x), (16, owL2 x)], loose := [(20, [1])] })) (σ := (fun _ => none)) ?_
  rw [← octetWordsV]
  simp only [Exx, Tr_eq, true_and, and_true, exists_const, forall_const, implies_true, forall_eq, exists_eq, exists_eq', exists_eq_left, exists_eq_left', exists_eq_right, Prod.exists, Prod.forall, and_assoc, exists_and_left, BC_iff, Bool.not_eq_true', Bool.not_eq_false', decide_eq_true_eq, decide_eq_false_iff_not, I64, nat_cast_inj, Int.toNat_natCast, nats_iff, nats_iff', ints_iff, ints_iff', natss_iff, natss_iff', nilnil, litL_eq, str_inj, str_append, str_length, str_getD, str_take, lit1_iff, one_iff, two_iff, one_get, Nat.zero_add, Nat.sub_zero, Nat.reduceMul, Nat.reduceDiv, Nat.reduceAdd, Int.reduceToNat, Nat.not_lt_zero, if_false, if_true, Nat.le_refl, List.length_singleton, Bool.false_eq_true, not_true_eq_false, false_implies, not_false_eq_true]
  rintro l ws ⟨hl, hw, hwl⟩ h1 h2
  have ho := hl.oct (by omega)
  have e8 : ((l.length : Nat) : Int).tdiv 8 = ((l.length / 8 : Nat) : Int) := rfl
  have ew := wordsN_length l
  have eo := octetsN_length ws
  have mo := octetsN_lt ws
  have eww : wordsN (octetsN ws) = ws := words_octets hw
  have r8 : ∀ i : Nat, (8 * (i : Int)).toNat = 8 * i := fun i => by omega
  have r88 : ∀ i : Nat, (8 * (i : Int) + 8).toNat = 8 * i + 8 := fun i => by omega
  have r888 : ∀ i : Nat, 8 * i + 8 - 8 * i = 8 := fun i => by omega
  refine ⟨ho, fun y hy => ⟨by omega, by rw [e8]; omega, by rw [e8]; omega, fun k => k (by rw [e8, ew]), fun _ => ?_⟩⟩
  refine ⟨fun s => s.1 ≤ l.length / 8 ∧ s.2 = y, ⟨0, y, ⟨by simp, rfl⟩, ew, rfl, rfl, rfl⟩, fun s => l.length / 8 - s.1, ?_⟩
  rintro i cap ⟨hi, hc⟩
  simp only at hi hc
  subst hc
  rw [r8, r88, r888]
  refine ⟨fun hlt => ?_, fun hlt => ⟨hw, by omega, fun y2 hy2 => ⟨⟨mo, by omega⟩, fun y3 hy3 => ⟨by omega, by omega, fun k => k (by rw [eo]; omega), fun _ => ⟨fun k => k (by rw [eww]), fun _ => ?_⟩⟩⟩⟩⟩
  · have hx : ((l.drop (8 * i)).take 8).length = 8 := by simp; omega
    have hr : (wordsN l).getD i 0 = readN ((l.drop (8 * i)).take 8) := by
      rw [wordsN_getD (by omega), readN, readN, List.take_take]; rfl
    have hm : ∀ c ∈ (l.drop (8 * i)).take 8, c < 256 := fun c hc => hl.1 c (List.mem_of_mem_drop (List.mem_of_mem_take hc))
    repeat refine And.intro (by omega) ?_
    exact ⟨(l.drop (8 * i)).take 8, hx.symm, fun j hj => by rw [getD_take, if_pos (by omega), getD_drop], hm, ⟨hm, by omega⟩, fun k => k hr, fun _ => ⟨by omega, by omega, i + 1, _, ⟨by simp only; omega, rfl⟩, by simp only; omega, rfl, by omega, rfl⟩⟩
  · rw [eww]
    refine ⟨fun s => s.1 ≤ ws.length ∧ s.2 = (cap, y2, y3), ⟨0, cap, y2, y3, ⟨by simp, rfl⟩, rfl, eo, rfl, rfl, rfl, rfl, rfl, rfl, rfl, by omega, fun _ _ => rfl⟩, fun s => ws.length - s.1, ?_⟩
    rintro j c1 c2 c3 ⟨hj, hc⟩
    simp only [Prod.mk.injEq] at hj hc
    obtain ⟨rfl, rfl, rfl⟩ := hc
    rw [r8, r88, r888]
    refine ⟨fun hlt2 => ?_, fun hlt2 => ?_⟩
    · have hx : ((octetsN ws).drop (8 * j)).take 8 = layN (ws.getD j 0) 8 := octetsN_cut (by omega)
      have hxl : (layN (ws.getD j 0) 8).length = 8 := layN_length _ _
      repeat refine And.intro (by omega) ?_
      refine ⟨layN (ws.getD j 0) 8, hxl.symm, fun k hk => by rw [← hx, getD_take, if_pos (by omega), getD_drop], layN_lt _ _, by omega, by omega, 8, rfl, getD_mem hw (by unfold U64; omega) j, by omega, fun k => k rfl, fun _ => ⟨by omega, by omega, j + 1, _, _, _, ⟨by simp only; omega, rfl⟩, by simp only; omega, rfl, rfl, rfl, by omega, rfl, rfl, rfl⟩⟩
    · rw [r8 (l.length / 8)]
      have ht : (l.take (8 * (l.length / 8))).length = 8 * (l.length / 8) := by rw [List.length_take]; omega
      repeat refine And.intro (by omega) ?_
      refine ⟨l.take (8 * (l.length / 8)), ht.symm, fun k hk => by rw [getD_take, if_pos (by omega)], fun c hc => hl.1 c (List.mem_of_mem_take hc), by omega, wordsN l, ew.symm, fun _ _ => rfl, fun w hw => ?_, by omega, fun _ _ => ⟨octetsN_lt _, octets_words hl.1⟩⟩
      obtain ⟨k, _, rfl⟩ := List.mem_map.1 hw
      exact readN_lt (l := l.drop (8 * k)) fun c hc => hl.1 c (List.mem_of_mem_drop hc)

theorem octL_wf {l : List Nat} (h : wfT (.slice (.nat .u8)) l) : OctL l := ⟨fun x hx => h.2 x hx, h.1⟩
theorem twoI_wf {l : List Int} (h : wfT (.arr 2 (.int .i64)) l) (i : Nat) : I64 (l.getD i 0) := getD_mem (p := I64) (fun x hx => wf_i64 (h.2 x hx)) (by unfold I64; omega) i
theorem twoU_wf {l : List Nat} (h : wfT (.arr 2 (.nat .u64)) l) (i : Nat) : U64 (l.getD i 0) := getD_mem (p := U64) (fun x hx => h.2 x hx) (by unfold U64; omega) i

end Yard
