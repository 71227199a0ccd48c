/- The geometry's functions. -/
import Derived.Test.YtoajfhpiepkjkaaTb
namespace Yard
open Go Go.Sx Go.Proofs
set_option linter.unusedVariables false
set_option linter.unusedSimpArgs false
set_option maxRecDepth 4000

abbrev geo (g : Int × Int × Int) : AV := .agg [.int .i64 g.1, .int .i64 g.2.1, .int .i64 g.2.2]
def restC : Ctr := pureC (Int × Int) (fun x => I64 x.1 ∧ 1 ≤ x.2 ∧ x.2 ≤ 1000000) (fun x => [.int .i64 x.1, .int .i64 x.2]) (fun x => .int .i64 (x.1 % x.2))
def upC : Ctr := pureC (Int × Int) (fun x => 0 ≤ x.1 ∧ x.1 ≤ 100000 ∧ 1 ≤ x.2 ∧ x.2 ≤ 1000) (fun x => [.int .i64 x.1, .int .i64 x.2]) (fun x => .int .i64 ((x.1 + x.2 - 1) / x.2))
def slotsC : Ctr := pureC Int (fun x => True) (fun x => [.int .i64 x]) (fun x => .bool (decide (0 ≤ x ∧ x ≤ 1792)))
def leaves (n : Int) : Int := if 0 ≤ n ∧ n ≤ 1792 then (n + 6) / 7 else 0
def leavesC : Ctr := pureC Int (fun x => True) (fun x => [.int .i64 x]) (fun x => .int .i64 (leaves x))
def fans (n : Int) : Int := if 0 ≤ n ∧ n ≤ 1792 ∧ n ≠ 0 then (leaves n + 15) / 16 + 1 else 0
def fansC : Ctr := pureC Int (fun x => True) (fun x => [.int .i64 x]) (fun x => .int .i64 (fans x))
def seat (x : Int) : Prop := 0 ≤ x ∧ x < 1792
instance (x : Int) : Decidable (seat x) := by unfold seat; infer_instance
def placeC : Ctr := pureC Int (fun x => True) (fun x => [.int .i64 x])
  (fun x => .tup [.int .i64 (if seat x then x / 7 / 16 else 0), .int .i64 (if seat x then x / 7 % 16 else 0), .int .i64 (if seat x then x % 7 else 0), .bool (decide (seat x))])
def right (g : Int × Int × Int) : Prop := (16 ≤ g.1 ∧ g.1 ≤ 3072) ∧ (1 ≤ g.2.1 ∧ g.2.1 ≤ 1792) ∧ (1 ≤ g.2.2 ∧ g.2.2 ≤ 4294967295)
instance (g : Int × Int × Int) : Decidable (right g) := by unfold right; infer_instance
def rightC : Ctr := pureC (Int × Int × Int) (fun x => True) (fun g => [geo g]) (fun g => .bool (decide (right g)))
def charts (g : Int × Int × Int) : Int := if right g then (g.1 + 383) / 384 else 0
def chartsC : Ctr := pureC (Int × Int × Int) (fun x => True) (fun g => [geo g]) (fun g => .int .i64 (charts g))
def within (g : Int × Int × Int) (e : Int) : Prop := right g ∧ 0 ≤ e ∧ e ≤ g.2.1
instance (g : Int × Int × Int) (e : Int) : Decidable (within g e) := by unfold within; infer_instance
def bound (g : Int × Int × Int) (e : Int) : Int := if within g e then 4 * (e + leaves g.2.1 + fans g.2.1 + charts g + 17) + 80 else 0
def boundC : Ctr := pureC ((Int × Int × Int) × Int) (fun x => True) (fun x => [geo x.1, .int .i64 x.2]) (fun x => .int .i64 (bound x.1 x.2))
def fitsC : Ctr := pureC ((Int × Int × Int) × Int) (fun x => True) (fun x => [geo x.1, .int .i64 x.2]) (fun x => .bool (decide (0 < bound x.1 x.2 ∧ bound x.1 x.2 ≤ x.1.1)))

theorem leaves_le (n : Int) : 0 ≤ leaves n ∧ leaves n ≤ 256 := by unfold leaves; split <;> omega
theorem fans_le (n : Int) : 0 ≤ fans n ∧ fans n ≤ 17 := by have := leaves_le n; unfold fans; split <;> omega
theorem charts_le (g : Int × Int × Int) : 0 ≤ charts g ∧ charts g ≤ 8 := by
  by_cases h : right g
  · rw [charts, if_pos h]; unfold right at h; omega
  · rw [charts, if_neg h]; omega
theorem bound_le (g : Int × Int × Int) (e : Int) : 0 ≤ bound g e ∧ bound g e ≤ 10000 := by
  have := leaves_le g.2.1; have := fans_le g.2.1; have := charts_le g
  by_cases h : within g e
  · rw [bound, if_pos h]; unfold within right at h; omega
  · rw [bound, if_neg h]; omega

theorem restV : (∀ (x : Int × Int),
  I64 x.fst ∧ 1 ≤ x.snd ∧ x.snd ≤ 1000000 →
    x.snd ≠ 0 ∧ I64 (x.fst.tmod x.snd + x.snd) ∧ x.snd ≠ 0 ∧ Exx Unit fun y => Tr 1 ((Tr 1 ((x.fst.tmod x.snd + x.snd).tmod x.snd = x.fst % x.snd) ∧ True) ∧ true = true ∧ True)) =
    (fnVC tb [] Try.f19 restC (fun _ => {}) (fun _ => none)) := by kernel_rfl

theorem rest_ok : SpecOk Try.prog 19 (specOf restC) := by
  refine specOk mixed tb_ok SPok.nil Try.func19 (by decide) (pureC_ok fun _ => rfl) (an := fun _ => {}) (σ := fun _ => none) ?_
  rw [← restV]
  simp only [Exx, Tr_eq, true_and, and_true, exists_const, I64]
  rintro ⟨a, n⟩ ⟨h1, h2, h3⟩
  simp only at *
  have hb := Int.tmod_lt_of_pos a (b := n) (by omega)
  have hb' : -n < a.tmod n := Int.lt_tmod_of_pos a (by omega)
  refine ⟨by omega, by omega, by omega, ?_⟩
  rw [Int.tmod_eq_emod_of_nonneg (by omega), Int.add_emod_right, Int.tmod_eq_emod]
  split
  · simp
  · rename_i h
    have : ((n.natAbs : Nat) : Int) = n := by omega
    rw [this]; simp

theorem upV : (∀ (x : Int × Int),
  0 ≤ x.fst ∧ x.fst ≤ 100000 ∧ 1 ≤ x.snd ∧ x.snd ≤ 1000 →
    I64 (x.fst + x.snd) ∧
      I64 (x.fst + x.snd - 1) ∧
        x.snd ≠ 0 ∧
          I64 ((x.fst + x.snd - 1).tdiv x.snd) ∧ Exx Unit fun y => Tr 1 ((Tr 1 ((x.fst + x.snd - 1).tdiv x.snd = (x.fst + x.snd - 1) / x.snd) ∧ True) ∧ true = true ∧ True)) =
    (fnVC tb [] Try.f55 upC (fun _ => {}) (fun _ => none)) := by kernel_rfl

theorem up_ok : SpecOk Try.prog 55 (specOf upC) := by
  refine specOk mixed tb_ok SPok.nil Try.func55 (by decide) (pureC_ok fun _ => rfl) (an := fun _ => {}) (σ := fun _ => none) ?_
  rw [← upV]
  simp only [Exx, Tr_eq, true_and, and_true, exists_const, I64]
  rintro ⟨a, n⟩ ⟨h1, h2, h3, h4⟩
  simp only at *
  have e : (a + n - 1).tdiv n = (a + n - 1) / n := Int.tdiv_eq_ediv_of_nonneg (by omega)
  have h5 : 0 ≤ (a + n - 1) / n := Int.ediv_nonneg (by omega) (by omega)
  have h6 : (a + n - 1) / n ≤ a + n - 1 := Int.ediv_le_self _ (by omega)
  rw [e]
  exact ⟨by omega, by omega, by omega, by omega, rfl⟩

theorem slotsV : (∀ (x : Int),
  True →
    BC (decide (0 ≤ x)) (Exx Unit fun y => Tr 1 ((decide (x ≤ 1792) = decide (0 ≤ x ∧ x ≤ 1792) ∧ True) ∧ true = true ∧ True))
      (Exx Unit fun y => Tr 1 ((false = decide (0 ≤ x ∧ x ≤ 1792) ∧ True) ∧ true = true ∧ True))) =
    (fnVC tb [] Try.f57 slotsC (fun _ => {}) (fun _ => none)) := by kernel_rfl

theorem slots_ok : SpecOk Try.prog 57 (specOf slotsC) := by
  refine specOk mixed tb_ok SPok.nil Try.func57 (by decide) (pureC_ok fun _ => rfl) (an := fun _ => {}) (σ := fun _ => none) ?_
  rw [← slotsV]
  simp only [Exx, Tr_eq, true_and, and_true, exists_const, BC_iff, decide_eq_true_eq, decide_eq_false_iff_not, forall_const]
  intro x
  exact ⟨fun h => by simp [h], fun h => by simp [h]⟩

theorem leavesV : (∀ (x : Int),
  True →
    Exx Int fun x_1 =>
      Tr 1
        (((Tr 1 (x = x_1) ∧ True) ∧ true = true ∧ True) ∧
          ∀ (y : Unit),
            True →
              BC (!decide (0 ≤ x_1 ∧ x_1 ≤ 1792)) (Exx Unit fun y => Tr 1 ((Tr 1 (0 = leaves x) ∧ True) ∧ true = true ∧ True))
                (Exx (Int × Int) fun x_2 =>
                  (0 ≤ x_2.fst ∧ x_2.fst ≤ 100000 ∧ 1 ≤ x_2.snd ∧ x_2.snd ≤ 1000) ∧
                    ((Tr 1 (x = x_2.fst) ∧ Tr 1 (7 = x_2.snd) ∧ True) ∧ true = true ∧ True) ∧
                      ∀ (y : Unit), True → Exx Unit fun y => Tr 1 ((Tr 1 ((x_2.fst + x_2.snd - 1) / x_2.snd = leaves x) ∧ True) ∧ true = true ∧ True)))) =
    (fnVC tb [(55, specOf upC), (57, specOf slotsC)] Try.f37 leavesC (fun _ => {}) (fun _ => none)) := by kernel_rfl

theorem leaves_ok : SpecOk Try.prog 37 (specOf leavesC) := by
  refine specOk mixed tb_ok (SPok.cons up_ok (SPok.cons slots_ok SPok.nil)) Try.func37 (by decide) (pureC_ok fun _ => rfl) (an := fun _ => {}) (σ := fun _ => none) ?_
  rw [← leavesV]
  simp only [Exx, Tr_eq, true_and, and_true, Prod.exists, exists_eq_left', exists_const, forall_const, BC_iff, Bool.not_eq_true', Bool.not_eq_false', decide_eq_true_eq, decide_eq_false_iff_not]
  intro x
  refine ⟨fun h => by simp [leaves, h], fun h => ⟨x, 7, by omega, ⟨rfl, rfl⟩, ?_⟩⟩
  simp only [leaves, if_pos h]; omega

theorem fansV : (∀ (x : Int),
  True →
    Exx Int fun x_1 =>
      Tr 1
        (((Tr 1 (x = x_1) ∧ True) ∧ true = true ∧ True) ∧
          ∀ (y : Unit),
            True →
              BC (!decide (0 ≤ x_1 ∧ x_1 ≤ 1792)) (Exx Unit fun y => Tr 1 ((Tr 1 (0 = fans x) ∧ True) ∧ true = true ∧ True))
                (BC (decide (x = 0)) (Exx Unit fun y => Tr 1 ((Tr 1 (0 = fans x) ∧ True) ∧ true = true ∧ True))
                  (Exx Int fun x_2 =>
                    Tr 1
                      (((Tr 1 (x = x_2) ∧ True) ∧ true = true ∧ True) ∧
                        ∀ (y : Unit),
                          True →
                            Exx (Int × Int) fun x_3 =>
                              (0 ≤ x_3.fst ∧ x_3.fst ≤ 100000 ∧ 1 ≤ x_3.snd ∧ x_3.snd ≤ 1000) ∧
                                ((Tr 1 (leaves x_2 = x_3.fst) ∧ Tr 1 (16 = x_3.snd) ∧ True) ∧ true = true ∧ True) ∧
                                  ∀ (y : Unit),
                                    True →
                                      I64 ((x_3.fst + x_3.snd - 1) / x_3.snd + 1) ∧
                                        Exx Unit fun y => Tr 1 ((Tr 1 ((x_3.fst + x_3.snd - 1) / x_3.snd + 1 = fans x) ∧ True) ∧ true = true ∧ True)))))) =
    (fnVC tb [(55, specOf upC), (57, specOf slotsC), (37, specOf leavesC)] Try.f38 fansC (fun _ => {}) (fun _ => none)) := by kernel_rfl

theorem fans_ok : SpecOk Try.prog 38 (specOf fansC) := by
  refine specOk mixed tb_ok (SPok.cons up_ok (SPok.cons slots_ok (SPok.cons leaves_ok SPok.nil))) Try.func38 (by decide) (pureC_ok fun _ => rfl) (an := fun _ => {}) (σ := fun _ => none) ?_
  rw [← fansV]
  simp only [Exx, Tr_eq, true_and, and_true, Prod.exists, exists_eq_left', exists_const, forall_const, BC_iff, Bool.not_eq_true', Bool.not_eq_false', decide_eq_true_eq, decide_eq_false_iff_not, I64]
  intro x
  have := leaves_le x
  refine ⟨fun h => ?_, fun h => ⟨fun h2 => ?_, fun h2 => ⟨leaves x, 16, by omega, ⟨rfl, rfl⟩, by omega, ?_⟩⟩⟩
  · unfold fans; rw [if_neg (by omega)]
  · unfold fans; rw [if_neg (by omega)]
  · unfold fans; rw [if_pos (by omega)]; omega

theorem placeV : (∀ (x : Int),
  True →
    BC (decide (x < 0))
      (Exx Unit fun y =>
        Tr 1
          (((Tr 1 (0 = if seat x then x / 7 / 16 else 0) ∧ Tr 1 (0 = if seat x then x / 7 % 16 else 0) ∧ Tr 1 (0 = if seat x then x % 7 else 0) ∧ false = decide (seat x) ∧ True) ∧
              True) ∧
            true = true ∧ True))
      (BC (decide (1792 ≤ x))
        (Exx Unit fun y =>
          Tr 1
            (((Tr 1 (0 = if seat x then x / 7 / 16 else 0) ∧
                  Tr 1 (0 = if seat x then x / 7 % 16 else 0) ∧ Tr 1 (0 = if seat x then x % 7 else 0) ∧ false = decide (seat x) ∧ True) ∧
                True) ∧
              true = true ∧ True))
        ((7 : Int) ≠ (0 : Int) ∧
          I64 (x.tdiv 7) ∧
            (16 : Int) ≠ (0 : Int) ∧
              I64 ((x.tdiv 7).tdiv 16) ∧
                (16 : Int) ≠ (0 : Int) ∧
                  (7 : Int) ≠ (0 : Int) ∧
                    Exx Unit fun y =>
                      Tr 1
                        (((Tr 1 ((x.tdiv 7).tdiv 16 = if seat x then x / 7 / 16 else 0) ∧
                              Tr 1 ((x.tdiv 7).tmod 16 = if seat x then x / 7 % 16 else 0) ∧ Tr 1 (x.tmod 7 = if seat x then x % 7 else 0) ∧ true = decide (seat x) ∧ True) ∧
                            True) ∧
                          true = true ∧ True)))) =
    (fnVC tb [] Try.f41 placeC (fun _ => {}) (fun _ => none)) := by kernel_rfl

theorem place_ok : SpecOk Try.prog 41 (specOf placeC) := by
  refine specOk mixed tb_ok SPok.nil Try.func41 (by decide) (pureC_ok fun _ => ⟨rfl, rfl, rfl, rfl, trivial⟩) (an := fun _ => {}) (σ := fun _ => none) ?_
  rw [← placeV]
  simp only [Exx, Tr_eq, true_and, and_true, exists_const, forall_const, BC_iff, decide_eq_true_eq, decide_eq_false_iff_not, I64]
  intro x
  refine ⟨fun h => ?_, fun h => ⟨fun h2 => ?_, fun h2 => ?_⟩⟩
  · have : ¬ seat x := by unfold seat; omega
    simp [this]
  · have : ¬ seat x := by unfold seat; omega
    simp [this]
  · have hs : seat x := by unfold seat; omega
    have e1 : x.tdiv 7 = x / 7 := Int.tdiv_eq_ediv_of_nonneg (by omega)
    have e2 : x.tmod 7 = x % 7 := Int.tmod_eq_emod_of_nonneg (by omega)
    have e3 : (x / 7).tdiv 16 = x / 7 / 16 := Int.tdiv_eq_ediv_of_nonneg (by omega)
    have e4 : (x / 7).tmod 16 = x / 7 % 16 := Int.tmod_eq_emod_of_nonneg (by omega)
    rw [e1, e2, e3, e4, if_pos hs, if_pos hs, if_pos hs, decide_eq_true hs]
    exact ⟨by omega, by omega, by omega, by omega, by omega, by omega, rfl, rfl, rfl, rfl⟩

theorem rightV : (∀ (x : Int × Int × Int),
  True →
    BC (decide (16 ≤ x.fst))
      (BC (decide (x.fst ≤ 3072))
        (BC (decide (1 ≤ x.snd.fst))
          (BC (decide (x.snd.fst ≤ 1792))
            (BC (decide (1 ≤ x.snd.snd)) (Exx Unit fun y => Tr 1 ((decide (x.snd.snd ≤ 4294967295) = decide (right x) ∧ True) ∧ true = true ∧ True))
              (Exx Unit fun y => Tr 1 ((false = decide (right x) ∧ True) ∧ true = true ∧ True)))
            (Exx Unit fun y => Tr 1 ((false = decide (right x) ∧ True) ∧ true = true ∧ True)))
          (Exx Unit fun y => Tr 1 ((false = decide (right x) ∧ True) ∧ true = true ∧ True)))
        (Exx Unit fun y => Tr 1 ((false = decide (right x) ∧ True) ∧ true = true ∧ True)))
      (Exx Unit fun y => Tr 1 ((false = decide (right x) ∧ True) ∧ true = true ∧ True))) =
    (fnVC tb [] Try.f34 rightC (fun _ => {}) (fun _ => none)) := by kernel_rfl

theorem right_ok : SpecOk Try.prog 34 (specOf rightC) := by
  refine specOk mixed tb_ok SPok.nil Try.func34 (by decide) (pureC_ok fun _ => rfl) (an := fun _ => {}) (σ := fun _ => none) ?_
  rw [← rightV]
  simp only [Exx, Tr_eq, true_and, and_true, exists_const, forall_const, BC_iff, decide_eq_true_eq, decide_eq_false_iff_not, right]
  rintro ⟨a, b, c⟩
  simp only
  have hn : ∀ {p : Prop} [Decidable p], ¬ p → false = decide p := fun h => by simp [h]
  refine ⟨fun h1 => ⟨fun h2 => ⟨fun h3 => ⟨fun h4 => ⟨fun h5 => ?_, fun h => hn (by omega)⟩, fun h => hn (by omega)⟩, fun h => hn (by omega)⟩, fun h => hn (by omega)⟩, fun h => hn (by omega)⟩
  simp [h1, h2, h3, h4, h5]

theorem chartsV : (∀ (x : Int × Int × Int),
  True →
    Exx (Int × Int × Int) fun x_1 =>
      Tr 1
        ((((Tr 1 (x.fst = x_1.fst) ∧ Tr 1 (x.snd.fst = x_1.snd.fst) ∧ Tr 1 (x.snd.snd = x_1.snd.snd) ∧ True) ∧ True) ∧ true = true ∧ True) ∧
          ∀ (y : Unit),
            True →
              BC (!decide (right x_1)) (Exx Unit fun y => Tr 1 ((Tr 1 (0 = charts x) ∧ True) ∧ true = true ∧ True))
                (Exx (Int × Int) fun x_2 =>
                  (0 ≤ x_2.fst ∧ x_2.fst ≤ 100000 ∧ 1 ≤ x_2.snd ∧ x_2.snd ≤ 1000) ∧
                    ((Tr 1 (x.fst = x_2.fst) ∧ Tr 1 (384 = x_2.snd) ∧ True) ∧ true = true ∧ True) ∧
                      ∀ (y : Unit), True → Exx Unit fun y => Tr 1 ((Tr 1 ((x_2.fst + x_2.snd - 1) / x_2.snd = charts x) ∧ True) ∧ true = true ∧ True)))) =
    (fnVC tb [(55, specOf upC), (34, specOf rightC)] Try.f35 chartsC (fun _ => {}) (fun _ => none)) := by kernel_rfl

theorem charts_ok : SpecOk Try.prog 35 (specOf chartsC) := by
  refine specOk mixed tb_ok (SPok.cons up_ok (SPok.cons right_ok SPok.nil)) Try.func35 (by decide) (pureC_ok fun _ => rfl) (an := fun _ => {}) (σ := fun _ => none) ?_
  rw [← chartsV]
  simp only [Exx, Tr_eq, true_and, and_true, exists_const, forall_const, BC_iff, Bool.not_eq_true', Bool.not_eq_false', decide_eq_true_eq, decide_eq_false_iff_not]
  intro g
  refine ⟨g, ⟨rfl, rfl, rfl⟩, fun h => by simp [charts, h], fun h => ⟨(g.1, 384), ?_, ⟨rfl, rfl⟩, ?_⟩⟩
  · have := h; unfold right at this; simp only; omega
  · simp only [charts, if_pos h]; omega

theorem boundV : (∀ (x : (Int × Int × Int) × Int),
  True →
    Exx (Int × Int × Int) fun x_1 =>
      Tr 1
        ((((Tr 1 (x.fst.fst = x_1.fst) ∧ Tr 1 (x.fst.snd.fst = x_1.snd.fst) ∧ Tr 1 (x.fst.snd.snd = x_1.snd.snd) ∧ True) ∧ True) ∧ true = true ∧ True) ∧
          ∀ (y : Unit),
            True →
              BC (!decide (right x_1)) (Exx Unit fun y => Tr 1 ((Tr 1 (0 = bound x.fst x.snd) ∧ True) ∧ true = true ∧ True))
                (BC (decide (x.snd < 0)) (Exx Unit fun y => Tr 1 ((Tr 1 (0 = bound x.fst x.snd) ∧ True) ∧ true = true ∧ True))
                  (BC (decide (x.fst.snd.fst < x.snd)) (Exx Unit fun y => Tr 1 ((Tr 1 (0 = bound x.fst x.snd) ∧ True) ∧ true = true ∧ True))
                    (Exx Int fun x_2 =>
                      Tr 1
                        (((Tr 1 (x.fst.snd.fst = x_2) ∧ True) ∧ true = true ∧ True) ∧
                          ∀ (y : Unit),
                            True →
                              I64 (x.snd + leaves x_2) ∧
                                Exx Int fun x_3 =>
                                  Tr 1
                                    (((Tr 1 (x.fst.snd.fst = x_3) ∧ True) ∧ true = true ∧ True) ∧
                                      ∀ (y : Unit),
                                        True →
                                          I64 (x.snd + leaves x_2 + fans x_3) ∧
                                            Exx (Int × Int × Int) fun x_4 =>
                                              Tr 1
                                                ((((Tr 1 (x.fst.fst = x_4.fst) ∧ Tr 1 (x.fst.snd.fst = x_4.snd.fst) ∧ Tr 1 (x.fst.snd.snd = x_4.snd.snd) ∧ True) ∧ True) ∧
                                                    true = true ∧ True) ∧
                                                  ∀ (y : Unit),
                                                    True →
                                                      I64 (x.snd + leaves x_2 + fans x_3 + charts x_4) ∧
                                                        I64 (x.snd + leaves x_2 + fans x_3 + charts x_4 + 17) ∧
                                                          I64 (4 * (x.snd + leaves x_2 + fans x_3 + charts x_4 + 17)) ∧
                                                            I64 (4 * (x.snd + leaves x_2 + fans x_3 + charts x_4 + 17) + 80) ∧
                                                              Exx Unit fun y =>
                                                                Tr 1
                                                                  ((Tr 1 (4 * (x.snd + leaves x_2 + fans x_3 + charts x_4 + 17) + 80 = bound x.fst x.snd) ∧ True) ∧
                                                                    true = true ∧ True))))))))) =
    (fnVC tb [(34, specOf rightC), (35, specOf chartsC), (37, specOf leavesC), (38, specOf fansC)] Try.f43 boundC (fun _ => {}) (fun _ => none)) := by kernel_rfl

theorem bound_ok : SpecOk Try.prog 43 (specOf boundC) := by
  refine specOk mixed tb_ok (SPok.cons right_ok (SPok.cons charts_ok (SPok.cons leaves_ok (SPok.cons fans_ok SPok.nil)))) Try.func43 (by decide) (pureC_ok fun _ => rfl) (an := fun _ => {}) (σ := fun _ => none) ?_
  rw [← boundV]
  simp only [Exx, Tr_eq, true_and, and_true, exists_const, forall_const, BC_iff, Bool.not_eq_true', Bool.not_eq_false', decide_eq_true_eq, decide_eq_false_iff_not, I64]
  rintro ⟨g, e⟩
  simp only
  have h1 := leaves_le g.2.1; have h2 := fans_le g.2.1; have h3 := charts_le g
  refine ⟨g, ⟨rfl, rfl, rfl⟩, fun h => ?_, fun h => ⟨fun k => ?_, fun k => ⟨fun l => ?_, fun l => ?_⟩⟩⟩
  · rw [bound, if_neg]; unfold within; exact fun h' => h h'.1
  · rw [bound, if_neg]; unfold within; omega
  · rw [bound, if_neg]; unfold within; omega
  · have hr := h
    unfold right at hr
    refine ⟨g.2.1, rfl, by omega, g.2.1, rfl, by omega, g, ⟨rfl, rfl, rfl⟩, by omega, by omega, by omega, by omega, ?_⟩
    rw [bound, if_pos]; unfold within; exact ⟨h, by omega, by omega⟩

theorem fitsV : (∀ (x : (Int × Int × Int) × Int),
  True →
    Exx ((Int × Int × Int) × Int) fun x_1 =>
      Tr 1
        ((((Tr 1 (x.fst.fst = x_1.fst.fst) ∧ Tr 1 (x.fst.snd.fst = x_1.fst.snd.fst) ∧ Tr 1 (x.fst.snd.snd = x_1.fst.snd.snd) ∧ True) ∧ Tr 1 (x.snd = x_1.snd) ∧ True) ∧
            true = true ∧ True) ∧
          ∀ (y : Unit),
            True →
              BC (decide (0 < bound x_1.fst x_1.snd))
                (Exx Unit fun y => Tr 1 ((decide (bound x_1.fst x_1.snd ≤ x.fst.fst) = decide (0 < bound x.fst x.snd ∧ bound x.fst x.snd ≤ x.fst.fst) ∧ True) ∧ true = true ∧ True))
                (Exx Unit fun y => Tr 1 ((false = decide (0 < bound x.fst x.snd ∧ bound x.fst x.snd ≤ x.fst.fst) ∧ True) ∧ true = true ∧ True)))) =
    (fnVC tb [(43, specOf boundC)] Try.f44 fitsC (fun _ => {}) (fun _ => none)) := by kernel_rfl

theorem fits_ok : SpecOk Try.prog 44 (specOf fitsC) := by
  refine specOk mixed tb_ok (SPok.cons bound_ok SPok.nil) Try.func44 (by decide) (pureC_ok fun _ => rfl) (an := fun _ => {}) (σ := fun _ => none) ?_
  rw [← fitsV]
  simp only [Exx, Tr_eq, true_and, and_true, exists_const, forall_const, BC_iff, Bool.not_eq_true', Bool.not_eq_false', decide_eq_true_eq, decide_eq_false_iff_not, I64]
  rintro ⟨g, e⟩
  simp only
  refine ⟨(g, e), ⟨⟨rfl, rfl, rfl⟩, rfl⟩, fun h => ?_, fun h => ?_⟩
  · simp only at h; simp [h]
  · simp only at h; simp [h]

end Yard
