/- The geometry's laws: what the law's functions compute. -/
import Derived.Test.YtoajfhpiepkjkaaGeom
namespace Yard
open Go Go.Sx Go.Proofs
set_option linter.unusedVariables false
set_option linter.unusedSimpArgs false
set_option maxRecDepth 4000

def up (n k : Int) : Int := (n + k - 1) / k
def needC : Ctr := pureC (Int × Int) (fun x => 0 ≤ x.1 ∧ x.1 ≤ 100000 ∧ 1 ≤ x.2 ∧ x.2 ≤ 1000) (fun x => [.int .i64 x.1, .int .i64 x.2]) (fun x => .int .i64 (up x.1 x.2))
def needL (x : Int × Int) : LA := { T := Int, F := fun k => frm 14 [(0, .int .i64 x.1), (1, .int .i64 x.2), (5, .int .i64 k)], H := fun _ => [.fence] }
def rightC' : Ctr := rightC
def chartsC' : Ctr := pureC (Int × Int × Int) right (fun g => [geo g]) (fun g => .int .i64 (charts g))
def leavesC' : Ctr := pureC Int (fun n => 0 ≤ n ∧ n ≤ 1792) (fun n => [.int .i64 n]) (fun n => .int .i64 (leaves n))
def fansC' : Ctr := pureC Int (fun n => 0 ≤ n ∧ n ≤ 1792) (fun n => [.int .i64 n]) (fun n => .int .i64 (fans n))
def boundC' : Ctr := boundC
def awakeC : Ctr := pureC Unit (fun _ => True) (fun _ => []) (fun _ => .bool true)

theorem up_leaves {n : Int} (h : 0 ≤ n ∧ n ≤ 1792) : up n 7 = leaves n := by unfold up leaves; rw [if_pos h]; omega
theorem up_fans {n : Int} (h : 0 ≤ n ∧ n ≤ 1792) (h0 : n ≠ 0) : up (leaves n) 16 + 1 = fans n := by unfold up fans; rw [if_pos ⟨h.1, h.2, h0⟩]; omega

theorem needV : (∀ (x : Int × Int),
  0 ≤ x.fst ∧ x.fst ≤ 100000 ∧ 1 ≤ x.snd ∧ x.snd ≤ 1000 →
    Exx (Int → Prop) fun I =>
      Exx (Int → Nat) fun m =>
        (Exx Int fun t => I t ∧ (Tr 1 (x.fst = x.fst) ∧ Tr 1 (x.snd = x.snd) ∧ Tr 3 (Tr 1 (0 = t) ∧ Tr 8 True)) ∧ true = true ∧ True) ∧
          ∀ (t : Int),
            I t →
              I64 (t * x.snd) ∧
                BC (decide (t * x.snd < x.fst))
                  (I64 (t + 1) ∧ Exx Int fun t' => (I t' ∧ m t' < m t) ∧ (Tr 1 (x.fst = x.fst) ∧ Tr 1 (x.snd = x.snd) ∧ Tr 3 (Tr 1 (t + 1 = t') ∧ Tr 8 True)) ∧ true = true ∧ True)
                  (Exx Unit fun y => Tr 1 ((Tr 1 (t = up x.fst x.snd) ∧ True) ∧ true = true ∧ True))) =
    (fnVC tb [] Try.f56 needC (fun x => { loops := [(2, needL x)] }) (fun _ => none)) := by kernel_rfl

theorem need_ok : SpecOk Try.prog 56 (specOf needC) := by
  refine specOk mixed tb_ok SPok.nil Try.func56 (by decide) (pureC_ok fun _ => rfl) (an := fun x => { loops := [(2, needL x)] }) (σ := fun _ => none) ?_
  rw [← needV]
  simp only [Exx, Tr_eq, true_and, and_true, exists_const, BC_iff, decide_eq_true_eq, decide_eq_false_iff_not, I64]
  rintro ⟨n, e⟩ ⟨h1, h2, h3, h4⟩
  simp only at *
  refine ⟨fun k => 0 ≤ k ∧ (k = 0 ∨ (k - 1) * e < n), fun k => (n - k * e).toNat, ⟨0, ⟨by omega, by omega⟩, rfl⟩, fun k ⟨hk, hk'⟩ => ?_⟩
  have hs : (k - 1) * e = k * e - e := by rw [Int.sub_mul, Int.one_mul]
  have hp : (k + 1) * e = k * e + e := by rw [Int.add_mul, Int.one_mul]
  have hke : k ≤ k * e := by
    have := Int.mul_le_mul_of_nonneg_left h3 hk
    omega
  have hk0 : 0 ≤ k * e := by omega
  refine ⟨by rcases hk' with rfl | h <;> omega, fun hl => ⟨by omega, k + 1, ⟨⟨by omega, .inr ?_⟩, ?_⟩, rfl⟩, fun hl => ?_⟩
  · rw [Int.add_sub_cancel]; exact hl
  · simp only [hp]; omega
  · unfold up
    rcases hk' with rfl | h
    · have : n = 0 := by omega
      subst this
      rw [Int.ediv_eq_zero_of_lt (by omega) (by omega)]
    · have e1 : n + e - 1 = (n + e - 1 - k * e) + e * k := by rw [Int.mul_comm e k]; omega
      rw [e1, Int.add_mul_ediv_left _ _ (by omega), Int.ediv_eq_zero_of_lt (by omega) (by omega)]
      omega

theorem right'V : (∀ (x : Int × Int × Int),
  True →
    BC (decide (16 ≤ x.fst))
      (BC (decide (x.fst ≤ 3072))
        (BC (decide (1 ≤ x.snd.fst))
          (BC (decide (x.snd.fst ≤ 1792))
            (BC (decide (1 ≤ x.snd.snd)) (Exx Unit fun y => Tr 1 ((decide (x.snd.snd ≤ 4294967295) = decide (right x) ∧ True) ∧ true = true ∧ True))
              (Exx Unit fun y => Tr 1 ((false = decide (right x) ∧ True) ∧ true = true ∧ True)))
            (Exx Unit fun y => Tr 1 ((false = decide (right x) ∧ True) ∧ true = true ∧ True)))
          (Exx Unit fun y => Tr 1 ((false = decide (right x) ∧ True) ∧ true = true ∧ True)))
        (Exx Unit fun y => Tr 1 ((false = decide (right x) ∧ True) ∧ true = true ∧ True)))
      (Exx Unit fun y => Tr 1 ((false = decide (right x) ∧ True) ∧ true = true ∧ True))) =
    (fnVC tb [] Try.f33 rightC' (fun _ => {}) (fun _ => none)) := by kernel_rfl

theorem right'_ok : SpecOk Try.prog 33 (specOf rightC') := by
  refine specOk mixed tb_ok SPok.nil Try.func33 (by decide) (pureC_ok fun _ => rfl) (an := fun _ => {}) (σ := fun _ => none) ?_
  rw [← right'V]
  simp only [Exx, Tr_eq, true_and, and_true, exists_const, forall_const, BC_iff, decide_eq_true_eq, decide_eq_false_iff_not, right]
  rintro ⟨a, b, c⟩
  simp only
  have hn : ∀ {p : Prop} [Decidable p], ¬ p → false = decide p := fun h => by simp [h]
  refine ⟨fun h1 => ⟨fun h2 => ⟨fun h3 => ⟨fun h4 => ⟨fun h5 => ?_, fun h => hn (by omega)⟩, fun h => hn (by omega)⟩, fun h => hn (by omega)⟩, fun h => hn (by omega)⟩, fun h => hn (by omega)⟩
  simp [h1, h2, h3, h4, h5]

theorem charts'V : (∀ (x : Int × Int × Int),
  (16 ≤ x.fst ∧ x.fst ≤ 3072) ∧ (1 ≤ x.snd.fst ∧ x.snd.fst ≤ 1792) ∧ 1 ≤ x.snd.snd ∧ x.snd.snd ≤ 4294967295 →
    Exx (Int × Int) fun x_1 =>
      (0 ≤ x_1.fst ∧ x_1.fst ≤ 100000 ∧ 1 ≤ x_1.snd ∧ x_1.snd ≤ 1000) ∧
        ((Tr 1 (x.fst = x_1.fst) ∧ Tr 1 (384 = x_1.snd) ∧ True) ∧ true = true ∧ True) ∧
          ∀ (y : Unit), True → Exx Unit fun y => Tr 1 ((Tr 1 (up x_1.fst x_1.snd = charts x) ∧ True) ∧ true = true ∧ True)) =
    (fnVC tb [(56, specOf needC)] Try.f36 chartsC' (fun _ => {}) (fun _ => none)) := by kernel_rfl

theorem charts'_ok : SpecOk Try.prog 36 (specOf chartsC') := by
  refine specOk mixed tb_ok (SPok.cons need_ok SPok.nil) Try.func36 (by decide) (pureC_ok fun _ => rfl) (an := fun _ => {}) (σ := fun _ => none) ?_
  rw [← charts'V]
  simp only [Exx, Tr_eq, true_and, and_true, exists_const, forall_const]
  intro g hg
  refine ⟨(g.1, 384), by simp only; omega, ⟨rfl, rfl⟩, ?_⟩
  simp only [charts, if_pos (show right g from hg), up]; omega

theorem leaves'V : (∀ (x : Int),
  0 ≤ x ∧ x ≤ 1792 →
    Exx (Int × Int) fun x_1 =>
      (0 ≤ x_1.fst ∧ x_1.fst ≤ 100000 ∧ 1 ≤ x_1.snd ∧ x_1.snd ≤ 1000) ∧
        ((Tr 1 (x = x_1.fst) ∧ Tr 1 (7 = x_1.snd) ∧ True) ∧ true = true ∧ True) ∧
          ∀ (y : Unit), True → Exx Unit fun y => Tr 1 ((Tr 1 (up x_1.fst x_1.snd = leaves x) ∧ True) ∧ true = true ∧ True)) =
    (fnVC tb [(56, specOf needC)] Try.f39 leavesC' (fun _ => {}) (fun _ => none)) := by kernel_rfl

theorem leaves'_ok : SpecOk Try.prog 39 (specOf leavesC') := by
  refine specOk mixed tb_ok (SPok.cons need_ok SPok.nil) Try.func39 (by decide) (pureC_ok fun _ => rfl) (an := fun _ => {}) (σ := fun _ => none) ?_
  rw [← leaves'V]
  simp only [Exx, Tr_eq, true_and, and_true, exists_const, forall_const]
  intro n hn
  exact ⟨(n, 7), by simp only; omega, ⟨rfl, rfl⟩, up_leaves hn⟩

theorem fans'V : (∀ (x : Int),
  0 ≤ x ∧ x ≤ 1792 →
    BC (decide (x = 0)) (Exx Unit fun y => Tr 1 ((Tr 1 (0 = fans x) ∧ True) ∧ true = true ∧ True))
      (Exx Int fun x_1 =>
        (0 ≤ x_1 ∧ x_1 ≤ 1792) ∧
          ((Tr 1 (x = x_1) ∧ True) ∧ true = true ∧ True) ∧
            ∀ (y : Unit),
              True →
                Exx (Int × Int) fun x_2 =>
                  (0 ≤ x_2.fst ∧ x_2.fst ≤ 100000 ∧ 1 ≤ x_2.snd ∧ x_2.snd ≤ 1000) ∧
                    ((Tr 1 (leaves x_1 = x_2.fst) ∧ Tr 1 (16 = x_2.snd) ∧ True) ∧ true = true ∧ True) ∧
                      ∀ (y : Unit), True → I64 (up x_2.fst x_2.snd + 1) ∧ Exx Unit fun y => Tr 1 ((Tr 1 (up x_2.fst x_2.snd + 1 = fans x) ∧ True) ∧ true = true ∧ True))) =
    (fnVC tb [(56, specOf needC), (39, specOf leavesC')] Try.f40 fansC' (fun _ => {}) (fun _ => none)) := by kernel_rfl

theorem fans'_ok : SpecOk Try.prog 40 (specOf fansC') := by
  refine specOk mixed tb_ok (SPok.cons need_ok (SPok.cons leaves'_ok SPok.nil)) Try.func40 (by decide) (pureC_ok fun _ => rfl) (an := fun _ => {}) (σ := fun _ => none) ?_
  rw [← fans'V]
  simp only [Exx, Tr_eq, true_and, and_true, exists_const, forall_const, BC_iff, decide_eq_true_eq, decide_eq_false_iff_not, I64]
  intro n hn
  have := leaves_le n
  have hf := fans_le n
  refine ⟨fun h => by subst h; rfl, fun h => ⟨n, hn, rfl, (leaves n, 16), by simp only; omega, ⟨rfl, rfl⟩, ?_⟩⟩
  simp only [up_fans hn h]
  exact ⟨by omega, trivial⟩

theorem bound'V : (∀ (x : (Int × Int × Int) × Int),
  True →
    Exx (Int × Int × Int) fun x_1 =>
      Tr 1
        ((((Tr 1 (x.fst.fst = x_1.fst) ∧ Tr 1 (x.fst.snd.fst = x_1.snd.fst) ∧ Tr 1 (x.fst.snd.snd = x_1.snd.snd) ∧ True) ∧ True) ∧ true = true ∧ True) ∧
          ∀ (y : Unit),
            True →
              BC (!decide (right x_1)) (Exx Unit fun y => Tr 1 ((Tr 1 (0 = bound x.fst x.snd) ∧ True) ∧ true = true ∧ True))
                (BC (decide (x.snd < 0)) (Exx Unit fun y => Tr 1 ((Tr 1 (0 = bound x.fst x.snd) ∧ True) ∧ true = true ∧ True))
                  (BC (decide (x.fst.snd.fst < x.snd)) (Exx Unit fun y => Tr 1 ((Tr 1 (0 = bound x.fst x.snd) ∧ True) ∧ true = true ∧ True))
                    (Exx Int fun x_2 =>
                      (0 ≤ x_2 ∧ x_2 ≤ 1792) ∧
                        ((Tr 1 (x.fst.snd.fst = x_2) ∧ True) ∧ true = true ∧ True) ∧
                          ∀ (y : Unit),
                            True →
                              I64 (x.snd + leaves x_2) ∧
                                Exx Int fun x_3 =>
                                  (0 ≤ x_3 ∧ x_3 ≤ 1792) ∧
                                    ((Tr 1 (x.fst.snd.fst = x_3) ∧ True) ∧ true = true ∧ True) ∧
                                      ∀ (y : Unit),
                                        True →
                                          I64 (x.snd + leaves x_2 + fans x_3) ∧
                                            Exx (Int × Int × Int) fun x_4 =>
                                              ((16 ≤ x_4.fst ∧ x_4.fst ≤ 3072) ∧ (1 ≤ x_4.snd.fst ∧ x_4.snd.fst ≤ 1792) ∧ 1 ≤ x_4.snd.snd ∧ x_4.snd.snd ≤ 4294967295) ∧
                                                (((Tr 1 (x.fst.fst = x_4.fst) ∧ Tr 1 (x.fst.snd.fst = x_4.snd.fst) ∧ Tr 1 (x.fst.snd.snd = x_4.snd.snd) ∧ True) ∧ True) ∧
                                                    true = true ∧ True) ∧
                                                  ∀ (y : Unit),
                                                    True →
                                                      I64 (x.snd + leaves x_2 + fans x_3 + charts x_4) ∧
                                                        I64 (x.snd + leaves x_2 + fans x_3 + charts x_4 + 17) ∧
                                                          I64 (4 * (x.snd + leaves x_2 + fans x_3 + charts x_4 + 17)) ∧
                                                            I64 (4 * (x.snd + leaves x_2 + fans x_3 + charts x_4 + 17) + 80) ∧
                                                              Exx Unit fun y =>
                                                                Tr 1
                                                                  ((Tr 1 (4 * (x.snd + leaves x_2 + fans x_3 + charts x_4 + 17) + 80 = bound x.fst x.snd) ∧ True) ∧
                                                                    true = true ∧ True)))))) =
    (fnVC tb [(33, specOf rightC'), (36, specOf chartsC'), (39, specOf leavesC'), (40, specOf fansC')] Try.f42 boundC' (fun _ => {}) (fun _ => none)) := by kernel_rfl

theorem bound'_ok : SpecOk Try.prog 42 (specOf boundC') := by
  refine specOk mixed tb_ok (SPok.cons right'_ok (SPok.cons charts'_ok (SPok.cons leaves'_ok (SPok.cons fans'_ok SPok.nil)))) Try.func42 (by decide) (pureC_ok fun _ => rfl) (an := fun _ => {}) (σ := fun _ => none) ?_
  rw [← bound'V]
  simp only [Exx, Tr_eq, true_and, and_true, exists_const, forall_const, BC_iff, Bool.not_eq_true', Bool.not_eq_false', decide_eq_true_eq, decide_eq_false_iff_not, I64]
  rintro ⟨g, e⟩
  simp only
  have h1 := leaves_le g.2.1; have h2 := fans_le g.2.1; have h3 := charts_le g
  refine ⟨g, ⟨rfl, rfl, rfl⟩, fun h => ?_, fun h => ⟨fun k => ?_, fun k => ⟨fun l => ?_, fun l => ?_⟩⟩⟩
  · rw [bound, if_neg]; unfold within; exact fun h' => h h'.1
  · rw [bound, if_neg]; unfold within; omega
  · rw [bound, if_neg]; unfold within; omega
  · have hr := h
    unfold right at hr
    refine ⟨g.2.1, by omega, rfl, by omega, g.2.1, by omega, rfl, by omega, g, hr, ⟨rfl, rfl, rfl⟩, by omega, by omega, by omega, by omega, ?_⟩
    rw [bound, if_pos]; unfold within; exact ⟨h, by omega, by omega⟩

theorem awakeV : (∀ (x : Unit),
  True →
    Exx Int fun x =>
      Tr 1
        (((Tr 1 (120 = x) ∧ True) ∧ true = true ∧ True) ∧
          ∀ (y : Unit),
            True →
              BC (decide (seat x))
                (BC (decide ((if seat x then x / 7 / 16 else 0) = 1))
                  (BC (decide ((if seat x then x / 7 % 16 else 0) = 1))
                    (BC (decide ((if seat x then x % 7 else 0) = 1))
                      (Exx Int fun x =>
                        Tr 1
                          (((Tr 1 (8 = x) ∧ True) ∧ true = true ∧ True) ∧
                            ∀ (y : Unit),
                              True →
                                BC (decide (leaves x = 2))
                                  (Exx ((Int × Int × Int) × Int) fun x =>
                                    Tr 1
                                      ((((Tr 1 (400 = x.fst.fst) ∧ Tr 1 (64 = x.fst.snd.fst) ∧ Tr 1 (1 = x.fst.snd.snd) ∧ True) ∧ Tr 1 (50 = x.snd) ∧ True) ∧ true = true ∧ True) ∧
                                        ∀ (y : Unit), True → Exx Unit fun y => Tr 1 ((decide (bound x.fst x.snd = 404) = true ∧ True) ∧ true = true ∧ True)))
                                  (Exx Unit fun y => Tr 1 ((false = true ∧ True) ∧ true = true ∧ True))))
                      (Exx Unit fun y => Tr 1 ((false = true ∧ True) ∧ true = true ∧ True)))
                    (Exx Unit fun y => Tr 1 ((false = true ∧ True) ∧ true = true ∧ True)))
                  (Exx Unit fun y => Tr 1 ((false = true ∧ True) ∧ true = true ∧ True)))
                (Exx Unit fun y => Tr 1 ((false = true ∧ True) ∧ true = true ∧ True)))) =
    (fnVC tb [(41, specOf placeC), (37, specOf leavesC), (43, specOf boundC)] Try.f32 awakeC (fun _ => {}) (fun _ => none)) := by kernel_rfl

theorem awake_ok : SpecOk Try.prog 32 (specOf awakeC) := by
  refine specOk mixed tb_ok (SPok.cons place_ok (SPok.cons leaves_ok (SPok.cons bound_ok SPok.nil))) Try.func32 (by decide) (pureC_ok fun _ => rfl) (an := fun _ => {}) (σ := fun _ => none) ?_
  rw [← awakeV]
  simp only [Exx, Tr_eq, true_and, and_true, exists_const, forall_const, exists_eq_left']
  have h1 : decide (seat 120) = true := by decide
  have h2 : decide (leaves 8 = 2) = true := by decide
  have h3 : decide (bound (400, 64, 1) 50 = 404) = true := by decide
  rw [h1, h2]
  have h4 : decide ((if seat 120 then (120 : Int) / 7 / 16 else 0) = 1) = true := by decide
  have h5 : decide ((if seat 120 then (120 : Int) / 7 % 16 else 0) = 1) = true := by decide
  have h6 : decide ((if seat 120 then (120 : Int) % 7 else 0) = 1) = true := by decide
  rw [h4, h5, h6]
  exact ⟨((400, 64, 1), 50), ⟨⟨rfl, rfl, rfl⟩, rfl⟩, h3⟩

def geomRightsC : Ctr := pureC (Int × Int × Int) (fun g => I64 g.1 ∧ I64 g.2.1 ∧ I64 g.2.2) (fun g => [geo g]) (fun _ => .bool true)
def geomSlotsC : Ctr := pureC (Int × Int) (fun x => I64 x.1 ∧ I64 x.2) (fun x => [.int .i64 x.1, .int .i64 x.2]) (fun _ => .bool true)
def geomPlacesC : Ctr := pureC Int (fun x => I64 x) (fun x => [.int .i64 x]) (fun _ => .bool true)
def geomBoundsC : Ctr := pureC ((Int × Int × Int) × Int) (fun x => (I64 x.1.1 ∧ I64 x.1.2.1 ∧ I64 x.1.2.2) ∧ I64 x.2) (fun x => [geo x.1, .int .i64 x.2]) (fun _ => .bool true)

theorem geomRightsV : (∀ (x : Int × Int × Int),
  I64 x.fst ∧ I64 x.snd.fst ∧ I64 x.snd.snd →
    Exx Unit fun x_1 =>
      Tr 1
        (Tr 1 (true = true ∧ True) ∧
          ∀ (y : Unit),
            True →
              Exx (Int × Int × Int) fun x_2 =>
                Tr 1
                  ((((Tr 1 (x.fst = x_2.fst) ∧ Tr 1 (x.snd.fst = x_2.snd.fst) ∧ Tr 1 (x.snd.snd = x_2.snd.snd) ∧ True) ∧ True) ∧ true = true ∧ True) ∧
                    ∀ (y : Unit),
                      True →
                        BC (!decide (right x_2))
                          (Exx (Int × Int × Int) fun x_3 =>
                            Tr 1
                              ((((Tr 1 (x.fst = x_3.fst) ∧ Tr 1 (x.snd.fst = x_3.snd.fst) ∧ Tr 1 (x.snd.snd = x_3.snd.snd) ∧ True) ∧ True) ∧ true = true ∧ True) ∧
                                ∀ (y : Unit),
                                  True →
                                    BC (!decide (right x_3))
                                      (Exx (Int × Int × Int) fun x_4 =>
                                        Tr 1
                                          ((((Tr 1 (x.fst = x_4.fst) ∧ Tr 1 (x.snd.fst = x_4.snd.fst) ∧ Tr 1 (x.snd.snd = x_4.snd.snd) ∧ True) ∧ True) ∧ true = true ∧ True) ∧
                                            ∀ (y : Unit), True → Exx Unit fun y => Tr 1 ((decide (charts x_4 = 0) = true ∧ True) ∧ true = true ∧ True)))
                                      (Exx Unit fun y => Tr 1 ((false = true ∧ True) ∧ true = true ∧ True))))
                          (Exx (Int × Int × Int) fun x_3 =>
                            Tr 1
                              ((((Tr 1 (x.fst = x_3.fst) ∧ Tr 1 (x.snd.fst = x_3.snd.fst) ∧ Tr 1 (x.snd.snd = x_3.snd.snd) ∧ True) ∧ True) ∧ true = true ∧ True) ∧
                                ∀ (y : Unit),
                                  True →
                                    BC (decide (right x_3))
                                      (Exx (Int × Int × Int) fun x_4 =>
                                        Tr 1
                                          ((((Tr 1 (x.fst = x_4.fst) ∧ Tr 1 (x.snd.fst = x_4.snd.fst) ∧ Tr 1 (x.snd.snd = x_4.snd.snd) ∧ True) ∧ True) ∧ true = true ∧ True) ∧
                                            ∀ (y : Unit),
                                              True →
                                                Exx (Int × Int × Int) fun x_5 =>
                                                  ((16 ≤ x_5.fst ∧ x_5.fst ≤ 3072) ∧ (1 ≤ x_5.snd.fst ∧ x_5.snd.fst ≤ 1792) ∧ 1 ≤ x_5.snd.snd ∧ x_5.snd.snd ≤ 4294967295) ∧
                                                    (((Tr 1 (x.fst = x_5.fst) ∧ Tr 1 (x.snd.fst = x_5.snd.fst) ∧ Tr 1 (x.snd.snd = x_5.snd.snd) ∧ True) ∧ True) ∧
                                                        true = true ∧ True) ∧
                                                      ∀ (y : Unit), True → Exx Unit fun y => Tr 1 ((decide (charts x_4 = charts x_5) = true ∧ True) ∧ true = true ∧ True)))
                                      (Exx Unit fun y => Tr 1 ((false = true ∧ True) ∧ true = true ∧ True))))))) =
    (fnVC tb [(32, specOf awakeC), (33, specOf rightC'), (34, specOf rightC), (35, specOf chartsC), (36, specOf chartsC')] Try.f10 geomRightsC (fun _ => {}) (fun _ => none)) := by kernel_rfl

theorem geomRights_ok : SpecOk Try.prog 10 (specOf geomRightsC) := by
  refine specOk mixed tb_ok (SPok.cons awake_ok (SPok.cons right'_ok (SPok.cons right_ok (SPok.cons charts_ok (SPok.cons charts'_ok SPok.nil))))) Try.func10 (by decide) (pureC_ok fun _ => rfl) (an := fun _ => {}) (σ := fun _ => none) ?_
  rw [← geomRightsV]
  simp only [Exx, Tr_eq, true_and, and_true, exists_const, forall_const, BC_iff, Bool.not_eq_true', Bool.not_eq_false', decide_eq_true_eq, decide_eq_false_iff_not]
  intro g _
  refine ⟨g, ⟨rfl, rfl, rfl⟩, fun h => ⟨g, ⟨rfl, rfl, rfl⟩, fun _ => ⟨g, ⟨rfl, rfl, rfl⟩, by rw [charts, if_neg h]⟩, fun k => absurd k h⟩,
    fun h => ⟨g, ⟨rfl, rfl, rfl⟩, fun _ => ⟨g, ⟨rfl, rfl, rfl⟩, g, h, ⟨rfl, rfl, rfl⟩, rfl⟩, fun k => absurd h k⟩⟩

theorem geomSlotsV : (∀ (x : Int × Int),
  I64 x.fst ∧ I64 x.snd →
    Exx Unit fun x_1 =>
      Tr 1
        (Tr 1 (true = true ∧ True) ∧
          ∀ (y : Unit),
            True →
              BC (decide (x.fst < 0))
                (Exx Int fun x_2 =>
                  Tr 1
                    (((Tr 1 (x.fst = x_2) ∧ True) ∧ true = true ∧ True) ∧
                      ∀ (y : Unit),
                        True →
                          BC (decide (leaves x_2 = 0))
                            (Exx Int fun x_3 =>
                              Tr 1
                                (((Tr 1 (x.fst = x_3) ∧ True) ∧ true = true ∧ True) ∧
                                  ∀ (y : Unit), True → Exx Unit fun y => Tr 1 ((decide (fans x_3 = 0) = true ∧ True) ∧ true = true ∧ True)))
                            (Exx Unit fun y => Tr 1 ((false = true ∧ True) ∧ true = true ∧ True))))
                (BC (decide (1792 < x.fst))
                  (Exx Int fun x_2 =>
                    Tr 1
                      (((Tr 1 (x.fst = x_2) ∧ True) ∧ true = true ∧ True) ∧
                        ∀ (y : Unit),
                          True →
                            BC (decide (leaves x_2 = 0))
                              (Exx Int fun x_3 =>
                                Tr 1
                                  (((Tr 1 (x.fst = x_3) ∧ True) ∧ true = true ∧ True) ∧
                                    ∀ (y : Unit), True → Exx Unit fun y => Tr 1 ((decide (fans x_3 = 0) = true ∧ True) ∧ true = true ∧ True)))
                              (Exx Unit fun y => Tr 1 ((false = true ∧ True) ∧ true = true ∧ True))))
                  (I64 (x.fst + 1) ∧
                    Exx (Int × Int) fun x_2 =>
                      (I64 x_2.fst ∧ 1 ≤ x_2.snd ∧ x_2.snd ≤ 1000000) ∧
                        ((Tr 1 (x.snd = x_2.fst) ∧ Tr 1 (x.fst + 1 = x_2.snd) ∧ True) ∧ true = true ∧ True) ∧
                          ∀ (y : Unit),
                            True →
                              Exx Int fun x_3 =>
                                Tr 1
                                  (((Tr 1 (x.fst = x_3) ∧ True) ∧ true = true ∧ True) ∧
                                    ∀ (y : Unit),
                                      True →
                                        Exx Int fun x_4 =>
                                          (0 ≤ x_4 ∧ x_4 ≤ 1792) ∧
                                            ((Tr 1 (x.fst = x_4) ∧ True) ∧ true = true ∧ True) ∧
                                              ∀ (y : Unit),
                                                True →
                                                  BC (decide (leaves x_3 = leaves x_4))
                                                    (Exx Int fun x_5 =>
                                                      Tr 1
                                                        (((Tr 1 (x.fst = x_5) ∧ True) ∧ true = true ∧ True) ∧
                                                          ∀ (y : Unit),
                                                            True →
                                                              Exx Int fun x_6 =>
                                                                (0 ≤ x_6 ∧ x_6 ≤ 1792) ∧
                                                                  ((Tr 1 (x.fst = x_6) ∧ True) ∧ true = true ∧ True) ∧
                                                                    ∀ (y : Unit),
                                                                      True →
                                                                        BC (decide (fans x_5 = fans x_6))
                                                                          (Exx Int fun x_7 =>
                                                                            Tr 1
                                                                              (((Tr 1 (x_2.fst % x_2.snd = x_7) ∧ True) ∧ true = true ∧ True) ∧
                                                                                ∀ (y : Unit),
                                                                                  True →
                                                                                    Exx Int fun x_8 =>
                                                                                      Tr 1
                                                                                        (((Tr 1 (x.fst = x_8) ∧ True) ∧ true = true ∧ True) ∧
                                                                                          ∀ (y : Unit),
                                                                                            True →
                                                                                              BC (decide (leaves x_7 ≤ leaves x_8))
                                                                                                (Exx Int fun x_9 =>
                                                                                                  Tr 1
                                                                                                    (((Tr 1 (x_2.fst % x_2.snd = x_9) ∧ True) ∧ true = true ∧ True) ∧
                                                                                                      ∀ (y : Unit),
                                                                                                        True →
                                                                                                          Exx Int fun x_10 =>
                                                                                                            Tr 1
                                                                                                              (((Tr 1 (x.fst = x_10) ∧ True) ∧ true = true ∧ True) ∧
                                                                                                                ∀ (y : Unit),
                                                                                                                  True →
                                                                                                                    Exx Unit fun y =>
                                                                                                                      Tr 1
                                                                                                                        ((decide (fans x_9 ≤ fans x_10) = true ∧ True) ∧
                                                                                                                          true = true ∧ True))))
                                                                                                (Exx Unit fun y => Tr 1 ((false = true ∧ True) ∧ true = true ∧ True)))))
                                                                          (Exx Unit fun y => Tr 1 ((false = true ∧ True) ∧ true = true ∧ True))))
                                                    (Exx Unit fun y => Tr 1 ((false = true ∧ True) ∧ true = true ∧ True))))))) =
    (fnVC tb [(32, specOf awakeC), (19, specOf restC), (37, specOf leavesC), (38, specOf fansC), (39, specOf leavesC'), (40, specOf fansC')] Try.f11 geomSlotsC (fun _ => {}) (fun _ => none)) := by kernel_rfl

theorem geomSlots_ok : SpecOk Try.prog 11 (specOf geomSlotsC) := by
  refine specOk mixed tb_ok (SPok.cons awake_ok (SPok.cons rest_ok (SPok.cons leaves_ok (SPok.cons fans_ok (SPok.cons leaves'_ok (SPok.cons fans'_ok SPok.nil)))))) Try.func11 (by decide) (pureC_ok fun _ => rfl) (an := fun _ => {}) (σ := fun _ => none) ?_
  rw [← geomSlotsV]
  simp only [Exx, Tr_eq, true_and, and_true, exists_const, forall_const, BC_iff, Bool.not_eq_true', Bool.not_eq_false', decide_eq_true_eq, decide_eq_false_iff_not, exists_eq_left', I64]
  rintro ⟨n, m⟩ ⟨h1, h2⟩
  simp only at *
  refine ⟨fun h => ⟨fun _ => ?_, fun k => absurd ?_ k⟩, fun h => ⟨fun h3 => ⟨fun _ => ?_, fun k => absurd ?_ k⟩, fun h3 => ⟨by omega, (m, n + 1), by simp only; omega, ⟨rfl, rfl⟩, ?_⟩⟩⟩
  · rw [fans, if_neg (by omega)]
  · rw [leaves, if_neg (by omega)]
  · rw [fans, if_neg (by omega)]
  · rw [leaves, if_neg (by omega)]
  have hm := Int.emod_nonneg m (b := n + 1) (by omega)
  have hm' := Int.emod_lt_of_pos m (b := n + 1) (by omega)
  generalize m % (n + 1) = k at *
  have l1 : leaves k ≤ leaves n := by rw [leaves, leaves, if_pos (by omega), if_pos (by omega)]; omega
  have l2 : fans k ≤ fans n := by
    by_cases h0 : k = 0
    · subst h0
      have e : fans 0 = 0 := rfl
      have := fans_le n
      omega
    · rw [fans, fans, if_pos (by omega), if_pos (by omega)]; omega
  exact ⟨n, by omega, rfl, fun _ => ⟨n, by omega, rfl, fun _ => ⟨fun _ => l2, fun h => absurd l1 h⟩, fun h => absurd rfl h⟩, fun h => absurd rfl h⟩

theorem geomPlacesV : (∀ (x : Int),
  -9223372036854775808 ≤ x ∧ x ≤ 9223372036854775807 →
    Exx Unit fun x_1 =>
      Tr 1
        (Tr 1 (true = true ∧ True) ∧
          ∀ (y : Unit),
            True →
              Exx Int fun x_2 =>
                Tr 1
                  (((Tr 1 (x = x_2) ∧ True) ∧ true = true ∧ True) ∧
                    ∀ (y : Unit),
                      True →
                        BC (decide (x < 0))
                          (BC (!decide (seat x_2))
                            (BC (decide ((if seat x_2 then x_2 / 7 / 16 else 0) = 0))
                              (BC (decide ((if seat x_2 then x_2 / 7 % 16 else 0) = 0))
                                (Exx Unit fun y => Tr 1 ((decide ((if seat x_2 then x_2 % 7 else 0) = 0) = true ∧ True) ∧ true = true ∧ True))
                                (Exx Unit fun y => Tr 1 ((false = true ∧ True) ∧ true = true ∧ True)))
                              (Exx Unit fun y => Tr 1 ((false = true ∧ True) ∧ true = true ∧ True)))
                            (Exx Unit fun y => Tr 1 ((false = true ∧ True) ∧ true = true ∧ True)))
                          (BC (decide (1791 < x))
                            (BC (!decide (seat x_2))
                              (BC (decide ((if seat x_2 then x_2 / 7 / 16 else 0) = 0))
                                (BC (decide ((if seat x_2 then x_2 / 7 % 16 else 0) = 0))
                                  (Exx Unit fun y => Tr 1 ((decide ((if seat x_2 then x_2 % 7 else 0) = 0) = true ∧ True) ∧ true = true ∧ True))
                                  (Exx Unit fun y => Tr 1 ((false = true ∧ True) ∧ true = true ∧ True)))
                                (Exx Unit fun y => Tr 1 ((false = true ∧ True) ∧ true = true ∧ True)))
                              (Exx Unit fun y => Tr 1 ((false = true ∧ True) ∧ true = true ∧ True)))
                            (BC (decide (seat x_2))
                              (BC (decide (0 ≤ if seat x_2 then x_2 / 7 / 16 else 0))
                                (BC (decide ((if seat x_2 then x_2 / 7 / 16 else 0) < 16))
                                  (BC (decide (0 ≤ if seat x_2 then x_2 / 7 % 16 else 0))
                                    (BC (decide ((if seat x_2 then x_2 / 7 % 16 else 0) < 16))
                                      (BC (decide (0 ≤ if seat x_2 then x_2 % 7 else 0))
                                        (BC (decide ((if seat x_2 then x_2 % 7 else 0) < 7))
                                          (I64 (112 * if seat x_2 then x_2 / 7 / 16 else 0) ∧
                                            I64 (7 * if seat x_2 then x_2 / 7 % 16 else 0) ∧
                                              I64 ((112 * if seat x_2 then x_2 / 7 / 16 else 0) + 7 * if seat x_2 then x_2 / 7 % 16 else 0) ∧
                                                I64 (((112 * if seat x_2 then x_2 / 7 / 16 else 0) + 7 * if seat x_2 then x_2 / 7 % 16 else 0) + if seat x_2 then x_2 % 7 else 0) ∧
                                                  Exx Unit fun y =>
                                                    Tr 1
                                                      ((decide
                                                              ((((112 * if seat x_2 then x_2 / 7 / 16 else 0) + 7 * if seat x_2 then x_2 / 7 % 16 else 0) +
                                                                  if seat x_2 then x_2 % 7 else 0) =
                                                                x) =
                                                            true ∧
                                                          True) ∧
                                                        true = true ∧ True))
                                          (Exx Unit fun y => Tr 1 ((false = true ∧ True) ∧ true = true ∧ True)))
                                        (Exx Unit fun y => Tr 1 ((false = true ∧ True) ∧ true = true ∧ True)))
                                      (Exx Unit fun y => Tr 1 ((false = true ∧ True) ∧ true = true ∧ True)))
                                    (Exx Unit fun y => Tr 1 ((false = true ∧ True) ∧ true = true ∧ True)))
                                  (Exx Unit fun y => Tr 1 ((false = true ∧ True) ∧ true = true ∧ True)))
                                (Exx Unit fun y => Tr 1 ((false = true ∧ True) ∧ true = true ∧ True)))
                              (Exx Unit fun y => Tr 1 ((false = true ∧ True) ∧ true = true ∧ True))))))) =
    (fnVC tb [(32, specOf awakeC), (41, specOf placeC)] Try.f12 geomPlacesC (fun _ => {}) (fun _ => none)) := by kernel_rfl

theorem geomPlaces_ok : SpecOk Try.prog 12 (specOf geomPlacesC) := by
  refine specOk mixed tb_ok (SPok.cons awake_ok (SPok.cons place_ok SPok.nil)) Try.func12 (by decide) (pureC_ok fun _ => rfl) (an := fun _ => {}) (σ := fun _ => none) ?_
  rw [← geomPlacesV]
  simp only [Exx, Tr_eq, true_and, and_true, exists_const, forall_const, BC_iff, Bool.not_eq_true', Bool.not_eq_false', decide_eq_true_eq, decide_eq_false_iff_not, exists_eq_left', I64]
  intro x hx
  by_cases h : seat x
  · simp only [if_pos h]
    have hs := h
    unfold seat at hs
    refine ⟨fun k => absurd k (by omega), fun _ => ⟨fun k => absurd k (by omega), fun _ => ⟨fun _ => ⟨fun _ => ⟨fun _ => ⟨fun _ => ⟨fun _ => ⟨fun _ => ⟨fun _ => ?_, ?_⟩, ?_⟩, ?_⟩, ?_⟩, ?_⟩, ?_⟩, fun k => absurd h k⟩⟩⟩
    all_goals omega
  · simp only [if_neg h]
    have hs := h
    unfold seat at hs
    refine ⟨fun _ => ⟨fun _ => ⟨fun _ => ⟨fun _ => trivial, fun k => absurd trivial k⟩, fun k => absurd trivial k⟩, fun k => absurd k h⟩, fun _ => ⟨fun _ => ⟨fun _ => ⟨fun _ => ⟨fun _ => trivial, fun k => absurd trivial k⟩, fun k => absurd trivial k⟩, fun k => absurd k h⟩, fun _ => by omega⟩⟩

theorem geomBoundsV : (∀ (x : (Int × Int × Int) × Int),
  (I64 x.fst.fst ∧ I64 x.fst.snd.fst ∧ I64 x.fst.snd.snd) ∧ I64 x.snd →
    Exx Unit fun x_1 =>
      Tr 1
        (Tr 1 (true = true ∧ True) ∧
          ∀ (y : Unit),
            True →
              Exx ((Int × Int × Int) × Int) fun x_2 =>
                Tr 1
                  ((((Tr 1 (x.fst.fst = x_2.fst.fst) ∧ Tr 1 (x.fst.snd.fst = x_2.fst.snd.fst) ∧ Tr 1 (x.fst.snd.snd = x_2.fst.snd.snd) ∧ True) ∧ Tr 1 (x.snd = x_2.snd) ∧ True) ∧
                      true = true ∧ True) ∧
                    ∀ (y : Unit),
                      True →
                        Exx ((Int × Int × Int) × Int) fun x_3 =>
                          Tr 1
                            ((((Tr 1 (x.fst.fst = x_3.fst.fst) ∧ Tr 1 (x.fst.snd.fst = x_3.fst.snd.fst) ∧ Tr 1 (x.fst.snd.snd = x_3.fst.snd.snd) ∧ True) ∧
                                  Tr 1 (x.snd = x_3.snd) ∧ True) ∧
                                true = true ∧ True) ∧
                              ∀ (y : Unit),
                                True →
                                  BC (decide (bound x_3.fst x_3.snd = bound x_2.fst x_2.snd))
                                    (Exx ((Int × Int × Int) × Int) fun x_4 =>
                                      Tr 1
                                        ((((Tr 1 (x.fst.fst = x_4.fst.fst) ∧ Tr 1 (x.fst.snd.fst = x_4.fst.snd.fst) ∧ Tr 1 (x.fst.snd.snd = x_4.fst.snd.snd) ∧ True) ∧
                                              Tr 1 (x.snd = x_4.snd) ∧ True) ∧
                                            true = true ∧ True) ∧
                                          ∀ (y : Unit),
                                            True →
                                              BC (decide (0 < bound x_2.fst x_2.snd))
                                                (Exx Unit fun y =>
                                                  Tr 1
                                                    (((decide (0 < bound x_4.fst x_4.snd ∧ bound x_4.fst x_4.snd ≤ x_4.fst.fst) == decide (bound x_2.fst x_2.snd ≤ x.fst.fst)) =
                                                          true ∧
                                                        True) ∧
                                                      true = true ∧ True))
                                                (Exx Unit fun y =>
                                                  Tr 1 (((decide (0 < bound x_4.fst x_4.snd ∧ bound x_4.fst x_4.snd ≤ x_4.fst.fst) == false) = true ∧ True) ∧ true = true ∧ True))))
                                    (Exx Unit fun y => Tr 1 ((false = true ∧ True) ∧ true = true ∧ True)))))) =
    (fnVC tb [(32, specOf awakeC), (42, specOf boundC'), (43, specOf boundC), (44, specOf fitsC)] Try.f13 geomBoundsC (fun _ => {}) (fun _ => none)) := by kernel_rfl

theorem geomBounds_ok : SpecOk Try.prog 13 (specOf geomBoundsC) := by
  refine specOk mixed tb_ok (SPok.cons awake_ok (SPok.cons bound'_ok (SPok.cons bound_ok (SPok.cons fits_ok SPok.nil)))) Try.func13 (by decide) (pureC_ok fun _ => rfl) (an := fun _ => {}) (σ := fun _ => none) ?_
  rw [← geomBoundsV]
  simp only [Exx, Tr_eq, true_and, and_true, exists_const, forall_const, BC_iff, Bool.not_eq_true', Bool.not_eq_false', decide_eq_true_eq, decide_eq_false_iff_not]
  rintro ⟨g, e⟩ _
  refine ⟨(g, e), ⟨⟨rfl, rfl, rfl⟩, rfl⟩, (g, e), ⟨⟨rfl, rfl, rfl⟩, rfl⟩, fun _ => ⟨(g, e), ⟨⟨rfl, rfl, rfl⟩, rfl⟩, fun h => ?_, fun h => ?_⟩, fun k => absurd rfl k⟩
  · simp only at h; simp [h]
  · simp only at h; simp [h]

end Yard
