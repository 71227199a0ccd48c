/- The law CrcLinear returns true for every input. No condition. -/
import Derived.Test.YtoajfhpiepkjkaaRows
import Derived.Test.YtoajfhpiepkjkaaCrcLin
import Derived.Test.YtoajfhpiepkjkaaSxY
import Derived.WalkKit
import Derived.ProofKit
import Derived.OpenShut
import Derived.ShutString
import Derived.ChangeOld
import Derived.Below
namespace Go.Proofs.Ytoajfhpiepkjkaa.crcLinear
open Go.ChangeShapes Go.WideShapes Go.ChangeAt Go.RowKit Go.Sx Yard
set_option linter.unusedVariables false
set_option linter.unusedSimpArgs false

theorem own : ownKnob Try.prog.godebug = none := by kernel_rfl
theorem laidOut : laidOutB Try.prog = true := by kernel_rfl
theorem noTab : hasTab Try.prog = false := by kernel_rfl
def T0 : TT := .slice (.nat .u8)
theorem t0 : ttB Try.prog T0 29 = true := by kernel_rfl
def T1 : TT := .slice (.nat .u8)
theorem t1 : ttB Try.prog T1 29 = true := by kernel_rfl
def T2 : TT := .slice (.nat .u8)
theorem t2 : ttB Try.prog T2 29 = true := by kernel_rfl

theorem walk (w : World) (v0 : Value) (e0 : El T0) (g0 : wfT T0 e0) (k0 : V (roAll w) noIds (topT T0 e0) v0) (v1 : Value) (e1 : El T1) (g1 : wfT T1 e1) (k1 : V (roAll w) noIds (topT T1 e1) v1) (v2 : Value) (e2 : El T2) (g2 : wfT T2 e2) (k2 : V (roAll w) noIds (topT T2 e2) v2) :
    Calls Try.prog 4 #[v0, v1, v2] w fun e w' => e = .returned (.bool true) ∧ Below w.heap.size w w' :=
  lawOk (args := fun x => (Yard.crcLinearC.args x)) Yard.crcLinear_ok w (fun h => by rw [noTab] at h; cases h) ((e0, e1, e2)) (⟨octL_wf g0, octL_wf g1, octL_wf g2⟩) ⟨fit_top T0 e0, ⟨fit_top T1 e1, ⟨fit_top T2 e2, trivial⟩⟩⟩ (vals := [v0, v1, v2]) (.cons _ _ _ _ k0 (.cons _ _ _ _ k1 (.cons _ _ _ _ k2 .nil)))

set_option maxRecDepth 100000 in
theorem lifted (os : Os) (started : os.Started) (H : Type) (enc : TypeId × Value → H) :
    ReturnsInHanded {} Try.checked os 4 .any (Rows.crcLinearSpec.pre6 enc Try.prog Try.f4 Rows.crcLinearRow.domain false) (Rows.crcLinearSpec.post enc Try.prog Try.f4 false true false false) := by
  refine returnsInHanded_of_change (C := Try.checked) own started (by kernel_rfl) Try.func4
    (ChangeSpec.witness6 (enc := enc) (C := Try.checked) false ⟨#[], #[.slice none 0 0, .slice none 0 0, .slice none 0 0], []⟩ 8 (by kernel_rfl) (by kernel_rfl) (by kernel_rfl) (by kernel_rfl)) ?_
  intro W base args ds gs before hval0 hW hcnd _
  have hval : ∀ (j : Nat) t v, Try.f4.params[j]? = some t → args[j]? = some v → Value.okWide Try.prog W .any base t v := hval0
  have hW' := hW
  obtain ⟨p, q, hA0, hV, rfl, hfz, hnd⟩ := hW
  have hA : DataW.TrodAll enc Try.prog W 0 (fun _ => true) true Try.f4.params.toList args.toList ds p := hA0
  rw [Try.params4] at hA hval
  obtain ⟨v0, vs0, d0, ds0, p0, q0, hargs, rfl, rfl, h0, r0⟩ := trodAll_cons hA
  obtain ⟨v1, vs1, d1, ds1, p1, q1, rfl, rfl, rfl, h1, r1⟩ := trodAll_cons r0
  obtain ⟨v2, vs2, d2, ds2, p2, q2, rfl, rfl, rfl, h2, r2⟩ := trodAll_cons r1
  obtain ⟨rfl, rfl, rfl⟩ := trodAll_nil r2
  obtain rfl : args = #[v0, v1, v2] := by cases args; simp_all
  obtain ⟨rfl, rfl⟩ := trodVars_none hV
  have lt0 : ∀ x ∈ p0, x.block < W.heap.size := by obtain ⟨m, hm⟩ := h0; exact DataW.trod_lt m _ _ _ hm
  obtain ⟨e0, g0, k0⟩ := top_in t0 (hval 0 29 v0 rfl rfl) h0
  have lt1 : ∀ x ∈ p1, x.block < W.heap.size := by obtain ⟨m, hm⟩ := h1; exact DataW.trod_lt m _ _ _ hm
  obtain ⟨e1, g1, k1⟩ := top_in t1 (hval 1 29 v1 rfl rfl) h1
  have lt2 : ∀ x ∈ p2, x.block < W.heap.size := by obtain ⟨m, hm⟩ := h2; exact DataW.trod_lt m _ _ _ hm
  obtain ⟨e2, g2, k2⟩ := top_in t2 (hval 2 29 v2 rfl rfl) h2
  clear hA0 hval0
  refine (walk W v0 e0 g0 k0 v1 e1 g1 k1 v2 e2 g2 k2).mono fun e W' ⟨he, bel⟩ => ?_
  subst he
  exact ⟨_, rfl, _, _, _, [], _, [], hW', trodAll_mk1 (shut_bool Try.underlying4 _), (trodAll_cons_mk (Below.trod laidOut (by kernel_rfl) (of_decide_eq_true (by kernel_rfl)) h0 bel lt0) (trodAll_cons_mk (Below.trod laidOut (by kernel_rfl) (of_decide_eq_true (by kernel_rfl)) h1 bel lt1) (trodAll_cons_mk (Below.trod laidOut (by kernel_rfl) (of_decide_eq_true (by kernel_rfl)) h2 bel lt2) trodAll_mk0))), rfl, bel.frame _, fun h => by cases h⟩

theorem over : Rows.crcLinearRow.holds Try.pinned (OpenSpec.ofChange Rows.crcLinearSpec) :=
  OpenClaim.holds_of_wide 4 Try.f4 rfl rfl rfl rfl rfl rfl rfl ⟨rfl, rfl, rfl, rfl, rfl⟩ rfl rfl rfl rfl rfl (by kernel_rfl) Try.func4 (by kernel_rfl)
    (of_decide_eq_true (by kernel_rfl)) (by unfold Func.isWrapper; first | (rw [if_pos (by decide +kernel)]; kernel_rfl) | (rw [if_neg (by decide +kernel)]; exact ⟨rfl, rfl⟩))
    (fun os started H enc _ => lifted os started H enc)

theorem proved : Rows.CrcLinearSaid := over

end Go.Proofs.Ytoajfhpiepkjkaa.crcLinear
