/- The law ForestJoins returns true for every input, where the table math/bits.deBruijn64tab reads as the program text lays it: the tied card. No other condition. -/
import Derived.Test.YtlihikockhjodaaGreatDoorRows
import Derived.Test.YtlihikockhjodaaGreatDoorCards
import Derived.Test.YtlihikockhjodaaGreatDoorTie
import Derived.Test.YtlihikockhjodaaGreatDoorForJoins
import Derived.Test.YtlihikockhjodaaGreatDoorCardTab
import Derived.Test.YtlihikockhjodaaGreatDoorSxY
import Derived.SevenTiedAt
import Derived.WalkKit
import Derived.ProofKit
import Derived.OpenShut
import Derived.ShutString
import Derived.ChangeOld
import Derived.Below
import Derived.Stop.Joined
namespace Go.Proofs.YtlihikockhjodaaGreatDoor.forestJoins
open Go.ChangeShapes Go.WideShapes Go.ChangeAt Go.RowKit Go.Sx Yard
set_option linter.unusedVariables false
set_option linter.unusedSimpArgs false

def T0 : TT := .slice (.arr 2 (.int .i64))
theorem t0 : ttB Tryz.prog T0 51 = true := by kernel_rfl
def T1 : TT := .slice (.arr 2 (.int .i64))
theorem t1 : ttB Tryz.prog T1 51 = true := by kernel_rfl
def T2 : TT := .bool
theorem t2 : ttB Tryz.prog T2 4 = true := by kernel_rfl

theorem walk (w : World) (hgl : hasTab Tryz.prog = true → ∃ cs T fr, cs.toList = tabCells ∧ w.heap[0]? = some (.cells cs T fr)) (v0 : Value) (e0 : El T0) (g0 : wfT T0 e0) (k0 : V (roAll w) noIds (topT T0 e0) v0) (v1 : Value) (e1 : El T1) (g1 : wfT T1 e1) (k1 : V (roAll w) noIds (topT T1 e1) v1) (v2 : Value) (e2 : El T2) (g2 : wfT T2 e2) (k2 : V (roAll w) noIds (topT T2 e2) v2) :
    Calls Tryz.prog 5 #[v0, v1, v2] w fun e w' => e = .returned (.bool true) ∧ Below w.heap.size w w' :=
  lawOk (args := fun x => (Yard.forestJoinsC.args x)) Yard.forestJoins_ok w hgl ((e0, e1, e2)) (⟨⟨fun e he v hv => wf_i64 ((g0.2 e he).2 v hv), g0.1⟩, ⟨fun e he v hv => wf_i64 ((g1.2 e he).2 v hv), g1.1⟩⟩) ⟨fit_top T0 e0, ⟨fit_top T1 e1, ⟨fit_top T2 e2, trivial⟩⟩⟩ (vals := [v0, v1, v2]) (.cons _ _ _ _ k0 (.cons _ _ _ _ k1 (.cons _ _ _ _ k2 .nil)))

set_option maxRecDepth 100000 in
theorem lifted (os : Os) (started : os.Started) (H : Type) (enc : TypeId × Value → H) :
    ReturnsInHanded {} Tryz.checked os 5 .any (fun w args => (Rows.forestJoinsSpec.pre enc Tryz.prog Tryz.f5 [] false w args ∧ laidMetH Tryz.prog Card.laid w) ∧ sizedMet enc Tryz.prog Tryz.f5 (OpenSpec.ofChange Rows.forestJoinsSpec) false w args)
      (Rows.forestJoinsSpec.post enc Tryz.prog Tryz.f5 false true false false) := by
  refine returnsInHanded_of_change_and (C := Tryz.checked) (X := fun w _ => laidMetH Tryz.prog Card.laid w) (fun _ _ _ hh h => h.of_heap hh) Card.own started (by kernel_rfl) Tryz.func5
    (ChangeSpec.witness_at (enc := enc) (C := Tryz.checked) (os := os) (X := fun w _ => laidMetH Tryz.prog Card.laid w) false (Card.laidWorld os) #[.slice none 0 0, .slice none 0 0, .bool false] 8 rfl (by kernel_rfl) (by kernel_rfl) (by kernel_rfl) (by kernel_rfl) (by kernel_rfl) (Card.laidWorld_met os _)) ?_
  intro W base args ds gs before hval0 hW _ _ hL _
  have hval : ∀ (j : Nat) t v, Tryz.f5.params[j]? = some t → args[j]? = some v → Value.okWide Tryz.prog W .any base t v := hval0
  have hW' := hW
  obtain ⟨p, q, hA0, hV, rfl, hfz, hnd⟩ := hW
  have hA : DataW.TrodAll enc Tryz.prog W 0 (fun _ => true) true Tryz.f5.params.toList args.toList ds p := hA0
  rw [Tryz.params5] at hA hval
  obtain ⟨v0, vs0, d0, ds0, p0, q0, hargs, rfl, rfl, h0, r0⟩ := trodAll_cons hA
  obtain ⟨v1, vs1, d1, ds1, p1, q1, rfl, rfl, rfl, h1, r1⟩ := trodAll_cons r0
  obtain ⟨v2, vs2, d2, ds2, p2, q2, rfl, rfl, rfl, h2, r2⟩ := trodAll_cons r1
  obtain ⟨rfl, rfl, rfl⟩ := trodAll_nil r2
  obtain rfl : args = #[v0, v1, v2] := by cases args; simp_all
  obtain ⟨rfl, rfl⟩ := trodVars_none hV
  have lt0 : ∀ x ∈ p0, x.block < W.heap.size := by obtain ⟨m, hm⟩ := h0; exact DataW.trod_lt m _ _ _ hm
  obtain ⟨e0, g0, k0⟩ := top_in t0 (hval 0 51 v0 rfl rfl) h0
  have lt1 : ∀ x ∈ p1, x.block < W.heap.size := by obtain ⟨m, hm⟩ := h1; exact DataW.trod_lt m _ _ _ hm
  obtain ⟨e1, g1, k1⟩ := top_in t1 (hval 1 51 v1 rfl rfl) h1
  have lt2 : ∀ x ∈ p2, x.block < W.heap.size := by obtain ⟨m, hm⟩ := h2; exact DataW.trod_lt m _ _ _ hm
  obtain ⟨e2, g2, k2⟩ := top_in t2 (hval 2 4 v2 rfl rfl) h2
  clear hA0 hval0
  refine (walk W (Card.tab_of hL) v0 e0 g0 k0 v1 e1 g1 k1 v2 e2 g2 k2).mono fun e W' ⟨he, bel⟩ => ?_
  subst he
  exact ⟨_, rfl, _, _, _, [], _, [], hW', trodAll_mk1 (shut_bool Tryz.underlying4 _), (trodAll_cons_mk (Below.trod Card.laidOut (by kernel_rfl) (of_decide_eq_true (by kernel_rfl)) h0 bel lt0) (trodAll_cons_mk (Below.trod Card.laidOut (by kernel_rfl) (of_decide_eq_true (by kernel_rfl)) h1 bel lt1) (trodAll_cons_mk (Below.trod Card.laidOut (by kernel_rfl) (of_decide_eq_true (by kernel_rfl)) h2 bel lt2) trodAll_mk0))), rfl, bel.frame _, fun h => by cases h⟩

theorem over : Rows.ForestJoinsSaid :=
  OpenClaim.holds_of_wide 5 Tryz.f5 rfl rfl rfl rfl rfl rfl rfl ⟨rfl, rfl, rfl, rfl, rfl⟩ rfl rfl rfl rfl rfl (by kernel_rfl) Tryz.func5 (by kernel_rfl)
    (of_decide_eq_true (by kernel_rfl)) (by unfold Func.isWrapper; first | (rw [if_pos (by decide +kernel)]; kernel_rfl) | (rw [if_neg (by decide +kernel)]; exact ⟨rfl, rfl⟩))
    (fun os started H enc _ => lifted os started H enc)

theorem proved : Rows.ForestJoinsCardSaid :=
  Claim7.holds_tied_plain_at .later [] [.data] true (true, "263f442805522f4d3089d455b962996f34063d3e812d1888192a163b34312ed3") false
    over (fun _ h => by cases h) (by kernel_rfl) (fun _ h => by cases h) forestJoins_row_tie rfl ⟨rfl, rfl⟩ (by kernel_rfl) rfl
    (fun f fn hf hfn => by
      obtain rfl : f = 5 := Option.some.inj ((show Tryz.prog.funcNamed Rows.forestJoinsRow.func = some 5 by kernel_rfl).symm.trans hf) |>.symm
      obtain rfl : fn = Tryz.f5 := (Option.some.inj (Tryz.func5.symm.trans hfn)).symm
      exact ⟨by kernel_rfl, fun j t ht => by
        rw [Tryz.params5] at ht
        have h3 : t = 51 ∨ t = 51 ∨ t = 4 := by
          have := List.mem_of_getElem? (l := [51, 51, 4]) (by simpa using ht)
          simpa using this
        rcases h3 with rfl | rfl | rfl
        · exact (show Tryz.prog.wantsStandIn 51 = false by kernel_rfl)
        · exact (show Tryz.prog.wantsStandIn 51 = false by kernel_rfl)
        · exact (show Tryz.prog.wantsStandIn 4 = false by kernel_rfl)⟩)
    (by kernel_rfl)

end Go.Proofs.YtlihikockhjodaaGreatDoor.forestJoins
