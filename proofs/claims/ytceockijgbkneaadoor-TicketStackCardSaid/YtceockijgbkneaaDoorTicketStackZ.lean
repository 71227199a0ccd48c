/- The law TicketStack returns true for every input, where the table math/bits.deBruijn64tab reads as the program text lays it: the tied card. No other condition. -/
import Derived.Test.YtceockijgbkneaaDoorRows
import Derived.Test.YtceockijgbkneaaDoorCards
import Derived.Test.YtceockijgbkneaaDoorTie
import Derived.Test.YtceockijgbkneaaDoorTicketStack
import Derived.Test.YtceockijgbkneaaDoorCardTab
import Derived.Test.YtceockijgbkneaaDoorSxY
import Derived.SevenTiedAt
import Derived.WalkKit
import Derived.ProofKit
import Derived.OpenShut
import Derived.ShutString
import Derived.ChangeOld
import Derived.Below
import Derived.Stop.Joined
namespace Go.Proofs.YtceockijgbkneaaDoor.ticketStack
open Go.ChangeShapes Go.WideShapes Go.ChangeAt Go.RowKit Go.Sx Yard
set_option linter.unusedVariables false
set_option linter.unusedSimpArgs false

def T0 : TT := .slice (.nat .u8)
theorem t0 : ttB Tryd.prog T0 50 = true := by kernel_rfl

theorem walk (w : World) (hgl : hasTab Tryd.prog = true → ∃ cs T fr, cs.toList = tabCells ∧ w.heap[0]? = some (.cells cs T fr)) (v0 : Value) (e0 : El T0) (g0 : wfT T0 e0) (k0 : V (roAll w) noIds (topT T0 e0) v0) :
    Calls Tryd.prog 5 #[v0] w fun e w' => e = .returned (.bool true) ∧ Below w.heap.size w w' :=
  lawOk (args := fun x => (Yard.ticketStackC.args x)) Yard.ticketStack_ok w hgl (e0) (⟨fun x hx => g0.2 x hx, Nat.le_trans g0.1 (by decide)⟩) ⟨fit_top T0 e0, trivial⟩ (vals := [v0]) (.cons _ _ _ _ k0 .nil)

set_option maxRecDepth 100000 in
theorem lifted (os : Os) (started : os.Started) (H : Type) (enc : TypeId × Value → H) :
    ReturnsInHanded {} Tryd.checked os 5 .any (fun w args => (Rows.ticketStackSpec.pre enc Tryd.prog Tryd.f5 [] false w args ∧ laidMetH Tryd.prog Card.laid w) ∧ sizedMet enc Tryd.prog Tryd.f5 (OpenSpec.ofChange Rows.ticketStackSpec) false w args)
      (Rows.ticketStackSpec.post enc Tryd.prog Tryd.f5 false true false false) := by
  refine returnsInHanded_of_change_and (C := Tryd.checked) (X := fun w _ => laidMetH Tryd.prog Card.laid w) (fun _ _ _ hh h => h.of_heap hh) Card.own started (by kernel_rfl) Tryd.func5
    (ChangeSpec.witness_at (enc := enc) (C := Tryd.checked) (os := os) (X := fun w _ => laidMetH Tryd.prog Card.laid w) false (Card.laidWorld os) #[.slice none 0 0] 8 rfl (by kernel_rfl) (by kernel_rfl) (by kernel_rfl) (by kernel_rfl) (by kernel_rfl) (Card.laidWorld_met os _)) ?_
  intro W base args ds gs before hval0 hW _ _ hL _
  have hval : ∀ (j : Nat) t v, Tryd.f5.params[j]? = some t → args[j]? = some v → Value.okWide Tryd.prog W .any base t v := hval0
  have hW' := hW
  obtain ⟨p, q, hA0, hV, rfl, hfz, hnd⟩ := hW
  have hA : DataW.TrodAll enc Tryd.prog W 0 (fun _ => true) true Tryd.f5.params.toList args.toList ds p := hA0
  rw [Tryd.params5] at hA hval
  obtain ⟨v0, vs0, d0, ds0, p0, q0, hargs, rfl, rfl, h0, r0⟩ := trodAll_cons hA
  obtain ⟨rfl, rfl, rfl⟩ := trodAll_nil r0
  obtain rfl : args = #[v0] := by cases args; simp_all
  obtain ⟨rfl, rfl⟩ := trodVars_none hV
  have lt0 : ∀ x ∈ p0, x.block < W.heap.size := by obtain ⟨m, hm⟩ := h0; exact DataW.trod_lt m _ _ _ hm
  obtain ⟨e0, g0, k0⟩ := top_in t0 (hval 0 50 v0 rfl rfl) h0
  clear hA0 hval0
  refine (walk W (Card.tab_of hL) v0 e0 g0 k0).mono fun e W' ⟨he, bel⟩ => ?_
  subst he
  exact ⟨_, rfl, _, _, _, [], _, [], hW', trodAll_mk1 (shut_bool Tryd.underlying4 _), (trodAll_cons_mk (Below.trod Card.laidOut (by kernel_rfl) (of_decide_eq_true (by kernel_rfl)) h0 bel lt0) trodAll_mk0), rfl, bel.frame _, fun h => by cases h⟩

theorem over : Rows.TicketStackSaid :=
  OpenClaim.holds_of_wide 5 Tryd.f5 rfl rfl rfl rfl rfl rfl rfl ⟨rfl, rfl, rfl, rfl, rfl⟩ rfl rfl rfl rfl rfl (by kernel_rfl) Tryd.func5 (by kernel_rfl)
    (of_decide_eq_true (by kernel_rfl)) (by unfold Func.isWrapper; first | (rw [if_pos (by decide +kernel)]; kernel_rfl) | (rw [if_neg (by decide +kernel)]; exact ⟨rfl, rfl⟩))
    (fun os started H enc _ => lifted os started H enc)

theorem proved : Rows.TicketStackCardSaid :=
  Claim7.holds_tied_plain_at .later [] [.data] true (true, "c8c0f125cd7a5894267361c097393b0b0bb20f38b359c2558b85fae09d7e0713") false
    over (fun _ h => by cases h) (by kernel_rfl) (fun _ h => by cases h) ticketStack_row_tie rfl ⟨rfl, rfl⟩ (by kernel_rfl) rfl
    (fun f fn hf hfn => by
      obtain rfl : f = 5 := Option.some.inj ((show Tryd.prog.funcNamed Rows.ticketStackRow.func = some 5 by kernel_rfl).symm.trans hf) |>.symm
      obtain rfl : fn = Tryd.f5 := (Option.some.inj (Tryd.func5.symm.trans hfn)).symm
      exact ⟨by kernel_rfl, fun j t ht => by
        rw [Tryd.params5] at ht
        have h3 : t = 50 := by
          have := List.mem_of_getElem? (l := [50]) (by simpa using ht)
          simpa using this
        subst h3; exact (show Tryd.prog.wantsStandIn 50 = false by kernel_rfl)⟩)
    (by kernel_rfl)

end Go.Proofs.YtceockijgbkneaaDoor.ticketStack
