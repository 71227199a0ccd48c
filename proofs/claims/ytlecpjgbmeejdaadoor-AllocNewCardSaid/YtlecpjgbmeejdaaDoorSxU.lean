/- Sx: a law: the function returns true, and writes nothing that was there. -/
import Derived.Test.YtlecpjgbmeejdaaDoorSxT
import Derived.Below
namespace Go.Sx
open Go.RowKit
variable {P : Program}

/-- All that is there is read alone. -/
def roAll (w : World) : Nat → Option Obj := fun b => w.heap[b]?

theorem lawOk {f : Nat} {X : Type} {pre : X → Prop} {args : X → List AV} (h : SpecOk P f (specOf (pureC X pre args fun _ => .bool true))) (w : World) (hgl : hasTab P = true → ∃ cs T fr, cs.toList = tabCells ∧ w.heap[0]? = some (.cells cs T fr)) (x : X) (hx : pre x)
    (hfit : fitT (fitArg true [] []) (args x) (args x)) {vals : List Value} (hv : Ts (roAll w) noIds (args x) vals) : Calls P f vals.toArray w fun e w' => e = .returned (.bool true) ∧ Below w.heap.size w w' := by
  refine (h.ok { w with R := roAll w, pins := fun _ => none, nst := 0, ids0 := noIds } (fun _ => False) (roAll w) noIds (fun _ => none) [] w (args x) vals (fun av _ => av = .bool true) hgl hv ?_ ?_).mono ?_
  · exact ⟨rfl, rfl, rfl, Nat.le_refl _, fun b p hb => (by cases hb), fun _ _ _ => rfl, fun _ _ hb => hb, fun p it hp => (by simp at hp), fun _ _ => rfl, fun _ _ hb => hb, fun _ _ hb => hb, fun _ _ hb => (by cases hb), fun _ q _ => rfl⟩
  · exact ⟨x, ⟨hfit, rfl, trivial⟩, hx, fun _ _ => rfl⟩
  · rintro e w' ⟨v, rfl, av, H', R', ids', own', h1, h2, _, _, rfl⟩
    rw [h1.bool_inv]
    exact ⟨rfl, ⟨h2.os, h2.tape, h2.output, h2.size, fun k hk => h2.keep k hk (fun hf => hf)⟩⟩

/-- A slice of integers that came in. -/
theorem ints_in {w : World} {k : IntKind} {a : Option Addr} {len cap : Nat} {zs : List Int}
    (h : (a = none ∧ len = 0 ∧ cap = 0 ∧ zs = []) ∨ ∃ x, a = some x ∧ len ≤ cap ∧ cap ≤ maxLen ∧ zs.length = cap ∧ (∀ i, i < zs.length → w.cell? (x.add i) = some (.int k (zs.getD i 0))) ∧ ∀ n ∈ zs, (Lit.int k n).wf = true) :
    V (roAll w) noIds (.ro 1 len fun i => [.int k (zs.getD i 0)]) (.slice a len cap) := by
  rcases h with ⟨rfl, rfl, rfl, rfl⟩ | ⟨x, rfl, h1, h2, h3, h4, _⟩
  · exact .ro0 1 _ none 0 (Nat.zero_le _)
  · rcases Nat.eq_zero_or_pos len with rfl | hpos
    · exact .ro0 1 _ _ cap h2
    · have cell : ∀ (y : Addr) (u : Value), w.cell? y = some u → rcell (roAll w) y.block y.off = some u ∧ y.spot = none := fun y u hu => by
        unfold World.cell? at hu
        unfold rcell roAll
        cases hb : w.heap[y.block]? with
        | none => rw [hb] at hu; cases hu
        | some o =>
          rw [hb] at hu
          cases o with
          | cells c T fr =>
            simp only at hu ⊢
            by_cases hs : y.spot.isSome = true
            · rw [if_pos hs] at hu; cases hu
            · rw [if_neg hs] at hu
              exact ⟨hu, by simpa using hs⟩
          | _ => simp at hu
      obtain ⟨b, o, s⟩ := x
      have hs : s = none := by
        have := cell _ _ (h4 0 (by omega))
        simpa [Addr.add] using this.2
      subst hs
      have hc : ∀ i, i < len → rcell (roAll w) b (o + i) = some (.int k (zs.getD i 0)) := fun i hi => by
        have := (cell _ _ (h4 i (by omega))).1
        by_cases e : i = 0
        · subst e; simpa [Addr.add] using this
        · simpa [Addr.add, e] using this
      refine .ro 1 len _ b o cap (fun i => [.int k (zs.getD i 0)]) h1 h2 (fun _ _ => rfl) (fun i hi j hj => ?_) (fun i hi => .one _ _ _ _ rfl (.int _ _) .nil)
      obtain rfl : j = 0 := by omega
      simpa using hc i hi

theorem wf_i64 {n : Int} (h : (Lit.int .i64 n).wf = true) : I64 n := by
  simp only [Lit.wf, Bool.and_eq_true, decide_eq_true_eq] at h
  have e1 : IntKind.min .i64 = -9223372036854775808 := by decide
  have e2 : IntKind.max .i64 = 9223372036854775807 := by decide
  rw [e1, e2] at h; exact h
theorem wf_u64 {n : Int} (h : (Lit.int .u64 n).wf = true) : 0 ≤ n ∧ n < 18446744073709551616 := by
  simp only [Lit.wf, Bool.and_eq_true, decide_eq_true_eq] at h
  have e1 : IntKind.min .u64 = 0 := by decide
  have e2 : IntKind.max .u64 = 18446744073709551615 := by decide
  rw [e1, e2] at h; omega
theorem wf_u32 {n : Int} (h : (Lit.int .u32 n).wf = true) : 0 ≤ n ∧ n < 4294967296 := by
  simp only [Lit.wf, Bool.and_eq_true, decide_eq_true_eq] at h
  have e1 : IntKind.min .u32 = 0 := by decide
  have e2 : IntKind.max .u32 = 4294967295 := by decide
  rw [e1, e2] at h; omega
theorem wf_u8 {n : Int} (h : (Lit.int .u8 n).wf = true) : 0 ≤ n ∧ n < 256 := by
  simp only [Lit.wf, Bool.and_eq_true, decide_eq_true_eq] at h
  have e1 : IntKind.min .u8 = 0 := by decide
  have e2 : IntKind.max .u8 = 255 := by decide
  rw [e1, e2] at h; omega

end Go.Sx
