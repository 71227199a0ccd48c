/- Sx: arguments that came in: arrays of integers, structs of three integers. -/
import Derived.Test.YtlecpjgbmeejdaaDoorSxU
import Derived.OpenShut
import Derived.WideShapes
import Derived.Lib.SmallJoins
namespace Go.Sx
open Go.RowKit Go.ChangeShapes Go.WideShapes Go.Joins Go.Deep
variable {P : Program} {w : World} {base : Nat} {spare : Nat → Bool} {held : Bool} {HH : Type} {enc : TypeId × Value → HH}

def intOf : Option Value → Int
  | some (.int _ m) => m
  | _ => 0

theorem array_in {t e n b0 : Nat} {k : IntKind} {r : Reach} {v : Value} {d : DataW HH} {p : List MemPlace} (ht : P.underlying t = some (.array n e)) (he : P.underlying e = some (.int k)) (hc : P.cellsOf e = 1) (hC : P.cellsOf t = n)
    (hv : Value.okWide P w r b0 t v) (h : DataW.Trod enc P w base spare held t v d p) :
    ∃ z : List Int, z.length = n ∧ (∀ x ∈ z, (Lit.int k x).wf = true) ∧ ∀ (R : Nat → Option Obj) (ids : Nat → Option Nat), V R ids (.agg [.arr 1 n fun i => [.int k (z.getD i 0)]]) v := by
  simp only [Value.okWide, ht] at hv
  obtain ⟨cs, rfl, hsz, _⟩ := hv
  obtain ⟨fuel, hf⟩ := h
  obtain ⟨xs, m, _, _, hlen, hxs, hall⟩ := DataW.trod_array ht hf
  have hcs : (Value.agg cs).cells.toList = cs.toList := by simp [Value.cells]
  rw [hcs, hC] at hlen
  have hel : ∀ i, i < n → ∃ y, cs.toList[i]? = some (.int k y) ∧ (Lit.int k y).wf = true := fun i hi => by
    have hi' : i < xs.length := by omega
    have := hall i hi
    rw [hcs, hc, Nat.mul_one, List.getElem?_eq_getElem hi'] at this
    obtain ⟨y, h1, _, h3⟩ := DataW.trod_int he this
    refine ⟨y, ?_, h3⟩
    have e0 : ((cs.toList.drop i).take 1)[0]? = some (.int k y) := by rw [h1]; rfl
    rwa [List.getElem?_take, if_pos (by omega), List.getElem?_drop, Nat.add_zero] at e0
  refine ⟨(List.range n).map fun i => intOf cs.toList[i]?, by simp, fun x hx => ?_, fun R ids => ?_⟩
  · obtain ⟨i, hi, rfl⟩ := List.mem_map.1 hx
    obtain ⟨y, h1, h2⟩ := hel i (List.mem_range.1 hi)
    rw [h1]; exact h2
  · have hz : ∀ i, i < n → ((List.range n).map fun i => intOf cs.toList[i]?).getD i 0 = intOf cs.toList[i]? := fun i hi => by
      rw [List.getD_eq_getElem?_getD, List.getElem?_map, List.getElem?_range hi]; rfl
    have hV : Vs R ids [.arr 1 n fun i => [.int k (((List.range n).map fun i => intOf cs.toList[i]?).getD i 0)]] (cs.toList ++ []) := by
      refine .arr 1 n _ (fun i => [.int k (intOf cs.toList[i]?)]) [] cs.toList [] (by simpa using hlen) (fun i hi => ?_) (fun i hi => ?_) .nil
      · obtain ⟨y, h1, _⟩ := hel i hi
        rw [Nat.mul_one]
        apply List.ext_getElem?
        intro j
        cases j with
        | zero => rw [List.getElem?_take, if_pos (by omega), List.getElem?_drop, Nat.add_zero, h1]; rfl
        | succ j => rw [List.getElem?_take, if_neg (by omega)]; rfl
      · rw [hz i hi]
        exact .one _ _ _ _ rfl (.int _ _) .nil
    rw [List.append_nil] at hV
    have := V.agg _ _ hV
    simpa using this

theorem three_in {t b0 : Nat} {f0 f1 f2 : Field} {k0 k1 k2 : IntKind} {r : Reach} {v : Value} {d : DataW HH} {p : List MemPlace} (hs : P.underlying t = some (.struct #[f0, f1, f2])) (hone : oneCellFields P #[f0, f1, f2] = true) (hC : P.cellsOf t = 3)
    (h0 : P.underlying f0.type = some (.int k0)) (h1 : P.underlying f1.type = some (.int k1)) (h2 : P.underlying f2.type = some (.int k2)) (hv : Value.okWide P w r b0 t v) (h : DataW.Trod enc P w base spare held t v d p) :
    ∃ a b c : Int, v = .agg #[.int k0 a, .int k1 b, .int k2 c] ∧ (Lit.int k0 a).wf = true ∧ (Lit.int k1 b).wf = true ∧ (Lit.int k2 c).wf = true := by
  obtain ⟨v0, v1, v2, y0, y1, y2, n, rfl, _, _, g0, g1, g2⟩ := open_agg3 hs hone hC hv h
  obtain ⟨a, ea, _, ha⟩ := DataW.trod_int h0 g0
  obtain ⟨b, eb, _, hb⟩ := DataW.trod_int h1 g1
  obtain ⟨c, ec, _, hc⟩ := DataW.trod_int h2 g2
  cases ea; cases eb; cases ec
  exact ⟨a, b, c, rfl, ha, hb, hc⟩

end Go.Sx
