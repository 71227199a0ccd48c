/-
  No cell of these rows narrows 'for every input' (looked for: loops, veiled, ifaces, maps, wideKeys, modest, calm, conditions, laid).
  DERIVED. THE GIVEN ROWS OF THIS SEAT. 15 by the template 'for every input the law returns true; each argument reads behind the call as it read before'; 0 by the template 'total and deterministic' (their statements: YtoajfhpiepkjkaaTotals.lean).
  GIVEN WITH THE SEED: the statements are not yours to turn. If you find one false, say at which input.
  Laid BY PROGRAM, IN A SANDBOX (cutbox-rows.mjs): the forced cells as the released guide's own fill.sh prints them over the translation 4c769d94f126f3f9… (all of the seat's roots in one cut). By AI agents, Wed Nov 11 2026. No macro, syntax, notation, axiom, sorry.
-/
import Derived.Test.YtoajfhpiepkjkaaChecked
import GoSem.Claim
import GoSem.ClaimJoined
import GoSem.ClaimMapViews
import Derived.JoinedTies
import Derived.KernelRfl
namespace Go.Proofs.Ytoajfhpiepkjkaa
/- THE CELL 'sum', in the pinned program and in every row, IS THE sha256 OF THE DUMP (.gsa) THAT YtoajfhpiepkjkaaProg.lean LOADS. Nothing in Lean hashes anything: it is a label: what it is worth is what the hold of that sum in a sandbox is worth. -/
noncomputable def Try.pinned : Pinned := { name := "ytoajfhpiepkjkaa", sum := "4c769d94f126f3f91167963bc3fcad8e07c701fd92d8f6ea93dfc67a76fd51dc", checked := Try.checked }
namespace Rows
def none {H : Type} : Left H := { results := [], args := [] }

/-- 'rickyardlaw02.CrcTables': WHATEVER THE INPUT: true; the input reads as it did. -/
def crcTablesSpec : ChangeSpec := { name := "crcTables", fn := fun _ => fun
  | [d] => { results := [.lit (.bool true)], args := [d] }
  | _ => none }
def crcTablesRow : OpenClaim := { program := "ytoajfhpiepkjkaa", sum := "4c769d94f126f3f91167963bc3fcad8e07c701fd92d8f6ea93dfc67a76fd51dc", func := "rickyard/rickyardlaw02.CrcTables", spec := "crcTables", apart := false }
def CrcTablesSaid : Prop := crcTablesRow.holds Try.pinned (OpenSpec.ofChange crcTablesSpec)

/-- ITS FALSE NEIGHBOUR: 'it returns false'. Refute it at one input. -/
def crcTablesWrong : ChangeSpec := { name := "crcTables", fn := fun _ => fun
  | [d] => { results := [.lit (.bool false)], args := [d] }
  | _ => none }
def CrcTablesWrongFalsely : Prop := crcTablesRow.holds Try.pinned (OpenSpec.ofChange crcTablesWrong)

/-- 'rickyardlaw02.CrcLinear': WHATEVER THE INPUT: true; the input reads as it did. -/
def crcLinearSpec : ChangeSpec := { name := "crcLinear", fn := fun _ => fun
  | [d1, d2, d3] => { results := [.lit (.bool true)], args := [d1, d2, d3] }
  | _ => none }
def crcLinearRow : OpenClaim := { program := "ytoajfhpiepkjkaa", sum := "4c769d94f126f3f91167963bc3fcad8e07c701fd92d8f6ea93dfc67a76fd51dc", func := "rickyard/rickyardlaw02.CrcLinear", spec := "crcLinear", apart := false }
def CrcLinearSaid : Prop := crcLinearRow.holds Try.pinned (OpenSpec.ofChange crcLinearSpec)

/-- ITS FALSE NEIGHBOUR: 'it returns false'. Refute it at one input. -/
def crcLinearWrong : ChangeSpec := { name := "crcLinear", fn := fun _ => fun
  | [d1, d2, d3] => { results := [.lit (.bool false)], args := [d1, d2, d3] }
  | _ => none }
def CrcLinearWrongFalsely : Prop := crcLinearRow.holds Try.pinned (OpenSpec.ofChange crcLinearWrong)

/-- 'rickyardlaw02.CrcBursts': WHATEVER THE INPUT: true; the input reads as it did. -/
def crcBurstsSpec : ChangeSpec := { name := "crcBursts", fn := fun _ => fun
  | [d1, d2, d3] => { results := [.lit (.bool true)], args := [d1, d2, d3] }
  | _ => none }
def crcBurstsRow : OpenClaim := { program := "ytoajfhpiepkjkaa", sum := "4c769d94f126f3f91167963bc3fcad8e07c701fd92d8f6ea93dfc67a76fd51dc", func := "rickyard/rickyardlaw02.CrcBursts", spec := "crcBursts", apart := false }
def CrcBurstsSaid : Prop := crcBurstsRow.holds Try.pinned (OpenSpec.ofChange crcBurstsSpec)

/-- ITS FALSE NEIGHBOUR: 'it returns false'. Refute it at one input. -/
def crcBurstsWrong : ChangeSpec := { name := "crcBursts", fn := fun _ => fun
  | [d1, d2, d3] => { results := [.lit (.bool false)], args := [d1, d2, d3] }
  | _ => none }
def CrcBurstsWrongFalsely : Prop := crcBurstsRow.holds Try.pinned (OpenSpec.ofChange crcBurstsWrong)

/-- 'rickyardlaw02.CrcSums': WHATEVER THE INPUT: true; the input reads as it did. -/
def crcSumsSpec : ChangeSpec := { name := "crcSums", fn := fun _ => fun
  | [d] => { results := [.lit (.bool true)], args := [d] }
  | _ => none }
def crcSumsRow : OpenClaim := { program := "ytoajfhpiepkjkaa", sum := "4c769d94f126f3f91167963bc3fcad8e07c701fd92d8f6ea93dfc67a76fd51dc", func := "rickyard/rickyardlaw02.CrcSums", spec := "crcSums", apart := false }
def CrcSumsSaid : Prop := crcSumsRow.holds Try.pinned (OpenSpec.ofChange crcSumsSpec)

/-- ITS FALSE NEIGHBOUR: 'it returns false'. Refute it at one input. -/
def crcSumsWrong : ChangeSpec := { name := "crcSums", fn := fun _ => fun
  | [d] => { results := [.lit (.bool false)], args := [d] }
  | _ => none }
def CrcSumsWrongFalsely : Prop := crcSumsRow.holds Try.pinned (OpenSpec.ofChange crcSumsWrong)

/-- 'rickyardlaw01.OctetLays': WHATEVER THE INPUT: true; the input reads as it did. -/
def octetLaysSpec : ChangeSpec := { name := "octetLays", fn := fun _ => fun
  | [d1, d2, d3] => { results := [.lit (.bool true)], args := [d1, d2, d3] }
  | _ => none }
def octetLaysRow : OpenClaim := { program := "ytoajfhpiepkjkaa", sum := "4c769d94f126f3f91167963bc3fcad8e07c701fd92d8f6ea93dfc67a76fd51dc", func := "rickyard/rickyardlaw01.OctetLays", spec := "octetLays", apart := false }
def OctetLaysSaid : Prop := octetLaysRow.holds Try.pinned (OpenSpec.ofChange octetLaysSpec)

/-- ITS FALSE NEIGHBOUR: 'it returns false'. Refute it at one input. -/
def octetLaysWrong : ChangeSpec := { name := "octetLays", fn := fun _ => fun
  | [d1, d2, d3] => { results := [.lit (.bool false)], args := [d1, d2, d3] }
  | _ => none }
def OctetLaysWrongFalsely : Prop := octetLaysRow.holds Try.pinned (OpenSpec.ofChange octetLaysWrong)

/-- 'rickyardlaw02.CrcMore': WHATEVER THE INPUT: true; the input reads as it did. -/
def crcMoreSpec : ChangeSpec := { name := "crcMore", fn := fun _ => fun
  | [d1, d2, d3] => { results := [.lit (.bool true)], args := [d1, d2, d3] }
  | _ => none }
def crcMoreRow : OpenClaim := { program := "ytoajfhpiepkjkaa", sum := "4c769d94f126f3f91167963bc3fcad8e07c701fd92d8f6ea93dfc67a76fd51dc", func := "rickyard/rickyardlaw02.CrcMore", spec := "crcMore", apart := false }
def CrcMoreSaid : Prop := crcMoreRow.holds Try.pinned (OpenSpec.ofChange crcMoreSpec)

/-- ITS FALSE NEIGHBOUR: 'it returns false'. Refute it at one input. -/
def crcMoreWrong : ChangeSpec := { name := "crcMore", fn := fun _ => fun
  | [d1, d2, d3] => { results := [.lit (.bool false)], args := [d1, d2, d3] }
  | _ => none }
def CrcMoreWrongFalsely : Prop := crcMoreRow.holds Try.pinned (OpenSpec.ofChange crcMoreWrong)

/-- 'rickyardlaw02.CrcJoins': WHATEVER THE INPUT: true; the input reads as it did. -/
def crcJoinsSpec : ChangeSpec := { name := "crcJoins", fn := fun _ => fun
  | [d1, d2] => { results := [.lit (.bool true)], args := [d1, d2] }
  | _ => none }
def crcJoinsRow : OpenClaim := { program := "ytoajfhpiepkjkaa", sum := "4c769d94f126f3f91167963bc3fcad8e07c701fd92d8f6ea93dfc67a76fd51dc", func := "rickyard/rickyardlaw02.CrcJoins", spec := "crcJoins", apart := false }
def CrcJoinsSaid : Prop := crcJoinsRow.holds Try.pinned (OpenSpec.ofChange crcJoinsSpec)

/-- ITS FALSE NEIGHBOUR: 'it returns false'. Refute it at one input. -/
def crcJoinsWrong : ChangeSpec := { name := "crcJoins", fn := fun _ => fun
  | [d1, d2] => { results := [.lit (.bool false)], args := [d1, d2] }
  | _ => none }
def CrcJoinsWrongFalsely : Prop := crcJoinsRow.holds Try.pinned (OpenSpec.ofChange crcJoinsWrong)

/-- 'rickyardlaw12.GeomRights': WHATEVER THE INPUT: true; the input reads as it did. -/
def geomRightsSpec : ChangeSpec := { name := "geomRights", fn := fun _ => fun
  | [d] => { results := [.lit (.bool true)], args := [d] }
  | _ => none }
def geomRightsRow : OpenClaim := { program := "ytoajfhpiepkjkaa", sum := "4c769d94f126f3f91167963bc3fcad8e07c701fd92d8f6ea93dfc67a76fd51dc", func := "rickyard/rickyardlaw12.GeomRights", spec := "geomRights", apart := false }
def GeomRightsSaid : Prop := geomRightsRow.holds Try.pinned (OpenSpec.ofChange geomRightsSpec)

/-- ITS FALSE NEIGHBOUR: 'it returns false'. Refute it at one input. -/
def geomRightsWrong : ChangeSpec := { name := "geomRights", fn := fun _ => fun
  | [d] => { results := [.lit (.bool false)], args := [d] }
  | _ => none }
def GeomRightsWrongFalsely : Prop := geomRightsRow.holds Try.pinned (OpenSpec.ofChange geomRightsWrong)

/-- 'rickyardlaw12.GeomSlots': WHATEVER THE INPUT: true; the input reads as it did. -/
def geomSlotsSpec : ChangeSpec := { name := "geomSlots", fn := fun _ => fun
  | [d1, d2] => { results := [.lit (.bool true)], args := [d1, d2] }
  | _ => none }
def geomSlotsRow : OpenClaim := { program := "ytoajfhpiepkjkaa", sum := "4c769d94f126f3f91167963bc3fcad8e07c701fd92d8f6ea93dfc67a76fd51dc", func := "rickyard/rickyardlaw12.GeomSlots", spec := "geomSlots", apart := false }
def GeomSlotsSaid : Prop := geomSlotsRow.holds Try.pinned (OpenSpec.ofChange geomSlotsSpec)

/-- ITS FALSE NEIGHBOUR: 'it returns false'. Refute it at one input. -/
def geomSlotsWrong : ChangeSpec := { name := "geomSlots", fn := fun _ => fun
  | [d1, d2] => { results := [.lit (.bool false)], args := [d1, d2] }
  | _ => none }
def GeomSlotsWrongFalsely : Prop := geomSlotsRow.holds Try.pinned (OpenSpec.ofChange geomSlotsWrong)

/-- 'rickyardlaw12.GeomPlaces': WHATEVER THE INPUT: true; the input reads as it did. -/
def geomPlacesSpec : ChangeSpec := { name := "geomPlaces", fn := fun _ => fun
  | [d] => { results := [.lit (.bool true)], args := [d] }
  | _ => none }
def geomPlacesRow : OpenClaim := { program := "ytoajfhpiepkjkaa", sum := "4c769d94f126f3f91167963bc3fcad8e07c701fd92d8f6ea93dfc67a76fd51dc", func := "rickyard/rickyardlaw12.GeomPlaces", spec := "geomPlaces", apart := false }
def GeomPlacesSaid : Prop := geomPlacesRow.holds Try.pinned (OpenSpec.ofChange geomPlacesSpec)

/-- ITS FALSE NEIGHBOUR: 'it returns false'. Refute it at one input. -/
def geomPlacesWrong : ChangeSpec := { name := "geomPlaces", fn := fun _ => fun
  | [d] => { results := [.lit (.bool false)], args := [d] }
  | _ => none }
def GeomPlacesWrongFalsely : Prop := geomPlacesRow.holds Try.pinned (OpenSpec.ofChange geomPlacesWrong)

/-- 'rickyardlaw12.GeomBounds': WHATEVER THE INPUT: true; the input reads as it did. -/
def geomBoundsSpec : ChangeSpec := { name := "geomBounds", fn := fun _ => fun
  | [d1, d2] => { results := [.lit (.bool true)], args := [d1, d2] }
  | _ => none }
def geomBoundsRow : OpenClaim := { program := "ytoajfhpiepkjkaa", sum := "4c769d94f126f3f91167963bc3fcad8e07c701fd92d8f6ea93dfc67a76fd51dc", func := "rickyard/rickyardlaw12.GeomBounds", spec := "geomBounds", apart := false }
def GeomBoundsSaid : Prop := geomBoundsRow.holds Try.pinned (OpenSpec.ofChange geomBoundsSpec)

/-- ITS FALSE NEIGHBOUR: 'it returns false'. Refute it at one input. -/
def geomBoundsWrong : ChangeSpec := { name := "geomBounds", fn := fun _ => fun
  | [d1, d2] => { results := [.lit (.bool false)], args := [d1, d2] }
  | _ => none }
def GeomBoundsWrongFalsely : Prop := geomBoundsRow.holds Try.pinned (OpenSpec.ofChange geomBoundsWrong)

/-- 'rickyardlaw01.OctetWords': WHATEVER THE INPUT: true; the input reads as it did. -/
def octetWordsSpec : ChangeSpec := { name := "octetWords", fn := fun _ => fun
  | [d1, d2] => { results := [.lit (.bool true)], args := [d1, d2] }
  | _ => none }
def octetWordsRow : OpenClaim := { program := "ytoajfhpiepkjkaa", sum := "4c769d94f126f3f91167963bc3fcad8e07c701fd92d8f6ea93dfc67a76fd51dc", func := "rickyard/rickyardlaw01.OctetWords", spec := "octetWords", apart := false }
def OctetWordsSaid : Prop := octetWordsRow.holds Try.pinned (OpenSpec.ofChange octetWordsSpec)

/-- ITS FALSE NEIGHBOUR: 'it returns false'. Refute it at one input. -/
def octetWordsWrong : ChangeSpec := { name := "octetWords", fn := fun _ => fun
  | [d1, d2] => { results := [.lit (.bool false)], args := [d1, d2] }
  | _ => none }
def OctetWordsWrongFalsely : Prop := octetWordsRow.holds Try.pinned (OpenSpec.ofChange octetWordsWrong)

/-- 'rickyardlaw01.OctetPuts': WHATEVER THE INPUT: true; the input reads as it did. -/
def octetPutsSpec : ChangeSpec := { name := "octetPuts", fn := fun _ => fun
  | [d1, d2, d3] => { results := [.lit (.bool true)], args := [d1, d2, d3] }
  | _ => none }
def octetPutsRow : OpenClaim := { program := "ytoajfhpiepkjkaa", sum := "4c769d94f126f3f91167963bc3fcad8e07c701fd92d8f6ea93dfc67a76fd51dc", func := "rickyard/rickyardlaw01.OctetPuts", spec := "octetPuts", apart := false }
def OctetPutsSaid : Prop := octetPutsRow.holds Try.pinned (OpenSpec.ofChange octetPutsSpec)

/-- ITS FALSE NEIGHBOUR: 'it returns false'. Refute it at one input. -/
def octetPutsWrong : ChangeSpec := { name := "octetPuts", fn := fun _ => fun
  | [d1, d2, d3] => { results := [.lit (.bool false)], args := [d1, d2, d3] }
  | _ => none }
def OctetPutsWrongFalsely : Prop := octetPutsRow.holds Try.pinned (OpenSpec.ofChange octetPutsWrong)

/-- 'rickyardlaw01.OctetTwice': WHATEVER THE INPUT: true; the input reads as it did. -/
def octetTwiceSpec : ChangeSpec := { name := "octetTwice", fn := fun _ => fun
  | [d1, d2, d3] => { results := [.lit (.bool true)], args := [d1, d2, d3] }
  | _ => none }
def octetTwiceRow : OpenClaim := { program := "ytoajfhpiepkjkaa", sum := "4c769d94f126f3f91167963bc3fcad8e07c701fd92d8f6ea93dfc67a76fd51dc", func := "rickyard/rickyardlaw01.OctetTwice", spec := "octetTwice", apart := false }
def OctetTwiceSaid : Prop := octetTwiceRow.holds Try.pinned (OpenSpec.ofChange octetTwiceSpec)

/-- ITS FALSE NEIGHBOUR: 'it returns false'. Refute it at one input. -/
def octetTwiceWrong : ChangeSpec := { name := "octetTwice", fn := fun _ => fun
  | [d1, d2, d3] => { results := [.lit (.bool false)], args := [d1, d2, d3] }
  | _ => none }
def OctetTwiceWrongFalsely : Prop := octetTwiceRow.holds Try.pinned (OpenSpec.ofChange octetTwiceWrong)

/-- 'rickyardlaw01.OctetNoughts': WHATEVER THE INPUT: true; the input reads as it did. -/
def octetNoughtsSpec : ChangeSpec := { name := "octetNoughts", fn := fun _ => fun
  | [d1, d2, d3] => { results := [.lit (.bool true)], args := [d1, d2, d3] }
  | _ => none }
def octetNoughtsRow : OpenClaim := { program := "ytoajfhpiepkjkaa", sum := "4c769d94f126f3f91167963bc3fcad8e07c701fd92d8f6ea93dfc67a76fd51dc", func := "rickyard/rickyardlaw01.OctetNoughts", spec := "octetNoughts", apart := false }
def OctetNoughtsSaid : Prop := octetNoughtsRow.holds Try.pinned (OpenSpec.ofChange octetNoughtsSpec)

/-- ITS FALSE NEIGHBOUR: 'it returns false'. Refute it at one input. -/
def octetNoughtsWrong : ChangeSpec := { name := "octetNoughts", fn := fun _ => fun
  | [d1, d2, d3] => { results := [.lit (.bool false)], args := [d1, d2, d3] }
  | _ => none }
def OctetNoughtsWrongFalsely : Prop := octetNoughtsRow.holds Try.pinned (OpenSpec.ofChange octetNoughtsWrong)

/- THE SECOND FORM. 'bulk': how many values and letters a reading holds, each counted each time it is reached (what is shared counts as often as it is met; a slice's spare places count too). A statement '..UptoSaid' is the law's where the arguments, and the package variables that the reading takes, are together of bulk at most 1048576: NARROWER than '..Said'. Prove '..Said' where nothing that the law and all that it calls make is longer than what came in: it says more and counts as full. Else prove '..UptoSaid'. A law counts once. -/
mutual
def uptoBulk {H : Type} : DataW H → Nat
  | .lit (.string bytes) => bytes.length + 1
  | .lit _ => 1
  | .nil => 1
  | .ptr d => uptoBulk d + 1
  | .slice elems spare => uptoBulkAll elems + uptoBulkAll spare + 1
  | .agg parts => uptoBulkAll parts + 1
  | .iface _ d => uptoBulk d + 1
  | .map entries => uptoBulkEntries entries + 1
  | .held _ => 1
def uptoBulkAll {H : Type} : List (DataW H) → Nat
  | [] => 0
  | d :: r => uptoBulk d + uptoBulkAll r
def uptoBulkEntries {H : Type} : List (Lit × DataW H) → Nat
  | [] => 0
  | x :: r => uptoBulkEntry x + uptoBulkEntries r
def uptoBulkEntry {H : Type} : Lit × DataW H → Nat
  | (.string bytes, d) => bytes.length + uptoBulk d + 1
  | (_, d) => uptoBulk d + 1
 end
def uptoSmall : (H : Type) → List (DataW H) → Bool := fun _ ds => decide (uptoBulkAll ds ≤ 1048576)
def OpenSpec.upto (s : _root_.Go.ChangeSpec) : _root_.Go.OpenSpec := { _root_.Go.OpenSpec.ofChange s with cond := some uptoSmall }

/-- 'rickyardlaw02.CrcTables', WHERE WHAT IT READS IS OF BULK AT MOST 1048576: true; the input reads as it did. -/
def crcTablesUptoRow : OpenClaim := { program := "ytoajfhpiepkjkaa", sum := "4c769d94f126f3f91167963bc3fcad8e07c701fd92d8f6ea93dfc67a76fd51dc", func := "rickyard/rickyardlaw02.CrcTables", spec := "crcTables", apart := false, narrowed := true }
def CrcTablesUptoSaid : Prop := crcTablesUptoRow.holds Try.pinned (OpenSpec.upto crcTablesSpec)

/-- 'rickyardlaw02.CrcLinear', WHERE WHAT IT READS IS OF BULK AT MOST 1048576: true; the input reads as it did. -/
def crcLinearUptoRow : OpenClaim := { program := "ytoajfhpiepkjkaa", sum := "4c769d94f126f3f91167963bc3fcad8e07c701fd92d8f6ea93dfc67a76fd51dc", func := "rickyard/rickyardlaw02.CrcLinear", spec := "crcLinear", apart := false, narrowed := true }
def CrcLinearUptoSaid : Prop := crcLinearUptoRow.holds Try.pinned (OpenSpec.upto crcLinearSpec)

/-- 'rickyardlaw02.CrcBursts', WHERE WHAT IT READS IS OF BULK AT MOST 1048576: true; the input reads as it did. -/
def crcBurstsUptoRow : OpenClaim := { program := "ytoajfhpiepkjkaa", sum := "4c769d94f126f3f91167963bc3fcad8e07c701fd92d8f6ea93dfc67a76fd51dc", func := "rickyard/rickyardlaw02.CrcBursts", spec := "crcBursts", apart := false, narrowed := true }
def CrcBurstsUptoSaid : Prop := crcBurstsUptoRow.holds Try.pinned (OpenSpec.upto crcBurstsSpec)

/-- 'rickyardlaw02.CrcSums', WHERE WHAT IT READS IS OF BULK AT MOST 1048576: true; the input reads as it did. -/
def crcSumsUptoRow : OpenClaim := { program := "ytoajfhpiepkjkaa", sum := "4c769d94f126f3f91167963bc3fcad8e07c701fd92d8f6ea93dfc67a76fd51dc", func := "rickyard/rickyardlaw02.CrcSums", spec := "crcSums", apart := false, narrowed := true }
def CrcSumsUptoSaid : Prop := crcSumsUptoRow.holds Try.pinned (OpenSpec.upto crcSumsSpec)

/-- 'rickyardlaw01.OctetLays', WHERE WHAT IT READS IS OF BULK AT MOST 1048576: true; the input reads as it did. -/
def octetLaysUptoRow : OpenClaim := { program := "ytoajfhpiepkjkaa", sum := "4c769d94f126f3f91167963bc3fcad8e07c701fd92d8f6ea93dfc67a76fd51dc", func := "rickyard/rickyardlaw01.OctetLays", spec := "octetLays", apart := false, narrowed := true }
def OctetLaysUptoSaid : Prop := octetLaysUptoRow.holds Try.pinned (OpenSpec.upto octetLaysSpec)

/-- 'rickyardlaw02.CrcMore', WHERE WHAT IT READS IS OF BULK AT MOST 1048576: true; the input reads as it did. -/
def crcMoreUptoRow : OpenClaim := { program := "ytoajfhpiepkjkaa", sum := "4c769d94f126f3f91167963bc3fcad8e07c701fd92d8f6ea93dfc67a76fd51dc", func := "rickyard/rickyardlaw02.CrcMore", spec := "crcMore", apart := false, narrowed := true }
def CrcMoreUptoSaid : Prop := crcMoreUptoRow.holds Try.pinned (OpenSpec.upto crcMoreSpec)

/-- 'rickyardlaw02.CrcJoins', WHERE WHAT IT READS IS OF BULK AT MOST 1048576: true; the input reads as it did. -/
def crcJoinsUptoRow : OpenClaim := { program := "ytoajfhpiepkjkaa", sum := "4c769d94f126f3f91167963bc3fcad8e07c701fd92d8f6ea93dfc67a76fd51dc", func := "rickyard/rickyardlaw02.CrcJoins", spec := "crcJoins", apart := false, narrowed := true }
def CrcJoinsUptoSaid : Prop := crcJoinsUptoRow.holds Try.pinned (OpenSpec.upto crcJoinsSpec)

/-- 'rickyardlaw12.GeomRights', WHERE WHAT IT READS IS OF BULK AT MOST 1048576: true; the input reads as it did. -/
def geomRightsUptoRow : OpenClaim := { program := "ytoajfhpiepkjkaa", sum := "4c769d94f126f3f91167963bc3fcad8e07c701fd92d8f6ea93dfc67a76fd51dc", func := "rickyard/rickyardlaw12.GeomRights", spec := "geomRights", apart := false, narrowed := true }
def GeomRightsUptoSaid : Prop := geomRightsUptoRow.holds Try.pinned (OpenSpec.upto geomRightsSpec)

/-- 'rickyardlaw12.GeomSlots', WHERE WHAT IT READS IS OF BULK AT MOST 1048576: true; the input reads as it did. -/
def geomSlotsUptoRow : OpenClaim := { program := "ytoajfhpiepkjkaa", sum := "4c769d94f126f3f91167963bc3fcad8e07c701fd92d8f6ea93dfc67a76fd51dc", func := "rickyard/rickyardlaw12.GeomSlots", spec := "geomSlots", apart := false, narrowed := true }
def GeomSlotsUptoSaid : Prop := geomSlotsUptoRow.holds Try.pinned (OpenSpec.upto geomSlotsSpec)

/-- 'rickyardlaw12.GeomPlaces', WHERE WHAT IT READS IS OF BULK AT MOST 1048576: true; the input reads as it did. -/
def geomPlacesUptoRow : OpenClaim := { program := "ytoajfhpiepkjkaa", sum := "4c769d94f126f3f91167963bc3fcad8e07c701fd92d8f6ea93dfc67a76fd51dc", func := "rickyard/rickyardlaw12.GeomPlaces", spec := "geomPlaces", apart := false, narrowed := true }
def GeomPlacesUptoSaid : Prop := geomPlacesUptoRow.holds Try.pinned (OpenSpec.upto geomPlacesSpec)

/-- 'rickyardlaw12.GeomBounds', WHERE WHAT IT READS IS OF BULK AT MOST 1048576: true; the input reads as it did. -/
def geomBoundsUptoRow : OpenClaim := { program := "ytoajfhpiepkjkaa", sum := "4c769d94f126f3f91167963bc3fcad8e07c701fd92d8f6ea93dfc67a76fd51dc", func := "rickyard/rickyardlaw12.GeomBounds", spec := "geomBounds", apart := false, narrowed := true }
def GeomBoundsUptoSaid : Prop := geomBoundsUptoRow.holds Try.pinned (OpenSpec.upto geomBoundsSpec)

/-- 'rickyardlaw01.OctetWords', WHERE WHAT IT READS IS OF BULK AT MOST 1048576: true; the input reads as it did. -/
def octetWordsUptoRow : OpenClaim := { program := "ytoajfhpiepkjkaa", sum := "4c769d94f126f3f91167963bc3fcad8e07c701fd92d8f6ea93dfc67a76fd51dc", func := "rickyard/rickyardlaw01.OctetWords", spec := "octetWords", apart := false, narrowed := true }
def OctetWordsUptoSaid : Prop := octetWordsUptoRow.holds Try.pinned (OpenSpec.upto octetWordsSpec)

/-- 'rickyardlaw01.OctetPuts', WHERE WHAT IT READS IS OF BULK AT MOST 1048576: true; the input reads as it did. -/
def octetPutsUptoRow : OpenClaim := { program := "ytoajfhpiepkjkaa", sum := "4c769d94f126f3f91167963bc3fcad8e07c701fd92d8f6ea93dfc67a76fd51dc", func := "rickyard/rickyardlaw01.OctetPuts", spec := "octetPuts", apart := false, narrowed := true }
def OctetPutsUptoSaid : Prop := octetPutsUptoRow.holds Try.pinned (OpenSpec.upto octetPutsSpec)

/-- 'rickyardlaw01.OctetTwice', WHERE WHAT IT READS IS OF BULK AT MOST 1048576: true; the input reads as it did. -/
def octetTwiceUptoRow : OpenClaim := { program := "ytoajfhpiepkjkaa", sum := "4c769d94f126f3f91167963bc3fcad8e07c701fd92d8f6ea93dfc67a76fd51dc", func := "rickyard/rickyardlaw01.OctetTwice", spec := "octetTwice", apart := false, narrowed := true }
def OctetTwiceUptoSaid : Prop := octetTwiceUptoRow.holds Try.pinned (OpenSpec.upto octetTwiceSpec)

/-- 'rickyardlaw01.OctetNoughts', WHERE WHAT IT READS IS OF BULK AT MOST 1048576: true; the input reads as it did. -/
def octetNoughtsUptoRow : OpenClaim := { program := "ytoajfhpiepkjkaa", sum := "4c769d94f126f3f91167963bc3fcad8e07c701fd92d8f6ea93dfc67a76fd51dc", func := "rickyard/rickyardlaw01.OctetNoughts", spec := "octetNoughts", apart := false, narrowed := true }
def OctetNoughtsUptoSaid : Prop := octetNoughtsUptoRow.holds Try.pinned (OpenSpec.upto octetNoughtsSpec)

end Rows
end Go.Proofs.Ytoajfhpiepkjkaa
