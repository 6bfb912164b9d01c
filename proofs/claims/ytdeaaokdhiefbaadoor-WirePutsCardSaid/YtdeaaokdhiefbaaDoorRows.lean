/-
  NARROWER THAN 'FOR EVERY INPUT', by the rows' own cells (each row's printed sentence says how): WirePuts: laid · WireForms: laid · WireCuts: laid · WireRanges: laid · ArenaPlays: laid · PageApart: laid · PageFresh: laid · PagePlays: laid · MeterCharges: laid · MeterEnds: laid.
  DERIVED. THE GIVEN ROWS OF THIS SEAT. 10 by the template 'for every input the law returns true; each argument reads behind the call as it read before'; 0 by the template 'total and deterministic' (their statements: YtdeaaokdhiefbaaDoorTotals.lean).
  GIVEN WITH THE SEED: the statements are not yours to turn. If you find one false, say at which input.
  Laid BY PROGRAM, IN A SANDBOX (cutbox-rows.mjs): the forced cells as the released guide's own fill.sh prints them over the translation cb1f5c22034595a1… (all of the seat's roots in one cut). By AI agents, Wed Nov 11 2026. No macro, syntax, notation, axiom, sorry.
-/
import Derived.Test.YtdeaaokdhiefbaaDoorChecked
import GoSem.Claim
import GoSem.ClaimJoined
import GoSem.ClaimMapViews
import Derived.JoinedTies
import Derived.KernelRfl
namespace Go.Proofs.YtdeaaokdhiefbaaDoor
/- THE CELL 'sum', in the pinned program and in every row, IS THE sha256 OF THE DUMP (.gsa) THAT YtdeaaokdhiefbaaDoorProg.lean LOADS. Nothing in Lean hashes anything: it is a label: what it is worth is what the hold of that sum in a sandbox is worth. -/
noncomputable def Tryd.pinned : Pinned := { name := "ytdeaaokdhiefbaadoor", sum := "cb1f5c22034595a14a94ae3f439ca87b9bee7643a39f02a2359ac6ed1d79c211", checked := Tryd.checked }
namespace Rows
def none {H : Type} : Left H := { results := [], args := [] }

/- WHAT THE LISTED PACKAGE-LEVEL VARIABLES READ AS WHEN THE CALL BEGINS. Each datum BY PROGRAM (the guide's laid-datum.mjs) off the statement by which the dump's own 'gosem.cut.vars' lays the variable. In a bare row this is a premise. The card (YtdeaaokdhiefbaaDoorCards.lean) ties it to the program's text. -/
def laid_turnkey_api_ErrEnd {H : Type} : DataW H := .iface "*errors.errorString" (.ptr (.agg [.lit (.string [105, 116, 32, 101, 110, 100, 115, 32, 116, 111, 111, 32, 101, 97, 114, 108, 121])]))
def laid_turnkey_api_ErrShape {H : Type} : DataW H := .iface "*errors.errorString" (.ptr (.agg [.lit (.string [110, 111, 116, 32, 97, 115, 32, 105, 116, 32, 104, 97, 115, 32, 116, 111, 32, 98, 101])]))
def laid_turnkey_api_ErrRange {H : Type} : DataW H := .iface "*errors.errorString" (.ptr (.agg [.lit (.string [97, 32, 110, 117, 109, 98, 101, 114, 32, 111, 117, 116, 32, 111, 102, 32, 105, 116, 115, 32, 114, 97, 110, 103, 101])]))
def laid_turnkey_api_ErrMany {H : Type} : DataW H := .iface "*errors.errorString" (.ptr (.agg [.lit (.string [116, 111, 111, 32, 109, 97, 110, 121])]))
def laid_turnkey_api_ErrNone {H : Type} : DataW H := .iface "*errors.errorString" (.ptr (.agg [.lit (.string [116, 104, 101, 114, 101, 32, 105, 115, 32, 110, 111, 110, 101])]))
def laid_turnkey_api_ErrFull {H : Type} : DataW H := .iface "*errors.errorString" (.ptr (.agg [.lit (.string [116, 104, 101, 114, 101, 32, 105, 115, 32, 110, 111, 32, 114, 111, 111, 109])]))
def laid_turnkey_api_ErrLimit {H : Type} : DataW H := .iface "*errors.errorString" (.ptr (.agg [.lit (.string [97, 116, 32, 105, 116, 115, 32, 108, 105, 109, 105, 116])]))
def laid_turnkey_api_ErrOwn {H : Type} : DataW H := .iface "*errors.errorString" (.ptr (.agg [.lit (.string [110, 111, 116, 32, 111, 110, 101, 32, 111, 102, 32, 105, 116, 115, 32, 111, 119, 110])]))
def laid_turnkey_api_ErrState {H : Type} : DataW H := .iface "*errors.errorString" (.ptr (.agg [.lit (.string [110, 111, 116, 32, 105, 110, 32, 116, 104, 105, 115, 32, 115, 116, 97, 116, 101])]))
def laid_turnkey_api_ErrRight {H : Type} : DataW H := .iface "*errors.errorString" (.ptr (.agg [.lit (.string [105, 116, 32, 108, 97, 99, 107, 115, 32, 116, 104, 101, 32, 114, 105, 103, 104, 116])]))
def laid_turnkey_api_ErrWord {H : Type} : DataW H := .iface "*errors.errorString" (.ptr (.agg [.lit (.string [110, 111, 32, 115, 117, 99, 104, 32, 119, 111, 114, 100])]))
def laid_turnkey_api_ErrNumber {H : Type} : DataW H := .iface "*errors.errorString" (.ptr (.agg [.lit (.string [110, 111, 32, 115, 117, 99, 104, 32, 110, 117, 109, 98, 101, 114])]))

/-- 'turnkeylaw1.WirePuts': WHATEVER THE INPUT: true; the input reads as it did. -/
def wirePutsSpec : ChangeSpec := { name := "wirePuts", fn := fun _ => fun
  | [d1, d2] => { results := [.lit (.bool true)], args := [d1, d2] }
  | _ => none }
def wirePutsRow : OpenClaim := { program := "ytdeaaokdhiefbaadoor", sum := "cb1f5c22034595a14a94ae3f439ca87b9bee7643a39f02a2359ac6ed1d79c211", func := "turnkey/turnkeylaw1.WirePuts", spec := "wirePuts", named := ["turnkey/api.ErrRange", "turnkey/api.ErrEnd", "turnkey/api.ErrShape"], apart := false, laid := [("turnkey/api.ErrEnd", laid_turnkey_api_ErrEnd), ("turnkey/api.ErrShape", laid_turnkey_api_ErrShape), ("turnkey/api.ErrRange", laid_turnkey_api_ErrRange)] }
def WirePutsSaid : Prop := wirePutsRow.holds Tryd.pinned (OpenSpec.ofChange wirePutsSpec)

/-- ITS FALSE NEIGHBOUR: 'it returns false'. Refute it at one input. -/
def wirePutsWrong : ChangeSpec := { name := "wirePuts", fn := fun _ => fun
  | [d1, d2] => { results := [.lit (.bool false)], args := [d1, d2] }
  | _ => none }
def WirePutsWrongFalsely : Prop := wirePutsRow.holds Tryd.pinned (OpenSpec.ofChange wirePutsWrong)

/-- 'turnkeylaw1.WireForms': WHATEVER THE INPUT: true; the input reads as it did. -/
def wireFormsSpec : ChangeSpec := { name := "wireForms", fn := fun _ => fun
  | [d1, d2] => { results := [.lit (.bool true)], args := [d1, d2] }
  | _ => none }
def wireFormsRow : OpenClaim := { program := "ytdeaaokdhiefbaadoor", sum := "cb1f5c22034595a14a94ae3f439ca87b9bee7643a39f02a2359ac6ed1d79c211", func := "turnkey/turnkeylaw1.WireForms", spec := "wireForms", named := ["turnkey/api.ErrRange", "turnkey/api.ErrEnd", "turnkey/api.ErrShape", "turnkey/api.ErrMany", "turnkey/api.ErrNone", "turnkey/api.ErrFull", "turnkey/api.ErrLimit", "turnkey/api.ErrOwn", "turnkey/api.ErrState", "turnkey/api.ErrRight", "turnkey/api.ErrWord", "turnkey/api.ErrNumber"], apart := false, laid := [("turnkey/api.ErrEnd", laid_turnkey_api_ErrEnd), ("turnkey/api.ErrShape", laid_turnkey_api_ErrShape), ("turnkey/api.ErrRange", laid_turnkey_api_ErrRange), ("turnkey/api.ErrMany", laid_turnkey_api_ErrMany), ("turnkey/api.ErrNone", laid_turnkey_api_ErrNone), ("turnkey/api.ErrFull", laid_turnkey_api_ErrFull), ("turnkey/api.ErrLimit", laid_turnkey_api_ErrLimit), ("turnkey/api.ErrOwn", laid_turnkey_api_ErrOwn), ("turnkey/api.ErrState", laid_turnkey_api_ErrState), ("turnkey/api.ErrRight", laid_turnkey_api_ErrRight), ("turnkey/api.ErrWord", laid_turnkey_api_ErrWord), ("turnkey/api.ErrNumber", laid_turnkey_api_ErrNumber)] }
def WireFormsSaid : Prop := wireFormsRow.holds Tryd.pinned (OpenSpec.ofChange wireFormsSpec)

/-- ITS FALSE NEIGHBOUR: 'it returns false'. Refute it at one input. -/
def wireFormsWrong : ChangeSpec := { name := "wireForms", fn := fun _ => fun
  | [d1, d2] => { results := [.lit (.bool false)], args := [d1, d2] }
  | _ => none }
def WireFormsWrongFalsely : Prop := wireFormsRow.holds Tryd.pinned (OpenSpec.ofChange wireFormsWrong)

/-- 'turnkeylaw1.WireCuts': WHATEVER THE INPUT: true; the input reads as it did. -/
def wireCutsSpec : ChangeSpec := { name := "wireCuts", fn := fun _ => fun
  | [d1, d2] => { results := [.lit (.bool true)], args := [d1, d2] }
  | _ => none }
def wireCutsRow : OpenClaim := { program := "ytdeaaokdhiefbaadoor", sum := "cb1f5c22034595a14a94ae3f439ca87b9bee7643a39f02a2359ac6ed1d79c211", func := "turnkey/turnkeylaw1.WireCuts", spec := "wireCuts", named := ["turnkey/api.ErrRange", "turnkey/api.ErrEnd", "turnkey/api.ErrShape", "turnkey/api.ErrMany", "turnkey/api.ErrNone", "turnkey/api.ErrFull", "turnkey/api.ErrLimit", "turnkey/api.ErrOwn", "turnkey/api.ErrState", "turnkey/api.ErrRight", "turnkey/api.ErrWord", "turnkey/api.ErrNumber"], apart := false, laid := [("turnkey/api.ErrEnd", laid_turnkey_api_ErrEnd), ("turnkey/api.ErrShape", laid_turnkey_api_ErrShape), ("turnkey/api.ErrRange", laid_turnkey_api_ErrRange), ("turnkey/api.ErrMany", laid_turnkey_api_ErrMany), ("turnkey/api.ErrNone", laid_turnkey_api_ErrNone), ("turnkey/api.ErrFull", laid_turnkey_api_ErrFull), ("turnkey/api.ErrLimit", laid_turnkey_api_ErrLimit), ("turnkey/api.ErrOwn", laid_turnkey_api_ErrOwn), ("turnkey/api.ErrState", laid_turnkey_api_ErrState), ("turnkey/api.ErrRight", laid_turnkey_api_ErrRight), ("turnkey/api.ErrWord", laid_turnkey_api_ErrWord), ("turnkey/api.ErrNumber", laid_turnkey_api_ErrNumber)] }
def WireCutsSaid : Prop := wireCutsRow.holds Tryd.pinned (OpenSpec.ofChange wireCutsSpec)

/-- ITS FALSE NEIGHBOUR: 'it returns false'. Refute it at one input. -/
def wireCutsWrong : ChangeSpec := { name := "wireCuts", fn := fun _ => fun
  | [d1, d2] => { results := [.lit (.bool false)], args := [d1, d2] }
  | _ => none }
def WireCutsWrongFalsely : Prop := wireCutsRow.holds Tryd.pinned (OpenSpec.ofChange wireCutsWrong)

/-- 'turnkeylaw1.WireRanges': WHATEVER THE INPUT: true; the input reads as it did. -/
def wireRangesSpec : ChangeSpec := { name := "wireRanges", fn := fun _ => fun
  | [d1, d2, d3, d4] => { results := [.lit (.bool true)], args := [d1, d2, d3, d4] }
  | _ => none }
def wireRangesRow : OpenClaim := { program := "ytdeaaokdhiefbaadoor", sum := "cb1f5c22034595a14a94ae3f439ca87b9bee7643a39f02a2359ac6ed1d79c211", func := "turnkey/turnkeylaw1.WireRanges", spec := "wireRanges", named := ["turnkey/api.ErrRange", "turnkey/api.ErrEnd", "turnkey/api.ErrShape", "turnkey/api.ErrMany", "turnkey/api.ErrNone", "turnkey/api.ErrFull", "turnkey/api.ErrLimit", "turnkey/api.ErrOwn", "turnkey/api.ErrState", "turnkey/api.ErrRight", "turnkey/api.ErrWord", "turnkey/api.ErrNumber"], apart := false, laid := [("turnkey/api.ErrEnd", laid_turnkey_api_ErrEnd), ("turnkey/api.ErrShape", laid_turnkey_api_ErrShape), ("turnkey/api.ErrRange", laid_turnkey_api_ErrRange), ("turnkey/api.ErrMany", laid_turnkey_api_ErrMany), ("turnkey/api.ErrNone", laid_turnkey_api_ErrNone), ("turnkey/api.ErrFull", laid_turnkey_api_ErrFull), ("turnkey/api.ErrLimit", laid_turnkey_api_ErrLimit), ("turnkey/api.ErrOwn", laid_turnkey_api_ErrOwn), ("turnkey/api.ErrState", laid_turnkey_api_ErrState), ("turnkey/api.ErrRight", laid_turnkey_api_ErrRight), ("turnkey/api.ErrWord", laid_turnkey_api_ErrWord), ("turnkey/api.ErrNumber", laid_turnkey_api_ErrNumber)] }
def WireRangesSaid : Prop := wireRangesRow.holds Tryd.pinned (OpenSpec.ofChange wireRangesSpec)

/-- ITS FALSE NEIGHBOUR: 'it returns false'. Refute it at one input. -/
def wireRangesWrong : ChangeSpec := { name := "wireRanges", fn := fun _ => fun
  | [d1, d2, d3, d4] => { results := [.lit (.bool false)], args := [d1, d2, d3, d4] }
  | _ => none }
def WireRangesWrongFalsely : Prop := wireRangesRow.holds Tryd.pinned (OpenSpec.ofChange wireRangesWrong)

/-- 'turnkeylaw4.ArenaPlays': WHATEVER THE INPUT: true; the input reads as it did. -/
def arenaPlaysSpec : ChangeSpec := { name := "arenaPlays", fn := fun _ => fun
  | [d1, d2, d3] => { results := [.lit (.bool true)], args := [d1, d2, d3] }
  | _ => none }
def arenaPlaysRow : OpenClaim := { program := "ytdeaaokdhiefbaadoor", sum := "cb1f5c22034595a14a94ae3f439ca87b9bee7643a39f02a2359ac6ed1d79c211", func := "turnkey/turnkeylaw4.ArenaPlays", spec := "arenaPlays", named := ["turnkey/api.ErrRange", "turnkey/api.ErrFull", "turnkey/api.ErrNone", "turnkey/api.ErrEnd", "turnkey/api.ErrShape", "turnkey/api.ErrMany", "turnkey/api.ErrLimit", "turnkey/api.ErrOwn", "turnkey/api.ErrState", "turnkey/api.ErrRight", "turnkey/api.ErrWord", "turnkey/api.ErrNumber"], apart := false, laid := [("turnkey/api.ErrEnd", laid_turnkey_api_ErrEnd), ("turnkey/api.ErrShape", laid_turnkey_api_ErrShape), ("turnkey/api.ErrRange", laid_turnkey_api_ErrRange), ("turnkey/api.ErrMany", laid_turnkey_api_ErrMany), ("turnkey/api.ErrNone", laid_turnkey_api_ErrNone), ("turnkey/api.ErrFull", laid_turnkey_api_ErrFull), ("turnkey/api.ErrLimit", laid_turnkey_api_ErrLimit), ("turnkey/api.ErrOwn", laid_turnkey_api_ErrOwn), ("turnkey/api.ErrState", laid_turnkey_api_ErrState), ("turnkey/api.ErrRight", laid_turnkey_api_ErrRight), ("turnkey/api.ErrWord", laid_turnkey_api_ErrWord), ("turnkey/api.ErrNumber", laid_turnkey_api_ErrNumber)] }
def ArenaPlaysSaid : Prop := arenaPlaysRow.holds Tryd.pinned (OpenSpec.ofChange arenaPlaysSpec)

/-- ITS FALSE NEIGHBOUR: 'it returns false'. Refute it at one input. -/
def arenaPlaysWrong : ChangeSpec := { name := "arenaPlays", fn := fun _ => fun
  | [d1, d2, d3] => { results := [.lit (.bool false)], args := [d1, d2, d3] }
  | _ => none }
def ArenaPlaysWrongFalsely : Prop := arenaPlaysRow.holds Tryd.pinned (OpenSpec.ofChange arenaPlaysWrong)

/-- 'turnkeylaw5.PageApart': WHATEVER THE INPUT: true; the input reads as it did. -/
def pageApartSpec : ChangeSpec := { name := "pageApart", fn := fun _ => fun
  | [d1, d2, d3] => { results := [.lit (.bool true)], args := [d1, d2, d3] }
  | _ => none }
def pageApartRow : OpenClaim := { program := "ytdeaaokdhiefbaadoor", sum := "cb1f5c22034595a14a94ae3f439ca87b9bee7643a39f02a2359ac6ed1d79c211", func := "turnkey/turnkeylaw5.PageApart", spec := "pageApart", named := ["turnkey/api.ErrRange", "turnkey/api.ErrMany", "turnkey/api.ErrFull"], apart := false, laid := [("turnkey/api.ErrRange", laid_turnkey_api_ErrRange), ("turnkey/api.ErrMany", laid_turnkey_api_ErrMany), ("turnkey/api.ErrFull", laid_turnkey_api_ErrFull)] }
def PageApartSaid : Prop := pageApartRow.holds Tryd.pinned (OpenSpec.ofChange pageApartSpec)

/-- ITS FALSE NEIGHBOUR: 'it returns false'. Refute it at one input. -/
def pageApartWrong : ChangeSpec := { name := "pageApart", fn := fun _ => fun
  | [d1, d2, d3] => { results := [.lit (.bool false)], args := [d1, d2, d3] }
  | _ => none }
def PageApartWrongFalsely : Prop := pageApartRow.holds Tryd.pinned (OpenSpec.ofChange pageApartWrong)

/-- 'turnkeylaw5.PageFresh': WHATEVER THE INPUT: true; the input reads as it did. -/
def pageFreshSpec : ChangeSpec := { name := "pageFresh", fn := fun _ => fun
  | [d1, d2] => { results := [.lit (.bool true)], args := [d1, d2] }
  | _ => none }
def pageFreshRow : OpenClaim := { program := "ytdeaaokdhiefbaadoor", sum := "cb1f5c22034595a14a94ae3f439ca87b9bee7643a39f02a2359ac6ed1d79c211", func := "turnkey/turnkeylaw5.PageFresh", spec := "pageFresh", named := ["turnkey/api.ErrRange", "turnkey/api.ErrMany", "turnkey/api.ErrFull", "turnkey/api.ErrNone", "turnkey/api.ErrEnd", "turnkey/api.ErrShape", "turnkey/api.ErrLimit", "turnkey/api.ErrOwn", "turnkey/api.ErrState", "turnkey/api.ErrRight", "turnkey/api.ErrWord", "turnkey/api.ErrNumber"], apart := false, laid := [("turnkey/api.ErrEnd", laid_turnkey_api_ErrEnd), ("turnkey/api.ErrShape", laid_turnkey_api_ErrShape), ("turnkey/api.ErrRange", laid_turnkey_api_ErrRange), ("turnkey/api.ErrMany", laid_turnkey_api_ErrMany), ("turnkey/api.ErrNone", laid_turnkey_api_ErrNone), ("turnkey/api.ErrFull", laid_turnkey_api_ErrFull), ("turnkey/api.ErrLimit", laid_turnkey_api_ErrLimit), ("turnkey/api.ErrOwn", laid_turnkey_api_ErrOwn), ("turnkey/api.ErrState", laid_turnkey_api_ErrState), ("turnkey/api.ErrRight", laid_turnkey_api_ErrRight), ("turnkey/api.ErrWord", laid_turnkey_api_ErrWord), ("turnkey/api.ErrNumber", laid_turnkey_api_ErrNumber)] }
def PageFreshSaid : Prop := pageFreshRow.holds Tryd.pinned (OpenSpec.ofChange pageFreshSpec)

/-- ITS FALSE NEIGHBOUR: 'it returns false'. Refute it at one input. -/
def pageFreshWrong : ChangeSpec := { name := "pageFresh", fn := fun _ => fun
  | [d1, d2] => { results := [.lit (.bool false)], args := [d1, d2] }
  | _ => none }
def PageFreshWrongFalsely : Prop := pageFreshRow.holds Tryd.pinned (OpenSpec.ofChange pageFreshWrong)

/-- 'turnkeylaw5.PagePlays': WHATEVER THE INPUT: true; the input reads as it did. -/
def pagePlaysSpec : ChangeSpec := { name := "pagePlays", fn := fun _ => fun
  | [d1, d2, d3] => { results := [.lit (.bool true)], args := [d1, d2, d3] }
  | _ => none }
def pagePlaysRow : OpenClaim := { program := "ytdeaaokdhiefbaadoor", sum := "cb1f5c22034595a14a94ae3f439ca87b9bee7643a39f02a2359ac6ed1d79c211", func := "turnkey/turnkeylaw5.PagePlays", spec := "pagePlays", named := ["turnkey/api.ErrRange", "turnkey/api.ErrMany", "turnkey/api.ErrFull", "turnkey/api.ErrEnd", "turnkey/api.ErrShape", "turnkey/api.ErrNone", "turnkey/api.ErrLimit", "turnkey/api.ErrOwn", "turnkey/api.ErrState", "turnkey/api.ErrRight", "turnkey/api.ErrWord", "turnkey/api.ErrNumber"], apart := false, laid := [("turnkey/api.ErrEnd", laid_turnkey_api_ErrEnd), ("turnkey/api.ErrShape", laid_turnkey_api_ErrShape), ("turnkey/api.ErrRange", laid_turnkey_api_ErrRange), ("turnkey/api.ErrMany", laid_turnkey_api_ErrMany), ("turnkey/api.ErrNone", laid_turnkey_api_ErrNone), ("turnkey/api.ErrFull", laid_turnkey_api_ErrFull), ("turnkey/api.ErrLimit", laid_turnkey_api_ErrLimit), ("turnkey/api.ErrOwn", laid_turnkey_api_ErrOwn), ("turnkey/api.ErrState", laid_turnkey_api_ErrState), ("turnkey/api.ErrRight", laid_turnkey_api_ErrRight), ("turnkey/api.ErrWord", laid_turnkey_api_ErrWord), ("turnkey/api.ErrNumber", laid_turnkey_api_ErrNumber)] }
def PagePlaysSaid : Prop := pagePlaysRow.holds Tryd.pinned (OpenSpec.ofChange pagePlaysSpec)

/-- ITS FALSE NEIGHBOUR: 'it returns false'. Refute it at one input. -/
def pagePlaysWrong : ChangeSpec := { name := "pagePlays", fn := fun _ => fun
  | [d1, d2, d3] => { results := [.lit (.bool false)], args := [d1, d2, d3] }
  | _ => none }
def PagePlaysWrongFalsely : Prop := pagePlaysRow.holds Tryd.pinned (OpenSpec.ofChange pagePlaysWrong)

/-- 'turnkeylaw12.MeterCharges': WHATEVER THE INPUT: true; the input reads as it did. -/
def meterChargesSpec : ChangeSpec := { name := "meterCharges", fn := fun _ => fun
  | [d1, d2] => { results := [.lit (.bool true)], args := [d1, d2] }
  | _ => none }
def meterChargesRow : OpenClaim := { program := "ytdeaaokdhiefbaadoor", sum := "cb1f5c22034595a14a94ae3f439ca87b9bee7643a39f02a2359ac6ed1d79c211", func := "turnkey/turnkeylaw12.MeterCharges", spec := "meterCharges", named := ["turnkey/api.ErrRange", "turnkey/api.ErrNone", "turnkey/api.ErrMany", "turnkey/api.ErrFull"], apart := false, laid := [("turnkey/api.ErrRange", laid_turnkey_api_ErrRange), ("turnkey/api.ErrMany", laid_turnkey_api_ErrMany), ("turnkey/api.ErrNone", laid_turnkey_api_ErrNone), ("turnkey/api.ErrFull", laid_turnkey_api_ErrFull)] }
def MeterChargesSaid : Prop := meterChargesRow.holds Tryd.pinned (OpenSpec.ofChange meterChargesSpec)

/-- ITS FALSE NEIGHBOUR: 'it returns false'. Refute it at one input. -/
def meterChargesWrong : ChangeSpec := { name := "meterCharges", fn := fun _ => fun
  | [d1, d2] => { results := [.lit (.bool false)], args := [d1, d2] }
  | _ => none }
def MeterChargesWrongFalsely : Prop := meterChargesRow.holds Tryd.pinned (OpenSpec.ofChange meterChargesWrong)

/-- 'turnkeylaw12.MeterEnds': WHATEVER THE INPUT: true; the input reads as it did. -/
def meterEndsSpec : ChangeSpec := { name := "meterEnds", fn := fun _ => fun
  | [d1, d2] => { results := [.lit (.bool true)], args := [d1, d2] }
  | _ => none }
def meterEndsRow : OpenClaim := { program := "ytdeaaokdhiefbaadoor", sum := "cb1f5c22034595a14a94ae3f439ca87b9bee7643a39f02a2359ac6ed1d79c211", func := "turnkey/turnkeylaw12.MeterEnds", spec := "meterEnds", named := ["turnkey/api.ErrRange", "turnkey/api.ErrNone", "turnkey/api.ErrMany", "turnkey/api.ErrFull", "turnkey/api.ErrEnd", "turnkey/api.ErrShape", "turnkey/api.ErrLimit", "turnkey/api.ErrOwn", "turnkey/api.ErrState", "turnkey/api.ErrRight", "turnkey/api.ErrWord", "turnkey/api.ErrNumber"], apart := false, laid := [("turnkey/api.ErrEnd", laid_turnkey_api_ErrEnd), ("turnkey/api.ErrShape", laid_turnkey_api_ErrShape), ("turnkey/api.ErrRange", laid_turnkey_api_ErrRange), ("turnkey/api.ErrMany", laid_turnkey_api_ErrMany), ("turnkey/api.ErrNone", laid_turnkey_api_ErrNone), ("turnkey/api.ErrFull", laid_turnkey_api_ErrFull), ("turnkey/api.ErrLimit", laid_turnkey_api_ErrLimit), ("turnkey/api.ErrOwn", laid_turnkey_api_ErrOwn), ("turnkey/api.ErrState", laid_turnkey_api_ErrState), ("turnkey/api.ErrRight", laid_turnkey_api_ErrRight), ("turnkey/api.ErrWord", laid_turnkey_api_ErrWord), ("turnkey/api.ErrNumber", laid_turnkey_api_ErrNumber)] }
def MeterEndsSaid : Prop := meterEndsRow.holds Tryd.pinned (OpenSpec.ofChange meterEndsSpec)

/-- ITS FALSE NEIGHBOUR: 'it returns false'. Refute it at one input. -/
def meterEndsWrong : ChangeSpec := { name := "meterEnds", fn := fun _ => fun
  | [d1, d2] => { results := [.lit (.bool false)], args := [d1, d2] }
  | _ => none }
def MeterEndsWrongFalsely : Prop := meterEndsRow.holds Tryd.pinned (OpenSpec.ofChange meterEndsWrong)

/- THE SECOND FORM. 'bulk': how many values and letters a reading holds, each counted each time it is reached (what is shared counts as often as it is met; a slice's spare places count too). A statement '..UptoSaid' is the law's where the arguments, and the package variables that the reading takes, are together of bulk at most 1048576: NARROWER than '..Said'. Prove '..Said' where nothing that the law and all that it calls make is longer than what came in: it says more and counts as full. Else prove '..UptoSaid'. A law counts once. -/
mutual
def uptoBulk {H : Type} : DataW H → Nat
  | .lit (.string bytes) => bytes.length + 1
  | .lit _ => 1
  | .nil => 1
  | .ptr d => uptoBulk d + 1
  | .slice elems spare => uptoBulkAll elems + uptoBulkAll spare + 1
  | .agg parts => uptoBulkAll parts + 1
  | .iface _ d => uptoBulk d + 1
  | .map entries => uptoBulkEntries entries + 1
  | .held _ => 1
def uptoBulkAll {H : Type} : List (DataW H) → Nat
  | [] => 0
  | d :: r => uptoBulk d + uptoBulkAll r
def uptoBulkEntries {H : Type} : List (Lit × DataW H) → Nat
  | [] => 0
  | x :: r => uptoBulkEntry x + uptoBulkEntries r
def uptoBulkEntry {H : Type} : Lit × DataW H → Nat
  | (.string bytes, d) => bytes.length + uptoBulk d + 1
  | (_, d) => uptoBulk d + 1
 end
def uptoSmall : (H : Type) → List (DataW H) → Bool := fun _ ds => decide (uptoBulkAll ds ≤ 1048576)
def OpenSpec.upto (s : _root_.Go.ChangeSpec) : _root_.Go.OpenSpec := { _root_.Go.OpenSpec.ofChange s with cond := some uptoSmall }

/-- 'turnkeylaw1.WirePuts', WHERE WHAT IT READS IS OF BULK AT MOST 1048576: true; the input reads as it did. -/
def wirePutsUptoRow : OpenClaim := { program := "ytdeaaokdhiefbaadoor", sum := "cb1f5c22034595a14a94ae3f439ca87b9bee7643a39f02a2359ac6ed1d79c211", func := "turnkey/turnkeylaw1.WirePuts", spec := "wirePuts", named := ["turnkey/api.ErrRange", "turnkey/api.ErrEnd", "turnkey/api.ErrShape"], apart := false, laid := [("turnkey/api.ErrEnd", laid_turnkey_api_ErrEnd), ("turnkey/api.ErrShape", laid_turnkey_api_ErrShape), ("turnkey/api.ErrRange", laid_turnkey_api_ErrRange)], narrowed := true }
def WirePutsUptoSaid : Prop := wirePutsUptoRow.holds Tryd.pinned (OpenSpec.upto wirePutsSpec)

/-- 'turnkeylaw1.WireForms', WHERE WHAT IT READS IS OF BULK AT MOST 1048576: true; the input reads as it did. -/
def wireFormsUptoRow : OpenClaim := { program := "ytdeaaokdhiefbaadoor", sum := "cb1f5c22034595a14a94ae3f439ca87b9bee7643a39f02a2359ac6ed1d79c211", func := "turnkey/turnkeylaw1.WireForms", spec := "wireForms", named := ["turnkey/api.ErrRange", "turnkey/api.ErrEnd", "turnkey/api.ErrShape", "turnkey/api.ErrMany", "turnkey/api.ErrNone", "turnkey/api.ErrFull", "turnkey/api.ErrLimit", "turnkey/api.ErrOwn", "turnkey/api.ErrState", "turnkey/api.ErrRight", "turnkey/api.ErrWord", "turnkey/api.ErrNumber"], apart := false, laid := [("turnkey/api.ErrEnd", laid_turnkey_api_ErrEnd), ("turnkey/api.ErrShape", laid_turnkey_api_ErrShape), ("turnkey/api.ErrRange", laid_turnkey_api_ErrRange), ("turnkey/api.ErrMany", laid_turnkey_api_ErrMany), ("turnkey/api.ErrNone", laid_turnkey_api_ErrNone), ("turnkey/api.ErrFull", laid_turnkey_api_ErrFull), ("turnkey/api.ErrLimit", laid_turnkey_api_ErrLimit), ("turnkey/api.ErrOwn", laid_turnkey_api_ErrOwn), ("turnkey/api.ErrState", laid_turnkey_api_ErrState), ("turnkey/api.ErrRight", laid_turnkey_api_ErrRight), ("turnkey/api.ErrWord", laid_turnkey_api_ErrWord), ("turnkey/api.ErrNumber", laid_turnkey_api_ErrNumber)], narrowed := true }
def WireFormsUptoSaid : Prop := wireFormsUptoRow.holds Tryd.pinned (OpenSpec.upto wireFormsSpec)

/-- 'turnkeylaw1.WireCuts', WHERE WHAT IT READS IS OF BULK AT MOST 1048576: true; the input reads as it did. -/
def wireCutsUptoRow : OpenClaim := { program := "ytdeaaokdhiefbaadoor", sum := "cb1f5c22034595a14a94ae3f439ca87b9bee7643a39f02a2359ac6ed1d79c211", func := "turnkey/turnkeylaw1.WireCuts", spec := "wireCuts", named := ["turnkey/api.ErrRange", "turnkey/api.ErrEnd", "turnkey/api.ErrShape", "turnkey/api.ErrMany", "turnkey/api.ErrNone", "turnkey/api.ErrFull", "turnkey/api.ErrLimit", "turnkey/api.ErrOwn", "turnkey/api.ErrState", "turnkey/api.ErrRight", "turnkey/api.ErrWord", "turnkey/api.ErrNumber"], apart := false, laid := [("turnkey/api.ErrEnd", laid_turnkey_api_ErrEnd), ("turnkey/api.ErrShape", laid_turnkey_api_ErrShape), ("turnkey/api.ErrRange", laid_turnkey_api_ErrRange), ("turnkey/api.ErrMany", laid_turnkey_api_ErrMany), ("turnkey/api.ErrNone", laid_turnkey_api_ErrNone), ("turnkey/api.ErrFull", laid_turnkey_api_ErrFull), ("turnkey/api.ErrLimit", laid_turnkey_api_ErrLimit), ("turnkey/api.ErrOwn", laid_turnkey_api_ErrOwn), ("turnkey/api.ErrState", laid_turnkey_api_ErrState), ("turnkey/api.ErrRight", laid_turnkey_api_ErrRight), ("turnkey/api.ErrWord", laid_turnkey_api_ErrWord), ("turnkey/api.ErrNumber", laid_turnkey_api_ErrNumber)], narrowed := true }
def WireCutsUptoSaid : Prop := wireCutsUptoRow.holds Tryd.pinned (OpenSpec.upto wireCutsSpec)

/-- 'turnkeylaw1.WireRanges', WHERE WHAT IT READS IS OF BULK AT MOST 1048576: true; the input reads as it did. -/
def wireRangesUptoRow : OpenClaim := { program := "ytdeaaokdhiefbaadoor", sum := "cb1f5c22034595a14a94ae3f439ca87b9bee7643a39f02a2359ac6ed1d79c211", func := "turnkey/turnkeylaw1.WireRanges", spec := "wireRanges", named := ["turnkey/api.ErrRange", "turnkey/api.ErrEnd", "turnkey/api.ErrShape", "turnkey/api.ErrMany", "turnkey/api.ErrNone", "turnkey/api.ErrFull", "turnkey/api.ErrLimit", "turnkey/api.ErrOwn", "turnkey/api.ErrState", "turnkey/api.ErrRight", "turnkey/api.ErrWord", "turnkey/api.ErrNumber"], apart := false, laid := [("turnkey/api.ErrEnd", laid_turnkey_api_ErrEnd), ("turnkey/api.ErrShape", laid_turnkey_api_ErrShape), ("turnkey/api.ErrRange", laid_turnkey_api_ErrRange), ("turnkey/api.ErrMany", laid_turnkey_api_ErrMany), ("turnkey/api.ErrNone", laid_turnkey_api_ErrNone), ("turnkey/api.ErrFull", laid_turnkey_api_ErrFull), ("turnkey/api.ErrLimit", laid_turnkey_api_ErrLimit), ("turnkey/api.ErrOwn", laid_turnkey_api_ErrOwn), ("turnkey/api.ErrState", laid_turnkey_api_ErrState), ("turnkey/api.ErrRight", laid_turnkey_api_ErrRight), ("turnkey/api.ErrWord", laid_turnkey_api_ErrWord), ("turnkey/api.ErrNumber", laid_turnkey_api_ErrNumber)], narrowed := true }
def WireRangesUptoSaid : Prop := wireRangesUptoRow.holds Tryd.pinned (OpenSpec.upto wireRangesSpec)

/-- 'turnkeylaw4.ArenaPlays', WHERE WHAT IT READS IS OF BULK AT MOST 1048576: true; the input reads as it did. -/
def arenaPlaysUptoRow : OpenClaim := { program := "ytdeaaokdhiefbaadoor", sum := "cb1f5c22034595a14a94ae3f439ca87b9bee7643a39f02a2359ac6ed1d79c211", func := "turnkey/turnkeylaw4.ArenaPlays", spec := "arenaPlays", named := ["turnkey/api.ErrRange", "turnkey/api.ErrFull", "turnkey/api.ErrNone", "turnkey/api.ErrEnd", "turnkey/api.ErrShape", "turnkey/api.ErrMany", "turnkey/api.ErrLimit", "turnkey/api.ErrOwn", "turnkey/api.ErrState", "turnkey/api.ErrRight", "turnkey/api.ErrWord", "turnkey/api.ErrNumber"], apart := false, laid := [("turnkey/api.ErrEnd", laid_turnkey_api_ErrEnd), ("turnkey/api.ErrShape", laid_turnkey_api_ErrShape), ("turnkey/api.ErrRange", laid_turnkey_api_ErrRange), ("turnkey/api.ErrMany", laid_turnkey_api_ErrMany), ("turnkey/api.ErrNone", laid_turnkey_api_ErrNone), ("turnkey/api.ErrFull", laid_turnkey_api_ErrFull), ("turnkey/api.ErrLimit", laid_turnkey_api_ErrLimit), ("turnkey/api.ErrOwn", laid_turnkey_api_ErrOwn), ("turnkey/api.ErrState", laid_turnkey_api_ErrState), ("turnkey/api.ErrRight", laid_turnkey_api_ErrRight), ("turnkey/api.ErrWord", laid_turnkey_api_ErrWord), ("turnkey/api.ErrNumber", laid_turnkey_api_ErrNumber)], narrowed := true }
def ArenaPlaysUptoSaid : Prop := arenaPlaysUptoRow.holds Tryd.pinned (OpenSpec.upto arenaPlaysSpec)

/-- 'turnkeylaw5.PageApart', WHERE WHAT IT READS IS OF BULK AT MOST 1048576: true; the input reads as it did. -/
def pageApartUptoRow : OpenClaim := { program := "ytdeaaokdhiefbaadoor", sum := "cb1f5c22034595a14a94ae3f439ca87b9bee7643a39f02a2359ac6ed1d79c211", func := "turnkey/turnkeylaw5.PageApart", spec := "pageApart", named := ["turnkey/api.ErrRange", "turnkey/api.ErrMany", "turnkey/api.ErrFull"], apart := false, laid := [("turnkey/api.ErrRange", laid_turnkey_api_ErrRange), ("turnkey/api.ErrMany", laid_turnkey_api_ErrMany), ("turnkey/api.ErrFull", laid_turnkey_api_ErrFull)], narrowed := true }
def PageApartUptoSaid : Prop := pageApartUptoRow.holds Tryd.pinned (OpenSpec.upto pageApartSpec)

/-- 'turnkeylaw5.PageFresh', WHERE WHAT IT READS IS OF BULK AT MOST 1048576: true; the input reads as it did. -/
def pageFreshUptoRow : OpenClaim := { program := "ytdeaaokdhiefbaadoor", sum := "cb1f5c22034595a14a94ae3f439ca87b9bee7643a39f02a2359ac6ed1d79c211", func := "turnkey/turnkeylaw5.PageFresh", spec := "pageFresh", named := ["turnkey/api.ErrRange", "turnkey/api.ErrMany", "turnkey/api.ErrFull", "turnkey/api.ErrNone", "turnkey/api.ErrEnd", "turnkey/api.ErrShape", "turnkey/api.ErrLimit", "turnkey/api.ErrOwn", "turnkey/api.ErrState", "turnkey/api.ErrRight", "turnkey/api.ErrWord", "turnkey/api.ErrNumber"], apart := false, laid := [("turnkey/api.ErrEnd", laid_turnkey_api_ErrEnd), ("turnkey/api.ErrShape", laid_turnkey_api_ErrShape), ("turnkey/api.ErrRange", laid_turnkey_api_ErrRange), ("turnkey/api.ErrMany", laid_turnkey_api_ErrMany), ("turnkey/api.ErrNone", laid_turnkey_api_ErrNone), ("turnkey/api.ErrFull", laid_turnkey_api_ErrFull), ("turnkey/api.ErrLimit", laid_turnkey_api_ErrLimit), ("turnkey/api.ErrOwn", laid_turnkey_api_ErrOwn), ("turnkey/api.ErrState", laid_turnkey_api_ErrState), ("turnkey/api.ErrRight", laid_turnkey_api_ErrRight), ("turnkey/api.ErrWord", laid_turnkey_api_ErrWord), ("turnkey/api.ErrNumber", laid_turnkey_api_ErrNumber)], narrowed := true }
def PageFreshUptoSaid : Prop := pageFreshUptoRow.holds Tryd.pinned (OpenSpec.upto pageFreshSpec)

/-- 'turnkeylaw5.PagePlays', WHERE WHAT IT READS IS OF BULK AT MOST 1048576: true; the input reads as it did. -/
def pagePlaysUptoRow : OpenClaim := { program := "ytdeaaokdhiefbaadoor", sum := "cb1f5c22034595a14a94ae3f439ca87b9bee7643a39f02a2359ac6ed1d79c211", func := "turnkey/turnkeylaw5.PagePlays", spec := "pagePlays", named := ["turnkey/api.ErrRange", "turnkey/api.ErrMany", "turnkey/api.ErrFull", "turnkey/api.ErrEnd", "turnkey/api.ErrShape", "turnkey/api.ErrNone", "turnkey/api.ErrLimit", "turnkey/api.ErrOwn", "turnkey/api.ErrState", "turnkey/api.ErrRight", "turnkey/api.ErrWord", "turnkey/api.ErrNumber"], apart := false, laid := [("turnkey/api.ErrEnd", laid_turnkey_api_ErrEnd), ("turnkey/api.ErrShape", laid_turnkey_api_ErrShape), ("turnkey/api.ErrRange", laid_turnkey_api_ErrRange), ("turnkey/api.ErrMany", laid_turnkey_api_ErrMany), ("turnkey/api.ErrNone", laid_turnkey_api_ErrNone), ("turnkey/api.ErrFull", laid_turnkey_api_ErrFull), ("turnkey/api.ErrLimit", laid_turnkey_api_ErrLimit), ("turnkey/api.ErrOwn", laid_turnkey_api_ErrOwn), ("turnkey/api.ErrState", laid_turnkey_api_ErrState), ("turnkey/api.ErrRight", laid_turnkey_api_ErrRight), ("turnkey/api.ErrWord", laid_turnkey_api_ErrWord), ("turnkey/api.ErrNumber", laid_turnkey_api_ErrNumber)], narrowed := true }
def PagePlaysUptoSaid : Prop := pagePlaysUptoRow.holds Tryd.pinned (OpenSpec.upto pagePlaysSpec)

/-- 'turnkeylaw12.MeterCharges', WHERE WHAT IT READS IS OF BULK AT MOST 1048576: true; the input reads as it did. -/
def meterChargesUptoRow : OpenClaim := { program := "ytdeaaokdhiefbaadoor", sum := "cb1f5c22034595a14a94ae3f439ca87b9bee7643a39f02a2359ac6ed1d79c211", func := "turnkey/turnkeylaw12.MeterCharges", spec := "meterCharges", named := ["turnkey/api.ErrRange", "turnkey/api.ErrNone", "turnkey/api.ErrMany", "turnkey/api.ErrFull"], apart := false, laid := [("turnkey/api.ErrRange", laid_turnkey_api_ErrRange), ("turnkey/api.ErrMany", laid_turnkey_api_ErrMany), ("turnkey/api.ErrNone", laid_turnkey_api_ErrNone), ("turnkey/api.ErrFull", laid_turnkey_api_ErrFull)], narrowed := true }
def MeterChargesUptoSaid : Prop := meterChargesUptoRow.holds Tryd.pinned (OpenSpec.upto meterChargesSpec)

/-- 'turnkeylaw12.MeterEnds', WHERE WHAT IT READS IS OF BULK AT MOST 1048576: true; the input reads as it did. -/
def meterEndsUptoRow : OpenClaim := { program := "ytdeaaokdhiefbaadoor", sum := "cb1f5c22034595a14a94ae3f439ca87b9bee7643a39f02a2359ac6ed1d79c211", func := "turnkey/turnkeylaw12.MeterEnds", spec := "meterEnds", named := ["turnkey/api.ErrRange", "turnkey/api.ErrNone", "turnkey/api.ErrMany", "turnkey/api.ErrFull", "turnkey/api.ErrEnd", "turnkey/api.ErrShape", "turnkey/api.ErrLimit", "turnkey/api.ErrOwn", "turnkey/api.ErrState", "turnkey/api.ErrRight", "turnkey/api.ErrWord", "turnkey/api.ErrNumber"], apart := false, laid := [("turnkey/api.ErrEnd", laid_turnkey_api_ErrEnd), ("turnkey/api.ErrShape", laid_turnkey_api_ErrShape), ("turnkey/api.ErrRange", laid_turnkey_api_ErrRange), ("turnkey/api.ErrMany", laid_turnkey_api_ErrMany), ("turnkey/api.ErrNone", laid_turnkey_api_ErrNone), ("turnkey/api.ErrFull", laid_turnkey_api_ErrFull), ("turnkey/api.ErrLimit", laid_turnkey_api_ErrLimit), ("turnkey/api.ErrOwn", laid_turnkey_api_ErrOwn), ("turnkey/api.ErrState", laid_turnkey_api_ErrState), ("turnkey/api.ErrRight", laid_turnkey_api_ErrRight), ("turnkey/api.ErrWord", laid_turnkey_api_ErrWord), ("turnkey/api.ErrNumber", laid_turnkey_api_ErrNumber)], narrowed := true }
def MeterEndsUptoSaid : Prop := meterEndsUptoRow.holds Tryd.pinned (OpenSpec.upto meterEndsSpec)

end Rows
end Go.Proofs.YtdeaaokdhiefbaaDoor
