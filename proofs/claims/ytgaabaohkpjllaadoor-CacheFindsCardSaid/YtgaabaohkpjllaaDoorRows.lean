/-
  NARROWER THAN 'FOR EVERY INPUT', by the rows' own cells (each row's printed sentence says how): PathRights: laid · PathLoops: laid · PathFaults: laid · PathFills: laid · PathLow: laid · CacheRoots: laid · CacheEldest: laid · CacheGone: laid · CacheFinds: laid · CacheHits: laid.
  DERIVED. THE GIVEN ROWS OF THIS SEAT. 10 by the template 'for every input the law returns true; each argument reads behind the call as it read before'; 0 by the template 'total and deterministic' (their statements: YtgaabaohkpjllaaDoorTotals.lean).
  GIVEN WITH THE SEED: the statements are not yours to turn. If you find one false, say at which input.
  Laid BY PROGRAM, IN A SANDBOX (cutbox-rows.mjs): the forced cells as the released guide's own fill.sh prints them over the translation 6d4dfd4e973feb2a… (all of the seat's roots in one cut). By AI agents, Wed Nov 11 2026. No macro, syntax, notation, axiom, sorry.
-/
import Derived.Test.YtgaabaohkpjllaaDoorChecked
import GoSem.Claim
import GoSem.ClaimJoined
import GoSem.ClaimMapViews
import Derived.JoinedTies
import Derived.KernelRfl
namespace Go.Proofs.YtgaabaohkpjllaaDoor
/- THE CELL 'sum', in the pinned program and in every row, IS THE sha256 OF THE DUMP (.gsa) THAT YtgaabaohkpjllaaDoorProg.lean LOADS. Nothing in Lean hashes anything: it is a label: what it is worth is what the hold of that sum in a sandbox is worth. -/
noncomputable def Tryd.pinned : Pinned := { name := "ytgaabaohkpjllaadoor", sum := "6d4dfd4e973feb2a978832a18cee1dcbaf104240661575f71d4b22a2b5108a4b", checked := Tryd.checked }
namespace Rows
def none {H : Type} : Left H := { results := [], args := [] }

/- WHAT THE LISTED PACKAGE-LEVEL VARIABLES READ AS WHEN THE CALL BEGINS. Each datum BY PROGRAM (the guide's laid-datum.mjs) off the statement by which the dump's own 'gosem.cut.vars' lays the variable. In a bare row this is a premise. The card (YtgaabaohkpjllaaDoorCards.lean) ties it to the program's text. -/
def laid_turnkey_api_ErrShape {H : Type} : DataW H := .iface "*errors.errorString" (.ptr (.agg [.lit (.string [110, 111, 116, 32, 97, 115, 32, 105, 116, 32, 104, 97, 115, 32, 116, 111, 32, 98, 101])]))
def laid_turnkey_api_ErrRange {H : Type} : DataW H := .iface "*errors.errorString" (.ptr (.agg [.lit (.string [97, 32, 110, 117, 109, 98, 101, 114, 32, 111, 117, 116, 32, 111, 102, 32, 105, 116, 115, 32, 114, 97, 110, 103, 101])]))
def laid_turnkey_api_ErrMany {H : Type} : DataW H := .iface "*errors.errorString" (.ptr (.agg [.lit (.string [116, 111, 111, 32, 109, 97, 110, 121])]))
def laid_turnkey_api_ErrNone {H : Type} : DataW H := .iface "*errors.errorString" (.ptr (.agg [.lit (.string [116, 104, 101, 114, 101, 32, 105, 115, 32, 110, 111, 110, 101])]))
def laid_turnkey_api_ErrFull {H : Type} : DataW H := .iface "*errors.errorString" (.ptr (.agg [.lit (.string [116, 104, 101, 114, 101, 32, 105, 115, 32, 110, 111, 32, 114, 111, 111, 109])]))
def laid_turnkey_api_ErrEnd {H : Type} : DataW H := .iface "*errors.errorString" (.ptr (.agg [.lit (.string [105, 116, 32, 101, 110, 100, 115, 32, 116, 111, 111, 32, 101, 97, 114, 108, 121])]))
def laid_turnkey_api_ErrLimit {H : Type} : DataW H := .iface "*errors.errorString" (.ptr (.agg [.lit (.string [97, 116, 32, 105, 116, 115, 32, 108, 105, 109, 105, 116])]))
def laid_turnkey_api_ErrOwn {H : Type} : DataW H := .iface "*errors.errorString" (.ptr (.agg [.lit (.string [110, 111, 116, 32, 111, 110, 101, 32, 111, 102, 32, 105, 116, 115, 32, 111, 119, 110])]))
def laid_turnkey_api_ErrState {H : Type} : DataW H := .iface "*errors.errorString" (.ptr (.agg [.lit (.string [110, 111, 116, 32, 105, 110, 32, 116, 104, 105, 115, 32, 115, 116, 97, 116, 101])]))
def laid_turnkey_api_ErrRight {H : Type} : DataW H := .iface "*errors.errorString" (.ptr (.agg [.lit (.string [105, 116, 32, 108, 97, 99, 107, 115, 32, 116, 104, 101, 32, 114, 105, 103, 104, 116])]))
def laid_turnkey_api_ErrWord {H : Type} : DataW H := .iface "*errors.errorString" (.ptr (.agg [.lit (.string [110, 111, 32, 115, 117, 99, 104, 32, 119, 111, 114, 100])]))
def laid_turnkey_api_ErrNumber {H : Type} : DataW H := .iface "*errors.errorString" (.ptr (.agg [.lit (.string [110, 111, 32, 115, 117, 99, 104, 32, 110, 117, 109, 98, 101, 114])]))

/-- 'turnkeylaw9.PathRights': WHATEVER THE INPUT: true; the input reads as it did. -/
def pathRightsSpec : ChangeSpec := { name := "pathRights", fn := fun _ => fun
  | [d1, d2, d3] => { results := [.lit (.bool true)], args := [d1, d2, d3] }
  | _ => none }
def pathRightsRow : OpenClaim := { program := "ytgaabaohkpjllaadoor", sum := "6d4dfd4e973feb2a978832a18cee1dcbaf104240661575f71d4b22a2b5108a4b", func := "turnkey/turnkeylaw9.PathRights", spec := "pathRights", unfollowed := true, recurses := true, named := ["turnkey/api.ErrRange", "turnkey/api.ErrMany", "turnkey/api.ErrFull", "turnkey/api.ErrShape", "turnkey/api.ErrNone"], apart := false, laid := [("turnkey/api.ErrShape", laid_turnkey_api_ErrShape), ("turnkey/api.ErrRange", laid_turnkey_api_ErrRange), ("turnkey/api.ErrMany", laid_turnkey_api_ErrMany), ("turnkey/api.ErrNone", laid_turnkey_api_ErrNone), ("turnkey/api.ErrFull", laid_turnkey_api_ErrFull)] }
def PathRightsSaid : Prop := pathRightsRow.holds Tryd.pinned (OpenSpec.ofChange pathRightsSpec)

/-- ITS FALSE NEIGHBOUR: 'it returns false'. Refute it at one input. -/
def pathRightsWrong : ChangeSpec := { name := "pathRights", fn := fun _ => fun
  | [d1, d2, d3] => { results := [.lit (.bool false)], args := [d1, d2, d3] }
  | _ => none }
def PathRightsWrongFalsely : Prop := pathRightsRow.holds Tryd.pinned (OpenSpec.ofChange pathRightsWrong)

/-- 'turnkeylaw9.PathLoops': WHATEVER THE INPUT: true; the input reads as it did. -/
def pathLoopsSpec : ChangeSpec := { name := "pathLoops", fn := fun _ => fun
  | [d1, d2, d3] => { results := [.lit (.bool true)], args := [d1, d2, d3] }
  | _ => none }
def pathLoopsRow : OpenClaim := { program := "ytgaabaohkpjllaadoor", sum := "6d4dfd4e973feb2a978832a18cee1dcbaf104240661575f71d4b22a2b5108a4b", func := "turnkey/turnkeylaw9.PathLoops", spec := "pathLoops", unfollowed := true, recurses := true, named := ["turnkey/api.ErrRange", "turnkey/api.ErrMany", "turnkey/api.ErrFull", "turnkey/api.ErrShape", "turnkey/api.ErrNone"], apart := false, laid := [("turnkey/api.ErrShape", laid_turnkey_api_ErrShape), ("turnkey/api.ErrRange", laid_turnkey_api_ErrRange), ("turnkey/api.ErrMany", laid_turnkey_api_ErrMany), ("turnkey/api.ErrNone", laid_turnkey_api_ErrNone), ("turnkey/api.ErrFull", laid_turnkey_api_ErrFull)] }
def PathLoopsSaid : Prop := pathLoopsRow.holds Tryd.pinned (OpenSpec.ofChange pathLoopsSpec)

/-- ITS FALSE NEIGHBOUR: 'it returns false'. Refute it at one input. -/
def pathLoopsWrong : ChangeSpec := { name := "pathLoops", fn := fun _ => fun
  | [d1, d2, d3] => { results := [.lit (.bool false)], args := [d1, d2, d3] }
  | _ => none }
def PathLoopsWrongFalsely : Prop := pathLoopsRow.holds Tryd.pinned (OpenSpec.ofChange pathLoopsWrong)

/-- 'turnkeylaw9.PathFaults': WHATEVER THE INPUT: true; the input reads as it did. -/
def pathFaultsSpec : ChangeSpec := { name := "pathFaults", fn := fun _ => fun
  | [d1, d2, d3] => { results := [.lit (.bool true)], args := [d1, d2, d3] }
  | _ => none }
def pathFaultsRow : OpenClaim := { program := "ytgaabaohkpjllaadoor", sum := "6d4dfd4e973feb2a978832a18cee1dcbaf104240661575f71d4b22a2b5108a4b", func := "turnkey/turnkeylaw9.PathFaults", spec := "pathFaults", unfollowed := true, recurses := true, named := ["turnkey/api.ErrRange", "turnkey/api.ErrMany", "turnkey/api.ErrFull", "turnkey/api.ErrShape", "turnkey/api.ErrNone"], apart := false, laid := [("turnkey/api.ErrShape", laid_turnkey_api_ErrShape), ("turnkey/api.ErrRange", laid_turnkey_api_ErrRange), ("turnkey/api.ErrMany", laid_turnkey_api_ErrMany), ("turnkey/api.ErrNone", laid_turnkey_api_ErrNone), ("turnkey/api.ErrFull", laid_turnkey_api_ErrFull)] }
def PathFaultsSaid : Prop := pathFaultsRow.holds Tryd.pinned (OpenSpec.ofChange pathFaultsSpec)

/-- ITS FALSE NEIGHBOUR: 'it returns false'. Refute it at one input. -/
def pathFaultsWrong : ChangeSpec := { name := "pathFaults", fn := fun _ => fun
  | [d1, d2, d3] => { results := [.lit (.bool false)], args := [d1, d2, d3] }
  | _ => none }
def PathFaultsWrongFalsely : Prop := pathFaultsRow.holds Tryd.pinned (OpenSpec.ofChange pathFaultsWrong)

/-- 'turnkeylaw9.PathFills': WHATEVER THE INPUT: true; the input reads as it did. -/
def pathFillsSpec : ChangeSpec := { name := "pathFills", fn := fun _ => fun
  | [d1, d2] => { results := [.lit (.bool true)], args := [d1, d2] }
  | _ => none }
def pathFillsRow : OpenClaim := { program := "ytgaabaohkpjllaadoor", sum := "6d4dfd4e973feb2a978832a18cee1dcbaf104240661575f71d4b22a2b5108a4b", func := "turnkey/turnkeylaw9.PathFills", spec := "pathFills", unfollowed := true, recurses := true, named := ["turnkey/api.ErrRange", "turnkey/api.ErrMany", "turnkey/api.ErrFull", "turnkey/api.ErrShape", "turnkey/api.ErrNone"], apart := false, laid := [("turnkey/api.ErrShape", laid_turnkey_api_ErrShape), ("turnkey/api.ErrRange", laid_turnkey_api_ErrRange), ("turnkey/api.ErrMany", laid_turnkey_api_ErrMany), ("turnkey/api.ErrNone", laid_turnkey_api_ErrNone), ("turnkey/api.ErrFull", laid_turnkey_api_ErrFull)] }
def PathFillsSaid : Prop := pathFillsRow.holds Tryd.pinned (OpenSpec.ofChange pathFillsSpec)

/-- ITS FALSE NEIGHBOUR: 'it returns false'. Refute it at one input. -/
def pathFillsWrong : ChangeSpec := { name := "pathFills", fn := fun _ => fun
  | [d1, d2] => { results := [.lit (.bool false)], args := [d1, d2] }
  | _ => none }
def PathFillsWrongFalsely : Prop := pathFillsRow.holds Tryd.pinned (OpenSpec.ofChange pathFillsWrong)

/-- 'turnkeylaw9.PathLow': WHATEVER THE INPUT: true; the input reads as it did. -/
def pathLowSpec : ChangeSpec := { name := "pathLow", fn := fun _ => fun
  | [d1, d2, d3] => { results := [.lit (.bool true)], args := [d1, d2, d3] }
  | _ => none }
def pathLowRow : OpenClaim := { program := "ytgaabaohkpjllaadoor", sum := "6d4dfd4e973feb2a978832a18cee1dcbaf104240661575f71d4b22a2b5108a4b", func := "turnkey/turnkeylaw9.PathLow", spec := "pathLow", unfollowed := true, recurses := true, named := ["turnkey/api.ErrRange", "turnkey/api.ErrMany", "turnkey/api.ErrFull", "turnkey/api.ErrShape", "turnkey/api.ErrNone"], apart := false, laid := [("turnkey/api.ErrShape", laid_turnkey_api_ErrShape), ("turnkey/api.ErrRange", laid_turnkey_api_ErrRange), ("turnkey/api.ErrMany", laid_turnkey_api_ErrMany), ("turnkey/api.ErrNone", laid_turnkey_api_ErrNone), ("turnkey/api.ErrFull", laid_turnkey_api_ErrFull)] }
def PathLowSaid : Prop := pathLowRow.holds Tryd.pinned (OpenSpec.ofChange pathLowSpec)

/-- ITS FALSE NEIGHBOUR: 'it returns false'. Refute it at one input. -/
def pathLowWrong : ChangeSpec := { name := "pathLow", fn := fun _ => fun
  | [d1, d2, d3] => { results := [.lit (.bool false)], args := [d1, d2, d3] }
  | _ => none }
def PathLowWrongFalsely : Prop := pathLowRow.holds Tryd.pinned (OpenSpec.ofChange pathLowWrong)

/-- 'turnkeylaw10.CacheRoots': WHATEVER THE INPUT: true; the input reads as it did. -/
def cacheRootsSpec : ChangeSpec := { name := "cacheRoots", fn := fun _ => fun
  | [d1, d2] => { results := [.lit (.bool true)], args := [d1, d2] }
  | _ => none }
def cacheRootsRow : OpenClaim := { program := "ytgaabaohkpjllaadoor", sum := "6d4dfd4e973feb2a978832a18cee1dcbaf104240661575f71d4b22a2b5108a4b", func := "turnkey/turnkeylaw10.CacheRoots", spec := "cacheRoots", unfollowed := true, recurses := true, named := ["turnkey/api.ErrRange", "turnkey/api.ErrMany", "turnkey/api.ErrFull", "turnkey/api.ErrShape", "turnkey/api.ErrNone"], apart := false, laid := [("turnkey/api.ErrShape", laid_turnkey_api_ErrShape), ("turnkey/api.ErrRange", laid_turnkey_api_ErrRange), ("turnkey/api.ErrMany", laid_turnkey_api_ErrMany), ("turnkey/api.ErrNone", laid_turnkey_api_ErrNone), ("turnkey/api.ErrFull", laid_turnkey_api_ErrFull)] }
def CacheRootsSaid : Prop := cacheRootsRow.holds Tryd.pinned (OpenSpec.ofChange cacheRootsSpec)

/-- ITS FALSE NEIGHBOUR: 'it returns false'. Refute it at one input. -/
def cacheRootsWrong : ChangeSpec := { name := "cacheRoots", fn := fun _ => fun
  | [d1, d2] => { results := [.lit (.bool false)], args := [d1, d2] }
  | _ => none }
def CacheRootsWrongFalsely : Prop := cacheRootsRow.holds Tryd.pinned (OpenSpec.ofChange cacheRootsWrong)

/-- 'turnkeylaw10.CacheEldest': WHATEVER THE INPUT: true; the input reads as it did. -/
def cacheEldestSpec : ChangeSpec := { name := "cacheEldest", fn := fun _ => fun
  | [d1, d2] => { results := [.lit (.bool true)], args := [d1, d2] }
  | _ => none }
def cacheEldestRow : OpenClaim := { program := "ytgaabaohkpjllaadoor", sum := "6d4dfd4e973feb2a978832a18cee1dcbaf104240661575f71d4b22a2b5108a4b", func := "turnkey/turnkeylaw10.CacheEldest", spec := "cacheEldest", unfollowed := true, recurses := true, named := ["turnkey/api.ErrRange", "turnkey/api.ErrMany", "turnkey/api.ErrFull", "turnkey/api.ErrShape", "turnkey/api.ErrNone", "turnkey/api.ErrEnd", "turnkey/api.ErrLimit", "turnkey/api.ErrOwn", "turnkey/api.ErrState", "turnkey/api.ErrRight", "turnkey/api.ErrWord", "turnkey/api.ErrNumber"], apart := false, laid := [("turnkey/api.ErrEnd", laid_turnkey_api_ErrEnd), ("turnkey/api.ErrShape", laid_turnkey_api_ErrShape), ("turnkey/api.ErrRange", laid_turnkey_api_ErrRange), ("turnkey/api.ErrMany", laid_turnkey_api_ErrMany), ("turnkey/api.ErrNone", laid_turnkey_api_ErrNone), ("turnkey/api.ErrFull", laid_turnkey_api_ErrFull), ("turnkey/api.ErrLimit", laid_turnkey_api_ErrLimit), ("turnkey/api.ErrOwn", laid_turnkey_api_ErrOwn), ("turnkey/api.ErrState", laid_turnkey_api_ErrState), ("turnkey/api.ErrRight", laid_turnkey_api_ErrRight), ("turnkey/api.ErrWord", laid_turnkey_api_ErrWord), ("turnkey/api.ErrNumber", laid_turnkey_api_ErrNumber)] }
def CacheEldestSaid : Prop := cacheEldestRow.holds Tryd.pinned (OpenSpec.ofChange cacheEldestSpec)

/-- ITS FALSE NEIGHBOUR: 'it returns false'. Refute it at one input. -/
def cacheEldestWrong : ChangeSpec := { name := "cacheEldest", fn := fun _ => fun
  | [d1, d2] => { results := [.lit (.bool false)], args := [d1, d2] }
  | _ => none }
def CacheEldestWrongFalsely : Prop := cacheEldestRow.holds Tryd.pinned (OpenSpec.ofChange cacheEldestWrong)

/-- 'turnkeylaw10.CacheGone': WHATEVER THE INPUT: true; the input reads as it did. -/
def cacheGoneSpec : ChangeSpec := { name := "cacheGone", fn := fun _ => fun
  | [d1, d2] => { results := [.lit (.bool true)], args := [d1, d2] }
  | _ => none }
def cacheGoneRow : OpenClaim := { program := "ytgaabaohkpjllaadoor", sum := "6d4dfd4e973feb2a978832a18cee1dcbaf104240661575f71d4b22a2b5108a4b", func := "turnkey/turnkeylaw10.CacheGone", spec := "cacheGone", unfollowed := true, recurses := true, named := ["turnkey/api.ErrRange", "turnkey/api.ErrMany", "turnkey/api.ErrFull", "turnkey/api.ErrShape", "turnkey/api.ErrNone"], apart := false, laid := [("turnkey/api.ErrShape", laid_turnkey_api_ErrShape), ("turnkey/api.ErrRange", laid_turnkey_api_ErrRange), ("turnkey/api.ErrMany", laid_turnkey_api_ErrMany), ("turnkey/api.ErrNone", laid_turnkey_api_ErrNone), ("turnkey/api.ErrFull", laid_turnkey_api_ErrFull)] }
def CacheGoneSaid : Prop := cacheGoneRow.holds Tryd.pinned (OpenSpec.ofChange cacheGoneSpec)

/-- ITS FALSE NEIGHBOUR: 'it returns false'. Refute it at one input. -/
def cacheGoneWrong : ChangeSpec := { name := "cacheGone", fn := fun _ => fun
  | [d1, d2] => { results := [.lit (.bool false)], args := [d1, d2] }
  | _ => none }
def CacheGoneWrongFalsely : Prop := cacheGoneRow.holds Tryd.pinned (OpenSpec.ofChange cacheGoneWrong)

/-- 'turnkeylaw10.CacheFinds': WHATEVER THE INPUT: true; the input reads as it did. -/
def cacheFindsSpec : ChangeSpec := { name := "cacheFinds", fn := fun _ => fun
  | [d1, d2, d3, d4] => { results := [.lit (.bool true)], args := [d1, d2, d3, d4] }
  | _ => none }
def cacheFindsRow : OpenClaim := { program := "ytgaabaohkpjllaadoor", sum := "6d4dfd4e973feb2a978832a18cee1dcbaf104240661575f71d4b22a2b5108a4b", func := "turnkey/turnkeylaw10.CacheFinds", spec := "cacheFinds", unfollowed := true, recurses := true, named := ["turnkey/api.ErrRange", "turnkey/api.ErrMany", "turnkey/api.ErrFull", "turnkey/api.ErrShape", "turnkey/api.ErrNone"], apart := false, laid := [("turnkey/api.ErrShape", laid_turnkey_api_ErrShape), ("turnkey/api.ErrRange", laid_turnkey_api_ErrRange), ("turnkey/api.ErrMany", laid_turnkey_api_ErrMany), ("turnkey/api.ErrNone", laid_turnkey_api_ErrNone), ("turnkey/api.ErrFull", laid_turnkey_api_ErrFull)] }
def CacheFindsSaid : Prop := cacheFindsRow.holds Tryd.pinned (OpenSpec.ofChange cacheFindsSpec)

/-- ITS FALSE NEIGHBOUR: 'it returns false'. Refute it at one input. -/
def cacheFindsWrong : ChangeSpec := { name := "cacheFinds", fn := fun _ => fun
  | [d1, d2, d3, d4] => { results := [.lit (.bool false)], args := [d1, d2, d3, d4] }
  | _ => none }
def CacheFindsWrongFalsely : Prop := cacheFindsRow.holds Tryd.pinned (OpenSpec.ofChange cacheFindsWrong)

/-- 'turnkeylaw10.CacheHits': WHATEVER THE INPUT: true; the input reads as it did. -/
def cacheHitsSpec : ChangeSpec := { name := "cacheHits", fn := fun _ => fun
  | [d1, d2, d3] => { results := [.lit (.bool true)], args := [d1, d2, d3] }
  | _ => none }
def cacheHitsRow : OpenClaim := { program := "ytgaabaohkpjllaadoor", sum := "6d4dfd4e973feb2a978832a18cee1dcbaf104240661575f71d4b22a2b5108a4b", func := "turnkey/turnkeylaw10.CacheHits", spec := "cacheHits", unfollowed := true, recurses := true, named := ["turnkey/api.ErrRange", "turnkey/api.ErrMany", "turnkey/api.ErrFull", "turnkey/api.ErrShape", "turnkey/api.ErrNone"], apart := false, laid := [("turnkey/api.ErrShape", laid_turnkey_api_ErrShape), ("turnkey/api.ErrRange", laid_turnkey_api_ErrRange), ("turnkey/api.ErrMany", laid_turnkey_api_ErrMany), ("turnkey/api.ErrNone", laid_turnkey_api_ErrNone), ("turnkey/api.ErrFull", laid_turnkey_api_ErrFull)] }
def CacheHitsSaid : Prop := cacheHitsRow.holds Tryd.pinned (OpenSpec.ofChange cacheHitsSpec)

/-- ITS FALSE NEIGHBOUR: 'it returns false'. Refute it at one input. -/
def cacheHitsWrong : ChangeSpec := { name := "cacheHits", fn := fun _ => fun
  | [d1, d2, d3] => { results := [.lit (.bool false)], args := [d1, d2, d3] }
  | _ => none }
def CacheHitsWrongFalsely : Prop := cacheHitsRow.holds Tryd.pinned (OpenSpec.ofChange cacheHitsWrong)

/- THE SECOND FORM. 'bulk': how many values and letters a reading holds, each counted each time it is reached (what is shared counts as often as it is met; a slice's spare places count too). A statement '..UptoSaid' is the law's where the arguments, and the package variables that the reading takes, are together of bulk at most 1048576: NARROWER than '..Said'. Prove '..Said' where nothing that the law and all that it calls make is longer than what came in: it says more and counts as full. Else prove '..UptoSaid'. A law counts once. -/
mutual
def uptoBulk {H : Type} : DataW H → Nat
  | .lit (.string bytes) => bytes.length + 1
  | .lit _ => 1
  | .nil => 1
  | .ptr d => uptoBulk d + 1
  | .slice elems spare => uptoBulkAll elems + uptoBulkAll spare + 1
  | .agg parts => uptoBulkAll parts + 1
  | .iface _ d => uptoBulk d + 1
  | .map entries => uptoBulkEntries entries + 1
  | .held _ => 1
def uptoBulkAll {H : Type} : List (DataW H) → Nat
  | [] => 0
  | d :: r => uptoBulk d + uptoBulkAll r
def uptoBulkEntries {H : Type} : List (Lit × DataW H) → Nat
  | [] => 0
  | x :: r => uptoBulkEntry x + uptoBulkEntries r
def uptoBulkEntry {H : Type} : Lit × DataW H → Nat
  | (.string bytes, d) => bytes.length + uptoBulk d + 1
  | (_, d) => uptoBulk d + 1
 end
def uptoSmall : (H : Type) → List (DataW H) → Bool := fun _ ds => decide (uptoBulkAll ds ≤ 1048576)
def OpenSpec.upto (s : _root_.Go.ChangeSpec) : _root_.Go.OpenSpec := { _root_.Go.OpenSpec.ofChange s with cond := some uptoSmall }

/-- 'turnkeylaw9.PathRights', WHERE WHAT IT READS IS OF BULK AT MOST 1048576: true; the input reads as it did. -/
def pathRightsUptoRow : OpenClaim := { program := "ytgaabaohkpjllaadoor", sum := "6d4dfd4e973feb2a978832a18cee1dcbaf104240661575f71d4b22a2b5108a4b", func := "turnkey/turnkeylaw9.PathRights", spec := "pathRights", unfollowed := true, recurses := true, named := ["turnkey/api.ErrRange", "turnkey/api.ErrMany", "turnkey/api.ErrFull", "turnkey/api.ErrShape", "turnkey/api.ErrNone"], apart := false, laid := [("turnkey/api.ErrShape", laid_turnkey_api_ErrShape), ("turnkey/api.ErrRange", laid_turnkey_api_ErrRange), ("turnkey/api.ErrMany", laid_turnkey_api_ErrMany), ("turnkey/api.ErrNone", laid_turnkey_api_ErrNone), ("turnkey/api.ErrFull", laid_turnkey_api_ErrFull)], narrowed := true }
def PathRightsUptoSaid : Prop := pathRightsUptoRow.holds Tryd.pinned (OpenSpec.upto pathRightsSpec)

/-- 'turnkeylaw9.PathLoops', WHERE WHAT IT READS IS OF BULK AT MOST 1048576: true; the input reads as it did. -/
def pathLoopsUptoRow : OpenClaim := { program := "ytgaabaohkpjllaadoor", sum := "6d4dfd4e973feb2a978832a18cee1dcbaf104240661575f71d4b22a2b5108a4b", func := "turnkey/turnkeylaw9.PathLoops", spec := "pathLoops", unfollowed := true, recurses := true, named := ["turnkey/api.ErrRange", "turnkey/api.ErrMany", "turnkey/api.ErrFull", "turnkey/api.ErrShape", "turnkey/api.ErrNone"], apart := false, laid := [("turnkey/api.ErrShape", laid_turnkey_api_ErrShape), ("turnkey/api.ErrRange", laid_turnkey_api_ErrRange), ("turnkey/api.ErrMany", laid_turnkey_api_ErrMany), ("turnkey/api.ErrNone", laid_turnkey_api_ErrNone), ("turnkey/api.ErrFull", laid_turnkey_api_ErrFull)], narrowed := true }
def PathLoopsUptoSaid : Prop := pathLoopsUptoRow.holds Tryd.pinned (OpenSpec.upto pathLoopsSpec)

/-- 'turnkeylaw9.PathFaults', WHERE WHAT IT READS IS OF BULK AT MOST 1048576: true; the input reads as it did. -/
def pathFaultsUptoRow : OpenClaim := { program := "ytgaabaohkpjllaadoor", sum := "6d4dfd4e973feb2a978832a18cee1dcbaf104240661575f71d4b22a2b5108a4b", func := "turnkey/turnkeylaw9.PathFaults", spec := "pathFaults", unfollowed := true, recurses := true, named := ["turnkey/api.ErrRange", "turnkey/api.ErrMany", "turnkey/api.ErrFull", "turnkey/api.ErrShape", "turnkey/api.ErrNone"], apart := false, laid := [("turnkey/api.ErrShape", laid_turnkey_api_ErrShape), ("turnkey/api.ErrRange", laid_turnkey_api_ErrRange), ("turnkey/api.ErrMany", laid_turnkey_api_ErrMany), ("turnkey/api.ErrNone", laid_turnkey_api_ErrNone), ("turnkey/api.ErrFull", laid_turnkey_api_ErrFull)], narrowed := true }
def PathFaultsUptoSaid : Prop := pathFaultsUptoRow.holds Tryd.pinned (OpenSpec.upto pathFaultsSpec)

/-- 'turnkeylaw9.PathFills', WHERE WHAT IT READS IS OF BULK AT MOST 1048576: true; the input reads as it did. -/
def pathFillsUptoRow : OpenClaim := { program := "ytgaabaohkpjllaadoor", sum := "6d4dfd4e973feb2a978832a18cee1dcbaf104240661575f71d4b22a2b5108a4b", func := "turnkey/turnkeylaw9.PathFills", spec := "pathFills", unfollowed := true, recurses := true, named := ["turnkey/api.ErrRange", "turnkey/api.ErrMany", "turnkey/api.ErrFull", "turnkey/api.ErrShape", "turnkey/api.ErrNone"], apart := false, laid := [("turnkey/api.ErrShape", laid_turnkey_api_ErrShape), ("turnkey/api.ErrRange", laid_turnkey_api_ErrRange), ("turnkey/api.ErrMany", laid_turnkey_api_ErrMany), ("turnkey/api.ErrNone", laid_turnkey_api_ErrNone), ("turnkey/api.ErrFull", laid_turnkey_api_ErrFull)], narrowed := true }
def PathFillsUptoSaid : Prop := pathFillsUptoRow.holds Tryd.pinned (OpenSpec.upto pathFillsSpec)

/-- 'turnkeylaw9.PathLow', WHERE WHAT IT READS IS OF BULK AT MOST 1048576: true; the input reads as it did. -/
def pathLowUptoRow : OpenClaim := { program := "ytgaabaohkpjllaadoor", sum := "6d4dfd4e973feb2a978832a18cee1dcbaf104240661575f71d4b22a2b5108a4b", func := "turnkey/turnkeylaw9.PathLow", spec := "pathLow", unfollowed := true, recurses := true, named := ["turnkey/api.ErrRange", "turnkey/api.ErrMany", "turnkey/api.ErrFull", "turnkey/api.ErrShape", "turnkey/api.ErrNone"], apart := false, laid := [("turnkey/api.ErrShape", laid_turnkey_api_ErrShape), ("turnkey/api.ErrRange", laid_turnkey_api_ErrRange), ("turnkey/api.ErrMany", laid_turnkey_api_ErrMany), ("turnkey/api.ErrNone", laid_turnkey_api_ErrNone), ("turnkey/api.ErrFull", laid_turnkey_api_ErrFull)], narrowed := true }
def PathLowUptoSaid : Prop := pathLowUptoRow.holds Tryd.pinned (OpenSpec.upto pathLowSpec)

/-- 'turnkeylaw10.CacheRoots', WHERE WHAT IT READS IS OF BULK AT MOST 1048576: true; the input reads as it did. -/
def cacheRootsUptoRow : OpenClaim := { program := "ytgaabaohkpjllaadoor", sum := "6d4dfd4e973feb2a978832a18cee1dcbaf104240661575f71d4b22a2b5108a4b", func := "turnkey/turnkeylaw10.CacheRoots", spec := "cacheRoots", unfollowed := true, recurses := true, named := ["turnkey/api.ErrRange", "turnkey/api.ErrMany", "turnkey/api.ErrFull", "turnkey/api.ErrShape", "turnkey/api.ErrNone"], apart := false, laid := [("turnkey/api.ErrShape", laid_turnkey_api_ErrShape), ("turnkey/api.ErrRange", laid_turnkey_api_ErrRange), ("turnkey/api.ErrMany", laid_turnkey_api_ErrMany), ("turnkey/api.ErrNone", laid_turnkey_api_ErrNone), ("turnkey/api.ErrFull", laid_turnkey_api_ErrFull)], narrowed := true }
def CacheRootsUptoSaid : Prop := cacheRootsUptoRow.holds Tryd.pinned (OpenSpec.upto cacheRootsSpec)

/-- 'turnkeylaw10.CacheEldest', WHERE WHAT IT READS IS OF BULK AT MOST 1048576: true; the input reads as it did. -/
def cacheEldestUptoRow : OpenClaim := { program := "ytgaabaohkpjllaadoor", sum := "6d4dfd4e973feb2a978832a18cee1dcbaf104240661575f71d4b22a2b5108a4b", func := "turnkey/turnkeylaw10.CacheEldest", spec := "cacheEldest", unfollowed := true, recurses := true, named := ["turnkey/api.ErrRange", "turnkey/api.ErrMany", "turnkey/api.ErrFull", "turnkey/api.ErrShape", "turnkey/api.ErrNone", "turnkey/api.ErrEnd", "turnkey/api.ErrLimit", "turnkey/api.ErrOwn", "turnkey/api.ErrState", "turnkey/api.ErrRight", "turnkey/api.ErrWord", "turnkey/api.ErrNumber"], apart := false, laid := [("turnkey/api.ErrEnd", laid_turnkey_api_ErrEnd), ("turnkey/api.ErrShape", laid_turnkey_api_ErrShape), ("turnkey/api.ErrRange", laid_turnkey_api_ErrRange), ("turnkey/api.ErrMany", laid_turnkey_api_ErrMany), ("turnkey/api.ErrNone", laid_turnkey_api_ErrNone), ("turnkey/api.ErrFull", laid_turnkey_api_ErrFull), ("turnkey/api.ErrLimit", laid_turnkey_api_ErrLimit), ("turnkey/api.ErrOwn", laid_turnkey_api_ErrOwn), ("turnkey/api.ErrState", laid_turnkey_api_ErrState), ("turnkey/api.ErrRight", laid_turnkey_api_ErrRight), ("turnkey/api.ErrWord", laid_turnkey_api_ErrWord), ("turnkey/api.ErrNumber", laid_turnkey_api_ErrNumber)], narrowed := true }
def CacheEldestUptoSaid : Prop := cacheEldestUptoRow.holds Tryd.pinned (OpenSpec.upto cacheEldestSpec)

/-- 'turnkeylaw10.CacheGone', WHERE WHAT IT READS IS OF BULK AT MOST 1048576: true; the input reads as it did. -/
def cacheGoneUptoRow : OpenClaim := { program := "ytgaabaohkpjllaadoor", sum := "6d4dfd4e973feb2a978832a18cee1dcbaf104240661575f71d4b22a2b5108a4b", func := "turnkey/turnkeylaw10.CacheGone", spec := "cacheGone", unfollowed := true, recurses := true, named := ["turnkey/api.ErrRange", "turnkey/api.ErrMany", "turnkey/api.ErrFull", "turnkey/api.ErrShape", "turnkey/api.ErrNone"], apart := false, laid := [("turnkey/api.ErrShape", laid_turnkey_api_ErrShape), ("turnkey/api.ErrRange", laid_turnkey_api_ErrRange), ("turnkey/api.ErrMany", laid_turnkey_api_ErrMany), ("turnkey/api.ErrNone", laid_turnkey_api_ErrNone), ("turnkey/api.ErrFull", laid_turnkey_api_ErrFull)], narrowed := true }
def CacheGoneUptoSaid : Prop := cacheGoneUptoRow.holds Tryd.pinned (OpenSpec.upto cacheGoneSpec)

/-- 'turnkeylaw10.CacheFinds', WHERE WHAT IT READS IS OF BULK AT MOST 1048576: true; the input reads as it did. -/
def cacheFindsUptoRow : OpenClaim := { program := "ytgaabaohkpjllaadoor", sum := "6d4dfd4e973feb2a978832a18cee1dcbaf104240661575f71d4b22a2b5108a4b", func := "turnkey/turnkeylaw10.CacheFinds", spec := "cacheFinds", unfollowed := true, recurses := true, named := ["turnkey/api.ErrRange", "turnkey/api.ErrMany", "turnkey/api.ErrFull", "turnkey/api.ErrShape", "turnkey/api.ErrNone"], apart := false, laid := [("turnkey/api.ErrShape", laid_turnkey_api_ErrShape), ("turnkey/api.ErrRange", laid_turnkey_api_ErrRange), ("turnkey/api.ErrMany", laid_turnkey_api_ErrMany), ("turnkey/api.ErrNone", laid_turnkey_api_ErrNone), ("turnkey/api.ErrFull", laid_turnkey_api_ErrFull)], narrowed := true }
def CacheFindsUptoSaid : Prop := cacheFindsUptoRow.holds Tryd.pinned (OpenSpec.upto cacheFindsSpec)

/-- 'turnkeylaw10.CacheHits', WHERE WHAT IT READS IS OF BULK AT MOST 1048576: true; the input reads as it did. -/
def cacheHitsUptoRow : OpenClaim := { program := "ytgaabaohkpjllaadoor", sum := "6d4dfd4e973feb2a978832a18cee1dcbaf104240661575f71d4b22a2b5108a4b", func := "turnkey/turnkeylaw10.CacheHits", spec := "cacheHits", unfollowed := true, recurses := true, named := ["turnkey/api.ErrRange", "turnkey/api.ErrMany", "turnkey/api.ErrFull", "turnkey/api.ErrShape", "turnkey/api.ErrNone"], apart := false, laid := [("turnkey/api.ErrShape", laid_turnkey_api_ErrShape), ("turnkey/api.ErrRange", laid_turnkey_api_ErrRange), ("turnkey/api.ErrMany", laid_turnkey_api_ErrMany), ("turnkey/api.ErrNone", laid_turnkey_api_ErrNone), ("turnkey/api.ErrFull", laid_turnkey_api_ErrFull)], narrowed := true }
def CacheHitsUptoSaid : Prop := cacheHitsUptoRow.holds Tryd.pinned (OpenSpec.upto cacheHitsSpec)

end Rows
end Go.Proofs.YtgaabaohkpjllaaDoor
