/-
  NARROWER THAN 'FOR EVERY INPUT', by the rows' own cells (each row's printed sentence says how): DomStalls: laid · DomResumes: laid · DomPlays: laid · MakerSeals: laid · MakerTrust: laid · MakerMany: laid · MakerPlays: laid.
  DERIVED. THE GIVEN ROWS OF THIS SEAT. 7 by the template 'for every input the law returns true; each argument reads behind the call as it read before'; 0 by the template 'total and deterministic' (their statements: YtbmfpkpcljihgaaDoorTotals.lean).
  GIVEN WITH THE SEED: the statements are not yours to turn. If you find one false, say at which input.
  Laid BY PROGRAM, IN A SANDBOX (cutbox-rows.mjs): the forced cells as the released guide's own fill.sh prints them over the translation e609fd2c0e4ea783… (all of the seat's roots in one cut). By AI agents, Wed Nov 11 2026. No macro, syntax, notation, axiom, sorry.
-/
import Derived.Test.YtbmfpkpcljihgaaDoorChecked
import GoSem.Claim
import GoSem.ClaimJoined
import GoSem.ClaimMapViews
import Derived.JoinedTies
import Derived.KernelRfl
namespace Go.Proofs.YtbmfpkpcljihgaaDoor
/- THE CELL 'sum', in the pinned program and in every row, IS THE sha256 OF THE DUMP (.gsa) THAT YtbmfpkpcljihgaaDoorProg.lean LOADS. Nothing in Lean hashes anything: it is a label: what it is worth is what the hold of that sum in a sandbox is worth. -/
noncomputable def Tryd.pinned : Pinned := { name := "ytbmfpkpcljihgaadoor", sum := "e609fd2c0e4ea783939d51115f3d9e1b49d06dd6f6af21d414f65049d76c983a", checked := Tryd.checked }
namespace Rows
def none {H : Type} : Left H := { results := [], args := [] }

/- WHAT THE LISTED PACKAGE-LEVEL VARIABLES READ AS WHEN THE CALL BEGINS. Each datum BY PROGRAM (the guide's laid-datum.mjs) off the statement by which the dump's own 'gosem.cut.vars' lays the variable. In a bare row this is a premise. The card (YtbmfpkpcljihgaaDoorCards.lean) ties it to the program's text. -/
def laid_turnkey_api_ErrRange {H : Type} : DataW H := .iface "*errors.errorString" (.ptr (.agg [.lit (.string [97, 32, 110, 117, 109, 98, 101, 114, 32, 111, 117, 116, 32, 111, 102, 32, 105, 116, 115, 32, 114, 97, 110, 103, 101])]))
def laid_turnkey_api_ErrFull {H : Type} : DataW H := .iface "*errors.errorString" (.ptr (.agg [.lit (.string [116, 104, 101, 114, 101, 32, 105, 115, 32, 110, 111, 32, 114, 111, 111, 109])]))
def laid_turnkey_api_ErrShape {H : Type} : DataW H := .iface "*errors.errorString" (.ptr (.agg [.lit (.string [110, 111, 116, 32, 97, 115, 32, 105, 116, 32, 104, 97, 115, 32, 116, 111, 32, 98, 101])]))
def laid_turnkey_api_ErrNone {H : Type} : DataW H := .iface "*errors.errorString" (.ptr (.agg [.lit (.string [116, 104, 101, 114, 101, 32, 105, 115, 32, 110, 111, 110, 101])]))
def laid_turnkey_api_ErrEnd {H : Type} : DataW H := .iface "*errors.errorString" (.ptr (.agg [.lit (.string [105, 116, 32, 101, 110, 100, 115, 32, 116, 111, 111, 32, 101, 97, 114, 108, 121])]))
def laid_turnkey_api_ErrMany {H : Type} : DataW H := .iface "*errors.errorString" (.ptr (.agg [.lit (.string [116, 111, 111, 32, 109, 97, 110, 121])]))
def laid_turnkey_api_ErrLimit {H : Type} : DataW H := .iface "*errors.errorString" (.ptr (.agg [.lit (.string [97, 116, 32, 105, 116, 115, 32, 108, 105, 109, 105, 116])]))
def laid_turnkey_api_ErrOwn {H : Type} : DataW H := .iface "*errors.errorString" (.ptr (.agg [.lit (.string [110, 111, 116, 32, 111, 110, 101, 32, 111, 102, 32, 105, 116, 115, 32, 111, 119, 110])]))
def laid_turnkey_api_ErrState {H : Type} : DataW H := .iface "*errors.errorString" (.ptr (.agg [.lit (.string [110, 111, 116, 32, 105, 110, 32, 116, 104, 105, 115, 32, 115, 116, 97, 116, 101])]))
def laid_turnkey_api_ErrRight {H : Type} : DataW H := .iface "*errors.errorString" (.ptr (.agg [.lit (.string [105, 116, 32, 108, 97, 99, 107, 115, 32, 116, 104, 101, 32, 114, 105, 103, 104, 116])]))
def laid_turnkey_api_ErrWord {H : Type} : DataW H := .iface "*errors.errorString" (.ptr (.agg [.lit (.string [110, 111, 32, 115, 117, 99, 104, 32, 119, 111, 114, 100])]))
def laid_turnkey_api_ErrNumber {H : Type} : DataW H := .iface "*errors.errorString" (.ptr (.agg [.lit (.string [110, 111, 32, 115, 117, 99, 104, 32, 110, 117, 109, 98, 101, 114])]))

/-- 'turnkeylaw16.DomStalls': WHATEVER THE INPUT: true; the input reads as it did. -/
def domStallsSpec : ChangeSpec := { name := "domStalls", fn := fun _ => fun
  | [d1, d2] => { results := [.lit (.bool true)], args := [d1, d2] }
  | _ => none }
def domStallsRow : OpenClaim := { program := "ytbmfpkpcljihgaadoor", sum := "e609fd2c0e4ea783939d51115f3d9e1b49d06dd6f6af21d414f65049d76c983a", func := "turnkey/turnkeylaw16.DomStalls", spec := "domStalls", named := ["turnkey/api.ErrRange", "turnkey/api.ErrFull"], apart := false, laid := [("turnkey/api.ErrRange", laid_turnkey_api_ErrRange), ("turnkey/api.ErrFull", laid_turnkey_api_ErrFull)] }
def DomStallsSaid : Prop := domStallsRow.holds Tryd.pinned (OpenSpec.ofChange domStallsSpec)

/-- ITS FALSE NEIGHBOUR: 'it returns false'. Refute it at one input. -/
def domStallsWrong : ChangeSpec := { name := "domStalls", fn := fun _ => fun
  | [d1, d2] => { results := [.lit (.bool false)], args := [d1, d2] }
  | _ => none }
def DomStallsWrongFalsely : Prop := domStallsRow.holds Tryd.pinned (OpenSpec.ofChange domStallsWrong)

/-- 'turnkeylaw16.DomResumes': WHATEVER THE INPUT: true; the input reads as it did. -/
def domResumesSpec : ChangeSpec := { name := "domResumes", fn := fun _ => fun
  | [d1, d2] => { results := [.lit (.bool true)], args := [d1, d2] }
  | _ => none }
def domResumesRow : OpenClaim := { program := "ytbmfpkpcljihgaadoor", sum := "e609fd2c0e4ea783939d51115f3d9e1b49d06dd6f6af21d414f65049d76c983a", func := "turnkey/turnkeylaw16.DomResumes", spec := "domResumes", named := ["turnkey/api.ErrRange", "turnkey/api.ErrFull", "turnkey/api.ErrNone", "turnkey/api.ErrShape"], apart := false, laid := [("turnkey/api.ErrShape", laid_turnkey_api_ErrShape), ("turnkey/api.ErrRange", laid_turnkey_api_ErrRange), ("turnkey/api.ErrNone", laid_turnkey_api_ErrNone), ("turnkey/api.ErrFull", laid_turnkey_api_ErrFull)] }
def DomResumesSaid : Prop := domResumesRow.holds Tryd.pinned (OpenSpec.ofChange domResumesSpec)

/-- ITS FALSE NEIGHBOUR: 'it returns false'. Refute it at one input. -/
def domResumesWrong : ChangeSpec := { name := "domResumes", fn := fun _ => fun
  | [d1, d2] => { results := [.lit (.bool false)], args := [d1, d2] }
  | _ => none }
def DomResumesWrongFalsely : Prop := domResumesRow.holds Tryd.pinned (OpenSpec.ofChange domResumesWrong)

/-- 'turnkeylaw16.DomPlays': WHATEVER THE INPUT: true; the input reads as it did. -/
def domPlaysSpec : ChangeSpec := { name := "domPlays", fn := fun _ => fun
  | [d1, d2, d3] => { results := [.lit (.bool true)], args := [d1, d2, d3] }
  | _ => none }
def domPlaysRow : OpenClaim := { program := "ytbmfpkpcljihgaadoor", sum := "e609fd2c0e4ea783939d51115f3d9e1b49d06dd6f6af21d414f65049d76c983a", func := "turnkey/turnkeylaw16.DomPlays", spec := "domPlays", named := ["turnkey/api.ErrRange", "turnkey/api.ErrFull", "turnkey/api.ErrEnd", "turnkey/api.ErrShape", "turnkey/api.ErrMany", "turnkey/api.ErrNone", "turnkey/api.ErrLimit", "turnkey/api.ErrOwn", "turnkey/api.ErrState", "turnkey/api.ErrRight", "turnkey/api.ErrWord", "turnkey/api.ErrNumber"], apart := false, laid := [("turnkey/api.ErrEnd", laid_turnkey_api_ErrEnd), ("turnkey/api.ErrShape", laid_turnkey_api_ErrShape), ("turnkey/api.ErrRange", laid_turnkey_api_ErrRange), ("turnkey/api.ErrMany", laid_turnkey_api_ErrMany), ("turnkey/api.ErrNone", laid_turnkey_api_ErrNone), ("turnkey/api.ErrFull", laid_turnkey_api_ErrFull), ("turnkey/api.ErrLimit", laid_turnkey_api_ErrLimit), ("turnkey/api.ErrOwn", laid_turnkey_api_ErrOwn), ("turnkey/api.ErrState", laid_turnkey_api_ErrState), ("turnkey/api.ErrRight", laid_turnkey_api_ErrRight), ("turnkey/api.ErrWord", laid_turnkey_api_ErrWord), ("turnkey/api.ErrNumber", laid_turnkey_api_ErrNumber)] }
def DomPlaysSaid : Prop := domPlaysRow.holds Tryd.pinned (OpenSpec.ofChange domPlaysSpec)

/-- ITS FALSE NEIGHBOUR: 'it returns false'. Refute it at one input. -/
def domPlaysWrong : ChangeSpec := { name := "domPlays", fn := fun _ => fun
  | [d1, d2, d3] => { results := [.lit (.bool false)], args := [d1, d2, d3] }
  | _ => none }
def DomPlaysWrongFalsely : Prop := domPlaysRow.holds Tryd.pinned (OpenSpec.ofChange domPlaysWrong)

/-- 'turnkeylaw20.MakerSeals': WHATEVER THE INPUT: true; the input reads as it did. -/
def makerSealsSpec : ChangeSpec := { name := "makerSeals", fn := fun _ => fun
  | [d1, d2, d3] => { results := [.lit (.bool true)], args := [d1, d2, d3] }
  | _ => none }
def makerSealsRow : OpenClaim := { program := "ytbmfpkpcljihgaadoor", sum := "e609fd2c0e4ea783939d51115f3d9e1b49d06dd6f6af21d414f65049d76c983a", func := "turnkey/turnkeylaw20.MakerSeals", spec := "makerSeals", unfollowed := true, recurses := true, named := ["turnkey/api.ErrRange", "turnkey/api.ErrFull", "turnkey/api.ErrNone", "turnkey/api.ErrState", "turnkey/api.ErrShape", "turnkey/api.ErrEnd", "turnkey/api.ErrMany", "turnkey/api.ErrLimit", "turnkey/api.ErrOwn", "turnkey/api.ErrRight", "turnkey/api.ErrWord", "turnkey/api.ErrNumber"], apart := false, laid := [("turnkey/api.ErrEnd", laid_turnkey_api_ErrEnd), ("turnkey/api.ErrShape", laid_turnkey_api_ErrShape), ("turnkey/api.ErrRange", laid_turnkey_api_ErrRange), ("turnkey/api.ErrMany", laid_turnkey_api_ErrMany), ("turnkey/api.ErrNone", laid_turnkey_api_ErrNone), ("turnkey/api.ErrFull", laid_turnkey_api_ErrFull), ("turnkey/api.ErrLimit", laid_turnkey_api_ErrLimit), ("turnkey/api.ErrOwn", laid_turnkey_api_ErrOwn), ("turnkey/api.ErrState", laid_turnkey_api_ErrState), ("turnkey/api.ErrRight", laid_turnkey_api_ErrRight), ("turnkey/api.ErrWord", laid_turnkey_api_ErrWord), ("turnkey/api.ErrNumber", laid_turnkey_api_ErrNumber)] }
def MakerSealsSaid : Prop := makerSealsRow.holds Tryd.pinned (OpenSpec.ofChange makerSealsSpec)

/-- ITS FALSE NEIGHBOUR: 'it returns false'. Refute it at one input. -/
def makerSealsWrong : ChangeSpec := { name := "makerSeals", fn := fun _ => fun
  | [d1, d2, d3] => { results := [.lit (.bool false)], args := [d1, d2, d3] }
  | _ => none }
def MakerSealsWrongFalsely : Prop := makerSealsRow.holds Tryd.pinned (OpenSpec.ofChange makerSealsWrong)

/-- 'turnkeylaw20.MakerTrust': WHATEVER THE INPUT: true; the input reads as it did. -/
def makerTrustSpec : ChangeSpec := { name := "makerTrust", fn := fun _ => fun
  | [d1, d2, d3] => { results := [.lit (.bool true)], args := [d1, d2, d3] }
  | _ => none }
def makerTrustRow : OpenClaim := { program := "ytbmfpkpcljihgaadoor", sum := "e609fd2c0e4ea783939d51115f3d9e1b49d06dd6f6af21d414f65049d76c983a", func := "turnkey/turnkeylaw20.MakerTrust", spec := "makerTrust", unfollowed := true, recurses := true, named := ["turnkey/api.ErrRange", "turnkey/api.ErrFull", "turnkey/api.ErrNone", "turnkey/api.ErrState", "turnkey/api.ErrShape"], apart := false, laid := [("turnkey/api.ErrShape", laid_turnkey_api_ErrShape), ("turnkey/api.ErrRange", laid_turnkey_api_ErrRange), ("turnkey/api.ErrNone", laid_turnkey_api_ErrNone), ("turnkey/api.ErrFull", laid_turnkey_api_ErrFull), ("turnkey/api.ErrState", laid_turnkey_api_ErrState)] }
def MakerTrustSaid : Prop := makerTrustRow.holds Tryd.pinned (OpenSpec.ofChange makerTrustSpec)

/-- ITS FALSE NEIGHBOUR: 'it returns false'. Refute it at one input. -/
def makerTrustWrong : ChangeSpec := { name := "makerTrust", fn := fun _ => fun
  | [d1, d2, d3] => { results := [.lit (.bool false)], args := [d1, d2, d3] }
  | _ => none }
def MakerTrustWrongFalsely : Prop := makerTrustRow.holds Tryd.pinned (OpenSpec.ofChange makerTrustWrong)

/-- 'turnkeylaw20.MakerMany': WHATEVER THE INPUT: true; the input reads as it did. -/
def makerManySpec : ChangeSpec := { name := "makerMany", fn := fun _ => fun
  | [d1, d2, d3] => { results := [.lit (.bool true)], args := [d1, d2, d3] }
  | _ => none }
def makerManyRow : OpenClaim := { program := "ytbmfpkpcljihgaadoor", sum := "e609fd2c0e4ea783939d51115f3d9e1b49d06dd6f6af21d414f65049d76c983a", func := "turnkey/turnkeylaw20.MakerMany", spec := "makerMany", unfollowed := true, recurses := true, named := ["turnkey/api.ErrRange", "turnkey/api.ErrFull", "turnkey/api.ErrNone", "turnkey/api.ErrState", "turnkey/api.ErrShape", "turnkey/api.ErrEnd", "turnkey/api.ErrMany", "turnkey/api.ErrLimit", "turnkey/api.ErrOwn", "turnkey/api.ErrRight", "turnkey/api.ErrWord", "turnkey/api.ErrNumber"], apart := false, laid := [("turnkey/api.ErrEnd", laid_turnkey_api_ErrEnd), ("turnkey/api.ErrShape", laid_turnkey_api_ErrShape), ("turnkey/api.ErrRange", laid_turnkey_api_ErrRange), ("turnkey/api.ErrMany", laid_turnkey_api_ErrMany), ("turnkey/api.ErrNone", laid_turnkey_api_ErrNone), ("turnkey/api.ErrFull", laid_turnkey_api_ErrFull), ("turnkey/api.ErrLimit", laid_turnkey_api_ErrLimit), ("turnkey/api.ErrOwn", laid_turnkey_api_ErrOwn), ("turnkey/api.ErrState", laid_turnkey_api_ErrState), ("turnkey/api.ErrRight", laid_turnkey_api_ErrRight), ("turnkey/api.ErrWord", laid_turnkey_api_ErrWord), ("turnkey/api.ErrNumber", laid_turnkey_api_ErrNumber)] }
def MakerManySaid : Prop := makerManyRow.holds Tryd.pinned (OpenSpec.ofChange makerManySpec)

/-- ITS FALSE NEIGHBOUR: 'it returns false'. Refute it at one input. -/
def makerManyWrong : ChangeSpec := { name := "makerMany", fn := fun _ => fun
  | [d1, d2, d3] => { results := [.lit (.bool false)], args := [d1, d2, d3] }
  | _ => none }
def MakerManyWrongFalsely : Prop := makerManyRow.holds Tryd.pinned (OpenSpec.ofChange makerManyWrong)

/-- 'turnkeylaw20.MakerPlays': WHATEVER THE INPUT: true; the input reads as it did. -/
def makerPlaysSpec : ChangeSpec := { name := "makerPlays", fn := fun _ => fun
  | [d1, d2] => { results := [.lit (.bool true)], args := [d1, d2] }
  | _ => none }
def makerPlaysRow : OpenClaim := { program := "ytbmfpkpcljihgaadoor", sum := "e609fd2c0e4ea783939d51115f3d9e1b49d06dd6f6af21d414f65049d76c983a", func := "turnkey/turnkeylaw20.MakerPlays", spec := "makerPlays", unfollowed := true, recurses := true, named := ["turnkey/api.ErrRange", "turnkey/api.ErrFull", "turnkey/api.ErrNone", "turnkey/api.ErrState", "turnkey/api.ErrEnd", "turnkey/api.ErrShape", "turnkey/api.ErrMany", "turnkey/api.ErrLimit", "turnkey/api.ErrOwn", "turnkey/api.ErrRight", "turnkey/api.ErrWord", "turnkey/api.ErrNumber"], apart := false, laid := [("turnkey/api.ErrEnd", laid_turnkey_api_ErrEnd), ("turnkey/api.ErrShape", laid_turnkey_api_ErrShape), ("turnkey/api.ErrRange", laid_turnkey_api_ErrRange), ("turnkey/api.ErrMany", laid_turnkey_api_ErrMany), ("turnkey/api.ErrNone", laid_turnkey_api_ErrNone), ("turnkey/api.ErrFull", laid_turnkey_api_ErrFull), ("turnkey/api.ErrLimit", laid_turnkey_api_ErrLimit), ("turnkey/api.ErrOwn", laid_turnkey_api_ErrOwn), ("turnkey/api.ErrState", laid_turnkey_api_ErrState), ("turnkey/api.ErrRight", laid_turnkey_api_ErrRight), ("turnkey/api.ErrWord", laid_turnkey_api_ErrWord), ("turnkey/api.ErrNumber", laid_turnkey_api_ErrNumber)] }
def MakerPlaysSaid : Prop := makerPlaysRow.holds Tryd.pinned (OpenSpec.ofChange makerPlaysSpec)

/-- ITS FALSE NEIGHBOUR: 'it returns false'. Refute it at one input. -/
def makerPlaysWrong : ChangeSpec := { name := "makerPlays", fn := fun _ => fun
  | [d1, d2] => { results := [.lit (.bool false)], args := [d1, d2] }
  | _ => none }
def MakerPlaysWrongFalsely : Prop := makerPlaysRow.holds Tryd.pinned (OpenSpec.ofChange makerPlaysWrong)

/- THE SECOND FORM. 'bulk': how many values and letters a reading holds, each counted each time it is reached (what is shared counts as often as it is met; a slice's spare places count too). A statement '..UptoSaid' is the law's where the arguments, and the package variables that the reading takes, are together of bulk at most 1048576: NARROWER than '..Said'. Prove '..Said' where nothing that the law and all that it calls make is longer than what came in: it says more and counts as full. Else prove '..UptoSaid'. A law counts once. -/
mutual
def uptoBulk {H : Type} : DataW H → Nat
  | .lit (.string bytes) => bytes.length + 1
  | .lit _ => 1
  | .nil => 1
  | .ptr d => uptoBulk d + 1
  | .slice elems spare => uptoBulkAll elems + uptoBulkAll spare + 1
  | .agg parts => uptoBulkAll parts + 1
  | .iface _ d => uptoBulk d + 1
  | .map entries => uptoBulkEntries entries + 1
  | .held _ => 1
def uptoBulkAll {H : Type} : List (DataW H) → Nat
  | [] => 0
  | d :: r => uptoBulk d + uptoBulkAll r
def uptoBulkEntries {H : Type} : List (Lit × DataW H) → Nat
  | [] => 0
  | x :: r => uptoBulkEntry x + uptoBulkEntries r
def uptoBulkEntry {H : Type} : Lit × DataW H → Nat
  | (.string bytes, d) => bytes.length + uptoBulk d + 1
  | (_, d) => uptoBulk d + 1
 end
def uptoSmall : (H : Type) → List (DataW H) → Bool := fun _ ds => decide (uptoBulkAll ds ≤ 1048576)
def OpenSpec.upto (s : _root_.Go.ChangeSpec) : _root_.Go.OpenSpec := { _root_.Go.OpenSpec.ofChange s with cond := some uptoSmall }

/-- 'turnkeylaw16.DomStalls', WHERE WHAT IT READS IS OF BULK AT MOST 1048576: true; the input reads as it did. -/
def domStallsUptoRow : OpenClaim := { program := "ytbmfpkpcljihgaadoor", sum := "e609fd2c0e4ea783939d51115f3d9e1b49d06dd6f6af21d414f65049d76c983a", func := "turnkey/turnkeylaw16.DomStalls", spec := "domStalls", named := ["turnkey/api.ErrRange", "turnkey/api.ErrFull"], apart := false, laid := [("turnkey/api.ErrRange", laid_turnkey_api_ErrRange), ("turnkey/api.ErrFull", laid_turnkey_api_ErrFull)], narrowed := true }
def DomStallsUptoSaid : Prop := domStallsUptoRow.holds Tryd.pinned (OpenSpec.upto domStallsSpec)

/-- 'turnkeylaw16.DomResumes', WHERE WHAT IT READS IS OF BULK AT MOST 1048576: true; the input reads as it did. -/
def domResumesUptoRow : OpenClaim := { program := "ytbmfpkpcljihgaadoor", sum := "e609fd2c0e4ea783939d51115f3d9e1b49d06dd6f6af21d414f65049d76c983a", func := "turnkey/turnkeylaw16.DomResumes", spec := "domResumes", named := ["turnkey/api.ErrRange", "turnkey/api.ErrFull", "turnkey/api.ErrNone", "turnkey/api.ErrShape"], apart := false, laid := [("turnkey/api.ErrShape", laid_turnkey_api_ErrShape), ("turnkey/api.ErrRange", laid_turnkey_api_ErrRange), ("turnkey/api.ErrNone", laid_turnkey_api_ErrNone), ("turnkey/api.ErrFull", laid_turnkey_api_ErrFull)], narrowed := true }
def DomResumesUptoSaid : Prop := domResumesUptoRow.holds Tryd.pinned (OpenSpec.upto domResumesSpec)

/-- 'turnkeylaw16.DomPlays', WHERE WHAT IT READS IS OF BULK AT MOST 1048576: true; the input reads as it did. -/
def domPlaysUptoRow : OpenClaim := { program := "ytbmfpkpcljihgaadoor", sum := "e609fd2c0e4ea783939d51115f3d9e1b49d06dd6f6af21d414f65049d76c983a", func := "turnkey/turnkeylaw16.DomPlays", spec := "domPlays", named := ["turnkey/api.ErrRange", "turnkey/api.ErrFull", "turnkey/api.ErrEnd", "turnkey/api.ErrShape", "turnkey/api.ErrMany", "turnkey/api.ErrNone", "turnkey/api.ErrLimit", "turnkey/api.ErrOwn", "turnkey/api.ErrState", "turnkey/api.ErrRight", "turnkey/api.ErrWord", "turnkey/api.ErrNumber"], apart := false, laid := [("turnkey/api.ErrEnd", laid_turnkey_api_ErrEnd), ("turnkey/api.ErrShape", laid_turnkey_api_ErrShape), ("turnkey/api.ErrRange", laid_turnkey_api_ErrRange), ("turnkey/api.ErrMany", laid_turnkey_api_ErrMany), ("turnkey/api.ErrNone", laid_turnkey_api_ErrNone), ("turnkey/api.ErrFull", laid_turnkey_api_ErrFull), ("turnkey/api.ErrLimit", laid_turnkey_api_ErrLimit), ("turnkey/api.ErrOwn", laid_turnkey_api_ErrOwn), ("turnkey/api.ErrState", laid_turnkey_api_ErrState), ("turnkey/api.ErrRight", laid_turnkey_api_ErrRight), ("turnkey/api.ErrWord", laid_turnkey_api_ErrWord), ("turnkey/api.ErrNumber", laid_turnkey_api_ErrNumber)], narrowed := true }
def DomPlaysUptoSaid : Prop := domPlaysUptoRow.holds Tryd.pinned (OpenSpec.upto domPlaysSpec)

/-- 'turnkeylaw20.MakerSeals', WHERE WHAT IT READS IS OF BULK AT MOST 1048576: true; the input reads as it did. -/
def makerSealsUptoRow : OpenClaim := { program := "ytbmfpkpcljihgaadoor", sum := "e609fd2c0e4ea783939d51115f3d9e1b49d06dd6f6af21d414f65049d76c983a", func := "turnkey/turnkeylaw20.MakerSeals", spec := "makerSeals", unfollowed := true, recurses := true, named := ["turnkey/api.ErrRange", "turnkey/api.ErrFull", "turnkey/api.ErrNone", "turnkey/api.ErrState", "turnkey/api.ErrShape", "turnkey/api.ErrEnd", "turnkey/api.ErrMany", "turnkey/api.ErrLimit", "turnkey/api.ErrOwn", "turnkey/api.ErrRight", "turnkey/api.ErrWord", "turnkey/api.ErrNumber"], apart := false, laid := [("turnkey/api.ErrEnd", laid_turnkey_api_ErrEnd), ("turnkey/api.ErrShape", laid_turnkey_api_ErrShape), ("turnkey/api.ErrRange", laid_turnkey_api_ErrRange), ("turnkey/api.ErrMany", laid_turnkey_api_ErrMany), ("turnkey/api.ErrNone", laid_turnkey_api_ErrNone), ("turnkey/api.ErrFull", laid_turnkey_api_ErrFull), ("turnkey/api.ErrLimit", laid_turnkey_api_ErrLimit), ("turnkey/api.ErrOwn", laid_turnkey_api_ErrOwn), ("turnkey/api.ErrState", laid_turnkey_api_ErrState), ("turnkey/api.ErrRight", laid_turnkey_api_ErrRight), ("turnkey/api.ErrWord", laid_turnkey_api_ErrWord), ("turnkey/api.ErrNumber", laid_turnkey_api_ErrNumber)], narrowed := true }
def MakerSealsUptoSaid : Prop := makerSealsUptoRow.holds Tryd.pinned (OpenSpec.upto makerSealsSpec)

/-- 'turnkeylaw20.MakerTrust', WHERE WHAT IT READS IS OF BULK AT MOST 1048576: true; the input reads as it did. -/
def makerTrustUptoRow : OpenClaim := { program := "ytbmfpkpcljihgaadoor", sum := "e609fd2c0e4ea783939d51115f3d9e1b49d06dd6f6af21d414f65049d76c983a", func := "turnkey/turnkeylaw20.MakerTrust", spec := "makerTrust", unfollowed := true, recurses := true, named := ["turnkey/api.ErrRange", "turnkey/api.ErrFull", "turnkey/api.ErrNone", "turnkey/api.ErrState", "turnkey/api.ErrShape"], apart := false, laid := [("turnkey/api.ErrShape", laid_turnkey_api_ErrShape), ("turnkey/api.ErrRange", laid_turnkey_api_ErrRange), ("turnkey/api.ErrNone", laid_turnkey_api_ErrNone), ("turnkey/api.ErrFull", laid_turnkey_api_ErrFull), ("turnkey/api.ErrState", laid_turnkey_api_ErrState)], narrowed := true }
def MakerTrustUptoSaid : Prop := makerTrustUptoRow.holds Tryd.pinned (OpenSpec.upto makerTrustSpec)

/-- 'turnkeylaw20.MakerMany', WHERE WHAT IT READS IS OF BULK AT MOST 1048576: true; the input reads as it did. -/
def makerManyUptoRow : OpenClaim := { program := "ytbmfpkpcljihgaadoor", sum := "e609fd2c0e4ea783939d51115f3d9e1b49d06dd6f6af21d414f65049d76c983a", func := "turnkey/turnkeylaw20.MakerMany", spec := "makerMany", unfollowed := true, recurses := true, named := ["turnkey/api.ErrRange", "turnkey/api.ErrFull", "turnkey/api.ErrNone", "turnkey/api.ErrState", "turnkey/api.ErrShape", "turnkey/api.ErrEnd", "turnkey/api.ErrMany", "turnkey/api.ErrLimit", "turnkey/api.ErrOwn", "turnkey/api.ErrRight", "turnkey/api.ErrWord", "turnkey/api.ErrNumber"], apart := false, laid := [("turnkey/api.ErrEnd", laid_turnkey_api_ErrEnd), ("turnkey/api.ErrShape", laid_turnkey_api_ErrShape), ("turnkey/api.ErrRange", laid_turnkey_api_ErrRange), ("turnkey/api.ErrMany", laid_turnkey_api_ErrMany), ("turnkey/api.ErrNone", laid_turnkey_api_ErrNone), ("turnkey/api.ErrFull", laid_turnkey_api_ErrFull), ("turnkey/api.ErrLimit", laid_turnkey_api_ErrLimit), ("turnkey/api.ErrOwn", laid_turnkey_api_ErrOwn), ("turnkey/api.ErrState", laid_turnkey_api_ErrState), ("turnkey/api.ErrRight", laid_turnkey_api_ErrRight), ("turnkey/api.ErrWord", laid_turnkey_api_ErrWord), ("turnkey/api.ErrNumber", laid_turnkey_api_ErrNumber)], narrowed := true }
def MakerManyUptoSaid : Prop := makerManyUptoRow.holds Tryd.pinned (OpenSpec.upto makerManySpec)

/-- 'turnkeylaw20.MakerPlays', WHERE WHAT IT READS IS OF BULK AT MOST 1048576: true; the input reads as it did. -/
def makerPlaysUptoRow : OpenClaim := { program := "ytbmfpkpcljihgaadoor", sum := "e609fd2c0e4ea783939d51115f3d9e1b49d06dd6f6af21d414f65049d76c983a", func := "turnkey/turnkeylaw20.MakerPlays", spec := "makerPlays", unfollowed := true, recurses := true, named := ["turnkey/api.ErrRange", "turnkey/api.ErrFull", "turnkey/api.ErrNone", "turnkey/api.ErrState", "turnkey/api.ErrEnd", "turnkey/api.ErrShape", "turnkey/api.ErrMany", "turnkey/api.ErrLimit", "turnkey/api.ErrOwn", "turnkey/api.ErrRight", "turnkey/api.ErrWord", "turnkey/api.ErrNumber"], apart := false, laid := [("turnkey/api.ErrEnd", laid_turnkey_api_ErrEnd), ("turnkey/api.ErrShape", laid_turnkey_api_ErrShape), ("turnkey/api.ErrRange", laid_turnkey_api_ErrRange), ("turnkey/api.ErrMany", laid_turnkey_api_ErrMany), ("turnkey/api.ErrNone", laid_turnkey_api_ErrNone), ("turnkey/api.ErrFull", laid_turnkey_api_ErrFull), ("turnkey/api.ErrLimit", laid_turnkey_api_ErrLimit), ("turnkey/api.ErrOwn", laid_turnkey_api_ErrOwn), ("turnkey/api.ErrState", laid_turnkey_api_ErrState), ("turnkey/api.ErrRight", laid_turnkey_api_ErrRight), ("turnkey/api.ErrWord", laid_turnkey_api_ErrWord), ("turnkey/api.ErrNumber", laid_turnkey_api_ErrNumber)], narrowed := true }
def MakerPlaysUptoSaid : Prop := makerPlaysUptoRow.holds Tryd.pinned (OpenSpec.upto makerPlaysSpec)

end Rows
end Go.Proofs.YtbmfpkpcljihgaaDoor
