/-
  NARROWER THAN 'FOR EVERY INPUT', by the rows' own cells (each row's printed sentence says how): ArenaLeast: laid · ArenaVersions: laid.
  DERIVED. THE GIVEN ROWS OF THIS SEAT. 2 by the template 'for every input the law returns true; each argument reads behind the call as it read before'; 0 by the template 'total and deterministic' (their statements: YtcbogififkanjaaDoorTotals.lean).
  GIVEN WITH THE SEED: the statements are not yours to turn. If you find one false, say at which input.
  Laid BY PROGRAM, IN A SANDBOX (cutbox-rows.mjs): the forced cells as the released guide's own fill.sh prints them over the translation dfa317945fd5e3d1… (all of the seat's roots in one cut). By AI agents, Wed Nov 11 2026. No macro, syntax, notation, axiom, sorry.
-/
import Derived.Test.YtcbogififkanjaaDoorChecked
import GoSem.Claim
import GoSem.ClaimJoined
import GoSem.ClaimMapViews
import Derived.JoinedTies
import Derived.KernelRfl
namespace Go.Proofs.YtcbogififkanjaaDoor
/- THE CELL 'sum', in the pinned program and in every row, IS THE sha256 OF THE DUMP (.gsa) THAT YtcbogififkanjaaDoorProg.lean LOADS. Nothing in Lean hashes anything: it is a label: what it is worth is what the hold of that sum in a sandbox is worth. -/
noncomputable def Tryd.pinned : Pinned := { name := "ytcbogififkanjaadoor", sum := "dfa317945fd5e3d15b777d963d5c3371ac69f4d867ca61265c1ffe8a0a509ebf", checked := Tryd.checked }
namespace Rows
def none {H : Type} : Left H := { results := [], args := [] }

/- WHAT THE LISTED PACKAGE-LEVEL VARIABLES READ AS WHEN THE CALL BEGINS. Each datum BY PROGRAM (the guide's laid-datum.mjs) off the statement by which the dump's own 'gosem.cut.vars' lays the variable. In a bare row this is a premise. The card (YtcbogififkanjaaDoorCards.lean) ties it to the program's text. -/
def laid_turnkey_api_ErrRange {H : Type} : DataW H := .iface "*errors.errorString" (.ptr (.agg [.lit (.string [97, 32, 110, 117, 109, 98, 101, 114, 32, 111, 117, 116, 32, 111, 102, 32, 105, 116, 115, 32, 114, 97, 110, 103, 101])]))
def laid_turnkey_api_ErrNone {H : Type} : DataW H := .iface "*errors.errorString" (.ptr (.agg [.lit (.string [116, 104, 101, 114, 101, 32, 105, 115, 32, 110, 111, 110, 101])]))
def laid_turnkey_api_ErrFull {H : Type} : DataW H := .iface "*errors.errorString" (.ptr (.agg [.lit (.string [116, 104, 101, 114, 101, 32, 105, 115, 32, 110, 111, 32, 114, 111, 111, 109])]))

/-- 'turnkeylaw4.ArenaLeast': WHATEVER THE INPUT: true; the input reads as it did. -/
def arenaLeastSpec : ChangeSpec := { name := "arenaLeast", fn := fun _ => fun
  | [d1, d2] => { results := [.lit (.bool true)], args := [d1, d2] }
  | _ => none }
def arenaLeastRow : OpenClaim := { program := "ytcbogififkanjaadoor", sum := "dfa317945fd5e3d15b777d963d5c3371ac69f4d867ca61265c1ffe8a0a509ebf", func := "turnkey/turnkeylaw4.ArenaLeast", spec := "arenaLeast", named := ["turnkey/api.ErrRange", "turnkey/api.ErrFull", "turnkey/api.ErrNone"], apart := false, laid := [("turnkey/api.ErrRange", laid_turnkey_api_ErrRange), ("turnkey/api.ErrNone", laid_turnkey_api_ErrNone), ("turnkey/api.ErrFull", laid_turnkey_api_ErrFull)] }
def ArenaLeastSaid : Prop := arenaLeastRow.holds Tryd.pinned (OpenSpec.ofChange arenaLeastSpec)

/-- ITS FALSE NEIGHBOUR: 'it returns false'. Refute it at one input. -/
def arenaLeastWrong : ChangeSpec := { name := "arenaLeast", fn := fun _ => fun
  | [d1, d2] => { results := [.lit (.bool false)], args := [d1, d2] }
  | _ => none }
def ArenaLeastWrongFalsely : Prop := arenaLeastRow.holds Tryd.pinned (OpenSpec.ofChange arenaLeastWrong)

/-- 'turnkeylaw4.ArenaVersions': WHATEVER THE INPUT: true; the input reads as it did. -/
def arenaVersionsSpec : ChangeSpec := { name := "arenaVersions", fn := fun _ => fun
  | [d1, d2, d3] => { results := [.lit (.bool true)], args := [d1, d2, d3] }
  | _ => none }
def arenaVersionsRow : OpenClaim := { program := "ytcbogififkanjaadoor", sum := "dfa317945fd5e3d15b777d963d5c3371ac69f4d867ca61265c1ffe8a0a509ebf", func := "turnkey/turnkeylaw4.ArenaVersions", spec := "arenaVersions", named := ["turnkey/api.ErrRange", "turnkey/api.ErrFull", "turnkey/api.ErrNone"], apart := false, laid := [("turnkey/api.ErrRange", laid_turnkey_api_ErrRange), ("turnkey/api.ErrNone", laid_turnkey_api_ErrNone), ("turnkey/api.ErrFull", laid_turnkey_api_ErrFull)] }
def ArenaVersionsSaid : Prop := arenaVersionsRow.holds Tryd.pinned (OpenSpec.ofChange arenaVersionsSpec)

/-- ITS FALSE NEIGHBOUR: 'it returns false'. Refute it at one input. -/
def arenaVersionsWrong : ChangeSpec := { name := "arenaVersions", fn := fun _ => fun
  | [d1, d2, d3] => { results := [.lit (.bool false)], args := [d1, d2, d3] }
  | _ => none }
def ArenaVersionsWrongFalsely : Prop := arenaVersionsRow.holds Tryd.pinned (OpenSpec.ofChange arenaVersionsWrong)

/- THE SECOND FORM. 'bulk': how many values and letters a reading holds, each counted each time it is reached (what is shared counts as often as it is met; a slice's spare places count too). A statement '..UptoSaid' is the law's where the arguments, and the package variables that the reading takes, are together of bulk at most 1048576: NARROWER than '..Said'. Prove '..Said' where nothing that the law and all that it calls make is longer than what came in: it says more and counts as full. Else prove '..UptoSaid'. A law counts once. -/
mutual
def uptoBulk {H : Type} : DataW H → Nat
  | .lit (.string bytes) => bytes.length + 1
  | .lit _ => 1
  | .nil => 1
  | .ptr d => uptoBulk d + 1
  | .slice elems spare => uptoBulkAll elems + uptoBulkAll spare + 1
  | .agg parts => uptoBulkAll parts + 1
  | .iface _ d => uptoBulk d + 1
  | .map entries => uptoBulkEntries entries + 1
  | .held _ => 1
def uptoBulkAll {H : Type} : List (DataW H) → Nat
  | [] => 0
  | d :: r => uptoBulk d + uptoBulkAll r
def uptoBulkEntries {H : Type} : List (Lit × DataW H) → Nat
  | [] => 0
  | x :: r => uptoBulkEntry x + uptoBulkEntries r
def uptoBulkEntry {H : Type} : Lit × DataW H → Nat
  | (.string bytes, d) => bytes.length + uptoBulk d + 1
  | (_, d) => uptoBulk d + 1
 end
def uptoSmall : (H : Type) → List (DataW H) → Bool := fun _ ds => decide (uptoBulkAll ds ≤ 1048576)
def OpenSpec.upto (s : _root_.Go.ChangeSpec) : _root_.Go.OpenSpec := { _root_.Go.OpenSpec.ofChange s with cond := some uptoSmall }

/-- 'turnkeylaw4.ArenaLeast', WHERE WHAT IT READS IS OF BULK AT MOST 1048576: true; the input reads as it did. -/
def arenaLeastUptoRow : OpenClaim := { program := "ytcbogififkanjaadoor", sum := "dfa317945fd5e3d15b777d963d5c3371ac69f4d867ca61265c1ffe8a0a509ebf", func := "turnkey/turnkeylaw4.ArenaLeast", spec := "arenaLeast", named := ["turnkey/api.ErrRange", "turnkey/api.ErrFull", "turnkey/api.ErrNone"], apart := false, laid := [("turnkey/api.ErrRange", laid_turnkey_api_ErrRange), ("turnkey/api.ErrNone", laid_turnkey_api_ErrNone), ("turnkey/api.ErrFull", laid_turnkey_api_ErrFull)], narrowed := true }
def ArenaLeastUptoSaid : Prop := arenaLeastUptoRow.holds Tryd.pinned (OpenSpec.upto arenaLeastSpec)

/-- 'turnkeylaw4.ArenaVersions', WHERE WHAT IT READS IS OF BULK AT MOST 1048576: true; the input reads as it did. -/
def arenaVersionsUptoRow : OpenClaim := { program := "ytcbogififkanjaadoor", sum := "dfa317945fd5e3d15b777d963d5c3371ac69f4d867ca61265c1ffe8a0a509ebf", func := "turnkey/turnkeylaw4.ArenaVersions", spec := "arenaVersions", named := ["turnkey/api.ErrRange", "turnkey/api.ErrFull", "turnkey/api.ErrNone"], apart := false, laid := [("turnkey/api.ErrRange", laid_turnkey_api_ErrRange), ("turnkey/api.ErrNone", laid_turnkey_api_ErrNone), ("turnkey/api.ErrFull", laid_turnkey_api_ErrFull)], narrowed := true }
def ArenaVersionsUptoSaid : Prop := arenaVersionsUptoRow.holds Tryd.pinned (OpenSpec.upto arenaVersionsSpec)

end Rows
end Go.Proofs.YtcbogififkanjaaDoor
