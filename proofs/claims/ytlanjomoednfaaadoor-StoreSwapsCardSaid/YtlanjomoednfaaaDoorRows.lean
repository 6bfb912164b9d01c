/-
  NARROWER THAN 'FOR EVERY INPUT', by the rows' own cells (each row's printed sentence says how): NodeBounds: laid · NodeApart: laid · NodePlays: laid · KeyRows: laid · KeyBounds: laid · KeyUnlike: laid · KeySays: laid · KeyBack: laid · StoreSwaps: laid · StoreGone: laid · StorePlays: laid.
  DERIVED. THE GIVEN ROWS OF THIS SEAT. 11 by the template 'for every input the law returns true; each argument reads behind the call as it read before'; 0 by the template 'total and deterministic' (their statements: YtlanjomoednfaaaDoorTotals.lean).
  GIVEN WITH THE SEED: the statements are not yours to turn. If you find one false, say at which input.
  Laid BY PROGRAM, IN A SANDBOX (cutbox-rows.mjs): the forced cells as the released guide's own fill.sh prints them over the translation 24eae48f8e6bd65d… (all of the seat's roots in one cut). By AI agents, Wed Nov 11 2026. No macro, syntax, notation, axiom, sorry.
-/
import Derived.Test.YtlanjomoednfaaaDoorChecked
import GoSem.Claim
import GoSem.ClaimJoined
import GoSem.ClaimMapViews
import Derived.JoinedTies
import Derived.KernelRfl
namespace Go.Proofs.YtlanjomoednfaaaDoor
/- THE CELL 'sum', in the pinned program and in every row, IS THE sha256 OF THE DUMP (.gsa) THAT YtlanjomoednfaaaDoorProg.lean LOADS. Nothing in Lean hashes anything: it is a label: what it is worth is what the hold of that sum in a sandbox is worth. -/
noncomputable def Tryd.pinned : Pinned := { name := "ytlanjomoednfaaadoor", sum := "24eae48f8e6bd65d11a0498995fa8547fe742b9399750af848c90f207bb5b9ae", checked := Tryd.checked }
namespace Rows
def none {H : Type} : Left H := { results := [], args := [] }

/- WHAT THE LISTED PACKAGE-LEVEL VARIABLES READ AS WHEN THE CALL BEGINS. Each datum BY PROGRAM (the guide's laid-datum.mjs) off the statement by which the dump's own 'gosem.cut.vars' lays the variable. In a bare row this is a premise. The card (YtlanjomoednfaaaDoorCards.lean) ties it to the program's text. -/
def laid_turnkey_api_ErrEnd {H : Type} : DataW H := .iface "*errors.errorString" (.ptr (.agg [.lit (.string [105, 116, 32, 101, 110, 100, 115, 32, 116, 111, 111, 32, 101, 97, 114, 108, 121])]))
def laid_turnkey_api_ErrShape {H : Type} : DataW H := .iface "*errors.errorString" (.ptr (.agg [.lit (.string [110, 111, 116, 32, 97, 115, 32, 105, 116, 32, 104, 97, 115, 32, 116, 111, 32, 98, 101])]))
def laid_turnkey_api_ErrRange {H : Type} : DataW H := .iface "*errors.errorString" (.ptr (.agg [.lit (.string [97, 32, 110, 117, 109, 98, 101, 114, 32, 111, 117, 116, 32, 111, 102, 32, 105, 116, 115, 32, 114, 97, 110, 103, 101])]))
def laid_turnkey_api_ErrMany {H : Type} : DataW H := .iface "*errors.errorString" (.ptr (.agg [.lit (.string [116, 111, 111, 32, 109, 97, 110, 121])]))
def laid_turnkey_api_ErrNone {H : Type} : DataW H := .iface "*errors.errorString" (.ptr (.agg [.lit (.string [116, 104, 101, 114, 101, 32, 105, 115, 32, 110, 111, 110, 101])]))
def laid_turnkey_api_ErrFull {H : Type} : DataW H := .iface "*errors.errorString" (.ptr (.agg [.lit (.string [116, 104, 101, 114, 101, 32, 105, 115, 32, 110, 111, 32, 114, 111, 111, 109])]))
def laid_turnkey_api_ErrLimit {H : Type} : DataW H := .iface "*errors.errorString" (.ptr (.agg [.lit (.string [97, 116, 32, 105, 116, 115, 32, 108, 105, 109, 105, 116])]))
def laid_turnkey_api_ErrOwn {H : Type} : DataW H := .iface "*errors.errorString" (.ptr (.agg [.lit (.string [110, 111, 116, 32, 111, 110, 101, 32, 111, 102, 32, 105, 116, 115, 32, 111, 119, 110])]))
def laid_turnkey_api_ErrState {H : Type} : DataW H := .iface "*errors.errorString" (.ptr (.agg [.lit (.string [110, 111, 116, 32, 105, 110, 32, 116, 104, 105, 115, 32, 115, 116, 97, 116, 101])]))
def laid_turnkey_api_ErrRight {H : Type} : DataW H := .iface "*errors.errorString" (.ptr (.agg [.lit (.string [105, 116, 32, 108, 97, 99, 107, 115, 32, 116, 104, 101, 32, 114, 105, 103, 104, 116])]))
def laid_turnkey_api_ErrWord {H : Type} : DataW H := .iface "*errors.errorString" (.ptr (.agg [.lit (.string [110, 111, 32, 115, 117, 99, 104, 32, 119, 111, 114, 100])]))
def laid_turnkey_api_ErrNumber {H : Type} : DataW H := .iface "*errors.errorString" (.ptr (.agg [.lit (.string [110, 111, 32, 115, 117, 99, 104, 32, 110, 117, 109, 98, 101, 114])]))
def laid_math_bits_deBruijn32tab {H : Type} : DataW H := .agg [.lit (.int .u8 0), .lit (.int .u8 1), .lit (.int .u8 28), .lit (.int .u8 2), .lit (.int .u8 29), .lit (.int .u8 14), .lit (.int .u8 24), .lit (.int .u8 3), .lit (.int .u8 30), .lit (.int .u8 22), .lit (.int .u8 20), .lit (.int .u8 15), .lit (.int .u8 25), .lit (.int .u8 17), .lit (.int .u8 4), .lit (.int .u8 8), .lit (.int .u8 31), .lit (.int .u8 27), .lit (.int .u8 13), .lit (.int .u8 23), .lit (.int .u8 21), .lit (.int .u8 19), .lit (.int .u8 16), .lit (.int .u8 7), .lit (.int .u8 26), .lit (.int .u8 12), .lit (.int .u8 18), .lit (.int .u8 6), .lit (.int .u8 11), .lit (.int .u8 5), .lit (.int .u8 10), .lit (.int .u8 9)]
def laid_math_bits_deBruijn64tab {H : Type} : DataW H := .agg [.lit (.int .u8 0), .lit (.int .u8 1), .lit (.int .u8 56), .lit (.int .u8 2), .lit (.int .u8 57), .lit (.int .u8 49), .lit (.int .u8 28), .lit (.int .u8 3), .lit (.int .u8 61), .lit (.int .u8 58), .lit (.int .u8 42), .lit (.int .u8 50), .lit (.int .u8 38), .lit (.int .u8 29), .lit (.int .u8 17), .lit (.int .u8 4), .lit (.int .u8 62), .lit (.int .u8 47), .lit (.int .u8 59), .lit (.int .u8 36), .lit (.int .u8 45), .lit (.int .u8 43), .lit (.int .u8 51), .lit (.int .u8 22), .lit (.int .u8 53), .lit (.int .u8 39), .lit (.int .u8 33), .lit (.int .u8 30), .lit (.int .u8 24), .lit (.int .u8 18), .lit (.int .u8 12), .lit (.int .u8 5), .lit (.int .u8 63), .lit (.int .u8 55), .lit (.int .u8 48), .lit (.int .u8 27), .lit (.int .u8 60), .lit (.int .u8 41), .lit (.int .u8 37), .lit (.int .u8 16), .lit (.int .u8 46), .lit (.int .u8 35), .lit (.int .u8 44), .lit (.int .u8 21), .lit (.int .u8 52), .lit (.int .u8 32), .lit (.int .u8 23), .lit (.int .u8 11), .lit (.int .u8 54), .lit (.int .u8 26), .lit (.int .u8 40), .lit (.int .u8 15), .lit (.int .u8 34), .lit (.int .u8 20), .lit (.int .u8 31), .lit (.int .u8 10), .lit (.int .u8 25), .lit (.int .u8 14), .lit (.int .u8 19), .lit (.int .u8 9), .lit (.int .u8 13), .lit (.int .u8 8), .lit (.int .u8 7), .lit (.int .u8 6)]
def laid_internal_strconv_uint64pow10 {H : Type} : DataW H := .agg [.lit (.int .u64 1), .lit (.int .u64 10), .lit (.int .u64 100), .lit (.int .u64 1000), .lit (.int .u64 10000), .lit (.int .u64 100000), .lit (.int .u64 1000000), .lit (.int .u64 10000000), .lit (.int .u64 100000000), .lit (.int .u64 1000000000), .lit (.int .u64 10000000000), .lit (.int .u64 100000000000), .lit (.int .u64 1000000000000), .lit (.int .u64 10000000000000), .lit (.int .u64 100000000000000), .lit (.int .u64 1000000000000000), .lit (.int .u64 10000000000000000), .lit (.int .u64 100000000000000000), .lit (.int .u64 1000000000000000000), .lit (.int .u64 10000000000000000000)]

/-- 'turnkeylaw6.NodeBounds': WHATEVER THE INPUT: true; the input reads as it did. -/
def nodeBoundsSpec : ChangeSpec := { name := "nodeBounds", fn := fun _ => fun
  | [d1, d2] => { results := [.lit (.bool true)], args := [d1, d2] }
  | _ => none }
def nodeBoundsRow : OpenClaim := { program := "ytlanjomoednfaaadoor", sum := "24eae48f8e6bd65d11a0498995fa8547fe742b9399750af848c90f207bb5b9ae", func := "turnkey/turnkeylaw6.NodeBounds", spec := "nodeBounds", named := ["turnkey/api.ErrRange", "turnkey/api.ErrMany", "turnkey/api.ErrShape", "turnkey/api.ErrFull", "turnkey/api.ErrEnd", "turnkey/api.ErrNone", "turnkey/api.ErrLimit", "turnkey/api.ErrOwn", "turnkey/api.ErrState", "turnkey/api.ErrRight", "turnkey/api.ErrWord", "turnkey/api.ErrNumber"], apart := false, laid := [("turnkey/api.ErrEnd", laid_turnkey_api_ErrEnd), ("turnkey/api.ErrShape", laid_turnkey_api_ErrShape), ("turnkey/api.ErrRange", laid_turnkey_api_ErrRange), ("turnkey/api.ErrMany", laid_turnkey_api_ErrMany), ("turnkey/api.ErrNone", laid_turnkey_api_ErrNone), ("turnkey/api.ErrFull", laid_turnkey_api_ErrFull), ("turnkey/api.ErrLimit", laid_turnkey_api_ErrLimit), ("turnkey/api.ErrOwn", laid_turnkey_api_ErrOwn), ("turnkey/api.ErrState", laid_turnkey_api_ErrState), ("turnkey/api.ErrRight", laid_turnkey_api_ErrRight), ("turnkey/api.ErrWord", laid_turnkey_api_ErrWord), ("turnkey/api.ErrNumber", laid_turnkey_api_ErrNumber)] }
def NodeBoundsSaid : Prop := nodeBoundsRow.holds Tryd.pinned (OpenSpec.ofChange nodeBoundsSpec)

/-- ITS FALSE NEIGHBOUR: 'it returns false'. Refute it at one input. -/
def nodeBoundsWrong : ChangeSpec := { name := "nodeBounds", fn := fun _ => fun
  | [d1, d2] => { results := [.lit (.bool false)], args := [d1, d2] }
  | _ => none }
def NodeBoundsWrongFalsely : Prop := nodeBoundsRow.holds Tryd.pinned (OpenSpec.ofChange nodeBoundsWrong)

/-- 'turnkeylaw6.NodeApart': WHATEVER THE INPUT: true; the input reads as it did. -/
def nodeApartSpec : ChangeSpec := { name := "nodeApart", fn := fun _ => fun
  | [d1, d2, d3] => { results := [.lit (.bool true)], args := [d1, d2, d3] }
  | _ => none }
def nodeApartRow : OpenClaim := { program := "ytlanjomoednfaaadoor", sum := "24eae48f8e6bd65d11a0498995fa8547fe742b9399750af848c90f207bb5b9ae", func := "turnkey/turnkeylaw6.NodeApart", spec := "nodeApart", unfollowed := true, recurses := true, named := ["turnkey/api.ErrRange", "turnkey/api.ErrMany", "turnkey/api.ErrShape", "turnkey/api.ErrFull", "turnkey/api.ErrNone"], apart := false, laid := [("turnkey/api.ErrShape", laid_turnkey_api_ErrShape), ("turnkey/api.ErrRange", laid_turnkey_api_ErrRange), ("turnkey/api.ErrMany", laid_turnkey_api_ErrMany), ("turnkey/api.ErrNone", laid_turnkey_api_ErrNone), ("turnkey/api.ErrFull", laid_turnkey_api_ErrFull)] }
def NodeApartSaid : Prop := nodeApartRow.holds Tryd.pinned (OpenSpec.ofChange nodeApartSpec)

/-- ITS FALSE NEIGHBOUR: 'it returns false'. Refute it at one input. -/
def nodeApartWrong : ChangeSpec := { name := "nodeApart", fn := fun _ => fun
  | [d1, d2, d3] => { results := [.lit (.bool false)], args := [d1, d2, d3] }
  | _ => none }
def NodeApartWrongFalsely : Prop := nodeApartRow.holds Tryd.pinned (OpenSpec.ofChange nodeApartWrong)

/-- 'turnkeylaw6.NodePlays': WHATEVER THE INPUT: true; the input reads as it did. -/
def nodePlaysSpec : ChangeSpec := { name := "nodePlays", fn := fun _ => fun
  | [d1, d2, d3] => { results := [.lit (.bool true)], args := [d1, d2, d3] }
  | _ => none }
def nodePlaysRow : OpenClaim := { program := "ytlanjomoednfaaadoor", sum := "24eae48f8e6bd65d11a0498995fa8547fe742b9399750af848c90f207bb5b9ae", func := "turnkey/turnkeylaw6.NodePlays", spec := "nodePlays", named := ["turnkey/api.ErrRange", "turnkey/api.ErrMany", "turnkey/api.ErrShape", "turnkey/api.ErrFull", "turnkey/api.ErrEnd", "turnkey/api.ErrNone", "turnkey/api.ErrLimit", "turnkey/api.ErrOwn", "turnkey/api.ErrState", "turnkey/api.ErrRight", "turnkey/api.ErrWord", "turnkey/api.ErrNumber"], apart := false, laid := [("turnkey/api.ErrEnd", laid_turnkey_api_ErrEnd), ("turnkey/api.ErrShape", laid_turnkey_api_ErrShape), ("turnkey/api.ErrRange", laid_turnkey_api_ErrRange), ("turnkey/api.ErrMany", laid_turnkey_api_ErrMany), ("turnkey/api.ErrNone", laid_turnkey_api_ErrNone), ("turnkey/api.ErrFull", laid_turnkey_api_ErrFull), ("turnkey/api.ErrLimit", laid_turnkey_api_ErrLimit), ("turnkey/api.ErrOwn", laid_turnkey_api_ErrOwn), ("turnkey/api.ErrState", laid_turnkey_api_ErrState), ("turnkey/api.ErrRight", laid_turnkey_api_ErrRight), ("turnkey/api.ErrWord", laid_turnkey_api_ErrWord), ("turnkey/api.ErrNumber", laid_turnkey_api_ErrNumber)] }
def NodePlaysSaid : Prop := nodePlaysRow.holds Tryd.pinned (OpenSpec.ofChange nodePlaysSpec)

/-- ITS FALSE NEIGHBOUR: 'it returns false'. Refute it at one input. -/
def nodePlaysWrong : ChangeSpec := { name := "nodePlays", fn := fun _ => fun
  | [d1, d2, d3] => { results := [.lit (.bool false)], args := [d1, d2, d3] }
  | _ => none }
def NodePlaysWrongFalsely : Prop := nodePlaysRow.holds Tryd.pinned (OpenSpec.ofChange nodePlaysWrong)

/-- 'turnkeylaw3.KeyRows': WHATEVER THE INPUT: true; the input reads as it did. -/
def keyRowsSpec : ChangeSpec := { name := "keyRows", fn := fun _ => fun
  | [d] => { results := [.lit (.bool true)], args := [d] }
  | _ => none }
def keyRowsRow : OpenClaim := { program := "ytlanjomoednfaaadoor", sum := "24eae48f8e6bd65d11a0498995fa8547fe742b9399750af848c90f207bb5b9ae", func := "turnkey/turnkeylaw3.KeyRows", spec := "keyRows", named := ["internal/strconv.uint64pow10", "math/bits.deBruijn32tab", "math/bits.deBruijn64tab"], apart := false, laid := [("math/bits.deBruijn32tab", laid_math_bits_deBruijn32tab), ("math/bits.deBruijn64tab", laid_math_bits_deBruijn64tab), ("internal/strconv.uint64pow10", laid_internal_strconv_uint64pow10)] }
def KeyRowsSaid : Prop := keyRowsRow.holds Tryd.pinned (OpenSpec.ofChange keyRowsSpec)

/-- ITS FALSE NEIGHBOUR: 'it returns false'. Refute it at one input. -/
def keyRowsWrong : ChangeSpec := { name := "keyRows", fn := fun _ => fun
  | [d] => { results := [.lit (.bool false)], args := [d] }
  | _ => none }
def KeyRowsWrongFalsely : Prop := keyRowsRow.holds Tryd.pinned (OpenSpec.ofChange keyRowsWrong)

/-- 'turnkeylaw3.KeyBounds': WHATEVER THE INPUT: true; the input reads as it did. -/
def keyBoundsSpec : ChangeSpec := { name := "keyBounds", fn := fun _ => fun
  | [d1, d2, d3, d4] => { results := [.lit (.bool true)], args := [d1, d2, d3, d4] }
  | _ => none }
def keyBoundsRow : OpenClaim := { program := "ytlanjomoednfaaadoor", sum := "24eae48f8e6bd65d11a0498995fa8547fe742b9399750af848c90f207bb5b9ae", func := "turnkey/turnkeylaw3.KeyBounds", spec := "keyBounds", named := ["internal/strconv.uint64pow10", "math/bits.deBruijn32tab", "math/bits.deBruijn64tab", "turnkey/api.ErrShape", "turnkey/api.ErrRange"], apart := false, laid := [("math/bits.deBruijn32tab", laid_math_bits_deBruijn32tab), ("math/bits.deBruijn64tab", laid_math_bits_deBruijn64tab), ("internal/strconv.uint64pow10", laid_internal_strconv_uint64pow10), ("turnkey/api.ErrShape", laid_turnkey_api_ErrShape), ("turnkey/api.ErrRange", laid_turnkey_api_ErrRange)] }
def KeyBoundsSaid : Prop := keyBoundsRow.holds Tryd.pinned (OpenSpec.ofChange keyBoundsSpec)

/-- ITS FALSE NEIGHBOUR: 'it returns false'. Refute it at one input. -/
def keyBoundsWrong : ChangeSpec := { name := "keyBounds", fn := fun _ => fun
  | [d1, d2, d3, d4] => { results := [.lit (.bool false)], args := [d1, d2, d3, d4] }
  | _ => none }
def KeyBoundsWrongFalsely : Prop := keyBoundsRow.holds Tryd.pinned (OpenSpec.ofChange keyBoundsWrong)

/-- 'turnkeylaw3.KeyUnlike': WHATEVER THE INPUT: true; the input reads as it did. -/
def keyUnlikeSpec : ChangeSpec := { name := "keyUnlike", fn := fun _ => fun
  | [d1, d2] => { results := [.lit (.bool true)], args := [d1, d2] }
  | _ => none }
def keyUnlikeRow : OpenClaim := { program := "ytlanjomoednfaaadoor", sum := "24eae48f8e6bd65d11a0498995fa8547fe742b9399750af848c90f207bb5b9ae", func := "turnkey/turnkeylaw3.KeyUnlike", spec := "keyUnlike", named := ["internal/strconv.uint64pow10", "math/bits.deBruijn32tab", "math/bits.deBruijn64tab", "turnkey/api.ErrShape", "turnkey/api.ErrRange"], apart := false, laid := [("math/bits.deBruijn32tab", laid_math_bits_deBruijn32tab), ("math/bits.deBruijn64tab", laid_math_bits_deBruijn64tab), ("internal/strconv.uint64pow10", laid_internal_strconv_uint64pow10), ("turnkey/api.ErrShape", laid_turnkey_api_ErrShape), ("turnkey/api.ErrRange", laid_turnkey_api_ErrRange)] }
def KeyUnlikeSaid : Prop := keyUnlikeRow.holds Tryd.pinned (OpenSpec.ofChange keyUnlikeSpec)

/-- ITS FALSE NEIGHBOUR: 'it returns false'. Refute it at one input. -/
def keyUnlikeWrong : ChangeSpec := { name := "keyUnlike", fn := fun _ => fun
  | [d1, d2] => { results := [.lit (.bool false)], args := [d1, d2] }
  | _ => none }
def KeyUnlikeWrongFalsely : Prop := keyUnlikeRow.holds Tryd.pinned (OpenSpec.ofChange keyUnlikeWrong)

/-- 'turnkeylaw3.KeySays': WHATEVER THE INPUT: true; the input reads as it did. -/
def keySaysSpec : ChangeSpec := { name := "keySays", fn := fun _ => fun
  | [d1, d2, d3] => { results := [.lit (.bool true)], args := [d1, d2, d3] }
  | _ => none }
def keySaysRow : OpenClaim := { program := "ytlanjomoednfaaadoor", sum := "24eae48f8e6bd65d11a0498995fa8547fe742b9399750af848c90f207bb5b9ae", func := "turnkey/turnkeylaw3.KeySays", spec := "keySays", named := ["internal/strconv.uint64pow10", "math/bits.deBruijn32tab", "math/bits.deBruijn64tab", "turnkey/api.ErrShape", "turnkey/api.ErrRange", "turnkey/api.ErrEnd", "turnkey/api.ErrMany", "turnkey/api.ErrNone", "turnkey/api.ErrFull", "turnkey/api.ErrLimit", "turnkey/api.ErrOwn", "turnkey/api.ErrState", "turnkey/api.ErrRight", "turnkey/api.ErrWord", "turnkey/api.ErrNumber"], apart := false, laid := [("math/bits.deBruijn32tab", laid_math_bits_deBruijn32tab), ("math/bits.deBruijn64tab", laid_math_bits_deBruijn64tab), ("internal/strconv.uint64pow10", laid_internal_strconv_uint64pow10), ("turnkey/api.ErrEnd", laid_turnkey_api_ErrEnd), ("turnkey/api.ErrShape", laid_turnkey_api_ErrShape), ("turnkey/api.ErrRange", laid_turnkey_api_ErrRange), ("turnkey/api.ErrMany", laid_turnkey_api_ErrMany), ("turnkey/api.ErrNone", laid_turnkey_api_ErrNone), ("turnkey/api.ErrFull", laid_turnkey_api_ErrFull), ("turnkey/api.ErrLimit", laid_turnkey_api_ErrLimit), ("turnkey/api.ErrOwn", laid_turnkey_api_ErrOwn), ("turnkey/api.ErrState", laid_turnkey_api_ErrState), ("turnkey/api.ErrRight", laid_turnkey_api_ErrRight), ("turnkey/api.ErrWord", laid_turnkey_api_ErrWord), ("turnkey/api.ErrNumber", laid_turnkey_api_ErrNumber)] }
def KeySaysSaid : Prop := keySaysRow.holds Tryd.pinned (OpenSpec.ofChange keySaysSpec)

/-- ITS FALSE NEIGHBOUR: 'it returns false'. Refute it at one input. -/
def keySaysWrong : ChangeSpec := { name := "keySays", fn := fun _ => fun
  | [d1, d2, d3] => { results := [.lit (.bool false)], args := [d1, d2, d3] }
  | _ => none }
def KeySaysWrongFalsely : Prop := keySaysRow.holds Tryd.pinned (OpenSpec.ofChange keySaysWrong)

/-- 'turnkeylaw3.KeyBack': WHATEVER THE INPUT: true; the input reads as it did. -/
def keyBackSpec : ChangeSpec := { name := "keyBack", fn := fun _ => fun
  | [d1, d2, d3] => { results := [.lit (.bool true)], args := [d1, d2, d3] }
  | _ => none }
def keyBackRow : OpenClaim := { program := "ytlanjomoednfaaadoor", sum := "24eae48f8e6bd65d11a0498995fa8547fe742b9399750af848c90f207bb5b9ae", func := "turnkey/turnkeylaw3.KeyBack", spec := "keyBack", named := ["internal/strconv.uint64pow10", "math/bits.deBruijn32tab", "math/bits.deBruijn64tab", "turnkey/api.ErrShape", "turnkey/api.ErrRange"], apart := false, laid := [("math/bits.deBruijn32tab", laid_math_bits_deBruijn32tab), ("math/bits.deBruijn64tab", laid_math_bits_deBruijn64tab), ("internal/strconv.uint64pow10", laid_internal_strconv_uint64pow10), ("turnkey/api.ErrShape", laid_turnkey_api_ErrShape), ("turnkey/api.ErrRange", laid_turnkey_api_ErrRange)] }
def KeyBackSaid : Prop := keyBackRow.holds Tryd.pinned (OpenSpec.ofChange keyBackSpec)

/-- ITS FALSE NEIGHBOUR: 'it returns false'. Refute it at one input. -/
def keyBackWrong : ChangeSpec := { name := "keyBack", fn := fun _ => fun
  | [d1, d2, d3] => { results := [.lit (.bool false)], args := [d1, d2, d3] }
  | _ => none }
def KeyBackWrongFalsely : Prop := keyBackRow.holds Tryd.pinned (OpenSpec.ofChange keyBackWrong)

/-- 'turnkeylaw8.StoreSwaps': WHATEVER THE INPUT: true; the input reads as it did. -/
def storeSwapsSpec : ChangeSpec := { name := "storeSwaps", fn := fun _ => fun
  | [d1, d2, d3] => { results := [.lit (.bool true)], args := [d1, d2, d3] }
  | _ => none }
def storeSwapsRow : OpenClaim := { program := "ytlanjomoednfaaadoor", sum := "24eae48f8e6bd65d11a0498995fa8547fe742b9399750af848c90f207bb5b9ae", func := "turnkey/turnkeylaw8.StoreSwaps", spec := "storeSwaps", named := ["turnkey/api.ErrRange", "turnkey/api.ErrMany", "turnkey/api.ErrFull", "turnkey/api.ErrNone", "turnkey/api.ErrRight", "turnkey/api.ErrEnd", "turnkey/api.ErrShape", "turnkey/api.ErrLimit", "turnkey/api.ErrOwn", "turnkey/api.ErrState", "turnkey/api.ErrWord", "turnkey/api.ErrNumber"], apart := false, laid := [("turnkey/api.ErrEnd", laid_turnkey_api_ErrEnd), ("turnkey/api.ErrShape", laid_turnkey_api_ErrShape), ("turnkey/api.ErrRange", laid_turnkey_api_ErrRange), ("turnkey/api.ErrMany", laid_turnkey_api_ErrMany), ("turnkey/api.ErrNone", laid_turnkey_api_ErrNone), ("turnkey/api.ErrFull", laid_turnkey_api_ErrFull), ("turnkey/api.ErrLimit", laid_turnkey_api_ErrLimit), ("turnkey/api.ErrOwn", laid_turnkey_api_ErrOwn), ("turnkey/api.ErrState", laid_turnkey_api_ErrState), ("turnkey/api.ErrRight", laid_turnkey_api_ErrRight), ("turnkey/api.ErrWord", laid_turnkey_api_ErrWord), ("turnkey/api.ErrNumber", laid_turnkey_api_ErrNumber)] }
def StoreSwapsSaid : Prop := storeSwapsRow.holds Tryd.pinned (OpenSpec.ofChange storeSwapsSpec)

/-- ITS FALSE NEIGHBOUR: 'it returns false'. Refute it at one input. -/
def storeSwapsWrong : ChangeSpec := { name := "storeSwaps", fn := fun _ => fun
  | [d1, d2, d3] => { results := [.lit (.bool false)], args := [d1, d2, d3] }
  | _ => none }
def StoreSwapsWrongFalsely : Prop := storeSwapsRow.holds Tryd.pinned (OpenSpec.ofChange storeSwapsWrong)

/-- 'turnkeylaw8.StoreGone': WHATEVER THE INPUT: true; the input reads as it did. -/
def storeGoneSpec : ChangeSpec := { name := "storeGone", fn := fun _ => fun
  | [d1, d2] => { results := [.lit (.bool true)], args := [d1, d2] }
  | _ => none }
def storeGoneRow : OpenClaim := { program := "ytlanjomoednfaaadoor", sum := "24eae48f8e6bd65d11a0498995fa8547fe742b9399750af848c90f207bb5b9ae", func := "turnkey/turnkeylaw8.StoreGone", spec := "storeGone", named := ["turnkey/api.ErrRange", "turnkey/api.ErrMany", "turnkey/api.ErrFull", "turnkey/api.ErrNone", "turnkey/api.ErrRight", "turnkey/api.ErrEnd", "turnkey/api.ErrShape", "turnkey/api.ErrLimit", "turnkey/api.ErrOwn", "turnkey/api.ErrState", "turnkey/api.ErrWord", "turnkey/api.ErrNumber"], apart := false, laid := [("turnkey/api.ErrEnd", laid_turnkey_api_ErrEnd), ("turnkey/api.ErrShape", laid_turnkey_api_ErrShape), ("turnkey/api.ErrRange", laid_turnkey_api_ErrRange), ("turnkey/api.ErrMany", laid_turnkey_api_ErrMany), ("turnkey/api.ErrNone", laid_turnkey_api_ErrNone), ("turnkey/api.ErrFull", laid_turnkey_api_ErrFull), ("turnkey/api.ErrLimit", laid_turnkey_api_ErrLimit), ("turnkey/api.ErrOwn", laid_turnkey_api_ErrOwn), ("turnkey/api.ErrState", laid_turnkey_api_ErrState), ("turnkey/api.ErrRight", laid_turnkey_api_ErrRight), ("turnkey/api.ErrWord", laid_turnkey_api_ErrWord), ("turnkey/api.ErrNumber", laid_turnkey_api_ErrNumber)] }
def StoreGoneSaid : Prop := storeGoneRow.holds Tryd.pinned (OpenSpec.ofChange storeGoneSpec)

/-- ITS FALSE NEIGHBOUR: 'it returns false'. Refute it at one input. -/
def storeGoneWrong : ChangeSpec := { name := "storeGone", fn := fun _ => fun
  | [d1, d2] => { results := [.lit (.bool false)], args := [d1, d2] }
  | _ => none }
def StoreGoneWrongFalsely : Prop := storeGoneRow.holds Tryd.pinned (OpenSpec.ofChange storeGoneWrong)

/-- 'turnkeylaw8.StorePlays': WHATEVER THE INPUT: true; the input reads as it did. -/
def storePlaysSpec : ChangeSpec := { name := "storePlays", fn := fun _ => fun
  | [d1, d2] => { results := [.lit (.bool true)], args := [d1, d2] }
  | _ => none }
def storePlaysRow : OpenClaim := { program := "ytlanjomoednfaaadoor", sum := "24eae48f8e6bd65d11a0498995fa8547fe742b9399750af848c90f207bb5b9ae", func := "turnkey/turnkeylaw8.StorePlays", spec := "storePlays", named := ["turnkey/api.ErrRange", "turnkey/api.ErrMany", "turnkey/api.ErrFull", "turnkey/api.ErrNone", "turnkey/api.ErrRight", "turnkey/api.ErrEnd", "turnkey/api.ErrShape", "turnkey/api.ErrLimit", "turnkey/api.ErrOwn", "turnkey/api.ErrState", "turnkey/api.ErrWord", "turnkey/api.ErrNumber"], apart := false, laid := [("turnkey/api.ErrEnd", laid_turnkey_api_ErrEnd), ("turnkey/api.ErrShape", laid_turnkey_api_ErrShape), ("turnkey/api.ErrRange", laid_turnkey_api_ErrRange), ("turnkey/api.ErrMany", laid_turnkey_api_ErrMany), ("turnkey/api.ErrNone", laid_turnkey_api_ErrNone), ("turnkey/api.ErrFull", laid_turnkey_api_ErrFull), ("turnkey/api.ErrLimit", laid_turnkey_api_ErrLimit), ("turnkey/api.ErrOwn", laid_turnkey_api_ErrOwn), ("turnkey/api.ErrState", laid_turnkey_api_ErrState), ("turnkey/api.ErrRight", laid_turnkey_api_ErrRight), ("turnkey/api.ErrWord", laid_turnkey_api_ErrWord), ("turnkey/api.ErrNumber", laid_turnkey_api_ErrNumber)] }
def StorePlaysSaid : Prop := storePlaysRow.holds Tryd.pinned (OpenSpec.ofChange storePlaysSpec)

/-- ITS FALSE NEIGHBOUR: 'it returns false'. Refute it at one input. -/
def storePlaysWrong : ChangeSpec := { name := "storePlays", fn := fun _ => fun
  | [d1, d2] => { results := [.lit (.bool false)], args := [d1, d2] }
  | _ => none }
def StorePlaysWrongFalsely : Prop := storePlaysRow.holds Tryd.pinned (OpenSpec.ofChange storePlaysWrong)

/- THE SECOND FORM. 'bulk': how many values and letters a reading holds, each counted each time it is reached (what is shared counts as often as it is met; a slice's spare places count too). A statement '..UptoSaid' is the law's where the arguments, and the package variables that the reading takes, are together of bulk at most 1048576: NARROWER than '..Said'. Prove '..Said' where nothing that the law and all that it calls make is longer than what came in: it says more and counts as full. Else prove '..UptoSaid'. A law counts once. -/
mutual
def uptoBulk {H : Type} : DataW H → Nat
  | .lit (.string bytes) => bytes.length + 1
  | .lit _ => 1
  | .nil => 1
  | .ptr d => uptoBulk d + 1
  | .slice elems spare => uptoBulkAll elems + uptoBulkAll spare + 1
  | .agg parts => uptoBulkAll parts + 1
  | .iface _ d => uptoBulk d + 1
  | .map entries => uptoBulkEntries entries + 1
  | .held _ => 1
def uptoBulkAll {H : Type} : List (DataW H) → Nat
  | [] => 0
  | d :: r => uptoBulk d + uptoBulkAll r
def uptoBulkEntries {H : Type} : List (Lit × DataW H) → Nat
  | [] => 0
  | x :: r => uptoBulkEntry x + uptoBulkEntries r
def uptoBulkEntry {H : Type} : Lit × DataW H → Nat
  | (.string bytes, d) => bytes.length + uptoBulk d + 1
  | (_, d) => uptoBulk d + 1
 end
def uptoSmall : (H : Type) → List (DataW H) → Bool := fun _ ds => decide (uptoBulkAll ds ≤ 1048576)
def OpenSpec.upto (s : _root_.Go.ChangeSpec) : _root_.Go.OpenSpec := { _root_.Go.OpenSpec.ofChange s with cond := some uptoSmall }

/-- 'turnkeylaw6.NodeBounds', WHERE WHAT IT READS IS OF BULK AT MOST 1048576: true; the input reads as it did. -/
def nodeBoundsUptoRow : OpenClaim := { program := "ytlanjomoednfaaadoor", sum := "24eae48f8e6bd65d11a0498995fa8547fe742b9399750af848c90f207bb5b9ae", func := "turnkey/turnkeylaw6.NodeBounds", spec := "nodeBounds", named := ["turnkey/api.ErrRange", "turnkey/api.ErrMany", "turnkey/api.ErrShape", "turnkey/api.ErrFull", "turnkey/api.ErrEnd", "turnkey/api.ErrNone", "turnkey/api.ErrLimit", "turnkey/api.ErrOwn", "turnkey/api.ErrState", "turnkey/api.ErrRight", "turnkey/api.ErrWord", "turnkey/api.ErrNumber"], apart := false, laid := [("turnkey/api.ErrEnd", laid_turnkey_api_ErrEnd), ("turnkey/api.ErrShape", laid_turnkey_api_ErrShape), ("turnkey/api.ErrRange", laid_turnkey_api_ErrRange), ("turnkey/api.ErrMany", laid_turnkey_api_ErrMany), ("turnkey/api.ErrNone", laid_turnkey_api_ErrNone), ("turnkey/api.ErrFull", laid_turnkey_api_ErrFull), ("turnkey/api.ErrLimit", laid_turnkey_api_ErrLimit), ("turnkey/api.ErrOwn", laid_turnkey_api_ErrOwn), ("turnkey/api.ErrState", laid_turnkey_api_ErrState), ("turnkey/api.ErrRight", laid_turnkey_api_ErrRight), ("turnkey/api.ErrWord", laid_turnkey_api_ErrWord), ("turnkey/api.ErrNumber", laid_turnkey_api_ErrNumber)], narrowed := true }
def NodeBoundsUptoSaid : Prop := nodeBoundsUptoRow.holds Tryd.pinned (OpenSpec.upto nodeBoundsSpec)

/-- 'turnkeylaw6.NodeApart', WHERE WHAT IT READS IS OF BULK AT MOST 1048576: true; the input reads as it did. -/
def nodeApartUptoRow : OpenClaim := { program := "ytlanjomoednfaaadoor", sum := "24eae48f8e6bd65d11a0498995fa8547fe742b9399750af848c90f207bb5b9ae", func := "turnkey/turnkeylaw6.NodeApart", spec := "nodeApart", unfollowed := true, recurses := true, named := ["turnkey/api.ErrRange", "turnkey/api.ErrMany", "turnkey/api.ErrShape", "turnkey/api.ErrFull", "turnkey/api.ErrNone"], apart := false, laid := [("turnkey/api.ErrShape", laid_turnkey_api_ErrShape), ("turnkey/api.ErrRange", laid_turnkey_api_ErrRange), ("turnkey/api.ErrMany", laid_turnkey_api_ErrMany), ("turnkey/api.ErrNone", laid_turnkey_api_ErrNone), ("turnkey/api.ErrFull", laid_turnkey_api_ErrFull)], narrowed := true }
def NodeApartUptoSaid : Prop := nodeApartUptoRow.holds Tryd.pinned (OpenSpec.upto nodeApartSpec)

/-- 'turnkeylaw6.NodePlays', WHERE WHAT IT READS IS OF BULK AT MOST 1048576: true; the input reads as it did. -/
def nodePlaysUptoRow : OpenClaim := { program := "ytlanjomoednfaaadoor", sum := "24eae48f8e6bd65d11a0498995fa8547fe742b9399750af848c90f207bb5b9ae", func := "turnkey/turnkeylaw6.NodePlays", spec := "nodePlays", named := ["turnkey/api.ErrRange", "turnkey/api.ErrMany", "turnkey/api.ErrShape", "turnkey/api.ErrFull", "turnkey/api.ErrEnd", "turnkey/api.ErrNone", "turnkey/api.ErrLimit", "turnkey/api.ErrOwn", "turnkey/api.ErrState", "turnkey/api.ErrRight", "turnkey/api.ErrWord", "turnkey/api.ErrNumber"], apart := false, laid := [("turnkey/api.ErrEnd", laid_turnkey_api_ErrEnd), ("turnkey/api.ErrShape", laid_turnkey_api_ErrShape), ("turnkey/api.ErrRange", laid_turnkey_api_ErrRange), ("turnkey/api.ErrMany", laid_turnkey_api_ErrMany), ("turnkey/api.ErrNone", laid_turnkey_api_ErrNone), ("turnkey/api.ErrFull", laid_turnkey_api_ErrFull), ("turnkey/api.ErrLimit", laid_turnkey_api_ErrLimit), ("turnkey/api.ErrOwn", laid_turnkey_api_ErrOwn), ("turnkey/api.ErrState", laid_turnkey_api_ErrState), ("turnkey/api.ErrRight", laid_turnkey_api_ErrRight), ("turnkey/api.ErrWord", laid_turnkey_api_ErrWord), ("turnkey/api.ErrNumber", laid_turnkey_api_ErrNumber)], narrowed := true }
def NodePlaysUptoSaid : Prop := nodePlaysUptoRow.holds Tryd.pinned (OpenSpec.upto nodePlaysSpec)

/-- 'turnkeylaw3.KeyRows', WHERE WHAT IT READS IS OF BULK AT MOST 1048576: true; the input reads as it did. -/
def keyRowsUptoRow : OpenClaim := { program := "ytlanjomoednfaaadoor", sum := "24eae48f8e6bd65d11a0498995fa8547fe742b9399750af848c90f207bb5b9ae", func := "turnkey/turnkeylaw3.KeyRows", spec := "keyRows", named := ["internal/strconv.uint64pow10", "math/bits.deBruijn32tab", "math/bits.deBruijn64tab"], apart := false, laid := [("math/bits.deBruijn32tab", laid_math_bits_deBruijn32tab), ("math/bits.deBruijn64tab", laid_math_bits_deBruijn64tab), ("internal/strconv.uint64pow10", laid_internal_strconv_uint64pow10)], narrowed := true }
def KeyRowsUptoSaid : Prop := keyRowsUptoRow.holds Tryd.pinned (OpenSpec.upto keyRowsSpec)

/-- 'turnkeylaw3.KeyBounds', WHERE WHAT IT READS IS OF BULK AT MOST 1048576: true; the input reads as it did. -/
def keyBoundsUptoRow : OpenClaim := { program := "ytlanjomoednfaaadoor", sum := "24eae48f8e6bd65d11a0498995fa8547fe742b9399750af848c90f207bb5b9ae", func := "turnkey/turnkeylaw3.KeyBounds", spec := "keyBounds", named := ["internal/strconv.uint64pow10", "math/bits.deBruijn32tab", "math/bits.deBruijn64tab", "turnkey/api.ErrShape", "turnkey/api.ErrRange"], apart := false, laid := [("math/bits.deBruijn32tab", laid_math_bits_deBruijn32tab), ("math/bits.deBruijn64tab", laid_math_bits_deBruijn64tab), ("internal/strconv.uint64pow10", laid_internal_strconv_uint64pow10), ("turnkey/api.ErrShape", laid_turnkey_api_ErrShape), ("turnkey/api.ErrRange", laid_turnkey_api_ErrRange)], narrowed := true }
def KeyBoundsUptoSaid : Prop := keyBoundsUptoRow.holds Tryd.pinned (OpenSpec.upto keyBoundsSpec)

/-- 'turnkeylaw3.KeyUnlike', WHERE WHAT IT READS IS OF BULK AT MOST 1048576: true; the input reads as it did. -/
def keyUnlikeUptoRow : OpenClaim := { program := "ytlanjomoednfaaadoor", sum := "24eae48f8e6bd65d11a0498995fa8547fe742b9399750af848c90f207bb5b9ae", func := "turnkey/turnkeylaw3.KeyUnlike", spec := "keyUnlike", named := ["internal/strconv.uint64pow10", "math/bits.deBruijn32tab", "math/bits.deBruijn64tab", "turnkey/api.ErrShape", "turnkey/api.ErrRange"], apart := false, laid := [("math/bits.deBruijn32tab", laid_math_bits_deBruijn32tab), ("math/bits.deBruijn64tab", laid_math_bits_deBruijn64tab), ("internal/strconv.uint64pow10", laid_internal_strconv_uint64pow10), ("turnkey/api.ErrShape", laid_turnkey_api_ErrShape), ("turnkey/api.ErrRange", laid_turnkey_api_ErrRange)], narrowed := true }
def KeyUnlikeUptoSaid : Prop := keyUnlikeUptoRow.holds Tryd.pinned (OpenSpec.upto keyUnlikeSpec)

/-- 'turnkeylaw3.KeySays', WHERE WHAT IT READS IS OF BULK AT MOST 1048576: true; the input reads as it did. -/
def keySaysUptoRow : OpenClaim := { program := "ytlanjomoednfaaadoor", sum := "24eae48f8e6bd65d11a0498995fa8547fe742b9399750af848c90f207bb5b9ae", func := "turnkey/turnkeylaw3.KeySays", spec := "keySays", named := ["internal/strconv.uint64pow10", "math/bits.deBruijn32tab", "math/bits.deBruijn64tab", "turnkey/api.ErrShape", "turnkey/api.ErrRange", "turnkey/api.ErrEnd", "turnkey/api.ErrMany", "turnkey/api.ErrNone", "turnkey/api.ErrFull", "turnkey/api.ErrLimit", "turnkey/api.ErrOwn", "turnkey/api.ErrState", "turnkey/api.ErrRight", "turnkey/api.ErrWord", "turnkey/api.ErrNumber"], apart := false, laid := [("math/bits.deBruijn32tab", laid_math_bits_deBruijn32tab), ("math/bits.deBruijn64tab", laid_math_bits_deBruijn64tab), ("internal/strconv.uint64pow10", laid_internal_strconv_uint64pow10), ("turnkey/api.ErrEnd", laid_turnkey_api_ErrEnd), ("turnkey/api.ErrShape", laid_turnkey_api_ErrShape), ("turnkey/api.ErrRange", laid_turnkey_api_ErrRange), ("turnkey/api.ErrMany", laid_turnkey_api_ErrMany), ("turnkey/api.ErrNone", laid_turnkey_api_ErrNone), ("turnkey/api.ErrFull", laid_turnkey_api_ErrFull), ("turnkey/api.ErrLimit", laid_turnkey_api_ErrLimit), ("turnkey/api.ErrOwn", laid_turnkey_api_ErrOwn), ("turnkey/api.ErrState", laid_turnkey_api_ErrState), ("turnkey/api.ErrRight", laid_turnkey_api_ErrRight), ("turnkey/api.ErrWord", laid_turnkey_api_ErrWord), ("turnkey/api.ErrNumber", laid_turnkey_api_ErrNumber)], narrowed := true }
def KeySaysUptoSaid : Prop := keySaysUptoRow.holds Tryd.pinned (OpenSpec.upto keySaysSpec)

/-- 'turnkeylaw3.KeyBack', WHERE WHAT IT READS IS OF BULK AT MOST 1048576: true; the input reads as it did. -/
def keyBackUptoRow : OpenClaim := { program := "ytlanjomoednfaaadoor", sum := "24eae48f8e6bd65d11a0498995fa8547fe742b9399750af848c90f207bb5b9ae", func := "turnkey/turnkeylaw3.KeyBack", spec := "keyBack", named := ["internal/strconv.uint64pow10", "math/bits.deBruijn32tab", "math/bits.deBruijn64tab", "turnkey/api.ErrShape", "turnkey/api.ErrRange"], apart := false, laid := [("math/bits.deBruijn32tab", laid_math_bits_deBruijn32tab), ("math/bits.deBruijn64tab", laid_math_bits_deBruijn64tab), ("internal/strconv.uint64pow10", laid_internal_strconv_uint64pow10), ("turnkey/api.ErrShape", laid_turnkey_api_ErrShape), ("turnkey/api.ErrRange", laid_turnkey_api_ErrRange)], narrowed := true }
def KeyBackUptoSaid : Prop := keyBackUptoRow.holds Tryd.pinned (OpenSpec.upto keyBackSpec)

/-- 'turnkeylaw8.StoreSwaps', WHERE WHAT IT READS IS OF BULK AT MOST 1048576: true; the input reads as it did. -/
def storeSwapsUptoRow : OpenClaim := { program := "ytlanjomoednfaaadoor", sum := "24eae48f8e6bd65d11a0498995fa8547fe742b9399750af848c90f207bb5b9ae", func := "turnkey/turnkeylaw8.StoreSwaps", spec := "storeSwaps", named := ["turnkey/api.ErrRange", "turnkey/api.ErrMany", "turnkey/api.ErrFull", "turnkey/api.ErrNone", "turnkey/api.ErrRight", "turnkey/api.ErrEnd", "turnkey/api.ErrShape", "turnkey/api.ErrLimit", "turnkey/api.ErrOwn", "turnkey/api.ErrState", "turnkey/api.ErrWord", "turnkey/api.ErrNumber"], apart := false, laid := [("turnkey/api.ErrEnd", laid_turnkey_api_ErrEnd), ("turnkey/api.ErrShape", laid_turnkey_api_ErrShape), ("turnkey/api.ErrRange", laid_turnkey_api_ErrRange), ("turnkey/api.ErrMany", laid_turnkey_api_ErrMany), ("turnkey/api.ErrNone", laid_turnkey_api_ErrNone), ("turnkey/api.ErrFull", laid_turnkey_api_ErrFull), ("turnkey/api.ErrLimit", laid_turnkey_api_ErrLimit), ("turnkey/api.ErrOwn", laid_turnkey_api_ErrOwn), ("turnkey/api.ErrState", laid_turnkey_api_ErrState), ("turnkey/api.ErrRight", laid_turnkey_api_ErrRight), ("turnkey/api.ErrWord", laid_turnkey_api_ErrWord), ("turnkey/api.ErrNumber", laid_turnkey_api_ErrNumber)], narrowed := true }
def StoreSwapsUptoSaid : Prop := storeSwapsUptoRow.holds Tryd.pinned (OpenSpec.upto storeSwapsSpec)

/-- 'turnkeylaw8.StoreGone', WHERE WHAT IT READS IS OF BULK AT MOST 1048576: true; the input reads as it did. -/
def storeGoneUptoRow : OpenClaim := { program := "ytlanjomoednfaaadoor", sum := "24eae48f8e6bd65d11a0498995fa8547fe742b9399750af848c90f207bb5b9ae", func := "turnkey/turnkeylaw8.StoreGone", spec := "storeGone", named := ["turnkey/api.ErrRange", "turnkey/api.ErrMany", "turnkey/api.ErrFull", "turnkey/api.ErrNone", "turnkey/api.ErrRight", "turnkey/api.ErrEnd", "turnkey/api.ErrShape", "turnkey/api.ErrLimit", "turnkey/api.ErrOwn", "turnkey/api.ErrState", "turnkey/api.ErrWord", "turnkey/api.ErrNumber"], apart := false, laid := [("turnkey/api.ErrEnd", laid_turnkey_api_ErrEnd), ("turnkey/api.ErrShape", laid_turnkey_api_ErrShape), ("turnkey/api.ErrRange", laid_turnkey_api_ErrRange), ("turnkey/api.ErrMany", laid_turnkey_api_ErrMany), ("turnkey/api.ErrNone", laid_turnkey_api_ErrNone), ("turnkey/api.ErrFull", laid_turnkey_api_ErrFull), ("turnkey/api.ErrLimit", laid_turnkey_api_ErrLimit), ("turnkey/api.ErrOwn", laid_turnkey_api_ErrOwn), ("turnkey/api.ErrState", laid_turnkey_api_ErrState), ("turnkey/api.ErrRight", laid_turnkey_api_ErrRight), ("turnkey/api.ErrWord", laid_turnkey_api_ErrWord), ("turnkey/api.ErrNumber", laid_turnkey_api_ErrNumber)], narrowed := true }
def StoreGoneUptoSaid : Prop := storeGoneUptoRow.holds Tryd.pinned (OpenSpec.upto storeGoneSpec)

/-- 'turnkeylaw8.StorePlays', WHERE WHAT IT READS IS OF BULK AT MOST 1048576: true; the input reads as it did. -/
def storePlaysUptoRow : OpenClaim := { program := "ytlanjomoednfaaadoor", sum := "24eae48f8e6bd65d11a0498995fa8547fe742b9399750af848c90f207bb5b9ae", func := "turnkey/turnkeylaw8.StorePlays", spec := "storePlays", named := ["turnkey/api.ErrRange", "turnkey/api.ErrMany", "turnkey/api.ErrFull", "turnkey/api.ErrNone", "turnkey/api.ErrRight", "turnkey/api.ErrEnd", "turnkey/api.ErrShape", "turnkey/api.ErrLimit", "turnkey/api.ErrOwn", "turnkey/api.ErrState", "turnkey/api.ErrWord", "turnkey/api.ErrNumber"], apart := false, laid := [("turnkey/api.ErrEnd", laid_turnkey_api_ErrEnd), ("turnkey/api.ErrShape", laid_turnkey_api_ErrShape), ("turnkey/api.ErrRange", laid_turnkey_api_ErrRange), ("turnkey/api.ErrMany", laid_turnkey_api_ErrMany), ("turnkey/api.ErrNone", laid_turnkey_api_ErrNone), ("turnkey/api.ErrFull", laid_turnkey_api_ErrFull), ("turnkey/api.ErrLimit", laid_turnkey_api_ErrLimit), ("turnkey/api.ErrOwn", laid_turnkey_api_ErrOwn), ("turnkey/api.ErrState", laid_turnkey_api_ErrState), ("turnkey/api.ErrRight", laid_turnkey_api_ErrRight), ("turnkey/api.ErrWord", laid_turnkey_api_ErrWord), ("turnkey/api.ErrNumber", laid_turnkey_api_ErrNumber)], narrowed := true }
def StorePlaysUptoSaid : Prop := storePlaysUptoRow.holds Tryd.pinned (OpenSpec.upto storePlaysSpec)

end Rows
end Go.Proofs.YtlanjomoednfaaaDoor
