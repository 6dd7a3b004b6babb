/-
  NARROWER THAN 'FOR EVERY INPUT', by the rows' own cells (each row's printed sentence says how): OperationLimits: laid · OperationValidates: laid · OperationWins: laid · OperationOrders: laid · OperationCommutes: laid · OperationCurrent: laid · OperationKeeps: laid · OperationEncodes: laid · OperationDecodes: laid.
  DERIVED. THE GIVEN ROWS OF THIS SEAT. 9 by the template 'for every input the law returns true; each argument reads behind the call as it read before'; 0 by the template 'total and deterministic' (their statements: YtdhbodgefhojnaaGreatDoorTotals.lean).
  GIVEN WITH THE SEED: the statements are not yours to turn. If you find one false, say at which input.
  Laid BY PROGRAM, IN A SANDBOX (cutbox-rows.mjs): the forced cells as the released guide's own fill.sh prints them over the translation abcc97772d243403… (all of the seat's roots in one cut). By AI agents, Wed Nov 11 2026. No macro, syntax, notation, axiom, sorry.
-/
import Derived.Test.YtdhbodgefhojnaaGreatDoorChecked
import GoSem.Claim
import GoSem.ClaimJoined
import GoSem.ClaimMapViews
import Derived.JoinedTies
import Derived.KernelRfl
namespace Go.Proofs.YtdhbodgefhojnaaGreatDoor
/- THE CELL 'sum', in the pinned program and in every row, IS THE sha256 OF THE DUMP (.gsa) THAT YtdhbodgefhojnaaGreatDoorProg.lean LOADS. Nothing in Lean hashes anything: it is a label: what it is worth is what the hold of that sum in a sandbox is worth. -/
noncomputable def Tryz.pinned : Pinned := { name := "ytdhbodgefhojnaagreatdoor", sum := "abcc97772d2434031696448d5189e1f42c80477903a73cf8c88474dc7329b1d1", checked := Tryz.checked }
namespace Rows
def none {H : Type} : Left H := { results := [], args := [] }

/- WHAT THE LISTED PACKAGE-LEVEL VARIABLES READ AS WHEN THE CALL BEGINS. Each datum BY PROGRAM (the guide's laid-datum.mjs) off the statement by which the dump's own 'gosem.cut.vars' lays the variable. In a bare row this is a premise. The card (YtdhbodgefhojnaaGreatDoorCards.lean) ties it to the program's text. -/
def laid_math_bits_deBruijn32tab {H : Type} : DataW H := .agg [.lit (.int .u8 0), .lit (.int .u8 1), .lit (.int .u8 28), .lit (.int .u8 2), .lit (.int .u8 29), .lit (.int .u8 14), .lit (.int .u8 24), .lit (.int .u8 3), .lit (.int .u8 30), .lit (.int .u8 22), .lit (.int .u8 20), .lit (.int .u8 15), .lit (.int .u8 25), .lit (.int .u8 17), .lit (.int .u8 4), .lit (.int .u8 8), .lit (.int .u8 31), .lit (.int .u8 27), .lit (.int .u8 13), .lit (.int .u8 23), .lit (.int .u8 21), .lit (.int .u8 19), .lit (.int .u8 16), .lit (.int .u8 7), .lit (.int .u8 26), .lit (.int .u8 12), .lit (.int .u8 18), .lit (.int .u8 6), .lit (.int .u8 11), .lit (.int .u8 5), .lit (.int .u8 10), .lit (.int .u8 9)]
def laid_math_bits_deBruijn64tab {H : Type} : DataW H := .agg [.lit (.int .u8 0), .lit (.int .u8 1), .lit (.int .u8 56), .lit (.int .u8 2), .lit (.int .u8 57), .lit (.int .u8 49), .lit (.int .u8 28), .lit (.int .u8 3), .lit (.int .u8 61), .lit (.int .u8 58), .lit (.int .u8 42), .lit (.int .u8 50), .lit (.int .u8 38), .lit (.int .u8 29), .lit (.int .u8 17), .lit (.int .u8 4), .lit (.int .u8 62), .lit (.int .u8 47), .lit (.int .u8 59), .lit (.int .u8 36), .lit (.int .u8 45), .lit (.int .u8 43), .lit (.int .u8 51), .lit (.int .u8 22), .lit (.int .u8 53), .lit (.int .u8 39), .lit (.int .u8 33), .lit (.int .u8 30), .lit (.int .u8 24), .lit (.int .u8 18), .lit (.int .u8 12), .lit (.int .u8 5), .lit (.int .u8 63), .lit (.int .u8 55), .lit (.int .u8 48), .lit (.int .u8 27), .lit (.int .u8 60), .lit (.int .u8 41), .lit (.int .u8 37), .lit (.int .u8 16), .lit (.int .u8 46), .lit (.int .u8 35), .lit (.int .u8 44), .lit (.int .u8 21), .lit (.int .u8 52), .lit (.int .u8 32), .lit (.int .u8 23), .lit (.int .u8 11), .lit (.int .u8 54), .lit (.int .u8 26), .lit (.int .u8 40), .lit (.int .u8 15), .lit (.int .u8 34), .lit (.int .u8 20), .lit (.int .u8 31), .lit (.int .u8 10), .lit (.int .u8 25), .lit (.int .u8 14), .lit (.int .u8 19), .lit (.int .u8 9), .lit (.int .u8 13), .lit (.int .u8 8), .lit (.int .u8 7), .lit (.int .u8 6)]
def laid_internal_strconv_uint64pow10 {H : Type} : DataW H := .agg [.lit (.int .u64 1), .lit (.int .u64 10), .lit (.int .u64 100), .lit (.int .u64 1000), .lit (.int .u64 10000), .lit (.int .u64 100000), .lit (.int .u64 1000000), .lit (.int .u64 10000000), .lit (.int .u64 100000000), .lit (.int .u64 1000000000), .lit (.int .u64 10000000000), .lit (.int .u64 100000000000), .lit (.int .u64 1000000000000), .lit (.int .u64 10000000000000), .lit (.int .u64 100000000000000), .lit (.int .u64 1000000000000000), .lit (.int .u64 10000000000000000), .lit (.int .u64 100000000000000000), .lit (.int .u64 1000000000000000000), .lit (.int .u64 10000000000000000000)]

/-- 'bitextlaw37.OperationLimits': WHATEVER THE INPUT: true; the input reads as it did. -/
def operationLimitsSpec : ChangeSpec := { name := "operationLimits", fn := fun _ => fun
  | [d] => { results := [.lit (.bool true)], args := [d] }
  | _ => none }
def operationLimitsRow : OpenClaim := { program := "ytdhbodgefhojnaagreatdoor", sum := "abcc97772d2434031696448d5189e1f42c80477903a73cf8c88474dc7329b1d1", func := "bitext/bitextlaw37.OperationLimits", spec := "operationLimits", inPlace := ["internal/bytealg.IndexByteString", "internal/bytealg.IndexString", "internal/bytealg.Compare"], unfollowed := true, recurses := true, named := ["internal/bytealg.MaxLen", "internal/strconv.uint64pow10", "math/bits.deBruijn32tab", "math/bits.deBruijn64tab"], apart := false, laid := [("math/bits.deBruijn32tab", laid_math_bits_deBruijn32tab), ("math/bits.deBruijn64tab", laid_math_bits_deBruijn64tab), ("internal/strconv.uint64pow10", laid_internal_strconv_uint64pow10)] }
def OperationLimitsSaid : Prop := operationLimitsRow.holds Tryz.pinned (OpenSpec.ofChange operationLimitsSpec)

/-- ITS FALSE NEIGHBOUR: 'it returns false'. Refute it at one input. -/
def operationLimitsWrong : ChangeSpec := { name := "operationLimits", fn := fun _ => fun
  | [d] => { results := [.lit (.bool false)], args := [d] }
  | _ => none }
def OperationLimitsWrongFalsely : Prop := operationLimitsRow.holds Tryz.pinned (OpenSpec.ofChange operationLimitsWrong)

/-- 'bitextlaw37.OperationValidates': WHATEVER THE INPUT: true; the input reads as it did. -/
def operationValidatesSpec : ChangeSpec := { name := "operationValidates", fn := fun _ => fun
  | [d1, d2, d3] => { results := [.lit (.bool true)], args := [d1, d2, d3] }
  | _ => none }
def operationValidatesRow : OpenClaim := { program := "ytdhbodgefhojnaagreatdoor", sum := "abcc97772d2434031696448d5189e1f42c80477903a73cf8c88474dc7329b1d1", func := "bitext/bitextlaw37.OperationValidates", spec := "operationValidates", inPlace := ["internal/bytealg.IndexByteString", "internal/bytealg.IndexString", "internal/bytealg.Compare"], unfollowed := true, recurses := true, named := ["internal/bytealg.MaxLen", "internal/strconv.uint64pow10", "math/bits.deBruijn32tab", "math/bits.deBruijn64tab"], apart := false, laid := [("math/bits.deBruijn32tab", laid_math_bits_deBruijn32tab), ("math/bits.deBruijn64tab", laid_math_bits_deBruijn64tab), ("internal/strconv.uint64pow10", laid_internal_strconv_uint64pow10)] }
def OperationValidatesSaid : Prop := operationValidatesRow.holds Tryz.pinned (OpenSpec.ofChange operationValidatesSpec)

/-- ITS FALSE NEIGHBOUR: 'it returns false'. Refute it at one input. -/
def operationValidatesWrong : ChangeSpec := { name := "operationValidates", fn := fun _ => fun
  | [d1, d2, d3] => { results := [.lit (.bool false)], args := [d1, d2, d3] }
  | _ => none }
def OperationValidatesWrongFalsely : Prop := operationValidatesRow.holds Tryz.pinned (OpenSpec.ofChange operationValidatesWrong)

/-- 'bitextlaw37.OperationWins': WHATEVER THE INPUT: true; the input reads as it did. -/
def operationWinsSpec : ChangeSpec := { name := "operationWins", fn := fun _ => fun
  | [d1, d2, d3] => { results := [.lit (.bool true)], args := [d1, d2, d3] }
  | _ => none }
def operationWinsRow : OpenClaim := { program := "ytdhbodgefhojnaagreatdoor", sum := "abcc97772d2434031696448d5189e1f42c80477903a73cf8c88474dc7329b1d1", func := "bitext/bitextlaw37.OperationWins", spec := "operationWins", inPlace := ["internal/bytealg.IndexByteString", "internal/bytealg.IndexString", "internal/bytealg.Compare"], unfollowed := true, recurses := true, named := ["internal/bytealg.MaxLen", "internal/strconv.uint64pow10", "math/bits.deBruijn32tab", "math/bits.deBruijn64tab"], apart := false, laid := [("math/bits.deBruijn32tab", laid_math_bits_deBruijn32tab), ("math/bits.deBruijn64tab", laid_math_bits_deBruijn64tab), ("internal/strconv.uint64pow10", laid_internal_strconv_uint64pow10)] }
def OperationWinsSaid : Prop := operationWinsRow.holds Tryz.pinned (OpenSpec.ofChange operationWinsSpec)

/-- ITS FALSE NEIGHBOUR: 'it returns false'. Refute it at one input. -/
def operationWinsWrong : ChangeSpec := { name := "operationWins", fn := fun _ => fun
  | [d1, d2, d3] => { results := [.lit (.bool false)], args := [d1, d2, d3] }
  | _ => none }
def OperationWinsWrongFalsely : Prop := operationWinsRow.holds Tryz.pinned (OpenSpec.ofChange operationWinsWrong)

/-- 'bitextlaw37.OperationOrders': WHATEVER THE INPUT: true; the input reads as it did. -/
def operationOrdersSpec : ChangeSpec := { name := "operationOrders", fn := fun _ => fun
  | [d] => { results := [.lit (.bool true)], args := [d] }
  | _ => none }
def operationOrdersRow : OpenClaim := { program := "ytdhbodgefhojnaagreatdoor", sum := "abcc97772d2434031696448d5189e1f42c80477903a73cf8c88474dc7329b1d1", func := "bitext/bitextlaw37.OperationOrders", spec := "operationOrders", inPlace := ["internal/bytealg.IndexByteString", "internal/bytealg.IndexString", "internal/bytealg.Compare"], unfollowed := true, recurses := true, named := ["internal/bytealg.MaxLen", "internal/strconv.uint64pow10", "math/bits.deBruijn32tab", "math/bits.deBruijn64tab"], apart := false, laid := [("math/bits.deBruijn32tab", laid_math_bits_deBruijn32tab), ("math/bits.deBruijn64tab", laid_math_bits_deBruijn64tab), ("internal/strconv.uint64pow10", laid_internal_strconv_uint64pow10)] }
def OperationOrdersSaid : Prop := operationOrdersRow.holds Tryz.pinned (OpenSpec.ofChange operationOrdersSpec)

/-- ITS FALSE NEIGHBOUR: 'it returns false'. Refute it at one input. -/
def operationOrdersWrong : ChangeSpec := { name := "operationOrders", fn := fun _ => fun
  | [d] => { results := [.lit (.bool false)], args := [d] }
  | _ => none }
def OperationOrdersWrongFalsely : Prop := operationOrdersRow.holds Tryz.pinned (OpenSpec.ofChange operationOrdersWrong)

/-- 'bitextlaw37.OperationCommutes': WHATEVER THE INPUT: true; the input reads as it did. -/
def operationCommutesSpec : ChangeSpec := { name := "operationCommutes", fn := fun _ => fun
  | [d1, d2, d3] => { results := [.lit (.bool true)], args := [d1, d2, d3] }
  | _ => none }
def operationCommutesRow : OpenClaim := { program := "ytdhbodgefhojnaagreatdoor", sum := "abcc97772d2434031696448d5189e1f42c80477903a73cf8c88474dc7329b1d1", func := "bitext/bitextlaw37.OperationCommutes", spec := "operationCommutes", inPlace := ["internal/bytealg.IndexByteString", "internal/bytealg.IndexString", "internal/bytealg.Compare"], unfollowed := true, recurses := true, named := ["internal/bytealg.MaxLen", "internal/strconv.uint64pow10", "math/bits.deBruijn32tab", "math/bits.deBruijn64tab"], apart := false, laid := [("math/bits.deBruijn32tab", laid_math_bits_deBruijn32tab), ("math/bits.deBruijn64tab", laid_math_bits_deBruijn64tab), ("internal/strconv.uint64pow10", laid_internal_strconv_uint64pow10)] }
def OperationCommutesSaid : Prop := operationCommutesRow.holds Tryz.pinned (OpenSpec.ofChange operationCommutesSpec)

/-- ITS FALSE NEIGHBOUR: 'it returns false'. Refute it at one input. -/
def operationCommutesWrong : ChangeSpec := { name := "operationCommutes", fn := fun _ => fun
  | [d1, d2, d3] => { results := [.lit (.bool false)], args := [d1, d2, d3] }
  | _ => none }
def OperationCommutesWrongFalsely : Prop := operationCommutesRow.holds Tryz.pinned (OpenSpec.ofChange operationCommutesWrong)

/-- 'bitextlaw37.OperationCurrent': WHATEVER THE INPUT: true; the input reads as it did. -/
def operationCurrentSpec : ChangeSpec := { name := "operationCurrent", fn := fun _ => fun
  | [d1, d2] => { results := [.lit (.bool true)], args := [d1, d2] }
  | _ => none }
def operationCurrentRow : OpenClaim := { program := "ytdhbodgefhojnaagreatdoor", sum := "abcc97772d2434031696448d5189e1f42c80477903a73cf8c88474dc7329b1d1", func := "bitext/bitextlaw37.OperationCurrent", spec := "operationCurrent", inPlace := ["internal/bytealg.IndexByteString", "internal/bytealg.IndexString", "internal/bytealg.Compare"], unfollowed := true, recurses := true, named := ["internal/bytealg.MaxLen", "internal/strconv.uint64pow10", "math/bits.deBruijn32tab", "math/bits.deBruijn64tab"], apart := false, laid := [("math/bits.deBruijn32tab", laid_math_bits_deBruijn32tab), ("math/bits.deBruijn64tab", laid_math_bits_deBruijn64tab), ("internal/strconv.uint64pow10", laid_internal_strconv_uint64pow10)] }
def OperationCurrentSaid : Prop := operationCurrentRow.holds Tryz.pinned (OpenSpec.ofChange operationCurrentSpec)

/-- ITS FALSE NEIGHBOUR: 'it returns false'. Refute it at one input. -/
def operationCurrentWrong : ChangeSpec := { name := "operationCurrent", fn := fun _ => fun
  | [d1, d2] => { results := [.lit (.bool false)], args := [d1, d2] }
  | _ => none }
def OperationCurrentWrongFalsely : Prop := operationCurrentRow.holds Tryz.pinned (OpenSpec.ofChange operationCurrentWrong)

/-- 'bitextlaw37.OperationKeeps': WHATEVER THE INPUT: true; the input reads as it did. -/
def operationKeepsSpec : ChangeSpec := { name := "operationKeeps", fn := fun _ => fun
  | [d] => { results := [.lit (.bool true)], args := [d] }
  | _ => none }
def operationKeepsRow : OpenClaim := { program := "ytdhbodgefhojnaagreatdoor", sum := "abcc97772d2434031696448d5189e1f42c80477903a73cf8c88474dc7329b1d1", func := "bitext/bitextlaw37.OperationKeeps", spec := "operationKeeps", inPlace := ["internal/bytealg.IndexByteString", "internal/bytealg.IndexString", "internal/bytealg.Compare"], unfollowed := true, recurses := true, named := ["internal/bytealg.MaxLen", "internal/strconv.uint64pow10", "math/bits.deBruijn32tab", "math/bits.deBruijn64tab"], apart := false, laid := [("math/bits.deBruijn32tab", laid_math_bits_deBruijn32tab), ("math/bits.deBruijn64tab", laid_math_bits_deBruijn64tab), ("internal/strconv.uint64pow10", laid_internal_strconv_uint64pow10)] }
def OperationKeepsSaid : Prop := operationKeepsRow.holds Tryz.pinned (OpenSpec.ofChange operationKeepsSpec)

/-- ITS FALSE NEIGHBOUR: 'it returns false'. Refute it at one input. -/
def operationKeepsWrong : ChangeSpec := { name := "operationKeeps", fn := fun _ => fun
  | [d] => { results := [.lit (.bool false)], args := [d] }
  | _ => none }
def OperationKeepsWrongFalsely : Prop := operationKeepsRow.holds Tryz.pinned (OpenSpec.ofChange operationKeepsWrong)

/-- 'bitextlaw37.OperationEncodes': WHATEVER THE INPUT: true; the input reads as it did. -/
def operationEncodesSpec : ChangeSpec := { name := "operationEncodes", fn := fun _ => fun
  | [d1, d2] => { results := [.lit (.bool true)], args := [d1, d2] }
  | _ => none }
def operationEncodesRow : OpenClaim := { program := "ytdhbodgefhojnaagreatdoor", sum := "abcc97772d2434031696448d5189e1f42c80477903a73cf8c88474dc7329b1d1", func := "bitext/bitextlaw37.OperationEncodes", spec := "operationEncodes", inPlace := ["internal/bytealg.IndexByteString", "internal/bytealg.IndexString", "internal/bytealg.Compare"], unfollowed := true, recurses := true, named := ["internal/bytealg.MaxLen", "internal/strconv.uint64pow10", "math/bits.deBruijn32tab", "math/bits.deBruijn64tab"], apart := false, laid := [("math/bits.deBruijn32tab", laid_math_bits_deBruijn32tab), ("math/bits.deBruijn64tab", laid_math_bits_deBruijn64tab), ("internal/strconv.uint64pow10", laid_internal_strconv_uint64pow10)] }
def OperationEncodesSaid : Prop := operationEncodesRow.holds Tryz.pinned (OpenSpec.ofChange operationEncodesSpec)

/-- ITS FALSE NEIGHBOUR: 'it returns false'. Refute it at one input. -/
def operationEncodesWrong : ChangeSpec := { name := "operationEncodes", fn := fun _ => fun
  | [d1, d2] => { results := [.lit (.bool false)], args := [d1, d2] }
  | _ => none }
def OperationEncodesWrongFalsely : Prop := operationEncodesRow.holds Tryz.pinned (OpenSpec.ofChange operationEncodesWrong)

/-- 'bitextlaw37.OperationDecodes': WHATEVER THE INPUT: true; the input reads as it did. -/
def operationDecodesSpec : ChangeSpec := { name := "operationDecodes", fn := fun _ => fun
  | [d1, d2, d3, d4, d5] => { results := [.lit (.bool true)], args := [d1, d2, d3, d4, d5] }
  | _ => none }
def operationDecodesRow : OpenClaim := { program := "ytdhbodgefhojnaagreatdoor", sum := "abcc97772d2434031696448d5189e1f42c80477903a73cf8c88474dc7329b1d1", func := "bitext/bitextlaw37.OperationDecodes", spec := "operationDecodes", inPlace := ["internal/bytealg.IndexByteString", "internal/bytealg.IndexString", "internal/bytealg.Compare"], unfollowed := true, recurses := true, named := ["internal/bytealg.MaxLen", "internal/strconv.uint64pow10", "math/bits.deBruijn32tab", "math/bits.deBruijn64tab"], apart := false, laid := [("math/bits.deBruijn32tab", laid_math_bits_deBruijn32tab), ("math/bits.deBruijn64tab", laid_math_bits_deBruijn64tab), ("internal/strconv.uint64pow10", laid_internal_strconv_uint64pow10)] }
def OperationDecodesSaid : Prop := operationDecodesRow.holds Tryz.pinned (OpenSpec.ofChange operationDecodesSpec)

/-- ITS FALSE NEIGHBOUR: 'it returns false'. Refute it at one input. -/
def operationDecodesWrong : ChangeSpec := { name := "operationDecodes", fn := fun _ => fun
  | [d1, d2, d3, d4, d5] => { results := [.lit (.bool false)], args := [d1, d2, d3, d4, d5] }
  | _ => none }
def OperationDecodesWrongFalsely : Prop := operationDecodesRow.holds Tryz.pinned (OpenSpec.ofChange operationDecodesWrong)

/- THE SECOND FORM. 'bulk': how many values and letters a reading holds, each counted each time it is reached (what is shared counts as often as it is met; a slice's spare places count too). A statement '..UptoSaid' is the law's where the arguments, and the package variables that the reading takes, are together of bulk at most 1048576: NARROWER than '..Said'. Prove '..Said' where nothing that the law and all that it calls make is longer than what came in: it says more and counts as full. Else prove '..UptoSaid'. A law counts once. -/
mutual
def uptoBulk {H : Type} : DataW H → Nat
  | .lit (.string bytes) => bytes.length + 1
  | .lit _ => 1
  | .nil => 1
  | .ptr d => uptoBulk d + 1
  | .slice elems spare => uptoBulkAll elems + uptoBulkAll spare + 1
  | .agg parts => uptoBulkAll parts + 1
  | .iface _ d => uptoBulk d + 1
  | .map entries => uptoBulkEntries entries + 1
  | .held _ => 1
def uptoBulkAll {H : Type} : List (DataW H) → Nat
  | [] => 0
  | d :: r => uptoBulk d + uptoBulkAll r
def uptoBulkEntries {H : Type} : List (Lit × DataW H) → Nat
  | [] => 0
  | x :: r => uptoBulkEntry x + uptoBulkEntries r
def uptoBulkEntry {H : Type} : Lit × DataW H → Nat
  | (.string bytes, d) => bytes.length + uptoBulk d + 1
  | (_, d) => uptoBulk d + 1
 end
def uptoSmall : (H : Type) → List (DataW H) → Bool := fun _ ds => decide (uptoBulkAll ds ≤ 1048576)
def OpenSpec.upto (s : _root_.Go.ChangeSpec) : _root_.Go.OpenSpec := { _root_.Go.OpenSpec.ofChange s with cond := some uptoSmall }

/-- 'bitextlaw37.OperationLimits', WHERE WHAT IT READS IS OF BULK AT MOST 1048576: true; the input reads as it did. -/
def operationLimitsUptoRow : OpenClaim := { program := "ytdhbodgefhojnaagreatdoor", sum := "abcc97772d2434031696448d5189e1f42c80477903a73cf8c88474dc7329b1d1", func := "bitext/bitextlaw37.OperationLimits", spec := "operationLimits", inPlace := ["internal/bytealg.IndexByteString", "internal/bytealg.IndexString", "internal/bytealg.Compare"], unfollowed := true, recurses := true, named := ["internal/bytealg.MaxLen", "internal/strconv.uint64pow10", "math/bits.deBruijn32tab", "math/bits.deBruijn64tab"], apart := false, laid := [("math/bits.deBruijn32tab", laid_math_bits_deBruijn32tab), ("math/bits.deBruijn64tab", laid_math_bits_deBruijn64tab), ("internal/strconv.uint64pow10", laid_internal_strconv_uint64pow10)], narrowed := true }
def OperationLimitsUptoSaid : Prop := operationLimitsUptoRow.holds Tryz.pinned (OpenSpec.upto operationLimitsSpec)

/-- 'bitextlaw37.OperationValidates', WHERE WHAT IT READS IS OF BULK AT MOST 1048576: true; the input reads as it did. -/
def operationValidatesUptoRow : OpenClaim := { program := "ytdhbodgefhojnaagreatdoor", sum := "abcc97772d2434031696448d5189e1f42c80477903a73cf8c88474dc7329b1d1", func := "bitext/bitextlaw37.OperationValidates", spec := "operationValidates", inPlace := ["internal/bytealg.IndexByteString", "internal/bytealg.IndexString", "internal/bytealg.Compare"], unfollowed := true, recurses := true, named := ["internal/bytealg.MaxLen", "internal/strconv.uint64pow10", "math/bits.deBruijn32tab", "math/bits.deBruijn64tab"], apart := false, laid := [("math/bits.deBruijn32tab", laid_math_bits_deBruijn32tab), ("math/bits.deBruijn64tab", laid_math_bits_deBruijn64tab), ("internal/strconv.uint64pow10", laid_internal_strconv_uint64pow10)], narrowed := true }
def OperationValidatesUptoSaid : Prop := operationValidatesUptoRow.holds Tryz.pinned (OpenSpec.upto operationValidatesSpec)

/-- 'bitextlaw37.OperationWins', WHERE WHAT IT READS IS OF BULK AT MOST 1048576: true; the input reads as it did. -/
def operationWinsUptoRow : OpenClaim := { program := "ytdhbodgefhojnaagreatdoor", sum := "abcc97772d2434031696448d5189e1f42c80477903a73cf8c88474dc7329b1d1", func := "bitext/bitextlaw37.OperationWins", spec := "operationWins", inPlace := ["internal/bytealg.IndexByteString", "internal/bytealg.IndexString", "internal/bytealg.Compare"], unfollowed := true, recurses := true, named := ["internal/bytealg.MaxLen", "internal/strconv.uint64pow10", "math/bits.deBruijn32tab", "math/bits.deBruijn64tab"], apart := false, laid := [("math/bits.deBruijn32tab", laid_math_bits_deBruijn32tab), ("math/bits.deBruijn64tab", laid_math_bits_deBruijn64tab), ("internal/strconv.uint64pow10", laid_internal_strconv_uint64pow10)], narrowed := true }
def OperationWinsUptoSaid : Prop := operationWinsUptoRow.holds Tryz.pinned (OpenSpec.upto operationWinsSpec)

/-- 'bitextlaw37.OperationOrders', WHERE WHAT IT READS IS OF BULK AT MOST 1048576: true; the input reads as it did. -/
def operationOrdersUptoRow : OpenClaim := { program := "ytdhbodgefhojnaagreatdoor", sum := "abcc97772d2434031696448d5189e1f42c80477903a73cf8c88474dc7329b1d1", func := "bitext/bitextlaw37.OperationOrders", spec := "operationOrders", inPlace := ["internal/bytealg.IndexByteString", "internal/bytealg.IndexString", "internal/bytealg.Compare"], unfollowed := true, recurses := true, named := ["internal/bytealg.MaxLen", "internal/strconv.uint64pow10", "math/bits.deBruijn32tab", "math/bits.deBruijn64tab"], apart := false, laid := [("math/bits.deBruijn32tab", laid_math_bits_deBruijn32tab), ("math/bits.deBruijn64tab", laid_math_bits_deBruijn64tab), ("internal/strconv.uint64pow10", laid_internal_strconv_uint64pow10)], narrowed := true }
def OperationOrdersUptoSaid : Prop := operationOrdersUptoRow.holds Tryz.pinned (OpenSpec.upto operationOrdersSpec)

/-- 'bitextlaw37.OperationCommutes', WHERE WHAT IT READS IS OF BULK AT MOST 1048576: true; the input reads as it did. -/
def operationCommutesUptoRow : OpenClaim := { program := "ytdhbodgefhojnaagreatdoor", sum := "abcc97772d2434031696448d5189e1f42c80477903a73cf8c88474dc7329b1d1", func := "bitext/bitextlaw37.OperationCommutes", spec := "operationCommutes", inPlace := ["internal/bytealg.IndexByteString", "internal/bytealg.IndexString", "internal/bytealg.Compare"], unfollowed := true, recurses := true, named := ["internal/bytealg.MaxLen", "internal/strconv.uint64pow10", "math/bits.deBruijn32tab", "math/bits.deBruijn64tab"], apart := false, laid := [("math/bits.deBruijn32tab", laid_math_bits_deBruijn32tab), ("math/bits.deBruijn64tab", laid_math_bits_deBruijn64tab), ("internal/strconv.uint64pow10", laid_internal_strconv_uint64pow10)], narrowed := true }
def OperationCommutesUptoSaid : Prop := operationCommutesUptoRow.holds Tryz.pinned (OpenSpec.upto operationCommutesSpec)

/-- 'bitextlaw37.OperationCurrent', WHERE WHAT IT READS IS OF BULK AT MOST 1048576: true; the input reads as it did. -/
def operationCurrentUptoRow : OpenClaim := { program := "ytdhbodgefhojnaagreatdoor", sum := "abcc97772d2434031696448d5189e1f42c80477903a73cf8c88474dc7329b1d1", func := "bitext/bitextlaw37.OperationCurrent", spec := "operationCurrent", inPlace := ["internal/bytealg.IndexByteString", "internal/bytealg.IndexString", "internal/bytealg.Compare"], unfollowed := true, recurses := true, named := ["internal/bytealg.MaxLen", "internal/strconv.uint64pow10", "math/bits.deBruijn32tab", "math/bits.deBruijn64tab"], apart := false, laid := [("math/bits.deBruijn32tab", laid_math_bits_deBruijn32tab), ("math/bits.deBruijn64tab", laid_math_bits_deBruijn64tab), ("internal/strconv.uint64pow10", laid_internal_strconv_uint64pow10)], narrowed := true }
def OperationCurrentUptoSaid : Prop := operationCurrentUptoRow.holds Tryz.pinned (OpenSpec.upto operationCurrentSpec)

/-- 'bitextlaw37.OperationKeeps', WHERE WHAT IT READS IS OF BULK AT MOST 1048576: true; the input reads as it did. -/
def operationKeepsUptoRow : OpenClaim := { program := "ytdhbodgefhojnaagreatdoor", sum := "abcc97772d2434031696448d5189e1f42c80477903a73cf8c88474dc7329b1d1", func := "bitext/bitextlaw37.OperationKeeps", spec := "operationKeeps", inPlace := ["internal/bytealg.IndexByteString", "internal/bytealg.IndexString", "internal/bytealg.Compare"], unfollowed := true, recurses := true, named := ["internal/bytealg.MaxLen", "internal/strconv.uint64pow10", "math/bits.deBruijn32tab", "math/bits.deBruijn64tab"], apart := false, laid := [("math/bits.deBruijn32tab", laid_math_bits_deBruijn32tab), ("math/bits.deBruijn64tab", laid_math_bits_deBruijn64tab), ("internal/strconv.uint64pow10", laid_internal_strconv_uint64pow10)], narrowed := true }
def OperationKeepsUptoSaid : Prop := operationKeepsUptoRow.holds Tryz.pinned (OpenSpec.upto operationKeepsSpec)

/-- 'bitextlaw37.OperationEncodes', WHERE WHAT IT READS IS OF BULK AT MOST 1048576: true; the input reads as it did. -/
def operationEncodesUptoRow : OpenClaim := { program := "ytdhbodgefhojnaagreatdoor", sum := "abcc97772d2434031696448d5189e1f42c80477903a73cf8c88474dc7329b1d1", func := "bitext/bitextlaw37.OperationEncodes", spec := "operationEncodes", inPlace := ["internal/bytealg.IndexByteString", "internal/bytealg.IndexString", "internal/bytealg.Compare"], unfollowed := true, recurses := true, named := ["internal/bytealg.MaxLen", "internal/strconv.uint64pow10", "math/bits.deBruijn32tab", "math/bits.deBruijn64tab"], apart := false, laid := [("math/bits.deBruijn32tab", laid_math_bits_deBruijn32tab), ("math/bits.deBruijn64tab", laid_math_bits_deBruijn64tab), ("internal/strconv.uint64pow10", laid_internal_strconv_uint64pow10)], narrowed := true }
def OperationEncodesUptoSaid : Prop := operationEncodesUptoRow.holds Tryz.pinned (OpenSpec.upto operationEncodesSpec)

/-- 'bitextlaw37.OperationDecodes', WHERE WHAT IT READS IS OF BULK AT MOST 1048576: true; the input reads as it did. -/
def operationDecodesUptoRow : OpenClaim := { program := "ytdhbodgefhojnaagreatdoor", sum := "abcc97772d2434031696448d5189e1f42c80477903a73cf8c88474dc7329b1d1", func := "bitext/bitextlaw37.OperationDecodes", spec := "operationDecodes", inPlace := ["internal/bytealg.IndexByteString", "internal/bytealg.IndexString", "internal/bytealg.Compare"], unfollowed := true, recurses := true, named := ["internal/bytealg.MaxLen", "internal/strconv.uint64pow10", "math/bits.deBruijn32tab", "math/bits.deBruijn64tab"], apart := false, laid := [("math/bits.deBruijn32tab", laid_math_bits_deBruijn32tab), ("math/bits.deBruijn64tab", laid_math_bits_deBruijn64tab), ("internal/strconv.uint64pow10", laid_internal_strconv_uint64pow10)], narrowed := true }
def OperationDecodesUptoSaid : Prop := operationDecodesUptoRow.holds Tryz.pinned (OpenSpec.upto operationDecodesSpec)

end Rows
end Go.Proofs.YtdhbodgefhojnaaGreatDoor
