/-
  NARROWER THAN 'FOR EVERY INPUT', by the rows' own cells (each row's printed sentence says how): PeriodChecks: laid · PeriodPlans: laid · PeriodAdjusts: laid · PeriodCovers: laid · PeriodOpen: laid · PeriodSettles: laid · PeriodPlanned: laid.
  DERIVED. THE GIVEN ROWS OF THIS SEAT. 7 by the template 'for every input the law returns true; each argument reads behind the call as it read before'; 0 by the template 'total and deterministic' (their statements: YtedhmdocimkldaaDoorTotals.lean).
  GIVEN WITH THE SEED: the statements are not yours to turn. If you find one false, say at which input.
  Laid BY PROGRAM, IN A SANDBOX (cutbox-rows.mjs): the forced cells as the released guide's own fill.sh prints them over the translation accc56ecf4ec98db… (all of the seat's roots in one cut). By AI agents, Wed Nov 11 2026. No macro, syntax, notation, axiom, sorry.
-/
import Derived.Test.YtedhmdocimkldaaDoorChecked
import GoSem.Claim
import GoSem.ClaimJoined
import GoSem.ClaimMapViews
import Derived.JoinedTies
import Derived.KernelRfl
namespace Go.Proofs.YtedhmdocimkldaaDoor
/- THE CELL 'sum', in the pinned program and in every row, IS THE sha256 OF THE DUMP (.gsa) THAT YtedhmdocimkldaaDoorProg.lean LOADS. Nothing in Lean hashes anything: it is a label: what it is worth is what the hold of that sum in a sandbox is worth. -/
noncomputable def Tryd.pinned : Pinned := { name := "ytedhmdocimkldaadoor", sum := "accc56ecf4ec98db62c7900c5dd247b423d65add5cebe76413792ecea9198f70", checked := Tryd.checked }
namespace Rows
def none {H : Type} : Left H := { results := [], args := [] }

/- WHAT THE LISTED PACKAGE-LEVEL VARIABLES READ AS WHEN THE CALL BEGINS. Each datum BY PROGRAM (the guide's laid-datum.mjs) off the statement by which the dump's own 'gosem.cut.vars' lays the variable. In a bare row this is a premise. The card (YtedhmdocimkldaaDoorCards.lean) ties it to the program's text. -/
def laid_math_bits_deBruijn32tab {H : Type} : DataW H := .agg [.lit (.int .u8 0), .lit (.int .u8 1), .lit (.int .u8 28), .lit (.int .u8 2), .lit (.int .u8 29), .lit (.int .u8 14), .lit (.int .u8 24), .lit (.int .u8 3), .lit (.int .u8 30), .lit (.int .u8 22), .lit (.int .u8 20), .lit (.int .u8 15), .lit (.int .u8 25), .lit (.int .u8 17), .lit (.int .u8 4), .lit (.int .u8 8), .lit (.int .u8 31), .lit (.int .u8 27), .lit (.int .u8 13), .lit (.int .u8 23), .lit (.int .u8 21), .lit (.int .u8 19), .lit (.int .u8 16), .lit (.int .u8 7), .lit (.int .u8 26), .lit (.int .u8 12), .lit (.int .u8 18), .lit (.int .u8 6), .lit (.int .u8 11), .lit (.int .u8 5), .lit (.int .u8 10), .lit (.int .u8 9)]
def laid_math_bits_deBruijn64tab {H : Type} : DataW H := .agg [.lit (.int .u8 0), .lit (.int .u8 1), .lit (.int .u8 56), .lit (.int .u8 2), .lit (.int .u8 57), .lit (.int .u8 49), .lit (.int .u8 28), .lit (.int .u8 3), .lit (.int .u8 61), .lit (.int .u8 58), .lit (.int .u8 42), .lit (.int .u8 50), .lit (.int .u8 38), .lit (.int .u8 29), .lit (.int .u8 17), .lit (.int .u8 4), .lit (.int .u8 62), .lit (.int .u8 47), .lit (.int .u8 59), .lit (.int .u8 36), .lit (.int .u8 45), .lit (.int .u8 43), .lit (.int .u8 51), .lit (.int .u8 22), .lit (.int .u8 53), .lit (.int .u8 39), .lit (.int .u8 33), .lit (.int .u8 30), .lit (.int .u8 24), .lit (.int .u8 18), .lit (.int .u8 12), .lit (.int .u8 5), .lit (.int .u8 63), .lit (.int .u8 55), .lit (.int .u8 48), .lit (.int .u8 27), .lit (.int .u8 60), .lit (.int .u8 41), .lit (.int .u8 37), .lit (.int .u8 16), .lit (.int .u8 46), .lit (.int .u8 35), .lit (.int .u8 44), .lit (.int .u8 21), .lit (.int .u8 52), .lit (.int .u8 32), .lit (.int .u8 23), .lit (.int .u8 11), .lit (.int .u8 54), .lit (.int .u8 26), .lit (.int .u8 40), .lit (.int .u8 15), .lit (.int .u8 34), .lit (.int .u8 20), .lit (.int .u8 31), .lit (.int .u8 10), .lit (.int .u8 25), .lit (.int .u8 14), .lit (.int .u8 19), .lit (.int .u8 9), .lit (.int .u8 13), .lit (.int .u8 8), .lit (.int .u8 7), .lit (.int .u8 6)]
def laid_internal_strconv_uint64pow10 {H : Type} : DataW H := .agg [.lit (.int .u64 1), .lit (.int .u64 10), .lit (.int .u64 100), .lit (.int .u64 1000), .lit (.int .u64 10000), .lit (.int .u64 100000), .lit (.int .u64 1000000), .lit (.int .u64 10000000), .lit (.int .u64 100000000), .lit (.int .u64 1000000000), .lit (.int .u64 10000000000), .lit (.int .u64 100000000000), .lit (.int .u64 1000000000000), .lit (.int .u64 10000000000000), .lit (.int .u64 100000000000000), .lit (.int .u64 1000000000000000), .lit (.int .u64 10000000000000000), .lit (.int .u64 100000000000000000), .lit (.int .u64 1000000000000000000), .lit (.int .u64 10000000000000000000)]
def laid_spile_statement_keys {H : Type} : DataW H := .agg [.lit (.string [105, 116, 101, 109]), .lit (.string [99, 108, 97, 115, 115]), .lit (.string [100, 97, 121]), .lit (.string [97, 108, 99, 111, 104, 111, 108]), .lit (.string [98, 121]), .lit (.string [114, 101, 108, 105, 101, 118, 101, 100]), .lit (.string [114, 97, 116, 101]), .lit (.string [100, 117, 116, 121])]

/-- 'spilelaw50.PeriodChecks': WHATEVER THE INPUT: true; the input reads as it did. -/
def periodChecksSpec : ChangeSpec := { name := "periodChecks", fn := fun _ => fun
  | [d1, d2] => { results := [.lit (.bool true)], args := [d1, d2] }
  | _ => none }
def periodChecksRow : OpenClaim := { program := "ytedhmdocimkldaadoor", sum := "accc56ecf4ec98db62c7900c5dd247b423d65add5cebe76413792ecea9198f70", func := "spile/spilelaw50.PeriodChecks", spec := "periodChecks", inPlace := ["internal/abi.NoEscape", "internal/bytealg.MakeNoZero"], unfollowed := true, recurses := true, named := ["spile/statement.keys", "internal/strconv.uint64pow10", "math/bits.deBruijn32tab", "math/bits.deBruijn64tab"], apart := false, laid := [("math/bits.deBruijn32tab", laid_math_bits_deBruijn32tab), ("math/bits.deBruijn64tab", laid_math_bits_deBruijn64tab), ("internal/strconv.uint64pow10", laid_internal_strconv_uint64pow10), ("spile/statement.keys", laid_spile_statement_keys)] }
def PeriodChecksSaid : Prop := periodChecksRow.holds Tryd.pinned (OpenSpec.ofChange periodChecksSpec)

/-- ITS FALSE NEIGHBOUR: 'it returns false'. Refute it at one input. -/
def periodChecksWrong : ChangeSpec := { name := "periodChecks", fn := fun _ => fun
  | [d1, d2] => { results := [.lit (.bool false)], args := [d1, d2] }
  | _ => none }
def PeriodChecksWrongFalsely : Prop := periodChecksRow.holds Tryd.pinned (OpenSpec.ofChange periodChecksWrong)

/-- 'spilelaw50.PeriodPlans': WHATEVER THE INPUT: true; the input reads as it did. -/
def periodPlansSpec : ChangeSpec := { name := "periodPlans", fn := fun _ => fun
  | [d1, d2, d3, d4, d5] => { results := [.lit (.bool true)], args := [d1, d2, d3, d4, d5] }
  | _ => none }
def periodPlansRow : OpenClaim := { program := "ytedhmdocimkldaadoor", sum := "accc56ecf4ec98db62c7900c5dd247b423d65add5cebe76413792ecea9198f70", func := "spile/spilelaw50.PeriodPlans", spec := "periodPlans", inPlace := ["internal/abi.NoEscape", "internal/bytealg.MakeNoZero"], unfollowed := true, recurses := true, named := ["spile/statement.keys", "internal/strconv.uint64pow10", "math/bits.deBruijn32tab", "math/bits.deBruijn64tab"], apart := false, laid := [("math/bits.deBruijn32tab", laid_math_bits_deBruijn32tab), ("math/bits.deBruijn64tab", laid_math_bits_deBruijn64tab), ("internal/strconv.uint64pow10", laid_internal_strconv_uint64pow10), ("spile/statement.keys", laid_spile_statement_keys)] }
def PeriodPlansSaid : Prop := periodPlansRow.holds Tryd.pinned (OpenSpec.ofChange periodPlansSpec)

/-- ITS FALSE NEIGHBOUR: 'it returns false'. Refute it at one input. -/
def periodPlansWrong : ChangeSpec := { name := "periodPlans", fn := fun _ => fun
  | [d1, d2, d3, d4, d5] => { results := [.lit (.bool false)], args := [d1, d2, d3, d4, d5] }
  | _ => none }
def PeriodPlansWrongFalsely : Prop := periodPlansRow.holds Tryd.pinned (OpenSpec.ofChange periodPlansWrong)

/-- 'spilelaw50.PeriodAdjusts': WHATEVER THE INPUT: true; the input reads as it did. -/
def periodAdjustsSpec : ChangeSpec := { name := "periodAdjusts", fn := fun _ => fun
  | [d1, d2, d3] => { results := [.lit (.bool true)], args := [d1, d2, d3] }
  | _ => none }
def periodAdjustsRow : OpenClaim := { program := "ytedhmdocimkldaadoor", sum := "accc56ecf4ec98db62c7900c5dd247b423d65add5cebe76413792ecea9198f70", func := "spile/spilelaw50.PeriodAdjusts", spec := "periodAdjusts", inPlace := ["internal/abi.NoEscape", "internal/bytealg.MakeNoZero"], unfollowed := true, recurses := true, named := ["spile/statement.keys", "internal/strconv.uint64pow10", "math/bits.deBruijn32tab", "math/bits.deBruijn64tab"], apart := false, laid := [("math/bits.deBruijn32tab", laid_math_bits_deBruijn32tab), ("math/bits.deBruijn64tab", laid_math_bits_deBruijn64tab), ("internal/strconv.uint64pow10", laid_internal_strconv_uint64pow10), ("spile/statement.keys", laid_spile_statement_keys)] }
def PeriodAdjustsSaid : Prop := periodAdjustsRow.holds Tryd.pinned (OpenSpec.ofChange periodAdjustsSpec)

/-- ITS FALSE NEIGHBOUR: 'it returns false'. Refute it at one input. -/
def periodAdjustsWrong : ChangeSpec := { name := "periodAdjusts", fn := fun _ => fun
  | [d1, d2, d3] => { results := [.lit (.bool false)], args := [d1, d2, d3] }
  | _ => none }
def PeriodAdjustsWrongFalsely : Prop := periodAdjustsRow.holds Tryd.pinned (OpenSpec.ofChange periodAdjustsWrong)

/-- 'spilelaw50.PeriodCovers': WHATEVER THE INPUT: true; the input reads as it did. -/
def periodCoversSpec : ChangeSpec := { name := "periodCovers", fn := fun _ => fun
  | [d1, d2] => { results := [.lit (.bool true)], args := [d1, d2] }
  | _ => none }
def periodCoversRow : OpenClaim := { program := "ytedhmdocimkldaadoor", sum := "accc56ecf4ec98db62c7900c5dd247b423d65add5cebe76413792ecea9198f70", func := "spile/spilelaw50.PeriodCovers", spec := "periodCovers", inPlace := ["internal/abi.NoEscape", "internal/bytealg.MakeNoZero"], unfollowed := true, recurses := true, named := ["spile/statement.keys", "internal/strconv.uint64pow10", "math/bits.deBruijn32tab", "math/bits.deBruijn64tab"], apart := false, laid := [("math/bits.deBruijn32tab", laid_math_bits_deBruijn32tab), ("math/bits.deBruijn64tab", laid_math_bits_deBruijn64tab), ("internal/strconv.uint64pow10", laid_internal_strconv_uint64pow10), ("spile/statement.keys", laid_spile_statement_keys)] }
def PeriodCoversSaid : Prop := periodCoversRow.holds Tryd.pinned (OpenSpec.ofChange periodCoversSpec)

/-- ITS FALSE NEIGHBOUR: 'it returns false'. Refute it at one input. -/
def periodCoversWrong : ChangeSpec := { name := "periodCovers", fn := fun _ => fun
  | [d1, d2] => { results := [.lit (.bool false)], args := [d1, d2] }
  | _ => none }
def PeriodCoversWrongFalsely : Prop := periodCoversRow.holds Tryd.pinned (OpenSpec.ofChange periodCoversWrong)

/-- 'spilelaw50.PeriodOpen': WHATEVER THE INPUT: true; the input reads as it did. -/
def periodOpenSpec : ChangeSpec := { name := "periodOpen", fn := fun _ => fun
  | [d1, d2] => { results := [.lit (.bool true)], args := [d1, d2] }
  | _ => none }
def periodOpenRow : OpenClaim := { program := "ytedhmdocimkldaadoor", sum := "accc56ecf4ec98db62c7900c5dd247b423d65add5cebe76413792ecea9198f70", func := "spile/spilelaw50.PeriodOpen", spec := "periodOpen", inPlace := ["internal/abi.NoEscape", "internal/bytealg.MakeNoZero"], unfollowed := true, recurses := true, named := ["spile/statement.keys", "internal/strconv.uint64pow10", "math/bits.deBruijn32tab", "math/bits.deBruijn64tab"], apart := false, laid := [("math/bits.deBruijn32tab", laid_math_bits_deBruijn32tab), ("math/bits.deBruijn64tab", laid_math_bits_deBruijn64tab), ("internal/strconv.uint64pow10", laid_internal_strconv_uint64pow10), ("spile/statement.keys", laid_spile_statement_keys)] }
def PeriodOpenSaid : Prop := periodOpenRow.holds Tryd.pinned (OpenSpec.ofChange periodOpenSpec)

/-- ITS FALSE NEIGHBOUR: 'it returns false'. Refute it at one input. -/
def periodOpenWrong : ChangeSpec := { name := "periodOpen", fn := fun _ => fun
  | [d1, d2] => { results := [.lit (.bool false)], args := [d1, d2] }
  | _ => none }
def PeriodOpenWrongFalsely : Prop := periodOpenRow.holds Tryd.pinned (OpenSpec.ofChange periodOpenWrong)

/-- 'spilelaw50.PeriodSettles': WHATEVER THE INPUT: true; the input reads as it did. -/
def periodSettlesSpec : ChangeSpec := { name := "periodSettles", fn := fun _ => fun
  | [d1, d2] => { results := [.lit (.bool true)], args := [d1, d2] }
  | _ => none }
def periodSettlesRow : OpenClaim := { program := "ytedhmdocimkldaadoor", sum := "accc56ecf4ec98db62c7900c5dd247b423d65add5cebe76413792ecea9198f70", func := "spile/spilelaw50.PeriodSettles", spec := "periodSettles", inPlace := ["internal/abi.NoEscape", "internal/bytealg.MakeNoZero"], unfollowed := true, recurses := true, named := ["spile/statement.keys", "internal/strconv.uint64pow10", "math/bits.deBruijn32tab", "math/bits.deBruijn64tab"], apart := false, laid := [("math/bits.deBruijn32tab", laid_math_bits_deBruijn32tab), ("math/bits.deBruijn64tab", laid_math_bits_deBruijn64tab), ("internal/strconv.uint64pow10", laid_internal_strconv_uint64pow10), ("spile/statement.keys", laid_spile_statement_keys)] }
def PeriodSettlesSaid : Prop := periodSettlesRow.holds Tryd.pinned (OpenSpec.ofChange periodSettlesSpec)

/-- ITS FALSE NEIGHBOUR: 'it returns false'. Refute it at one input. -/
def periodSettlesWrong : ChangeSpec := { name := "periodSettles", fn := fun _ => fun
  | [d1, d2] => { results := [.lit (.bool false)], args := [d1, d2] }
  | _ => none }
def PeriodSettlesWrongFalsely : Prop := periodSettlesRow.holds Tryd.pinned (OpenSpec.ofChange periodSettlesWrong)

/-- 'spilelaw50.PeriodPlanned': WHATEVER THE INPUT: true; the input reads as it did. -/
def periodPlannedSpec : ChangeSpec := { name := "periodPlanned", fn := fun _ => fun
  | [d1, d2, d3, d4] => { results := [.lit (.bool true)], args := [d1, d2, d3, d4] }
  | _ => none }
def periodPlannedRow : OpenClaim := { program := "ytedhmdocimkldaadoor", sum := "accc56ecf4ec98db62c7900c5dd247b423d65add5cebe76413792ecea9198f70", func := "spile/spilelaw50.PeriodPlanned", spec := "periodPlanned", inPlace := ["internal/abi.NoEscape", "internal/bytealg.MakeNoZero"], unfollowed := true, recurses := true, named := ["spile/statement.keys", "internal/strconv.uint64pow10", "math/bits.deBruijn32tab", "math/bits.deBruijn64tab"], apart := false, laid := [("math/bits.deBruijn32tab", laid_math_bits_deBruijn32tab), ("math/bits.deBruijn64tab", laid_math_bits_deBruijn64tab), ("internal/strconv.uint64pow10", laid_internal_strconv_uint64pow10), ("spile/statement.keys", laid_spile_statement_keys)] }
def PeriodPlannedSaid : Prop := periodPlannedRow.holds Tryd.pinned (OpenSpec.ofChange periodPlannedSpec)

/-- ITS FALSE NEIGHBOUR: 'it returns false'. Refute it at one input. -/
def periodPlannedWrong : ChangeSpec := { name := "periodPlanned", fn := fun _ => fun
  | [d1, d2, d3, d4] => { results := [.lit (.bool false)], args := [d1, d2, d3, d4] }
  | _ => none }
def PeriodPlannedWrongFalsely : Prop := periodPlannedRow.holds Tryd.pinned (OpenSpec.ofChange periodPlannedWrong)

/- THE SECOND FORM. 'bulk': how many values and letters a reading holds, each counted each time it is reached (what is shared counts as often as it is met; a slice's spare places count too). A statement '..UptoSaid' is the law's where the arguments, and the package variables that the reading takes, are together of bulk at most 1048576: NARROWER than '..Said'. Prove '..Said' where nothing that the law and all that it calls make is longer than what came in: it says more and counts as full. Else prove '..UptoSaid'. A law counts once. -/
mutual
def uptoBulk {H : Type} : DataW H → Nat
  | .lit (.string bytes) => bytes.length + 1
  | .lit _ => 1
  | .nil => 1
  | .ptr d => uptoBulk d + 1
  | .slice elems spare => uptoBulkAll elems + uptoBulkAll spare + 1
  | .agg parts => uptoBulkAll parts + 1
  | .iface _ d => uptoBulk d + 1
  | .map entries => uptoBulkEntries entries + 1
  | .held _ => 1
def uptoBulkAll {H : Type} : List (DataW H) → Nat
  | [] => 0
  | d :: r => uptoBulk d + uptoBulkAll r
def uptoBulkEntries {H : Type} : List (Lit × DataW H) → Nat
  | [] => 0
  | x :: r => uptoBulkEntry x + uptoBulkEntries r
def uptoBulkEntry {H : Type} : Lit × DataW H → Nat
  | (.string bytes, d) => bytes.length + uptoBulk d + 1
  | (_, d) => uptoBulk d + 1
 end
def uptoSmall : (H : Type) → List (DataW H) → Bool := fun _ ds => decide (uptoBulkAll ds ≤ 1048576)
def OpenSpec.upto (s : _root_.Go.ChangeSpec) : _root_.Go.OpenSpec := { _root_.Go.OpenSpec.ofChange s with cond := some uptoSmall }

/-- 'spilelaw50.PeriodChecks', WHERE WHAT IT READS IS OF BULK AT MOST 1048576: true; the input reads as it did. -/
def periodChecksUptoRow : OpenClaim := { program := "ytedhmdocimkldaadoor", sum := "accc56ecf4ec98db62c7900c5dd247b423d65add5cebe76413792ecea9198f70", func := "spile/spilelaw50.PeriodChecks", spec := "periodChecks", inPlace := ["internal/abi.NoEscape", "internal/bytealg.MakeNoZero"], unfollowed := true, recurses := true, named := ["spile/statement.keys", "internal/strconv.uint64pow10", "math/bits.deBruijn32tab", "math/bits.deBruijn64tab"], apart := false, laid := [("math/bits.deBruijn32tab", laid_math_bits_deBruijn32tab), ("math/bits.deBruijn64tab", laid_math_bits_deBruijn64tab), ("internal/strconv.uint64pow10", laid_internal_strconv_uint64pow10), ("spile/statement.keys", laid_spile_statement_keys)], narrowed := true }
def PeriodChecksUptoSaid : Prop := periodChecksUptoRow.holds Tryd.pinned (OpenSpec.upto periodChecksSpec)

/-- 'spilelaw50.PeriodPlans', WHERE WHAT IT READS IS OF BULK AT MOST 1048576: true; the input reads as it did. -/
def periodPlansUptoRow : OpenClaim := { program := "ytedhmdocimkldaadoor", sum := "accc56ecf4ec98db62c7900c5dd247b423d65add5cebe76413792ecea9198f70", func := "spile/spilelaw50.PeriodPlans", spec := "periodPlans", inPlace := ["internal/abi.NoEscape", "internal/bytealg.MakeNoZero"], unfollowed := true, recurses := true, named := ["spile/statement.keys", "internal/strconv.uint64pow10", "math/bits.deBruijn32tab", "math/bits.deBruijn64tab"], apart := false, laid := [("math/bits.deBruijn32tab", laid_math_bits_deBruijn32tab), ("math/bits.deBruijn64tab", laid_math_bits_deBruijn64tab), ("internal/strconv.uint64pow10", laid_internal_strconv_uint64pow10), ("spile/statement.keys", laid_spile_statement_keys)], narrowed := true }
def PeriodPlansUptoSaid : Prop := periodPlansUptoRow.holds Tryd.pinned (OpenSpec.upto periodPlansSpec)

/-- 'spilelaw50.PeriodAdjusts', WHERE WHAT IT READS IS OF BULK AT MOST 1048576: true; the input reads as it did. -/
def periodAdjustsUptoRow : OpenClaim := { program := "ytedhmdocimkldaadoor", sum := "accc56ecf4ec98db62c7900c5dd247b423d65add5cebe76413792ecea9198f70", func := "spile/spilelaw50.PeriodAdjusts", spec := "periodAdjusts", inPlace := ["internal/abi.NoEscape", "internal/bytealg.MakeNoZero"], unfollowed := true, recurses := true, named := ["spile/statement.keys", "internal/strconv.uint64pow10", "math/bits.deBruijn32tab", "math/bits.deBruijn64tab"], apart := false, laid := [("math/bits.deBruijn32tab", laid_math_bits_deBruijn32tab), ("math/bits.deBruijn64tab", laid_math_bits_deBruijn64tab), ("internal/strconv.uint64pow10", laid_internal_strconv_uint64pow10), ("spile/statement.keys", laid_spile_statement_keys)], narrowed := true }
def PeriodAdjustsUptoSaid : Prop := periodAdjustsUptoRow.holds Tryd.pinned (OpenSpec.upto periodAdjustsSpec)

/-- 'spilelaw50.PeriodCovers', WHERE WHAT IT READS IS OF BULK AT MOST 1048576: true; the input reads as it did. -/
def periodCoversUptoRow : OpenClaim := { program := "ytedhmdocimkldaadoor", sum := "accc56ecf4ec98db62c7900c5dd247b423d65add5cebe76413792ecea9198f70", func := "spile/spilelaw50.PeriodCovers", spec := "periodCovers", inPlace := ["internal/abi.NoEscape", "internal/bytealg.MakeNoZero"], unfollowed := true, recurses := true, named := ["spile/statement.keys", "internal/strconv.uint64pow10", "math/bits.deBruijn32tab", "math/bits.deBruijn64tab"], apart := false, laid := [("math/bits.deBruijn32tab", laid_math_bits_deBruijn32tab), ("math/bits.deBruijn64tab", laid_math_bits_deBruijn64tab), ("internal/strconv.uint64pow10", laid_internal_strconv_uint64pow10), ("spile/statement.keys", laid_spile_statement_keys)], narrowed := true }
def PeriodCoversUptoSaid : Prop := periodCoversUptoRow.holds Tryd.pinned (OpenSpec.upto periodCoversSpec)

/-- 'spilelaw50.PeriodOpen', WHERE WHAT IT READS IS OF BULK AT MOST 1048576: true; the input reads as it did. -/
def periodOpenUptoRow : OpenClaim := { program := "ytedhmdocimkldaadoor", sum := "accc56ecf4ec98db62c7900c5dd247b423d65add5cebe76413792ecea9198f70", func := "spile/spilelaw50.PeriodOpen", spec := "periodOpen", inPlace := ["internal/abi.NoEscape", "internal/bytealg.MakeNoZero"], unfollowed := true, recurses := true, named := ["spile/statement.keys", "internal/strconv.uint64pow10", "math/bits.deBruijn32tab", "math/bits.deBruijn64tab"], apart := false, laid := [("math/bits.deBruijn32tab", laid_math_bits_deBruijn32tab), ("math/bits.deBruijn64tab", laid_math_bits_deBruijn64tab), ("internal/strconv.uint64pow10", laid_internal_strconv_uint64pow10), ("spile/statement.keys", laid_spile_statement_keys)], narrowed := true }
def PeriodOpenUptoSaid : Prop := periodOpenUptoRow.holds Tryd.pinned (OpenSpec.upto periodOpenSpec)

/-- 'spilelaw50.PeriodSettles', WHERE WHAT IT READS IS OF BULK AT MOST 1048576: true; the input reads as it did. -/
def periodSettlesUptoRow : OpenClaim := { program := "ytedhmdocimkldaadoor", sum := "accc56ecf4ec98db62c7900c5dd247b423d65add5cebe76413792ecea9198f70", func := "spile/spilelaw50.PeriodSettles", spec := "periodSettles", inPlace := ["internal/abi.NoEscape", "internal/bytealg.MakeNoZero"], unfollowed := true, recurses := true, named := ["spile/statement.keys", "internal/strconv.uint64pow10", "math/bits.deBruijn32tab", "math/bits.deBruijn64tab"], apart := false, laid := [("math/bits.deBruijn32tab", laid_math_bits_deBruijn32tab), ("math/bits.deBruijn64tab", laid_math_bits_deBruijn64tab), ("internal/strconv.uint64pow10", laid_internal_strconv_uint64pow10), ("spile/statement.keys", laid_spile_statement_keys)], narrowed := true }
def PeriodSettlesUptoSaid : Prop := periodSettlesUptoRow.holds Tryd.pinned (OpenSpec.upto periodSettlesSpec)

/-- 'spilelaw50.PeriodPlanned', WHERE WHAT IT READS IS OF BULK AT MOST 1048576: true; the input reads as it did. -/
def periodPlannedUptoRow : OpenClaim := { program := "ytedhmdocimkldaadoor", sum := "accc56ecf4ec98db62c7900c5dd247b423d65add5cebe76413792ecea9198f70", func := "spile/spilelaw50.PeriodPlanned", spec := "periodPlanned", inPlace := ["internal/abi.NoEscape", "internal/bytealg.MakeNoZero"], unfollowed := true, recurses := true, named := ["spile/statement.keys", "internal/strconv.uint64pow10", "math/bits.deBruijn32tab", "math/bits.deBruijn64tab"], apart := false, laid := [("math/bits.deBruijn32tab", laid_math_bits_deBruijn32tab), ("math/bits.deBruijn64tab", laid_math_bits_deBruijn64tab), ("internal/strconv.uint64pow10", laid_internal_strconv_uint64pow10), ("spile/statement.keys", laid_spile_statement_keys)], narrowed := true }
def PeriodPlannedUptoSaid : Prop := periodPlannedUptoRow.holds Tryd.pinned (OpenSpec.upto periodPlannedSpec)

end Rows
end Go.Proofs.YtedhmdocimkldaaDoor
