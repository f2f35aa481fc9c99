/-
  No cell of these rows narrows 'for every input' (looked for: loops, veiled, ifaces, maps, wideKeys, modest, calm, conditions, laid).
  DERIVED. THE GIVEN ROWS OF THIS SEAT. 12 by the template 'for every input the law returns true; each argument reads behind the call as it read before'; 0 by the template 'total and deterministic' (their statements: YtadlfinlbaogeaaTotals.lean).
  GIVEN WITH THE SEED: the statements are not yours to turn. If you find one false, say at which input.
  Laid BY PROGRAM, IN A SANDBOX (cutbox-rows.mjs): the forced cells as the released guide's own fill.sh prints them over the translation 196775bf6804f8ce… (all of the seat's roots in one cut). By AI agents, Wed Nov 11 2026. No macro, syntax, notation, axiom, sorry.
-/
import Derived.Test.YtadlfinlbaogeaaChecked
import GoSem.Claim
import GoSem.ClaimJoined
import GoSem.ClaimMapViews
import Derived.JoinedTies
import Derived.KernelRfl
namespace Go.Proofs.Ytadlfinlbaogeaa
/- THE CELL 'sum', in the pinned program and in every row, IS THE sha256 OF THE DUMP (.gsa) THAT YtadlfinlbaogeaaProg.lean LOADS. Nothing in Lean hashes anything: it is a label: what it is worth is what the hold of that sum in a sandbox is worth. -/
noncomputable def Try.pinned : Pinned := { name := "ytadlfinlbaogeaa", sum := "196775bf6804f8ce2af9fa0ec3ba0d76325c35c8503439f93e69e753d73c3e2f", checked := Try.checked }
namespace Rows
def none {H : Type} : Left H := { results := [], args := [] }

/-- 'spilelaw01.ProportionExact': WHATEVER THE INPUT: true; the input reads as it did. -/
def proportionExactSpec : ChangeSpec := { name := "proportionExact", fn := fun _ => fun
  | [d] => { results := [.lit (.bool true)], args := [d] }
  | _ => none }
def proportionExactRow : OpenClaim := { program := "ytadlfinlbaogeaa", sum := "196775bf6804f8ce2af9fa0ec3ba0d76325c35c8503439f93e69e753d73c3e2f", func := "spile/spilelaw01.ProportionExact", spec := "proportionExact", unfollowed := true, recurses := true, named := ["math/bits.divideError", "math/bits.overflowError"], apart := false }
def ProportionExactSaid : Prop := proportionExactRow.holds Try.pinned (OpenSpec.ofChange proportionExactSpec)

/-- ITS FALSE NEIGHBOUR: 'it returns false'. Refute it at one input. -/
def proportionExactWrong : ChangeSpec := { name := "proportionExact", fn := fun _ => fun
  | [d] => { results := [.lit (.bool false)], args := [d] }
  | _ => none }
def ProportionExactWrongFalsely : Prop := proportionExactRow.holds Try.pinned (OpenSpec.ofChange proportionExactWrong)

/-- 'spilelaw01.ProportionStays': WHATEVER THE INPUT: true; the input reads as it did. -/
def proportionStaysSpec : ChangeSpec := { name := "proportionStays", fn := fun _ => fun
  | [d1, d2] => { results := [.lit (.bool true)], args := [d1, d2] }
  | _ => none }
def proportionStaysRow : OpenClaim := { program := "ytadlfinlbaogeaa", sum := "196775bf6804f8ce2af9fa0ec3ba0d76325c35c8503439f93e69e753d73c3e2f", func := "spile/spilelaw01.ProportionStays", spec := "proportionStays", unfollowed := true, recurses := true, named := ["math/bits.divideError", "math/bits.overflowError"], apart := false }
def ProportionStaysSaid : Prop := proportionStaysRow.holds Try.pinned (OpenSpec.ofChange proportionStaysSpec)

/-- ITS FALSE NEIGHBOUR: 'it returns false'. Refute it at one input. -/
def proportionStaysWrong : ChangeSpec := { name := "proportionStays", fn := fun _ => fun
  | [d1, d2] => { results := [.lit (.bool false)], args := [d1, d2] }
  | _ => none }
def ProportionStaysWrongFalsely : Prop := proportionStaysRow.holds Try.pinned (OpenSpec.ofChange proportionStaysWrong)

/-- 'spilelaw01.ProportionScales': WHATEVER THE INPUT: true; the input reads as it did. -/
def proportionScalesSpec : ChangeSpec := { name := "proportionScales", fn := fun _ => fun
  | [d1, d2, d3] => { results := [.lit (.bool true)], args := [d1, d2, d3] }
  | _ => none }
def proportionScalesRow : OpenClaim := { program := "ytadlfinlbaogeaa", sum := "196775bf6804f8ce2af9fa0ec3ba0d76325c35c8503439f93e69e753d73c3e2f", func := "spile/spilelaw01.ProportionScales", spec := "proportionScales", unfollowed := true, recurses := true, named := ["math/bits.divideError", "math/bits.overflowError"], apart := false }
def ProportionScalesSaid : Prop := proportionScalesRow.holds Try.pinned (OpenSpec.ofChange proportionScalesSpec)

/-- ITS FALSE NEIGHBOUR: 'it returns false'. Refute it at one input. -/
def proportionScalesWrong : ChangeSpec := { name := "proportionScales", fn := fun _ => fun
  | [d1, d2, d3] => { results := [.lit (.bool false)], args := [d1, d2, d3] }
  | _ => none }
def ProportionScalesWrongFalsely : Prop := proportionScalesRow.holds Try.pinned (OpenSpec.ofChange proportionScalesWrong)

/-- 'spilelaw01.ProportionOrder': WHATEVER THE INPUT: true; the input reads as it did. -/
def proportionOrderSpec : ChangeSpec := { name := "proportionOrder", fn := fun _ => fun
  | [d] => { results := [.lit (.bool true)], args := [d] }
  | _ => none }
def proportionOrderRow : OpenClaim := { program := "ytadlfinlbaogeaa", sum := "196775bf6804f8ce2af9fa0ec3ba0d76325c35c8503439f93e69e753d73c3e2f", func := "spile/spilelaw01.ProportionOrder", spec := "proportionOrder", unfollowed := true, recurses := true, named := ["math/bits.divideError", "math/bits.overflowError"], apart := false }
def ProportionOrderSaid : Prop := proportionOrderRow.holds Try.pinned (OpenSpec.ofChange proportionOrderSpec)

/-- ITS FALSE NEIGHBOUR: 'it returns false'. Refute it at one input. -/
def proportionOrderWrong : ChangeSpec := { name := "proportionOrder", fn := fun _ => fun
  | [d] => { results := [.lit (.bool false)], args := [d] }
  | _ => none }
def ProportionOrderWrongFalsely : Prop := proportionOrderRow.holds Try.pinned (OpenSpec.ofChange proportionOrderWrong)

/-- 'spilelaw32.LossChains': WHATEVER THE INPUT: true; the input reads as it did. -/
def lossChainsSpec : ChangeSpec := { name := "lossChains", fn := fun _ => fun
  | [d1, d2] => { results := [.lit (.bool true)], args := [d1, d2] }
  | _ => none }
def lossChainsRow : OpenClaim := { program := "ytadlfinlbaogeaa", sum := "196775bf6804f8ce2af9fa0ec3ba0d76325c35c8503439f93e69e753d73c3e2f", func := "spile/spilelaw32.LossChains", spec := "lossChains", unfollowed := true, recurses := true, named := ["math/bits.divideError", "math/bits.overflowError"], apart := false }
def LossChainsSaid : Prop := lossChainsRow.holds Try.pinned (OpenSpec.ofChange lossChainsSpec)

/-- ITS FALSE NEIGHBOUR: 'it returns false'. Refute it at one input. -/
def lossChainsWrong : ChangeSpec := { name := "lossChains", fn := fun _ => fun
  | [d1, d2] => { results := [.lit (.bool false)], args := [d1, d2] }
  | _ => none }
def LossChainsWrongFalsely : Prop := lossChainsRow.holds Try.pinned (OpenSpec.ofChange lossChainsWrong)

/-- 'spilelaw32.LossCloses': WHATEVER THE INPUT: true; the input reads as it did. -/
def lossClosesSpec : ChangeSpec := { name := "lossCloses", fn := fun _ => fun
  | [d] => { results := [.lit (.bool true)], args := [d] }
  | _ => none }
def lossClosesRow : OpenClaim := { program := "ytadlfinlbaogeaa", sum := "196775bf6804f8ce2af9fa0ec3ba0d76325c35c8503439f93e69e753d73c3e2f", func := "spile/spilelaw32.LossCloses", spec := "lossCloses", unfollowed := true, recurses := true, named := ["math/bits.divideError", "math/bits.overflowError"], apart := false }
def LossClosesSaid : Prop := lossClosesRow.holds Try.pinned (OpenSpec.ofChange lossClosesSpec)

/-- ITS FALSE NEIGHBOUR: 'it returns false'. Refute it at one input. -/
def lossClosesWrong : ChangeSpec := { name := "lossCloses", fn := fun _ => fun
  | [d] => { results := [.lit (.bool false)], args := [d] }
  | _ => none }
def LossClosesWrongFalsely : Prop := lossClosesRow.holds Try.pinned (OpenSpec.ofChange lossClosesWrong)

/-- 'spilelaw32.LossOrdered': WHATEVER THE INPUT: true; the input reads as it did. -/
def lossOrderedSpec : ChangeSpec := { name := "lossOrdered", fn := fun _ => fun
  | [d1, d2] => { results := [.lit (.bool true)], args := [d1, d2] }
  | _ => none }
def lossOrderedRow : OpenClaim := { program := "ytadlfinlbaogeaa", sum := "196775bf6804f8ce2af9fa0ec3ba0d76325c35c8503439f93e69e753d73c3e2f", func := "spile/spilelaw32.LossOrdered", spec := "lossOrdered", unfollowed := true, recurses := true, named := ["math/bits.divideError", "math/bits.overflowError"], apart := false }
def LossOrderedSaid : Prop := lossOrderedRow.holds Try.pinned (OpenSpec.ofChange lossOrderedSpec)

/-- ITS FALSE NEIGHBOUR: 'it returns false'. Refute it at one input. -/
def lossOrderedWrong : ChangeSpec := { name := "lossOrdered", fn := fun _ => fun
  | [d1, d2] => { results := [.lit (.bool false)], args := [d1, d2] }
  | _ => none }
def LossOrderedWrongFalsely : Prop := lossOrderedRow.holds Try.pinned (OpenSpec.ofChange lossOrderedWrong)

/-- 'spilelaw32.LossTurns': WHATEVER THE INPUT: true; the input reads as it did. -/
def lossTurnsSpec : ChangeSpec := { name := "lossTurns", fn := fun _ => fun
  | [d1, d2] => { results := [.lit (.bool true)], args := [d1, d2] }
  | _ => none }
def lossTurnsRow : OpenClaim := { program := "ytadlfinlbaogeaa", sum := "196775bf6804f8ce2af9fa0ec3ba0d76325c35c8503439f93e69e753d73c3e2f", func := "spile/spilelaw32.LossTurns", spec := "lossTurns", unfollowed := true, recurses := true, named := ["math/bits.divideError", "math/bits.overflowError"], apart := false }
def LossTurnsSaid : Prop := lossTurnsRow.holds Try.pinned (OpenSpec.ofChange lossTurnsSpec)

/-- ITS FALSE NEIGHBOUR: 'it returns false'. Refute it at one input. -/
def lossTurnsWrong : ChangeSpec := { name := "lossTurns", fn := fun _ => fun
  | [d1, d2] => { results := [.lit (.bool false)], args := [d1, d2] }
  | _ => none }
def LossTurnsWrongFalsely : Prop := lossTurnsRow.holds Try.pinned (OpenSpec.ofChange lossTurnsWrong)

/-- 'spilelaw01.ProportionBack': WHATEVER THE INPUT: true; the input reads as it did. -/
def proportionBackSpec : ChangeSpec := { name := "proportionBack", fn := fun _ => fun
  | [d1, d2, d3] => { results := [.lit (.bool true)], args := [d1, d2, d3] }
  | _ => none }
def proportionBackRow : OpenClaim := { program := "ytadlfinlbaogeaa", sum := "196775bf6804f8ce2af9fa0ec3ba0d76325c35c8503439f93e69e753d73c3e2f", func := "spile/spilelaw01.ProportionBack", spec := "proportionBack", inPlace := ["math/bits.Add64"], unfollowed := true, recurses := true, named := ["math/bits.divideError", "math/bits.overflowError"], apart := false }
def ProportionBackSaid : Prop := proportionBackRow.holds Try.pinned (OpenSpec.ofChange proportionBackSpec)

/-- ITS FALSE NEIGHBOUR: 'it returns false'. Refute it at one input. -/
def proportionBackWrong : ChangeSpec := { name := "proportionBack", fn := fun _ => fun
  | [d1, d2, d3] => { results := [.lit (.bool false)], args := [d1, d2, d3] }
  | _ => none }
def ProportionBackWrongFalsely : Prop := proportionBackRow.holds Try.pinned (OpenSpec.ofChange proportionBackWrong)

/-- 'spilelaw32.LossSplits': WHATEVER THE INPUT: true; the input reads as it did. -/
def lossSplitsSpec : ChangeSpec := { name := "lossSplits", fn := fun _ => fun
  | [d1, d2] => { results := [.lit (.bool true)], args := [d1, d2] }
  | _ => none }
def lossSplitsRow : OpenClaim := { program := "ytadlfinlbaogeaa", sum := "196775bf6804f8ce2af9fa0ec3ba0d76325c35c8503439f93e69e753d73c3e2f", func := "spile/spilelaw32.LossSplits", spec := "lossSplits", unfollowed := true, recurses := true, named := ["math/bits.divideError", "math/bits.overflowError"], apart := false }
def LossSplitsSaid : Prop := lossSplitsRow.holds Try.pinned (OpenSpec.ofChange lossSplitsSpec)

/-- ITS FALSE NEIGHBOUR: 'it returns false'. Refute it at one input. -/
def lossSplitsWrong : ChangeSpec := { name := "lossSplits", fn := fun _ => fun
  | [d1, d2] => { results := [.lit (.bool false)], args := [d1, d2] }
  | _ => none }
def LossSplitsWrongFalsely : Prop := lossSplitsRow.holds Try.pinned (OpenSpec.ofChange lossSplitsWrong)

/-- 'spilelaw32.LossSums': WHATEVER THE INPUT: true; the input reads as it did. -/
def lossSumsSpec : ChangeSpec := { name := "lossSums", fn := fun _ => fun
  | [d1, d2, d3] => { results := [.lit (.bool true)], args := [d1, d2, d3] }
  | _ => none }
def lossSumsRow : OpenClaim := { program := "ytadlfinlbaogeaa", sum := "196775bf6804f8ce2af9fa0ec3ba0d76325c35c8503439f93e69e753d73c3e2f", func := "spile/spilelaw32.LossSums", spec := "lossSums", unfollowed := true, recurses := true, named := ["math/bits.divideError", "math/bits.overflowError"], apart := false }
def LossSumsSaid : Prop := lossSumsRow.holds Try.pinned (OpenSpec.ofChange lossSumsSpec)

/-- ITS FALSE NEIGHBOUR: 'it returns false'. Refute it at one input. -/
def lossSumsWrong : ChangeSpec := { name := "lossSums", fn := fun _ => fun
  | [d1, d2, d3] => { results := [.lit (.bool false)], args := [d1, d2, d3] }
  | _ => none }
def LossSumsWrongFalsely : Prop := lossSumsRow.holds Try.pinned (OpenSpec.ofChange lossSumsWrong)

/-- 'spilelaw32.LossParts': WHATEVER THE INPUT: true; the input reads as it did. -/
def lossPartsSpec : ChangeSpec := { name := "lossParts", fn := fun _ => fun
  | [d1, d2] => { results := [.lit (.bool true)], args := [d1, d2] }
  | _ => none }
def lossPartsRow : OpenClaim := { program := "ytadlfinlbaogeaa", sum := "196775bf6804f8ce2af9fa0ec3ba0d76325c35c8503439f93e69e753d73c3e2f", func := "spile/spilelaw32.LossParts", spec := "lossParts", unfollowed := true, recurses := true, named := ["math/bits.divideError", "math/bits.overflowError"], apart := false }
def LossPartsSaid : Prop := lossPartsRow.holds Try.pinned (OpenSpec.ofChange lossPartsSpec)

/-- ITS FALSE NEIGHBOUR: 'it returns false'. Refute it at one input. -/
def lossPartsWrong : ChangeSpec := { name := "lossParts", fn := fun _ => fun
  | [d1, d2] => { results := [.lit (.bool false)], args := [d1, d2] }
  | _ => none }
def LossPartsWrongFalsely : Prop := lossPartsRow.holds Try.pinned (OpenSpec.ofChange lossPartsWrong)

/- THE SECOND FORM. 'bulk': how many values and letters a reading holds, each counted each time it is reached (what is shared counts as often as it is met; a slice's spare places count too). A statement '..UptoSaid' is the law's where the arguments, and the package variables that the reading takes, are together of bulk at most 1048576: NARROWER than '..Said'. Prove '..Said' where nothing that the law and all that it calls make is longer than what came in: it says more and counts as full. Else prove '..UptoSaid'. A law counts once. -/
mutual
def uptoBulk {H : Type} : DataW H → Nat
  | .lit (.string bytes) => bytes.length + 1
  | .lit _ => 1
  | .nil => 1
  | .ptr d => uptoBulk d + 1
  | .slice elems spare => uptoBulkAll elems + uptoBulkAll spare + 1
  | .agg parts => uptoBulkAll parts + 1
  | .iface _ d => uptoBulk d + 1
  | .map entries => uptoBulkEntries entries + 1
  | .held _ => 1
def uptoBulkAll {H : Type} : List (DataW H) → Nat
  | [] => 0
  | d :: r => uptoBulk d + uptoBulkAll r
def uptoBulkEntries {H : Type} : List (Lit × DataW H) → Nat
  | [] => 0
  | x :: r => uptoBulkEntry x + uptoBulkEntries r
def uptoBulkEntry {H : Type} : Lit × DataW H → Nat
  | (.string bytes, d) => bytes.length + uptoBulk d + 1
  | (_, d) => uptoBulk d + 1
 end
def uptoSmall : (H : Type) → List (DataW H) → Bool := fun _ ds => decide (uptoBulkAll ds ≤ 1048576)
def OpenSpec.upto (s : _root_.Go.ChangeSpec) : _root_.Go.OpenSpec := { _root_.Go.OpenSpec.ofChange s with cond := some uptoSmall }

/-- 'spilelaw01.ProportionExact', WHERE WHAT IT READS IS OF BULK AT MOST 1048576: true; the input reads as it did. -/
def proportionExactUptoRow : OpenClaim := { program := "ytadlfinlbaogeaa", sum := "196775bf6804f8ce2af9fa0ec3ba0d76325c35c8503439f93e69e753d73c3e2f", func := "spile/spilelaw01.ProportionExact", spec := "proportionExact", unfollowed := true, recurses := true, named := ["math/bits.divideError", "math/bits.overflowError"], apart := false, narrowed := true }
def ProportionExactUptoSaid : Prop := proportionExactUptoRow.holds Try.pinned (OpenSpec.upto proportionExactSpec)

/-- 'spilelaw01.ProportionStays', WHERE WHAT IT READS IS OF BULK AT MOST 1048576: true; the input reads as it did. -/
def proportionStaysUptoRow : OpenClaim := { program := "ytadlfinlbaogeaa", sum := "196775bf6804f8ce2af9fa0ec3ba0d76325c35c8503439f93e69e753d73c3e2f", func := "spile/spilelaw01.ProportionStays", spec := "proportionStays", unfollowed := true, recurses := true, named := ["math/bits.divideError", "math/bits.overflowError"], apart := false, narrowed := true }
def ProportionStaysUptoSaid : Prop := proportionStaysUptoRow.holds Try.pinned (OpenSpec.upto proportionStaysSpec)

/-- 'spilelaw01.ProportionScales', WHERE WHAT IT READS IS OF BULK AT MOST 1048576: true; the input reads as it did. -/
def proportionScalesUptoRow : OpenClaim := { program := "ytadlfinlbaogeaa", sum := "196775bf6804f8ce2af9fa0ec3ba0d76325c35c8503439f93e69e753d73c3e2f", func := "spile/spilelaw01.ProportionScales", spec := "proportionScales", unfollowed := true, recurses := true, named := ["math/bits.divideError", "math/bits.overflowError"], apart := false, narrowed := true }
def ProportionScalesUptoSaid : Prop := proportionScalesUptoRow.holds Try.pinned (OpenSpec.upto proportionScalesSpec)

/-- 'spilelaw01.ProportionOrder', WHERE WHAT IT READS IS OF BULK AT MOST 1048576: true; the input reads as it did. -/
def proportionOrderUptoRow : OpenClaim := { program := "ytadlfinlbaogeaa", sum := "196775bf6804f8ce2af9fa0ec3ba0d76325c35c8503439f93e69e753d73c3e2f", func := "spile/spilelaw01.ProportionOrder", spec := "proportionOrder", unfollowed := true, recurses := true, named := ["math/bits.divideError", "math/bits.overflowError"], apart := false, narrowed := true }
def ProportionOrderUptoSaid : Prop := proportionOrderUptoRow.holds Try.pinned (OpenSpec.upto proportionOrderSpec)

/-- 'spilelaw32.LossChains', WHERE WHAT IT READS IS OF BULK AT MOST 1048576: true; the input reads as it did. -/
def lossChainsUptoRow : OpenClaim := { program := "ytadlfinlbaogeaa", sum := "196775bf6804f8ce2af9fa0ec3ba0d76325c35c8503439f93e69e753d73c3e2f", func := "spile/spilelaw32.LossChains", spec := "lossChains", unfollowed := true, recurses := true, named := ["math/bits.divideError", "math/bits.overflowError"], apart := false, narrowed := true }
def LossChainsUptoSaid : Prop := lossChainsUptoRow.holds Try.pinned (OpenSpec.upto lossChainsSpec)

/-- 'spilelaw32.LossCloses', WHERE WHAT IT READS IS OF BULK AT MOST 1048576: true; the input reads as it did. -/
def lossClosesUptoRow : OpenClaim := { program := "ytadlfinlbaogeaa", sum := "196775bf6804f8ce2af9fa0ec3ba0d76325c35c8503439f93e69e753d73c3e2f", func := "spile/spilelaw32.LossCloses", spec := "lossCloses", unfollowed := true, recurses := true, named := ["math/bits.divideError", "math/bits.overflowError"], apart := false, narrowed := true }
def LossClosesUptoSaid : Prop := lossClosesUptoRow.holds Try.pinned (OpenSpec.upto lossClosesSpec)

/-- 'spilelaw32.LossOrdered', WHERE WHAT IT READS IS OF BULK AT MOST 1048576: true; the input reads as it did. -/
def lossOrderedUptoRow : OpenClaim := { program := "ytadlfinlbaogeaa", sum := "196775bf6804f8ce2af9fa0ec3ba0d76325c35c8503439f93e69e753d73c3e2f", func := "spile/spilelaw32.LossOrdered", spec := "lossOrdered", unfollowed := true, recurses := true, named := ["math/bits.divideError", "math/bits.overflowError"], apart := false, narrowed := true }
def LossOrderedUptoSaid : Prop := lossOrderedUptoRow.holds Try.pinned (OpenSpec.upto lossOrderedSpec)

/-- 'spilelaw32.LossTurns', WHERE WHAT IT READS IS OF BULK AT MOST 1048576: true; the input reads as it did. -/
def lossTurnsUptoRow : OpenClaim := { program := "ytadlfinlbaogeaa", sum := "196775bf6804f8ce2af9fa0ec3ba0d76325c35c8503439f93e69e753d73c3e2f", func := "spile/spilelaw32.LossTurns", spec := "lossTurns", unfollowed := true, recurses := true, named := ["math/bits.divideError", "math/bits.overflowError"], apart := false, narrowed := true }
def LossTurnsUptoSaid : Prop := lossTurnsUptoRow.holds Try.pinned (OpenSpec.upto lossTurnsSpec)

/-- 'spilelaw01.ProportionBack', WHERE WHAT IT READS IS OF BULK AT MOST 1048576: true; the input reads as it did. -/
def proportionBackUptoRow : OpenClaim := { program := "ytadlfinlbaogeaa", sum := "196775bf6804f8ce2af9fa0ec3ba0d76325c35c8503439f93e69e753d73c3e2f", func := "spile/spilelaw01.ProportionBack", spec := "proportionBack", inPlace := ["math/bits.Add64"], unfollowed := true, recurses := true, named := ["math/bits.divideError", "math/bits.overflowError"], apart := false, narrowed := true }
def ProportionBackUptoSaid : Prop := proportionBackUptoRow.holds Try.pinned (OpenSpec.upto proportionBackSpec)

/-- 'spilelaw32.LossSplits', WHERE WHAT IT READS IS OF BULK AT MOST 1048576: true; the input reads as it did. -/
def lossSplitsUptoRow : OpenClaim := { program := "ytadlfinlbaogeaa", sum := "196775bf6804f8ce2af9fa0ec3ba0d76325c35c8503439f93e69e753d73c3e2f", func := "spile/spilelaw32.LossSplits", spec := "lossSplits", unfollowed := true, recurses := true, named := ["math/bits.divideError", "math/bits.overflowError"], apart := false, narrowed := true }
def LossSplitsUptoSaid : Prop := lossSplitsUptoRow.holds Try.pinned (OpenSpec.upto lossSplitsSpec)

/-- 'spilelaw32.LossSums', WHERE WHAT IT READS IS OF BULK AT MOST 1048576: true; the input reads as it did. -/
def lossSumsUptoRow : OpenClaim := { program := "ytadlfinlbaogeaa", sum := "196775bf6804f8ce2af9fa0ec3ba0d76325c35c8503439f93e69e753d73c3e2f", func := "spile/spilelaw32.LossSums", spec := "lossSums", unfollowed := true, recurses := true, named := ["math/bits.divideError", "math/bits.overflowError"], apart := false, narrowed := true }
def LossSumsUptoSaid : Prop := lossSumsUptoRow.holds Try.pinned (OpenSpec.upto lossSumsSpec)

/-- 'spilelaw32.LossParts', WHERE WHAT IT READS IS OF BULK AT MOST 1048576: true; the input reads as it did. -/
def lossPartsUptoRow : OpenClaim := { program := "ytadlfinlbaogeaa", sum := "196775bf6804f8ce2af9fa0ec3ba0d76325c35c8503439f93e69e753d73c3e2f", func := "spile/spilelaw32.LossParts", spec := "lossParts", unfollowed := true, recurses := true, named := ["math/bits.divideError", "math/bits.overflowError"], apart := false, narrowed := true }
def LossPartsUptoSaid : Prop := lossPartsUptoRow.holds Try.pinned (OpenSpec.upto lossPartsSpec)

end Rows
end Go.Proofs.Ytadlfinlbaogeaa
