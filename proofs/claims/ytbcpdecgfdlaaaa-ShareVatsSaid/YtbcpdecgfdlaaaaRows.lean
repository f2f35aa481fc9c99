/-
  No cell of these rows narrows 'for every input' (looked for: loops, veiled, ifaces, maps, wideKeys, modest, calm, conditions, laid).
  DERIVED. THE GIVEN ROWS OF THIS SEAT. 7 by the template 'for every input the law returns true; each argument reads behind the call as it read before'; 0 by the template 'total and deterministic' (their statements: YtbcpdecgfdlaaaaTotals.lean).
  GIVEN WITH THE SEED: the statements are not yours to turn. If you find one false, say at which input.
  Laid BY PROGRAM, IN A SANDBOX (cutbox-rows.mjs): the forced cells as the released guide's own fill.sh prints them over the translation 66336c662d09fe96… (all of the seat's roots in one cut). By AI agents, Wed Nov 11 2026. No macro, syntax, notation, axiom, sorry.
-/
import Derived.Test.YtbcpdecgfdlaaaaChecked
import GoSem.Claim
import GoSem.ClaimJoined
import GoSem.ClaimMapViews
import Derived.JoinedTies
import Derived.KernelRfl
namespace Go.Proofs.Ytbcpdecgfdlaaaa
/- THE CELL 'sum', in the pinned program and in every row, IS THE sha256 OF THE DUMP (.gsa) THAT YtbcpdecgfdlaaaaProg.lean LOADS. Nothing in Lean hashes anything: it is a label: what it is worth is what the hold of that sum in a sandbox is worth. -/
noncomputable def Try.pinned : Pinned := { name := "ytbcpdecgfdlaaaa", sum := "66336c662d09fe96b6f020e55789772450f7cc06daeb32e54da1fab30929b50d", checked := Try.checked }
namespace Rows
def none {H : Type} : Left H := { results := [], args := [] }

/-- 'spilelaw23.ShareTakes': WHATEVER THE INPUT: true; the input reads as it did. -/
def shareTakesSpec : ChangeSpec := { name := "shareTakes", fn := fun _ => fun
  | [d1, d2] => { results := [.lit (.bool true)], args := [d1, d2] }
  | _ => none }
def shareTakesRow : OpenClaim := { program := "ytbcpdecgfdlaaaa", sum := "66336c662d09fe96b6f020e55789772450f7cc06daeb32e54da1fab30929b50d", func := "spile/spilelaw23.ShareTakes", spec := "shareTakes", unfollowed := true, recurses := true, named := ["math/bits.divideError", "math/bits.overflowError"], apart := false }
def ShareTakesSaid : Prop := shareTakesRow.holds Try.pinned (OpenSpec.ofChange shareTakesSpec)

/-- ITS FALSE NEIGHBOUR: 'it returns false'. Refute it at one input. -/
def shareTakesWrong : ChangeSpec := { name := "shareTakes", fn := fun _ => fun
  | [d1, d2] => { results := [.lit (.bool false)], args := [d1, d2] }
  | _ => none }
def ShareTakesWrongFalsely : Prop := shareTakesRow.holds Try.pinned (OpenSpec.ofChange shareTakesWrong)

/-- 'spilelaw23.ShareJoins': WHATEVER THE INPUT: true; the input reads as it did. -/
def shareJoinsSpec : ChangeSpec := { name := "shareJoins", fn := fun _ => fun
  | [d1, d2] => { results := [.lit (.bool true)], args := [d1, d2] }
  | _ => none }
def shareJoinsRow : OpenClaim := { program := "ytbcpdecgfdlaaaa", sum := "66336c662d09fe96b6f020e55789772450f7cc06daeb32e54da1fab30929b50d", func := "spile/spilelaw23.ShareJoins", spec := "shareJoins", unfollowed := true, recurses := true, named := ["math/bits.divideError", "math/bits.overflowError"], apart := false }
def ShareJoinsSaid : Prop := shareJoinsRow.holds Try.pinned (OpenSpec.ofChange shareJoinsSpec)

/-- ITS FALSE NEIGHBOUR: 'it returns false'. Refute it at one input. -/
def shareJoinsWrong : ChangeSpec := { name := "shareJoins", fn := fun _ => fun
  | [d1, d2] => { results := [.lit (.bool false)], args := [d1, d2] }
  | _ => none }
def ShareJoinsWrongFalsely : Prop := shareJoinsRow.holds Try.pinned (OpenSpec.ofChange shareJoinsWrong)

/-- 'spilelaw23.ShareWhole': WHATEVER THE INPUT: true; the input reads as it did. -/
def shareWholeSpec : ChangeSpec := { name := "shareWhole", fn := fun _ => fun
  | [d1, d2] => { results := [.lit (.bool true)], args := [d1, d2] }
  | _ => none }
def shareWholeRow : OpenClaim := { program := "ytbcpdecgfdlaaaa", sum := "66336c662d09fe96b6f020e55789772450f7cc06daeb32e54da1fab30929b50d", func := "spile/spilelaw23.ShareWhole", spec := "shareWhole", unfollowed := true, recurses := true, named := ["math/bits.divideError", "math/bits.overflowError"], apart := false }
def ShareWholeSaid : Prop := shareWholeRow.holds Try.pinned (OpenSpec.ofChange shareWholeSpec)

/-- ITS FALSE NEIGHBOUR: 'it returns false'. Refute it at one input. -/
def shareWholeWrong : ChangeSpec := { name := "shareWhole", fn := fun _ => fun
  | [d1, d2] => { results := [.lit (.bool false)], args := [d1, d2] }
  | _ => none }
def ShareWholeWrongFalsely : Prop := shareWholeRow.holds Try.pinned (OpenSpec.ofChange shareWholeWrong)

/-- 'spilelaw23.ShareParts': WHATEVER THE INPUT: true; the input reads as it did. -/
def sharePartsSpec : ChangeSpec := { name := "shareParts", fn := fun _ => fun
  | [d1, d2] => { results := [.lit (.bool true)], args := [d1, d2] }
  | _ => none }
def sharePartsRow : OpenClaim := { program := "ytbcpdecgfdlaaaa", sum := "66336c662d09fe96b6f020e55789772450f7cc06daeb32e54da1fab30929b50d", func := "spile/spilelaw23.ShareParts", spec := "shareParts", unfollowed := true, recurses := true, named := ["math/bits.divideError", "math/bits.overflowError"], apart := false }
def SharePartsSaid : Prop := sharePartsRow.holds Try.pinned (OpenSpec.ofChange sharePartsSpec)

/-- ITS FALSE NEIGHBOUR: 'it returns false'. Refute it at one input. -/
def sharePartsWrong : ChangeSpec := { name := "shareParts", fn := fun _ => fun
  | [d1, d2] => { results := [.lit (.bool false)], args := [d1, d2] }
  | _ => none }
def SharePartsWrongFalsely : Prop := sharePartsRow.holds Try.pinned (OpenSpec.ofChange sharePartsWrong)

/-- 'spilelaw23.ShareVats': WHATEVER THE INPUT: true; the input reads as it did. -/
def shareVatsSpec : ChangeSpec := { name := "shareVats", fn := fun _ => fun
  | [d1, d2] => { results := [.lit (.bool true)], args := [d1, d2] }
  | _ => none }
def shareVatsRow : OpenClaim := { program := "ytbcpdecgfdlaaaa", sum := "66336c662d09fe96b6f020e55789772450f7cc06daeb32e54da1fab30929b50d", func := "spile/spilelaw23.ShareVats", spec := "shareVats", unfollowed := true, recurses := true, named := ["math/bits.divideError", "math/bits.overflowError"], apart := false }
def ShareVatsSaid : Prop := shareVatsRow.holds Try.pinned (OpenSpec.ofChange shareVatsSpec)

/-- ITS FALSE NEIGHBOUR: 'it returns false'. Refute it at one input. -/
def shareVatsWrong : ChangeSpec := { name := "shareVats", fn := fun _ => fun
  | [d1, d2] => { results := [.lit (.bool false)], args := [d1, d2] }
  | _ => none }
def ShareVatsWrongFalsely : Prop := shareVatsRow.holds Try.pinned (OpenSpec.ofChange shareVatsWrong)

/-- 'spilelaw23.ShareLots': WHATEVER THE INPUT: true; the input reads as it did. -/
def shareLotsSpec : ChangeSpec := { name := "shareLots", fn := fun _ => fun
  | [d1, d2, d3, d4] => { results := [.lit (.bool true)], args := [d1, d2, d3, d4] }
  | _ => none }
def shareLotsRow : OpenClaim := { program := "ytbcpdecgfdlaaaa", sum := "66336c662d09fe96b6f020e55789772450f7cc06daeb32e54da1fab30929b50d", func := "spile/spilelaw23.ShareLots", spec := "shareLots", unfollowed := true, recurses := true, named := ["math/bits.divideError", "math/bits.overflowError"], apart := false }
def ShareLotsSaid : Prop := shareLotsRow.holds Try.pinned (OpenSpec.ofChange shareLotsSpec)

/-- ITS FALSE NEIGHBOUR: 'it returns false'. Refute it at one input. -/
def shareLotsWrong : ChangeSpec := { name := "shareLots", fn := fun _ => fun
  | [d1, d2, d3, d4] => { results := [.lit (.bool false)], args := [d1, d2, d3, d4] }
  | _ => none }
def ShareLotsWrongFalsely : Prop := shareLotsRow.holds Try.pinned (OpenSpec.ofChange shareLotsWrong)

/-- 'spilelaw23.ShareDraws': WHATEVER THE INPUT: true; the input reads as it did. -/
def shareDrawsSpec : ChangeSpec := { name := "shareDraws", fn := fun _ => fun
  | [d1, d2, d3] => { results := [.lit (.bool true)], args := [d1, d2, d3] }
  | _ => none }
def shareDrawsRow : OpenClaim := { program := "ytbcpdecgfdlaaaa", sum := "66336c662d09fe96b6f020e55789772450f7cc06daeb32e54da1fab30929b50d", func := "spile/spilelaw23.ShareDraws", spec := "shareDraws", unfollowed := true, recurses := true, named := ["math/bits.divideError", "math/bits.overflowError"], apart := false }
def ShareDrawsSaid : Prop := shareDrawsRow.holds Try.pinned (OpenSpec.ofChange shareDrawsSpec)

/-- ITS FALSE NEIGHBOUR: 'it returns false'. Refute it at one input. -/
def shareDrawsWrong : ChangeSpec := { name := "shareDraws", fn := fun _ => fun
  | [d1, d2, d3] => { results := [.lit (.bool false)], args := [d1, d2, d3] }
  | _ => none }
def ShareDrawsWrongFalsely : Prop := shareDrawsRow.holds Try.pinned (OpenSpec.ofChange shareDrawsWrong)

/- THE SECOND FORM. 'bulk': how many values and letters a reading holds, each counted each time it is reached (what is shared counts as often as it is met; a slice's spare places count too). A statement '..UptoSaid' is the law's where the arguments, and the package variables that the reading takes, are together of bulk at most 1048576: NARROWER than '..Said'. Prove '..Said' where nothing that the law and all that it calls make is longer than what came in: it says more and counts as full. Else prove '..UptoSaid'. A law counts once. -/
mutual
def uptoBulk {H : Type} : DataW H → Nat
  | .lit (.string bytes) => bytes.length + 1
  | .lit _ => 1
  | .nil => 1
  | .ptr d => uptoBulk d + 1
  | .slice elems spare => uptoBulkAll elems + uptoBulkAll spare + 1
  | .agg parts => uptoBulkAll parts + 1
  | .iface _ d => uptoBulk d + 1
  | .map entries => uptoBulkEntries entries + 1
  | .held _ => 1
def uptoBulkAll {H : Type} : List (DataW H) → Nat
  | [] => 0
  | d :: r => uptoBulk d + uptoBulkAll r
def uptoBulkEntries {H : Type} : List (Lit × DataW H) → Nat
  | [] => 0
  | x :: r => uptoBulkEntry x + uptoBulkEntries r
def uptoBulkEntry {H : Type} : Lit × DataW H → Nat
  | (.string bytes, d) => bytes.length + uptoBulk d + 1
  | (_, d) => uptoBulk d + 1
 end
def uptoSmall : (H : Type) → List (DataW H) → Bool := fun _ ds => decide (uptoBulkAll ds ≤ 1048576)
def OpenSpec.upto (s : _root_.Go.ChangeSpec) : _root_.Go.OpenSpec := { _root_.Go.OpenSpec.ofChange s with cond := some uptoSmall }

/-- 'spilelaw23.ShareTakes', WHERE WHAT IT READS IS OF BULK AT MOST 1048576: true; the input reads as it did. -/
def shareTakesUptoRow : OpenClaim := { program := "ytbcpdecgfdlaaaa", sum := "66336c662d09fe96b6f020e55789772450f7cc06daeb32e54da1fab30929b50d", func := "spile/spilelaw23.ShareTakes", spec := "shareTakes", unfollowed := true, recurses := true, named := ["math/bits.divideError", "math/bits.overflowError"], apart := false, narrowed := true }
def ShareTakesUptoSaid : Prop := shareTakesUptoRow.holds Try.pinned (OpenSpec.upto shareTakesSpec)

/-- 'spilelaw23.ShareJoins', WHERE WHAT IT READS IS OF BULK AT MOST 1048576: true; the input reads as it did. -/
def shareJoinsUptoRow : OpenClaim := { program := "ytbcpdecgfdlaaaa", sum := "66336c662d09fe96b6f020e55789772450f7cc06daeb32e54da1fab30929b50d", func := "spile/spilelaw23.ShareJoins", spec := "shareJoins", unfollowed := true, recurses := true, named := ["math/bits.divideError", "math/bits.overflowError"], apart := false, narrowed := true }
def ShareJoinsUptoSaid : Prop := shareJoinsUptoRow.holds Try.pinned (OpenSpec.upto shareJoinsSpec)

/-- 'spilelaw23.ShareWhole', WHERE WHAT IT READS IS OF BULK AT MOST 1048576: true; the input reads as it did. -/
def shareWholeUptoRow : OpenClaim := { program := "ytbcpdecgfdlaaaa", sum := "66336c662d09fe96b6f020e55789772450f7cc06daeb32e54da1fab30929b50d", func := "spile/spilelaw23.ShareWhole", spec := "shareWhole", unfollowed := true, recurses := true, named := ["math/bits.divideError", "math/bits.overflowError"], apart := false, narrowed := true }
def ShareWholeUptoSaid : Prop := shareWholeUptoRow.holds Try.pinned (OpenSpec.upto shareWholeSpec)

/-- 'spilelaw23.ShareParts', WHERE WHAT IT READS IS OF BULK AT MOST 1048576: true; the input reads as it did. -/
def sharePartsUptoRow : OpenClaim := { program := "ytbcpdecgfdlaaaa", sum := "66336c662d09fe96b6f020e55789772450f7cc06daeb32e54da1fab30929b50d", func := "spile/spilelaw23.ShareParts", spec := "shareParts", unfollowed := true, recurses := true, named := ["math/bits.divideError", "math/bits.overflowError"], apart := false, narrowed := true }
def SharePartsUptoSaid : Prop := sharePartsUptoRow.holds Try.pinned (OpenSpec.upto sharePartsSpec)

/-- 'spilelaw23.ShareVats', WHERE WHAT IT READS IS OF BULK AT MOST 1048576: true; the input reads as it did. -/
def shareVatsUptoRow : OpenClaim := { program := "ytbcpdecgfdlaaaa", sum := "66336c662d09fe96b6f020e55789772450f7cc06daeb32e54da1fab30929b50d", func := "spile/spilelaw23.ShareVats", spec := "shareVats", unfollowed := true, recurses := true, named := ["math/bits.divideError", "math/bits.overflowError"], apart := false, narrowed := true }
def ShareVatsUptoSaid : Prop := shareVatsUptoRow.holds Try.pinned (OpenSpec.upto shareVatsSpec)

/-- 'spilelaw23.ShareLots', WHERE WHAT IT READS IS OF BULK AT MOST 1048576: true; the input reads as it did. -/
def shareLotsUptoRow : OpenClaim := { program := "ytbcpdecgfdlaaaa", sum := "66336c662d09fe96b6f020e55789772450f7cc06daeb32e54da1fab30929b50d", func := "spile/spilelaw23.ShareLots", spec := "shareLots", unfollowed := true, recurses := true, named := ["math/bits.divideError", "math/bits.overflowError"], apart := false, narrowed := true }
def ShareLotsUptoSaid : Prop := shareLotsUptoRow.holds Try.pinned (OpenSpec.upto shareLotsSpec)

/-- 'spilelaw23.ShareDraws', WHERE WHAT IT READS IS OF BULK AT MOST 1048576: true; the input reads as it did. -/
def shareDrawsUptoRow : OpenClaim := { program := "ytbcpdecgfdlaaaa", sum := "66336c662d09fe96b6f020e55789772450f7cc06daeb32e54da1fab30929b50d", func := "spile/spilelaw23.ShareDraws", spec := "shareDraws", unfollowed := true, recurses := true, named := ["math/bits.divideError", "math/bits.overflowError"], apart := false, narrowed := true }
def ShareDrawsUptoSaid : Prop := shareDrawsUptoRow.holds Try.pinned (OpenSpec.upto shareDrawsSpec)

end Rows
end Go.Proofs.Ytbcpdecgfdlaaaa
