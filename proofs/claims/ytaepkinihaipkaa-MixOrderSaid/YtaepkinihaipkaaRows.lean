/-
  No cell of these rows narrows 'for every input' (looked for: loops, veiled, ifaces, maps, wideKeys, modest, calm, conditions, laid).
  DERIVED. THE GIVEN ROWS OF THIS SEAT. 7 by the template 'for every input the law returns true; each argument reads behind the call as it read before'; 0 by the template 'total and deterministic' (their statements: YtaepkinihaipkaaTotals.lean).
  GIVEN WITH THE SEED: the statements are not yours to turn. If you find one false, say at which input.
  Laid BY PROGRAM, IN A SANDBOX (cutbox-rows.mjs): the forced cells as the released guide's own fill.sh prints them over the translation ff69d295aaf48b1d… (all of the seat's roots in one cut). By AI agents, Wed Nov 11 2026. No macro, syntax, notation, axiom, sorry.
-/
import Derived.Test.YtaepkinihaipkaaChecked
import GoSem.Claim
import GoSem.ClaimJoined
import GoSem.ClaimMapViews
import Derived.JoinedTies
import Derived.KernelRfl
namespace Go.Proofs.Ytaepkinihaipkaa
/- THE CELL 'sum', in the pinned program and in every row, IS THE sha256 OF THE DUMP (.gsa) THAT YtaepkinihaipkaaProg.lean LOADS. Nothing in Lean hashes anything: it is a label: what it is worth is what the hold of that sum in a sandbox is worth. -/
noncomputable def Try.pinned : Pinned := { name := "ytaepkinihaipkaa", sum := "ff69d295aaf48b1d53704fc6f7136e711e301e5c8eb0c07eb72453e09b72b286", checked := Try.checked }
namespace Rows
def none {H : Type} : Left H := { results := [], args := [] }

/-- 'spilelaw21.MixSums': WHATEVER THE INPUT: true; the input reads as it did. -/
def mixSumsSpec : ChangeSpec := { name := "mixSums", fn := fun _ => fun
  | [d1, d2, d3, d4] => { results := [.lit (.bool true)], args := [d1, d2, d3, d4] }
  | _ => none }
def mixSumsRow : OpenClaim := { program := "ytaepkinihaipkaa", sum := "ff69d295aaf48b1d53704fc6f7136e711e301e5c8eb0c07eb72453e09b72b286", func := "spile/spilelaw21.MixSums", spec := "mixSums", unfollowed := true, recurses := true, named := ["math/bits.divideError", "math/bits.overflowError"], apart := false }
def MixSumsSaid : Prop := mixSumsRow.holds Try.pinned (OpenSpec.ofChange mixSumsSpec)

/-- ITS FALSE NEIGHBOUR: 'it returns false'. Refute it at one input. -/
def mixSumsWrong : ChangeSpec := { name := "mixSums", fn := fun _ => fun
  | [d1, d2, d3, d4] => { results := [.lit (.bool false)], args := [d1, d2, d3, d4] }
  | _ => none }
def MixSumsWrongFalsely : Prop := mixSumsRow.holds Try.pinned (OpenSpec.ofChange mixSumsWrong)

/-- 'spilelaw21.MixContracts': WHATEVER THE INPUT: true; the input reads as it did. -/
def mixContractsSpec : ChangeSpec := { name := "mixContracts", fn := fun _ => fun
  | [d1, d2] => { results := [.lit (.bool true)], args := [d1, d2] }
  | _ => none }
def mixContractsRow : OpenClaim := { program := "ytaepkinihaipkaa", sum := "ff69d295aaf48b1d53704fc6f7136e711e301e5c8eb0c07eb72453e09b72b286", func := "spile/spilelaw21.MixContracts", spec := "mixContracts", unfollowed := true, recurses := true, named := ["math/bits.divideError", "math/bits.overflowError"], apart := false }
def MixContractsSaid : Prop := mixContractsRow.holds Try.pinned (OpenSpec.ofChange mixContractsSpec)

/-- ITS FALSE NEIGHBOUR: 'it returns false'. Refute it at one input. -/
def mixContractsWrong : ChangeSpec := { name := "mixContracts", fn := fun _ => fun
  | [d1, d2] => { results := [.lit (.bool false)], args := [d1, d2] }
  | _ => none }
def MixContractsWrongFalsely : Prop := mixContractsRow.holds Try.pinned (OpenSpec.ofChange mixContractsWrong)

/-- 'spilelaw21.MixDraws': WHATEVER THE INPUT: true; the input reads as it did. -/
def mixDrawsSpec : ChangeSpec := { name := "mixDraws", fn := fun _ => fun
  | [d1, d2, d3] => { results := [.lit (.bool true)], args := [d1, d2, d3] }
  | _ => none }
def mixDrawsRow : OpenClaim := { program := "ytaepkinihaipkaa", sum := "ff69d295aaf48b1d53704fc6f7136e711e301e5c8eb0c07eb72453e09b72b286", func := "spile/spilelaw21.MixDraws", spec := "mixDraws", unfollowed := true, recurses := true, named := ["math/bits.divideError", "math/bits.overflowError"], apart := false }
def MixDrawsSaid : Prop := mixDrawsRow.holds Try.pinned (OpenSpec.ofChange mixDrawsSpec)

/-- ITS FALSE NEIGHBOUR: 'it returns false'. Refute it at one input. -/
def mixDrawsWrong : ChangeSpec := { name := "mixDraws", fn := fun _ => fun
  | [d1, d2, d3] => { results := [.lit (.bool false)], args := [d1, d2, d3] }
  | _ => none }
def MixDrawsWrongFalsely : Prop := mixDrawsRow.holds Try.pinned (OpenSpec.ofChange mixDrawsWrong)

/-- 'spilelaw21.MixParts': WHATEVER THE INPUT: true; the input reads as it did. -/
def mixPartsSpec : ChangeSpec := { name := "mixParts", fn := fun _ => fun
  | [d1, d2] => { results := [.lit (.bool true)], args := [d1, d2] }
  | _ => none }
def mixPartsRow : OpenClaim := { program := "ytaepkinihaipkaa", sum := "ff69d295aaf48b1d53704fc6f7136e711e301e5c8eb0c07eb72453e09b72b286", func := "spile/spilelaw21.MixParts", spec := "mixParts", unfollowed := true, recurses := true, named := ["math/bits.divideError", "math/bits.overflowError"], apart := false }
def MixPartsSaid : Prop := mixPartsRow.holds Try.pinned (OpenSpec.ofChange mixPartsSpec)

/-- ITS FALSE NEIGHBOUR: 'it returns false'. Refute it at one input. -/
def mixPartsWrong : ChangeSpec := { name := "mixParts", fn := fun _ => fun
  | [d1, d2] => { results := [.lit (.bool false)], args := [d1, d2] }
  | _ => none }
def MixPartsWrongFalsely : Prop := mixPartsRow.holds Try.pinned (OpenSpec.ofChange mixPartsWrong)

/-- 'spilelaw21.MixBetween': WHATEVER THE INPUT: true; the input reads as it did. -/
def mixBetweenSpec : ChangeSpec := { name := "mixBetween", fn := fun _ => fun
  | [d1, d2] => { results := [.lit (.bool true)], args := [d1, d2] }
  | _ => none }
def mixBetweenRow : OpenClaim := { program := "ytaepkinihaipkaa", sum := "ff69d295aaf48b1d53704fc6f7136e711e301e5c8eb0c07eb72453e09b72b286", func := "spile/spilelaw21.MixBetween", spec := "mixBetween", unfollowed := true, recurses := true, named := ["math/bits.divideError", "math/bits.overflowError"], apart := false }
def MixBetweenSaid : Prop := mixBetweenRow.holds Try.pinned (OpenSpec.ofChange mixBetweenSpec)

/-- ITS FALSE NEIGHBOUR: 'it returns false'. Refute it at one input. -/
def mixBetweenWrong : ChangeSpec := { name := "mixBetween", fn := fun _ => fun
  | [d1, d2] => { results := [.lit (.bool false)], args := [d1, d2] }
  | _ => none }
def MixBetweenWrongFalsely : Prop := mixBetweenRow.holds Try.pinned (OpenSpec.ofChange mixBetweenWrong)

/-- 'spilelaw21.MixSteps': WHATEVER THE INPUT: true; the input reads as it did. -/
def mixStepsSpec : ChangeSpec := { name := "mixSteps", fn := fun _ => fun
  | [d1, d2, d3] => { results := [.lit (.bool true)], args := [d1, d2, d3] }
  | _ => none }
def mixStepsRow : OpenClaim := { program := "ytaepkinihaipkaa", sum := "ff69d295aaf48b1d53704fc6f7136e711e301e5c8eb0c07eb72453e09b72b286", func := "spile/spilelaw21.MixSteps", spec := "mixSteps", unfollowed := true, recurses := true, named := ["math/bits.divideError", "math/bits.overflowError"], apart := false }
def MixStepsSaid : Prop := mixStepsRow.holds Try.pinned (OpenSpec.ofChange mixStepsSpec)

/-- ITS FALSE NEIGHBOUR: 'it returns false'. Refute it at one input. -/
def mixStepsWrong : ChangeSpec := { name := "mixSteps", fn := fun _ => fun
  | [d1, d2, d3] => { results := [.lit (.bool false)], args := [d1, d2, d3] }
  | _ => none }
def MixStepsWrongFalsely : Prop := mixStepsRow.holds Try.pinned (OpenSpec.ofChange mixStepsWrong)

/-- 'spilelaw21.MixOrder': WHATEVER THE INPUT: true; the input reads as it did. -/
def mixOrderSpec : ChangeSpec := { name := "mixOrder", fn := fun _ => fun
  | [d1, d2, d3] => { results := [.lit (.bool true)], args := [d1, d2, d3] }
  | _ => none }
def mixOrderRow : OpenClaim := { program := "ytaepkinihaipkaa", sum := "ff69d295aaf48b1d53704fc6f7136e711e301e5c8eb0c07eb72453e09b72b286", func := "spile/spilelaw21.MixOrder", spec := "mixOrder", unfollowed := true, recurses := true, named := ["math/bits.divideError", "math/bits.overflowError"], apart := false }
def MixOrderSaid : Prop := mixOrderRow.holds Try.pinned (OpenSpec.ofChange mixOrderSpec)

/-- ITS FALSE NEIGHBOUR: 'it returns false'. Refute it at one input. -/
def mixOrderWrong : ChangeSpec := { name := "mixOrder", fn := fun _ => fun
  | [d1, d2, d3] => { results := [.lit (.bool false)], args := [d1, d2, d3] }
  | _ => none }
def MixOrderWrongFalsely : Prop := mixOrderRow.holds Try.pinned (OpenSpec.ofChange mixOrderWrong)

/- THE SECOND FORM. 'bulk': how many values and letters a reading holds, each counted each time it is reached (what is shared counts as often as it is met; a slice's spare places count too). A statement '..UptoSaid' is the law's where the arguments, and the package variables that the reading takes, are together of bulk at most 1048576: NARROWER than '..Said'. Prove '..Said' where nothing that the law and all that it calls make is longer than what came in: it says more and counts as full. Else prove '..UptoSaid'. A law counts once. -/
mutual
def uptoBulk {H : Type} : DataW H → Nat
  | .lit (.string bytes) => bytes.length + 1
  | .lit _ => 1
  | .nil => 1
  | .ptr d => uptoBulk d + 1
  | .slice elems spare => uptoBulkAll elems + uptoBulkAll spare + 1
  | .agg parts => uptoBulkAll parts + 1
  | .iface _ d => uptoBulk d + 1
  | .map entries => uptoBulkEntries entries + 1
  | .held _ => 1
def uptoBulkAll {H : Type} : List (DataW H) → Nat
  | [] => 0
  | d :: r => uptoBulk d + uptoBulkAll r
def uptoBulkEntries {H : Type} : List (Lit × DataW H) → Nat
  | [] => 0
  | x :: r => uptoBulkEntry x + uptoBulkEntries r
def uptoBulkEntry {H : Type} : Lit × DataW H → Nat
  | (.string bytes, d) => bytes.length + uptoBulk d + 1
  | (_, d) => uptoBulk d + 1
 end
def uptoSmall : (H : Type) → List (DataW H) → Bool := fun _ ds => decide (uptoBulkAll ds ≤ 1048576)
def OpenSpec.upto (s : _root_.Go.ChangeSpec) : _root_.Go.OpenSpec := { _root_.Go.OpenSpec.ofChange s with cond := some uptoSmall }

/-- 'spilelaw21.MixSums', WHERE WHAT IT READS IS OF BULK AT MOST 1048576: true; the input reads as it did. -/
def mixSumsUptoRow : OpenClaim := { program := "ytaepkinihaipkaa", sum := "ff69d295aaf48b1d53704fc6f7136e711e301e5c8eb0c07eb72453e09b72b286", func := "spile/spilelaw21.MixSums", spec := "mixSums", unfollowed := true, recurses := true, named := ["math/bits.divideError", "math/bits.overflowError"], apart := false, narrowed := true }
def MixSumsUptoSaid : Prop := mixSumsUptoRow.holds Try.pinned (OpenSpec.upto mixSumsSpec)

/-- 'spilelaw21.MixContracts', WHERE WHAT IT READS IS OF BULK AT MOST 1048576: true; the input reads as it did. -/
def mixContractsUptoRow : OpenClaim := { program := "ytaepkinihaipkaa", sum := "ff69d295aaf48b1d53704fc6f7136e711e301e5c8eb0c07eb72453e09b72b286", func := "spile/spilelaw21.MixContracts", spec := "mixContracts", unfollowed := true, recurses := true, named := ["math/bits.divideError", "math/bits.overflowError"], apart := false, narrowed := true }
def MixContractsUptoSaid : Prop := mixContractsUptoRow.holds Try.pinned (OpenSpec.upto mixContractsSpec)

/-- 'spilelaw21.MixDraws', WHERE WHAT IT READS IS OF BULK AT MOST 1048576: true; the input reads as it did. -/
def mixDrawsUptoRow : OpenClaim := { program := "ytaepkinihaipkaa", sum := "ff69d295aaf48b1d53704fc6f7136e711e301e5c8eb0c07eb72453e09b72b286", func := "spile/spilelaw21.MixDraws", spec := "mixDraws", unfollowed := true, recurses := true, named := ["math/bits.divideError", "math/bits.overflowError"], apart := false, narrowed := true }
def MixDrawsUptoSaid : Prop := mixDrawsUptoRow.holds Try.pinned (OpenSpec.upto mixDrawsSpec)

/-- 'spilelaw21.MixParts', WHERE WHAT IT READS IS OF BULK AT MOST 1048576: true; the input reads as it did. -/
def mixPartsUptoRow : OpenClaim := { program := "ytaepkinihaipkaa", sum := "ff69d295aaf48b1d53704fc6f7136e711e301e5c8eb0c07eb72453e09b72b286", func := "spile/spilelaw21.MixParts", spec := "mixParts", unfollowed := true, recurses := true, named := ["math/bits.divideError", "math/bits.overflowError"], apart := false, narrowed := true }
def MixPartsUptoSaid : Prop := mixPartsUptoRow.holds Try.pinned (OpenSpec.upto mixPartsSpec)

/-- 'spilelaw21.MixBetween', WHERE WHAT IT READS IS OF BULK AT MOST 1048576: true; the input reads as it did. -/
def mixBetweenUptoRow : OpenClaim := { program := "ytaepkinihaipkaa", sum := "ff69d295aaf48b1d53704fc6f7136e711e301e5c8eb0c07eb72453e09b72b286", func := "spile/spilelaw21.MixBetween", spec := "mixBetween", unfollowed := true, recurses := true, named := ["math/bits.divideError", "math/bits.overflowError"], apart := false, narrowed := true }
def MixBetweenUptoSaid : Prop := mixBetweenUptoRow.holds Try.pinned (OpenSpec.upto mixBetweenSpec)

/-- 'spilelaw21.MixSteps', WHERE WHAT IT READS IS OF BULK AT MOST 1048576: true; the input reads as it did. -/
def mixStepsUptoRow : OpenClaim := { program := "ytaepkinihaipkaa", sum := "ff69d295aaf48b1d53704fc6f7136e711e301e5c8eb0c07eb72453e09b72b286", func := "spile/spilelaw21.MixSteps", spec := "mixSteps", unfollowed := true, recurses := true, named := ["math/bits.divideError", "math/bits.overflowError"], apart := false, narrowed := true }
def MixStepsUptoSaid : Prop := mixStepsUptoRow.holds Try.pinned (OpenSpec.upto mixStepsSpec)

/-- 'spilelaw21.MixOrder', WHERE WHAT IT READS IS OF BULK AT MOST 1048576: true; the input reads as it did. -/
def mixOrderUptoRow : OpenClaim := { program := "ytaepkinihaipkaa", sum := "ff69d295aaf48b1d53704fc6f7136e711e301e5c8eb0c07eb72453e09b72b286", func := "spile/spilelaw21.MixOrder", spec := "mixOrder", unfollowed := true, recurses := true, named := ["math/bits.divideError", "math/bits.overflowError"], apart := false, narrowed := true }
def MixOrderUptoSaid : Prop := mixOrderUptoRow.holds Try.pinned (OpenSpec.upto mixOrderSpec)

end Rows
end Go.Proofs.Ytaepkinihaipkaa
