/-
  No cell of these rows narrows 'for every input' (looked for: loops, veiled, ifaces, maps, wideKeys, modest, calm, conditions, laid).
  DERIVED. THE GIVEN ROWS OF THIS SEAT. 6 by the template 'for every input the law returns true; each argument reads behind the call as it read before'; 0 by the template 'total and deterministic' (their statements: YtfkabibbaajfhaaTotals.lean).
  GIVEN WITH THE SEED: the statements are not yours to turn. If you find one false, say at which input.
  Laid BY PROGRAM, IN A SANDBOX (cutbox-rows.mjs): the forced cells as the released guide's own fill.sh prints them over the translation 64cbd4b6d79b4b03… (all of the seat's roots in one cut). By AI agents, Wed Nov 11 2026. No macro, syntax, notation, axiom, sorry.
-/
import Derived.Test.YtfkabibbaajfhaaChecked
import GoSem.Claim
import GoSem.ClaimJoined
import GoSem.ClaimMapViews
import Derived.JoinedTies
import Derived.KernelRfl
namespace Go.Proofs.Ytfkabibbaajfhaa
/- THE CELL 'sum', in the pinned program and in every row, IS THE sha256 OF THE DUMP (.gsa) THAT YtfkabibbaajfhaaProg.lean LOADS. Nothing in Lean hashes anything: it is a label: what it is worth is what the hold of that sum in a sandbox is worth. -/
noncomputable def Try.pinned : Pinned := { name := "ytfkabibbaajfhaa", sum := "64cbd4b6d79b4b03e98056dc2b0ed9cc8f7347ec950ed512cabb0bcb8d98b2a2", checked := Try.checked }
namespace Rows
def none {H : Type} : Left H := { results := [], args := [] }

/-- 'spilelaw29.BlendWider': WHATEVER THE INPUT: true; the input reads as it did. -/
def blendWiderSpec : ChangeSpec := { name := "blendWider", fn := fun _ => fun
  | [d1, d2, d3, d4] => { results := [.lit (.bool true)], args := [d1, d2, d3, d4] }
  | _ => none }
def blendWiderRow : OpenClaim := { program := "ytfkabibbaajfhaa", sum := "64cbd4b6d79b4b03e98056dc2b0ed9cc8f7347ec950ed512cabb0bcb8d98b2a2", func := "spile/spilelaw29.BlendWider", spec := "blendWider", unfollowed := true, recurses := true, apart := false }
def BlendWiderSaid : Prop := blendWiderRow.holds Try.pinned (OpenSpec.ofChange blendWiderSpec)

/-- ITS FALSE NEIGHBOUR: 'it returns false'. Refute it at one input. -/
def blendWiderWrong : ChangeSpec := { name := "blendWider", fn := fun _ => fun
  | [d1, d2, d3, d4] => { results := [.lit (.bool false)], args := [d1, d2, d3, d4] }
  | _ => none }
def BlendWiderWrongFalsely : Prop := blendWiderRow.holds Try.pinned (OpenSpec.ofChange blendWiderWrong)

/-- 'spilelaw29.BlendPlans': WHATEVER THE INPUT: true; the input reads as it did. -/
def blendPlansSpec : ChangeSpec := { name := "blendPlans", fn := fun _ => fun
  | [d1, d2] => { results := [.lit (.bool true)], args := [d1, d2] }
  | _ => none }
def blendPlansRow : OpenClaim := { program := "ytfkabibbaajfhaa", sum := "64cbd4b6d79b4b03e98056dc2b0ed9cc8f7347ec950ed512cabb0bcb8d98b2a2", func := "spile/spilelaw29.BlendPlans", spec := "blendPlans", unfollowed := true, recurses := true, apart := false }
def BlendPlansSaid : Prop := blendPlansRow.holds Try.pinned (OpenSpec.ofChange blendPlansSpec)

/-- ITS FALSE NEIGHBOUR: 'it returns false'. Refute it at one input. -/
def blendPlansWrong : ChangeSpec := { name := "blendPlans", fn := fun _ => fun
  | [d1, d2] => { results := [.lit (.bool false)], args := [d1, d2] }
  | _ => none }
def BlendPlansWrongFalsely : Prop := blendPlansRow.holds Try.pinned (OpenSpec.ofChange blendPlansWrong)

/-- 'spilelaw29.BlendKeeps': WHATEVER THE INPUT: true; the input reads as it did. -/
def blendKeepsSpec : ChangeSpec := { name := "blendKeeps", fn := fun _ => fun
  | [d1, d2, d3] => { results := [.lit (.bool true)], args := [d1, d2, d3] }
  | _ => none }
def blendKeepsRow : OpenClaim := { program := "ytfkabibbaajfhaa", sum := "64cbd4b6d79b4b03e98056dc2b0ed9cc8f7347ec950ed512cabb0bcb8d98b2a2", func := "spile/spilelaw29.BlendKeeps", spec := "blendKeeps", unfollowed := true, recurses := true, apart := false }
def BlendKeepsSaid : Prop := blendKeepsRow.holds Try.pinned (OpenSpec.ofChange blendKeepsSpec)

/-- ITS FALSE NEIGHBOUR: 'it returns false'. Refute it at one input. -/
def blendKeepsWrong : ChangeSpec := { name := "blendKeeps", fn := fun _ => fun
  | [d1, d2, d3] => { results := [.lit (.bool false)], args := [d1, d2, d3] }
  | _ => none }
def BlendKeepsWrongFalsely : Prop := blendKeepsRow.holds Try.pinned (OpenSpec.ofChange blendKeepsWrong)

/-- 'spilelaw29.BlendSums': WHATEVER THE INPUT: true; the input reads as it did. -/
def blendSumsSpec : ChangeSpec := { name := "blendSums", fn := fun _ => fun
  | [d1, d2, d3] => { results := [.lit (.bool true)], args := [d1, d2, d3] }
  | _ => none }
def blendSumsRow : OpenClaim := { program := "ytfkabibbaajfhaa", sum := "64cbd4b6d79b4b03e98056dc2b0ed9cc8f7347ec950ed512cabb0bcb8d98b2a2", func := "spile/spilelaw29.BlendSums", spec := "blendSums", unfollowed := true, recurses := true, apart := false }
def BlendSumsSaid : Prop := blendSumsRow.holds Try.pinned (OpenSpec.ofChange blendSumsSpec)

/-- ITS FALSE NEIGHBOUR: 'it returns false'. Refute it at one input. -/
def blendSumsWrong : ChangeSpec := { name := "blendSums", fn := fun _ => fun
  | [d1, d2, d3] => { results := [.lit (.bool false)], args := [d1, d2, d3] }
  | _ => none }
def BlendSumsWrongFalsely : Prop := blendSumsRow.holds Try.pinned (OpenSpec.ofChange blendSumsWrong)

/-- 'spilelaw29.BlendBest': WHATEVER THE INPUT: true; the input reads as it did. -/
def blendBestSpec : ChangeSpec := { name := "blendBest", fn := fun _ => fun
  | [d1, d2, d3] => { results := [.lit (.bool true)], args := [d1, d2, d3] }
  | _ => none }
def blendBestRow : OpenClaim := { program := "ytfkabibbaajfhaa", sum := "64cbd4b6d79b4b03e98056dc2b0ed9cc8f7347ec950ed512cabb0bcb8d98b2a2", func := "spile/spilelaw29.BlendBest", spec := "blendBest", unfollowed := true, recurses := true, apart := false }
def BlendBestSaid : Prop := blendBestRow.holds Try.pinned (OpenSpec.ofChange blendBestSpec)

/-- ITS FALSE NEIGHBOUR: 'it returns false'. Refute it at one input. -/
def blendBestWrong : ChangeSpec := { name := "blendBest", fn := fun _ => fun
  | [d1, d2, d3] => { results := [.lit (.bool false)], args := [d1, d2, d3] }
  | _ => none }
def BlendBestWrongFalsely : Prop := blendBestRow.holds Try.pinned (OpenSpec.ofChange blendBestWrong)

/-- 'spilelaw29.BlendMost': WHATEVER THE INPUT: true; the input reads as it did. -/
def blendMostSpec : ChangeSpec := { name := "blendMost", fn := fun _ => fun
  | [d1, d2, d3] => { results := [.lit (.bool true)], args := [d1, d2, d3] }
  | _ => none }
def blendMostRow : OpenClaim := { program := "ytfkabibbaajfhaa", sum := "64cbd4b6d79b4b03e98056dc2b0ed9cc8f7347ec950ed512cabb0bcb8d98b2a2", func := "spile/spilelaw29.BlendMost", spec := "blendMost", unfollowed := true, recurses := true, apart := false }
def BlendMostSaid : Prop := blendMostRow.holds Try.pinned (OpenSpec.ofChange blendMostSpec)

/-- ITS FALSE NEIGHBOUR: 'it returns false'. Refute it at one input. -/
def blendMostWrong : ChangeSpec := { name := "blendMost", fn := fun _ => fun
  | [d1, d2, d3] => { results := [.lit (.bool false)], args := [d1, d2, d3] }
  | _ => none }
def BlendMostWrongFalsely : Prop := blendMostRow.holds Try.pinned (OpenSpec.ofChange blendMostWrong)

/- THE SECOND FORM. 'bulk': how many values and letters a reading holds, each counted each time it is reached (what is shared counts as often as it is met; a slice's spare places count too). A statement '..UptoSaid' is the law's where the arguments, and the package variables that the reading takes, are together of bulk at most 1048576: NARROWER than '..Said'. Prove '..Said' where nothing that the law and all that it calls make is longer than what came in: it says more and counts as full. Else prove '..UptoSaid'. A law counts once. -/
mutual
def uptoBulk {H : Type} : DataW H → Nat
  | .lit (.string bytes) => bytes.length + 1
  | .lit _ => 1
  | .nil => 1
  | .ptr d => uptoBulk d + 1
  | .slice elems spare => uptoBulkAll elems + uptoBulkAll spare + 1
  | .agg parts => uptoBulkAll parts + 1
  | .iface _ d => uptoBulk d + 1
  | .map entries => uptoBulkEntries entries + 1
  | .held _ => 1
def uptoBulkAll {H : Type} : List (DataW H) → Nat
  | [] => 0
  | d :: r => uptoBulk d + uptoBulkAll r
def uptoBulkEntries {H : Type} : List (Lit × DataW H) → Nat
  | [] => 0
  | x :: r => uptoBulkEntry x + uptoBulkEntries r
def uptoBulkEntry {H : Type} : Lit × DataW H → Nat
  | (.string bytes, d) => bytes.length + uptoBulk d + 1
  | (_, d) => uptoBulk d + 1
 end
def uptoSmall : (H : Type) → List (DataW H) → Bool := fun _ ds => decide (uptoBulkAll ds ≤ 1048576)
def OpenSpec.upto (s : _root_.Go.ChangeSpec) : _root_.Go.OpenSpec := { _root_.Go.OpenSpec.ofChange s with cond := some uptoSmall }

/-- 'spilelaw29.BlendWider', WHERE WHAT IT READS IS OF BULK AT MOST 1048576: true; the input reads as it did. -/
def blendWiderUptoRow : OpenClaim := { program := "ytfkabibbaajfhaa", sum := "64cbd4b6d79b4b03e98056dc2b0ed9cc8f7347ec950ed512cabb0bcb8d98b2a2", func := "spile/spilelaw29.BlendWider", spec := "blendWider", unfollowed := true, recurses := true, apart := false, narrowed := true }
def BlendWiderUptoSaid : Prop := blendWiderUptoRow.holds Try.pinned (OpenSpec.upto blendWiderSpec)

/-- 'spilelaw29.BlendPlans', WHERE WHAT IT READS IS OF BULK AT MOST 1048576: true; the input reads as it did. -/
def blendPlansUptoRow : OpenClaim := { program := "ytfkabibbaajfhaa", sum := "64cbd4b6d79b4b03e98056dc2b0ed9cc8f7347ec950ed512cabb0bcb8d98b2a2", func := "spile/spilelaw29.BlendPlans", spec := "blendPlans", unfollowed := true, recurses := true, apart := false, narrowed := true }
def BlendPlansUptoSaid : Prop := blendPlansUptoRow.holds Try.pinned (OpenSpec.upto blendPlansSpec)

/-- 'spilelaw29.BlendKeeps', WHERE WHAT IT READS IS OF BULK AT MOST 1048576: true; the input reads as it did. -/
def blendKeepsUptoRow : OpenClaim := { program := "ytfkabibbaajfhaa", sum := "64cbd4b6d79b4b03e98056dc2b0ed9cc8f7347ec950ed512cabb0bcb8d98b2a2", func := "spile/spilelaw29.BlendKeeps", spec := "blendKeeps", unfollowed := true, recurses := true, apart := false, narrowed := true }
def BlendKeepsUptoSaid : Prop := blendKeepsUptoRow.holds Try.pinned (OpenSpec.upto blendKeepsSpec)

/-- 'spilelaw29.BlendSums', WHERE WHAT IT READS IS OF BULK AT MOST 1048576: true; the input reads as it did. -/
def blendSumsUptoRow : OpenClaim := { program := "ytfkabibbaajfhaa", sum := "64cbd4b6d79b4b03e98056dc2b0ed9cc8f7347ec950ed512cabb0bcb8d98b2a2", func := "spile/spilelaw29.BlendSums", spec := "blendSums", unfollowed := true, recurses := true, apart := false, narrowed := true }
def BlendSumsUptoSaid : Prop := blendSumsUptoRow.holds Try.pinned (OpenSpec.upto blendSumsSpec)

/-- 'spilelaw29.BlendBest', WHERE WHAT IT READS IS OF BULK AT MOST 1048576: true; the input reads as it did. -/
def blendBestUptoRow : OpenClaim := { program := "ytfkabibbaajfhaa", sum := "64cbd4b6d79b4b03e98056dc2b0ed9cc8f7347ec950ed512cabb0bcb8d98b2a2", func := "spile/spilelaw29.BlendBest", spec := "blendBest", unfollowed := true, recurses := true, apart := false, narrowed := true }
def BlendBestUptoSaid : Prop := blendBestUptoRow.holds Try.pinned (OpenSpec.upto blendBestSpec)

/-- 'spilelaw29.BlendMost', WHERE WHAT IT READS IS OF BULK AT MOST 1048576: true; the input reads as it did. -/
def blendMostUptoRow : OpenClaim := { program := "ytfkabibbaajfhaa", sum := "64cbd4b6d79b4b03e98056dc2b0ed9cc8f7347ec950ed512cabb0bcb8d98b2a2", func := "spile/spilelaw29.BlendMost", spec := "blendMost", unfollowed := true, recurses := true, apart := false, narrowed := true }
def BlendMostUptoSaid : Prop := blendMostUptoRow.holds Try.pinned (OpenSpec.upto blendMostSpec)

end Rows
end Go.Proofs.Ytfkabibbaajfhaa
