/-
  No cell of these rows narrows 'for every input' (looked for: loops, veiled, ifaces, maps, wideKeys, modest, calm, conditions, laid).
  DERIVED. THE GIVEN ROWS OF THIS SEAT. 7 by the template 'for every input the law returns true; each argument reads behind the call as it read before'; 0 by the template 'total and deterministic' (their statements: YtjkjcnadgpndoaaGreatTotals.lean).
  GIVEN WITH THE SEED: the statements are not yours to turn. If you find one false, say at which input.
  Laid BY PROGRAM, IN A SANDBOX (cutbox-rows.mjs): the forced cells as the released guide's own fill.sh prints them over the translation 0da10aac4d14bf30… (all of the seat's roots in one cut). By AI agents, Wed Nov 11 2026. No macro, syntax, notation, axiom, sorry.
-/
import Derived.Test.YtjkjcnadgpndoaaGreatChecked
import GoSem.Claim
import GoSem.ClaimJoined
import GoSem.ClaimMapViews
import Derived.JoinedTies
import Derived.KernelRfl
namespace Go.Proofs.YtjkjcnadgpndoaaGreat
/- THE CELL 'sum', in the pinned program and in every row, IS THE sha256 OF THE DUMP (.gsa) THAT YtjkjcnadgpndoaaGreatProg.lean LOADS. Nothing in Lean hashes anything: it is a label: what it is worth is what the hold of that sum in a sandbox is worth. -/
noncomputable def Tryz.pinned : Pinned := { name := "ytjkjcnadgpndoaagreat", sum := "0da10aac4d14bf300fed0c8a1fc0c152e173592165cdc87c49c3867596d0745e", checked := Tryz.checked }
namespace Rows
def none {H : Type} : Left H := { results := [], args := [] }

/-- 'spilelaw54.ArrivalMerges': WHATEVER THE INPUT: true; the input reads as it did. -/
def arrivalMergesSpec : ChangeSpec := { name := "arrivalMerges", fn := fun _ => fun
  | [d1, d2] => { results := [.lit (.bool true)], args := [d1, d2] }
  | _ => none }
def arrivalMergesRow : OpenClaim := { program := "ytjkjcnadgpndoaagreat", sum := "0da10aac4d14bf300fed0c8a1fc0c152e173592165cdc87c49c3867596d0745e", func := "spile/spilelaw54.ArrivalMerges", spec := "arrivalMerges", unfollowed := true, recurses := true, plainKeys := false, apart := false }
def ArrivalMergesSaid : Prop := arrivalMergesRow.holds Tryz.pinned (OpenSpec.ofChange arrivalMergesSpec)

/-- ITS FALSE NEIGHBOUR: 'it returns false'. Refute it at one input. -/
def arrivalMergesWrong : ChangeSpec := { name := "arrivalMerges", fn := fun _ => fun
  | [d1, d2] => { results := [.lit (.bool false)], args := [d1, d2] }
  | _ => none }
def ArrivalMergesWrongFalsely : Prop := arrivalMergesRow.holds Tryz.pinned (OpenSpec.ofChange arrivalMergesWrong)

/-- 'spilelaw54.ArrivalSets': WHATEVER THE INPUT: true; the input reads as it did. -/
def arrivalSetsSpec : ChangeSpec := { name := "arrivalSets", fn := fun _ => fun
  | [d1, d2, d3] => { results := [.lit (.bool true)], args := [d1, d2, d3] }
  | _ => none }
def arrivalSetsRow : OpenClaim := { program := "ytjkjcnadgpndoaagreat", sum := "0da10aac4d14bf300fed0c8a1fc0c152e173592165cdc87c49c3867596d0745e", func := "spile/spilelaw54.ArrivalSets", spec := "arrivalSets", unfollowed := true, recurses := true, plainKeys := false, apart := false }
def ArrivalSetsSaid : Prop := arrivalSetsRow.holds Tryz.pinned (OpenSpec.ofChange arrivalSetsSpec)

/-- ITS FALSE NEIGHBOUR: 'it returns false'. Refute it at one input. -/
def arrivalSetsWrong : ChangeSpec := { name := "arrivalSets", fn := fun _ => fun
  | [d1, d2, d3] => { results := [.lit (.bool false)], args := [d1, d2, d3] }
  | _ => none }
def ArrivalSetsWrongFalsely : Prop := arrivalSetsRow.holds Tryz.pinned (OpenSpec.ofChange arrivalSetsWrong)

/-- 'spilelaw54.ArrivalMakes': WHATEVER THE INPUT: true; the input reads as it did. -/
def arrivalMakesSpec : ChangeSpec := { name := "arrivalMakes", fn := fun _ => fun
  | [d1, d2, d3] => { results := [.lit (.bool true)], args := [d1, d2, d3] }
  | _ => none }
def arrivalMakesRow : OpenClaim := { program := "ytjkjcnadgpndoaagreat", sum := "0da10aac4d14bf300fed0c8a1fc0c152e173592165cdc87c49c3867596d0745e", func := "spile/spilelaw54.ArrivalMakes", spec := "arrivalMakes", unfollowed := true, recurses := true, plainKeys := false, apart := false }
def ArrivalMakesSaid : Prop := arrivalMakesRow.holds Tryz.pinned (OpenSpec.ofChange arrivalMakesSpec)

/-- ITS FALSE NEIGHBOUR: 'it returns false'. Refute it at one input. -/
def arrivalMakesWrong : ChangeSpec := { name := "arrivalMakes", fn := fun _ => fun
  | [d1, d2, d3] => { results := [.lit (.bool false)], args := [d1, d2, d3] }
  | _ => none }
def ArrivalMakesWrongFalsely : Prop := arrivalMakesRow.holds Tryz.pinned (OpenSpec.ofChange arrivalMakesWrong)

/-- 'spilelaw54.ArrivalArrives': WHATEVER THE INPUT: true; the input reads as it did. -/
def arrivalArrivesSpec : ChangeSpec := { name := "arrivalArrives", fn := fun _ => fun
  | [d] => { results := [.lit (.bool true)], args := [d] }
  | _ => none }
def arrivalArrivesRow : OpenClaim := { program := "ytjkjcnadgpndoaagreat", sum := "0da10aac4d14bf300fed0c8a1fc0c152e173592165cdc87c49c3867596d0745e", func := "spile/spilelaw54.ArrivalArrives", spec := "arrivalArrives", unfollowed := true, recurses := true, plainKeys := false, apart := false }
def ArrivalArrivesSaid : Prop := arrivalArrivesRow.holds Tryz.pinned (OpenSpec.ofChange arrivalArrivesSpec)

/-- ITS FALSE NEIGHBOUR: 'it returns false'. Refute it at one input. -/
def arrivalArrivesWrong : ChangeSpec := { name := "arrivalArrives", fn := fun _ => fun
  | [d] => { results := [.lit (.bool false)], args := [d] }
  | _ => none }
def ArrivalArrivesWrongFalsely : Prop := arrivalArrivesRow.holds Tryz.pinned (OpenSpec.ofChange arrivalArrivesWrong)

/-- 'spilelaw54.ArrivalApart': WHATEVER THE INPUT: true; the input reads as it did. -/
def arrivalApartSpec : ChangeSpec := { name := "arrivalApart", fn := fun _ => fun
  | [d1, d2] => { results := [.lit (.bool true)], args := [d1, d2] }
  | _ => none }
def arrivalApartRow : OpenClaim := { program := "ytjkjcnadgpndoaagreat", sum := "0da10aac4d14bf300fed0c8a1fc0c152e173592165cdc87c49c3867596d0745e", func := "spile/spilelaw54.ArrivalApart", spec := "arrivalApart", unfollowed := true, recurses := true, plainKeys := false, apart := false }
def ArrivalApartSaid : Prop := arrivalApartRow.holds Tryz.pinned (OpenSpec.ofChange arrivalApartSpec)

/-- ITS FALSE NEIGHBOUR: 'it returns false'. Refute it at one input. -/
def arrivalApartWrong : ChangeSpec := { name := "arrivalApart", fn := fun _ => fun
  | [d1, d2] => { results := [.lit (.bool false)], args := [d1, d2] }
  | _ => none }
def ArrivalApartWrongFalsely : Prop := arrivalApartRow.holds Tryz.pinned (OpenSpec.ofChange arrivalApartWrong)

/-- 'spilelaw54.ArrivalOrder': WHATEVER THE INPUT: true; the input reads as it did. -/
def arrivalOrderSpec : ChangeSpec := { name := "arrivalOrder", fn := fun _ => fun
  | [d1, d2, d3] => { results := [.lit (.bool true)], args := [d1, d2, d3] }
  | _ => none }
def arrivalOrderRow : OpenClaim := { program := "ytjkjcnadgpndoaagreat", sum := "0da10aac4d14bf300fed0c8a1fc0c152e173592165cdc87c49c3867596d0745e", func := "spile/spilelaw54.ArrivalOrder", spec := "arrivalOrder", unfollowed := true, recurses := true, plainKeys := false, apart := false }
def ArrivalOrderSaid : Prop := arrivalOrderRow.holds Tryz.pinned (OpenSpec.ofChange arrivalOrderSpec)

/-- ITS FALSE NEIGHBOUR: 'it returns false'. Refute it at one input. -/
def arrivalOrderWrong : ChangeSpec := { name := "arrivalOrder", fn := fun _ => fun
  | [d1, d2, d3] => { results := [.lit (.bool false)], args := [d1, d2, d3] }
  | _ => none }
def ArrivalOrderWrongFalsely : Prop := arrivalOrderRow.holds Tryz.pinned (OpenSpec.ofChange arrivalOrderWrong)

/-- 'spilelaw54.ArrivalLast': WHATEVER THE INPUT: true; the input reads as it did. -/
def arrivalLastSpec : ChangeSpec := { name := "arrivalLast", fn := fun _ => fun
  | [d1, d2, d3] => { results := [.lit (.bool true)], args := [d1, d2, d3] }
  | _ => none }
def arrivalLastRow : OpenClaim := { program := "ytjkjcnadgpndoaagreat", sum := "0da10aac4d14bf300fed0c8a1fc0c152e173592165cdc87c49c3867596d0745e", func := "spile/spilelaw54.ArrivalLast", spec := "arrivalLast", unfollowed := true, recurses := true, plainKeys := false, apart := false }
def ArrivalLastSaid : Prop := arrivalLastRow.holds Tryz.pinned (OpenSpec.ofChange arrivalLastSpec)

/-- ITS FALSE NEIGHBOUR: 'it returns false'. Refute it at one input. -/
def arrivalLastWrong : ChangeSpec := { name := "arrivalLast", fn := fun _ => fun
  | [d1, d2, d3] => { results := [.lit (.bool false)], args := [d1, d2, d3] }
  | _ => none }
def ArrivalLastWrongFalsely : Prop := arrivalLastRow.holds Tryz.pinned (OpenSpec.ofChange arrivalLastWrong)

/- THE SECOND FORM. 'bulk': how many values and letters a reading holds, each counted each time it is reached (what is shared counts as often as it is met; a slice's spare places count too). A statement '..UptoSaid' is the law's where the arguments, and the package variables that the reading takes, are together of bulk at most 1048576: NARROWER than '..Said'. Prove '..Said' where nothing that the law and all that it calls make is longer than what came in: it says more and counts as full. Else prove '..UptoSaid'. A law counts once. -/
mutual
def uptoBulk {H : Type} : DataW H → Nat
  | .lit (.string bytes) => bytes.length + 1
  | .lit _ => 1
  | .nil => 1
  | .ptr d => uptoBulk d + 1
  | .slice elems spare => uptoBulkAll elems + uptoBulkAll spare + 1
  | .agg parts => uptoBulkAll parts + 1
  | .iface _ d => uptoBulk d + 1
  | .map entries => uptoBulkEntries entries + 1
  | .held _ => 1
def uptoBulkAll {H : Type} : List (DataW H) → Nat
  | [] => 0
  | d :: r => uptoBulk d + uptoBulkAll r
def uptoBulkEntries {H : Type} : List (Lit × DataW H) → Nat
  | [] => 0
  | x :: r => uptoBulkEntry x + uptoBulkEntries r
def uptoBulkEntry {H : Type} : Lit × DataW H → Nat
  | (.string bytes, d) => bytes.length + uptoBulk d + 1
  | (_, d) => uptoBulk d + 1
 end
def uptoSmall : (H : Type) → List (DataW H) → Bool := fun _ ds => decide (uptoBulkAll ds ≤ 1048576)
def OpenSpec.upto (s : _root_.Go.ChangeSpec) : _root_.Go.OpenSpec := { _root_.Go.OpenSpec.ofChange s with cond := some uptoSmall }

/-- 'spilelaw54.ArrivalMerges', WHERE WHAT IT READS IS OF BULK AT MOST 1048576: true; the input reads as it did. -/
def arrivalMergesUptoRow : OpenClaim := { program := "ytjkjcnadgpndoaagreat", sum := "0da10aac4d14bf300fed0c8a1fc0c152e173592165cdc87c49c3867596d0745e", func := "spile/spilelaw54.ArrivalMerges", spec := "arrivalMerges", unfollowed := true, recurses := true, plainKeys := false, apart := false, narrowed := true }
def ArrivalMergesUptoSaid : Prop := arrivalMergesUptoRow.holds Tryz.pinned (OpenSpec.upto arrivalMergesSpec)

/-- 'spilelaw54.ArrivalSets', WHERE WHAT IT READS IS OF BULK AT MOST 1048576: true; the input reads as it did. -/
def arrivalSetsUptoRow : OpenClaim := { program := "ytjkjcnadgpndoaagreat", sum := "0da10aac4d14bf300fed0c8a1fc0c152e173592165cdc87c49c3867596d0745e", func := "spile/spilelaw54.ArrivalSets", spec := "arrivalSets", unfollowed := true, recurses := true, plainKeys := false, apart := false, narrowed := true }
def ArrivalSetsUptoSaid : Prop := arrivalSetsUptoRow.holds Tryz.pinned (OpenSpec.upto arrivalSetsSpec)

/-- 'spilelaw54.ArrivalMakes', WHERE WHAT IT READS IS OF BULK AT MOST 1048576: true; the input reads as it did. -/
def arrivalMakesUptoRow : OpenClaim := { program := "ytjkjcnadgpndoaagreat", sum := "0da10aac4d14bf300fed0c8a1fc0c152e173592165cdc87c49c3867596d0745e", func := "spile/spilelaw54.ArrivalMakes", spec := "arrivalMakes", unfollowed := true, recurses := true, plainKeys := false, apart := false, narrowed := true }
def ArrivalMakesUptoSaid : Prop := arrivalMakesUptoRow.holds Tryz.pinned (OpenSpec.upto arrivalMakesSpec)

/-- 'spilelaw54.ArrivalArrives', WHERE WHAT IT READS IS OF BULK AT MOST 1048576: true; the input reads as it did. -/
def arrivalArrivesUptoRow : OpenClaim := { program := "ytjkjcnadgpndoaagreat", sum := "0da10aac4d14bf300fed0c8a1fc0c152e173592165cdc87c49c3867596d0745e", func := "spile/spilelaw54.ArrivalArrives", spec := "arrivalArrives", unfollowed := true, recurses := true, plainKeys := false, apart := false, narrowed := true }
def ArrivalArrivesUptoSaid : Prop := arrivalArrivesUptoRow.holds Tryz.pinned (OpenSpec.upto arrivalArrivesSpec)

/-- 'spilelaw54.ArrivalApart', WHERE WHAT IT READS IS OF BULK AT MOST 1048576: true; the input reads as it did. -/
def arrivalApartUptoRow : OpenClaim := { program := "ytjkjcnadgpndoaagreat", sum := "0da10aac4d14bf300fed0c8a1fc0c152e173592165cdc87c49c3867596d0745e", func := "spile/spilelaw54.ArrivalApart", spec := "arrivalApart", unfollowed := true, recurses := true, plainKeys := false, apart := false, narrowed := true }
def ArrivalApartUptoSaid : Prop := arrivalApartUptoRow.holds Tryz.pinned (OpenSpec.upto arrivalApartSpec)

/-- 'spilelaw54.ArrivalOrder', WHERE WHAT IT READS IS OF BULK AT MOST 1048576: true; the input reads as it did. -/
def arrivalOrderUptoRow : OpenClaim := { program := "ytjkjcnadgpndoaagreat", sum := "0da10aac4d14bf300fed0c8a1fc0c152e173592165cdc87c49c3867596d0745e", func := "spile/spilelaw54.ArrivalOrder", spec := "arrivalOrder", unfollowed := true, recurses := true, plainKeys := false, apart := false, narrowed := true }
def ArrivalOrderUptoSaid : Prop := arrivalOrderUptoRow.holds Tryz.pinned (OpenSpec.upto arrivalOrderSpec)

/-- 'spilelaw54.ArrivalLast', WHERE WHAT IT READS IS OF BULK AT MOST 1048576: true; the input reads as it did. -/
def arrivalLastUptoRow : OpenClaim := { program := "ytjkjcnadgpndoaagreat", sum := "0da10aac4d14bf300fed0c8a1fc0c152e173592165cdc87c49c3867596d0745e", func := "spile/spilelaw54.ArrivalLast", spec := "arrivalLast", unfollowed := true, recurses := true, plainKeys := false, apart := false, narrowed := true }
def ArrivalLastUptoSaid : Prop := arrivalLastUptoRow.holds Tryz.pinned (OpenSpec.upto arrivalLastSpec)

end Rows
end Go.Proofs.YtjkjcnadgpndoaaGreat
