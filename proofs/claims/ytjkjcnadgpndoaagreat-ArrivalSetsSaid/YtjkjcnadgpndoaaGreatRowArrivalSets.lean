/- The given row of the law ArrivalSets holds. Conditions: none. -/
import Derived.Test.YtjkjcnadgpndoaaGreatRows
import Derived.Test.YtjkjcnadgpndoaaGreatEvRow
import Derived.Test.YtjkjcnadgpndoaaGreatMgF4
namespace Go.Proofs.YtjkjcnadgpndoaaGreat
open Go Go.Proofs.YtjkjcnadgpndoaaGreat.Ev Go.ChangeShapes Go.WideShapes Go.ChangeAt Go.RowKit
set_option maxRecDepth 100000
set_option linter.unusedVariables false
theorem ArrivalSets_own : ownKnob Tryz.prog.godebug = none := by kernel_rfl
theorem ArrivalSets_laid : laidOutB Tryz.prog = true := by kernel_rfl
theorem ArrivalSets_lifted (os : Os) (started : os.Started) (H : Type) (enc : TypeId × Value → H) :
    ReturnsInHanded {} Tryz.checked os 4 .any (Rows.arrivalSetsSpec.pre6 enc Tryz.prog Tryz.f4 Rows.arrivalSetsRow.domain false) (Rows.arrivalSetsSpec.post enc Tryz.prog Tryz.f4 false true false false) := by
  refine returnsInHanded_of_change (C := Tryz.checked) ArrivalSets_own started (by kernel_rfl) Tryz.func4
    (ChangeSpec.witness6 (enc := enc) (C := Tryz.checked) false ⟨#[], #[.slice none 0 0, .slice none 0 0, .agg #[.int .i64 0, .int .i64 0, .int .i64 0, .int .i64 0, .slice none 0 0, .slice none 0 0]], []⟩ 8 (by kernel_rfl) (by kernel_rfl) (by kernel_rfl) (by kernel_rfl)) ?_
  intro W base args ds gs before hval hW hcnd _
  exact law_contract (T := law_ArrivalSets.tb) (A := law_ArrivalSets.A) (n := 8) (tb := 4) (ts := [.leaf (.row [.int .i64, .int .i64, .int .i64, .int .i64, .row [.int .i64], .row [.str]]), .leaf (.row [.int .i64, .int .i64, .int .i64, .int .i64, .row [.int .i64], .row [.str]]), .agg [.int .i64, .int .i64, .int .i64, .int .i64, .row [.int .i64], .row [.str]]]) law_ArrivalSets.tbok Tryz.mixed Tryz.func4 (by kernel_rfl) ArrivalSets_laid
    (by rw [(show Tryz.f4.params.toList = [22, 22, 42] by kernel_rfl)]; exact List.forall_mem_cons.2 ⟨⟨by kernel_rfl, of_decide_eq_true (by kernel_rfl)⟩, List.forall_mem_cons.2 ⟨⟨by kernel_rfl, of_decide_eq_true (by kernel_rfl)⟩, List.forall_mem_cons.2 ⟨⟨by kernel_rfl, of_decide_eq_true (by kernel_rfl)⟩, List.forall_mem_nil _⟩⟩⟩)
    (by kernel_rfl) (by kernel_rfl) (by kernel_rfl) rfl (fun ds h => by
      rw [(show Tryz.f4.params.toList = [22, 22, 42] by kernel_rfl)] at h
      match ds, h with
      | [d0, d1, d2], _ => rfl) law_ArrivalSetsP.eq (fun x hx => ArrivalSets_ok x.1 x.2.1 x.2.2 hx) (fun _ h => by cases h) rfl hval hW
theorem ArrivalSets_holds : Rows.ArrivalSetsSaid :=
  OpenClaim.holds_of_wide 4 Tryz.f4 rfl rfl rfl rfl rfl rfl rfl ⟨rfl, rfl, rfl, rfl, rfl⟩ rfl rfl rfl rfl rfl (by kernel_rfl) Tryz.func4 (by kernel_rfl)
    (of_decide_eq_true (by kernel_rfl)) (by unfold Func.isWrapper; first | (rw [if_pos (by decide +kernel)]; kernel_rfl) | (rw [if_neg (by decide +kernel)]; exact ⟨rfl, rfl⟩))
    (fun os started H enc _ => ArrivalSets_lifted os started H enc)
end Go.Proofs.YtjkjcnadgpndoaaGreat
