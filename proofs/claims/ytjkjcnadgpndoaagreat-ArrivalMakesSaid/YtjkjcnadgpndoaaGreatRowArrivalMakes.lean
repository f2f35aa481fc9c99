/- The given row of the law ArrivalMakes holds. Conditions: none. -/
import Derived.Test.YtjkjcnadgpndoaaGreatRows
import Derived.Test.YtjkjcnadgpndoaaGreatEvRow
import Derived.Test.YtjkjcnadgpndoaaGreatMgB3
namespace Go.Proofs.YtjkjcnadgpndoaaGreat
open Go Go.Proofs.YtjkjcnadgpndoaaGreat.Ev Go.ChangeShapes Go.WideShapes Go.ChangeAt Go.RowKit
set_option maxRecDepth 100000
set_option linter.unusedVariables false
theorem ArrivalMakes_own : ownKnob Tryz.prog.godebug = none := by kernel_rfl
theorem ArrivalMakes_laid : laidOutB Tryz.prog = true := by kernel_rfl
theorem ArrivalMakes_lifted (os : Os) (started : os.Started) (H : Type) (enc : TypeId × Value → H) :
    ReturnsInHanded {} Tryz.checked os 5 .any (Rows.arrivalMakesSpec.pre6 enc Tryz.prog Tryz.f5 Rows.arrivalMakesRow.domain false) (Rows.arrivalMakesSpec.post enc Tryz.prog Tryz.f5 false true false false) := by
  refine returnsInHanded_of_change (C := Tryz.checked) ArrivalMakes_own started (by kernel_rfl) Tryz.func5
    (ChangeSpec.witness6 (enc := enc) (C := Tryz.checked) false ⟨#[], #[.agg #[.int .i64 0, .int .i64 0, .int .i64 0], .agg #[.int .i64 0, .int .i64 0, .int .i64 0], .agg #[.int .i64 0, .int .i64 0, .int .i64 0, .int .i64 0, .slice none 0 0, .slice none 0 0]], []⟩ 8 (by kernel_rfl) (by kernel_rfl) (by kernel_rfl) (by kernel_rfl)) ?_
  intro W base args ds gs before hval hW hcnd _
  exact law_contract (T := spilelaw54_ArrivalMakes.tb) (A := spilelaw54_ArrivalMakes.A) (n := 8) (tb := 4) (ts := [.agg [.int .i64, .int .i64, .int .i64], .agg [.int .i64, .int .i64, .int .i64], .agg [.int .i64, .int .i64, .int .i64, .int .i64, .row [.int .i64], .row [.str]]]) spilelaw54_ArrivalMakes.tbok Tryz.mixed Tryz.func5 (by kernel_rfl) ArrivalMakes_laid
    (by rw [(show Tryz.f5.params.toList = [24, 24, 42] by kernel_rfl)]; exact List.forall_mem_cons.2 ⟨⟨by kernel_rfl, of_decide_eq_true (by kernel_rfl)⟩, List.forall_mem_cons.2 ⟨⟨by kernel_rfl, of_decide_eq_true (by kernel_rfl)⟩, List.forall_mem_cons.2 ⟨⟨by kernel_rfl, of_decide_eq_true (by kernel_rfl)⟩, List.forall_mem_nil _⟩⟩⟩)
    (by kernel_rfl) (by kernel_rfl) (by kernel_rfl) rfl (fun ds h => by
      rw [(show Tryz.f5.params.toList = [24, 24, 42] by kernel_rfl)] at h
      match ds, h with
      | [d0, d1, d2], _ => rfl) spilelaw54_ArrivalMakesP.eq (fun x hx => ArrivalMakes_ok x.1 x.2.1 x.2.2 hx) (fun _ h => by cases h) rfl hval hW
theorem ArrivalMakes_holds : Rows.ArrivalMakesSaid :=
  OpenClaim.holds_of_wide 5 Tryz.f5 rfl rfl rfl rfl rfl rfl rfl ⟨rfl, rfl, rfl, rfl, rfl⟩ rfl rfl rfl rfl rfl (by kernel_rfl) Tryz.func5 (by kernel_rfl)
    (of_decide_eq_true (by kernel_rfl)) (by unfold Func.isWrapper; first | (rw [if_pos (by decide +kernel)]; kernel_rfl) | (rw [if_neg (by decide +kernel)]; exact ⟨rfl, rfl⟩))
    (fun os started H enc _ => ArrivalMakes_lifted os started H enc)
end Go.Proofs.YtjkjcnadgpndoaaGreat
