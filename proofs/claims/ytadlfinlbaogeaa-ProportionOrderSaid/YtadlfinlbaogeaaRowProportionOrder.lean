/- The given row of the law ProportionOrder holds. Conditions: none. -/
import Derived.Test.YtadlfinlbaogeaaRows
import Derived.Test.YtadlfinlbaogeaaEvRow
import Derived.Test.YtadlfinlbaogeaaL01a
namespace Go.Proofs.Ytadlfinlbaogeaa
open Go Go.Proofs.Ytadlfinlbaogeaa.Ev Go.ChangeShapes Go.WideShapes Go.ChangeAt Go.RowKit
set_option maxRecDepth 100000
set_option linter.unusedVariables false
theorem ProportionOrder_own : ownKnob Try.prog.godebug = none := by kernel_rfl
theorem ProportionOrder_laid : laidOutB Try.prog = true := by kernel_rfl
theorem ProportionOrder_lifted (os : Os) (started : os.Started) (H : Type) (enc : TypeId × Value → H) :
    ReturnsInHanded {} Try.checked os 6 .any (Rows.proportionOrderSpec.pre6 enc Try.prog Try.f6 Rows.proportionOrderRow.domain false) (Rows.proportionOrderSpec.post enc Try.prog Try.f6 false true false false) := by
  refine returnsInHanded_of_change (C := Try.checked) ProportionOrder_own started (by kernel_rfl) Try.func6
    (ChangeSpec.witness6 (enc := enc) (C := Try.checked) false ⟨#[], #[.agg #[.int .i64 0, .int .i64 0, .int .i64 0, .int .i64 0, .int .i64 0, .int .i64 0]], []⟩ 8 (by kernel_rfl) (by kernel_rfl) (by kernel_rfl) (by kernel_rfl)) ?_
  intro W base args ds gs before hval hW hcnd _
  exact law_contract (T := spilelaw01_ProportionOrder.tb) (A := spilelaw01_ProportionOrder.A) (n := 8) (tb := 4) (ts := [.agg [.int .i64, .int .i64, .int .i64, .int .i64, .int .i64, .int .i64]]) spilelaw01_ProportionOrder.tbok Try.mixed Try.func6 (by kernel_rfl) ProportionOrder_laid
    (by rw [(show Try.f6.params.toList = [45] by kernel_rfl)]; exact List.forall_mem_cons.2 ⟨⟨by kernel_rfl, of_decide_eq_true (by kernel_rfl)⟩, List.forall_mem_nil _⟩)
    (by kernel_rfl) (by kernel_rfl) (by kernel_rfl) rfl (fun ds h => by
      rw [(show Try.f6.params.toList = [45] by kernel_rfl)] at h
      match ds, h with
      | [d0], _ => rfl) spilelaw01_ProportionOrderP.eq (fun x hx => ProportionOrder_ok x) hval hW
theorem ProportionOrder_holds : Rows.ProportionOrderSaid :=
  OpenClaim.holds_of_wide 6 Try.f6 rfl rfl rfl rfl rfl rfl rfl ⟨rfl, rfl, rfl, rfl, rfl⟩ rfl rfl rfl rfl rfl (by kernel_rfl) Try.func6 (by kernel_rfl)
    (of_decide_eq_true (by kernel_rfl)) (by unfold Func.isWrapper; first | (rw [if_pos (by decide +kernel)]; kernel_rfl) | (rw [if_neg (by decide +kernel)]; exact ⟨rfl, rfl⟩))
    (fun os started H enc _ => ProportionOrder_lifted os started H enc)
end Go.Proofs.Ytadlfinlbaogeaa
