/- The given row of the law LossParts holds. Conditions: none. -/
import Derived.Test.YtadlfinlbaogeaaRows
import Derived.Test.YtadlfinlbaogeaaEvRow
import Derived.Test.YtadlfinlbaogeaaL32b
namespace Go.Proofs.Ytadlfinlbaogeaa
open Go Go.Proofs.Ytadlfinlbaogeaa.Ev Go.ChangeShapes Go.WideShapes Go.ChangeAt Go.RowKit
set_option maxRecDepth 100000
set_option linter.unusedVariables false
theorem LossParts_own : ownKnob Try.prog.godebug = none := by kernel_rfl
theorem LossParts_laid : laidOutB Try.prog = true := by kernel_rfl
theorem LossParts_lifted (os : Os) (started : os.Started) (H : Type) (enc : TypeId × Value → H) :
    ReturnsInHanded {} Try.checked os 14 .any (Rows.lossPartsSpec.pre6 enc Try.prog Try.f14 Rows.lossPartsRow.domain false) (Rows.lossPartsSpec.post enc Try.prog Try.f14 false true false false) := by
  refine returnsInHanded_of_change (C := Try.checked) LossParts_own started (by kernel_rfl) Try.func14
    (ChangeSpec.witness6 (enc := enc) (C := Try.checked) false ⟨#[], #[.agg #[.int .i64 0, .int .i64 0, .int .i64 0, .int .i64 0], .slice none 0 0], []⟩ 8 (by kernel_rfl) (by kernel_rfl) (by kernel_rfl) (by kernel_rfl)) ?_
  intro W base args ds gs before hval hW hcnd _
  exact law_contract (T := spilelaw32_LossParts.tb) (A := spilelaw32_LossParts.A) (n := 8) (tb := 4) (ts := [.agg [.int .i64, .int .i64, .int .i64, .int .i64], .leaf (.row [.int .i64])]) spilelaw32_LossParts.tbok Try.mixed Try.func14 (by kernel_rfl) LossParts_laid
    (by rw [(show Try.f14.params.toList = [61, 31] by kernel_rfl)]; exact List.forall_mem_cons.2 ⟨⟨by kernel_rfl, of_decide_eq_true (by kernel_rfl)⟩, List.forall_mem_cons.2 ⟨⟨by kernel_rfl, of_decide_eq_true (by kernel_rfl)⟩, List.forall_mem_nil _⟩⟩)
    (by kernel_rfl) (by kernel_rfl) (by kernel_rfl) rfl (fun ds h => by
      rw [(show Try.f14.params.toList = [61, 31] by kernel_rfl)] at h
      match ds, h with
      | [d0, d1], _ => rfl) spilelaw32_LossPartsP.eq (fun x hx => LossParts_ok x.1 x.2) hval hW
theorem LossParts_holds : Rows.LossPartsSaid :=
  OpenClaim.holds_of_wide 14 Try.f14 rfl rfl rfl rfl rfl rfl rfl ⟨rfl, rfl, rfl, rfl, rfl⟩ rfl rfl rfl rfl rfl (by kernel_rfl) Try.func14 (by kernel_rfl)
    (of_decide_eq_true (by kernel_rfl)) (by unfold Func.isWrapper; first | (rw [if_pos (by decide +kernel)]; kernel_rfl) | (rw [if_neg (by decide +kernel)]; exact ⟨rfl, rfl⟩))
    (fun os started H enc _ => LossParts_lifted os started H enc)
end Go.Proofs.Ytadlfinlbaogeaa
