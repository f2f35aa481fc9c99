/- The given row of the law LossTurns holds. Conditions: none. -/
import Derived.Test.YtadlfinlbaogeaaRows
import Derived.Test.YtadlfinlbaogeaaEvRow
import Derived.Test.YtadlfinlbaogeaaL32a
namespace Go.Proofs.Ytadlfinlbaogeaa
open Go Go.Proofs.Ytadlfinlbaogeaa.Ev Go.ChangeShapes Go.WideShapes Go.ChangeAt Go.RowKit
set_option maxRecDepth 100000
set_option linter.unusedVariables false
theorem LossTurns_own : ownKnob Try.prog.godebug = none := by kernel_rfl
theorem LossTurns_laid : laidOutB Try.prog = true := by kernel_rfl
theorem LossTurns_lifted (os : Os) (started : os.Started) (H : Type) (enc : TypeId × Value → H) :
    ReturnsInHanded {} Try.checked os 10 .any (Rows.lossTurnsSpec.pre6 enc Try.prog Try.f10 Rows.lossTurnsRow.domain false) (Rows.lossTurnsSpec.post enc Try.prog Try.f10 false true false false) := by
  refine returnsInHanded_of_change (C := Try.checked) LossTurns_own started (by kernel_rfl) Try.func10
    (ChangeSpec.witness6 (enc := enc) (C := Try.checked) false ⟨#[], #[.int .i64 0, .slice none 0 0], []⟩ 8 (by kernel_rfl) (by kernel_rfl) (by kernel_rfl) (by kernel_rfl)) ?_
  intro W base args ds gs before hval hW hcnd _
  exact law_contract (T := spilelaw32_LossTurns.tb) (A := spilelaw32_LossTurns.A) (n := 8) (tb := 4) (ts := [.leaf (.int .i64), .leaf (.row [.int .i64, .int .i64, .int .i64, .int .i64, .int .i64])]) spilelaw32_LossTurns.tbok Try.mixed Try.func10 (by kernel_rfl) LossTurns_laid
    (by rw [(show Try.f10.params.toList = [3, 47] by kernel_rfl)]; exact List.forall_mem_cons.2 ⟨⟨by kernel_rfl, of_decide_eq_true (by kernel_rfl)⟩, List.forall_mem_cons.2 ⟨⟨by kernel_rfl, of_decide_eq_true (by kernel_rfl)⟩, List.forall_mem_nil _⟩⟩)
    (by kernel_rfl) (by kernel_rfl) (by kernel_rfl) rfl (fun ds h => by
      rw [(show Try.f10.params.toList = [3, 47] by kernel_rfl)] at h
      match ds, h with
      | [d0, d1], _ => rfl) spilelaw32_LossTurnsP.eq (fun x hx => LossTurns_ok x.1 x.2) hval hW
theorem LossTurns_holds : Rows.LossTurnsSaid :=
  OpenClaim.holds_of_wide 10 Try.f10 rfl rfl rfl rfl rfl rfl rfl ⟨rfl, rfl, rfl, rfl, rfl⟩ rfl rfl rfl rfl rfl (by kernel_rfl) Try.func10 (by kernel_rfl)
    (of_decide_eq_true (by kernel_rfl)) (by unfold Func.isWrapper; first | (rw [if_pos (by decide +kernel)]; kernel_rfl) | (rw [if_neg (by decide +kernel)]; exact ⟨rfl, rfl⟩))
    (fun os started H enc _ => LossTurns_lifted os started H enc)
end Go.Proofs.Ytadlfinlbaogeaa
