/- The given row of the law LossSums holds. Conditions: none. -/
import Derived.Test.YtadlfinlbaogeaaRows
import Derived.Test.YtadlfinlbaogeaaEvRow
import Derived.Test.YtadlfinlbaogeaaL32c
namespace Go.Proofs.Ytadlfinlbaogeaa
open Go Go.Proofs.Ytadlfinlbaogeaa.Ev Go.ChangeShapes Go.WideShapes Go.ChangeAt Go.RowKit
set_option maxRecDepth 100000
set_option linter.unusedVariables false
theorem LossSums_own : ownKnob Try.prog.godebug = none := by kernel_rfl
theorem LossSums_laid : laidOutB Try.prog = true := by kernel_rfl
theorem LossSums_lifted (os : Os) (started : os.Started) (H : Type) (enc : TypeId × Value → H) :
    ReturnsInHanded {} Try.checked os 13 .any (Rows.lossSumsSpec.pre6 enc Try.prog Try.f13 Rows.lossSumsRow.domain false) (Rows.lossSumsSpec.post enc Try.prog Try.f13 false true false false) := by
  refine returnsInHanded_of_change (C := Try.checked) LossSums_own started (by kernel_rfl) Try.func13
    (ChangeSpec.witness6 (enc := enc) (C := Try.checked) false ⟨#[], #[.slice none 0 0, .agg #[.int .i64 0, .int .i64 0, .int .i64 0, .int .i64 0], .slice none 0 0], []⟩ 8 (by kernel_rfl) (by kernel_rfl) (by kernel_rfl) (by kernel_rfl)) ?_
  intro W base args ds gs before hval hW hcnd _
  exact law_contract (T := spilelaw32_LossSums.tb) (A := spilelaw32_LossSums.A) (n := 8) (tb := 4) (ts := [.leaf (.row [.int .i64, .int .i64, .int .i64, .int .i64]), .agg [.int .i64, .int .i64, .int .i64, .int .i64], .leaf (.row [.int .i64])]) spilelaw32_LossSums.tbok Try.mixed Try.func13 (by kernel_rfl) LossSums_laid
    (by rw [(show Try.f13.params.toList = [48, 61, 31] by kernel_rfl)]; exact List.forall_mem_cons.2 ⟨⟨by kernel_rfl, of_decide_eq_true (by kernel_rfl)⟩, List.forall_mem_cons.2 ⟨⟨by kernel_rfl, of_decide_eq_true (by kernel_rfl)⟩, List.forall_mem_cons.2 ⟨⟨by kernel_rfl, of_decide_eq_true (by kernel_rfl)⟩, List.forall_mem_nil _⟩⟩⟩)
    (by kernel_rfl) (by kernel_rfl) (by kernel_rfl) rfl (fun ds h => by
      rw [(show Try.f13.params.toList = [48, 61, 31] by kernel_rfl)] at h
      match ds, h with
      | [d0, d1, d2], _ => rfl) spilelaw32_LossSumsP.eq (fun x hx => LossSums_ok x.1 x.2.1 x.2.2) hval hW
theorem LossSums_holds : Rows.LossSumsSaid :=
  OpenClaim.holds_of_wide 13 Try.f13 rfl rfl rfl rfl rfl rfl rfl ⟨rfl, rfl, rfl, rfl, rfl⟩ rfl rfl rfl rfl rfl (by kernel_rfl) Try.func13 (by kernel_rfl)
    (of_decide_eq_true (by kernel_rfl)) (by unfold Func.isWrapper; first | (rw [if_pos (by decide +kernel)]; kernel_rfl) | (rw [if_neg (by decide +kernel)]; exact ⟨rfl, rfl⟩))
    (fun os started H enc _ => LossSums_lifted os started H enc)
end Go.Proofs.Ytadlfinlbaogeaa
