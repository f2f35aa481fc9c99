/- The given row of the law ShareDraws holds. Conditions: none. -/
import Derived.Test.YtbcpdecgfdlaaaaRows
import Derived.Test.YtbcpdecgfdlaaaaEvRow
import Derived.Test.YtbcpdecgfdlaaaaShDr1
namespace Go.Proofs.Ytbcpdecgfdlaaaa
open Go Go.Proofs.Ytbcpdecgfdlaaaa.Ev Go.ChangeShapes Go.WideShapes Go.ChangeAt Go.RowKit
set_option maxRecDepth 100000
set_option linter.unusedVariables false
theorem ShareDraws_own : ownKnob Try.prog.godebug = none := by kernel_rfl
theorem ShareDraws_laid : laidOutB Try.prog = true := by kernel_rfl
theorem ShareDraws_lifted (os : Os) (started : os.Started) (H : Type) (enc : TypeId × Value → H) :
    ReturnsInHanded {} Try.checked os 9 .any (Rows.shareDrawsSpec.pre6 enc Try.prog Try.f9 Rows.shareDrawsRow.domain false) (Rows.shareDrawsSpec.post enc Try.prog Try.f9 false true false false) := by
  refine returnsInHanded_of_change (C := Try.checked) ShareDraws_own started (by kernel_rfl) Try.func9
    (ChangeSpec.witness6 (enc := enc) (C := Try.checked) false ⟨#[], #[.agg #[.int .i64 0, .int .i64 0, .int .i64 0, .slice none 0 0], .int .i64 0, .int .i64 0], []⟩ 8 (by kernel_rfl) (by kernel_rfl) (by kernel_rfl) (by kernel_rfl)) ?_
  intro W base args ds gs before hval hW hcnd _
  exact law_contract (T := spilelaw23_ShareDraws.tb) (A := spilelaw23_ShareDraws.A) (n := 8) (tb := 4) (ts := [.agg [.int .i64, .int .i64, .int .i64, .row [.int .i64, .int .i64]], .leaf (.int .i64), .leaf (.int .i64)]) spilelaw23_ShareDraws.tbok Try.mixed Try.func9 (by kernel_rfl) ShareDraws_laid
    (by rw [(show Try.f9.params.toList = [46, 3, 3] by kernel_rfl)]; exact List.forall_mem_cons.2 ⟨⟨by kernel_rfl, of_decide_eq_true (by kernel_rfl)⟩, List.forall_mem_cons.2 ⟨⟨by kernel_rfl, of_decide_eq_true (by kernel_rfl)⟩, List.forall_mem_cons.2 ⟨⟨by kernel_rfl, of_decide_eq_true (by kernel_rfl)⟩, List.forall_mem_nil _⟩⟩⟩)
    (by kernel_rfl) (by kernel_rfl) (by kernel_rfl) rfl (fun ds h => by
      rw [(show Try.f9.params.toList = [46, 3, 3] by kernel_rfl)] at h
      match ds, h with
      | [d0, d1, d2], _ => rfl) spilelaw23_ShareDrawsP.eq (fun x hx => ShareDraws_ok x.1 x.2.1 x.2.2) rfl hval hW
theorem ShareDraws_holds : Rows.ShareDrawsSaid :=
  OpenClaim.holds_of_wide 9 Try.f9 rfl rfl rfl rfl rfl rfl rfl ⟨rfl, rfl, rfl, rfl, rfl⟩ rfl rfl rfl rfl rfl (by kernel_rfl) Try.func9 (by kernel_rfl)
    (of_decide_eq_true (by kernel_rfl)) (by unfold Func.isWrapper; first | (rw [if_pos (by decide +kernel)]; kernel_rfl) | (rw [if_neg (by decide +kernel)]; exact ⟨rfl, rfl⟩))
    (fun os started H enc _ => ShareDraws_lifted os started H enc)
end Go.Proofs.Ytbcpdecgfdlaaaa
