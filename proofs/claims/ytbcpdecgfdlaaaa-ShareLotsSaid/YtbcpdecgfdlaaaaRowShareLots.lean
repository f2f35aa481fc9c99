/- The given row of the law ShareLots holds. Conditions: none. -/
import Derived.Test.YtbcpdecgfdlaaaaRows
import Derived.Test.YtbcpdecgfdlaaaaEvRow
import Derived.Test.YtbcpdecgfdlaaaaShLo2
namespace Go.Proofs.Ytbcpdecgfdlaaaa
open Go Go.Proofs.Ytbcpdecgfdlaaaa.Ev Go.ChangeShapes Go.WideShapes Go.ChangeAt Go.RowKit
set_option maxRecDepth 100000
set_option linter.unusedVariables false
theorem ShareLots_own : ownKnob Try.prog.godebug = none := by kernel_rfl
theorem ShareLots_laid : laidOutB Try.prog = true := by kernel_rfl
theorem ShareLots_lifted (os : Os) (started : os.Started) (H : Type) (enc : TypeId × Value → H) :
    ReturnsInHanded {} Try.checked os 8 .any (Rows.shareLotsSpec.pre6 enc Try.prog Try.f8 Rows.shareLotsRow.domain false) (Rows.shareLotsSpec.post enc Try.prog Try.f8 false true false false) := by
  refine returnsInHanded_of_change (C := Try.checked) ShareLots_own started (by kernel_rfl) Try.func8
    (ChangeSpec.witness6 (enc := enc) (C := Try.checked) false ⟨#[], #[.slice none 0 0, .agg #[.int .i64 0, .int .i64 0, .int .i64 0, .slice none 0 0], .int .i64 0, .int .i64 0], []⟩ 8 (by kernel_rfl) (by kernel_rfl) (by kernel_rfl) (by kernel_rfl)) ?_
  intro W base args ds gs before hval hW hcnd _
  exact law_contract (T := spilelaw23_ShareLots.tb) (A := spilelaw23_ShareLots.A) (n := 8) (tb := 4) (ts := [.leaf (.row [.int .i64, .int .i64, .int .i64, .row [.int .i64, .int .i64]]), .agg [.int .i64, .int .i64, .int .i64, .row [.int .i64, .int .i64]], .leaf (.int .i64), .leaf (.int .i64)]) spilelaw23_ShareLots.tbok Try.mixed Try.func8 (by kernel_rfl) ShareLots_laid
    (by rw [(show Try.f8.params.toList = [41, 46, 3, 3] by kernel_rfl)]; exact List.forall_mem_cons.2 ⟨⟨by kernel_rfl, of_decide_eq_true (by kernel_rfl)⟩, List.forall_mem_cons.2 ⟨⟨by kernel_rfl, of_decide_eq_true (by kernel_rfl)⟩, List.forall_mem_cons.2 ⟨⟨by kernel_rfl, of_decide_eq_true (by kernel_rfl)⟩, List.forall_mem_cons.2 ⟨⟨by kernel_rfl, of_decide_eq_true (by kernel_rfl)⟩, List.forall_mem_nil _⟩⟩⟩⟩)
    (by kernel_rfl) (by kernel_rfl) (by kernel_rfl) rfl (fun ds h => by
      rw [(show Try.f8.params.toList = [41, 46, 3, 3] by kernel_rfl)] at h
      match ds, h with
      | [d0, d1, d2, d3], _ => rfl) spilelaw23_ShareLotsP.eq (fun x hx => ShareLots_ok x.1 x.2.1 x.2.2.1 x.2.2.2) rfl hval hW
theorem ShareLots_holds : Rows.ShareLotsSaid :=
  OpenClaim.holds_of_wide 8 Try.f8 rfl rfl rfl rfl rfl rfl rfl ⟨rfl, rfl, rfl, rfl, rfl⟩ rfl rfl rfl rfl rfl (by kernel_rfl) Try.func8 (by kernel_rfl)
    (of_decide_eq_true (by kernel_rfl)) (by unfold Func.isWrapper; first | (rw [if_pos (by decide +kernel)]; kernel_rfl) | (rw [if_neg (by decide +kernel)]; exact ⟨rfl, rfl⟩))
    (fun os started H enc _ => ShareLots_lifted os started H enc)
end Go.Proofs.Ytbcpdecgfdlaaaa
