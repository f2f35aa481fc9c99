/- The given row of the law ShareVats holds. Conditions: none. -/
import Derived.Test.YtbcpdecgfdlaaaaRows
import Derived.Test.YtbcpdecgfdlaaaaEvRow
import Derived.Test.YtbcpdecgfdlaaaaShVa1
namespace Go.Proofs.Ytbcpdecgfdlaaaa
open Go Go.Proofs.Ytbcpdecgfdlaaaa.Ev Go.ChangeShapes Go.WideShapes Go.ChangeAt Go.RowKit
set_option maxRecDepth 100000
set_option linter.unusedVariables false
theorem ShareVats_own : ownKnob Try.prog.godebug = none := by kernel_rfl
theorem ShareVats_laid : laidOutB Try.prog = true := by kernel_rfl
theorem ShareVats_lifted (os : Os) (started : os.Started) (H : Type) (enc : TypeId × Value → H) :
    ReturnsInHanded {} Try.checked os 7 .any (Rows.shareVatsSpec.pre6 enc Try.prog Try.f7 Rows.shareVatsRow.domain false) (Rows.shareVatsSpec.post enc Try.prog Try.f7 false true false false) := by
  refine returnsInHanded_of_change (C := Try.checked) ShareVats_own started (by kernel_rfl) Try.func7
    (ChangeSpec.witness6 (enc := enc) (C := Try.checked) false ⟨#[], #[.slice none 0 0, .int .u8 0], []⟩ 8 (by kernel_rfl) (by kernel_rfl) (by kernel_rfl) (by kernel_rfl)) ?_
  intro W base args ds gs before hval hW hcnd _
  exact law_contract (T := spilelaw23_ShareVats.tb) (A := spilelaw23_ShareVats.A) (n := 8) (tb := 4) (ts := [.leaf (.row [.int .i64, .int .i64, .int .i64, .row [.int .i64, .int .i64]]), .leaf (.int .u8)]) spilelaw23_ShareVats.tbok Try.mixed Try.func7 (by kernel_rfl) ShareVats_laid
    (by rw [(show Try.f7.params.toList = [41, 5] by kernel_rfl)]; exact List.forall_mem_cons.2 ⟨⟨by kernel_rfl, of_decide_eq_true (by kernel_rfl)⟩, List.forall_mem_cons.2 ⟨⟨by kernel_rfl, of_decide_eq_true (by kernel_rfl)⟩, List.forall_mem_nil _⟩⟩)
    (by kernel_rfl) (by kernel_rfl) (by kernel_rfl) rfl (fun ds h => by
      rw [(show Try.f7.params.toList = [41, 5] by kernel_rfl)] at h
      match ds, h with
      | [d0, d1], _ => rfl) spilelaw23_ShareVatsP.eq (fun x hx => ShareVats_ok x.1 x.2 hx) rfl hval hW
theorem ShareVats_holds : Rows.ShareVatsSaid :=
  OpenClaim.holds_of_wide 7 Try.f7 rfl rfl rfl rfl rfl rfl rfl ⟨rfl, rfl, rfl, rfl, rfl⟩ rfl rfl rfl rfl rfl (by kernel_rfl) Try.func7 (by kernel_rfl)
    (of_decide_eq_true (by kernel_rfl)) (by unfold Func.isWrapper; first | (rw [if_pos (by decide +kernel)]; kernel_rfl) | (rw [if_neg (by decide +kernel)]; exact ⟨rfl, rfl⟩))
    (fun os started H enc _ => ShareVats_lifted os started H enc)
end Go.Proofs.Ytbcpdecgfdlaaaa
