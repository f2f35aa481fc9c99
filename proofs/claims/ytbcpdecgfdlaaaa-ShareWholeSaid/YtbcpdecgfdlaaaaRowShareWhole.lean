/- The given row of the law ShareWhole holds. Conditions: none. -/
import Derived.Test.YtbcpdecgfdlaaaaRows
import Derived.Test.YtbcpdecgfdlaaaaEvRow
import Derived.Test.YtbcpdecgfdlaaaaShWh1
namespace Go.Proofs.Ytbcpdecgfdlaaaa
open Go Go.Proofs.Ytbcpdecgfdlaaaa.Ev Go.ChangeShapes Go.WideShapes Go.ChangeAt Go.RowKit
set_option maxRecDepth 100000
set_option linter.unusedVariables false
theorem ShareWhole_own : ownKnob Try.prog.godebug = none := by kernel_rfl
theorem ShareWhole_laid : laidOutB Try.prog = true := by kernel_rfl
theorem ShareWhole_lifted (os : Os) (started : os.Started) (H : Type) (enc : TypeId × Value → H) :
    ReturnsInHanded {} Try.checked os 5 .any (Rows.shareWholeSpec.pre6 enc Try.prog Try.f5 Rows.shareWholeRow.domain false) (Rows.shareWholeSpec.post enc Try.prog Try.f5 false true false false) := by
  refine returnsInHanded_of_change (C := Try.checked) ShareWhole_own started (by kernel_rfl) Try.func5
    (ChangeSpec.witness6 (enc := enc) (C := Try.checked) false ⟨#[], #[.slice none 0 0, .int .i64 0], []⟩ 8 (by kernel_rfl) (by kernel_rfl) (by kernel_rfl) (by kernel_rfl)) ?_
  intro W base args ds gs before hval hW hcnd _
  exact law_contract (T := spilelaw23_ShareWhole.tb) (A := spilelaw23_ShareWhole.A) (n := 8) (tb := 4) (ts := [.leaf (.row [.int .i64, .int .i64]), .leaf (.int .i64)]) spilelaw23_ShareWhole.tbok Try.mixed Try.func5 (by kernel_rfl) ShareWhole_laid
    (by rw [(show Try.f5.params.toList = [22, 3] by kernel_rfl)]; exact List.forall_mem_cons.2 ⟨⟨by kernel_rfl, of_decide_eq_true (by kernel_rfl)⟩, List.forall_mem_cons.2 ⟨⟨by kernel_rfl, of_decide_eq_true (by kernel_rfl)⟩, List.forall_mem_nil _⟩⟩)
    (by kernel_rfl) (by kernel_rfl) (by kernel_rfl) rfl (fun ds h => by
      rw [(show Try.f5.params.toList = [22, 3] by kernel_rfl)] at h
      match ds, h with
      | [d0, d1], _ => rfl) spilelaw23_ShareWholeP.eq (fun x hx => ShareWhole_ok x.1 x.2) rfl hval hW
theorem ShareWhole_holds : Rows.ShareWholeSaid :=
  OpenClaim.holds_of_wide 5 Try.f5 rfl rfl rfl rfl rfl rfl rfl ⟨rfl, rfl, rfl, rfl, rfl⟩ rfl rfl rfl rfl rfl (by kernel_rfl) Try.func5 (by kernel_rfl)
    (of_decide_eq_true (by kernel_rfl)) (by unfold Func.isWrapper; first | (rw [if_pos (by decide +kernel)]; kernel_rfl) | (rw [if_neg (by decide +kernel)]; exact ⟨rfl, rfl⟩))
    (fun os started H enc _ => ShareWhole_lifted os started H enc)
end Go.Proofs.Ytbcpdecgfdlaaaa
