/- The given row of the law ProportionBack holds. Conditions: none. -/
import Derived.Test.YtadlfinlbaogeaaRows
import Derived.Test.YtadlfinlbaogeaaEvRow
import Derived.Test.YtadlfinlbaogeaaMb0
namespace Go.Proofs.Ytadlfinlbaogeaa
open Go Go.Proofs.Ytadlfinlbaogeaa.Ev Go.ChangeShapes Go.WideShapes Go.ChangeAt Go.RowKit
set_option maxRecDepth 100000
set_option linter.unusedVariables false
theorem ProportionBack_own : ownKnob Try.prog.godebug = none := by kernel_rfl
theorem ProportionBack_laid : laidOutB Try.prog = true := by kernel_rfl
theorem ProportionBack_lifted (os : Os) (started : os.Started) (H : Type) (enc : TypeId × Value → H) :
    ReturnsInHanded {} Try.checked os 11 .any (Rows.proportionBackSpec.pre6 enc Try.prog Try.f11 Rows.proportionBackRow.domain false) (Rows.proportionBackSpec.post enc Try.prog Try.f11 false true false false) := by
  refine returnsInHanded_of_change (C := Try.checked) ProportionBack_own started (by kernel_rfl) Try.func11
    (ChangeSpec.witness6 (enc := enc) (C := Try.checked) false ⟨#[], #[.int .i64 0, .int .i64 0, .int .i64 0], []⟩ 8 (by kernel_rfl) (by kernel_rfl) (by kernel_rfl) (by kernel_rfl)) ?_
  intro W base args ds gs before hval hW hcnd _
  exact law_contract (T := spilelaw01_ProportionBack.tb) (A := spilelaw01_ProportionBack.A) (n := 8) (tb := 4) (ts := [.leaf (.int .i64), .leaf (.int .i64), .leaf (.int .i64)]) spilelaw01_ProportionBack.tbok Try.mixed Try.func11 (by kernel_rfl) ProportionBack_laid
    (by rw [(show Try.f11.params.toList = [3, 3, 3] by kernel_rfl)]; exact List.forall_mem_cons.2 ⟨⟨by kernel_rfl, of_decide_eq_true (by kernel_rfl)⟩, List.forall_mem_cons.2 ⟨⟨by kernel_rfl, of_decide_eq_true (by kernel_rfl)⟩, List.forall_mem_cons.2 ⟨⟨by kernel_rfl, of_decide_eq_true (by kernel_rfl)⟩, List.forall_mem_nil _⟩⟩⟩)
    (by kernel_rfl) (by kernel_rfl) (by kernel_rfl) rfl (fun ds h => by
      rw [(show Try.f11.params.toList = [3, 3, 3] by kernel_rfl)] at h
      match ds, h with
      | [d0, d1, d2], _ => rfl) spilelaw01_ProportionBackP.eq (fun x hx => ProportionBack_ok x.1 x.2.1 x.2.2) rfl hval hW
theorem ProportionBack_holds : Rows.ProportionBackSaid :=
  OpenClaim.holds_of_wide 11 Try.f11 rfl rfl rfl rfl rfl rfl rfl ⟨rfl, rfl, rfl, rfl, rfl⟩ rfl rfl rfl rfl rfl (by kernel_rfl) Try.func11 (by kernel_rfl)
    (of_decide_eq_true (by kernel_rfl)) (by unfold Func.isWrapper; first | (rw [if_pos (by decide +kernel)]; kernel_rfl) | (rw [if_neg (by decide +kernel)]; exact ⟨rfl, rfl⟩))
    (fun os started H enc _ => ProportionBack_lifted os started H enc)
end Go.Proofs.Ytadlfinlbaogeaa
