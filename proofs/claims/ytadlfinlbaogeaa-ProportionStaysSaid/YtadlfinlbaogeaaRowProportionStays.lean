/- The given row of the law ProportionStays holds. Conditions: none. -/
import Derived.Test.YtadlfinlbaogeaaRows
import Derived.Test.YtadlfinlbaogeaaEvRow
import Derived.Test.YtadlfinlbaogeaaL01b
namespace Go.Proofs.Ytadlfinlbaogeaa
open Go Go.Proofs.Ytadlfinlbaogeaa.Ev Go.ChangeShapes Go.WideShapes Go.ChangeAt Go.RowKit
set_option maxRecDepth 100000
set_option linter.unusedVariables false
theorem ProportionStays_own : ownKnob Try.prog.godebug = none := by kernel_rfl
theorem ProportionStays_laid : laidOutB Try.prog = true := by kernel_rfl
theorem ProportionStays_lifted (os : Os) (started : os.Started) (H : Type) (enc : TypeId × Value → H) :
    ReturnsInHanded {} Try.checked os 4 .any (Rows.proportionStaysSpec.pre6 enc Try.prog Try.f4 Rows.proportionStaysRow.domain false) (Rows.proportionStaysSpec.post enc Try.prog Try.f4 false true false false) := by
  refine returnsInHanded_of_change (C := Try.checked) ProportionStays_own started (by kernel_rfl) Try.func4
    (ChangeSpec.witness6 (enc := enc) (C := Try.checked) false ⟨#[], #[.slice none 0 0, .int .i64 0], []⟩ 8 (by kernel_rfl) (by kernel_rfl) (by kernel_rfl) (by kernel_rfl)) ?_
  intro W base args ds gs before hval hW hcnd _
  exact law_contract (T := spilelaw01_ProportionStays.tc) (A := spilelaw01_ProportionStays.A) (n := 8) (tb := 4) (ts := [.leaf (.row [.int .i64]), .leaf (.int .i64)]) spilelaw01_ProportionStays.tcok Try.mixed Try.func4 (by kernel_rfl) ProportionStays_laid
    (by rw [(show Try.f4.params.toList = [31, 3] by kernel_rfl)]; exact List.forall_mem_cons.2 ⟨⟨by kernel_rfl, of_decide_eq_true (by kernel_rfl)⟩, List.forall_mem_cons.2 ⟨⟨by kernel_rfl, of_decide_eq_true (by kernel_rfl)⟩, List.forall_mem_nil _⟩⟩)
    (by kernel_rfl) (by kernel_rfl) (by kernel_rfl) rfl (fun ds h => by
      rw [(show Try.f4.params.toList = [31, 3] by kernel_rfl)] at h
      match ds, h with
      | [d0, d1], _ => rfl) spilelaw01_ProportionStaysP.eq (fun x hx => ProportionStays_ok x.1 x.2) hval hW
theorem ProportionStays_holds : Rows.ProportionStaysSaid :=
  OpenClaim.holds_of_wide 4 Try.f4 rfl rfl rfl rfl rfl rfl rfl ⟨rfl, rfl, rfl, rfl, rfl⟩ rfl rfl rfl rfl rfl (by kernel_rfl) Try.func4 (by kernel_rfl)
    (of_decide_eq_true (by kernel_rfl)) (by unfold Func.isWrapper; first | (rw [if_pos (by decide +kernel)]; kernel_rfl) | (rw [if_neg (by decide +kernel)]; exact ⟨rfl, rfl⟩))
    (fun os started H enc _ => ProportionStays_lifted os started H enc)
end Go.Proofs.Ytadlfinlbaogeaa
