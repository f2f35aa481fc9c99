/- The given row of the law LossCloses holds. Conditions: none. -/
import Derived.Test.YtadlfinlbaogeaaRows
import Derived.Test.YtadlfinlbaogeaaS32b
namespace Go.Proofs.Ytadlfinlbaogeaa
open Go Go.Proofs.Ytadlfinlbaogeaa.Ev Go.ChangeShapes Go.WideShapes Go.ChangeAt Go.RowKit
set_option maxRecDepth 100000
set_option linter.unusedVariables false
theorem Try.own : ownKnob Try.prog.godebug = none := by kernel_rfl
theorem Try.laidOut : laidOutB Try.prog = true := by kernel_rfl
theorem LossCloses_args (vs : List V) (hv : Args Try.prog 8 Try.f8.params.toList vs) :
    ∃ h', evalFn Try.prog spilelaw32_LossCloses.tb spilelaw32_LossCloses.A Try.f8 (.one (.leaf .bool)) vs H.empty = some (true, h') := by
  rw [show Try.f8.params.toList = [59] by kernel_rfl] at hv
  obtain ⟨v, vs', rfl, ⟨l, hl, hv⟩, rfl⟩ := hv
  rw [show shapes Try.prog 8 59 = some [.int .i64, .int .i64, .int .i64, .int .i64, .int .i64] by kernel_rfl] at hl
  cases hl
  rw [show aggT Try.prog 59 = some true by kernel_rfl] at hv
  obtain ⟨cs, rfl, hd⟩ := hv
  obtain ⟨x, rfl⟩ := hd.lt
  obtain ⟨x0, x1, x2, x3, x4⟩ := x
  obtain ⟨h', hh⟩ := LossCloses_ok x0 x1 x2 x3 x4
  exact ⟨h', (spilelaw32_LossCloses.eq (x0, x1, x2, x3, x4) H.empty).trans hh⟩
theorem LossCloses_lifted (os : Os) (started : os.Started) (H : Type) (enc : TypeId × Value → H) :
    ReturnsInHanded {} Try.checked os 8 .any (Rows.lossClosesSpec.pre6 enc Try.prog Try.f8 Rows.lossClosesRow.domain false) (Rows.lossClosesSpec.post enc Try.prog Try.f8 false true false false) := by
  refine returnsInHanded_of_change (C := Try.checked) Try.own started (by kernel_rfl) Try.func8
    (ChangeSpec.witness6 (enc := enc) (C := Try.checked) false ⟨#[], #[.agg #[.int .i64 0, .int .i64 0, .int .i64 0, .int .i64 0, .int .i64 0]], []⟩ 8 (by kernel_rfl) (by kernel_rfl) (by kernel_rfl) (by kernel_rfl)) ?_
  intro W base args ds gs before hval hW hcnd _
  exact law_contract (T := spilelaw32_LossCloses.tb) (A := spilelaw32_LossCloses.A) (n := 8) (tb := 4) spilelaw32_LossCloses.tbok Try.mixed Try.func8 (by kernel_rfl) Try.laidOut
    (by rw [show Try.f8.params.toList = [59] by kernel_rfl]; exact List.forall_mem_cons.2 ⟨⟨by kernel_rfl, of_decide_eq_true (by kernel_rfl)⟩, List.forall_mem_nil _⟩)
    (by rw [show Try.f8.params.toList = [59] by kernel_rfl]; exact List.forall_mem_cons.2 ⟨by kernel_rfl, List.forall_mem_nil _⟩)
    (by kernel_rfl) (by kernel_rfl) rfl (fun ds h => by
      rw [show Try.f8.params.toList = [59] by kernel_rfl] at h
      match ds, h with
      | [d0], _ => rfl) LossCloses_args hval hW
theorem LossCloses_holds : Rows.LossClosesSaid :=
  OpenClaim.holds_of_wide 8 Try.f8 rfl rfl rfl rfl rfl rfl rfl ⟨rfl, rfl, rfl, rfl, rfl⟩ rfl rfl rfl rfl rfl (by kernel_rfl) Try.func8 (by kernel_rfl)
    (of_decide_eq_true (by kernel_rfl)) (by unfold Func.isWrapper; first | (rw [if_pos (by decide +kernel)]; kernel_rfl) | (rw [if_neg (by decide +kernel)]; exact ⟨rfl, rfl⟩))
    (fun os started H enc _ => LossCloses_lifted os started H enc)
end Go.Proofs.Ytadlfinlbaogeaa
