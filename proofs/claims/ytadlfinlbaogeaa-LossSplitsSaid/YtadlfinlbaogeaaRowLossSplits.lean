/- The given row of the law LossSplits holds. Conditions: none. -/
import Derived.Test.YtadlfinlbaogeaaRows
import Derived.Test.YtadlfinlbaogeaaEvRow
import Derived.Test.YtadlfinlbaogeaaS32c
namespace Go.Proofs.Ytadlfinlbaogeaa
open Go Go.Proofs.Ytadlfinlbaogeaa.Ev Go.ChangeShapes Go.WideShapes Go.ChangeAt Go.RowKit
set_option maxRecDepth 100000
set_option linter.unusedVariables false
theorem LossSplits_own : ownKnob Try.prog.godebug = none := by kernel_rfl
theorem LossSplits_laid : laidOutB Try.prog = true := by kernel_rfl
theorem LossSplits_args (vs : List V) (hv : Args Try.prog 8 Try.f12.params.toList vs) :
    ∃ h', evalFn Try.prog spilelaw32_LossSplits.tb spilelaw32_LossSplits.A Try.f12 (.one (.leaf .bool)) vs H.empty = some (true, h') := by
  rw [(show Try.f12.params.toList = [59, 61] by kernel_rfl)] at hv
  obtain ⟨v0, vs0, rfl, ⟨l0, hl0, hv0⟩, v1, vs1, rfl, ⟨l1, hl1, hv1⟩, rfl⟩ := hv
  rw [show shapes Try.prog 8 59 = some [.int .i64, .int .i64, .int .i64, .int .i64, .int .i64] by kernel_rfl] at hl0
  cases hl0
  rw [show aggT Try.prog 59 = some true by kernel_rfl] at hv0
  obtain ⟨cs0, rfl, hd0⟩ := hv0
  obtain ⟨y0, rfl⟩ := hd0.lt
  obtain ⟨y0_0, y0_1, y0_2, y0_3, y0_4⟩ := y0
  rw [show shapes Try.prog 8 61 = some [.int .i64, .int .i64, .int .i64, .int .i64] by kernel_rfl] at hl1
  cases hl1
  rw [show aggT Try.prog 61 = some true by kernel_rfl] at hv1
  obtain ⟨cs1, rfl, hd1⟩ := hv1
  obtain ⟨y1, rfl⟩ := hd1.lt
  obtain ⟨y1_0, y1_1, y1_2, y1_3⟩ := y1
  obtain ⟨h', hh⟩ := LossSplits_ok y0_0 y0_1 y0_2 y0_3 y0_4 y1_0 y1_1 y1_2 y1_3 (hd0.2 0 _ _ rfl rfl) (hd0.2 1 _ _ rfl rfl) (hd0.2 2 _ _ rfl rfl) (hd0.2 3 _ _ rfl rfl) (hd0.2 4 _ _ rfl rfl) (hd1.2 0 _ _ rfl rfl) (hd1.2 1 _ _ rfl rfl) (hd1.2 2 _ _ rfl rfl) (hd1.2 3 _ _ rfl rfl)
  exact ⟨h', (spilelaw32_LossSplits.eq ((y0_0, y0_1, y0_2, y0_3, y0_4), (y1_0, y1_1, y1_2, y1_3)) H.empty).trans hh⟩
theorem LossSplits_lifted (os : Os) (started : os.Started) (H : Type) (enc : TypeId × Value → H) :
    ReturnsInHanded {} Try.checked os 12 .any (Rows.lossSplitsSpec.pre6 enc Try.prog Try.f12 Rows.lossSplitsRow.domain false) (Rows.lossSplitsSpec.post enc Try.prog Try.f12 false true false false) := by
  refine returnsInHanded_of_change (C := Try.checked) LossSplits_own started (by kernel_rfl) Try.func12
    (ChangeSpec.witness6 (enc := enc) (C := Try.checked) false ⟨#[], #[.agg #[.int .i64 0, .int .i64 0, .int .i64 0, .int .i64 0, .int .i64 0], .agg #[.int .i64 0, .int .i64 0, .int .i64 0, .int .i64 0]], []⟩ 8 (by kernel_rfl) (by kernel_rfl) (by kernel_rfl) (by kernel_rfl)) ?_
  intro W base args ds gs before hval hW hcnd _
  exact law_contract (T := spilelaw32_LossSplits.tb) (A := spilelaw32_LossSplits.A) (n := 8) (tb := 4) spilelaw32_LossSplits.tbok Try.mixed Try.func12 (by kernel_rfl) LossSplits_laid
    (by rw [(show Try.f12.params.toList = [59, 61] by kernel_rfl)]; exact List.forall_mem_cons.2 ⟨⟨by kernel_rfl, of_decide_eq_true (by kernel_rfl)⟩, List.forall_mem_cons.2 ⟨⟨by kernel_rfl, of_decide_eq_true (by kernel_rfl)⟩, List.forall_mem_nil _⟩⟩)
    (by rw [(show Try.f12.params.toList = [59, 61] by kernel_rfl)]; exact List.forall_mem_cons.2 ⟨by kernel_rfl, List.forall_mem_cons.2 ⟨by kernel_rfl, List.forall_mem_nil _⟩⟩)
    (by kernel_rfl) (by kernel_rfl) rfl (fun ds h => by
      rw [(show Try.f12.params.toList = [59, 61] by kernel_rfl)] at h
      match ds, h with
      | [d0, d1], _ => rfl) LossSplits_args hval hW
theorem LossSplits_holds : Rows.LossSplitsSaid :=
  OpenClaim.holds_of_wide 12 Try.f12 rfl rfl rfl rfl rfl rfl rfl ⟨rfl, rfl, rfl, rfl, rfl⟩ rfl rfl rfl rfl rfl (by kernel_rfl) Try.func12 (by kernel_rfl)
    (of_decide_eq_true (by kernel_rfl)) (by unfold Func.isWrapper; first | (rw [if_pos (by decide +kernel)]; kernel_rfl) | (rw [if_neg (by decide +kernel)]; exact ⟨rfl, rfl⟩))
    (fun os started H enc _ => LossSplits_lifted os started H enc)
end Go.Proofs.Ytadlfinlbaogeaa
