/- The given row of the law MixSums holds. Conditions: none. -/
import Derived.Test.YtaepkinihaipkaaRows
import Derived.Test.YtaepkinihaipkaaEvRow
import Derived.Test.YtaepkinihaipkaaL21c
namespace Go.Proofs.Ytaepkinihaipkaa
open Go Go.Proofs.Ytaepkinihaipkaa.Ev Go.ChangeShapes Go.WideShapes Go.ChangeAt Go.RowKit
set_option maxRecDepth 100000
set_option linter.unusedVariables false
theorem MixSums_own : ownKnob Try.prog.godebug = none := by kernel_rfl
theorem MixSums_laid : laidOutB Try.prog = true := by kernel_rfl
theorem MixSums_lifted (os : Os) (started : os.Started) (H : Type) (enc : TypeId × Value → H) :
    ReturnsInHanded {} Try.checked os 3 .any (Rows.mixSumsSpec.pre6 enc Try.prog Try.f3 Rows.mixSumsRow.domain false) (Rows.mixSumsSpec.post enc Try.prog Try.f3 false true false false) := by
  refine returnsInHanded_of_change (C := Try.checked) MixSums_own started (by kernel_rfl) Try.func3
    (ChangeSpec.witness6 (enc := enc) (C := Try.checked) false ⟨#[], #[.slice none 0 0, .agg #[.int .i64 0, .int .i64 0], .int .i64 0, .slice none 0 0], []⟩ 8 (by kernel_rfl) (by kernel_rfl) (by kernel_rfl) (by kernel_rfl)) ?_
  intro W base args ds gs before hval hW hcnd _
  exact law_contract (T := spilelaw21_MixSums.tb) (A := spilelaw21_MixSums.A) (n := 8) (tb := 4) (ts := [.leaf (.row [.int .i64, .int .i64]), .agg [.int .i64, .int .i64], .leaf (.int .i64), .leaf (.row [.int .i64])]) spilelaw21_MixSums.tbok Try.mixed Try.func3 (by kernel_rfl) MixSums_laid
    (by rw [(show Try.f3.params.toList = [22, 24, 3, 25] by kernel_rfl)]; exact List.forall_mem_cons.2 ⟨⟨by kernel_rfl, of_decide_eq_true (by kernel_rfl)⟩, List.forall_mem_cons.2 ⟨⟨by kernel_rfl, of_decide_eq_true (by kernel_rfl)⟩, List.forall_mem_cons.2 ⟨⟨by kernel_rfl, of_decide_eq_true (by kernel_rfl)⟩, List.forall_mem_cons.2 ⟨⟨by kernel_rfl, of_decide_eq_true (by kernel_rfl)⟩, List.forall_mem_nil _⟩⟩⟩⟩)
    (by kernel_rfl) (by kernel_rfl) (by kernel_rfl) rfl (fun ds h => by
      rw [(show Try.f3.params.toList = [22, 24, 3, 25] by kernel_rfl)] at h
      match ds, h with
      | [d0, d1, d2, d3], _ => rfl) spilelaw21_MixSumsP.eq (fun x hx => MixSums_ok x.1 x.2.1 x.2.2.1 x.2.2.2) hval hW
theorem MixSums_holds : Rows.MixSumsSaid :=
  OpenClaim.holds_of_wide 3 Try.f3 rfl rfl rfl rfl rfl rfl rfl ⟨rfl, rfl, rfl, rfl, rfl⟩ rfl rfl rfl rfl rfl (by kernel_rfl) Try.func3 (by kernel_rfl)
    (of_decide_eq_true (by kernel_rfl)) (by unfold Func.isWrapper; first | (rw [if_pos (by decide +kernel)]; kernel_rfl) | (rw [if_neg (by decide +kernel)]; exact ⟨rfl, rfl⟩))
    (fun os started H enc _ => MixSums_lifted os started H enc)
end Go.Proofs.Ytaepkinihaipkaa
