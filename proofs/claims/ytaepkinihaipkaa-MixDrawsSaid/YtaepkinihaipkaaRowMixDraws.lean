/- The given row of the law MixDraws holds. Conditions: none. -/
import Derived.Test.YtaepkinihaipkaaRows
import Derived.Test.YtaepkinihaipkaaEvRow
import Derived.Test.YtaepkinihaipkaaL21d
namespace Go.Proofs.Ytaepkinihaipkaa
open Go Go.Proofs.Ytaepkinihaipkaa.Ev Go.ChangeShapes Go.WideShapes Go.ChangeAt Go.RowKit
set_option maxRecDepth 100000
set_option linter.unusedVariables false
theorem MixDraws_own : ownKnob Try.prog.godebug = none := by kernel_rfl
theorem MixDraws_laid : laidOutB Try.prog = true := by kernel_rfl
theorem MixDraws_lifted (os : Os) (started : os.Started) (H : Type) (enc : TypeId × Value → H) :
    ReturnsInHanded {} Try.checked os 5 .any (Rows.mixDrawsSpec.pre6 enc Try.prog Try.f5 Rows.mixDrawsRow.domain false) (Rows.mixDrawsSpec.post enc Try.prog Try.f5 false true false false) := by
  refine returnsInHanded_of_change (C := Try.checked) MixDraws_own started (by kernel_rfl) Try.func5
    (ChangeSpec.witness6 (enc := enc) (C := Try.checked) false ⟨#[], #[.slice none 0 0, .agg #[.int .i64 0, .int .i64 0], .int .i64 0], []⟩ 8 (by kernel_rfl) (by kernel_rfl) (by kernel_rfl) (by kernel_rfl)) ?_
  intro W base args ds gs before hval hW hcnd _
  exact law_contract (T := spilelaw21_MixDraws.tb) (A := spilelaw21_MixDraws.A) (n := 8) (tb := 4) (ts := [.leaf (.row [.int .i64, .int .i64]), .agg [.int .i64, .int .i64], .leaf (.int .i64)]) spilelaw21_MixDraws.tbok Try.mixed Try.func5 (by kernel_rfl) MixDraws_laid
    (by rw [(show Try.f5.params.toList = [36, 24, 3] by kernel_rfl)]; exact List.forall_mem_cons.2 ⟨⟨by kernel_rfl, of_decide_eq_true (by kernel_rfl)⟩, List.forall_mem_cons.2 ⟨⟨by kernel_rfl, of_decide_eq_true (by kernel_rfl)⟩, List.forall_mem_cons.2 ⟨⟨by kernel_rfl, of_decide_eq_true (by kernel_rfl)⟩, List.forall_mem_nil _⟩⟩⟩)
    (by kernel_rfl) (by kernel_rfl) (by kernel_rfl) rfl (fun ds h => by
      rw [(show Try.f5.params.toList = [36, 24, 3] by kernel_rfl)] at h
      match ds, h with
      | [d0, d1, d2], _ => rfl) spilelaw21_MixDrawsP.eq (fun x hx => MixDraws_ok x.1 x.2.1 x.2.2) hval hW
theorem MixDraws_holds : Rows.MixDrawsSaid :=
  OpenClaim.holds_of_wide 5 Try.f5 rfl rfl rfl rfl rfl rfl rfl ⟨rfl, rfl, rfl, rfl, rfl⟩ rfl rfl rfl rfl rfl (by kernel_rfl) Try.func5 (by kernel_rfl)
    (of_decide_eq_true (by kernel_rfl)) (by unfold Func.isWrapper; first | (rw [if_pos (by decide +kernel)]; kernel_rfl) | (rw [if_neg (by decide +kernel)]; exact ⟨rfl, rfl⟩))
    (fun os started H enc _ => MixDraws_lifted os started H enc)
end Go.Proofs.Ytaepkinihaipkaa
