/- The given row of the law MixParts holds. Conditions: none. -/
import Derived.Test.YtaepkinihaipkaaRows
import Derived.Test.YtaepkinihaipkaaEvRow
import Derived.Test.YtaepkinihaipkaaL21b
namespace Go.Proofs.Ytaepkinihaipkaa
open Go Go.Proofs.Ytaepkinihaipkaa.Ev Go.ChangeShapes Go.WideShapes Go.ChangeAt Go.RowKit
set_option maxRecDepth 100000
set_option linter.unusedVariables false
theorem MixParts_own : ownKnob Try.prog.godebug = none := by kernel_rfl
theorem MixParts_laid : laidOutB Try.prog = true := by kernel_rfl
theorem MixParts_lifted (os : Os) (started : os.Started) (H : Type) (enc : TypeId × Value → H) :
    ReturnsInHanded {} Try.checked os 6 .any (Rows.mixPartsSpec.pre6 enc Try.prog Try.f6 Rows.mixPartsRow.domain false) (Rows.mixPartsSpec.post enc Try.prog Try.f6 false true false false) := by
  refine returnsInHanded_of_change (C := Try.checked) MixParts_own started (by kernel_rfl) Try.func6
    (ChangeSpec.witness6 (enc := enc) (C := Try.checked) false ⟨#[], #[.agg #[.int .i64 0, .int .i64 0], .slice none 0 0], []⟩ 8 (by kernel_rfl) (by kernel_rfl) (by kernel_rfl) (by kernel_rfl)) ?_
  intro W base args ds gs before hval hW hcnd _
  exact law_contract (T := spilelaw21_MixParts.tb) (A := spilelaw21_MixParts.A) (n := 8) (tb := 4) (ts := [.agg [.int .i64, .int .i64], .leaf (.row [.int .i64])]) spilelaw21_MixParts.tbok Try.mixed Try.func6 (by kernel_rfl) MixParts_laid
    (by rw [(show Try.f6.params.toList = [24, 25] by kernel_rfl)]; exact List.forall_mem_cons.2 ⟨⟨by kernel_rfl, of_decide_eq_true (by kernel_rfl)⟩, List.forall_mem_cons.2 ⟨⟨by kernel_rfl, of_decide_eq_true (by kernel_rfl)⟩, List.forall_mem_nil _⟩⟩)
    (by kernel_rfl) (by kernel_rfl) (by kernel_rfl) rfl (fun ds h => by
      rw [(show Try.f6.params.toList = [24, 25] by kernel_rfl)] at h
      match ds, h with
      | [d0, d1], _ => rfl) spilelaw21_MixPartsP.eq (fun x hx => MixParts_ok x.1 x.2) hval hW
theorem MixParts_holds : Rows.MixPartsSaid :=
  OpenClaim.holds_of_wide 6 Try.f6 rfl rfl rfl rfl rfl rfl rfl ⟨rfl, rfl, rfl, rfl, rfl⟩ rfl rfl rfl rfl rfl (by kernel_rfl) Try.func6 (by kernel_rfl)
    (of_decide_eq_true (by kernel_rfl)) (by unfold Func.isWrapper; first | (rw [if_pos (by decide +kernel)]; kernel_rfl) | (rw [if_neg (by decide +kernel)]; exact ⟨rfl, rfl⟩))
    (fun os started H enc _ => MixParts_lifted os started H enc)
end Go.Proofs.Ytaepkinihaipkaa
