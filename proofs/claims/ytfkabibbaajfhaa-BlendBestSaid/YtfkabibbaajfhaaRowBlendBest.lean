/- The given row of the law BlendBest holds. Conditions: none. -/
import Derived.Test.YtfkabibbaajfhaaRows
import Derived.Test.YtfkabibbaajfhaaEvRow
import Derived.Test.YtfkabibbaajfhaaKB0
namespace Go.Proofs.Ytfkabibbaajfhaa
open Go Go.Proofs.Ytfkabibbaajfhaa.Ev Go.ChangeShapes Go.WideShapes Go.ChangeAt Go.RowKit
set_option maxRecDepth 100000
set_option linter.unusedVariables false
theorem BlendBest_own : ownKnob Try.prog.godebug = none := by kernel_rfl
theorem BlendBest_laid : laidOutB Try.prog = true := by kernel_rfl
theorem BlendBest_lifted (os : Os) (started : os.Started) (H : Type) (enc : TypeId × Value → H) :
    ReturnsInHanded {} Try.checked os 7 .any (Rows.blendBestSpec.pre6 enc Try.prog Try.f7 Rows.blendBestRow.domain false) (Rows.blendBestSpec.post enc Try.prog Try.f7 false true false false) := by
  refine returnsInHanded_of_change (C := Try.checked) BlendBest_own started (by kernel_rfl) Try.func7
    (ChangeSpec.witness6 (enc := enc) (C := Try.checked) false ⟨#[], #[.slice none 0 0, .agg #[.slice none 0 0, .slice none 0 0, .slice none 0 0, .int .i64 0, .int .i64 0, .int .i64 0], .slice none 0 0], []⟩ 8 (by kernel_rfl) (by kernel_rfl) (by kernel_rfl) (by kernel_rfl)) ?_
  intro W base args ds gs before hval hW hcnd _
  exact law_contract (T := spilelaw29_BlendBest.tb) (A := spilelaw29_BlendBest.A) (n := 8) (tb := 4) (ts := [.leaf (.row [.int .i64, .int .i64]), .agg [.row [.int .i64, .int .i64], .row [.int .i64], .row [.int .i64], .int .i64, .int .i64, .int .i64], .leaf (.row [.int .i64])]) spilelaw29_BlendBest.tbok Try.mixed Try.func7 (by kernel_rfl) BlendBest_laid
    (by rw [(show Try.f7.params.toList = [22, 26, 24] by kernel_rfl)]; exact List.forall_mem_cons.2 ⟨⟨by kernel_rfl, of_decide_eq_true (by kernel_rfl)⟩, List.forall_mem_cons.2 ⟨⟨by kernel_rfl, of_decide_eq_true (by kernel_rfl)⟩, List.forall_mem_cons.2 ⟨⟨by kernel_rfl, of_decide_eq_true (by kernel_rfl)⟩, List.forall_mem_nil _⟩⟩⟩)
    (by kernel_rfl) (by kernel_rfl) (by kernel_rfl) rfl (fun ds h => by
      rw [(show Try.f7.params.toList = [22, 26, 24] by kernel_rfl)] at h
      match ds, h with
      | [d0, d1, d2], _ => rfl) spilelaw29_BlendBestP.eq (fun x hx => BlendBest_ok x.1 x.2.1 x.2.2) rfl hval hW
theorem BlendBest_holds : Rows.BlendBestSaid :=
  OpenClaim.holds_of_wide 7 Try.f7 rfl rfl rfl rfl rfl rfl rfl ⟨rfl, rfl, rfl, rfl, rfl⟩ rfl rfl rfl rfl rfl (by kernel_rfl) Try.func7 (by kernel_rfl)
    (of_decide_eq_true (by kernel_rfl)) (by unfold Func.isWrapper; first | (rw [if_pos (by decide +kernel)]; kernel_rfl) | (rw [if_neg (by decide +kernel)]; exact ⟨rfl, rfl⟩))
    (fun os started H enc _ => BlendBest_lifted os started H enc)
end Go.Proofs.Ytfkabibbaajfhaa
