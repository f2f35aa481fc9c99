/- The given row of the law BlendWider holds. Conditions: none. -/
import Derived.Test.YtfkabibbaajfhaaRows
import Derived.Test.YtfkabibbaajfhaaEvRow
import Derived.Test.YtfkabibbaajfhaaKW0
namespace Go.Proofs.Ytfkabibbaajfhaa
open Go Go.Proofs.Ytfkabibbaajfhaa.Ev Go.ChangeShapes Go.WideShapes Go.ChangeAt Go.RowKit
set_option maxRecDepth 100000
set_option linter.unusedVariables false
theorem BlendWider_own : ownKnob Try.prog.godebug = none := by kernel_rfl
theorem BlendWider_laid : laidOutB Try.prog = true := by kernel_rfl
theorem BlendWider_lifted (os : Os) (started : os.Started) (H : Type) (enc : TypeId × Value → H) :
    ReturnsInHanded {} Try.checked os 3 .any (Rows.blendWiderSpec.pre6 enc Try.prog Try.f3 Rows.blendWiderRow.domain false) (Rows.blendWiderSpec.post enc Try.prog Try.f3 false true false false) := by
  refine returnsInHanded_of_change (C := Try.checked) BlendWider_own started (by kernel_rfl) Try.func3
    (ChangeSpec.witness6 (enc := enc) (C := Try.checked) false ⟨#[], #[.slice none 0 0, .agg #[.slice none 0 0, .slice none 0 0, .slice none 0 0, .int .i64 0, .int .i64 0, .int .i64 0], .int .u8 0, .int .u8 0], []⟩ 8 (by kernel_rfl) (by kernel_rfl) (by kernel_rfl) (by kernel_rfl)) ?_
  intro W base args ds gs before hval hW hcnd _
  exact law_contract (T := spilelaw29_BlendWider.tb) (A := spilelaw29_BlendWider.A) (n := 8) (tb := 4) (ts := [.leaf (.row [.int .i64, .int .i64]), .agg [.row [.int .i64, .int .i64], .row [.int .i64], .row [.int .i64], .int .i64, .int .i64, .int .i64], .leaf (.int .u8), .leaf (.int .u8)]) spilelaw29_BlendWider.tbok Try.mixed Try.func3 (by kernel_rfl) BlendWider_laid
    (by rw [(show Try.f3.params.toList = [22, 26, 5, 5] by kernel_rfl)]; exact List.forall_mem_cons.2 ⟨⟨by kernel_rfl, of_decide_eq_true (by kernel_rfl)⟩, List.forall_mem_cons.2 ⟨⟨by kernel_rfl, of_decide_eq_true (by kernel_rfl)⟩, List.forall_mem_cons.2 ⟨⟨by kernel_rfl, of_decide_eq_true (by kernel_rfl)⟩, List.forall_mem_cons.2 ⟨⟨by kernel_rfl, of_decide_eq_true (by kernel_rfl)⟩, List.forall_mem_nil _⟩⟩⟩⟩)
    (by kernel_rfl) (by kernel_rfl) (by kernel_rfl) rfl (fun ds h => by
      rw [(show Try.f3.params.toList = [22, 26, 5, 5] by kernel_rfl)] at h
      match ds, h with
      | [d0, d1, d2, d3], _ => rfl) spilelaw29_BlendWiderP.eq (fun x hx => BlendWider_ok x.1 x.2.1 x.2.2.1 x.2.2.2 hx) rfl hval hW
theorem BlendWider_holds : Rows.BlendWiderSaid :=
  OpenClaim.holds_of_wide 3 Try.f3 rfl rfl rfl rfl rfl rfl rfl ⟨rfl, rfl, rfl, rfl, rfl⟩ rfl rfl rfl rfl rfl (by kernel_rfl) Try.func3 (by kernel_rfl)
    (of_decide_eq_true (by kernel_rfl)) (by unfold Func.isWrapper; first | (rw [if_pos (by decide +kernel)]; kernel_rfl) | (rw [if_neg (by decide +kernel)]; exact ⟨rfl, rfl⟩))
    (fun os started H enc _ => BlendWider_lifted os started H enc)
end Go.Proofs.Ytfkabibbaajfhaa
