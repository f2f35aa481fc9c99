/- The given row of the law MixOrder holds. Conditions: none. -/
import Derived.Test.YtaepkinihaipkaaRows
import Derived.Test.YtaepkinihaipkaaEvRow
import Derived.Test.YtaepkinihaipkaaMo1
namespace Go.Proofs.Ytaepkinihaipkaa
open Go Go.Proofs.Ytaepkinihaipkaa.Ev Go.ChangeShapes Go.WideShapes Go.ChangeAt Go.RowKit
set_option maxRecDepth 100000
set_option linter.unusedVariables false
theorem MixOrder_own : ownKnob Try.prog.godebug = none := by kernel_rfl
theorem MixOrder_laid : laidOutB Try.prog = true := by kernel_rfl
theorem MixOrder_lifted (os : Os) (started : os.Started) (H : Type) (enc : TypeId × Value → H) :
    ReturnsInHanded {} Try.checked os 9 .any (Rows.mixOrderSpec.pre6 enc Try.prog Try.f9 Rows.mixOrderRow.domain false) (Rows.mixOrderSpec.post enc Try.prog Try.f9 false true false false) := by
  refine returnsInHanded_of_change (C := Try.checked) MixOrder_own started (by kernel_rfl) Try.func9
    (ChangeSpec.witness6 (enc := enc) (C := Try.checked) false ⟨#[], #[.slice none 0 0, .slice none 0 0, .int .u8 0], []⟩ 8 (by kernel_rfl) (by kernel_rfl) (by kernel_rfl) (by kernel_rfl)) ?_
  intro W base args ds gs before hval hW hcnd _
  exact law_contract (T := spilelaw21_MixOrder.tb) (A := spilelaw21_MixOrder.A) (n := 8) (tb := 4) (ts := [.leaf (.row [.int .i64, .int .i64]), .leaf (.row [.int .i64, .int .i64]), .leaf (.int .u8)]) spilelaw21_MixOrder.tbok Try.mixed Try.func9 (by kernel_rfl) MixOrder_laid
    (by rw [(show Try.f9.params.toList = [36, 22, 5] by kernel_rfl)]; exact List.forall_mem_cons.2 ⟨⟨by kernel_rfl, of_decide_eq_true (by kernel_rfl)⟩, List.forall_mem_cons.2 ⟨⟨by kernel_rfl, of_decide_eq_true (by kernel_rfl)⟩, List.forall_mem_cons.2 ⟨⟨by kernel_rfl, of_decide_eq_true (by kernel_rfl)⟩, List.forall_mem_nil _⟩⟩⟩)
    (by kernel_rfl) (by kernel_rfl) (by kernel_rfl) rfl (fun ds h => by
      rw [(show Try.f9.params.toList = [36, 22, 5] by kernel_rfl)] at h
      match ds, h with
      | [d0, d1, d2], _ => rfl) spilelaw21_MixOrderP.eq (fun x hx => MixOrder_ok x.1 x.2.1 x.2.2 hx) hval hW
theorem MixOrder_holds : Rows.MixOrderSaid :=
  OpenClaim.holds_of_wide 9 Try.f9 rfl rfl rfl rfl rfl rfl rfl ⟨rfl, rfl, rfl, rfl, rfl⟩ rfl rfl rfl rfl rfl (by kernel_rfl) Try.func9 (by kernel_rfl)
    (of_decide_eq_true (by kernel_rfl)) (by unfold Func.isWrapper; first | (rw [if_pos (by decide +kernel)]; kernel_rfl) | (rw [if_neg (by decide +kernel)]; exact ⟨rfl, rfl⟩))
    (fun os started H enc _ => MixOrder_lifted os started H enc)
end Go.Proofs.Ytaepkinihaipkaa
