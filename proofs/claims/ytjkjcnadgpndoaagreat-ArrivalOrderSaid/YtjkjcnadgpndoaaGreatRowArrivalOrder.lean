/- The given row of the law ArrivalOrder holds. Conditions: none. -/
import Derived.Test.YtjkjcnadgpndoaaGreatRows
import Derived.Test.YtjkjcnadgpndoaaGreatEvRow
import Derived.Test.YtjkjcnadgpndoaaGreatMgC3
namespace Go.Proofs.YtjkjcnadgpndoaaGreat
open Go Go.Proofs.YtjkjcnadgpndoaaGreat.Ev Go.ChangeShapes Go.WideShapes Go.ChangeAt Go.RowKit
set_option maxRecDepth 100000
set_option linter.unusedVariables false
theorem ArrivalOrder_own : ownKnob Tryz.prog.godebug = none := by kernel_rfl
theorem ArrivalOrder_laid : laidOutB Tryz.prog = true := by kernel_rfl
theorem ArrivalOrder_lifted (os : Os) (started : os.Started) (H : Type) (enc : TypeId × Value → H) :
    ReturnsInHanded {} Tryz.checked os 8 .any (Rows.arrivalOrderSpec.pre6 enc Tryz.prog Tryz.f8 Rows.arrivalOrderRow.domain false) (Rows.arrivalOrderSpec.post enc Tryz.prog Tryz.f8 false true false false) := by
  refine returnsInHanded_of_change (C := Tryz.checked) ArrivalOrder_own started (by kernel_rfl) Tryz.func8
    (ChangeSpec.witness6 (enc := enc) (C := Tryz.checked) false ⟨#[], #[.slice none 0 0, .int .u8 0, .int .u8 0], []⟩ 8 (by kernel_rfl) (by kernel_rfl) (by kernel_rfl) (by kernel_rfl)) ?_
  intro W base args ds gs before hval hW hcnd _
  exact law_contract (T := spilelaw54_ArrivalOrder.tb) (A := spilelaw54_ArrivalOrder.A) (n := 8) (tb := 4) (ts := [.leaf (.row [.int .i64, .int .i64, .int .i64, .int .i64, .row [.int .i64], .row [.str]]), .leaf (.int .u8), .leaf (.int .u8)]) spilelaw54_ArrivalOrder.tbok Tryz.mixed Tryz.func8 (by kernel_rfl) ArrivalOrder_laid
    (by rw [(show Tryz.f8.params.toList = [22, 5, 5] by kernel_rfl)]; exact List.forall_mem_cons.2 ⟨⟨by kernel_rfl, of_decide_eq_true (by kernel_rfl)⟩, List.forall_mem_cons.2 ⟨⟨by kernel_rfl, of_decide_eq_true (by kernel_rfl)⟩, List.forall_mem_cons.2 ⟨⟨by kernel_rfl, of_decide_eq_true (by kernel_rfl)⟩, List.forall_mem_nil _⟩⟩⟩)
    (by kernel_rfl) (by kernel_rfl) (by kernel_rfl) rfl (fun ds h => by
      rw [(show Tryz.f8.params.toList = [22, 5, 5] by kernel_rfl)] at h
      match ds, h with
      | [d0, d1, d2], _ => rfl) spilelaw54_ArrivalOrderP.eq (fun x hx => ArrivalOrder_ok x.1 x.2.1 x.2.2 hx) (fun _ h => by cases h) rfl hval hW
theorem ArrivalOrder_holds : Rows.ArrivalOrderSaid :=
  OpenClaim.holds_of_wide 8 Tryz.f8 rfl rfl rfl rfl rfl rfl rfl ⟨rfl, rfl, rfl, rfl, rfl⟩ rfl rfl rfl rfl rfl (by kernel_rfl) Tryz.func8 (by kernel_rfl)
    (of_decide_eq_true (by kernel_rfl)) (by unfold Func.isWrapper; first | (rw [if_pos (by decide +kernel)]; kernel_rfl) | (rw [if_neg (by decide +kernel)]; exact ⟨rfl, rfl⟩))
    (fun os started H enc _ => ArrivalOrder_lifted os started H enc)
end Go.Proofs.YtjkjcnadgpndoaaGreat
