/- The given row of the law ArrivalApart holds. Conditions: none. -/
import Derived.Test.YtjkjcnadgpndoaaGreatRows
import Derived.Test.YtjkjcnadgpndoaaGreatEvRow
import Derived.Test.YtjkjcnadgpndoaaGreatMgE3
namespace Go.Proofs.YtjkjcnadgpndoaaGreat
open Go Go.Proofs.YtjkjcnadgpndoaaGreat.Ev Go.ChangeShapes Go.WideShapes Go.ChangeAt Go.RowKit
set_option maxRecDepth 100000
set_option linter.unusedVariables false
theorem ArrivalApart_own : ownKnob Tryz.prog.godebug = none := by kernel_rfl
theorem ArrivalApart_laid : laidOutB Tryz.prog = true := by kernel_rfl
theorem ArrivalApart_lifted (os : Os) (started : os.Started) (H : Type) (enc : TypeId × Value → H) :
    ReturnsInHanded {} Tryz.checked os 7 .any (Rows.arrivalApartSpec.pre6 enc Tryz.prog Tryz.f7 Rows.arrivalApartRow.domain false) (Rows.arrivalApartSpec.post enc Tryz.prog Tryz.f7 false true false false) := by
  refine returnsInHanded_of_change (C := Tryz.checked) ArrivalApart_own started (by kernel_rfl) Tryz.func7
    (ChangeSpec.witness6 (enc := enc) (C := Tryz.checked) false ⟨#[], #[.slice none 0 0, .agg #[.int .i64 0, .int .i64 0, .int .i64 0]], []⟩ 8 (by kernel_rfl) (by kernel_rfl) (by kernel_rfl) (by kernel_rfl)) ?_
  intro W base args ds gs before hval hW hcnd _
  exact law_contract (T := spilelaw54_ArrivalApart.tc) (A := spilelaw54_ArrivalApart.A) (n := 8) (tb := 4) (ts := [.leaf (.row [.int .i64, .int .i64, .int .i64, .int .i64, .row [.int .i64], .row [.str]]), .agg [.int .i64, .int .i64, .int .i64]]) spilelaw54_ArrivalApart.tcok Tryz.mixed Tryz.func7 (by kernel_rfl) ArrivalApart_laid
    (by rw [(show Tryz.f7.params.toList = [22, 24] by kernel_rfl)]; exact List.forall_mem_cons.2 ⟨⟨by kernel_rfl, of_decide_eq_true (by kernel_rfl)⟩, List.forall_mem_cons.2 ⟨⟨by kernel_rfl, of_decide_eq_true (by kernel_rfl)⟩, List.forall_mem_nil _⟩⟩)
    (by kernel_rfl) (by kernel_rfl) (by kernel_rfl) rfl (fun ds h => by
      rw [(show Tryz.f7.params.toList = [22, 24] by kernel_rfl)] at h
      match ds, h with
      | [d0, d1], _ => rfl) spilelaw54_ArrivalApartP.eq (fun x hx => ArrivalApart_ok x.1 x.2 hx) (fun _ h => by cases h) rfl hval hW
theorem ArrivalApart_holds : Rows.ArrivalApartSaid :=
  OpenClaim.holds_of_wide 7 Tryz.f7 rfl rfl rfl rfl rfl rfl rfl ⟨rfl, rfl, rfl, rfl, rfl⟩ rfl rfl rfl rfl rfl (by kernel_rfl) Tryz.func7 (by kernel_rfl)
    (of_decide_eq_true (by kernel_rfl)) (by unfold Func.isWrapper; first | (rw [if_pos (by decide +kernel)]; kernel_rfl) | (rw [if_neg (by decide +kernel)]; exact ⟨rfl, rfl⟩))
    (fun os started H enc _ => ArrivalApart_lifted os started H enc)
end Go.Proofs.YtjkjcnadgpndoaaGreat
