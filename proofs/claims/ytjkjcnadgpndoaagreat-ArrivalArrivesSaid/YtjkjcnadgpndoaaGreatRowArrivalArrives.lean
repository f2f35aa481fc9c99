/- The given row of the law ArrivalArrives holds. Conditions: none. -/
import Derived.Test.YtjkjcnadgpndoaaGreatRows
import Derived.Test.YtjkjcnadgpndoaaGreatEvRow
import Derived.Test.YtjkjcnadgpndoaaGreatMgD4
namespace Go.Proofs.YtjkjcnadgpndoaaGreat
open Go Go.Proofs.YtjkjcnadgpndoaaGreat.Ev Go.ChangeShapes Go.WideShapes Go.ChangeAt Go.RowKit
set_option maxRecDepth 100000
set_option linter.unusedVariables false
theorem ArrivalArrives_own : ownKnob Tryz.prog.godebug = none := by kernel_rfl
theorem ArrivalArrives_laid : laidOutB Tryz.prog = true := by kernel_rfl
theorem ArrivalArrives_lifted (os : Os) (started : os.Started) (H : Type) (enc : TypeId × Value → H) :
    ReturnsInHanded {} Tryz.checked os 6 .any (Rows.arrivalArrivesSpec.pre6 enc Tryz.prog Tryz.f6 Rows.arrivalArrivesRow.domain false) (Rows.arrivalArrivesSpec.post enc Tryz.prog Tryz.f6 false true false false) := by
  refine returnsInHanded_of_change (C := Tryz.checked) ArrivalArrives_own started (by kernel_rfl) Tryz.func6
    (ChangeSpec.witness6 (enc := enc) (C := Tryz.checked) false ⟨#[], #[.slice none 0 0], []⟩ 8 (by kernel_rfl) (by kernel_rfl) (by kernel_rfl) (by kernel_rfl)) ?_
  intro W base args ds gs before hval hW hcnd _
  exact law_contract (T := spilelaw54_ArrivalArrives.tc) (A := spilelaw54_ArrivalArrives.A) (n := 8) (tb := 4) (ts := [.leaf (.row [.int .i64, .int .i64, .int .i64, .int .i64, .row [.int .i64], .row [.str]])]) spilelaw54_ArrivalArrives.tcok Tryz.mixed Tryz.func6 (by kernel_rfl) ArrivalArrives_laid
    (by rw [(show Tryz.f6.params.toList = [22] by kernel_rfl)]; exact List.forall_mem_cons.2 ⟨⟨by kernel_rfl, of_decide_eq_true (by kernel_rfl)⟩, List.forall_mem_nil _⟩)
    (by kernel_rfl) (by kernel_rfl) (by kernel_rfl) rfl (fun ds h => by
      rw [(show Tryz.f6.params.toList = [22] by kernel_rfl)] at h
      match ds, h with
      | [d0], _ => rfl) spilelaw54_ArrivalArrivesP.eq (fun x hx => ArrivalArrives_ok x hx) (fun _ h => by cases h) rfl hval hW
theorem ArrivalArrives_holds : Rows.ArrivalArrivesSaid :=
  OpenClaim.holds_of_wide 6 Tryz.f6 rfl rfl rfl rfl rfl rfl rfl ⟨rfl, rfl, rfl, rfl, rfl⟩ rfl rfl rfl rfl rfl (by kernel_rfl) Tryz.func6 (by kernel_rfl)
    (of_decide_eq_true (by kernel_rfl)) (by unfold Func.isWrapper; first | (rw [if_pos (by decide +kernel)]; kernel_rfl) | (rw [if_neg (by decide +kernel)]; exact ⟨rfl, rfl⟩))
    (fun os started H enc _ => ArrivalArrives_lifted os started H enc)
end Go.Proofs.YtjkjcnadgpndoaaGreat
