/- The given row of the law ArrivalLast holds. Conditions: none. -/
import Derived.Test.YtjkjcnadgpndoaaGreatRows
import Derived.Test.YtjkjcnadgpndoaaGreatEvRow
import Derived.Test.YtjkjcnadgpndoaaGreatMgG4
namespace Go.Proofs.YtjkjcnadgpndoaaGreat
open Go Go.Proofs.YtjkjcnadgpndoaaGreat.Ev Go.ChangeShapes Go.WideShapes Go.ChangeAt Go.RowKit
set_option maxRecDepth 100000
set_option linter.unusedVariables false
theorem ArrivalLast_own : ownKnob Tryz.prog.godebug = none := by kernel_rfl
theorem ArrivalLast_laid : laidOutB Tryz.prog = true := by kernel_rfl
theorem ArrivalLast_lifted (os : Os) (started : os.Started) (H : Type) (enc : TypeId × Value → H) :
    ReturnsInHanded {} Tryz.checked os 9 .any (Rows.arrivalLastSpec.pre6 enc Tryz.prog Tryz.f9 Rows.arrivalLastRow.domain false) (Rows.arrivalLastSpec.post enc Tryz.prog Tryz.f9 false true false false) := by
  refine returnsInHanded_of_change (C := Tryz.checked) ArrivalLast_own started (by kernel_rfl) Tryz.func9
    (ChangeSpec.witness6 (enc := enc) (C := Tryz.checked) false ⟨#[], #[.slice none 0 0, .int .u8 0, .agg #[.int .i64 0, .int .i64 0, .int .i64 0, .int .i64 0, .slice none 0 0, .slice none 0 0]], []⟩ 8 (by kernel_rfl) (by kernel_rfl) (by kernel_rfl) (by kernel_rfl)) ?_
  intro W base args ds gs before hval hW hcnd _
  exact law_contract (T := law_ArrivalLast.tc) (A := law_ArrivalLast.A) (n := 8) (tb := 4) (ts := [.leaf (.row [.int .i64, .int .i64, .int .i64, .int .i64, .row [.int .i64], .row [.str]]), .leaf (.int .u8), .agg [.int .i64, .int .i64, .int .i64, .int .i64, .row [.int .i64], .row [.str]]]) law_ArrivalLast.tcok Tryz.mixed Tryz.func9 (by kernel_rfl) ArrivalLast_laid
    (by rw [(show Tryz.f9.params.toList = [22, 5, 42] by kernel_rfl)]; exact List.forall_mem_cons.2 ⟨⟨by kernel_rfl, of_decide_eq_true (by kernel_rfl)⟩, List.forall_mem_cons.2 ⟨⟨by kernel_rfl, of_decide_eq_true (by kernel_rfl)⟩, List.forall_mem_cons.2 ⟨⟨by kernel_rfl, of_decide_eq_true (by kernel_rfl)⟩, List.forall_mem_nil _⟩⟩⟩)
    (by kernel_rfl) (by kernel_rfl) (by kernel_rfl) rfl (fun ds h => by
      rw [(show Tryz.f9.params.toList = [22, 5, 42] by kernel_rfl)] at h
      match ds, h with
      | [d0, d1, d2], _ => rfl) law_ArrivalLastP.eq (fun x hx => ArrivalLast_ok x.1 x.2.1 x.2.2 hx) (fun _ h => by cases h) rfl hval hW
theorem ArrivalLast_holds : Rows.ArrivalLastSaid :=
  OpenClaim.holds_of_wide 9 Tryz.f9 rfl rfl rfl rfl rfl rfl rfl ⟨rfl, rfl, rfl, rfl, rfl⟩ rfl rfl rfl rfl rfl (by kernel_rfl) Tryz.func9 (by kernel_rfl)
    (of_decide_eq_true (by kernel_rfl)) (by unfold Func.isWrapper; first | (rw [if_pos (by decide +kernel)]; kernel_rfl) | (rw [if_neg (by decide +kernel)]; exact ⟨rfl, rfl⟩))
    (fun os started H enc _ => ArrivalLast_lifted os started H enc)
end Go.Proofs.YtjkjcnadgpndoaaGreat
