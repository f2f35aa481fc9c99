/- The given row of the law TopTraced holds. Conditions: none. -/
import Derived.Test.YtlphgijokknjhaaGreatRows
import Derived.Test.YtlphgijokknjhaaGreatTRM5
namespace Go.Proofs.YtlphgijokknjhaaGreat
open Go Go.Proofs.YtlphgijokknjhaaGreat.Ev Go.ChangeShapes Go.WideShapes Go.ChangeAt Go.RowKit
set_option maxRecDepth 100000
set_option linter.unusedVariables false
theorem TopTraced_own : ownKnob Tryz.prog.godebug = none := by kernel_rfl
theorem TopTraced_laid : laidOutB Tryz.prog = true := by kernel_rfl
theorem TopTraced_lifted (os : Os) (started : os.Started) (H : Type) (enc : TypeId × Value → H) :
    ReturnsInHanded {} Tryz.checked os 3 .any (Rows.topTracedSpec.pre6 enc Tryz.prog Tryz.f3 Rows.topTracedRow.domain false) (Rows.topTracedSpec.post enc Tryz.prog Tryz.f3 false true false false) := by
  refine returnsInHanded_of_change (C := Tryz.checked) TopTraced_own started (by kernel_rfl) Tryz.func3
    (ChangeSpec.witness6 (enc := enc) (C := Tryz.checked) false ⟨#[], #[.slice none 0 0, .int .i64 0], []⟩ 8 (by kernel_rfl) (by kernel_rfl) (by kernel_rfl) (by kernel_rfl)) ?_
  intro W base args ds gs before hval hW hcnd _
  exact ajV (T := ec.fc.t) (A := ec.A) (n := 8) (tb := 4) (ts := [.leaf (.row [.int .i64, .int .i64, .int .i64, .int .i64, .int .i64, .int .i64, .int .i64, .int .i64, .int .i64, .str, .row [.str]]), .leaf (.int .i64)]) ec.fc.ok Tryz.mixed Tryz.func3 (by kernel_rfl) TopTraced_laid
    (by rw [(show Tryz.f3.params.toList = [22, 3] by kernel_rfl)]; exact List.forall_mem_cons.2 ⟨⟨by kernel_rfl, of_decide_eq_true (by kernel_rfl)⟩, List.forall_mem_cons.2 ⟨⟨by kernel_rfl, of_decide_eq_true (by kernel_rfl)⟩, List.forall_mem_nil _⟩⟩)
    (by kernel_rfl) (by kernel_rfl) (by kernel_rfl) rfl (fun ds h => by
      rw [(show Tryz.f3.params.toList = [22, 3] by kernel_rfl)] at h
      match ds, h with
      | [d0, d1], _ => rfl) EW.eq (fun x hx => ajW x.1 x.2) (fun _ h => by cases h) rfl hval hW
theorem TopTraced_holds : Rows.TopTracedSaid :=
  OpenClaim.holds_of_wide 3 Tryz.f3 rfl rfl rfl rfl rfl rfl rfl ⟨rfl, rfl, rfl, rfl, rfl⟩ rfl rfl rfl rfl rfl (by kernel_rfl) Tryz.func3 (by kernel_rfl)
    (of_decide_eq_true (by kernel_rfl)) (by unfold Func.isWrapper; first | (rw [if_pos (by decide +kernel)]; kernel_rfl) | (rw [if_neg (by decide +kernel)]; exact ⟨rfl, rfl⟩))
    (fun os started H enc _ => TopTraced_lifted os started H enc)
end Go.Proofs.YtlphgijokknjhaaGreat
