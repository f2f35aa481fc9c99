/- The given row of the law MixContracts holds. Conditions: none. -/
import Derived.Test.YtaepkinihaipkaaRows
import Derived.Test.YtaepkinihaipkaaEvRow
import Derived.Test.YtaepkinihaipkaaMg1
namespace Go.Proofs.Ytaepkinihaipkaa
open Go Go.Proofs.Ytaepkinihaipkaa.Ev Go.ChangeShapes Go.WideShapes Go.ChangeAt Go.RowKit
set_option maxRecDepth 100000
set_option linter.unusedVariables false
theorem MixContracts_own : ownKnob Try.prog.godebug = none := by kernel_rfl
theorem MixContracts_laid : laidOutB Try.prog = true := by kernel_rfl
theorem MixContracts_lifted (os : Os) (started : os.Started) (H : Type) (enc : TypeId × Value → H) :
    ReturnsInHanded {} Try.checked os 4 .any (Rows.mixContractsSpec.pre6 enc Try.prog Try.f4 Rows.mixContractsRow.domain false) (Rows.mixContractsSpec.post enc Try.prog Try.f4 false true false false) := by
  refine returnsInHanded_of_change (C := Try.checked) MixContracts_own started (by kernel_rfl) Try.func4
    (ChangeSpec.witness6 (enc := enc) (C := Try.checked) false ⟨#[], #[.slice none 0 0, .slice none 0 0], []⟩ 8 (by kernel_rfl) (by kernel_rfl) (by kernel_rfl) (by kernel_rfl)) ?_
  intro W base args ds gs before hval hW hcnd _
  exact law_contract (T := spilelaw21_MixContracts.tb) (A := spilelaw21_MixContracts.A) (n := 8) (tb := 4) (ts := [.leaf (.row [.int .i64, .int .i64]), .leaf (.row [.int .i64, .int .i64])]) spilelaw21_MixContracts.tbok Try.mixed Try.func4 (by kernel_rfl) MixContracts_laid
    (by rw [(show Try.f4.params.toList = [36, 22] by kernel_rfl)]; exact List.forall_mem_cons.2 ⟨⟨by kernel_rfl, of_decide_eq_true (by kernel_rfl)⟩, List.forall_mem_cons.2 ⟨⟨by kernel_rfl, of_decide_eq_true (by kernel_rfl)⟩, List.forall_mem_nil _⟩⟩)
    (by kernel_rfl) (by kernel_rfl) (by kernel_rfl) rfl (fun ds h => by
      rw [(show Try.f4.params.toList = [36, 22] by kernel_rfl)] at h
      match ds, h with
      | [d0, d1], _ => rfl) spilelaw21_MixContractsP.eq (fun x hx => MixContracts_ok x.1 x.2) hval hW
theorem MixContracts_holds : Rows.MixContractsSaid :=
  OpenClaim.holds_of_wide 4 Try.f4 rfl rfl rfl rfl rfl rfl rfl ⟨rfl, rfl, rfl, rfl, rfl⟩ rfl rfl rfl rfl rfl (by kernel_rfl) Try.func4 (by kernel_rfl)
    (of_decide_eq_true (by kernel_rfl)) (by unfold Func.isWrapper; first | (rw [if_pos (by decide +kernel)]; kernel_rfl) | (rw [if_neg (by decide +kernel)]; exact ⟨rfl, rfl⟩))
    (fun os started H enc _ => MixContracts_lifted os started H enc)
end Go.Proofs.Ytaepkinihaipkaa
