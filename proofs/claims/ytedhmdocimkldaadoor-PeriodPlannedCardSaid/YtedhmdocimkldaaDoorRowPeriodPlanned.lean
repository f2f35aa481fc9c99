/- The given row of the law PeriodPlanned holds. Conditions: none. -/
import Derived.Test.YtedhmdocimkldaaDoorRows
import Derived.Test.YtedhmdocimkldaaDoorEvRow
import Derived.Test.YtedhmdocimkldaaDoorCards
import Derived.Test.YtedhmdocimkldaaDoorTie
import Derived.Test.YtedhmdocimkldaaDoorMg0
import Derived.SevenTiedAt
namespace Go.Proofs.YtedhmdocimkldaaDoor
open Go Go.Proofs.YtedhmdocimkldaaDoor.Ev Go.ChangeShapes Go.WideShapes Go.ChangeAt Go.RowKit
set_option maxRecDepth 100000
set_option linter.unusedVariables false
theorem PeriodPlanned_own : ownKnob Tryd.prog.godebug = none := by kernel_rfl
theorem PeriodPlanned_laid : laidOutB Tryd.prog = true := by kernel_rfl
theorem PeriodPlanned_lifted (os : Os) (started : os.Started) (H : Type) (enc : TypeId × Value → H) :
    ReturnsInHanded {} Tryd.checked os 9 .any (fun w args => (Rows.periodPlannedSpec.pre enc Tryd.prog Tryd.f9 [] false w args ∧ laidMetH Tryd.prog laid4 w) ∧ sizedMet enc Tryd.prog Tryd.f9 (OpenSpec.ofChange Rows.periodPlannedSpec) false w args)
      (Rows.periodPlannedSpec.post enc Tryd.prog Tryd.f9 false true false false) := by
  refine returnsInHanded_of_change_and (C := Tryd.checked) (X := fun w _ => laidMetH Tryd.prog laid4 w) (fun _ _ _ hh h => h.of_heap hh) PeriodPlanned_own started (by kernel_rfl) Tryd.func9
    (ChangeSpec.witness_shaped (enc := enc) (C := Tryd.checked) (os := os) (X := fun w _ => laidMetH Tryd.prog laid4 w) false (World.doorLaid Tryd.prog 29 os) #[.int .i64 0, .int .i64 0, .int .i64 0, .int .i64 0] 8 rfl (World.shaped_of_RefB (by kernel_rfl) (by kernel_rfl)) (by kernel_rfl) (by kernel_rfl) (by kernel_rfl) (door_met os _)) ?_
  intro W base args ds gs before hval hW _ _ hL _
  exact law_contract (T := spilelaw50_PeriodPlanned.tb) (A := spilelaw50_PeriodPlanned.A) (n := 8) (tb := 4) (ts := [.leaf (.int .i64), .leaf (.int .i64), .leaf (.int .i64), .leaf (.int .i64)]) spilelaw50_PeriodPlanned.tbok Tryd.mixed Tryd.func9 (by kernel_rfl) PeriodPlanned_laid
    (by rw [(show Tryd.f9.params.toList = [3, 3, 3, 3] by kernel_rfl)]; exact List.forall_mem_cons.2 ⟨⟨by kernel_rfl, of_decide_eq_true (by kernel_rfl)⟩, List.forall_mem_cons.2 ⟨⟨by kernel_rfl, of_decide_eq_true (by kernel_rfl)⟩, List.forall_mem_cons.2 ⟨⟨by kernel_rfl, of_decide_eq_true (by kernel_rfl)⟩, List.forall_mem_cons.2 ⟨⟨by kernel_rfl, of_decide_eq_true (by kernel_rfl)⟩, List.forall_mem_nil _⟩⟩⟩⟩)
    (by kernel_rfl) (by kernel_rfl) (by kernel_rfl) rfl (fun ds h => by
      rw [(show Tryd.f9.params.toList = [3, 3, 3, 3] by kernel_rfl)] at h
      match ds, h with
      | [d0, d1, d2, d3], _ => rfl) spilelaw50_PeriodPlannedP.eq (fun x hx => PeriodPlanned_ok x.1 x.2.1 x.2.2.1 x.2.2.2) (gl_of_laid hL) rfl hval hW
theorem PeriodPlanned_holds : Rows.PeriodPlannedSaid :=
  OpenClaim.holds_of_wide 9 Tryd.f9 rfl rfl rfl rfl rfl rfl rfl ⟨rfl, rfl, rfl, rfl, rfl⟩ rfl rfl rfl rfl rfl (by kernel_rfl) Tryd.func9 (by kernel_rfl)
    (of_decide_eq_true (by kernel_rfl)) (by unfold Func.isWrapper; first | (rw [if_pos (by decide +kernel)]; kernel_rfl) | (rw [if_neg (by decide +kernel)]; exact ⟨rfl, rfl⟩))
    (fun os started H enc _ => PeriodPlanned_lifted os started H enc)
theorem PeriodPlanned_card_holds : Rows.PeriodPlannedCardSaid :=
  Claim7.holds_tied_plain_at .later [] [.data, .data, .data, .data] true (true, "fc1ffa9ad3f494cb4545aaf64b5bd9e6b5725f51628690382135752b7b20648d") true
    PeriodPlanned_holds (fun _ h => by cases h) (by kernel_rfl) (fun _ h => by cases h) periodPlanned_row_tie rfl ⟨rfl, rfl⟩ (by kernel_rfl) rfl
    (fun f fn hf hfn => by
      obtain rfl : f = 9 := Option.some.inj ((show Tryd.prog.funcNamed "spile/spilelaw50.PeriodPlanned" = some 9 by kernel_rfl).symm.trans hf) |>.symm
      obtain rfl : fn = Tryd.f9 := (Option.some.inj (Tryd.func9.symm.trans hfn)).symm
      exact ⟨by kernel_rfl, fun j t ht => by
        rw [show Tryd.f9.params = #[3, 3, 3, 3] by kernel_rfl] at ht
        have hm : t ∈ [3, 3, 3, 3] := by simpa using Array.mem_of_getElem? ht
        have hall : ([3, 3, 3, 3].all fun u => !Tryd.prog.wantsStandIn u) = true := by kernel_rfl
        exact (show Tryd.prog.wantsStandIn t = false by simpa using List.all_eq_true.1 hall t hm)⟩)
    (by kernel_rfl)
#print axioms PeriodPlanned_card_holds
end Go.Proofs.YtedhmdocimkldaaDoor
