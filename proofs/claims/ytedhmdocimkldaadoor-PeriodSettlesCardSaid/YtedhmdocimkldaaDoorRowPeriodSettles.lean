/- The given row of the law PeriodSettles holds. Conditions: none. -/
import Derived.Test.YtedhmdocimkldaaDoorRows
import Derived.Test.YtedhmdocimkldaaDoorEvRow
import Derived.Test.YtedhmdocimkldaaDoorCards
import Derived.Test.YtedhmdocimkldaaDoorTie
import Derived.Test.YtedhmdocimkldaaDoorMg0
import Derived.SevenTiedAt
namespace Go.Proofs.YtedhmdocimkldaaDoor
open Go Go.Proofs.YtedhmdocimkldaaDoor.Ev Go.ChangeShapes Go.WideShapes Go.ChangeAt Go.RowKit
set_option maxRecDepth 100000
set_option linter.unusedVariables false
theorem PeriodSettles_own : ownKnob Tryd.prog.godebug = none := by kernel_rfl
theorem PeriodSettles_laid : laidOutB Tryd.prog = true := by kernel_rfl
theorem PeriodSettles_lifted (os : Os) (started : os.Started) (H : Type) (enc : TypeId × Value → H) :
    ReturnsInHanded {} Tryd.checked os 8 .any (fun w args => (Rows.periodSettlesSpec.pre enc Tryd.prog Tryd.f8 [] false w args ∧ laidMetH Tryd.prog laid4 w) ∧ sizedMet enc Tryd.prog Tryd.f8 (OpenSpec.ofChange Rows.periodSettlesSpec) false w args)
      (Rows.periodSettlesSpec.post enc Tryd.prog Tryd.f8 false true false false) := by
  refine returnsInHanded_of_change_and (C := Tryd.checked) (X := fun w _ => laidMetH Tryd.prog laid4 w) (fun _ _ _ hh h => h.of_heap hh) PeriodSettles_own started (by kernel_rfl) Tryd.func8
    (ChangeSpec.witness_shaped (enc := enc) (C := Tryd.checked) (os := os) (X := fun w _ => laidMetH Tryd.prog laid4 w) false (World.doorLaid Tryd.prog 29 os) #[.agg #[.int .i64 0, .int .i64 0, .slice none 0 0, .int .i64 0], .agg #[.int .i64 0, .int .i64 0, .slice none 0 0, .int .i64 0]] 8 rfl (World.shaped_of_RefB (by kernel_rfl) (by kernel_rfl)) (by kernel_rfl) (by kernel_rfl) (by kernel_rfl) (door_met os _)) ?_
  intro W base args ds gs before hval hW _ _ hL _
  exact law_contract (T := spilelaw50_PeriodSettles.tc) (A := spilelaw50_PeriodSettles.A) (n := 8) (tb := 4) (ts := [.agg [.int .i64, .int .i64, .row [.int .i64, .int .i64, .int .i64, .int .i64, .int .i64, .int .i64, .int .i64, .int .i64], .int .i64], .agg [.int .i64, .int .i64, .row [.int .i64, .int .i64, .int .i64, .int .i64, .int .i64, .int .i64, .int .i64, .int .i64], .int .i64]]) spilelaw50_PeriodSettles.tcok Tryd.mixed Tryd.func8 (by kernel_rfl) PeriodSettles_laid
    (by rw [(show Tryd.f8.params.toList = [40, 40] by kernel_rfl)]; exact List.forall_mem_cons.2 ⟨⟨by kernel_rfl, of_decide_eq_true (by kernel_rfl)⟩, List.forall_mem_cons.2 ⟨⟨by kernel_rfl, of_decide_eq_true (by kernel_rfl)⟩, List.forall_mem_nil _⟩⟩)
    (by kernel_rfl) (by kernel_rfl) (by kernel_rfl) rfl (fun ds h => by
      rw [(show Tryd.f8.params.toList = [40, 40] by kernel_rfl)] at h
      match ds, h with
      | [d0, d1], _ => rfl) spilelaw50_PeriodSettlesP.eq (fun x hx => PeriodSettles_ok x.1 x.2 hx) (gl_of_laid hL) rfl hval hW
theorem PeriodSettles_holds : Rows.PeriodSettlesSaid :=
  OpenClaim.holds_of_wide 8 Tryd.f8 rfl rfl rfl rfl rfl rfl rfl ⟨rfl, rfl, rfl, rfl, rfl⟩ rfl rfl rfl rfl rfl (by kernel_rfl) Tryd.func8 (by kernel_rfl)
    (of_decide_eq_true (by kernel_rfl)) (by unfold Func.isWrapper; first | (rw [if_pos (by decide +kernel)]; kernel_rfl) | (rw [if_neg (by decide +kernel)]; exact ⟨rfl, rfl⟩))
    (fun os started H enc _ => PeriodSettles_lifted os started H enc)
theorem PeriodSettles_card_holds : Rows.PeriodSettlesCardSaid :=
  Claim7.holds_tied_plain_at .later [] [.data, .data, .data, .data] true (true, "fc1ffa9ad3f494cb4545aaf64b5bd9e6b5725f51628690382135752b7b20648d") true
    PeriodSettles_holds (fun _ h => by cases h) (by kernel_rfl) (fun _ h => by cases h) periodSettles_row_tie rfl ⟨rfl, rfl⟩ (by kernel_rfl) rfl
    (fun f fn hf hfn => by
      obtain rfl : f = 8 := Option.some.inj ((show Tryd.prog.funcNamed "spile/spilelaw50.PeriodSettles" = some 8 by kernel_rfl).symm.trans hf) |>.symm
      obtain rfl : fn = Tryd.f8 := (Option.some.inj (Tryd.func8.symm.trans hfn)).symm
      exact ⟨by kernel_rfl, fun j t ht => by
        rw [show Tryd.f8.params = #[40, 40] by kernel_rfl] at ht
        have hm : t ∈ [40, 40] := by simpa using Array.mem_of_getElem? ht
        have hall : ([40, 40].all fun u => !Tryd.prog.wantsStandIn u) = true := by kernel_rfl
        exact (show Tryd.prog.wantsStandIn t = false by simpa using List.all_eq_true.1 hall t hm)⟩)
    (by kernel_rfl)
#print axioms PeriodSettles_card_holds
end Go.Proofs.YtedhmdocimkldaaDoor
