/- The functions of the program as Lean functions, each with the equation by which the evaluator is that function. Written by a program of this session (evdrive.py). Conditions: none. -/
import Derived.Test.YtadlfinlbaogeaaProg
import Derived.Test.YtadlfinlbaogeaaEvSpec
import Derived.Test.YtadlfinlbaogeaaFn8
namespace Go.Proofs.Ytadlfinlbaogeaa
open Go Go.Proofs.Ytadlfinlbaogeaa.Ev
set_option maxRecDepth 100000
set_option linter.unusedVariables false
/-! ### spile/spilelaw32.LossParts: function 14 -/
noncomputable def spilelaw32_LossParts.tb : Table := tab [(22, spileref01_FewP.e), (24, slices_Clone_int_intP.e), (30, spilelaw32_awakeP.e), (45, loss_SumP.e), (48, loss_AmongP.e)] [] Table.nil
theorem spilelaw32_LossParts.tbok : TabOK Try.prog (spilelaw32_LossParts.tb) := TabOK.tab (TabOK.nil Try.prog) (all_cons spileref01_FewP.ok (all_cons slices_Clone_int_intP.ok (all_cons spilelaw32_awakeP.ok (all_cons loss_SumP.ok (all_cons loss_AmongP.ok (all_nil _)))))) (all_nil _)
noncomputable def spilelaw32_LossParts (a0 : (Int × Int × Int × Int)) (a1 : SV) (h : H) : Option ((Bool) × H) :=
(match a0 with
| (a0_0, a0_1, a0_2, a0_3) =>
(let h1 : H := H.new h [.int .i64 a0_0, .int .i64 a0_1, .int .i64 a0_2, .int .i64 a0_3] 4
((spilelaw32_awakeP ).bind fun r2 =>
(bif (!r2) then (some (false, h1)) else ((rdRow true h1 [.int .i64] a1).bind fun s4 =>
((spileref01_FewP s4).bind fun r3 =>
(bif (!r3) then (some (true, h1)) else (let h5 : H := H.reserve h1 0
((rdT (.agg [.int .i64, .int .i64, .int .i64, .int .i64]) h5 (.hp h.next 4 0)).bind fun (x6_0, x6_1, x6_2, x6_3) =>
((rdRow true h5 [.int .i64] a1).bind fun s8 =>
((cloneP 8 s8).bind fun r7 =>
((rdRow true h5 [.int .i64] (rowSV true [.int .i64] r7)).bind fun s11 =>
((loss_AmongP (x6_0, x6_1, x6_2, x6_3) s11).bind fun (r9, r10) =>
(bif (!(decide (r10 = 0))) then (some ((decide (((r9.length : Nat) : Int) = 0)), h5)) else ((rdRow true h5 [.int .i64, .int .i64, .int .i64, .int .i64] (rowSV true [.int .i64, .int .i64, .int .i64, .int .i64] r9)).bind fun s14 =>
((loss_SumP s14).bind fun ((r12_0, r12_1, r12_2, r12_3), r13) =>
(let h15 : H := H.new h5 [.int .i64 0, .int .i64 0, .int .i64 0, .int .i64 0] 4
((H.wrs h15 (.hp h5.next 4 0) [.int .i64 r12_0, .int .i64 r12_1, .int .i64 r12_2, .int .i64 r12_3]).bind fun h16 =>
(((bif (decide (r13 = 0)) then ((rdT (.agg [.int .i64, .int .i64, .int .i64, .int .i64]) h16 (.hp h5.next 4 0)).bind fun (x17_0, x17_1, x17_2, x17_3) =>
((rdT (.agg [.int .i64, .int .i64, .int .i64, .int .i64]) h16 (.hp h.next 4 0)).bind fun (x18_0, x18_1, x18_2, x18_3) =>
(bif (decide (x17_0 = x18_0) && (decide (x17_1 = x18_1) && (decide (x17_2 = x18_2) && (decide (x17_3 = x18_3))))) then (some ((decide (((r9.length : Nat) : Int) = ((a1.len : Nat) : Int))), h16)) else (some (false, h16))))) else (some (false, h16)))).bind fun (y19, h20) =>
(some (y19, h20)))))))))))))))))))))
def spilelaw32_LossParts.A : Ann := { lits := [], conds := [], loops := [], regs := [(9, [4], [.leaf .bool])] }
theorem spilelaw32_LossParts.eq : ∀ (x : TT [.agg [.int .i64, .int .i64, .int .i64, .int .i64], .leaf .slice]) (h : H), evalFn Try.prog (spilelaw32_LossParts.tb) spilelaw32_LossParts.A Try.f14 (.one (.leaf .bool)) (TT.un [.agg [.int .i64, .int .i64, .int .i64, .int .i64], .leaf .slice] x) h = spilelaw32_LossParts x.1 x.2 h := by
  intro x h
  kernel_rfl
noncomputable def spilelaw32_LossParts.e : Entry := mkX [.agg [.int .i64, .int .i64, .int .i64, .int .i64], .leaf .slice] (.one (.leaf .bool)) fun x h => spilelaw32_LossParts x.1 x.2 h
theorem spilelaw32_LossParts.ok : EntryOK Try.prog 14 (spilelaw32_LossParts.e) := mkX_ok (spilelaw32_LossParts.tbok) Try.mixed Try.func14 (by kernel_rfl) (spilelaw32_LossParts.eq)
noncomputable def spilelaw32_LossPartsP (a0 : (Int × Int × Int × Int)) (a1 : (List (Int))) : Option (Bool) := (spilelaw32_LossParts a0 (rowSV false [.int .i64] a1) H.empty).bind fun p => rdRes false p.2 (.one (.leaf .bool)) (Res.un (.one (.leaf .bool)) p.1)
theorem spilelaw32_LossPartsP.eq : ∀ x : TT [.agg [.int .i64, .int .i64, .int .i64, .int .i64], .leaf (.row [.int .i64])], ((evalFn Try.prog (spilelaw32_LossParts.tb) spilelaw32_LossParts.A Try.f14 (.one (.leaf .bool)) (TT.lo false [.agg [.int .i64, .int .i64, .int .i64, .int .i64], .leaf (.row [.int .i64])] x) H.empty).bind fun p => rdRes false p.2 (.one (.leaf .bool)) (Res.un (.one (.leaf .bool)) p.1)) = spilelaw32_LossPartsP x.1 x.2 := by
  intro x
  rw [show TT.lo false [.agg [.int .i64, .int .i64, .int .i64, .int .i64], .leaf (.row [.int .i64])] x = TT.un [.agg [.int .i64, .int .i64, .int .i64, .int .i64], .leaf .slice] (x.1, (rowSV false [.int .i64] x.2)) from rfl, spilelaw32_LossParts.eq]
  rfl
noncomputable def spilelaw32_LossPartsP.e : Entry := mkP [.agg [.int .i64, .int .i64, .int .i64, .int .i64], .leaf (.row [.int .i64])] (.one (.leaf .bool)) fun x => spilelaw32_LossPartsP x.1 x.2
theorem spilelaw32_LossPartsP.ok : EntryOK Try.prog 14 (spilelaw32_LossPartsP.e) := mkP_ok (spilelaw32_LossParts.tbok) Try.mixed Try.func14 (by kernel_rfl) spilelaw32_LossPartsP.eq
end Go.Proofs.Ytadlfinlbaogeaa
