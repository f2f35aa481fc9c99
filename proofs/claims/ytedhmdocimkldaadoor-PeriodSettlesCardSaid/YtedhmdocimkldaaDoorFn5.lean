/- The functions of the program as Lean functions, each with the equation by which the evaluator is that function. Written by a program of this session (evdrive.py). Conditions: none. -/
import Derived.Test.YtedhmdocimkldaaDoorProg
import Derived.Test.YtedhmdocimkldaaDoorEvSpec
import Derived.Test.YtedhmdocimkldaaDoorExt
namespace Go.Proofs.YtedhmdocimkldaaDoor
open Go Go.Proofs.YtedhmdocimkldaaDoor.Ev
set_option maxRecDepth 100000
set_option linter.unusedVariables false
/-! ### spile/period.Settle: function 28 -/
noncomputable def period_Settle.tb : Table := tab [(42, period_withinP.e), (46, period_dutiesP.e)] [] Table.nil
theorem period_Settle.tbok : TabOK Tryd.prog (period_Settle.tb) := TabOK.tab (TabOK.nil Tryd.prog) (all_cons period_withinP.ok (all_cons period_dutiesP.ok (all_nil _))) (all_nil _)
noncomputable def period_Settle.loop1 (a1 : SV) : (Int × Int) × H → Option (Stp ((Int × Int) × H) (Flow (Int) (Int × Int) × H)) := fun ((y7, y8), h9) =>
(bif (decide (y8 < ((a1.len : Nat) : Int))) then (guardO (0 ≤ y8 ∧ y8 < ((a1.len : Nat) : Int)) ((rdT (.agg [.int .i64, .int .i64]) h9 (V.add a1.a (Int.toNat y8 * 2))).bind fun (x10_0, x10_1) =>
(let h11 : H := H.new h9 [.int .i64 0, .int .i64 0] 2
((H.wrs h11 (.hp h9.next 2 0) [.int .i64 x10_0, .int .i64 x10_1]).bind fun h12 =>
((((rdT (.leaf (.int .i64)) h12 (.hp h9.next 2 0)).bind fun x13 =>
((period_withinP x13 1 1125899906842624).bind fun r14 =>
(bif !(!r14) then ((rdT (.leaf (.int .i64)) h12 (.hp h9.next 2 1)).bind fun x15 =>
((period_withinP x15 (-1125899906842624) 1125899906842624).bind fun r16 =>
(some ((!r16), h12)))) else (some (true, h12)))))).bind fun (y17, h18) =>
(bif y17 then (some (.done (.ret (0, 2), h18))) else ((rdT (.leaf (.int .i64)) h18 (.hp h9.next 2 1)).bind fun x19 =>
(some (.more (((IntKind.wrap .i64 (y7 + x19)), (IntKind.wrap .i64 (y8 + 1))), h18)))))))))) else (some (.done (.ex0 y7, h9))))
noncomputable def period_Settle.loop2 (a1 : SV) : (Int) × H → Option (Stp ((Int) × H) (Flow (Unit) (Int × Int) × H)) := fun (y24, h25) =>
(bif (decide (y24 < ((a1.len : Nat) : Int))) then (let h26 : H := H.reserve h25 0
(guardO (0 ≤ y24 ∧ y24 < ((a1.len : Nat) : Int)) (guardO (V.nn ((V.add a1.a (Int.toNat y24 * 2)) : V) = true) ((rdT (.leaf (.int .i64)) h26 (V.add (V.add a1.a (Int.toNat y24 * 2)) 0)).bind fun x27 =>
(guardO (0 ≤ (IntKind.wrap .i64 (y24 - 1)) ∧ (IntKind.wrap .i64 (y24 - 1)) < ((a1.len : Nat) : Int)) (guardO (V.nn ((V.add a1.a (Int.toNat (IntKind.wrap .i64 (y24 - 1)) * 2)) : V) = true) ((rdT (.leaf (.int .i64)) h26 (V.add (V.add a1.a (Int.toNat (IntKind.wrap .i64 (y24 - 1)) * 2)) 0)).bind fun x28 =>
(bif (decide (x27 ≤ x28)) then (some (.done (.ret (0, 5), h26))) else (some (.more ((IntKind.wrap .i64 (y24 + 1)), h26))))))))))) else (some (.done (.ex0 (), h25))))
noncomputable def period_Settle (a0 : (Int × Int × SV × Int)) (a1 : SV) (h : H) : Option ((Int × Int) × H) :=
(match a0 with
| (a0_0, a0_1, a0_2, a0_3) =>
(let h1 : H := H.new h [.int .i64 a0_0, .int .i64 a0_1, .slice a0_2.a a0_2.len a0_2.cap a0_2.tail, .int .i64 a0_3] 4
((rdT (.agg [.int .i64, .int .i64, .slice, .int .i64]) h1 (.hp h.next 4 0)).bind fun (x2_0, x2_1, x2_2, x2_3) =>
((rdRow true h1 [.int .i64, .int .i64, .int .i64, .int .i64, .int .i64, .int .i64, .int .i64, .int .i64] x2_2).bind fun s5 =>
((period_dutiesP (x2_0, x2_1, s5, x2_3)).bind fun (r3, r4) =>
(bif (!r4) then (some ((0, 1), h1)) else (bif (decide ((128 : Int) < ((a1.len : Nat) : Int))) then (some ((0, 8), h1)) else ((rdT (.leaf (.int .i64)) h1 (.hp h.next 4 3)).bind fun x6 =>
((iter FUEL (period_Settle.loop1 a1) ((x6, 0), h1)).bind fun (fl21, h20) => match fl21 with
| .next _ => none
| .ret rr22 => (some (rr22, h20))
| .ex0 y23 =>
((iter FUEL (period_Settle.loop2 a1) (1, h20)).bind fun (fl30, h29) => match fl30 with
| .next _ => none
| .ret rr31 => (some (rr31, h29))
| .ex0 _ =>
((period_withinP y23 0 1125899906842624).bind fun r32 =>
(bif (!r32) then (some ((0, 15), h29)) else (some ((y23, 0), h29))))
| .ex1 _ => none)
| .ex1 _ => none)))))))))
def period_Settle.A : Ann := { lits := [], conds := [], loops := [(8, [8, 28], [.leaf (.int .i64), .leaf (.int .i64)], [8], [.leaf (.int .i64)], some 1, none), (15, [11], [.leaf (.int .i64)], [], [], some 3, none)], regs := [(10, [41], [.leaf .bool])], toks := [14] }
theorem period_Settle.eq : ∀ (x : TT [.agg [.int .i64, .int .i64, .slice, .int .i64], .leaf .slice]) (h : H), evalFn Tryd.prog (period_Settle.tb) period_Settle.A Tryd.f28 (.many [.leaf (.int .i64), .leaf (.int .i64)]) (TT.un [.agg [.int .i64, .int .i64, .slice, .int .i64], .leaf .slice] x) h = period_Settle x.1 x.2 h := by
  intro x h
  kernel_rfl
noncomputable def period_Settle.e : Entry := mkX [.agg [.int .i64, .int .i64, .slice, .int .i64], .leaf .slice] (.many [.leaf (.int .i64), .leaf (.int .i64)]) fun x h => period_Settle x.1 x.2 h
theorem period_Settle.ok : EntryOK Tryd.prog 28 (period_Settle.e) := mkX_ok (period_Settle.tbok) Tryd.mixed Tryd.func28 (by kernel_rfl) (period_Settle.eq)
noncomputable def period_SettleP (a0 : (Int × Int × (List (Int × Int × Int × Int × Int × Int × Int × Int)) × Int)) (a1 : (List (Int × Int))) : Option (Int × Int) := (period_Settle (a0.1, a0.2.1, rowSV false [.int .i64, .int .i64, .int .i64, .int .i64, .int .i64, .int .i64, .int .i64, .int .i64] a0.2.2.1, a0.2.2.2) (rowSV false [.int .i64, .int .i64] a1) H.empty).bind fun p => rdRes false p.2 (.many [.leaf (.int .i64), .leaf (.int .i64)]) (Res.un (.many [.leaf (.int .i64), .leaf (.int .i64)]) p.1)
theorem period_SettleP.eq : ∀ x : TT [.agg [.int .i64, .int .i64, .row [.int .i64, .int .i64, .int .i64, .int .i64, .int .i64, .int .i64, .int .i64, .int .i64], .int .i64], .leaf (.row [.int .i64, .int .i64])], ((evalFn Tryd.prog (period_Settle.tb) period_Settle.A Tryd.f28 (.many [.leaf (.int .i64), .leaf (.int .i64)]) (TT.lo false [.agg [.int .i64, .int .i64, .row [.int .i64, .int .i64, .int .i64, .int .i64, .int .i64, .int .i64, .int .i64, .int .i64], .int .i64], .leaf (.row [.int .i64, .int .i64])] x) H.empty).bind fun p => rdRes false p.2 (.many [.leaf (.int .i64), .leaf (.int .i64)]) (Res.un (.many [.leaf (.int .i64), .leaf (.int .i64)]) p.1)) = period_SettleP x.1 x.2 := by
  intro x
  rw [show TT.lo false [.agg [.int .i64, .int .i64, .row [.int .i64, .int .i64, .int .i64, .int .i64, .int .i64, .int .i64, .int .i64, .int .i64], .int .i64], .leaf (.row [.int .i64, .int .i64])] x = TT.un [.agg [.int .i64, .int .i64, .slice, .int .i64], .leaf .slice] ((x.1.1, x.1.2.1, rowSV false [.int .i64, .int .i64, .int .i64, .int .i64, .int .i64, .int .i64, .int .i64, .int .i64] x.1.2.2.1, x.1.2.2.2), (rowSV false [.int .i64, .int .i64] x.2)) from rfl, period_Settle.eq]
  rfl
noncomputable def period_SettleP.e : Entry := mkP [.agg [.int .i64, .int .i64, .row [.int .i64, .int .i64, .int .i64, .int .i64, .int .i64, .int .i64, .int .i64, .int .i64], .int .i64], .leaf (.row [.int .i64, .int .i64])] (.many [.leaf (.int .i64), .leaf (.int .i64)]) fun x => period_SettleP x.1 x.2
theorem period_SettleP.ok : EntryOK Tryd.prog 28 (period_SettleP.e) := mkP_ok (period_Settle.tbok) Tryd.mixed Tryd.func28 (by kernel_rfl) period_SettleP.eq

/-! ### spile/spilelaw50.awake: function 10 -/
noncomputable def spilelaw50_awake.tb : Table := tab [(12, period_CheckP.e), (13, slices_Clone_api_Period_api_PeriodP.e), (15, period_OfP.e), (17, period_ChargedP.e), (19, period_PlanP.e), (21, period_CloseP.e), (23, slices_Equal_api_Period_api_PeriodP.e), (25, period_AdjustP.e), (26, spilelaw50_cpP.e), (28, period_SettleP.e), (29, slices_Clone_api_Adjustment_api_AdjustmentP.e), (31, slices_Equal_api_Adjustment_api_AdjustmentP.e), (39, spilelaw50_twoP.e)] [] Table.nil
theorem spilelaw50_awake.tbok : TabOK Tryd.prog (spilelaw50_awake.tb) := TabOK.tab (TabOK.nil Tryd.prog) (all_cons period_CheckP.ok (all_cons slices_Clone_api_Period_api_PeriodP.ok (all_cons period_OfP.ok (all_cons period_ChargedP.ok (all_cons period_PlanP.ok (all_cons period_CloseP.ok (all_cons slices_Equal_api_Period_api_PeriodP.ok (all_cons period_AdjustP.ok (all_cons spilelaw50_cpP.ok (all_cons period_SettleP.ok (all_cons slices_Clone_api_Adjustment_api_AdjustmentP.ok (all_cons slices_Equal_api_Adjustment_api_AdjustmentP.ok (all_cons spilelaw50_twoP.ok (all_nil _)))))))))))))) (all_nil _)
noncomputable def spilelaw50_awake (h : H) : Option ((Bool) × H) :=
((period_PlanP 10 30 3 15).bind fun (r1, r2) =>
(((bif !(!(decide (r2 = 0))) then ((rdRow true h [.int .i64, .int .i64, .int .i64, .bool] (rowSV true [.int .i64, .int .i64, .int .i64, .bool] r1)).bind fun s4 =>
((rdRow true h [.int .i64, .int .i64, .int .i64, .bool] ⟨.lp true ([.int .i64 10, .int .i64 39, .int .i64 54, .bool false, .int .i64 40, .int .i64 69, .int .i64 84, .bool false, .int .i64 70, .int .i64 99, .int .i64 114, .bool false]) 0, 3, 3, false⟩).bind fun s5 =>
((slices_Equal_api_Period_api_PeriodP s4 s5).bind fun r3 =>
(some ((!r3), h))))) else (some (true, h)))).bind fun (y6, h7) =>
(bif y6 then (some (false, h7)) else ((rdRow true h7 [.int .i64, .int .i64, .int .i64, .bool] (rowSV true [.int .i64, .int .i64, .int .i64, .bool] r1)).bind fun s9 =>
((cloneP 32 s9).bind fun r8 =>
((rdRow true h7 [.int .i64, .int .i64, .int .i64, .bool] (rowSV true [.int .i64, .int .i64, .int .i64, .bool] r8)).bind fun s12 =>
((period_CloseP s12).bind fun (r10, r11) =>
((rdRow true h7 [.int .i64, .int .i64, .int .i64, .bool] (rowSV true [.int .i64, .int .i64, .int .i64, .bool] r10)).bind fun s14 =>
((cloneP 32 s14).bind fun r13 =>
((rdRow true h7 [.int .i64, .int .i64, .int .i64, .bool] (rowSV true [.int .i64, .int .i64, .int .i64, .bool] r13)).bind fun s17 =>
((period_ChargedP s17 20).bind fun (r15, r16) =>
((rdRow true h7 [.int .i64, .int .i64, .int .i64, .bool] (rowSV true [.int .i64, .int .i64, .int .i64, .bool] r10)).bind fun s19 =>
((cloneP 32 s19).bind fun r18 =>
((rdRow true h7 [.int .i64, .int .i64, .int .i64, .bool] (rowSV true [.int .i64, .int .i64, .int .i64, .bool] r18)).bind fun s22 =>
((period_OfP s22 20).bind fun (r20, r21) =>
((rdRow true h7 [.int .i64, .int .i64, .int .i64, .bool] (rowSV true [.int .i64, .int .i64, .int .i64, .bool] r10)).bind fun s24 =>
((cloneP 32 s24).bind fun r23 =>
((rdRow true h7 [.int .i64, .int .i64, .int .i64, .bool] (rowSV true [.int .i64, .int .i64, .int .i64, .bool] r23)).bind fun s27 =>
((period_CheckP s27).bind fun (r25, r26) =>
((spilelaw50_twoP ).bind fun ((r28_0, r28_1, r28_2, r28_3), (r29_0, r29_1, r29_2, r29_3)) =>
(let h30 : H := H.new h7 [.int .i64 0, .int .i64 0, .slice .nil 0 0 false, .int .i64 0] 4
(let h31 : H := H.new h30 [.int .i64 0, .int .i64 0, .slice .nil 0 0 false, .int .i64 0] 4
((H.wrs h31 (.hp h7.next 4 0) [.int .i64 r28_0, .int .i64 r28_1, .slice ((rowSV true [.int .i64, .int .i64, .int .i64, .int .i64, .int .i64, .int .i64, .int .i64, .int .i64] r28_2).a) r28_2.length r28_2.length true, .int .i64 r28_3]).bind fun h32 =>
((H.wrs h32 (.hp h30.next 4 0) [.int .i64 r29_0, .int .i64 r29_1, .slice ((rowSV true [.int .i64, .int .i64, .int .i64, .int .i64, .int .i64, .int .i64, .int .i64, .int .i64] r29_2).a) r29_2.length r29_2.length true, .int .i64 r29_3]).bind fun h33 =>
(let h34 : H := H.reserve h33 0
((rdT (.agg [.int .i64, .int .i64, .slice, .int .i64]) h34 (.hp h7.next 4 0)).bind fun (x35_0, x35_1, x35_2, x35_3) =>
((rdRow true h34 [.int .i64, .int .i64, .int .i64, .int .i64, .int .i64, .int .i64, .int .i64, .int .i64] x35_2).bind fun s37 =>
((spilelaw50_cpP (x35_0, x35_1, s37, x35_3)).bind fun (r36_0, r36_1, r36_2, r36_3) =>
((rdT (.agg [.int .i64, .int .i64, .slice, .int .i64]) h34 (.hp h30.next 4 0)).bind fun (x38_0, x38_1, x38_2, x38_3) =>
((rdRow true h34 [.int .i64, .int .i64, .int .i64, .int .i64, .int .i64, .int .i64, .int .i64, .int .i64] x38_2).bind fun s40 =>
((spilelaw50_cpP (x38_0, x38_1, s40, x38_3)).bind fun (r39_0, r39_1, r39_2, r39_3) =>
((rdRow true h34 [.int .i64, .int .i64, .int .i64, .int .i64, .int .i64, .int .i64, .int .i64, .int .i64] (rowSV true [.int .i64, .int .i64, .int .i64, .int .i64, .int .i64, .int .i64, .int .i64, .int .i64] r36_2)).bind fun s43 =>
((rdRow true h34 [.int .i64, .int .i64, .int .i64, .int .i64, .int .i64, .int .i64, .int .i64, .int .i64] (rowSV true [.int .i64, .int .i64, .int .i64, .int .i64, .int .i64, .int .i64, .int .i64, .int .i64] r39_2)).bind fun s44 =>
((period_AdjustP (r36_0, r36_1, s43, r36_3) (r39_0, r39_1, s44, r39_3)).bind fun (r41, r42) =>
((rdT (.agg [.int .i64, .int .i64, .slice, .int .i64]) h34 (.hp h7.next 4 0)).bind fun (x45_0, x45_1, x45_2, x45_3) =>
((rdRow true h34 [.int .i64, .int .i64, .int .i64, .int .i64, .int .i64, .int .i64, .int .i64, .int .i64] x45_2).bind fun s47 =>
((spilelaw50_cpP (x45_0, x45_1, s47, x45_3)).bind fun (r46_0, r46_1, r46_2, r46_3) =>
((rdRow true h34 [.int .i64, .int .i64] (rowSV true [.int .i64, .int .i64] r41)).bind fun s49 =>
((cloneP 16 s49).bind fun r48 =>
((rdRow true h34 [.int .i64, .int .i64, .int .i64, .int .i64, .int .i64, .int .i64, .int .i64, .int .i64] (rowSV true [.int .i64, .int .i64, .int .i64, .int .i64, .int .i64, .int .i64, .int .i64, .int .i64] r46_2)).bind fun s52 =>
((rdRow true h34 [.int .i64, .int .i64] (rowSV true [.int .i64, .int .i64] r48)).bind fun s53 =>
((period_SettleP (r46_0, r46_1, s52, r46_3) s53).bind fun (r50, r51) =>
(((bif (decide ((IntKind.wrap .i64 ((IntKind.wrap .i64 ((IntKind.wrap .i64 ((IntKind.wrap .i64 ((IntKind.wrap .i64 (r11 + r16)) + r21)) + r26)) + r42)) + r51)) = 0)) then (bif (decide (r15 = 1)) then (bif (decide (r20 = 0)) then (bif (decide (r25 = (-1))) then ((rdRow true h34 [.int .i64, .int .i64] (rowSV true [.int .i64, .int .i64] r41)).bind fun s55 =>
((rdRow true h34 [.int .i64, .int .i64] ⟨.lp true ([.int .i64 1, .int .i64 (-5), .int .i64 2, .int .i64 2, .int .i64 3, .int .i64 1]) 0, 3, 3, false⟩).bind fun s56 =>
((slices_Equal_api_Adjustment_api_AdjustmentP s55 s56).bind fun r54 =>
(bif r54 then (some ((decide (r50 = 10)), h34)) else (some (false, h34)))))) else (some (false, h34))) else (some (false, h34))) else (some (false, h34))) else (some (false, h34)))).bind fun (y57, h58) =>
(some (y57, h58)))))))))))))))))))))))))))))))))))))))))))))
def spilelaw50_awake.A : Ann := { lits := [], conds := [], loops := [], regs := [(2, [31], [.leaf .bool]), (11, [0], [.leaf .bool])] }
theorem spilelaw50_awake.eq : ∀ (x : TT []) (h : H), evalFn Tryd.prog (spilelaw50_awake.tb) spilelaw50_awake.A Tryd.f10 (.one (.leaf .bool)) (TT.un [] x) h = spilelaw50_awake  h := by
  intro x h
  kernel_rfl
noncomputable def spilelaw50_awake.e : Entry := mkX [] (.one (.leaf .bool)) fun x h => spilelaw50_awake  h
theorem spilelaw50_awake.ok : EntryOK Tryd.prog 10 (spilelaw50_awake.e) := mkX_ok (spilelaw50_awake.tbok) Tryd.mixed Tryd.func10 (by kernel_rfl) (spilelaw50_awake.eq)
noncomputable def spilelaw50_awakeP : Option (Bool) := (spilelaw50_awake H.empty).bind fun p => rdRes false p.2 (.one (.leaf .bool)) (Res.un (.one (.leaf .bool)) p.1)
theorem spilelaw50_awakeP.eq : ∀ x : TT [], ((evalFn Tryd.prog (spilelaw50_awake.tb) spilelaw50_awake.A Tryd.f10 (.one (.leaf .bool)) (TT.lo false [] x) H.empty).bind fun p => rdRes false p.2 (.one (.leaf .bool)) (Res.un (.one (.leaf .bool)) p.1)) = spilelaw50_awakeP  := by
  intro x
  rw [show TT.lo false [] x = TT.un [] () from rfl, spilelaw50_awake.eq]
  rfl
noncomputable def spilelaw50_awakeP.e : Entry := mkP [] (.one (.leaf .bool)) fun x => spilelaw50_awakeP 
theorem spilelaw50_awakeP.ok : EntryOK Tryd.prog 10 (spilelaw50_awakeP.e) := mkP_ok (spilelaw50_awake.tbok) Tryd.mixed Tryd.func10 (by kernel_rfl) spilelaw50_awakeP.eq

/-! ### spile/spilelaw50.PeriodChecks: function 3 -/
noncomputable def spilelaw50_PeriodChecks.tb : Table := tab [(10, spilelaw50_awakeP.e), (11, spileref50_FewP.e), (12, period_CheckP.e), (13, slices_Clone_api_Period_api_PeriodP.e), (14, spileref50_CheckP.e), (15, period_OfP.e), (16, spileref50_OfP.e), (17, period_ChargedP.e), (18, spileref50_ChargedP.e)] [] Table.nil
theorem spilelaw50_PeriodChecks.tbok : TabOK Tryd.prog (spilelaw50_PeriodChecks.tb) := TabOK.tab (TabOK.nil Tryd.prog) (all_cons spilelaw50_awakeP.ok (all_cons spileref50_FewP.ok (all_cons period_CheckP.ok (all_cons slices_Clone_api_Period_api_PeriodP.ok (all_cons spileref50_CheckP.ok (all_cons period_OfP.ok (all_cons spileref50_OfP.ok (all_cons period_ChargedP.ok (all_cons spileref50_ChargedP.ok (all_nil _)))))))))) (all_nil _)
noncomputable def spilelaw50_PeriodChecks (a0 : SV) (a1 : Int) (h : H) : Option ((Bool) × H) :=
((((spilelaw50_awakeP ).bind fun r1 =>
(bif !(!r1) then ((rdRow true h [.int .i64, .int .i64, .int .i64, .bool] a0).bind fun s3 =>
((spileref50_FewP s3).bind fun r2 =>
(some ((!r2), h)))) else (some (true, h))))).bind fun (y4, h5) =>
(bif y4 then ((spilelaw50_awakeP ).bind fun r6 =>
(some (r6, h5))) else ((rdRow true h5 [.int .i64, .int .i64, .int .i64, .bool] a0).bind fun s8 =>
((cloneP 32 s8).bind fun r7 =>
((rdRow true h5 [.int .i64, .int .i64, .int .i64, .bool] (rowSV true [.int .i64, .int .i64, .int .i64, .bool] r7)).bind fun s11 =>
((period_CheckP s11).bind fun (r9, r10) =>
((rdRow true h5 [.int .i64, .int .i64, .int .i64, .bool] a0).bind fun s14 =>
((spileref50_CheckP s14).bind fun (r12, r13) =>
((rdRow true h5 [.int .i64, .int .i64, .int .i64, .bool] a0).bind fun s16 =>
((cloneP 32 s16).bind fun r15 =>
((rdRow true h5 [.int .i64, .int .i64, .int .i64, .bool] (rowSV true [.int .i64, .int .i64, .int .i64, .bool] r15)).bind fun s19 =>
((period_OfP s19 a1).bind fun (r17, r18) =>
((rdRow true h5 [.int .i64, .int .i64, .int .i64, .bool] a0).bind fun s22 =>
((spileref50_OfP s22 a1).bind fun (r20, r21) =>
((rdRow true h5 [.int .i64, .int .i64, .int .i64, .bool] a0).bind fun s24 =>
((cloneP 32 s24).bind fun r23 =>
((rdRow true h5 [.int .i64, .int .i64, .int .i64, .bool] (rowSV true [.int .i64, .int .i64, .int .i64, .bool] r23)).bind fun s27 =>
((period_ChargedP s27 a1).bind fun (r25, r26) =>
((rdRow true h5 [.int .i64, .int .i64, .int .i64, .bool] a0).bind fun s30 =>
((spileref50_ChargedP s30 a1).bind fun (r28, r29) =>
(((bif (decide (r9 = r12)) then (bif (decide (r10 = r13)) then (bif (decide (r17 = r20)) then (bif (decide (r18 = r21)) then (bif (decide (r25 = r28)) then (some ((decide (r26 = r29)), h5)) else (some (false, h5))) else (some (false, h5))) else (some (false, h5))) else (some (false, h5))) else (some (false, h5)))).bind fun (y31, h32) =>
(some (y31, h32)))))))))))))))))))))))
def spilelaw50_PeriodChecks.A : Ann := { lits := [], conds := [], loops := [], regs := [(1, [23], [.leaf .bool]), (9, [4], [.leaf .bool])] }
theorem spilelaw50_PeriodChecks.eq : ∀ (x : TT [.leaf .slice, .leaf (.int .i64)]) (h : H), evalFn Tryd.prog (spilelaw50_PeriodChecks.tb) spilelaw50_PeriodChecks.A Tryd.f3 (.one (.leaf .bool)) (TT.un [.leaf .slice, .leaf (.int .i64)] x) h = spilelaw50_PeriodChecks x.1 x.2 h := by
  intro x h
  kernel_rfl
noncomputable def spilelaw50_PeriodChecks.e : Entry := mkX [.leaf .slice, .leaf (.int .i64)] (.one (.leaf .bool)) fun x h => spilelaw50_PeriodChecks x.1 x.2 h
theorem spilelaw50_PeriodChecks.ok : EntryOK Tryd.prog 3 (spilelaw50_PeriodChecks.e) := mkX_ok (spilelaw50_PeriodChecks.tbok) Tryd.mixed Tryd.func3 (by kernel_rfl) (spilelaw50_PeriodChecks.eq)
noncomputable def spilelaw50_PeriodChecksP (a0 : (List (Int × Int × Int × Bool))) (a1 : Int) : Option (Bool) := (spilelaw50_PeriodChecks (rowSV false [.int .i64, .int .i64, .int .i64, .bool] a0) a1 H.empty).bind fun p => rdRes false p.2 (.one (.leaf .bool)) (Res.un (.one (.leaf .bool)) p.1)
theorem spilelaw50_PeriodChecksP.eq : ∀ x : TT [.leaf (.row [.int .i64, .int .i64, .int .i64, .bool]), .leaf (.int .i64)], ((evalFn Tryd.prog (spilelaw50_PeriodChecks.tb) spilelaw50_PeriodChecks.A Tryd.f3 (.one (.leaf .bool)) (TT.lo false [.leaf (.row [.int .i64, .int .i64, .int .i64, .bool]), .leaf (.int .i64)] x) H.empty).bind fun p => rdRes false p.2 (.one (.leaf .bool)) (Res.un (.one (.leaf .bool)) p.1)) = spilelaw50_PeriodChecksP x.1 x.2 := by
  intro x
  rw [show TT.lo false [.leaf (.row [.int .i64, .int .i64, .int .i64, .bool]), .leaf (.int .i64)] x = TT.un [.leaf .slice, .leaf (.int .i64)] ((rowSV false [.int .i64, .int .i64, .int .i64, .bool] x.1), x.2) from rfl, spilelaw50_PeriodChecks.eq]
  rfl
noncomputable def spilelaw50_PeriodChecksP.e : Entry := mkP [.leaf (.row [.int .i64, .int .i64, .int .i64, .bool]), .leaf (.int .i64)] (.one (.leaf .bool)) fun x => spilelaw50_PeriodChecksP x.1 x.2
theorem spilelaw50_PeriodChecksP.ok : EntryOK Tryd.prog 3 (spilelaw50_PeriodChecksP.e) := mkP_ok (spilelaw50_PeriodChecks.tbok) Tryd.mixed Tryd.func3 (by kernel_rfl) spilelaw50_PeriodChecksP.eq

/-! ### spile/spilelaw50.PeriodPlans: function 4 -/
noncomputable def spilelaw50_PeriodPlans.tb : Table := tab [(10, spilelaw50_awakeP.e), (11, spileref50_FewP.e), (13, slices_Clone_api_Period_api_PeriodP.e), (19, period_PlanP.e), (20, spileref50_PlanP.e), (21, period_CloseP.e), (22, spileref50_CloseP.e), (23, slices_Equal_api_Period_api_PeriodP.e)] [] Table.nil
theorem spilelaw50_PeriodPlans.tbok : TabOK Tryd.prog (spilelaw50_PeriodPlans.tb) := TabOK.tab (TabOK.nil Tryd.prog) (all_cons spilelaw50_awakeP.ok (all_cons spileref50_FewP.ok (all_cons slices_Clone_api_Period_api_PeriodP.ok (all_cons period_PlanP.ok (all_cons spileref50_PlanP.ok (all_cons period_CloseP.ok (all_cons spileref50_CloseP.ok (all_cons slices_Equal_api_Period_api_PeriodP.ok (all_nil _))))))))) (all_nil _)
noncomputable def spilelaw50_PeriodPlans (a0 : SV) (a1 : Int) (a2 : Int) (a3 : Int) (a4 : Int) (h : H) : Option ((Bool) × H) :=
((((spilelaw50_awakeP ).bind fun r1 =>
(bif !(!r1) then ((rdRow true h [.int .i64, .int .i64, .int .i64, .bool] a0).bind fun s3 =>
((spileref50_FewP s3).bind fun r2 =>
(some ((!r2), h)))) else (some (true, h))))).bind fun (y4, h5) =>
(bif y4 then ((spilelaw50_awakeP ).bind fun r6 =>
(some (r6, h5))) else ((period_PlanP a1 a2 a3 a4).bind fun (r7, r8) =>
((spileref50_PlanP a1 a2 a3 a4).bind fun (r9, r10) =>
((rdRow true h5 [.int .i64, .int .i64, .int .i64, .bool] a0).bind fun s12 =>
((cloneP 32 s12).bind fun r11 =>
((rdRow true h5 [.int .i64, .int .i64, .int .i64, .bool] (rowSV true [.int .i64, .int .i64, .int .i64, .bool] r11)).bind fun s15 =>
((period_CloseP s15).bind fun (r13, r14) =>
((rdRow true h5 [.int .i64, .int .i64, .int .i64, .bool] a0).bind fun s18 =>
((spileref50_CloseP s18).bind fun (r16, r17) =>
((((rdRow true h5 [.int .i64, .int .i64, .int .i64, .bool] (rowSV true [.int .i64, .int .i64, .int .i64, .bool] r7)).bind fun s20 =>
((rdRow true h5 [.int .i64, .int .i64, .int .i64, .bool] (rowSV true [.int .i64, .int .i64, .int .i64, .bool] r9)).bind fun s21 =>
((slices_Equal_api_Period_api_PeriodP s20 s21).bind fun r19 =>
(bif r19 then (bif (decide (r8 = r10)) then ((rdRow true h5 [.int .i64, .int .i64, .int .i64, .bool] (rowSV true [.int .i64, .int .i64, .int .i64, .bool] r13)).bind fun s23 =>
((rdRow true h5 [.int .i64, .int .i64, .int .i64, .bool] (rowSV true [.int .i64, .int .i64, .int .i64, .bool] r16)).bind fun s24 =>
((slices_Equal_api_Period_api_PeriodP s23 s24).bind fun r22 =>
(bif r22 then (some ((decide (r14 = r17)), h5)) else (some (false, h5)))))) else (some (false, h5))) else (some (false, h5))))))).bind fun (y25, h26) =>
(some (y25, h26)))))))))))))
def spilelaw50_PeriodPlans.A : Ann := { lits := [], conds := [], loops := [], regs := [(1, [25], [.leaf .bool]), (7, [10], [.leaf .bool])] }
theorem spilelaw50_PeriodPlans.eq : ∀ (x : TT [.leaf .slice, .leaf (.int .i64), .leaf (.int .i64), .leaf (.int .i64), .leaf (.int .i64)]) (h : H), evalFn Tryd.prog (spilelaw50_PeriodPlans.tb) spilelaw50_PeriodPlans.A Tryd.f4 (.one (.leaf .bool)) (TT.un [.leaf .slice, .leaf (.int .i64), .leaf (.int .i64), .leaf (.int .i64), .leaf (.int .i64)] x) h = spilelaw50_PeriodPlans x.1 x.2.1 x.2.2.1 x.2.2.2.1 x.2.2.2.2 h := by
  intro x h
  kernel_rfl
noncomputable def spilelaw50_PeriodPlans.e : Entry := mkX [.leaf .slice, .leaf (.int .i64), .leaf (.int .i64), .leaf (.int .i64), .leaf (.int .i64)] (.one (.leaf .bool)) fun x h => spilelaw50_PeriodPlans x.1 x.2.1 x.2.2.1 x.2.2.2.1 x.2.2.2.2 h
theorem spilelaw50_PeriodPlans.ok : EntryOK Tryd.prog 4 (spilelaw50_PeriodPlans.e) := mkX_ok (spilelaw50_PeriodPlans.tbok) Tryd.mixed Tryd.func4 (by kernel_rfl) (spilelaw50_PeriodPlans.eq)
noncomputable def spilelaw50_PeriodPlansP (a0 : (List (Int × Int × Int × Bool))) (a1 : Int) (a2 : Int) (a3 : Int) (a4 : Int) : Option (Bool) := (spilelaw50_PeriodPlans (rowSV false [.int .i64, .int .i64, .int .i64, .bool] a0) a1 a2 a3 a4 H.empty).bind fun p => rdRes false p.2 (.one (.leaf .bool)) (Res.un (.one (.leaf .bool)) p.1)
theorem spilelaw50_PeriodPlansP.eq : ∀ x : TT [.leaf (.row [.int .i64, .int .i64, .int .i64, .bool]), .leaf (.int .i64), .leaf (.int .i64), .leaf (.int .i64), .leaf (.int .i64)], ((evalFn Tryd.prog (spilelaw50_PeriodPlans.tb) spilelaw50_PeriodPlans.A Tryd.f4 (.one (.leaf .bool)) (TT.lo false [.leaf (.row [.int .i64, .int .i64, .int .i64, .bool]), .leaf (.int .i64), .leaf (.int .i64), .leaf (.int .i64), .leaf (.int .i64)] x) H.empty).bind fun p => rdRes false p.2 (.one (.leaf .bool)) (Res.un (.one (.leaf .bool)) p.1)) = spilelaw50_PeriodPlansP x.1 x.2.1 x.2.2.1 x.2.2.2.1 x.2.2.2.2 := by
  intro x
  rw [show TT.lo false [.leaf (.row [.int .i64, .int .i64, .int .i64, .bool]), .leaf (.int .i64), .leaf (.int .i64), .leaf (.int .i64), .leaf (.int .i64)] x = TT.un [.leaf .slice, .leaf (.int .i64), .leaf (.int .i64), .leaf (.int .i64), .leaf (.int .i64)] ((rowSV false [.int .i64, .int .i64, .int .i64, .bool] x.1), x.2.1, x.2.2.1, x.2.2.2.1, x.2.2.2.2) from rfl, spilelaw50_PeriodPlans.eq]
  rfl
noncomputable def spilelaw50_PeriodPlansP.e : Entry := mkP [.leaf (.row [.int .i64, .int .i64, .int .i64, .bool]), .leaf (.int .i64), .leaf (.int .i64), .leaf (.int .i64), .leaf (.int .i64)] (.one (.leaf .bool)) fun x => spilelaw50_PeriodPlansP x.1 x.2.1 x.2.2.1 x.2.2.2.1 x.2.2.2.2
theorem spilelaw50_PeriodPlansP.ok : EntryOK Tryd.prog 4 (spilelaw50_PeriodPlansP.e) := mkP_ok (spilelaw50_PeriodPlans.tbok) Tryd.mixed Tryd.func4 (by kernel_rfl) spilelaw50_PeriodPlansP.eq

/-! ### spile/spileref50.fits: function 50 -/
noncomputable def spileref50_fits.tb : Table := tab [(59, spileref49_PrintP.e)] [] Table.nil
theorem spileref50_fits.tbok : TabOK Tryd.prog (spileref50_fits.tb) := TabOK.tab (TabOK.nil Tryd.prog) (all_cons spileref49_PrintP.ok (all_nil _)) (all_nil _)
noncomputable def spileref50_fits.loop1 (h : H) (y6 : Int) : (Int) × H → Option (Stp ((Int) × H) (Flow (Unit) (Bool) × H)) := fun (y9, h10) =>
(bif (decide (y9 < y6)) then (let h11 : H := H.reserve h10 0
((rdT (.leaf .slice) h11 (.hp h.next 4 2)).bind fun x12 =>
(guardO (0 ≤ y9 ∧ y9 < ((x12.len : Nat) : Int)) (guardO (V.nn ((V.add x12.a (Int.toNat y9 * 8)) : V) = true) (guardO (V.nn ((V.add (V.add x12.a (Int.toNat y9 * 8)) 0) : V) = true) ((rdT (.leaf (.int .i64)) h11 (V.add (V.add (V.add x12.a (Int.toNat y9 * 8)) 0) 0)).bind fun x13 =>
((rdT (.leaf .slice) h11 (.hp h.next 4 2)).bind fun x14 =>
(guardO (0 ≤ y6 ∧ y6 < ((x14.len : Nat) : Int)) (guardO (V.nn ((V.add x14.a (Int.toNat y6 * 8)) : V) = true) (guardO (V.nn ((V.add (V.add x14.a (Int.toNat y6 * 8)) 0) : V) = true) ((rdT (.leaf (.int .i64)) h11 (V.add (V.add (V.add x14.a (Int.toNat y6 * 8)) 0) 0)).bind fun x15 =>
(bif (decide (x13 = x15)) then (some (.done (.ret false, h11))) else (some (.more ((IntKind.wrap .i64 (y9 + 1)), h11))))))))))))))) else (some (.done (.ex0 (), h10))))
noncomputable def spileref50_fits.loop2 (h : H) : (Int) × H → Option (Stp ((Int) × H) (Flow (Unit) (Bool) × H)) := fun (y6, h7) =>
((rdT (.leaf .slice) h7 (.hp h.next 4 2)).bind fun x8 =>
(bif (decide (y6 < ((x8.len : Nat) : Int))) then ((iter FUEL (spileref50_fits.loop1 h y6) (0, h7)).bind fun (fl17, h16) => match fl17 with
| .next _ => none
| .ret rr18 => (some (.done (.ret rr18, h16)))
| .ex0 _ =>
(some (.more ((IntKind.wrap .i64 (y6 + 1)), h16)))
| .ex1 _ => none) else (some (.done (.ex0 (), h7)))))
noncomputable def spileref50_fits (a0 : (Int × Int × SV × Int)) (h : H) : Option ((Bool) × H) :=
(match a0 with
| (a0_0, a0_1, a0_2, a0_3) =>
(let h1 : H := H.new h [.int .i64 a0_0, .int .i64 a0_1, .slice a0_2.a a0_2.len a0_2.cap a0_2.tail, .int .i64 a0_3] 4
((rdT (.agg [.int .i64, .int .i64, .slice, .int .i64]) h1 (.hp h.next 4 0)).bind fun (x2_0, x2_1, x2_2, x2_3) =>
((rdRow true h1 [.int .i64, .int .i64, .int .i64, .int .i64, .int .i64, .int .i64, .int .i64, .int .i64] x2_2).bind fun s5 =>
((spileref49_PrintP (x2_0, x2_1, s5, x2_3)).bind fun (r3, r4) =>
(bif (!(decide (r4 = 0))) then (some (false, h1)) else ((iter FUEL (spileref50_fits.loop2 h) (0, h1)).bind fun (fl20, h19) => match fl20 with
| .next _ => none
| .ret rr21 => (some (rr21, h19))
| .ex0 _ =>
(some (true, h19))
| .ex1 _ => none)))))))
def spileref50_fits.A : Ann := { lits := [], conds := [], loops := [(8, [6], [.leaf (.int .i64)], [], [], some 2, none), (5, [5], [.leaf (.int .i64)], [], [], some 0, none)], regs := [], toks := [9] }
theorem spileref50_fits.eq : ∀ (x : TT [.agg [.int .i64, .int .i64, .slice, .int .i64]]) (h : H), evalFn Tryd.prog (spileref50_fits.tb) spileref50_fits.A Tryd.f50 (.one (.leaf .bool)) (TT.un [.agg [.int .i64, .int .i64, .slice, .int .i64]] x) h = spileref50_fits x h := by
  intro x h
  kernel_rfl
noncomputable def spileref50_fits.e : Entry := mkX [.agg [.int .i64, .int .i64, .slice, .int .i64]] (.one (.leaf .bool)) fun x h => spileref50_fits x h
theorem spileref50_fits.ok : EntryOK Tryd.prog 50 (spileref50_fits.e) := mkX_ok (spileref50_fits.tbok) Tryd.mixed Tryd.func50 (by kernel_rfl) (spileref50_fits.eq)
noncomputable def spileref50_fitsP (a0 : (Int × Int × (List (Int × Int × Int × Int × Int × Int × Int × Int)) × Int)) : Option (Bool) := (spileref50_fits (a0.1, a0.2.1, rowSV false [.int .i64, .int .i64, .int .i64, .int .i64, .int .i64, .int .i64, .int .i64, .int .i64] a0.2.2.1, a0.2.2.2) H.empty).bind fun p => rdRes false p.2 (.one (.leaf .bool)) (Res.un (.one (.leaf .bool)) p.1)
theorem spileref50_fitsP.eq : ∀ x : TT [.agg [.int .i64, .int .i64, .row [.int .i64, .int .i64, .int .i64, .int .i64, .int .i64, .int .i64, .int .i64, .int .i64], .int .i64]], ((evalFn Tryd.prog (spileref50_fits.tb) spileref50_fits.A Tryd.f50 (.one (.leaf .bool)) (TT.lo false [.agg [.int .i64, .int .i64, .row [.int .i64, .int .i64, .int .i64, .int .i64, .int .i64, .int .i64, .int .i64, .int .i64], .int .i64]] x) H.empty).bind fun p => rdRes false p.2 (.one (.leaf .bool)) (Res.un (.one (.leaf .bool)) p.1)) = spileref50_fitsP x := by
  intro x
  rw [show TT.lo false [.agg [.int .i64, .int .i64, .row [.int .i64, .int .i64, .int .i64, .int .i64, .int .i64, .int .i64, .int .i64, .int .i64], .int .i64]] x = TT.un [.agg [.int .i64, .int .i64, .slice, .int .i64]] ((x.1, x.2.1, rowSV false [.int .i64, .int .i64, .int .i64, .int .i64, .int .i64, .int .i64, .int .i64, .int .i64] x.2.2.1, x.2.2.2)) from rfl, spileref50_fits.eq]
  rfl
noncomputable def spileref50_fitsP.e : Entry := mkP [.agg [.int .i64, .int .i64, .row [.int .i64, .int .i64, .int .i64, .int .i64, .int .i64, .int .i64, .int .i64, .int .i64], .int .i64]] (.one (.leaf .bool)) fun x => spileref50_fitsP x
theorem spileref50_fitsP.ok : EntryOK Tryd.prog 50 (spileref50_fitsP.e) := mkP_ok (spileref50_fits.tbok) Tryd.mixed Tryd.func50 (by kernel_rfl) spileref50_fitsP.eq

/-! ### spile/spileref50.Adjust: function 27 -/
noncomputable def spileref50_Adjust.tb : Table := tab [(50, spileref50_fitsP.e), (51, spileref49_Items.e), (52, spileref50_dutyP.e)] [] Table.nil
theorem spileref50_Adjust.tbok : TabOK Tryd.prog (spileref50_Adjust.tb) := TabOK.tab (TabOK.nil Tryd.prog) (all_cons spileref50_fitsP.ok (all_cons spileref49_Items.ok (all_cons spileref50_dutyP.ok (all_nil _)))) (all_nil _)
noncomputable def spileref50_Adjust.loop1 (s24 : SV) (y28 : Int) : (Int × Int) × H → Option (Stp ((Int × Int) × H) (Flow (Int) (SV × Int) × H)) := fun ((y31, y32), h33) =>
(bif (decide (y32 < ((s24.len : Nat) : Int))) then (((guardO (0 ≤ y32 ∧ y32 < ((s24.len : Nat) : Int)) (guardO (V.nn ((V.add s24.a (Int.toNat y32 * 5)) : V) = true) ((rdT (.leaf (.int .i64)) h33 (V.add (V.add s24.a (Int.toNat y32 * 5)) 0)).bind fun x34 =>
(bif (decide (y28 < x34)) then (bif !(decide (y31 < 0)) then (guardO (0 ≤ y32 ∧ y32 < ((s24.len : Nat) : Int)) (guardO (V.nn ((V.add s24.a (Int.toNat y32 * 5)) : V) = true) ((rdT (.leaf (.int .i64)) h33 (V.add (V.add s24.a (Int.toNat y32 * 5)) 0)).bind fun x35 =>
(some ((decide (x35 < y31)), h33))))) else (some (true, h33))) else (some (false, h33))))))).bind fun (y36, h37) =>
((bif y36 then (guardO (0 ≤ y32 ∧ y32 < ((s24.len : Nat) : Int)) (guardO (V.nn ((V.add s24.a (Int.toNat y32 * 5)) : V) = true) ((rdT (.leaf (.int .i64)) h37 (V.add (V.add s24.a (Int.toNat y32 * 5)) 0)).bind fun x38 =>
(some (.next x38, h37))))) else (some (.next y31, h37)) : Option (Flow (Int) (SV × Int) × H)).bind fun (fl40, h39) => match fl40 with
| .next y41 =>
(some (.more ((y41, (IntKind.wrap .i64 (y32 + 1))), h39)))
| .ret rr42 => (some (.done (.ret rr42, h39)))
| .ex0 _ => none
| .ex1 _ => none)) else (some (.done (.ex0 y31, h33))))
noncomputable def spileref50_Adjust.loop2 (a0_0 : Int) (a0_1 : Int) (a0_2 : SV) (a0_3 : Int) (a1_0 : Int) (a1_1 : Int) (a1_2 : SV) (a1_3 : Int) (s24 : SV) : (SV × Int × Int) × H → Option (Stp ((SV × Int × Int) × H) (Flow (SV) (SV × Int) × H)) := fun ((y27, y28, y29), h30) =>
(bif (decide (y29 < ((s24.len : Nat) : Int))) then ((iter FUEL (spileref50_Adjust.loop1 s24 y28) (((-1), 0), h30)).bind fun (fl44, h43) => match fl44 with
| .next _ => none
| .ret rr45 => (some (.done (.ret rr45, h43)))
| .ex0 y46 =>
(bif (decide (y46 < 0)) then (some (.done (.ex0 y27, h43))) else (let h47 : H := H.reserve h43 0
((rdT (.agg [.int .i64, .int .i64, .slice, .int .i64]) h47 (.lp true ([.int .i64 a1_0, .int .i64 a1_1, .slice a1_2.a a1_2.len a1_2.cap a1_2.tail, .int .i64 a1_3]) 0)).bind fun (x48_0, x48_1, x48_2, x48_3) =>
((rdRow true h47 [.int .i64, .int .i64, .int .i64, .int .i64, .int .i64, .int .i64, .int .i64, .int .i64] x48_2).bind fun s50 =>
((spileref50_dutyP (x48_0, x48_1, s50, x48_3) y46).bind fun r49 =>
((rdT (.agg [.int .i64, .int .i64, .slice, .int .i64]) h47 (.lp true ([.int .i64 a0_0, .int .i64 a0_1, .slice a0_2.a a0_2.len a0_2.cap a0_2.tail, .int .i64 a0_3]) 0)).bind fun (x51_0, x51_1, x51_2, x51_3) =>
((rdRow true h47 [.int .i64, .int .i64, .int .i64, .int .i64, .int .i64, .int .i64, .int .i64, .int .i64] x51_2).bind fun s53 =>
((spileref50_dutyP (x51_0, x51_1, s53, x51_3) y46).bind fun r52 =>
((bif (!(decide ((IntKind.wrap .i64 (r49 - r52)) = 0))) then ((appendS h47 none 2 16 y27 [.int .i64 y46, .int .i64 (IntKind.wrap .i64 (r49 - r52))] 1).bind fun (s56, h55) =>
(some (.next s56, h55))) else (some (.next y27, h47)) : Option (Flow (SV) (SV × Int) × H)).bind fun (fl59, h58) => match fl59 with
| .next y60 =>
(some (.more ((y60, y46, (IntKind.wrap .i64 (y29 + 1))), h58)))
| .ret rr61 => (some (.done (.ret rr61, h58)))
| .ex0 _ => none
| .ex1 _ => none)))))))))
| .ex1 _ => none) else (some (.done (.ex0 y27, h30))))
noncomputable def spileref50_Adjust (a0 : (Int × Int × SV × Int)) (a1 : (Int × Int × SV × Int)) (h : H) : Option ((SV × Int) × H) :=
(match a0 with
| (a0_0, a0_1, a0_2, a0_3) =>
(match a1 with
| (a1_0, a1_1, a1_2, a1_3) =>
((((rdT (.agg [.int .i64, .int .i64, .slice, .int .i64]) h (.lp true ([.int .i64 a0_0, .int .i64 a0_1, .slice a0_2.a a0_2.len a0_2.cap a0_2.tail, .int .i64 a0_3]) 0)).bind fun (x1_0, x1_1, x1_2, x1_3) =>
((rdRow true h [.int .i64, .int .i64, .int .i64, .int .i64, .int .i64, .int .i64, .int .i64, .int .i64] x1_2).bind fun s3 =>
((spileref50_fitsP (x1_0, x1_1, s3, x1_3)).bind fun r2 =>
(bif !(!r2) then ((rdT (.agg [.int .i64, .int .i64, .slice, .int .i64]) h (.lp true ([.int .i64 a1_0, .int .i64 a1_1, .slice a1_2.a a1_2.len a1_2.cap a1_2.tail, .int .i64 a1_3]) 0)).bind fun (x4_0, x4_1, x4_2, x4_3) =>
((rdRow true h [.int .i64, .int .i64, .int .i64, .int .i64, .int .i64, .int .i64, .int .i64, .int .i64] x4_2).bind fun s6 =>
((spileref50_fitsP (x4_0, x4_1, s6, x4_3)).bind fun r5 =>
(some ((!r5), h))))) else (some (true, h))))))).bind fun (y7, h8) =>
(bif y7 then (some ((⟨.nil, 0, 0, false⟩, 1), h8)) else ((((rdT (.leaf (.int .i64)) h8 (.lp true ([.int .i64 a0_0, .int .i64 a0_1, .slice a0_2.a a0_2.len a0_2.cap a0_2.tail, .int .i64 a0_3]) 0)).bind fun x9 =>
((rdT (.leaf (.int .i64)) h8 (.lp true ([.int .i64 a1_0, .int .i64 a1_1, .slice a1_2.a a1_2.len a1_2.cap a1_2.tail, .int .i64 a1_3]) 0)).bind fun x10 =>
(bif !(!(decide (x9 = x10))) then ((rdT (.leaf (.int .i64)) h8 (.lp true ([.int .i64 a0_0, .int .i64 a0_1, .slice a0_2.a a0_2.len a0_2.cap a0_2.tail, .int .i64 a0_3]) 1)).bind fun x11 =>
((rdT (.leaf (.int .i64)) h8 (.lp true ([.int .i64 a1_0, .int .i64 a1_1, .slice a1_2.a a1_2.len a1_2.cap a1_2.tail, .int .i64 a1_3]) 1)).bind fun x12 =>
(some ((!(decide (x11 = x12))), h8)))) else (some (true, h8)))))).bind fun (y13, h14) =>
(bif y13 then (some ((⟨.nil, 0, 0, false⟩, 10), h14)) else (let h15 : H := H.reserve h14 0
((rdT (.agg [.int .i64, .int .i64, .slice, .int .i64]) H.empty (.lp true ([.int .i64 a0_0, .int .i64 a0_1, .slice a0_2.a a0_2.len a0_2.cap a0_2.tail, .int .i64 a0_3]) 0)).bind fun (x16_0, x16_1, x16_2, x16_3) =>
((spileref49_Items (x16_0, x16_1, x16_2, x16_3) h15).bind fun (r17, h18) =>
((rdT (.agg [.int .i64, .int .i64, .slice, .int .i64]) H.empty (.lp true ([.int .i64 a1_0, .int .i64 a1_1, .slice a1_2.a a1_2.len a1_2.cap a1_2.tail, .int .i64 a1_3]) 0)).bind fun (x19_0, x19_1, x19_2, x19_3) =>
((spileref49_Items (x19_0, x19_1, x19_2, x19_3) h18).bind fun (r20, h21) =>
((cellsOf h21 (.slice r20.a r20.len r20.cap r20.tail : V) 5).bind fun (n24, cs24) =>
((appendS h21 none 5 40 r17 cs24 n24).bind fun (s24, h23) =>
((iter FUEL (spileref50_Adjust.loop2 a0_0 a0_1 a0_2 a0_3 a1_0 a1_1 a1_2 a1_3 s24) ((⟨.nil, 0, 0, false⟩, (-1), 0), h23)).bind fun (fl63, h62) => match fl63 with
| .next _ => none
| .ret rr64 => (some (rr64, h62))
| .ex0 y65 =>
(some ((y65, 0), h62))
| .ex1 _ => none))))))))))))))
def spileref50_Adjust.A : Ann := { lits := [], conds := [(66, [9], [.leaf (.int .i64)], none, none), (82, [7], [.leaf .slice], none, none)], loops := [(12, [9, 10], [.leaf (.int .i64), .leaf (.int .i64)], [9], [.leaf (.int .i64)], some 2, none), (9, [7, 8, 39], [.leaf .slice, .leaf (.int .i64), .leaf (.int .i64)], [7], [.leaf .slice], some 0, none)], regs := [(1, [19], [.leaf .bool]), (3, [31], [.leaf .bool]), (14, [66], [.leaf .bool])], ros := [2, 3], rol := [32, 34] }
theorem spileref50_Adjust.eq : ∀ (x : TT [.agg [.int .i64, .int .i64, .slice, .int .i64], .agg [.int .i64, .int .i64, .slice, .int .i64]]) (h : H), evalFn Tryd.prog (spileref50_Adjust.tb) spileref50_Adjust.A Tryd.f27 (.many [.leaf .slice, .leaf (.int .i64)]) (TT.un [.agg [.int .i64, .int .i64, .slice, .int .i64], .agg [.int .i64, .int .i64, .slice, .int .i64]] x) h = spileref50_Adjust x.1 x.2 h := by
  intro x h
  kernel_rfl
noncomputable def spileref50_Adjust.e : Entry := mkX [.agg [.int .i64, .int .i64, .slice, .int .i64], .agg [.int .i64, .int .i64, .slice, .int .i64]] (.many [.leaf .slice, .leaf (.int .i64)]) fun x h => spileref50_Adjust x.1 x.2 h
theorem spileref50_Adjust.ok : EntryOK Tryd.prog 27 (spileref50_Adjust.e) := mkX_ok (spileref50_Adjust.tbok) Tryd.mixed Tryd.func27 (by kernel_rfl) (spileref50_Adjust.eq)
noncomputable def spileref50_AdjustP (a0 : (Int × Int × (List (Int × Int × Int × Int × Int × Int × Int × Int)) × Int)) (a1 : (Int × Int × (List (Int × Int × Int × Int × Int × Int × Int × Int)) × Int)) : Option ((List (Int × Int)) × Int) := (spileref50_Adjust (a0.1, a0.2.1, rowSV false [.int .i64, .int .i64, .int .i64, .int .i64, .int .i64, .int .i64, .int .i64, .int .i64] a0.2.2.1, a0.2.2.2) (a1.1, a1.2.1, rowSV false [.int .i64, .int .i64, .int .i64, .int .i64, .int .i64, .int .i64, .int .i64, .int .i64] a1.2.2.1, a1.2.2.2) H.empty).bind fun p => rdRes false p.2 (.many [.leaf (.row [.int .i64, .int .i64]), .leaf (.int .i64)]) (Res.un (.many [.leaf .slice, .leaf (.int .i64)]) p.1)
theorem spileref50_AdjustP.eq : ∀ x : TT [.agg [.int .i64, .int .i64, .row [.int .i64, .int .i64, .int .i64, .int .i64, .int .i64, .int .i64, .int .i64, .int .i64], .int .i64], .agg [.int .i64, .int .i64, .row [.int .i64, .int .i64, .int .i64, .int .i64, .int .i64, .int .i64, .int .i64, .int .i64], .int .i64]], ((evalFn Tryd.prog (spileref50_Adjust.tb) spileref50_Adjust.A Tryd.f27 (.many [.leaf .slice, .leaf (.int .i64)]) (TT.lo false [.agg [.int .i64, .int .i64, .row [.int .i64, .int .i64, .int .i64, .int .i64, .int .i64, .int .i64, .int .i64, .int .i64], .int .i64], .agg [.int .i64, .int .i64, .row [.int .i64, .int .i64, .int .i64, .int .i64, .int .i64, .int .i64, .int .i64, .int .i64], .int .i64]] x) H.empty).bind fun p => rdRes false p.2 (.many [.leaf (.row [.int .i64, .int .i64]), .leaf (.int .i64)]) (Res.un (.many [.leaf .slice, .leaf (.int .i64)]) p.1)) = spileref50_AdjustP x.1 x.2 := by
  intro x
  rw [show TT.lo false [.agg [.int .i64, .int .i64, .row [.int .i64, .int .i64, .int .i64, .int .i64, .int .i64, .int .i64, .int .i64, .int .i64], .int .i64], .agg [.int .i64, .int .i64, .row [.int .i64, .int .i64, .int .i64, .int .i64, .int .i64, .int .i64, .int .i64, .int .i64], .int .i64]] x = TT.un [.agg [.int .i64, .int .i64, .slice, .int .i64], .agg [.int .i64, .int .i64, .slice, .int .i64]] ((x.1.1, x.1.2.1, rowSV false [.int .i64, .int .i64, .int .i64, .int .i64, .int .i64, .int .i64, .int .i64, .int .i64] x.1.2.2.1, x.1.2.2.2), (x.2.1, x.2.2.1, rowSV false [.int .i64, .int .i64, .int .i64, .int .i64, .int .i64, .int .i64, .int .i64, .int .i64] x.2.2.2.1, x.2.2.2.2)) from rfl, spileref50_Adjust.eq]
  rfl
noncomputable def spileref50_AdjustP.e : Entry := mkP [.agg [.int .i64, .int .i64, .row [.int .i64, .int .i64, .int .i64, .int .i64, .int .i64, .int .i64, .int .i64, .int .i64], .int .i64], .agg [.int .i64, .int .i64, .row [.int .i64, .int .i64, .int .i64, .int .i64, .int .i64, .int .i64, .int .i64, .int .i64], .int .i64]] (.many [.leaf (.row [.int .i64, .int .i64]), .leaf (.int .i64)]) fun x => spileref50_AdjustP x.1 x.2
theorem spileref50_AdjustP.ok : EntryOK Tryd.prog 27 (spileref50_AdjustP.e) := mkP_ok (spileref50_Adjust.tbok) Tryd.mixed Tryd.func27 (by kernel_rfl) spileref50_AdjustP.eq

/-! ### spile/spileref50.Settle: function 30 -/
noncomputable def spileref50_Settle.tb : Table := tab [(43, spileref47_BetweenP.e), (50, spileref50_fitsP.e)] [] Table.nil
theorem spileref50_Settle.tbok : TabOK Tryd.prog (spileref50_Settle.tb) := TabOK.tab (TabOK.nil Tryd.prog) (all_cons spileref47_BetweenP.ok (all_cons spileref50_fitsP.ok (all_nil _))) (all_nil _)
noncomputable def spileref50_Settle.loop1 (a1 : SV) : (Int) × H → Option (Stp ((Int) × H) (Flow (Unit) (Int × Int) × H)) := fun (y6, h7) =>
(bif (decide (y6 < ((a1.len : Nat) : Int))) then (((guardO (0 ≤ y6 ∧ y6 < ((a1.len : Nat) : Int)) (guardO (V.nn ((V.add a1.a (Int.toNat y6 * 2)) : V) = true) ((rdT (.leaf (.int .i64)) h7 (V.add (V.add a1.a (Int.toNat y6 * 2)) 0)).bind fun x8 =>
((spileref47_BetweenP x8 1 1125899906842624).bind fun r9 =>
(bif !(!r9) then (guardO (0 ≤ y6 ∧ y6 < ((a1.len : Nat) : Int)) (guardO (V.nn ((V.add a1.a (Int.toNat y6 * 2)) : V) = true) ((rdT (.leaf (.int .i64)) h7 (V.add (V.add a1.a (Int.toNat y6 * 2)) 1)).bind fun x10 =>
((spileref47_BetweenP x10 (-1125899906842624) 1125899906842624).bind fun r11 =>
(some ((!r11), h7)))))) else (some (true, h7)))))))).bind fun (y12, h13) =>
(bif y12 then (some (.done (.ret (0, 2), h13))) else (some (.more ((IntKind.wrap .i64 (y6 + 1)), h13))))) else (some (.done (.ex0 (), h7))))
noncomputable def spileref50_Settle.loop2 (a1 : SV) : (Int × Int) × H → Option (Stp ((Int × Int) × H) (Flow (Int) (Int × Int) × H)) := fun ((y17, y18), h19) =>
(bif (decide (y18 < ((a1.len : Nat) : Int))) then (((let h20 : H := H.reserve h19 0
(bif (decide ((0 : Int) < y18)) then (guardO (0 ≤ y18 ∧ y18 < ((a1.len : Nat) : Int)) (guardO (V.nn ((V.add a1.a (Int.toNat y18 * 2)) : V) = true) ((rdT (.leaf (.int .i64)) h20 (V.add (V.add a1.a (Int.toNat y18 * 2)) 0)).bind fun x21 =>
(guardO (0 ≤ (IntKind.wrap .i64 (y18 - 1)) ∧ (IntKind.wrap .i64 (y18 - 1)) < ((a1.len : Nat) : Int)) (guardO (V.nn ((V.add a1.a (Int.toNat (IntKind.wrap .i64 (y18 - 1)) * 2)) : V) = true) ((rdT (.leaf (.int .i64)) h20 (V.add (V.add a1.a (Int.toNat (IntKind.wrap .i64 (y18 - 1)) * 2)) 0)).bind fun x22 =>
(some ((decide (x21 ≤ x22)), h20)))))))) else (some (false, h20))))).bind fun (y23, h24) =>
(bif y23 then (some (.done (.ret (0, 5), h24))) else (guardO (0 ≤ y18 ∧ y18 < ((a1.len : Nat) : Int)) (guardO (V.nn ((V.add a1.a (Int.toNat y18 * 2)) : V) = true) ((rdT (.leaf (.int .i64)) h24 (V.add (V.add a1.a (Int.toNat y18 * 2)) 1)).bind fun x25 =>
(some (.more (((IntKind.wrap .i64 (y17 + x25)), (IntKind.wrap .i64 (y18 + 1))), h24)))))))) else (some (.done (.ex0 y17, h19))))
noncomputable def spileref50_Settle (a0 : (Int × Int × SV × Int)) (a1 : SV) (h : H) : Option ((Int × Int) × H) :=
(match a0 with
| (a0_0, a0_1, a0_2, a0_3) =>
(let h1 : H := H.new h [.int .i64 a0_0, .int .i64 a0_1, .slice a0_2.a a0_2.len a0_2.cap a0_2.tail, .int .i64 a0_3] 4
((rdT (.agg [.int .i64, .int .i64, .slice, .int .i64]) h1 (.hp h.next 4 0)).bind fun (x2_0, x2_1, x2_2, x2_3) =>
((rdRow true h1 [.int .i64, .int .i64, .int .i64, .int .i64, .int .i64, .int .i64, .int .i64, .int .i64] x2_2).bind fun s4 =>
((spileref50_fitsP (x2_0, x2_1, s4, x2_3)).bind fun r3 =>
(bif (!r3) then (some ((0, 1), h1)) else (bif (decide ((128 : Int) < ((a1.len : Nat) : Int))) then (some ((0, 8), h1)) else ((rdT (.leaf (.int .i64)) h1 (.hp h.next 4 3)).bind fun x5 =>
((iter FUEL (spileref50_Settle.loop1 a1) (0, h1)).bind fun (fl15, h14) => match fl15 with
| .next _ => none
| .ret rr16 => (some (rr16, h14))
| .ex0 _ =>
((iter FUEL (spileref50_Settle.loop2 a1) ((x5, 0), h14)).bind fun (fl27, h26) => match fl27 with
| .next _ => none
| .ret rr28 => (some (rr28, h26))
| .ex0 y29 =>
(((bif !(decide (y29 < 0)) then (some ((decide ((1125899906842624 : Int) < y29)), h26)) else (some (true, h26)))).bind fun (y30, h31) =>
(bif y30 then (some ((0, 15), h31)) else (some ((y29, 0), h31))))
| .ex1 _ => none)
| .ex1 _ => none)))))))))
def spileref50_Settle.A : Ann := { lits := [], conds := [], loops := [(7, [7], [.leaf (.int .i64)], [], [], some 0, none), (12, [6, 8], [.leaf (.int .i64), .leaf (.int .i64)], [6], [.leaf (.int .i64)], some 2, none)], regs := [(9, [38], [.leaf .bool]), (14, [60], [.leaf .bool]), (17, [73], [.leaf .bool])] }
theorem spileref50_Settle.eq : ∀ (x : TT [.agg [.int .i64, .int .i64, .slice, .int .i64], .leaf .slice]) (h : H), evalFn Tryd.prog (spileref50_Settle.tb) spileref50_Settle.A Tryd.f30 (.many [.leaf (.int .i64), .leaf (.int .i64)]) (TT.un [.agg [.int .i64, .int .i64, .slice, .int .i64], .leaf .slice] x) h = spileref50_Settle x.1 x.2 h := by
  intro x h
  kernel_rfl
noncomputable def spileref50_Settle.e : Entry := mkX [.agg [.int .i64, .int .i64, .slice, .int .i64], .leaf .slice] (.many [.leaf (.int .i64), .leaf (.int .i64)]) fun x h => spileref50_Settle x.1 x.2 h
theorem spileref50_Settle.ok : EntryOK Tryd.prog 30 (spileref50_Settle.e) := mkX_ok (spileref50_Settle.tbok) Tryd.mixed Tryd.func30 (by kernel_rfl) (spileref50_Settle.eq)
noncomputable def spileref50_SettleP (a0 : (Int × Int × (List (Int × Int × Int × Int × Int × Int × Int × Int)) × Int)) (a1 : (List (Int × Int))) : Option (Int × Int) := (spileref50_Settle (a0.1, a0.2.1, rowSV false [.int .i64, .int .i64, .int .i64, .int .i64, .int .i64, .int .i64, .int .i64, .int .i64] a0.2.2.1, a0.2.2.2) (rowSV false [.int .i64, .int .i64] a1) H.empty).bind fun p => rdRes false p.2 (.many [.leaf (.int .i64), .leaf (.int .i64)]) (Res.un (.many [.leaf (.int .i64), .leaf (.int .i64)]) p.1)
theorem spileref50_SettleP.eq : ∀ x : TT [.agg [.int .i64, .int .i64, .row [.int .i64, .int .i64, .int .i64, .int .i64, .int .i64, .int .i64, .int .i64, .int .i64], .int .i64], .leaf (.row [.int .i64, .int .i64])], ((evalFn Tryd.prog (spileref50_Settle.tb) spileref50_Settle.A Tryd.f30 (.many [.leaf (.int .i64), .leaf (.int .i64)]) (TT.lo false [.agg [.int .i64, .int .i64, .row [.int .i64, .int .i64, .int .i64, .int .i64, .int .i64, .int .i64, .int .i64, .int .i64], .int .i64], .leaf (.row [.int .i64, .int .i64])] x) H.empty).bind fun p => rdRes false p.2 (.many [.leaf (.int .i64), .leaf (.int .i64)]) (Res.un (.many [.leaf (.int .i64), .leaf (.int .i64)]) p.1)) = spileref50_SettleP x.1 x.2 := by
  intro x
  rw [show TT.lo false [.agg [.int .i64, .int .i64, .row [.int .i64, .int .i64, .int .i64, .int .i64, .int .i64, .int .i64, .int .i64, .int .i64], .int .i64], .leaf (.row [.int .i64, .int .i64])] x = TT.un [.agg [.int .i64, .int .i64, .slice, .int .i64], .leaf .slice] ((x.1.1, x.1.2.1, rowSV false [.int .i64, .int .i64, .int .i64, .int .i64, .int .i64, .int .i64, .int .i64, .int .i64] x.1.2.2.1, x.1.2.2.2), (rowSV false [.int .i64, .int .i64] x.2)) from rfl, spileref50_Settle.eq]
  rfl
noncomputable def spileref50_SettleP.e : Entry := mkP [.agg [.int .i64, .int .i64, .row [.int .i64, .int .i64, .int .i64, .int .i64, .int .i64, .int .i64, .int .i64, .int .i64], .int .i64], .leaf (.row [.int .i64, .int .i64])] (.many [.leaf (.int .i64), .leaf (.int .i64)]) fun x => spileref50_SettleP x.1 x.2
theorem spileref50_SettleP.ok : EntryOK Tryd.prog 30 (spileref50_SettleP.e) := mkP_ok (spileref50_Settle.tbok) Tryd.mixed Tryd.func30 (by kernel_rfl) spileref50_SettleP.eq

/-! ### spile/spilelaw50.PeriodAdjusts: function 5 -/
noncomputable def spilelaw50_PeriodAdjusts.tb : Table := tab [(10, spilelaw50_awakeP.e), (24, spileref49_FewP.e), (25, period_AdjustP.e), (26, spilelaw50_cpP.e), (27, spileref50_AdjustP.e), (28, period_SettleP.e), (29, slices_Clone_api_Adjustment_api_AdjustmentP.e), (30, spileref50_SettleP.e), (31, slices_Equal_api_Adjustment_api_AdjustmentP.e)] [] Table.nil
theorem spilelaw50_PeriodAdjusts.tbok : TabOK Tryd.prog (spilelaw50_PeriodAdjusts.tb) := TabOK.tab (TabOK.nil Tryd.prog) (all_cons spilelaw50_awakeP.ok (all_cons spileref49_FewP.ok (all_cons period_AdjustP.ok (all_cons spilelaw50_cpP.ok (all_cons spileref50_AdjustP.ok (all_cons period_SettleP.ok (all_cons slices_Clone_api_Adjustment_api_AdjustmentP.ok (all_cons spileref50_SettleP.ok (all_cons slices_Equal_api_Adjustment_api_AdjustmentP.ok (all_nil _)))))))))) (all_nil _)
noncomputable def spilelaw50_PeriodAdjusts (a0 : (Int × Int × SV × Int)) (a1 : (Int × Int × SV × Int)) (a2 : SV) (h : H) : Option ((Bool) × H) :=
(match a0 with
| (a0_0, a0_1, a0_2, a0_3) =>
(match a1 with
| (a1_0, a1_1, a1_2, a1_3) =>
(let h1 : H := H.new h [.int .i64 a0_0, .int .i64 a0_1, .slice a0_2.a a0_2.len a0_2.cap a0_2.tail, .int .i64 a0_3] 4
(let h2 : H := H.new h1 [.int .i64 a1_0, .int .i64 a1_1, .slice a1_2.a a1_2.len a1_2.cap a1_2.tail, .int .i64 a1_3] 4
((((spilelaw50_awakeP ).bind fun r3 =>
(bif !(!r3) then ((rdT (.agg [.int .i64, .int .i64, .slice, .int .i64]) h2 (.hp h.next 4 0)).bind fun (x4_0, x4_1, x4_2, x4_3) =>
((rdRow true h2 [.int .i64, .int .i64, .int .i64, .int .i64, .int .i64, .int .i64, .int .i64, .int .i64] x4_2).bind fun s6 =>
((spileref49_FewP (x4_0, x4_1, s6, x4_3)).bind fun r5 =>
(bif !(!r5) then ((rdT (.agg [.int .i64, .int .i64, .slice, .int .i64]) h2 (.hp h1.next 4 0)).bind fun (x7_0, x7_1, x7_2, x7_3) =>
((rdRow true h2 [.int .i64, .int .i64, .int .i64, .int .i64, .int .i64, .int .i64, .int .i64, .int .i64] x7_2).bind fun s9 =>
((spileref49_FewP (x7_0, x7_1, s9, x7_3)).bind fun r8 =>
(bif !(!r8) then (bif (decide ((20 : Int) < ((a2.len : Nat) : Int))) then (some ((!(decide (((a2.len : Nat) : Int) = 129))), h2)) else (some (false, h2))) else (some (true, h2)))))) else (some (true, h2)))))) else (some (true, h2))))).bind fun (y10, h11) =>
(bif y10 then ((spilelaw50_awakeP ).bind fun r12 =>
(some (r12, h11))) else (let h13 : H := H.reserve h11 0
((rdT (.agg [.int .i64, .int .i64, .slice, .int .i64]) h13 (.hp h.next 4 0)).bind fun (x14_0, x14_1, x14_2, x14_3) =>
((rdRow true h13 [.int .i64, .int .i64, .int .i64, .int .i64, .int .i64, .int .i64, .int .i64, .int .i64] x14_2).bind fun s16 =>
((spilelaw50_cpP (x14_0, x14_1, s16, x14_3)).bind fun (r15_0, r15_1, r15_2, r15_3) =>
((rdT (.agg [.int .i64, .int .i64, .slice, .int .i64]) h13 (.hp h1.next 4 0)).bind fun (x17_0, x17_1, x17_2, x17_3) =>
((rdRow true h13 [.int .i64, .int .i64, .int .i64, .int .i64, .int .i64, .int .i64, .int .i64, .int .i64] x17_2).bind fun s19 =>
((spilelaw50_cpP (x17_0, x17_1, s19, x17_3)).bind fun (r18_0, r18_1, r18_2, r18_3) =>
((rdRow true h13 [.int .i64, .int .i64, .int .i64, .int .i64, .int .i64, .int .i64, .int .i64, .int .i64] (rowSV true [.int .i64, .int .i64, .int .i64, .int .i64, .int .i64, .int .i64, .int .i64, .int .i64] r15_2)).bind fun s22 =>
((rdRow true h13 [.int .i64, .int .i64, .int .i64, .int .i64, .int .i64, .int .i64, .int .i64, .int .i64] (rowSV true [.int .i64, .int .i64, .int .i64, .int .i64, .int .i64, .int .i64, .int .i64, .int .i64] r18_2)).bind fun s23 =>
((period_AdjustP (r15_0, r15_1, s22, r15_3) (r18_0, r18_1, s23, r18_3)).bind fun (r20, r21) =>
((rdT (.agg [.int .i64, .int .i64, .slice, .int .i64]) h13 (.hp h.next 4 0)).bind fun (x24_0, x24_1, x24_2, x24_3) =>
((rdT (.agg [.int .i64, .int .i64, .slice, .int .i64]) h13 (.hp h1.next 4 0)).bind fun (x25_0, x25_1, x25_2, x25_3) =>
((rdRow true h13 [.int .i64, .int .i64, .int .i64, .int .i64, .int .i64, .int .i64, .int .i64, .int .i64] x24_2).bind fun s28 =>
((rdRow true h13 [.int .i64, .int .i64, .int .i64, .int .i64, .int .i64, .int .i64, .int .i64, .int .i64] x25_2).bind fun s29 =>
((spileref50_AdjustP (x24_0, x24_1, s28, x24_3) (x25_0, x25_1, s29, x25_3)).bind fun (r26, r27) =>
((rdT (.agg [.int .i64, .int .i64, .slice, .int .i64]) h13 (.hp h.next 4 0)).bind fun (x30_0, x30_1, x30_2, x30_3) =>
((rdRow true h13 [.int .i64, .int .i64, .int .i64, .int .i64, .int .i64, .int .i64, .int .i64, .int .i64] x30_2).bind fun s32 =>
((spilelaw50_cpP (x30_0, x30_1, s32, x30_3)).bind fun (r31_0, r31_1, r31_2, r31_3) =>
((rdRow true h13 [.int .i64, .int .i64] a2).bind fun s34 =>
((cloneP 16 s34).bind fun r33 =>
((rdRow true h13 [.int .i64, .int .i64, .int .i64, .int .i64, .int .i64, .int .i64, .int .i64, .int .i64] (rowSV true [.int .i64, .int .i64, .int .i64, .int .i64, .int .i64, .int .i64, .int .i64, .int .i64] r31_2)).bind fun s37 =>
((rdRow true h13 [.int .i64, .int .i64] (rowSV true [.int .i64, .int .i64] r33)).bind fun s38 =>
((period_SettleP (r31_0, r31_1, s37, r31_3) s38).bind fun (r35, r36) =>
((rdT (.agg [.int .i64, .int .i64, .slice, .int .i64]) h13 (.hp h.next 4 0)).bind fun (x39_0, x39_1, x39_2, x39_3) =>
((rdRow true h13 [.int .i64, .int .i64, .int .i64, .int .i64, .int .i64, .int .i64, .int .i64, .int .i64] x39_2).bind fun s42 =>
((rdRow true h13 [.int .i64, .int .i64] a2).bind fun s43 =>
((spileref50_SettleP (x39_0, x39_1, s42, x39_3) s43).bind fun (r40, r41) =>
((((rdRow true h13 [.int .i64, .int .i64] (rowSV true [.int .i64, .int .i64] r20)).bind fun s45 =>
((rdRow true h13 [.int .i64, .int .i64] (rowSV true [.int .i64, .int .i64] r26)).bind fun s46 =>
((slices_Equal_api_Adjustment_api_AdjustmentP s45 s46).bind fun r44 =>
(bif r44 then (bif (decide (r21 = r27)) then (bif (decide (r35 = r40)) then (some ((decide (r36 = r41)), h13)) else (some (false, h13))) else (some (false, h13))) else (some (false, h13))))))).bind fun (y47, h48) =>
(some (y47, h48))))))))))))))))))))))))))))))))))))
def spilelaw50_PeriodAdjusts.A : Ann := { lits := [], conds := [], loops := [], regs := [(1, [36], [.leaf .bool]), (7, [6], [.leaf .bool])] }
theorem spilelaw50_PeriodAdjusts.eq : ∀ (x : TT [.agg [.int .i64, .int .i64, .slice, .int .i64], .agg [.int .i64, .int .i64, .slice, .int .i64], .leaf .slice]) (h : H), evalFn Tryd.prog (spilelaw50_PeriodAdjusts.tb) spilelaw50_PeriodAdjusts.A Tryd.f5 (.one (.leaf .bool)) (TT.un [.agg [.int .i64, .int .i64, .slice, .int .i64], .agg [.int .i64, .int .i64, .slice, .int .i64], .leaf .slice] x) h = spilelaw50_PeriodAdjusts x.1 x.2.1 x.2.2 h := by
  intro x h
  kernel_rfl
noncomputable def spilelaw50_PeriodAdjusts.e : Entry := mkX [.agg [.int .i64, .int .i64, .slice, .int .i64], .agg [.int .i64, .int .i64, .slice, .int .i64], .leaf .slice] (.one (.leaf .bool)) fun x h => spilelaw50_PeriodAdjusts x.1 x.2.1 x.2.2 h
theorem spilelaw50_PeriodAdjusts.ok : EntryOK Tryd.prog 5 (spilelaw50_PeriodAdjusts.e) := mkX_ok (spilelaw50_PeriodAdjusts.tbok) Tryd.mixed Tryd.func5 (by kernel_rfl) (spilelaw50_PeriodAdjusts.eq)
noncomputable def spilelaw50_PeriodAdjustsP (a0 : (Int × Int × (List (Int × Int × Int × Int × Int × Int × Int × Int)) × Int)) (a1 : (Int × Int × (List (Int × Int × Int × Int × Int × Int × Int × Int)) × Int)) (a2 : (List (Int × Int))) : Option (Bool) := (spilelaw50_PeriodAdjusts (a0.1, a0.2.1, rowSV false [.int .i64, .int .i64, .int .i64, .int .i64, .int .i64, .int .i64, .int .i64, .int .i64] a0.2.2.1, a0.2.2.2) (a1.1, a1.2.1, rowSV false [.int .i64, .int .i64, .int .i64, .int .i64, .int .i64, .int .i64, .int .i64, .int .i64] a1.2.2.1, a1.2.2.2) (rowSV false [.int .i64, .int .i64] a2) H.empty).bind fun p => rdRes false p.2 (.one (.leaf .bool)) (Res.un (.one (.leaf .bool)) p.1)
theorem spilelaw50_PeriodAdjustsP.eq : ∀ x : TT [.agg [.int .i64, .int .i64, .row [.int .i64, .int .i64, .int .i64, .int .i64, .int .i64, .int .i64, .int .i64, .int .i64], .int .i64], .agg [.int .i64, .int .i64, .row [.int .i64, .int .i64, .int .i64, .int .i64, .int .i64, .int .i64, .int .i64, .int .i64], .int .i64], .leaf (.row [.int .i64, .int .i64])], ((evalFn Tryd.prog (spilelaw50_PeriodAdjusts.tb) spilelaw50_PeriodAdjusts.A Tryd.f5 (.one (.leaf .bool)) (TT.lo false [.agg [.int .i64, .int .i64, .row [.int .i64, .int .i64, .int .i64, .int .i64, .int .i64, .int .i64, .int .i64, .int .i64], .int .i64], .agg [.int .i64, .int .i64, .row [.int .i64, .int .i64, .int .i64, .int .i64, .int .i64, .int .i64, .int .i64, .int .i64], .int .i64], .leaf (.row [.int .i64, .int .i64])] x) H.empty).bind fun p => rdRes false p.2 (.one (.leaf .bool)) (Res.un (.one (.leaf .bool)) p.1)) = spilelaw50_PeriodAdjustsP x.1 x.2.1 x.2.2 := by
  intro x
  rw [show TT.lo false [.agg [.int .i64, .int .i64, .row [.int .i64, .int .i64, .int .i64, .int .i64, .int .i64, .int .i64, .int .i64, .int .i64], .int .i64], .agg [.int .i64, .int .i64, .row [.int .i64, .int .i64, .int .i64, .int .i64, .int .i64, .int .i64, .int .i64, .int .i64], .int .i64], .leaf (.row [.int .i64, .int .i64])] x = TT.un [.agg [.int .i64, .int .i64, .slice, .int .i64], .agg [.int .i64, .int .i64, .slice, .int .i64], .leaf .slice] ((x.1.1, x.1.2.1, rowSV false [.int .i64, .int .i64, .int .i64, .int .i64, .int .i64, .int .i64, .int .i64, .int .i64] x.1.2.2.1, x.1.2.2.2), (x.2.1.1, x.2.1.2.1, rowSV false [.int .i64, .int .i64, .int .i64, .int .i64, .int .i64, .int .i64, .int .i64, .int .i64] x.2.1.2.2.1, x.2.1.2.2.2), (rowSV false [.int .i64, .int .i64] x.2.2)) from rfl, spilelaw50_PeriodAdjusts.eq]
  rfl
noncomputable def spilelaw50_PeriodAdjustsP.e : Entry := mkP [.agg [.int .i64, .int .i64, .row [.int .i64, .int .i64, .int .i64, .int .i64, .int .i64, .int .i64, .int .i64, .int .i64], .int .i64], .agg [.int .i64, .int .i64, .row [.int .i64, .int .i64, .int .i64, .int .i64, .int .i64, .int .i64, .int .i64, .int .i64], .int .i64], .leaf (.row [.int .i64, .int .i64])] (.one (.leaf .bool)) fun x => spilelaw50_PeriodAdjustsP x.1 x.2.1 x.2.2
theorem spilelaw50_PeriodAdjustsP.ok : EntryOK Tryd.prog 5 (spilelaw50_PeriodAdjustsP.e) := mkP_ok (spilelaw50_PeriodAdjusts.tbok) Tryd.mixed Tryd.func5 (by kernel_rfl) spilelaw50_PeriodAdjustsP.eq

/-! ### spile/spilelaw50.PeriodCovers: function 6 -/
noncomputable def spilelaw50_PeriodCovers.tb : Table := tab [(10, spilelaw50_awakeP.e), (11, spileref50_FewP.e), (12, period_CheckP.e), (13, slices_Clone_api_Period_api_PeriodP.e), (15, period_OfP.e)] [] Table.nil
theorem spilelaw50_PeriodCovers.tbok : TabOK Tryd.prog (spilelaw50_PeriodCovers.tb) := TabOK.tab (TabOK.nil Tryd.prog) (all_cons spilelaw50_awakeP.ok (all_cons spileref50_FewP.ok (all_cons period_CheckP.ok (all_cons slices_Clone_api_Period_api_PeriodP.ok (all_cons period_OfP.ok (all_nil _)))))) (all_nil _)
noncomputable def spilelaw50_PeriodCovers.loop1 (a0 : SV) (a1 : Int) : (Int × Int) × H → Option (Stp ((Int × Int) × H) (Flow (Int) (Bool) × H)) := fun ((y30, y31), h32) =>
(bif (decide (y31 < ((a0.len : Nat) : Int))) then (guardO (0 ≤ y31 ∧ y31 < ((a0.len : Nat) : Int)) ((rdT (.agg [.int .i64, .int .i64, .int .i64, .bool]) h32 (V.add a0.a (Int.toNat y31 * 4))).bind fun (x33_0, x33_1, x33_2, x33_3) =>
(let h34 : H := H.new h32 [.int .i64 0, .int .i64 0, .int .i64 0, .bool false] 4
((H.wrs h34 (.hp h32.next 4 0) [.int .i64 x33_0, .int .i64 x33_1, .int .i64 x33_2, .bool x33_3]).bind fun h35 =>
((((rdT (.leaf (.int .i64)) h35 (.hp h32.next 4 0)).bind fun x36 =>
(bif (decide (x36 ≤ a1)) then ((rdT (.leaf (.int .i64)) h35 (.hp h32.next 4 1)).bind fun x37 =>
(some ((decide (a1 ≤ x37)), h35))) else (some (false, h35))))).bind fun (y38, h39) =>
((bif y38 then (some (.next (IntKind.wrap .i64 (y30 + 1)), h39)) else (some (.next y30, h39)) : Option (Flow (Int) (Bool) × H)).bind fun (fl41, h40) => match fl41 with
| .next y42 =>
(some (.more ((y42, (IntKind.wrap .i64 (y31 + 1))), h40)))
| .ret rr43 => (some (.done (.ret rr43, h40)))
| .ex0 _ => none
| .ex1 _ => none)))))) else (some (.done (.ex0 y30, h32))))
noncomputable def spilelaw50_PeriodCovers (a0 : SV) (a1 : Int) (h : H) : Option ((Bool) × H) :=
((((spilelaw50_awakeP ).bind fun r1 =>
(bif !(!r1) then ((rdRow true h [.int .i64, .int .i64, .int .i64, .bool] a0).bind fun s3 =>
((spileref50_FewP s3).bind fun r2 =>
(some ((!r2), h)))) else (some (true, h))))).bind fun (y4, h5) =>
(bif y4 then ((spilelaw50_awakeP ).bind fun r6 =>
(some (r6, h5))) else ((rdRow true h5 [.int .i64, .int .i64, .int .i64, .bool] a0).bind fun s8 =>
((cloneP 32 s8).bind fun r7 =>
((rdRow true h5 [.int .i64, .int .i64, .int .i64, .bool] (rowSV true [.int .i64, .int .i64, .int .i64, .bool] r7)).bind fun s11 =>
((period_CheckP s11).bind fun (r9, r10) =>
(bif (!(decide (r10 = 0))) then ((rdRow true h5 [.int .i64, .int .i64, .int .i64, .bool] a0).bind fun s13 =>
((cloneP 32 s13).bind fun r12 =>
((rdRow true h5 [.int .i64, .int .i64, .int .i64, .bool] (rowSV true [.int .i64, .int .i64, .int .i64, .bool] r12)).bind fun s16 =>
((period_OfP s16 a1).bind fun (r14, r15) =>
(((bif (decide (r14 = (-1))) then (some ((decide (r15 = 1)), h5)) else (some (false, h5)))).bind fun (y17, h18) =>
(some (y17, h18))))))) else ((rdRow true h5 [.int .i64, .int .i64, .int .i64, .bool] a0).bind fun s20 =>
((cloneP 32 s20).bind fun r19 =>
((rdRow true h5 [.int .i64, .int .i64, .int .i64, .bool] (rowSV true [.int .i64, .int .i64, .int .i64, .bool] r19)).bind fun s23 =>
((period_OfP s23 a1).bind fun (r21, r22) =>
(((bif !(decide (((a0.len : Nat) : Int) = 0)) then (guardO (0 ≤ (0 : Int) ∧ 0 < ((a0.len : Nat) : Int)) (guardO (V.nn ((V.add a0.a 0) : V) = true) ((rdT (.leaf (.int .i64)) h5 (V.add (V.add a0.a 0) 0)).bind fun x24 =>
(bif !(decide (a1 < x24)) then (guardO (0 ≤ (IntKind.wrap .i64 (((a0.len : Nat) : Int) - 1)) ∧ (IntKind.wrap .i64 (((a0.len : Nat) : Int) - 1)) < ((a0.len : Nat) : Int)) (guardO (V.nn ((V.add a0.a (Int.toNat (IntKind.wrap .i64 (((a0.len : Nat) : Int) - 1)) * 4)) : V) = true) ((rdT (.leaf (.int .i64)) h5 (V.add (V.add a0.a (Int.toNat (IntKind.wrap .i64 (((a0.len : Nat) : Int) - 1)) * 4)) 1)).bind fun x25 =>
(some ((decide (x25 < a1)), h5))))) else (some (true, h5)))))) else (some (true, h5)))).bind fun (y26, h27) =>
(bif y26 then (((bif (decide (r21 = (-1))) then (some ((decide (r22 = 7)), h27)) else (some (false, h27)))).bind fun (y28, h29) =>
(some (y28, h29))) else ((iter FUEL (spilelaw50_PeriodCovers.loop1 a0 a1) ((0, 0), h27)).bind fun (fl45, h44) => match fl45 with
| .next _ => none
| .ret rr46 => (some (rr46, h44))
| .ex0 y47 =>
(((bif (decide (r22 = 0)) then (bif (decide ((0 : Int) ≤ r21)) then (bif (decide (r21 < ((a0.len : Nat) : Int))) then (bif (decide (y47 = 1)) then (guardO (0 ≤ r21 ∧ r21 < ((a0.len : Nat) : Int)) (guardO (V.nn ((V.add a0.a (Int.toNat r21 * 4)) : V) = true) ((rdT (.leaf (.int .i64)) h44 (V.add (V.add a0.a (Int.toNat r21 * 4)) 0)).bind fun x48 =>
(bif (decide (x48 ≤ a1)) then (guardO (0 ≤ r21 ∧ r21 < ((a0.len : Nat) : Int)) (guardO (V.nn ((V.add a0.a (Int.toNat r21 * 4)) : V) = true) ((rdT (.leaf (.int .i64)) h44 (V.add (V.add a0.a (Int.toNat r21 * 4)) 1)).bind fun x49 =>
(some ((decide (a1 ≤ x49)), h44))))) else (some (false, h44)))))) else (some (false, h44))) else (some (false, h44))) else (some (false, h44))) else (some (false, h44)))).bind fun (y50, h51) =>
(some (y50, h51)))
| .ex1 _ => none))))))))))))))
def spilelaw50_PeriodCovers.A : Ann := { lits := [], conds := [(93, [11], [.leaf (.int .i64)], none, none)], loops := [(12, [11, 80], [.leaf (.int .i64), .leaf (.int .i64)], [11], [.leaf (.int .i64)], some 0, none)], regs := [(1, [20], [.leaf .bool]), (6, [4], [.leaf .bool]), (8, [71], [.leaf .bool]), (9, [4], [.leaf .bool]), (14, [93], [.leaf .bool]), (17, [4], [.leaf .bool])] }
theorem spilelaw50_PeriodCovers.eq : ∀ (x : TT [.leaf .slice, .leaf (.int .i64)]) (h : H), evalFn Tryd.prog (spilelaw50_PeriodCovers.tb) spilelaw50_PeriodCovers.A Tryd.f6 (.one (.leaf .bool)) (TT.un [.leaf .slice, .leaf (.int .i64)] x) h = spilelaw50_PeriodCovers x.1 x.2 h := by
  intro x h
  kernel_rfl
noncomputable def spilelaw50_PeriodCovers.e : Entry := mkX [.leaf .slice, .leaf (.int .i64)] (.one (.leaf .bool)) fun x h => spilelaw50_PeriodCovers x.1 x.2 h
theorem spilelaw50_PeriodCovers.ok : EntryOK Tryd.prog 6 (spilelaw50_PeriodCovers.e) := mkX_ok (spilelaw50_PeriodCovers.tbok) Tryd.mixed Tryd.func6 (by kernel_rfl) (spilelaw50_PeriodCovers.eq)
noncomputable def spilelaw50_PeriodCoversP (a0 : (List (Int × Int × Int × Bool))) (a1 : Int) : Option (Bool) := (spilelaw50_PeriodCovers (rowSV false [.int .i64, .int .i64, .int .i64, .bool] a0) a1 H.empty).bind fun p => rdRes false p.2 (.one (.leaf .bool)) (Res.un (.one (.leaf .bool)) p.1)
theorem spilelaw50_PeriodCoversP.eq : ∀ x : TT [.leaf (.row [.int .i64, .int .i64, .int .i64, .bool]), .leaf (.int .i64)], ((evalFn Tryd.prog (spilelaw50_PeriodCovers.tb) spilelaw50_PeriodCovers.A Tryd.f6 (.one (.leaf .bool)) (TT.lo false [.leaf (.row [.int .i64, .int .i64, .int .i64, .bool]), .leaf (.int .i64)] x) H.empty).bind fun p => rdRes false p.2 (.one (.leaf .bool)) (Res.un (.one (.leaf .bool)) p.1)) = spilelaw50_PeriodCoversP x.1 x.2 := by
  intro x
  rw [show TT.lo false [.leaf (.row [.int .i64, .int .i64, .int .i64, .bool]), .leaf (.int .i64)] x = TT.un [.leaf .slice, .leaf (.int .i64)] ((rowSV false [.int .i64, .int .i64, .int .i64, .bool] x.1), x.2) from rfl, spilelaw50_PeriodCovers.eq]
  rfl
noncomputable def spilelaw50_PeriodCoversP.e : Entry := mkP [.leaf (.row [.int .i64, .int .i64, .int .i64, .bool]), .leaf (.int .i64)] (.one (.leaf .bool)) fun x => spilelaw50_PeriodCoversP x.1 x.2
theorem spilelaw50_PeriodCoversP.ok : EntryOK Tryd.prog 6 (spilelaw50_PeriodCoversP.e) := mkP_ok (spilelaw50_PeriodCovers.tbok) Tryd.mixed Tryd.func6 (by kernel_rfl) spilelaw50_PeriodCoversP.eq

/-! ### spile/spilelaw50.PeriodOpen: function 7 -/
noncomputable def spilelaw50_PeriodOpen.tb : Table := tab [(10, spilelaw50_awakeP.e), (11, spileref50_FewP.e), (12, period_CheckP.e), (13, slices_Clone_api_Period_api_Period.e), (15, period_OfP.e), (17, period_ChargedP.e), (21, period_CloseP.e), (23, slices_Equal_api_Period_api_PeriodP.e)] [(33, spilelaw50_PeriodOpen_1P.e), (35, spilelaw50_PeriodOpen_2P.e)] Table.nil
theorem spilelaw50_PeriodOpen.tbok : TabOK Tryd.prog (spilelaw50_PeriodOpen.tb) := TabOK.tab (TabOK.nil Tryd.prog) (all_cons spilelaw50_awakeP.ok (all_cons spileref50_FewP.ok (all_cons period_CheckP.ok (all_cons slices_Clone_api_Period_api_Period.ok (all_cons period_OfP.ok (all_cons period_ChargedP.ok (all_cons period_CloseP.ok (all_cons slices_Equal_api_Period_api_PeriodP.ok (all_nil _))))))))) (all_cons spilelaw50_PeriodOpen_1P.ok (all_cons spilelaw50_PeriodOpen_2P.ok (all_nil _)))
noncomputable def spilelaw50_PeriodOpen.loop1 (a0 : SV) (a1 : Int) (r14 : Int) (r15 : Int) (r17 : SV) : (Int) × H → Option (Stp ((Int) × H) (Flow (Unit) (Bool) × H)) := fun (y19, h20) =>
(bif (decide (y19 < (IntKind.wrap .i64 (((a0.len : Nat) : Int) + 1)))) then ((cloneX 4 32 r17 h20).bind fun (r21, h22) =>
((rdRow true h22 [.int .i64, .int .i64, .int .i64, .bool] r21).bind fun s25 =>
((period_ChargedP s25 a1).bind fun (r23, r24) =>
((cloneX 4 32 r17 h22).bind fun (r26, h27) =>
((rdRow true h27 [.int .i64, .int .i64, .int .i64, .bool] r26).bind fun s30 =>
((period_CloseP s30).bind fun (r28, r29) =>
((bif (!(decide (r15 = 0))) then (((bif !(!(decide (r24 = r15))) then (some ((!(decide (r23 = (-1)))), h27)) else (some (true, h27)))).bind fun (y31, h32) =>
(bif y31 then (some (.ret false, h32)) else (some (.next (), h32)))) else (((bif (decide (r24 = 0)) then (bif !(decide (r23 < r14)) then (bif !(decide (((r17.len : Nat) : Int) ≤ r23)) then (guardO (0 ≤ r23 ∧ r23 < ((r17.len : Nat) : Int)) (guardO (V.nn ((V.add r17.a (Int.toNat r23 * 4)) : V) = true) ((rdT (.leaf .bool) h27 (V.add (V.add r17.a (Int.toNat r23 * 4)) 3)).bind fun x33 =>
(bif !x33 then (bif (!(decide (r24 = 0))) then (bif !(!(decide (r24 = 11))) then (some ((!(decide (r29 = 11))), h27)) else (some (true, h27))) else (some (false, h27))) else (some (true, h27)))))) else (some (true, h27))) else (some (true, h27))) else (bif (!(decide (r24 = 0))) then (bif !(!(decide (r24 = 11))) then (some ((!(decide (r29 = 11))), h27)) else (some (true, h27))) else (some (false, h27))))).bind fun (y34, h35) =>
(bif y34 then (some (.ret false, h35)) else (some (.next (), h35)))) : Option (Flow (Unit) (Bool) × H)).bind fun (fl37, h36) => match fl37 with
| .next _ =>
(bif (!(decide (r29 = 0))) then (((bif (decide (r29 = 11)) then ((slices_ContainsFunc_api_Period_api_Period spilelaw50_PeriodOpen.tb r17 (.func 33 [] : V) h36).bind fun (r38, h39) =>
(some ((!r38), h39))) else (some (false, h36)))).bind fun (y40, h41) =>
(some (.done (.ret y40, h41)))) else ((slices_IndexFunc_api_Period_api_Period spilelaw50_PeriodOpen.tb r17 (.func 35 [] : V) h36).bind fun (r42, h43) =>
(((bif !(decide (r42 < 0)) then (bif !(!(decide (((r28.length : Nat) : Int) = ((r17.len : Nat) : Int)))) then (guardO (0 ≤ r42 ∧ r42 < ((r28.length : Nat) : Int)) (guardO (V.nn ((V.add ((rowSV true [.int .i64, .int .i64, .int .i64, .bool] r28).a) (Int.toNat r42 * 4)) : V) = true) ((rdT (.leaf .bool) h43 (V.add (V.add ((rowSV true [.int .i64, .int .i64, .int .i64, .bool] r28).a) (Int.toNat r42 * 4)) 3)).bind fun x44 =>
(some ((!x44), h43))))) else (some (true, h43))) else (some (true, h43)))).bind fun (y45, h46) =>
(bif y45 then (some (.done (.ret false, h46))) else (guardO (0 ≤ r42 ∧ r42 < ((r17.len : Nat) : Int)) (guardO (V.nn ((V.add r17.a (Int.toNat r42 * 4)) : V) = true) ((H.wrs h46 (V.add (V.add r17.a (Int.toNat r42 * 4)) 3) [.bool true]).bind fun h47 =>
((rdRow true h47 [.int .i64, .int .i64, .int .i64, .bool] r17).bind fun s49 =>
((rdRow true h47 [.int .i64, .int .i64, .int .i64, .bool] (rowSV true [.int .i64, .int .i64, .int .i64, .bool] r28)).bind fun s50 =>
((slices_Equal_api_Period_api_PeriodP s49 s50).bind fun r48 =>
(bif (!r48) then (some (.done (.ret false, h47))) else (some (.more ((IntKind.wrap .i64 (y19 + 1)), h47))))))))))))))
| .ret rr51 => (some (.done (.ret rr51, h36)))
| .ex0 _ => none
| .ex1 _ => none))))))) else (some (.done (.ex0 (), h20))))
noncomputable def spilelaw50_PeriodOpen (a0 : SV) (a1 : Int) (h : H) : Option ((Bool) × H) :=
((((spilelaw50_awakeP ).bind fun r1 =>
(bif !(!r1) then ((rdRow true h [.int .i64, .int .i64, .int .i64, .bool] a0).bind fun s3 =>
((spileref50_FewP s3).bind fun r2 =>
(some ((!r2), h)))) else (some (true, h))))).bind fun (y4, h5) =>
(bif y4 then ((spilelaw50_awakeP ).bind fun r6 =>
(some (r6, h5))) else ((cloneX 4 32 a0 h5).bind fun (r7, h8) =>
((rdRow true h8 [.int .i64, .int .i64, .int .i64, .bool] r7).bind fun s11 =>
((period_CheckP s11).bind fun (r9, r10) =>
(bif (!(decide (r10 = 0))) then (some (true, h8)) else ((cloneX 4 32 a0 h8).bind fun (r12, h13) =>
((rdRow true h13 [.int .i64, .int .i64, .int .i64, .bool] r12).bind fun s16 =>
((period_OfP s16 a1).bind fun (r14, r15) =>
((cloneX 4 32 a0 h13).bind fun (r17, h18) =>
((iter FUEL (spilelaw50_PeriodOpen.loop1 a0 a1 r14 r15 r17) (0, h18)).bind fun (fl53, h52) => match fl53 with
| .next _ => none
| .ret rr54 => (some (rr54, h52))
| .ex0 _ =>
(some (false, h52))
| .ex1 _ => none)))))))))))
def spilelaw50_PeriodOpen.A : Ann := { lits := [], conds := [(59, [], [], none, none)], loops := [(9, [43], [.leaf (.int .i64)], [], [], some 0, none)], regs := [(1, [21], [.leaf .bool]), (13, [66], [.leaf .bool]), (15, [98], [.leaf .bool]), (18, [4], [.leaf .bool]), (20, [126], [.leaf .bool])] }
noncomputable def spilelaw50_PeriodOpen.tc : Table := tab [(32, slices_ContainsFunc_api_Period_api_Period.e (spilelaw50_PeriodOpen.tb)), (34, slices_IndexFunc_api_Period_api_Period.e (spilelaw50_PeriodOpen.tb))] [] (spilelaw50_PeriodOpen.tb)
theorem spilelaw50_PeriodOpen.tcok : TabOK Tryd.prog (spilelaw50_PeriodOpen.tc) := TabOK.tab (spilelaw50_PeriodOpen.tbok) (all_cons (slices_ContainsFunc_api_Period_api_Period.ok _ (spilelaw50_PeriodOpen.tbok)) (all_cons (slices_IndexFunc_api_Period_api_Period.ok _ (spilelaw50_PeriodOpen.tbok)) (all_nil _))) (all_nil _)
theorem spilelaw50_PeriodOpen.eq : ∀ (x : TT [.leaf .slice, .leaf (.int .i64)]) (h : H), evalFn Tryd.prog (spilelaw50_PeriodOpen.tc) spilelaw50_PeriodOpen.A Tryd.f7 (.one (.leaf .bool)) (TT.un [.leaf .slice, .leaf (.int .i64)] x) h = spilelaw50_PeriodOpen x.1 x.2 h := by
  intro x h
  kernel_rfl
noncomputable def spilelaw50_PeriodOpen.e : Entry := mkX [.leaf .slice, .leaf (.int .i64)] (.one (.leaf .bool)) fun x h => spilelaw50_PeriodOpen x.1 x.2 h
theorem spilelaw50_PeriodOpen.ok : EntryOK Tryd.prog 7 (spilelaw50_PeriodOpen.e) := mkX_ok (spilelaw50_PeriodOpen.tcok) Tryd.mixed Tryd.func7 (by kernel_rfl) (spilelaw50_PeriodOpen.eq)
noncomputable def spilelaw50_PeriodOpenP (a0 : (List (Int × Int × Int × Bool))) (a1 : Int) : Option (Bool) := (spilelaw50_PeriodOpen (rowSV false [.int .i64, .int .i64, .int .i64, .bool] a0) a1 H.empty).bind fun p => rdRes false p.2 (.one (.leaf .bool)) (Res.un (.one (.leaf .bool)) p.1)
theorem spilelaw50_PeriodOpenP.eq : ∀ x : TT [.leaf (.row [.int .i64, .int .i64, .int .i64, .bool]), .leaf (.int .i64)], ((evalFn Tryd.prog (spilelaw50_PeriodOpen.tc) spilelaw50_PeriodOpen.A Tryd.f7 (.one (.leaf .bool)) (TT.lo false [.leaf (.row [.int .i64, .int .i64, .int .i64, .bool]), .leaf (.int .i64)] x) H.empty).bind fun p => rdRes false p.2 (.one (.leaf .bool)) (Res.un (.one (.leaf .bool)) p.1)) = spilelaw50_PeriodOpenP x.1 x.2 := by
  intro x
  rw [show TT.lo false [.leaf (.row [.int .i64, .int .i64, .int .i64, .bool]), .leaf (.int .i64)] x = TT.un [.leaf .slice, .leaf (.int .i64)] ((rowSV false [.int .i64, .int .i64, .int .i64, .bool] x.1), x.2) from rfl, spilelaw50_PeriodOpen.eq]
  rfl
noncomputable def spilelaw50_PeriodOpenP.e : Entry := mkP [.leaf (.row [.int .i64, .int .i64, .int .i64, .bool]), .leaf (.int .i64)] (.one (.leaf .bool)) fun x => spilelaw50_PeriodOpenP x.1 x.2
theorem spilelaw50_PeriodOpenP.ok : EntryOK Tryd.prog 7 (spilelaw50_PeriodOpenP.e) := mkP_ok (spilelaw50_PeriodOpen.tcok) Tryd.mixed Tryd.func7 (by kernel_rfl) spilelaw50_PeriodOpenP.eq
end Go.Proofs.YtedhmdocimkldaaDoor
