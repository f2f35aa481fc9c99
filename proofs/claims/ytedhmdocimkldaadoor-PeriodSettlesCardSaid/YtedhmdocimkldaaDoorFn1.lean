/- The functions of the program as Lean functions, each with the equation by which the evaluator is that function. Written by a program of this session (evdrive.py). Conditions: none. -/
import Derived.Test.YtedhmdocimkldaaDoorProg
import Derived.Test.YtedhmdocimkldaaDoorEvSpec
import Derived.Test.YtedhmdocimkldaaDoorFn0
namespace Go.Proofs.YtedhmdocimkldaaDoor
open Go Go.Proofs.YtedhmdocimkldaaDoor.Ev
set_option maxRecDepth 100000
set_option linter.unusedVariables false
/-! ### spile/period.Plan: function 19 -/
noncomputable def period_Plan.tb : Table := tab [(42, period_withinP.e)] [] Table.nil
theorem period_Plan.tbok : TabOK Tryd.prog (period_Plan.tb) := TabOK.tab (TabOK.nil Tryd.prog) (all_cons period_withinP.ok (all_nil _)) (all_nil _)
noncomputable def period_Plan.loop1 (a1 : Int) (a2 : Int) (a3 : Int) : (SV × Int × Int) × H → Option (Stp ((SV × Int × Int) × H) (Flow (SV) (SV × Int) × H)) := fun ((y7, y8, y9), h10) =>
(bif (decide (y9 < a2)) then (bif (decide ((100000 : Int) < (IntKind.wrap .i64 ((IntKind.wrap .i64 ((IntKind.wrap .i64 (y8 + a1)) - 1)) + a3)))) then (some (.done (.ret (⟨.nil, 0, 0, false⟩, 15), h10))) else ((appendS h10 none 4 32 y7 [.int .i64 y8, .int .i64 (IntKind.wrap .i64 ((IntKind.wrap .i64 (y8 + a1)) - 1)), .int .i64 (IntKind.wrap .i64 ((IntKind.wrap .i64 ((IntKind.wrap .i64 (y8 + a1)) - 1)) + a3)), .bool false] 1).bind fun (s13, h12) =>
(some (.more ((s13, (IntKind.wrap .i64 ((IntKind.wrap .i64 ((IntKind.wrap .i64 (y8 + a1)) - 1)) + 1)), (IntKind.wrap .i64 (y9 + 1))), h12))))) else (some (.done (.ex0 y7, h10))))
noncomputable def period_Plan (a0 : Int) (a1 : Int) (a2 : Int) (a3 : Int) (h : H) : Option ((SV × Int) × H) :=
((((period_withinP a0 0 100000).bind fun r1 =>
(bif !(!r1) then ((period_withinP a1 1 100000).bind fun r2 =>
(bif !(!r2) then ((period_withinP a2 1 64).bind fun r3 =>
(bif !(!r3) then ((period_withinP a3 0 100000).bind fun r4 =>
(some ((!r4), h))) else (some (true, h)))) else (some (true, h)))) else (some (true, h))))).bind fun (y5, h6) =>
(bif y5 then (some ((⟨.nil, 0, 0, false⟩, 2), h6)) else ((iter FUEL (period_Plan.loop1 a1 a2 a3) ((⟨.nil, 0, 0, false⟩, a0, 0), h6)).bind fun (fl16, h15) => match fl16 with
| .next _ => none
| .ret rr17 => (some (rr17, h15))
| .ex0 y18 =>
(some ((y18, 0), h15))
| .ex1 _ => none)))
def period_Plan.A : Ann := { lits := [], conds := [], loops := [(5, [10, 0, 31], [.leaf .slice, .leaf (.int .i64), .leaf (.int .i64)], [10], [.leaf .slice], some 0, none)], regs := [(1, [29], [.leaf .bool])] }
theorem period_Plan.eq : ∀ (x : TT [.leaf (.int .i64), .leaf (.int .i64), .leaf (.int .i64), .leaf (.int .i64)]) (h : H), evalFn Tryd.prog (period_Plan.tb) period_Plan.A Tryd.f19 (.many [.leaf .slice, .leaf (.int .i64)]) (TT.un [.leaf (.int .i64), .leaf (.int .i64), .leaf (.int .i64), .leaf (.int .i64)] x) h = period_Plan x.1 x.2.1 x.2.2.1 x.2.2.2 h := by
  intro x h
  kernel_rfl
noncomputable def period_Plan.e : Entry := mkX [.leaf (.int .i64), .leaf (.int .i64), .leaf (.int .i64), .leaf (.int .i64)] (.many [.leaf .slice, .leaf (.int .i64)]) fun x h => period_Plan x.1 x.2.1 x.2.2.1 x.2.2.2 h
theorem period_Plan.ok : EntryOK Tryd.prog 19 (period_Plan.e) := mkX_ok (period_Plan.tbok) Tryd.mixed Tryd.func19 (by kernel_rfl) (period_Plan.eq)
noncomputable def period_PlanP (a0 : Int) (a1 : Int) (a2 : Int) (a3 : Int) : Option ((List (Int × Int × Int × Bool)) × Int) := (period_Plan a0 a1 a2 a3 H.empty).bind fun p => rdRes false p.2 (.many [.leaf (.row [.int .i64, .int .i64, .int .i64, .bool]), .leaf (.int .i64)]) (Res.un (.many [.leaf .slice, .leaf (.int .i64)]) p.1)
theorem period_PlanP.eq : ∀ x : TT [.leaf (.int .i64), .leaf (.int .i64), .leaf (.int .i64), .leaf (.int .i64)], ((evalFn Tryd.prog (period_Plan.tb) period_Plan.A Tryd.f19 (.many [.leaf .slice, .leaf (.int .i64)]) (TT.lo false [.leaf (.int .i64), .leaf (.int .i64), .leaf (.int .i64), .leaf (.int .i64)] x) H.empty).bind fun p => rdRes false p.2 (.many [.leaf (.row [.int .i64, .int .i64, .int .i64, .bool]), .leaf (.int .i64)]) (Res.un (.many [.leaf .slice, .leaf (.int .i64)]) p.1)) = period_PlanP x.1 x.2.1 x.2.2.1 x.2.2.2 := by
  intro x
  rw [show TT.lo false [.leaf (.int .i64), .leaf (.int .i64), .leaf (.int .i64), .leaf (.int .i64)] x = TT.un [.leaf (.int .i64), .leaf (.int .i64), .leaf (.int .i64), .leaf (.int .i64)] (x.1, x.2.1, x.2.2.1, x.2.2.2) from rfl, period_Plan.eq]
  rfl
noncomputable def period_PlanP.e : Entry := mkP [.leaf (.int .i64), .leaf (.int .i64), .leaf (.int .i64), .leaf (.int .i64)] (.many [.leaf (.row [.int .i64, .int .i64, .int .i64, .bool]), .leaf (.int .i64)]) fun x => period_PlanP x.1 x.2.1 x.2.2.1 x.2.2.2
theorem period_PlanP.ok : EntryOK Tryd.prog 19 (period_PlanP.e) := mkP_ok (period_Plan.tbok) Tryd.mixed Tryd.func19 (by kernel_rfl) period_PlanP.eq

/-! ### spile/period.Close: function 21 -/
noncomputable def period_Close.tb : Table := tab [(13, slices_Clone_api_Period_api_Period.e), (40, period_rightP.e), (44, period_open.e)] [] Table.nil
theorem period_Close.tbok : TabOK Tryd.prog (period_Close.tb) := TabOK.tab (TabOK.nil Tryd.prog) (all_cons slices_Clone_api_Period_api_Period.ok (all_cons period_rightP.ok (all_cons period_open.ok (all_nil _)))) (all_nil _)
noncomputable def period_Close (a0 : SV) (h : H) : Option ((SV × Int) × H) :=
((rdRow true h [.int .i64, .int .i64, .int .i64, .bool] a0).bind fun s2 =>
((period_rightP s2).bind fun r1 =>
(bif (!r1) then (some ((⟨.nil, 0, 0, false⟩, 1), h)) else ((period_open a0 h).bind fun (r3, h4) =>
(bif (decide (r3 < 0)) then (some ((⟨.nil, 0, 0, false⟩, 11), h4)) else ((cloneX 4 32 a0 h4).bind fun (r5, h6) =>
(guardO (0 ≤ r3 ∧ r3 < ((r5.len : Nat) : Int)) (guardO (V.nn ((V.add r5.a (Int.toNat r3 * 4)) : V) = true) ((H.wrs h6 (V.add (V.add r5.a (Int.toNat r3 * 4)) 3) [.bool true]).bind fun h7 =>
(some ((r5, 0), h7)))))))))))
def period_Close.A : Ann := { lits := [], conds := [], loops := [], regs := [] }
theorem period_Close.eq : ∀ (x : TT [.leaf .slice]) (h : H), evalFn Tryd.prog (period_Close.tb) period_Close.A Tryd.f21 (.many [.leaf .slice, .leaf (.int .i64)]) (TT.un [.leaf .slice] x) h = period_Close x h := by
  intro x h
  kernel_rfl
noncomputable def period_Close.e : Entry := mkX [.leaf .slice] (.many [.leaf .slice, .leaf (.int .i64)]) fun x h => period_Close x h
theorem period_Close.ok : EntryOK Tryd.prog 21 (period_Close.e) := mkX_ok (period_Close.tbok) Tryd.mixed Tryd.func21 (by kernel_rfl) (period_Close.eq)
noncomputable def period_CloseP (a0 : (List (Int × Int × Int × Bool))) : Option ((List (Int × Int × Int × Bool)) × Int) := (period_Close (rowSV false [.int .i64, .int .i64, .int .i64, .bool] a0) H.empty).bind fun p => rdRes false p.2 (.many [.leaf (.row [.int .i64, .int .i64, .int .i64, .bool]), .leaf (.int .i64)]) (Res.un (.many [.leaf .slice, .leaf (.int .i64)]) p.1)
theorem period_CloseP.eq : ∀ x : TT [.leaf (.row [.int .i64, .int .i64, .int .i64, .bool])], ((evalFn Tryd.prog (period_Close.tb) period_Close.A Tryd.f21 (.many [.leaf .slice, .leaf (.int .i64)]) (TT.lo false [.leaf (.row [.int .i64, .int .i64, .int .i64, .bool])] x) H.empty).bind fun p => rdRes false p.2 (.many [.leaf (.row [.int .i64, .int .i64, .int .i64, .bool]), .leaf (.int .i64)]) (Res.un (.many [.leaf .slice, .leaf (.int .i64)]) p.1)) = period_CloseP x := by
  intro x
  rw [show TT.lo false [.leaf (.row [.int .i64, .int .i64, .int .i64, .bool])] x = TT.un [.leaf .slice] ((rowSV false [.int .i64, .int .i64, .int .i64, .bool] x)) from rfl, period_Close.eq]
  rfl
noncomputable def period_CloseP.e : Entry := mkP [.leaf (.row [.int .i64, .int .i64, .int .i64, .bool])] (.many [.leaf (.row [.int .i64, .int .i64, .int .i64, .bool]), .leaf (.int .i64)]) fun x => period_CloseP x
theorem period_CloseP.ok : EntryOK Tryd.prog 21 (period_CloseP.e) := mkP_ok (period_Close.tbok) Tryd.mixed Tryd.func21 (by kernel_rfl) period_CloseP.eq

/-! ### slices.Equal[[]spile/api.Period,spile/api.Period]: function 23 -/
noncomputable def slices_Equal_api_Period_api_Period.tb : Table := tab [] [] Table.nil
theorem slices_Equal_api_Period_api_Period.tbok : TabOK Tryd.prog (slices_Equal_api_Period_api_Period.tb) := TabOK.tab (TabOK.nil Tryd.prog) (all_nil _) (all_nil _)
noncomputable def slices_Equal_api_Period_api_Period.loop1 (a0 : SV) (a1 : SV) : (Int) × H → Option (Stp ((Int) × H) (Flow (Unit) (Bool) × H)) := fun (y1, h2) =>
(bif (decide (y1 < ((a0.len : Nat) : Int))) then (let h3 : H := H.reserve h2 0
(guardO (0 ≤ y1 ∧ y1 < ((a0.len : Nat) : Int)) ((rdT (.agg [.int .i64, .int .i64, .int .i64, .bool]) h3 (V.add a0.a (Int.toNat y1 * 4))).bind fun (x4_0, x4_1, x4_2, x4_3) =>
(guardO (0 ≤ y1 ∧ y1 < ((a1.len : Nat) : Int)) ((rdT (.agg [.int .i64, .int .i64, .int .i64, .bool]) h3 (V.add a1.a (Int.toNat y1 * 4))).bind fun (x5_0, x5_1, x5_2, x5_3) =>
(bif (!(decide (x4_0 = x5_0) && (decide (x4_1 = x5_1) && (decide (x4_2 = x5_2) && (x4_3 == x5_3))))) then (some (.done (.ret false, h3))) else (some (.more ((IntKind.wrap .i64 (y1 + 1)), h3))))))))) else (some (.done (.ex0 (), h2))))
noncomputable def slices_Equal_api_Period_api_Period (a0 : SV) (a1 : SV) (h : H) : Option ((Bool) × H) :=
(bif (!(decide (((a0.len : Nat) : Int) = ((a1.len : Nat) : Int)))) then (some (false, h)) else ((iter FUEL (slices_Equal_api_Period_api_Period.loop1 a0 a1) (0, h)).bind fun (fl7, h6) => match fl7 with
| .next _ => none
| .ret rr8 => (some (rr8, h6))
| .ex0 _ =>
(some (true, h6))
| .ex1 _ => none))
def slices_Equal_api_Period_api_Period.A : Ann := { lits := [], conds := [], loops := [(4, [13], [.leaf (.int .i64)], [], [], some 0, none)], regs := [] }
theorem slices_Equal_api_Period_api_Period.eq : ∀ (x : TT [.leaf .slice, .leaf .slice]) (h : H), evalFn Tryd.prog (slices_Equal_api_Period_api_Period.tb) slices_Equal_api_Period_api_Period.A Tryd.f23 (.one (.leaf .bool)) (TT.un [.leaf .slice, .leaf .slice] x) h = slices_Equal_api_Period_api_Period x.1 x.2 h := by
  intro x h
  kernel_rfl
noncomputable def slices_Equal_api_Period_api_Period.e : Entry := mkX [.leaf .slice, .leaf .slice] (.one (.leaf .bool)) fun x h => slices_Equal_api_Period_api_Period x.1 x.2 h
theorem slices_Equal_api_Period_api_Period.ok : EntryOK Tryd.prog 23 (slices_Equal_api_Period_api_Period.e) := mkX_ok (slices_Equal_api_Period_api_Period.tbok) Tryd.mixed Tryd.func23 (by kernel_rfl) (slices_Equal_api_Period_api_Period.eq)
noncomputable def slices_Equal_api_Period_api_PeriodP (a0 : (List (Int × Int × Int × Bool))) (a1 : (List (Int × Int × Int × Bool))) : Option (Bool) := (slices_Equal_api_Period_api_Period (rowSV false [.int .i64, .int .i64, .int .i64, .bool] a0) (rowSV false [.int .i64, .int .i64, .int .i64, .bool] a1) H.empty).bind fun p => rdRes false p.2 (.one (.leaf .bool)) (Res.un (.one (.leaf .bool)) p.1)
theorem slices_Equal_api_Period_api_PeriodP.eq : ∀ x : TT [.leaf (.row [.int .i64, .int .i64, .int .i64, .bool]), .leaf (.row [.int .i64, .int .i64, .int .i64, .bool])], ((evalFn Tryd.prog (slices_Equal_api_Period_api_Period.tb) slices_Equal_api_Period_api_Period.A Tryd.f23 (.one (.leaf .bool)) (TT.lo false [.leaf (.row [.int .i64, .int .i64, .int .i64, .bool]), .leaf (.row [.int .i64, .int .i64, .int .i64, .bool])] x) H.empty).bind fun p => rdRes false p.2 (.one (.leaf .bool)) (Res.un (.one (.leaf .bool)) p.1)) = slices_Equal_api_Period_api_PeriodP x.1 x.2 := by
  intro x
  rw [show TT.lo false [.leaf (.row [.int .i64, .int .i64, .int .i64, .bool]), .leaf (.row [.int .i64, .int .i64, .int .i64, .bool])] x = TT.un [.leaf .slice, .leaf .slice] ((rowSV false [.int .i64, .int .i64, .int .i64, .bool] x.1), (rowSV false [.int .i64, .int .i64, .int .i64, .bool] x.2)) from rfl, slices_Equal_api_Period_api_Period.eq]
  rfl
noncomputable def slices_Equal_api_Period_api_PeriodP.e : Entry := mkP [.leaf (.row [.int .i64, .int .i64, .int .i64, .bool]), .leaf (.row [.int .i64, .int .i64, .int .i64, .bool])] (.one (.leaf .bool)) fun x => slices_Equal_api_Period_api_PeriodP x.1 x.2
theorem slices_Equal_api_Period_api_PeriodP.ok : EntryOK Tryd.prog 23 (slices_Equal_api_Period_api_PeriodP.e) := mkP_ok (slices_Equal_api_Period_api_Period.tbok) Tryd.mixed Tryd.func23 (by kernel_rfl) slices_Equal_api_Period_api_PeriodP.eq

/-! ### slices.Clone[[]spile/api.Charge,spile/api.Charge]: function 49 -/
noncomputable def slices_Clone_api_Charge_api_Charge.tb : Table := tab [] [] Table.nil
theorem slices_Clone_api_Charge_api_Charge.tbok : TabOK Tryd.prog (slices_Clone_api_Charge_api_Charge.tb) := TabOK.tab (TabOK.nil Tryd.prog) (all_nil _) (all_nil _)
noncomputable def slices_Clone_api_Charge_api_Charge (a0 : SV) (h : H) : Option ((SV) × H) :=
(bif !(V.mayNil (a0.a : V)) then (bif (!(V.nn (a0.a : V))) then (some (⟨.nil, 0, 0, false⟩, h)) else ((cellsOf h (.slice a0.a a0.len a0.cap a0.tail : V) 8).bind fun (n3, cs3) =>
((appendS h none 8 64 (⟨.lp true ([]) 0, 0, 0, false⟩) cs3 n3).bind fun (s3, h2) =>
(some (s3, h2))))) else none)
def slices_Clone_api_Charge_api_Charge.A : Ann := { lits := [], conds := [], loops := [], regs := [] }
theorem slices_Clone_api_Charge_api_Charge.eq : ∀ (x : TT [.leaf .slice]) (h : H), evalFn Tryd.prog (slices_Clone_api_Charge_api_Charge.tb) slices_Clone_api_Charge_api_Charge.A Tryd.f49 (.one (.leaf .slice)) (TT.un [.leaf .slice] x) h = slices_Clone_api_Charge_api_Charge x h := by
  intro x h
  kernel_rfl
noncomputable def slices_Clone_api_Charge_api_Charge.e : Entry := mkX [.leaf .slice] (.one (.leaf .slice)) (cloneX 8 64)
theorem slices_Clone_api_Charge_api_Charge.ok : EntryOK Tryd.prog 49 slices_Clone_api_Charge_api_Charge.e := cloneX_ok (g := slices_Clone_api_Charge_api_Charge) (mkX_ok (slices_Clone_api_Charge_api_Charge.tbok) Tryd.mixed Tryd.func49 (by kernel_rfl) (slices_Clone_api_Charge_api_Charge.eq)) (fun s h => by kernel_rfl)
noncomputable def slices_Clone_api_Charge_api_ChargeP.e : Entry := mkP [.leaf (.row [.int .i64, .int .i64, .int .i64, .int .i64, .int .i64, .int .i64, .int .i64, .int .i64])] (.one (.leaf (.row [.int .i64, .int .i64, .int .i64, .int .i64, .int .i64, .int .i64, .int .i64, .int .i64]))) (cloneP 64)
theorem slices_Clone_api_Charge_api_ChargeP.ok : EntryOK Tryd.prog 49 slices_Clone_api_Charge_api_ChargeP.e := cloneP_ok slices_Clone_api_Charge_api_Charge.ok rfl (by omega) rfl

/-! ### spile/spilelaw50.cp: function 26 -/
noncomputable def spilelaw50_cp.tb : Table := tab [(49, slices_Clone_api_Charge_api_ChargeP.e)] [] Table.nil
theorem spilelaw50_cp.tbok : TabOK Tryd.prog (spilelaw50_cp.tb) := TabOK.tab (TabOK.nil Tryd.prog) (all_cons slices_Clone_api_Charge_api_ChargeP.ok (all_nil _)) (all_nil _)
noncomputable def spilelaw50_cp (a0 : (Int × Int × SV × Int)) (h : H) : Option (((Int × Int × SV × Int)) × H) :=
(match a0 with
| (a0_0, a0_1, a0_2, a0_3) =>
(let h1 : H := H.new h [.int .i64 a0_0, .int .i64 a0_1, .slice a0_2.a a0_2.len a0_2.cap a0_2.tail, .int .i64 a0_3] 4
(let h2 : H := H.new h1 [.int .i64 0, .int .i64 0, .slice .nil 0 0 false, .int .i64 0] 4
((rdT (.leaf .slice) h2 (.hp h.next 4 2)).bind fun x3 =>
((rdRow true h2 [.int .i64, .int .i64, .int .i64, .int .i64, .int .i64, .int .i64, .int .i64, .int .i64] x3).bind fun s5 =>
((cloneP 64 s5).bind fun r4 =>
((H.wrs h2 (.hp h.next 4 2) [.slice ((rowSV true [.int .i64, .int .i64, .int .i64, .int .i64, .int .i64, .int .i64, .int .i64, .int .i64] r4).a) r4.length r4.length true]).bind fun h6 =>
((rdT (.agg [.int .i64, .int .i64, .slice, .int .i64]) h6 (.hp h.next 4 0)).bind fun (x7_0, x7_1, x7_2, x7_3) =>
((H.wrs h6 (.hp h1.next 4 0) [.int .i64 x7_0, .int .i64 x7_1, .slice x7_2.a x7_2.len x7_2.cap x7_2.tail, .int .i64 x7_3]).bind fun h8 =>
((rdT (.agg [.int .i64, .int .i64, .slice, .int .i64]) h8 (.hp h1.next 4 0 : V)).bind fun (x9_0, x9_1, x9_2, x9_3) =>
(some ((x9_0, x9_1, x9_2, x9_3), h8))))))))))))
def spilelaw50_cp.A : Ann := { lits := [], conds := [], loops := [], regs := [] }
theorem spilelaw50_cp.eq : ∀ (x : TT [.agg [.int .i64, .int .i64, .slice, .int .i64]]) (h : H), evalFn Tryd.prog (spilelaw50_cp.tb) spilelaw50_cp.A Tryd.f26 (.one (.agg [.int .i64, .int .i64, .slice, .int .i64])) (TT.un [.agg [.int .i64, .int .i64, .slice, .int .i64]] x) h = spilelaw50_cp x h := by
  intro x h
  kernel_rfl
noncomputable def spilelaw50_cp.e : Entry := mkX [.agg [.int .i64, .int .i64, .slice, .int .i64]] (.one (.agg [.int .i64, .int .i64, .slice, .int .i64])) fun x h => spilelaw50_cp x h
theorem spilelaw50_cp.ok : EntryOK Tryd.prog 26 (spilelaw50_cp.e) := mkX_ok (spilelaw50_cp.tbok) Tryd.mixed Tryd.func26 (by kernel_rfl) (spilelaw50_cp.eq)
noncomputable def spilelaw50_cpP (a0 : (Int × Int × (List (Int × Int × Int × Int × Int × Int × Int × Int)) × Int)) : Option ((Int × Int × (List (Int × Int × Int × Int × Int × Int × Int × Int)) × Int)) := (spilelaw50_cp (a0.1, a0.2.1, rowSV false [.int .i64, .int .i64, .int .i64, .int .i64, .int .i64, .int .i64, .int .i64, .int .i64] a0.2.2.1, a0.2.2.2) H.empty).bind fun p => rdRes false p.2 (.one (.agg [.int .i64, .int .i64, .row [.int .i64, .int .i64, .int .i64, .int .i64, .int .i64, .int .i64, .int .i64, .int .i64], .int .i64])) (Res.un (.one (.agg [.int .i64, .int .i64, .slice, .int .i64])) p.1)
theorem spilelaw50_cpP.eq : ∀ x : TT [.agg [.int .i64, .int .i64, .row [.int .i64, .int .i64, .int .i64, .int .i64, .int .i64, .int .i64, .int .i64, .int .i64], .int .i64]], ((evalFn Tryd.prog (spilelaw50_cp.tb) spilelaw50_cp.A Tryd.f26 (.one (.agg [.int .i64, .int .i64, .slice, .int .i64])) (TT.lo false [.agg [.int .i64, .int .i64, .row [.int .i64, .int .i64, .int .i64, .int .i64, .int .i64, .int .i64, .int .i64, .int .i64], .int .i64]] x) H.empty).bind fun p => rdRes false p.2 (.one (.agg [.int .i64, .int .i64, .row [.int .i64, .int .i64, .int .i64, .int .i64, .int .i64, .int .i64, .int .i64, .int .i64], .int .i64])) (Res.un (.one (.agg [.int .i64, .int .i64, .slice, .int .i64])) p.1)) = spilelaw50_cpP x := by
  intro x
  rw [show TT.lo false [.agg [.int .i64, .int .i64, .row [.int .i64, .int .i64, .int .i64, .int .i64, .int .i64, .int .i64, .int .i64, .int .i64], .int .i64]] x = TT.un [.agg [.int .i64, .int .i64, .slice, .int .i64]] ((x.1, x.2.1, rowSV false [.int .i64, .int .i64, .int .i64, .int .i64, .int .i64, .int .i64, .int .i64, .int .i64] x.2.2.1, x.2.2.2)) from rfl, spilelaw50_cp.eq]
  rfl
noncomputable def spilelaw50_cpP.e : Entry := mkP [.agg [.int .i64, .int .i64, .row [.int .i64, .int .i64, .int .i64, .int .i64, .int .i64, .int .i64, .int .i64, .int .i64], .int .i64]] (.one (.agg [.int .i64, .int .i64, .row [.int .i64, .int .i64, .int .i64, .int .i64, .int .i64, .int .i64, .int .i64, .int .i64], .int .i64])) fun x => spilelaw50_cpP x
theorem spilelaw50_cpP.ok : EntryOK Tryd.prog 26 (spilelaw50_cpP.e) := mkP_ok (spilelaw50_cp.tbok) Tryd.mixed Tryd.func26 (by kernel_rfl) spilelaw50_cpP.eq

/-! ### slices.Clone[[]spile/api.Adjustment,spile/api.Adjustment]: function 29 -/
noncomputable def slices_Clone_api_Adjustment_api_Adjustment.tb : Table := tab [] [] Table.nil
theorem slices_Clone_api_Adjustment_api_Adjustment.tbok : TabOK Tryd.prog (slices_Clone_api_Adjustment_api_Adjustment.tb) := TabOK.tab (TabOK.nil Tryd.prog) (all_nil _) (all_nil _)
noncomputable def slices_Clone_api_Adjustment_api_Adjustment (a0 : SV) (h : H) : Option ((SV) × H) :=
(bif !(V.mayNil (a0.a : V)) then (bif (!(V.nn (a0.a : V))) then (some (⟨.nil, 0, 0, false⟩, h)) else ((cellsOf h (.slice a0.a a0.len a0.cap a0.tail : V) 2).bind fun (n3, cs3) =>
((appendS h none 2 16 (⟨.lp true ([]) 0, 0, 0, false⟩) cs3 n3).bind fun (s3, h2) =>
(some (s3, h2))))) else none)
def slices_Clone_api_Adjustment_api_Adjustment.A : Ann := { lits := [], conds := [], loops := [], regs := [] }
theorem slices_Clone_api_Adjustment_api_Adjustment.eq : ∀ (x : TT [.leaf .slice]) (h : H), evalFn Tryd.prog (slices_Clone_api_Adjustment_api_Adjustment.tb) slices_Clone_api_Adjustment_api_Adjustment.A Tryd.f29 (.one (.leaf .slice)) (TT.un [.leaf .slice] x) h = slices_Clone_api_Adjustment_api_Adjustment x h := by
  intro x h
  kernel_rfl
noncomputable def slices_Clone_api_Adjustment_api_Adjustment.e : Entry := mkX [.leaf .slice] (.one (.leaf .slice)) (cloneX 2 16)
theorem slices_Clone_api_Adjustment_api_Adjustment.ok : EntryOK Tryd.prog 29 slices_Clone_api_Adjustment_api_Adjustment.e := cloneX_ok (g := slices_Clone_api_Adjustment_api_Adjustment) (mkX_ok (slices_Clone_api_Adjustment_api_Adjustment.tbok) Tryd.mixed Tryd.func29 (by kernel_rfl) (slices_Clone_api_Adjustment_api_Adjustment.eq)) (fun s h => by kernel_rfl)
noncomputable def slices_Clone_api_Adjustment_api_AdjustmentP.e : Entry := mkP [.leaf (.row [.int .i64, .int .i64])] (.one (.leaf (.row [.int .i64, .int .i64]))) (cloneP 16)
theorem slices_Clone_api_Adjustment_api_AdjustmentP.ok : EntryOK Tryd.prog 29 slices_Clone_api_Adjustment_api_AdjustmentP.e := cloneP_ok slices_Clone_api_Adjustment_api_Adjustment.ok rfl (by omega) rfl

/-! ### slices.Equal[[]spile/api.Adjustment,spile/api.Adjustment]: function 31 -/
noncomputable def slices_Equal_api_Adjustment_api_Adjustment.tb : Table := tab [] [] Table.nil
theorem slices_Equal_api_Adjustment_api_Adjustment.tbok : TabOK Tryd.prog (slices_Equal_api_Adjustment_api_Adjustment.tb) := TabOK.tab (TabOK.nil Tryd.prog) (all_nil _) (all_nil _)
noncomputable def slices_Equal_api_Adjustment_api_Adjustment.loop1 (a0 : SV) (a1 : SV) : (Int) × H → Option (Stp ((Int) × H) (Flow (Unit) (Bool) × H)) := fun (y1, h2) =>
(bif (decide (y1 < ((a0.len : Nat) : Int))) then (let h3 : H := H.reserve h2 0
(guardO (0 ≤ y1 ∧ y1 < ((a0.len : Nat) : Int)) ((rdT (.agg [.int .i64, .int .i64]) h3 (V.add a0.a (Int.toNat y1 * 2))).bind fun (x4_0, x4_1) =>
(guardO (0 ≤ y1 ∧ y1 < ((a1.len : Nat) : Int)) ((rdT (.agg [.int .i64, .int .i64]) h3 (V.add a1.a (Int.toNat y1 * 2))).bind fun (x5_0, x5_1) =>
(bif (!(decide (x4_0 = x5_0) && (decide (x4_1 = x5_1)))) then (some (.done (.ret false, h3))) else (some (.more ((IntKind.wrap .i64 (y1 + 1)), h3))))))))) else (some (.done (.ex0 (), h2))))
noncomputable def slices_Equal_api_Adjustment_api_Adjustment (a0 : SV) (a1 : SV) (h : H) : Option ((Bool) × H) :=
(bif (!(decide (((a0.len : Nat) : Int) = ((a1.len : Nat) : Int)))) then (some (false, h)) else ((iter FUEL (slices_Equal_api_Adjustment_api_Adjustment.loop1 a0 a1) (0, h)).bind fun (fl7, h6) => match fl7 with
| .next _ => none
| .ret rr8 => (some (rr8, h6))
| .ex0 _ =>
(some (true, h6))
| .ex1 _ => none))
def slices_Equal_api_Adjustment_api_Adjustment.A : Ann := { lits := [], conds := [], loops := [(4, [13], [.leaf (.int .i64)], [], [], some 0, none)], regs := [] }
theorem slices_Equal_api_Adjustment_api_Adjustment.eq : ∀ (x : TT [.leaf .slice, .leaf .slice]) (h : H), evalFn Tryd.prog (slices_Equal_api_Adjustment_api_Adjustment.tb) slices_Equal_api_Adjustment_api_Adjustment.A Tryd.f31 (.one (.leaf .bool)) (TT.un [.leaf .slice, .leaf .slice] x) h = slices_Equal_api_Adjustment_api_Adjustment x.1 x.2 h := by
  intro x h
  kernel_rfl
noncomputable def slices_Equal_api_Adjustment_api_Adjustment.e : Entry := mkX [.leaf .slice, .leaf .slice] (.one (.leaf .bool)) fun x h => slices_Equal_api_Adjustment_api_Adjustment x.1 x.2 h
theorem slices_Equal_api_Adjustment_api_Adjustment.ok : EntryOK Tryd.prog 31 (slices_Equal_api_Adjustment_api_Adjustment.e) := mkX_ok (slices_Equal_api_Adjustment_api_Adjustment.tbok) Tryd.mixed Tryd.func31 (by kernel_rfl) (slices_Equal_api_Adjustment_api_Adjustment.eq)
noncomputable def slices_Equal_api_Adjustment_api_AdjustmentP (a0 : (List (Int × Int))) (a1 : (List (Int × Int))) : Option (Bool) := (slices_Equal_api_Adjustment_api_Adjustment (rowSV false [.int .i64, .int .i64] a0) (rowSV false [.int .i64, .int .i64] a1) H.empty).bind fun p => rdRes false p.2 (.one (.leaf .bool)) (Res.un (.one (.leaf .bool)) p.1)
theorem slices_Equal_api_Adjustment_api_AdjustmentP.eq : ∀ x : TT [.leaf (.row [.int .i64, .int .i64]), .leaf (.row [.int .i64, .int .i64])], ((evalFn Tryd.prog (slices_Equal_api_Adjustment_api_Adjustment.tb) slices_Equal_api_Adjustment_api_Adjustment.A Tryd.f31 (.one (.leaf .bool)) (TT.lo false [.leaf (.row [.int .i64, .int .i64]), .leaf (.row [.int .i64, .int .i64])] x) H.empty).bind fun p => rdRes false p.2 (.one (.leaf .bool)) (Res.un (.one (.leaf .bool)) p.1)) = slices_Equal_api_Adjustment_api_AdjustmentP x.1 x.2 := by
  intro x
  rw [show TT.lo false [.leaf (.row [.int .i64, .int .i64]), .leaf (.row [.int .i64, .int .i64])] x = TT.un [.leaf .slice, .leaf .slice] ((rowSV false [.int .i64, .int .i64] x.1), (rowSV false [.int .i64, .int .i64] x.2)) from rfl, slices_Equal_api_Adjustment_api_Adjustment.eq]
  rfl
noncomputable def slices_Equal_api_Adjustment_api_AdjustmentP.e : Entry := mkP [.leaf (.row [.int .i64, .int .i64]), .leaf (.row [.int .i64, .int .i64])] (.one (.leaf .bool)) fun x => slices_Equal_api_Adjustment_api_AdjustmentP x.1 x.2
theorem slices_Equal_api_Adjustment_api_AdjustmentP.ok : EntryOK Tryd.prog 31 (slices_Equal_api_Adjustment_api_AdjustmentP.e) := mkP_ok (slices_Equal_api_Adjustment_api_Adjustment.tbok) Tryd.mixed Tryd.func31 (by kernel_rfl) slices_Equal_api_Adjustment_api_AdjustmentP.eq

/-! ### spile/spilelaw50.two$1: function 54 -/
noncomputable def spilelaw50_two_1.tb : Table := tab [] [] Table.nil
theorem spilelaw50_two_1.tbok : TabOK Tryd.prog (spilelaw50_two_1.tb) := TabOK.tab (TabOK.nil Tryd.prog) (all_nil _) (all_nil _)
noncomputable def spilelaw50_two_1 (a0 : Int) (a1 : Int) (h : H) : Option (((Int × Int × Int × Int × Int × Int × Int × Int)) × H) :=
(let h1 : H := H.new h [.int .i64 0, .int .i64 0, .int .i64 0, .int .i64 0, .int .i64 0, .int .i64 0, .int .i64 0, .int .i64 0] 8
((H.wrs h1 (.hp h.next 8 0) [.int .i64 a0, .int .i64 1, .int .i64 0, .int .i64 0, .int .i64 0, .int .i64 0, .int .i64 0, .int .i64 a1]).bind fun h2 =>
((rdT (.agg [.int .i64, .int .i64, .int .i64, .int .i64, .int .i64, .int .i64, .int .i64, .int .i64]) h2 (.hp h.next 8 0 : V)).bind fun (x3_0, x3_1, x3_2, x3_3, x3_4, x3_5, x3_6, x3_7) =>
(some ((x3_0, x3_1, x3_2, x3_3, x3_4, x3_5, x3_6, x3_7), h2)))))
def spilelaw50_two_1.A : Ann := { lits := [], conds := [], loops := [], regs := [] }
theorem spilelaw50_two_1.eq : ∀ (x : TT [.leaf (.int .i64), .leaf (.int .i64)]) (h : H), evalFn Tryd.prog (spilelaw50_two_1.tb) spilelaw50_two_1.A Tryd.f54 (.one (.agg [.int .i64, .int .i64, .int .i64, .int .i64, .int .i64, .int .i64, .int .i64, .int .i64])) (TT.un [.leaf (.int .i64), .leaf (.int .i64)] x) h = spilelaw50_two_1 x.1 x.2 h := by
  intro x h
  kernel_rfl
noncomputable def spilelaw50_two_1.e : Entry := mkX [.leaf (.int .i64), .leaf (.int .i64)] (.one (.agg [.int .i64, .int .i64, .int .i64, .int .i64, .int .i64, .int .i64, .int .i64, .int .i64])) fun x h => spilelaw50_two_1 x.1 x.2 h
theorem spilelaw50_two_1.ok : EntryOK Tryd.prog 54 (spilelaw50_two_1.e) := mkX_ok (spilelaw50_two_1.tbok) Tryd.mixed Tryd.func54 (by kernel_rfl) (spilelaw50_two_1.eq)
noncomputable def spilelaw50_two_1P (a0 : Int) (a1 : Int) : Option ((Int × Int × Int × Int × Int × Int × Int × Int)) := (spilelaw50_two_1 a0 a1 H.empty).bind fun p => rdRes false p.2 (.one (.agg [.int .i64, .int .i64, .int .i64, .int .i64, .int .i64, .int .i64, .int .i64, .int .i64])) (Res.un (.one (.agg [.int .i64, .int .i64, .int .i64, .int .i64, .int .i64, .int .i64, .int .i64, .int .i64])) p.1)
theorem spilelaw50_two_1P.eq : ∀ x : TT [.leaf (.int .i64), .leaf (.int .i64)], ((evalFn Tryd.prog (spilelaw50_two_1.tb) spilelaw50_two_1.A Tryd.f54 (.one (.agg [.int .i64, .int .i64, .int .i64, .int .i64, .int .i64, .int .i64, .int .i64, .int .i64])) (TT.lo false [.leaf (.int .i64), .leaf (.int .i64)] x) H.empty).bind fun p => rdRes false p.2 (.one (.agg [.int .i64, .int .i64, .int .i64, .int .i64, .int .i64, .int .i64, .int .i64, .int .i64])) (Res.un (.one (.agg [.int .i64, .int .i64, .int .i64, .int .i64, .int .i64, .int .i64, .int .i64, .int .i64])) p.1)) = spilelaw50_two_1P x.1 x.2 := by
  intro x
  rw [show TT.lo false [.leaf (.int .i64), .leaf (.int .i64)] x = TT.un [.leaf (.int .i64), .leaf (.int .i64)] (x.1, x.2) from rfl, spilelaw50_two_1.eq]
  rfl
noncomputable def spilelaw50_two_1P.e : Entry := mkP [.leaf (.int .i64), .leaf (.int .i64)] (.one (.agg [.int .i64, .int .i64, .int .i64, .int .i64, .int .i64, .int .i64, .int .i64, .int .i64])) fun x => spilelaw50_two_1P x.1 x.2
theorem spilelaw50_two_1P.ok : EntryOK Tryd.prog 54 (spilelaw50_two_1P.e) := mkP_ok (spilelaw50_two_1.tbok) Tryd.mixed Tryd.func54 (by kernel_rfl) spilelaw50_two_1P.eq

/-! ### spile/spilelaw50.two: function 39 -/
noncomputable def spilelaw50_two.tb : Table := tab [] [(54, spilelaw50_two_1P.e)] Table.nil
theorem spilelaw50_two.tbok : TabOK Tryd.prog (spilelaw50_two.tb) := TabOK.tab (TabOK.nil Tryd.prog) (all_nil _) (all_cons spilelaw50_two_1P.ok (all_nil _))
noncomputable def spilelaw50_two (h : H) : Option (((Int × Int × SV × Int) × (Int × Int × SV × Int)) × H) :=
(let h1 : H := H.new h [.int .i64 0, .int .i64 0, .slice .nil 0 0 false, .int .i64 0] 4
(let h2 : H := H.new h1 [.int .i64 0, .int .i64 0, .slice .nil 0 0 false, .int .i64 0] 4
((spilelaw50_two_1P 1 5).bind fun (r3_0, r3_1, r3_2, r3_3, r3_4, r3_5, r3_6, r3_7) =>
((spilelaw50_two_1P 2 7).bind fun (r4_0, r4_1, r4_2, r4_3, r4_4, r4_5, r4_6, r4_7) =>
((spilelaw50_two_1P 2 9).bind fun (r5_0, r5_1, r5_2, r5_3, r5_4, r5_5, r5_6, r5_7) =>
((spilelaw50_two_1P 3 1).bind fun (r6_0, r6_1, r6_2, r6_3, r6_4, r6_5, r6_6, r6_7) =>
((H.wrs h2 (.hp h.next 4 0) [.int .i64 0, .int .i64 9, .slice (.lp true ([.int .i64 r3_0, .int .i64 r3_1, .int .i64 r3_2, .int .i64 r3_3, .int .i64 r3_4, .int .i64 r3_5, .int .i64 r3_6, .int .i64 r3_7, .int .i64 r4_0, .int .i64 r4_1, .int .i64 r4_2, .int .i64 r4_3, .int .i64 r4_4, .int .i64 r4_5, .int .i64 r4_6, .int .i64 r4_7]) 0) 2 2 false, .int .i64 12]).bind fun h7 =>
((H.wrs h7 (.hp h1.next 4 0) [.int .i64 0, .int .i64 9, .slice (.lp true ([.int .i64 r5_0, .int .i64 r5_1, .int .i64 r5_2, .int .i64 r5_3, .int .i64 r5_4, .int .i64 r5_5, .int .i64 r5_6, .int .i64 r5_7, .int .i64 r6_0, .int .i64 r6_1, .int .i64 r6_2, .int .i64 r6_3, .int .i64 r6_4, .int .i64 r6_5, .int .i64 r6_6, .int .i64 r6_7]) 0) 2 2 false, .int .i64 10]).bind fun h8 =>
((rdT (.agg [.int .i64, .int .i64, .slice, .int .i64]) h8 (.hp h.next 4 0 : V)).bind fun (x9_0, x9_1, x9_2, x9_3) =>
((rdT (.agg [.int .i64, .int .i64, .slice, .int .i64]) h8 (.hp h1.next 4 0 : V)).bind fun (x10_0, x10_1, x10_2, x10_3) =>
(some (((x9_0, x9_1, x9_2, x9_3), (x10_0, x10_1, x10_2, x10_3)), h8))))))))))))
def spilelaw50_two.A : Ann := { lits := [], conds := [], loops := [], regs := [] }
theorem spilelaw50_two.eq : ∀ (x : TT []) (h : H), evalFn Tryd.prog (spilelaw50_two.tb) spilelaw50_two.A Tryd.f39 (.many [.agg [.int .i64, .int .i64, .slice, .int .i64], .agg [.int .i64, .int .i64, .slice, .int .i64]]) (TT.un [] x) h = spilelaw50_two  h := by
  intro x h
  kernel_rfl
noncomputable def spilelaw50_two.e : Entry := mkX [] (.many [.agg [.int .i64, .int .i64, .slice, .int .i64], .agg [.int .i64, .int .i64, .slice, .int .i64]]) fun x h => spilelaw50_two  h
theorem spilelaw50_two.ok : EntryOK Tryd.prog 39 (spilelaw50_two.e) := mkX_ok (spilelaw50_two.tbok) Tryd.mixed Tryd.func39 (by kernel_rfl) (spilelaw50_two.eq)
noncomputable def spilelaw50_twoP : Option ((Int × Int × (List (Int × Int × Int × Int × Int × Int × Int × Int)) × Int) × (Int × Int × (List (Int × Int × Int × Int × Int × Int × Int × Int)) × Int)) := (spilelaw50_two H.empty).bind fun p => rdRes false p.2 (.many [.agg [.int .i64, .int .i64, .row [.int .i64, .int .i64, .int .i64, .int .i64, .int .i64, .int .i64, .int .i64, .int .i64], .int .i64], .agg [.int .i64, .int .i64, .row [.int .i64, .int .i64, .int .i64, .int .i64, .int .i64, .int .i64, .int .i64, .int .i64], .int .i64]]) (Res.un (.many [.agg [.int .i64, .int .i64, .slice, .int .i64], .agg [.int .i64, .int .i64, .slice, .int .i64]]) p.1)
theorem spilelaw50_twoP.eq : ∀ x : TT [], ((evalFn Tryd.prog (spilelaw50_two.tb) spilelaw50_two.A Tryd.f39 (.many [.agg [.int .i64, .int .i64, .slice, .int .i64], .agg [.int .i64, .int .i64, .slice, .int .i64]]) (TT.lo false [] x) H.empty).bind fun p => rdRes false p.2 (.many [.agg [.int .i64, .int .i64, .row [.int .i64, .int .i64, .int .i64, .int .i64, .int .i64, .int .i64, .int .i64, .int .i64], .int .i64], .agg [.int .i64, .int .i64, .row [.int .i64, .int .i64, .int .i64, .int .i64, .int .i64, .int .i64, .int .i64, .int .i64], .int .i64]]) (Res.un (.many [.agg [.int .i64, .int .i64, .slice, .int .i64], .agg [.int .i64, .int .i64, .slice, .int .i64]]) p.1)) = spilelaw50_twoP  := by
  intro x
  rw [show TT.lo false [] x = TT.un [] () from rfl, spilelaw50_two.eq]
  rfl
noncomputable def spilelaw50_twoP.e : Entry := mkP [] (.many [.agg [.int .i64, .int .i64, .row [.int .i64, .int .i64, .int .i64, .int .i64, .int .i64, .int .i64, .int .i64, .int .i64], .int .i64], .agg [.int .i64, .int .i64, .row [.int .i64, .int .i64, .int .i64, .int .i64, .int .i64, .int .i64, .int .i64, .int .i64], .int .i64]]) fun x => spilelaw50_twoP 
theorem spilelaw50_twoP.ok : EntryOK Tryd.prog 39 (spilelaw50_twoP.e) := mkP_ok (spilelaw50_two.tbok) Tryd.mixed Tryd.func39 (by kernel_rfl) spilelaw50_twoP.eq

/-! ### spile/spileref50.Few: function 11 -/
noncomputable def spileref50_Few.tb : Table := tab [] [] Table.nil
theorem spileref50_Few.tbok : TabOK Tryd.prog (spileref50_Few.tb) := TabOK.tab (TabOK.nil Tryd.prog) (all_nil _) (all_nil _)
noncomputable def spileref50_Few (a0 : SV) (h : H) : Option ((Bool) × H) :=
(((bif !(decide (((a0.len : Nat) : Int) ≤ 12)) then (some ((decide (((a0.len : Nat) : Int) = 65)), h)) else (some (true, h)))).bind fun (y1, h2) =>
(some (y1, h2)))
def spileref50_Few.A : Ann := { lits := [], conds := [], loops := [], regs := [(1, [2], [.leaf .bool])] }
theorem spileref50_Few.eq : ∀ (x : TT [.leaf .slice]) (h : H), evalFn Tryd.prog (spileref50_Few.tb) spileref50_Few.A Tryd.f11 (.one (.leaf .bool)) (TT.un [.leaf .slice] x) h = spileref50_Few x h := by
  intro x h
  kernel_rfl
noncomputable def spileref50_Few.e : Entry := mkX [.leaf .slice] (.one (.leaf .bool)) fun x h => spileref50_Few x h
theorem spileref50_Few.ok : EntryOK Tryd.prog 11 (spileref50_Few.e) := mkX_ok (spileref50_Few.tbok) Tryd.mixed Tryd.func11 (by kernel_rfl) (spileref50_Few.eq)
noncomputable def spileref50_FewP (a0 : (List (Int × Int × Int × Bool))) : Option (Bool) := (spileref50_Few (rowSV false [.int .i64, .int .i64, .int .i64, .bool] a0) H.empty).bind fun p => rdRes false p.2 (.one (.leaf .bool)) (Res.un (.one (.leaf .bool)) p.1)
theorem spileref50_FewP.eq : ∀ x : TT [.leaf (.row [.int .i64, .int .i64, .int .i64, .bool])], ((evalFn Tryd.prog (spileref50_Few.tb) spileref50_Few.A Tryd.f11 (.one (.leaf .bool)) (TT.lo false [.leaf (.row [.int .i64, .int .i64, .int .i64, .bool])] x) H.empty).bind fun p => rdRes false p.2 (.one (.leaf .bool)) (Res.un (.one (.leaf .bool)) p.1)) = spileref50_FewP x := by
  intro x
  rw [show TT.lo false [.leaf (.row [.int .i64, .int .i64, .int .i64, .bool])] x = TT.un [.leaf .slice] ((rowSV false [.int .i64, .int .i64, .int .i64, .bool] x)) from rfl, spileref50_Few.eq]
  rfl
noncomputable def spileref50_FewP.e : Entry := mkP [.leaf (.row [.int .i64, .int .i64, .int .i64, .bool])] (.one (.leaf .bool)) fun x => spileref50_FewP x
theorem spileref50_FewP.ok : EntryOK Tryd.prog 11 (spileref50_FewP.e) := mkP_ok (spileref50_Few.tbok) Tryd.mixed Tryd.func11 (by kernel_rfl) spileref50_FewP.eq
end Go.Proofs.YtedhmdocimkldaaDoor
