/- The functions of the program as Lean functions, each with the equation by which the evaluator is that function. Written by a program of this session (evdrive.py). Conditions: none. -/
import Derived.Test.YtedhmdocimkldaaDoorProg
import Derived.Test.YtedhmdocimkldaaDoorEvSpec
import Derived.Test.YtedhmdocimkldaaDoorFn5
namespace Go.Proofs.YtedhmdocimkldaaDoor
open Go Go.Proofs.YtedhmdocimkldaaDoor.Ev
set_option maxRecDepth 100000
set_option linter.unusedVariables false
/-! ### spile/spilelaw50.PeriodSettles: function 8 -/
noncomputable def spilelaw50_PeriodSettles.tb : Table := tab [(10, spilelaw50_awakeP.e), (24, spileref49_FewP.e), (25, period_AdjustP.e), (26, spilelaw50_cpP.e), (28, period_SettleP.e)] [(36, spilelaw50_PeriodSettles_1P.e), (38, spilelaw50_PeriodSettles_2P.e)] Table.nil
theorem spilelaw50_PeriodSettles.tbok : TabOK Tryd.prog (spilelaw50_PeriodSettles.tb) := TabOK.tab (TabOK.nil Tryd.prog) (all_cons spilelaw50_awakeP.ok (all_cons spileref49_FewP.ok (all_cons period_AdjustP.ok (all_cons spilelaw50_cpP.ok (all_cons period_SettleP.ok (all_nil _)))))) (all_cons spilelaw50_PeriodSettles_1P.ok (all_cons spilelaw50_PeriodSettles_2P.ok (all_nil _)))
noncomputable def spilelaw50_PeriodSettles.loop1 (r22 : List (Int × Int)) (r33 : List (Int × Int)) : (Int) × H → Option (Stp ((Int) × H) (Flow (Unit) (Bool) × H)) := fun (y52, h53) =>
(bif (decide (y52 < ((r22.length : Nat) : Int))) then (((let h54 : H := H.reserve h53 0
(guardO (0 ≤ y52 ∧ y52 < ((r22.length : Nat) : Int)) (guardO (V.nn ((V.add ((rowSV true [.int .i64, .int .i64] r22).a) (Int.toNat y52 * 2)) : V) = true) ((rdT (.leaf (.int .i64)) h54 (V.add (V.add ((rowSV true [.int .i64, .int .i64] r22).a) (Int.toNat y52 * 2)) 1)).bind fun x55 =>
(bif !(decide (x55 = 0)) then (guardO (0 ≤ y52 ∧ y52 < ((r22.length : Nat) : Int)) (guardO (V.nn ((V.add ((rowSV true [.int .i64, .int .i64] r22).a) (Int.toNat y52 * 2)) : V) = true) ((rdT (.leaf (.int .i64)) h54 (V.add (V.add ((rowSV true [.int .i64, .int .i64] r22).a) (Int.toNat y52 * 2)) 0)).bind fun x56 =>
(guardO (0 ≤ y52 ∧ y52 < ((r33.length : Nat) : Int)) (guardO (V.nn ((V.add ((rowSV true [.int .i64, .int .i64] r33).a) (Int.toNat y52 * 2)) : V) = true) ((rdT (.leaf (.int .i64)) h54 (V.add (V.add ((rowSV true [.int .i64, .int .i64] r33).a) (Int.toNat y52 * 2)) 0)).bind fun x57 =>
(bif !(!(decide (x56 = x57))) then (guardO (0 ≤ y52 ∧ y52 < ((r22.length : Nat) : Int)) (guardO (V.nn ((V.add ((rowSV true [.int .i64, .int .i64] r22).a) (Int.toNat y52 * 2)) : V) = true) ((rdT (.leaf (.int .i64)) h54 (V.add (V.add ((rowSV true [.int .i64, .int .i64] r22).a) (Int.toNat y52 * 2)) 1)).bind fun x58 =>
(guardO (0 ≤ y52 ∧ y52 < ((r33.length : Nat) : Int)) (guardO (V.nn ((V.add ((rowSV true [.int .i64, .int .i64] r33).a) (Int.toNat y52 * 2)) : V) = true) ((rdT (.leaf (.int .i64)) h54 (V.add (V.add ((rowSV true [.int .i64, .int .i64] r33).a) (Int.toNat y52 * 2)) 1)).bind fun x59 =>
(some ((!(decide (x58 = (IntKind.wrap .i64 (0 - x59))))), h54)))))))) else (some (true, h54))))))))) else (some (true, h54)))))))).bind fun (y60, h61) =>
(bif y60 then (some (.done (.ret false, h61))) else (some (.more ((IntKind.wrap .i64 (y52 + 1)), h61))))) else (some (.done (.ex0 (), h53))))
noncomputable def spilelaw50_PeriodSettles (a0 : (Int × Int × SV × Int)) (a1 : (Int × Int × SV × Int)) (h : H) : Option ((Bool) × H) :=
(match a0 with
| (a0_0, a0_1, a0_2, a0_3) =>
(match a1 with
| (a1_0, a1_1, a1_2, a1_3) =>
(let h1 : H := H.new h [.int .i64 a0_0, .int .i64 a0_1, .slice a0_2.a a0_2.len a0_2.cap a0_2.tail, .int .i64 a0_3] 4
(let h2 : H := H.new h1 [.int .i64 a1_0, .int .i64 a1_1, .slice a1_2.a a1_2.len a1_2.cap a1_2.tail, .int .i64 a1_3] 4
((((spilelaw50_awakeP ).bind fun r3 =>
(bif !(!r3) then ((rdT (.agg [.int .i64, .int .i64, .slice, .int .i64]) h2 (.hp h.next 4 0)).bind fun (x4_0, x4_1, x4_2, x4_3) =>
((rdRow true h2 [.int .i64, .int .i64, .int .i64, .int .i64, .int .i64, .int .i64, .int .i64, .int .i64] x4_2).bind fun s6 =>
((spileref49_FewP (x4_0, x4_1, s6, x4_3)).bind fun r5 =>
(bif !(!r5) then ((rdT (.agg [.int .i64, .int .i64, .slice, .int .i64]) h2 (.hp h1.next 4 0)).bind fun (x7_0, x7_1, x7_2, x7_3) =>
((rdRow true h2 [.int .i64, .int .i64, .int .i64, .int .i64, .int .i64, .int .i64, .int .i64, .int .i64] x7_2).bind fun s9 =>
((spileref49_FewP (x7_0, x7_1, s9, x7_3)).bind fun r8 =>
(bif !(!r8) then ((rdT (.leaf .slice) h2 (.hp h.next 4 2)).bind fun x10 =>
(bif !(decide ((14 : Int) < ((x10.len : Nat) : Int))) then ((rdT (.leaf .slice) h2 (.hp h1.next 4 2)).bind fun x11 =>
(some ((decide ((14 : Int) < ((x11.len : Nat) : Int))), h2))) else (some (true, h2)))) else (some (true, h2)))))) else (some (true, h2)))))) else (some (true, h2))))).bind fun (y12, h13) =>
(bif y12 then ((spilelaw50_awakeP ).bind fun r14 =>
(some (r14, h13))) else (let h15 : H := H.reserve h13 0
((rdT (.agg [.int .i64, .int .i64, .slice, .int .i64]) h15 (.hp h.next 4 0)).bind fun (x16_0, x16_1, x16_2, x16_3) =>
((rdRow true h15 [.int .i64, .int .i64, .int .i64, .int .i64, .int .i64, .int .i64, .int .i64, .int .i64] x16_2).bind fun s18 =>
((spilelaw50_cpP (x16_0, x16_1, s18, x16_3)).bind fun (r17_0, r17_1, r17_2, r17_3) =>
((rdT (.agg [.int .i64, .int .i64, .slice, .int .i64]) h15 (.hp h1.next 4 0)).bind fun (x19_0, x19_1, x19_2, x19_3) =>
((rdRow true h15 [.int .i64, .int .i64, .int .i64, .int .i64, .int .i64, .int .i64, .int .i64, .int .i64] x19_2).bind fun s21 =>
((spilelaw50_cpP (x19_0, x19_1, s21, x19_3)).bind fun (r20_0, r20_1, r20_2, r20_3) =>
((rdRow true h15 [.int .i64, .int .i64, .int .i64, .int .i64, .int .i64, .int .i64, .int .i64, .int .i64] (rowSV true [.int .i64, .int .i64, .int .i64, .int .i64, .int .i64, .int .i64, .int .i64, .int .i64] r17_2)).bind fun s24 =>
((rdRow true h15 [.int .i64, .int .i64, .int .i64, .int .i64, .int .i64, .int .i64, .int .i64, .int .i64] (rowSV true [.int .i64, .int .i64, .int .i64, .int .i64, .int .i64, .int .i64, .int .i64, .int .i64] r20_2)).bind fun s25 =>
((period_AdjustP (r17_0, r17_1, s24, r17_3) (r20_0, r20_1, s25, r20_3)).bind fun (r22, r23) =>
(let h26 : H := H.reserve h15 0
((rdT (.agg [.int .i64, .int .i64, .slice, .int .i64]) h26 (.hp h1.next 4 0)).bind fun (x27_0, x27_1, x27_2, x27_3) =>
((rdRow true h26 [.int .i64, .int .i64, .int .i64, .int .i64, .int .i64, .int .i64, .int .i64, .int .i64] x27_2).bind fun s29 =>
((spilelaw50_cpP (x27_0, x27_1, s29, x27_3)).bind fun (r28_0, r28_1, r28_2, r28_3) =>
((rdT (.agg [.int .i64, .int .i64, .slice, .int .i64]) h26 (.hp h.next 4 0)).bind fun (x30_0, x30_1, x30_2, x30_3) =>
((rdRow true h26 [.int .i64, .int .i64, .int .i64, .int .i64, .int .i64, .int .i64, .int .i64, .int .i64] x30_2).bind fun s32 =>
((spilelaw50_cpP (x30_0, x30_1, s32, x30_3)).bind fun (r31_0, r31_1, r31_2, r31_3) =>
((rdRow true h26 [.int .i64, .int .i64, .int .i64, .int .i64, .int .i64, .int .i64, .int .i64, .int .i64] (rowSV true [.int .i64, .int .i64, .int .i64, .int .i64, .int .i64, .int .i64, .int .i64, .int .i64] r28_2)).bind fun s35 =>
((rdRow true h26 [.int .i64, .int .i64, .int .i64, .int .i64, .int .i64, .int .i64, .int .i64, .int .i64] (rowSV true [.int .i64, .int .i64, .int .i64, .int .i64, .int .i64, .int .i64, .int .i64, .int .i64] r31_2)).bind fun s36 =>
((period_AdjustP (r28_0, r28_1, s35, r28_3) (r31_0, r31_1, s36, r31_3)).bind fun (r33, r34) =>
(bif (!(decide (r23 = 0))) then (((bif (decide (((r22.length : Nat) : Int) = 0)) then (some ((decide (r34 = r23)), h26)) else (some (false, h26)))).bind fun (y37, h38) =>
(some (y37, h38))) else (let h39 : H := H.reserve h26 0
((rdT (.agg [.int .i64, .int .i64, .slice, .int .i64]) h39 (.hp h.next 4 0)).bind fun (x40_0, x40_1, x40_2, x40_3) =>
((rdRow true h39 [.int .i64, .int .i64, .int .i64, .int .i64, .int .i64, .int .i64, .int .i64, .int .i64] x40_2).bind fun s42 =>
((spilelaw50_cpP (x40_0, x40_1, s42, x40_3)).bind fun (r41_0, r41_1, r41_2, r41_3) =>
((rdT (.agg [.int .i64, .int .i64, .slice, .int .i64]) h39 (.hp h.next 4 0)).bind fun (x43_0, x43_1, x43_2, x43_3) =>
((rdRow true h39 [.int .i64, .int .i64, .int .i64, .int .i64, .int .i64, .int .i64, .int .i64, .int .i64] x43_2).bind fun s45 =>
((spilelaw50_cpP (x43_0, x43_1, s45, x43_3)).bind fun (r44_0, r44_1, r44_2, r44_3) =>
((rdRow true h39 [.int .i64, .int .i64, .int .i64, .int .i64, .int .i64, .int .i64, .int .i64, .int .i64] (rowSV true [.int .i64, .int .i64, .int .i64, .int .i64, .int .i64, .int .i64, .int .i64, .int .i64] r41_2)).bind fun s48 =>
((rdRow true h39 [.int .i64, .int .i64, .int .i64, .int .i64, .int .i64, .int .i64, .int .i64, .int .i64] (rowSV true [.int .i64, .int .i64, .int .i64, .int .i64, .int .i64, .int .i64, .int .i64, .int .i64] r44_2)).bind fun s49 =>
((period_AdjustP (r41_0, r41_1, s48, r41_3) (r44_0, r44_1, s49, r44_3)).bind fun (r46, r47) =>
(((bif !(!(decide (r34 = 0))) then (bif !(!(decide (r47 = 0))) then (bif !(!(decide (((r46.length : Nat) : Int) = 0))) then (some ((!(decide (((r22.length : Nat) : Int) = ((r33.length : Nat) : Int)))), h39)) else (some (true, h39))) else (some (true, h39))) else (some (true, h39)))).bind fun (y50, h51) =>
(bif y50 then (some (false, h51)) else ((iter FUEL (spilelaw50_PeriodSettles.loop1 r22 r33) (0, h51)).bind fun (fl63, h62) => match fl63 with
| .next _ => none
| .ret rr64 => (some (rr64, h62))
| .ex0 _ =>
(((let h65 : H := H.reserve h62 0
((rdT (.leaf (.int .i64)) h65 (.hp h.next 4 3)).bind fun x66 =>
((rdT (.agg [.int .i64, .int .i64, .slice, .int .i64]) h65 (.hp h.next 4 0)).bind fun (x67_0, x67_1, x67_2, x67_3) =>
((rdRow true h65 [.int .i64, .int .i64, .int .i64, .int .i64, .int .i64, .int .i64, .int .i64, .int .i64] x67_2).bind fun s69 =>
((spilelaw50_PeriodSettles_1P (x67_0, x67_1, s69, x67_3)).bind fun r68 =>
(bif !(!(decide (x66 = r68))) then ((rdT (.leaf (.int .i64)) h65 (.hp h1.next 4 3)).bind fun x70 =>
((rdT (.agg [.int .i64, .int .i64, .slice, .int .i64]) h65 (.hp h1.next 4 0)).bind fun (x71_0, x71_1, x71_2, x71_3) =>
((rdRow true h65 [.int .i64, .int .i64, .int .i64, .int .i64, .int .i64, .int .i64, .int .i64, .int .i64] x71_2).bind fun s73 =>
((spilelaw50_PeriodSettles_1P (x71_0, x71_1, s73, x71_3)).bind fun r72 =>
(some ((!(decide (x70 = r72))), h65)))))) else (some (true, h65))))))))).bind fun (y74, h75) =>
(bif y74 then (some (true, h75)) else ((slices_ContainsFunc_api_Adjustment_api_Adjustment spilelaw50_PeriodSettles.tb (rowSV true [.int .i64, .int .i64] r22) (.func 38 [] : V) h75).bind fun (r76, h77) =>
(bif r76 then (some (true, h77)) else ((rdT (.agg [.int .i64, .int .i64, .slice, .int .i64]) h77 (.hp h.next 4 0)).bind fun (x78_0, x78_1, x78_2, x78_3) =>
((rdRow true h77 [.int .i64, .int .i64, .int .i64, .int .i64, .int .i64, .int .i64, .int .i64, .int .i64] x78_2).bind fun s80 =>
((spilelaw50_cpP (x78_0, x78_1, s80, x78_3)).bind fun (r79_0, r79_1, r79_2, r79_3) =>
((rdRow true h77 [.int .i64, .int .i64, .int .i64, .int .i64, .int .i64, .int .i64, .int .i64, .int .i64] (rowSV true [.int .i64, .int .i64, .int .i64, .int .i64, .int .i64, .int .i64, .int .i64, .int .i64] r79_2)).bind fun s83 =>
((rdRow true h77 [.int .i64, .int .i64] (rowSV true [.int .i64, .int .i64] r22)).bind fun s84 =>
((period_SettleP (r79_0, r79_1, s83, r79_3) s84).bind fun (r81, r82) =>
(((bif (decide (r82 = 0)) then ((rdT (.leaf (.int .i64)) h77 (.hp h1.next 4 3)).bind fun x85 =>
(some ((decide (r81 = x85)), h77))) else (some (false, h77)))).bind fun (y86, h87) =>
(some (y86, h87)))))))))))))
| .ex1 _ => none))))))))))))))))))))))))))))))))))))))))
def spilelaw50_PeriodSettles.A : Ann := { lits := [], conds := [], loops := [(11, [94], [.leaf (.int .i64)], [], [], some 0, none)], regs := [(1, [38], [.leaf .bool]), (6, [4], [.leaf .bool]), (8, [91], [.leaf .bool]), (13, [129], [.leaf .bool]), (17, [144], [.leaf .bool]), (22, [4], [.leaf .bool])], qd := [135, 142] }
noncomputable def spilelaw50_PeriodSettles.tc : Table := tab [(37, slices_ContainsFunc_api_Adjustment_api_Adjustment.e (spilelaw50_PeriodSettles.tb))] [] (spilelaw50_PeriodSettles.tb)
theorem spilelaw50_PeriodSettles.tcok : TabOK Tryd.prog (spilelaw50_PeriodSettles.tc) := TabOK.tab (spilelaw50_PeriodSettles.tbok) (all_cons (slices_ContainsFunc_api_Adjustment_api_Adjustment.ok _ (spilelaw50_PeriodSettles.tbok)) (all_nil _)) (all_nil _)
theorem spilelaw50_PeriodSettles.eq : ∀ (x : TT [.agg [.int .i64, .int .i64, .slice, .int .i64], .agg [.int .i64, .int .i64, .slice, .int .i64]]) (h : H), evalFn Tryd.prog (spilelaw50_PeriodSettles.tc) spilelaw50_PeriodSettles.A Tryd.f8 (.one (.leaf .bool)) (TT.un [.agg [.int .i64, .int .i64, .slice, .int .i64], .agg [.int .i64, .int .i64, .slice, .int .i64]] x) h = spilelaw50_PeriodSettles x.1 x.2 h := by
  intro x h
  kernel_rfl
noncomputable def spilelaw50_PeriodSettles.e : Entry := mkX [.agg [.int .i64, .int .i64, .slice, .int .i64], .agg [.int .i64, .int .i64, .slice, .int .i64]] (.one (.leaf .bool)) fun x h => spilelaw50_PeriodSettles x.1 x.2 h
theorem spilelaw50_PeriodSettles.ok : EntryOK Tryd.prog 8 (spilelaw50_PeriodSettles.e) := mkX_ok (spilelaw50_PeriodSettles.tcok) Tryd.mixed Tryd.func8 (by kernel_rfl) (spilelaw50_PeriodSettles.eq)
noncomputable def spilelaw50_PeriodSettlesP (a0 : (Int × Int × (List (Int × Int × Int × Int × Int × Int × Int × Int)) × Int)) (a1 : (Int × Int × (List (Int × Int × Int × Int × Int × Int × Int × Int)) × Int)) : Option (Bool) := (spilelaw50_PeriodSettles (a0.1, a0.2.1, rowSV false [.int .i64, .int .i64, .int .i64, .int .i64, .int .i64, .int .i64, .int .i64, .int .i64] a0.2.2.1, a0.2.2.2) (a1.1, a1.2.1, rowSV false [.int .i64, .int .i64, .int .i64, .int .i64, .int .i64, .int .i64, .int .i64, .int .i64] a1.2.2.1, a1.2.2.2) H.empty).bind fun p => rdRes false p.2 (.one (.leaf .bool)) (Res.un (.one (.leaf .bool)) p.1)
theorem spilelaw50_PeriodSettlesP.eq : ∀ x : TT [.agg [.int .i64, .int .i64, .row [.int .i64, .int .i64, .int .i64, .int .i64, .int .i64, .int .i64, .int .i64, .int .i64], .int .i64], .agg [.int .i64, .int .i64, .row [.int .i64, .int .i64, .int .i64, .int .i64, .int .i64, .int .i64, .int .i64, .int .i64], .int .i64]], ((evalFn Tryd.prog (spilelaw50_PeriodSettles.tc) spilelaw50_PeriodSettles.A Tryd.f8 (.one (.leaf .bool)) (TT.lo false [.agg [.int .i64, .int .i64, .row [.int .i64, .int .i64, .int .i64, .int .i64, .int .i64, .int .i64, .int .i64, .int .i64], .int .i64], .agg [.int .i64, .int .i64, .row [.int .i64, .int .i64, .int .i64, .int .i64, .int .i64, .int .i64, .int .i64, .int .i64], .int .i64]] x) H.empty).bind fun p => rdRes false p.2 (.one (.leaf .bool)) (Res.un (.one (.leaf .bool)) p.1)) = spilelaw50_PeriodSettlesP x.1 x.2 := by
  intro x
  rw [show TT.lo false [.agg [.int .i64, .int .i64, .row [.int .i64, .int .i64, .int .i64, .int .i64, .int .i64, .int .i64, .int .i64, .int .i64], .int .i64], .agg [.int .i64, .int .i64, .row [.int .i64, .int .i64, .int .i64, .int .i64, .int .i64, .int .i64, .int .i64, .int .i64], .int .i64]] x = TT.un [.agg [.int .i64, .int .i64, .slice, .int .i64], .agg [.int .i64, .int .i64, .slice, .int .i64]] ((x.1.1, x.1.2.1, rowSV false [.int .i64, .int .i64, .int .i64, .int .i64, .int .i64, .int .i64, .int .i64, .int .i64] x.1.2.2.1, x.1.2.2.2), (x.2.1, x.2.2.1, rowSV false [.int .i64, .int .i64, .int .i64, .int .i64, .int .i64, .int .i64, .int .i64, .int .i64] x.2.2.2.1, x.2.2.2.2)) from rfl, spilelaw50_PeriodSettles.eq]
  rfl
noncomputable def spilelaw50_PeriodSettlesP.e : Entry := mkP [.agg [.int .i64, .int .i64, .row [.int .i64, .int .i64, .int .i64, .int .i64, .int .i64, .int .i64, .int .i64, .int .i64], .int .i64], .agg [.int .i64, .int .i64, .row [.int .i64, .int .i64, .int .i64, .int .i64, .int .i64, .int .i64, .int .i64, .int .i64], .int .i64]] (.one (.leaf .bool)) fun x => spilelaw50_PeriodSettlesP x.1 x.2
theorem spilelaw50_PeriodSettlesP.ok : EntryOK Tryd.prog 8 (spilelaw50_PeriodSettlesP.e) := mkP_ok (spilelaw50_PeriodSettles.tcok) Tryd.mixed Tryd.func8 (by kernel_rfl) spilelaw50_PeriodSettlesP.eq

/-! ### spile/spilelaw50.PeriodPlanned: function 9 -/
noncomputable def spilelaw50_PeriodPlanned.tb : Table := tab [(10, spilelaw50_awakeP.e), (12, period_CheckP.e), (13, slices_Clone_api_Period_api_PeriodP.e), (19, period_PlanP.e)] [] Table.nil
theorem spilelaw50_PeriodPlanned.tbok : TabOK Tryd.prog (spilelaw50_PeriodPlanned.tb) := TabOK.tab (TabOK.nil Tryd.prog) (all_cons spilelaw50_awakeP.ok (all_cons period_CheckP.ok (all_cons slices_Clone_api_Period_api_PeriodP.ok (all_cons period_PlanP.ok (all_nil _))))) (all_nil _)
noncomputable def spilelaw50_PeriodPlanned.loop1 (a1 : Int) (a3 : Int) (r2 : List (Int × Int × Int × Bool)) : (Int) × H → Option (Stp ((Int) × H) (Flow (Unit) (Bool) × H)) := fun (y12, h13) =>
(bif (decide (y12 < ((r2.length : Nat) : Int))) then (guardO (0 ≤ y12 ∧ y12 < ((r2.length : Nat) : Int)) ((rdT (.agg [.int .i64, .int .i64, .int .i64, .bool]) h13 (V.add ((rowSV true [.int .i64, .int .i64, .int .i64, .bool] r2).a) (Int.toNat y12 * 4))).bind fun (x14_0, x14_1, x14_2, x14_3) =>
(let h15 : H := H.new h13 [.int .i64 0, .int .i64 0, .int .i64 0, .bool false] 4
((H.wrs h15 (.hp h13.next 4 0) [.int .i64 x14_0, .int .i64 x14_1, .int .i64 x14_2, .bool x14_3]).bind fun h16 =>
((((rdT (.leaf .bool) h16 (.hp h13.next 4 3)).bind fun x17 =>
(bif !x17 then ((rdT (.leaf (.int .i64)) h16 (.hp h13.next 4 1)).bind fun x18 =>
((rdT (.leaf (.int .i64)) h16 (.hp h13.next 4 0)).bind fun x19 =>
(bif !(!(decide ((IntKind.wrap .i64 ((IntKind.wrap .i64 (x18 - x19)) + 1)) = a1))) then ((rdT (.leaf (.int .i64)) h16 (.hp h13.next 4 2)).bind fun x20 =>
((rdT (.leaf (.int .i64)) h16 (.hp h13.next 4 1)).bind fun x21 =>
(some ((!(decide ((IntKind.wrap .i64 (x20 - x21)) = a3))), h16)))) else (some (true, h16))))) else (some (true, h16))))).bind fun (y22, h23) =>
(bif y22 then (some (.done (.ret false, h23))) else (some (.more ((IntKind.wrap .i64 (y12 + 1)), h23))))))))) else (some (.done (.ex0 (), h13))))
noncomputable def spilelaw50_PeriodPlanned (a0 : Int) (a1 : Int) (a2 : Int) (a3 : Int) (h : H) : Option ((Bool) × H) :=
((spilelaw50_awakeP ).bind fun r1 =>
(bif (!r1) then (some (false, h)) else ((period_PlanP a0 a1 a2 a3).bind fun (r2, r3) =>
(bif (!(decide (r3 = 0))) then (some ((decide (((r2.length : Nat) : Int) = 0)), h)) else ((rdRow true h [.int .i64, .int .i64, .int .i64, .bool] (rowSV true [.int .i64, .int .i64, .int .i64, .bool] r2)).bind fun s5 =>
((cloneP 32 s5).bind fun r4 =>
((rdRow true h [.int .i64, .int .i64, .int .i64, .bool] (rowSV true [.int .i64, .int .i64, .int .i64, .bool] r4)).bind fun s8 =>
((period_CheckP s8).bind fun (r6, r7) =>
(((bif !(!(decide (r7 = 0))) then (bif !(!(decide (r6 = (-1)))) then (bif !(!(decide (((r2.length : Nat) : Int) = a2))) then (guardO (0 ≤ (0 : Int) ∧ 0 < ((r2.length : Nat) : Int)) (guardO (V.nn ((V.add ((rowSV true [.int .i64, .int .i64, .int .i64, .bool] r2).a) 0) : V) = true) ((rdT (.leaf (.int .i64)) h (V.add (V.add ((rowSV true [.int .i64, .int .i64, .int .i64, .bool] r2).a) 0) 0)).bind fun x9 =>
(some ((!(decide (x9 = a0))), h))))) else (some (true, h))) else (some (true, h))) else (some (true, h)))).bind fun (y10, h11) =>
(bif y10 then (some (false, h11)) else ((iter FUEL (spilelaw50_PeriodPlanned.loop1 a1 a3 r2) (0, h11)).bind fun (fl25, h24) => match fl25 with
| .next _ => none
| .ret rr26 => (some (rr26, h24))
| .ex0 _ =>
(some (true, h24))
| .ex1 _ => none)))))))))))
def spilelaw50_PeriodPlanned.A : Ann := { lits := [], conds := [], loops := [(10, [58], [.leaf (.int .i64)], [], [], some 0, none)], regs := [(7, [55], [.leaf .bool]), (12, [82], [.leaf .bool])] }
theorem spilelaw50_PeriodPlanned.eq : ∀ (x : TT [.leaf (.int .i64), .leaf (.int .i64), .leaf (.int .i64), .leaf (.int .i64)]) (h : H), evalFn Tryd.prog (spilelaw50_PeriodPlanned.tb) spilelaw50_PeriodPlanned.A Tryd.f9 (.one (.leaf .bool)) (TT.un [.leaf (.int .i64), .leaf (.int .i64), .leaf (.int .i64), .leaf (.int .i64)] x) h = spilelaw50_PeriodPlanned x.1 x.2.1 x.2.2.1 x.2.2.2 h := by
  intro x h
  kernel_rfl
noncomputable def spilelaw50_PeriodPlanned.e : Entry := mkX [.leaf (.int .i64), .leaf (.int .i64), .leaf (.int .i64), .leaf (.int .i64)] (.one (.leaf .bool)) fun x h => spilelaw50_PeriodPlanned x.1 x.2.1 x.2.2.1 x.2.2.2 h
theorem spilelaw50_PeriodPlanned.ok : EntryOK Tryd.prog 9 (spilelaw50_PeriodPlanned.e) := mkX_ok (spilelaw50_PeriodPlanned.tbok) Tryd.mixed Tryd.func9 (by kernel_rfl) (spilelaw50_PeriodPlanned.eq)
noncomputable def spilelaw50_PeriodPlannedP (a0 : Int) (a1 : Int) (a2 : Int) (a3 : Int) : Option (Bool) := (spilelaw50_PeriodPlanned a0 a1 a2 a3 H.empty).bind fun p => rdRes false p.2 (.one (.leaf .bool)) (Res.un (.one (.leaf .bool)) p.1)
theorem spilelaw50_PeriodPlannedP.eq : ∀ x : TT [.leaf (.int .i64), .leaf (.int .i64), .leaf (.int .i64), .leaf (.int .i64)], ((evalFn Tryd.prog (spilelaw50_PeriodPlanned.tb) spilelaw50_PeriodPlanned.A Tryd.f9 (.one (.leaf .bool)) (TT.lo false [.leaf (.int .i64), .leaf (.int .i64), .leaf (.int .i64), .leaf (.int .i64)] x) H.empty).bind fun p => rdRes false p.2 (.one (.leaf .bool)) (Res.un (.one (.leaf .bool)) p.1)) = spilelaw50_PeriodPlannedP x.1 x.2.1 x.2.2.1 x.2.2.2 := by
  intro x
  rw [show TT.lo false [.leaf (.int .i64), .leaf (.int .i64), .leaf (.int .i64), .leaf (.int .i64)] x = TT.un [.leaf (.int .i64), .leaf (.int .i64), .leaf (.int .i64), .leaf (.int .i64)] (x.1, x.2.1, x.2.2.1, x.2.2.2) from rfl, spilelaw50_PeriodPlanned.eq]
  rfl
noncomputable def spilelaw50_PeriodPlannedP.e : Entry := mkP [.leaf (.int .i64), .leaf (.int .i64), .leaf (.int .i64), .leaf (.int .i64)] (.one (.leaf .bool)) fun x => spilelaw50_PeriodPlannedP x.1 x.2.1 x.2.2.1 x.2.2.2
theorem spilelaw50_PeriodPlannedP.ok : EntryOK Tryd.prog 9 (spilelaw50_PeriodPlannedP.e) := mkP_ok (spilelaw50_PeriodPlanned.tbok) Tryd.mixed Tryd.func9 (by kernel_rfl) spilelaw50_PeriodPlannedP.eq
end Go.Proofs.YtedhmdocimkldaaDoor
