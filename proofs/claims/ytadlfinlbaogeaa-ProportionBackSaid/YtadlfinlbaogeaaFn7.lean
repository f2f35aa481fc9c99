/- The functions of the program as Lean functions, each with the equation by which the evaluator is that function. Written by a program of this session (evdrive.py). Conditions: none. -/
import Derived.Test.YtadlfinlbaogeaaProg
import Derived.Test.YtadlfinlbaogeaaEvSpec
import Derived.Test.YtadlfinlbaogeaaFn6
namespace Go.Proofs.Ytadlfinlbaogeaa
open Go Go.Proofs.Ytadlfinlbaogeaa.Ev
set_option maxRecDepth 100000
set_option linter.unusedVariables false
/-! ### spile/loss.Between: function 38 -/
noncomputable def loss_Between.tb : Table := tab [(65, loss_amountP.e), (66, loss_splitP.e)] [] Table.nil
theorem loss_Between.tbok : TabOK Try.prog (loss_Between.tb) := TabOK.tab (TabOK.nil Try.prog) (all_cons loss_amountP.ok (all_cons loss_splitP.ok (all_nil _))) (all_nil _)
noncomputable def loss_Between (a0 : Int) (a1 : (Int × Int)) (a2 : Int) (a3 : Int) (h : H) : Option (((Int × Int × Int × Int) × (Int × Int × Int × Int) × Int) × H) :=
(match a1 with
| (a1_0, a1_1) =>
(let h1 : H := H.new h [.int .i64 a1_0, .int .i64 a1_1] 2
(let h2 : H := H.new h1 [.int .i64 0, .int .i64 0, .int .i64 0, .int .i64 0] 4
(let h3 : H := H.new h2 [.int .i64 0, .int .i64 0, .int .i64 0, .int .i64 0] 4
((rdT (.leaf (.int .i64)) h3 (.hp h.next 2 0)).bind fun x4 =>
((rdT (.leaf (.int .i64)) h3 (.hp h.next 2 1)).bind fun x5 =>
((rdRow true h3 [.int .i64] ⟨.lp true ([.int .i64 a0, .int .i64 x4, .int .i64 x5, .int .i64 a2, .int .i64 a3]) 0, 5, 5, false⟩).bind fun s7 =>
((loss_amountP s7).bind fun r6 =>
(bif (!r6) then ((H.wrs h3 (.hp h1.next 4 0) [.int .i64 0, .int .i64 0, .int .i64 0, .int .i64 0]).bind fun h8 =>
((H.wrs h8 (.hp h2.next 4 0) [.int .i64 0, .int .i64 0, .int .i64 0, .int .i64 0]).bind fun h9 =>
((rdT (.agg [.int .i64, .int .i64, .int .i64, .int .i64]) h9 (.hp h1.next 4 0 : V)).bind fun (x10_0, x10_1, x10_2, x10_3) =>
((rdT (.agg [.int .i64, .int .i64, .int .i64, .int .i64]) h9 (.hp h2.next 4 0 : V)).bind fun (x11_0, x11_1, x11_2, x11_3) =>
(some (((x10_0, x10_1, x10_2, x10_3), (x11_0, x11_1, x11_2, x11_3), 2), h9)))))) else ((rdT (.leaf (.int .i64)) h3 (.hp h.next 2 0)).bind fun x12 =>
((rdT (.leaf (.int .i64)) h3 (.hp h.next 2 1)).bind fun x13 =>
(bif (decide (x13 < x12)) then ((H.wrs h3 (.hp h1.next 4 0) [.int .i64 0, .int .i64 0, .int .i64 0, .int .i64 0]).bind fun h14 =>
((H.wrs h14 (.hp h2.next 4 0) [.int .i64 0, .int .i64 0, .int .i64 0, .int .i64 0]).bind fun h15 =>
((rdT (.agg [.int .i64, .int .i64, .int .i64, .int .i64]) h15 (.hp h1.next 4 0 : V)).bind fun (x16_0, x16_1, x16_2, x16_3) =>
((rdT (.agg [.int .i64, .int .i64, .int .i64, .int .i64]) h15 (.hp h2.next 4 0 : V)).bind fun (x17_0, x17_1, x17_2, x17_3) =>
(some (((x16_0, x16_1, x16_2, x16_3), (x17_0, x17_1, x17_2, x17_3), 5), h15)))))) else (let h18 : H := H.reserve h3 0
((rdT (.leaf (.int .i64)) h18 (.hp h.next 2 1)).bind fun x19 =>
((loss_splitP a0 x19 a2 a3).bind fun (r20_0, r20_1, r20_2, r20_3) =>
((rdT (.leaf (.int .i64)) h18 (.hp h.next 2 0)).bind fun x21 =>
((loss_splitP a0 x21 a2 a3).bind fun (r22_0, r22_1, r22_2, r22_3) =>
((H.wrs h18 (.hp h1.next 4 0) [.int .i64 r20_0, .int .i64 r20_1, .int .i64 r20_2, .int .i64 r20_3]).bind fun h23 =>
((H.wrs h23 (.hp h2.next 4 0) [.int .i64 r22_0, .int .i64 r22_1, .int .i64 r22_2, .int .i64 r22_3]).bind fun h24 =>
((rdT (.agg [.int .i64, .int .i64, .int .i64, .int .i64]) h24 (.hp h1.next 4 0 : V)).bind fun (x25_0, x25_1, x25_2, x25_3) =>
((rdT (.agg [.int .i64, .int .i64, .int .i64, .int .i64]) h24 (.hp h2.next 4 0 : V)).bind fun (x26_0, x26_1, x26_2, x26_3) =>
(some (((x25_0, x25_1, x25_2, x25_3), (x26_0, x26_1, x26_2, x26_3), 0), h24)))))))))))))))))))))))
def loss_Between.A : Ann := { lits := [], conds := [], loops := [], regs := [] }
theorem loss_Between.eq : ∀ (x : TT [.leaf (.int .i64), .agg [.int .i64, .int .i64], .leaf (.int .i64), .leaf (.int .i64)]) (h : H), evalFn Try.prog (loss_Between.tb) loss_Between.A Try.f38 (.many [.agg [.int .i64, .int .i64, .int .i64, .int .i64], .agg [.int .i64, .int .i64, .int .i64, .int .i64], .leaf (.int .i64)]) (TT.un [.leaf (.int .i64), .agg [.int .i64, .int .i64], .leaf (.int .i64), .leaf (.int .i64)] x) h = loss_Between x.1 x.2.1 x.2.2.1 x.2.2.2 h := by
  intro x h
  kernel_rfl
noncomputable def loss_Between.e : Entry := mkX [.leaf (.int .i64), .agg [.int .i64, .int .i64], .leaf (.int .i64), .leaf (.int .i64)] (.many [.agg [.int .i64, .int .i64, .int .i64, .int .i64], .agg [.int .i64, .int .i64, .int .i64, .int .i64], .leaf (.int .i64)]) fun x h => loss_Between x.1 x.2.1 x.2.2.1 x.2.2.2 h
theorem loss_Between.ok : EntryOK Try.prog 38 (loss_Between.e) := mkX_ok (loss_Between.tbok) Try.mixed Try.func38 (by kernel_rfl) (loss_Between.eq)
noncomputable def loss_BetweenP (a0 : Int) (a1 : (Int × Int)) (a2 : Int) (a3 : Int) : Option ((Int × Int × Int × Int) × (Int × Int × Int × Int) × Int) := (loss_Between a0 a1 a2 a3 H.empty).bind fun p => rdRes false p.2 (.many [.agg [.int .i64, .int .i64, .int .i64, .int .i64], .agg [.int .i64, .int .i64, .int .i64, .int .i64], .leaf (.int .i64)]) (Res.un (.many [.agg [.int .i64, .int .i64, .int .i64, .int .i64], .agg [.int .i64, .int .i64, .int .i64, .int .i64], .leaf (.int .i64)]) p.1)
theorem loss_BetweenP.eq : ∀ x : TT [.leaf (.int .i64), .agg [.int .i64, .int .i64], .leaf (.int .i64), .leaf (.int .i64)], ((evalFn Try.prog (loss_Between.tb) loss_Between.A Try.f38 (.many [.agg [.int .i64, .int .i64, .int .i64, .int .i64], .agg [.int .i64, .int .i64, .int .i64, .int .i64], .leaf (.int .i64)]) (TT.lo false [.leaf (.int .i64), .agg [.int .i64, .int .i64], .leaf (.int .i64), .leaf (.int .i64)] x) H.empty).bind fun p => rdRes false p.2 (.many [.agg [.int .i64, .int .i64, .int .i64, .int .i64], .agg [.int .i64, .int .i64, .int .i64, .int .i64], .leaf (.int .i64)]) (Res.un (.many [.agg [.int .i64, .int .i64, .int .i64, .int .i64], .agg [.int .i64, .int .i64, .int .i64, .int .i64], .leaf (.int .i64)]) p.1)) = loss_BetweenP x.1 x.2.1 x.2.2.1 x.2.2.2 := by
  intro x
  rw [show TT.lo false [.leaf (.int .i64), .agg [.int .i64, .int .i64], .leaf (.int .i64), .leaf (.int .i64)] x = TT.un [.leaf (.int .i64), .agg [.int .i64, .int .i64], .leaf (.int .i64), .leaf (.int .i64)] (x.1, x.2.1, x.2.2.1, x.2.2.2) from rfl, loss_Between.eq]
  rfl
noncomputable def loss_BetweenP.e : Entry := mkP [.leaf (.int .i64), .agg [.int .i64, .int .i64], .leaf (.int .i64), .leaf (.int .i64)] (.many [.agg [.int .i64, .int .i64, .int .i64, .int .i64], .agg [.int .i64, .int .i64, .int .i64, .int .i64], .leaf (.int .i64)]) fun x => loss_BetweenP x.1 x.2.1 x.2.2.1 x.2.2.2
theorem loss_BetweenP.ok : EntryOK Try.prog 38 (loss_BetweenP.e) := mkP_ok (loss_Between.tbok) Try.mixed Try.func38 (by kernel_rfl) loss_BetweenP.eq

/-! ### spile/spilelaw32.LossOrdered$1: function 39 -/
noncomputable def spilelaw32_LossOrdered_1.tb : Table := tab [] [] Table.nil
theorem spilelaw32_LossOrdered_1.tbok : TabOK Try.prog (spilelaw32_LossOrdered_1.tb) := TabOK.tab (TabOK.nil Try.prog) (all_nil _) (all_nil _)
noncomputable def spilelaw32_LossOrdered_1 (a0 : (Int × Int × Int × Int)) (a1 : (Int × Int × Int × Int)) (h : H) : Option ((Bool) × H) :=
(match a0 with
| (a0_0, a0_1, a0_2, a0_3) =>
(match a1 with
| (a1_0, a1_1, a1_2, a1_3) =>
(let h1 : H := H.new h [.int .i64 a0_0, .int .i64 a0_1, .int .i64 a0_2, .int .i64 a0_3] 4
(let h2 : H := H.new h1 [.int .i64 a1_0, .int .i64 a1_1, .int .i64 a1_2, .int .i64 a1_3] 4
((((rdT (.leaf (.int .i64)) h2 (.hp h.next 4 0)).bind fun x3 =>
((rdT (.leaf (.int .i64)) h2 (.hp h1.next 4 0)).bind fun x4 =>
(bif (decide (x3 ≤ x4)) then ((rdT (.leaf (.int .i64)) h2 (.hp h.next 4 1)).bind fun x5 =>
((rdT (.leaf (.int .i64)) h2 (.hp h1.next 4 1)).bind fun x6 =>
(bif (decide (x5 ≤ x6)) then ((rdT (.leaf (.int .i64)) h2 (.hp h.next 4 2)).bind fun x7 =>
((rdT (.leaf (.int .i64)) h2 (.hp h1.next 4 2)).bind fun x8 =>
(bif (decide (x7 ≤ x8)) then ((rdT (.leaf (.int .i64)) h2 (.hp h.next 4 3)).bind fun x9 =>
((rdT (.leaf (.int .i64)) h2 (.hp h1.next 4 3)).bind fun x10 =>
(some ((decide (x10 ≤ x9)), h2)))) else (some (false, h2))))) else (some (false, h2))))) else (some (false, h2)))))).bind fun (y11, h12) =>
(some (y11, h12)))))))
def spilelaw32_LossOrdered_1.A : Ann := { lits := [], conds := [], loops := [], regs := [(1, [4], [.leaf .bool])] }
theorem spilelaw32_LossOrdered_1.eq : ∀ (x : TT [.agg [.int .i64, .int .i64, .int .i64, .int .i64], .agg [.int .i64, .int .i64, .int .i64, .int .i64]]) (h : H), evalFn Try.prog (spilelaw32_LossOrdered_1.tb) spilelaw32_LossOrdered_1.A Try.f39 (.one (.leaf .bool)) (TT.un [.agg [.int .i64, .int .i64, .int .i64, .int .i64], .agg [.int .i64, .int .i64, .int .i64, .int .i64]] x) h = spilelaw32_LossOrdered_1 x.1 x.2 h := by
  intro x h
  kernel_rfl
noncomputable def spilelaw32_LossOrdered_1.e : Entry := mkX [.agg [.int .i64, .int .i64, .int .i64, .int .i64], .agg [.int .i64, .int .i64, .int .i64, .int .i64]] (.one (.leaf .bool)) fun x h => spilelaw32_LossOrdered_1 x.1 x.2 h
theorem spilelaw32_LossOrdered_1.ok : EntryOK Try.prog 39 (spilelaw32_LossOrdered_1.e) := mkX_ok (spilelaw32_LossOrdered_1.tbok) Try.mixed Try.func39 (by kernel_rfl) (spilelaw32_LossOrdered_1.eq)
noncomputable def spilelaw32_LossOrdered_1P (a0 : (Int × Int × Int × Int)) (a1 : (Int × Int × Int × Int)) : Option (Bool) := (spilelaw32_LossOrdered_1 a0 a1 H.empty).bind fun p => rdRes false p.2 (.one (.leaf .bool)) (Res.un (.one (.leaf .bool)) p.1)
theorem spilelaw32_LossOrdered_1P.eq : ∀ x : TT [.agg [.int .i64, .int .i64, .int .i64, .int .i64], .agg [.int .i64, .int .i64, .int .i64, .int .i64]], ((evalFn Try.prog (spilelaw32_LossOrdered_1.tb) spilelaw32_LossOrdered_1.A Try.f39 (.one (.leaf .bool)) (TT.lo false [.agg [.int .i64, .int .i64, .int .i64, .int .i64], .agg [.int .i64, .int .i64, .int .i64, .int .i64]] x) H.empty).bind fun p => rdRes false p.2 (.one (.leaf .bool)) (Res.un (.one (.leaf .bool)) p.1)) = spilelaw32_LossOrdered_1P x.1 x.2 := by
  intro x
  rw [show TT.lo false [.agg [.int .i64, .int .i64, .int .i64, .int .i64], .agg [.int .i64, .int .i64, .int .i64, .int .i64]] x = TT.un [.agg [.int .i64, .int .i64, .int .i64, .int .i64], .agg [.int .i64, .int .i64, .int .i64, .int .i64]] (x.1, x.2) from rfl, spilelaw32_LossOrdered_1.eq]
  rfl
noncomputable def spilelaw32_LossOrdered_1P.e : Entry := mkP [.agg [.int .i64, .int .i64, .int .i64, .int .i64], .agg [.int .i64, .int .i64, .int .i64, .int .i64]] (.one (.leaf .bool)) fun x => spilelaw32_LossOrdered_1P x.1 x.2
theorem spilelaw32_LossOrdered_1P.ok : EntryOK Try.prog 39 (spilelaw32_LossOrdered_1P.e) := mkP_ok (spilelaw32_LossOrdered_1.tbok) Try.mixed Try.func39 (by kernel_rfl) spilelaw32_LossOrdered_1P.eq

/-! ### spile/spilelaw32.LossOrdered: function 9 -/
noncomputable def spilelaw32_LossOrdered.tb : Table := tab [(30, spilelaw32_awakeP.e), (35, loss_SplitP.e), (38, loss_BetweenP.e)] [(39, spilelaw32_LossOrdered_1P.e)] Table.nil
theorem spilelaw32_LossOrdered.tbok : TabOK Try.prog (spilelaw32_LossOrdered.tb) := TabOK.tab (TabOK.nil Try.prog) (all_cons spilelaw32_awakeP.ok (all_cons loss_SplitP.ok (all_cons loss_BetweenP.ok (all_nil _)))) (all_cons spilelaw32_LossOrdered_1P.ok (all_nil _))
noncomputable def spilelaw32_LossOrdered (a0 : (Int × Int × Int × Int × Int)) (a1 : Int) (h : H) : Option ((Bool) × H) :=
(match a0 with
| (a0_0, a0_1, a0_2, a0_3, a0_4) =>
(let h1 : H := H.new h [.int .i64 a0_0, .int .i64 a0_1, .int .i64 a0_2, .int .i64 a0_3, .int .i64 a0_4] 5
((spilelaw32_awakeP ).bind fun r2 =>
(bif (!r2) then (some (false, h1)) else ((rdT (.leaf (.int .i64)) h1 (.hp h.next 5 0)).bind fun x3 =>
((rdT (.agg [.int .i64, .int .i64]) h1 (.hp h.next 5 1)).bind fun (x4_0, x4_1) =>
((rdT (.leaf (.int .i64)) h1 (.hp h.next 5 3)).bind fun x5 =>
((rdT (.leaf (.int .i64)) h1 (.hp h.next 5 4)).bind fun x6 =>
((loss_BetweenP x3 (x4_0, x4_1) x5 x6).bind fun ((r7_0, r7_1, r7_2, r7_3), (r8_0, r8_1, r8_2, r8_3), r9) =>
(let h10 : H := H.new h1 [.int .i64 0, .int .i64 0, .int .i64 0, .int .i64 0] 4
(let h11 : H := H.new h10 [.int .i64 0, .int .i64 0, .int .i64 0, .int .i64 0] 4
((H.wrs h11 (.hp h1.next 4 0) [.int .i64 r7_0, .int .i64 r7_1, .int .i64 r7_2, .int .i64 r7_3]).bind fun h12 =>
((H.wrs h12 (.hp h10.next 4 0) [.int .i64 r8_0, .int .i64 r8_1, .int .i64 r8_2, .int .i64 r8_3]).bind fun h13 =>
(bif (!(decide (r9 = 0))) then ((((rdT (.agg [.int .i64, .int .i64, .int .i64, .int .i64]) h13 (.hp h1.next 4 0)).bind fun (x14_0, x14_1, x14_2, x14_3) =>
(bif (decide (x14_0 = 0) && (decide (x14_1 = 0) && (decide (x14_2 = 0) && (decide (x14_3 = 0))))) then ((rdT (.agg [.int .i64, .int .i64, .int .i64, .int .i64]) h13 (.hp h10.next 4 0)).bind fun (x15_0, x15_1, x15_2, x15_3) =>
(some ((decide (x15_0 = 0) && (decide (x15_1 = 0) && (decide (x15_2 = 0) && (decide (x15_3 = 0))))), h13))) else (some (false, h13))))).bind fun (y16, h17) =>
(some (y16, h17))) else (let h18 : H := H.reserve h13 0
((rdT (.leaf (.int .i64)) h18 (.hp h.next 5 1)).bind fun x19 =>
((rdT (.leaf (.int .i64)) h18 (.hp h.next 5 2)).bind fun x20 =>
((rdT (.leaf (.int .i64)) h18 (.hp h.next 5 1)).bind fun x21 =>
(guardO ((IntKind.wrap .i64 (1 + (IntKind.wrap .i64 (a1)))) ≠ 0) ((rdT (.leaf (.int .i64)) h18 (.hp h.next 5 0)).bind fun x22 =>
((rdT (.leaf (.int .i64)) h18 (.hp h.next 5 3)).bind fun x23 =>
((rdT (.leaf (.int .i64)) h18 (.hp h.next 5 4)).bind fun x24 =>
((loss_SplitP x22 (IntKind.wrap .i64 (x19 + (IntKind.wrap .i64 (Int.tdiv (IntKind.wrap .i64 (x20 - x21)) (IntKind.wrap .i64 (1 + (IntKind.wrap .i64 (a1)))))))) x23 x24).bind fun ((r25_0, r25_1, r25_2, r25_3), r26) =>
(let h27 : H := H.new h18 [.int .i64 0, .int .i64 0, .int .i64 0, .int .i64 0] 4
((H.wrs h27 (.hp h18.next 4 0) [.int .i64 r25_0, .int .i64 r25_1, .int .i64 r25_2, .int .i64 r25_3]).bind fun h28 =>
(((bif (decide (r26 = 0)) then ((rdT (.agg [.int .i64, .int .i64, .int .i64, .int .i64]) h28 (.hp h1.next 4 0)).bind fun (x29_0, x29_1, x29_2, x29_3) =>
((rdT (.agg [.int .i64, .int .i64, .int .i64, .int .i64]) h28 (.hp h18.next 4 0)).bind fun (x30_0, x30_1, x30_2, x30_3) =>
((spilelaw32_LossOrdered_1P (x29_0, x29_1, x29_2, x29_3) (x30_0, x30_1, x30_2, x30_3)).bind fun r31 =>
(bif r31 then ((rdT (.agg [.int .i64, .int .i64, .int .i64, .int .i64]) h28 (.hp h18.next 4 0)).bind fun (x32_0, x32_1, x32_2, x32_3) =>
((rdT (.agg [.int .i64, .int .i64, .int .i64, .int .i64]) h28 (.hp h10.next 4 0)).bind fun (x33_0, x33_1, x33_2, x33_3) =>
((spilelaw32_LossOrdered_1P (x32_0, x32_1, x32_2, x32_3) (x33_0, x33_1, x33_2, x33_3)).bind fun r34 =>
(some (r34, h28))))) else (some (false, h28)))))) else (some (false, h28)))).bind fun (y35, h36) =>
(some (y35, h36))))))))))))))))))))))))))))
def spilelaw32_LossOrdered.A : Ann := { lits := [], conds := [], loops := [], regs := [(5, [4], [.leaf .bool]), (9, [4], [.leaf .bool])] }
theorem spilelaw32_LossOrdered.eq : ∀ (x : TT [.agg [.int .i64, .int .i64, .int .i64, .int .i64, .int .i64], .leaf (.int .u16)]) (h : H), evalFn Try.prog (spilelaw32_LossOrdered.tb) spilelaw32_LossOrdered.A Try.f9 (.one (.leaf .bool)) (TT.un [.agg [.int .i64, .int .i64, .int .i64, .int .i64, .int .i64], .leaf (.int .u16)] x) h = spilelaw32_LossOrdered x.1 x.2 h := by
  intro x h
  kernel_rfl
noncomputable def spilelaw32_LossOrdered.e : Entry := mkX [.agg [.int .i64, .int .i64, .int .i64, .int .i64, .int .i64], .leaf (.int .u16)] (.one (.leaf .bool)) fun x h => spilelaw32_LossOrdered x.1 x.2 h
theorem spilelaw32_LossOrdered.ok : EntryOK Try.prog 9 (spilelaw32_LossOrdered.e) := mkX_ok (spilelaw32_LossOrdered.tbok) Try.mixed Try.func9 (by kernel_rfl) (spilelaw32_LossOrdered.eq)
noncomputable def spilelaw32_LossOrderedP (a0 : (Int × Int × Int × Int × Int)) (a1 : Int) : Option (Bool) := (spilelaw32_LossOrdered a0 a1 H.empty).bind fun p => rdRes false p.2 (.one (.leaf .bool)) (Res.un (.one (.leaf .bool)) p.1)
theorem spilelaw32_LossOrderedP.eq : ∀ x : TT [.agg [.int .i64, .int .i64, .int .i64, .int .i64, .int .i64], .leaf (.int .u16)], ((evalFn Try.prog (spilelaw32_LossOrdered.tb) spilelaw32_LossOrdered.A Try.f9 (.one (.leaf .bool)) (TT.lo false [.agg [.int .i64, .int .i64, .int .i64, .int .i64, .int .i64], .leaf (.int .u16)] x) H.empty).bind fun p => rdRes false p.2 (.one (.leaf .bool)) (Res.un (.one (.leaf .bool)) p.1)) = spilelaw32_LossOrderedP x.1 x.2 := by
  intro x
  rw [show TT.lo false [.agg [.int .i64, .int .i64, .int .i64, .int .i64, .int .i64], .leaf (.int .u16)] x = TT.un [.agg [.int .i64, .int .i64, .int .i64, .int .i64, .int .i64], .leaf (.int .u16)] (x.1, x.2) from rfl, spilelaw32_LossOrdered.eq]
  rfl
noncomputable def spilelaw32_LossOrderedP.e : Entry := mkP [.agg [.int .i64, .int .i64, .int .i64, .int .i64, .int .i64], .leaf (.int .u16)] (.one (.leaf .bool)) fun x => spilelaw32_LossOrderedP x.1 x.2
theorem spilelaw32_LossOrderedP.ok : EntryOK Try.prog 9 (spilelaw32_LossOrderedP.e) := mkP_ok (spilelaw32_LossOrdered.tbok) Try.mixed Try.func9 (by kernel_rfl) spilelaw32_LossOrderedP.eq

/-! ### spile/spilelaw32.LossTurns: function 10 -/
noncomputable def spilelaw32_LossTurns.tb : Table := tab [(30, spilelaw32_awakeP.e), (31, loss_ChainP.e), (32, slices_Clone_api_Turn_api_TurnP.e), (36, spilelaw32_lostP.e)] [] Table.nil
theorem spilelaw32_LossTurns.tbok : TabOK Try.prog (spilelaw32_LossTurns.tb) := TabOK.tab (TabOK.nil Try.prog) (all_cons spilelaw32_awakeP.ok (all_cons loss_ChainP.ok (all_cons slices_Clone_api_Turn_api_TurnP.ok (all_cons spilelaw32_lostP.ok (all_nil _))))) (all_nil _)
noncomputable def spilelaw32_LossTurns.loop1 (a1 : SV) (r4 : List (Int × Int × Int × Int)) : (Int × Int × Int) × H → Option (Stp ((Int × Int × Int) × H) (Flow (Int × Int) (Bool) × H)) := fun ((y12, y13, y14), h15) =>
(bif (decide (y14 < ((a1.len : Nat) : Int))) then (guardO (0 ≤ y14 ∧ y14 < ((a1.len : Nat) : Int)) ((rdT (.agg [.int .i64, .int .i64, .int .i64, .int .i64, .int .i64]) h15 (V.add a1.a (Int.toNat y14 * 5))).bind fun (x16_0, x16_1, x16_2, x16_3, x16_4) =>
(let h17 : H := H.new h15 [.int .i64 0, .int .i64 0, .int .i64 0, .int .i64 0, .int .i64 0] 5
((H.wrs h17 (.hp h15.next 5 0) [.int .i64 x16_0, .int .i64 x16_1, .int .i64 x16_2, .int .i64 x16_3, .int .i64 x16_4]).bind fun h18 =>
(let h19 : H := H.reserve h18 0
((rdT (.leaf (.int .i64)) h19 (.hp h15.next 5 0)).bind fun x20 =>
(guardO (0 ≤ y14 ∧ y14 < ((r4.length : Nat) : Int)) (guardO (V.nn ((V.add ((rowSV true [.int .i64, .int .i64, .int .i64, .int .i64] r4).a) (Int.toNat y14 * 4)) : V) = true) ((rdT (.leaf (.int .i64)) h19 (V.add (V.add ((rowSV true [.int .i64, .int .i64, .int .i64, .int .i64] r4).a) (Int.toNat y14 * 4)) 3)).bind fun x21 =>
((rdT (.leaf (.int .i64)) h19 (.hp h15.next 5 1)).bind fun x22 =>
(guardO (0 ≤ y14 ∧ y14 < ((r4.length : Nat) : Int)) ((rdT (.agg [.int .i64, .int .i64, .int .i64, .int .i64]) h19 (V.add ((rowSV true [.int .i64, .int .i64, .int .i64, .int .i64] r4).a) (Int.toNat y14 * 4))).bind fun (x23_0, x23_1, x23_2, x23_3) =>
((spilelaw32_lostP (x23_0, x23_1, x23_2, x23_3)).bind fun r24 =>
((rdT (.leaf (.int .i64)) h19 (.hp h15.next 5 2)).bind fun x25 =>
(some (.more (((IntKind.wrap .i64 (y12 + (IntKind.wrap .i64 ((IntKind.wrap .i64 ((IntKind.wrap .i64 (x20 + x21)) - x22)) - r24)))), x25, (IntKind.wrap .i64 (y14 + 1))), h19))))))))))))))))) else (some (.done (.ex0 (y12, y13), h15))))
noncomputable def spilelaw32_LossTurns (a0 : Int) (a1 : SV) (h : H) : Option ((Bool) × H) :=
((spilelaw32_awakeP ).bind fun r1 =>
(bif (!r1) then (some (false, h)) else (bif (decide ((20 : Int) < ((a1.len : Nat) : Int))) then (some (true, h)) else ((rdRow true h [.int .i64, .int .i64, .int .i64, .int .i64, .int .i64] a1).bind fun s3 =>
((cloneP 40 s3).bind fun r2 =>
((rdRow true h [.int .i64, .int .i64, .int .i64, .int .i64, .int .i64] (rowSV true [.int .i64, .int .i64, .int .i64, .int .i64, .int .i64] r2)).bind fun s7 =>
((loss_ChainP a0 s7).bind fun (r4, r5, r6) =>
(bif (!(decide (r6 = 0))) then (((bif (decide (((r4.length : Nat) : Int) = 0)) then (bif (decide ((-1 : Int) ≤ r5)) then (some ((decide (r5 < ((a1.len : Nat) : Int))), h)) else (some (false, h))) else (some (false, h)))).bind fun (y8, h9) =>
(some (y8, h9))) else (((bif !(!(decide (((r4.length : Nat) : Int) = ((a1.len : Nat) : Int)))) then (some ((!(decide (r5 = (-1)))), h)) else (some (true, h)))).bind fun (y10, h11) =>
(bif y10 then (some (false, h11)) else ((iter FUEL (spilelaw32_LossTurns.loop1 a1 r4) ((a0, a0, 0), h11)).bind fun (fl27, h26) => match fl27 with
| .next _ => none
| .ret rr28 => (some (rr28, h26))
| .ex0 (y29, y30) =>
(some ((decide (y29 = y30)), h26))
| .ex1 _ => none)))))))))))
def spilelaw32_LossTurns.A : Ann := { lits := [], conds := [], loops := [(12, [8, 9, 53], [.leaf (.int .i64), .leaf (.int .i64), .leaf (.int .i64)], [8, 9], [.leaf (.int .i64), .leaf (.int .i64)], some 0, none)], regs := [(7, [4], [.leaf .bool]), (8, [48], [.leaf .bool])] }
theorem spilelaw32_LossTurns.eq : ∀ (x : TT [.leaf (.int .i64), .leaf .slice]) (h : H), evalFn Try.prog (spilelaw32_LossTurns.tb) spilelaw32_LossTurns.A Try.f10 (.one (.leaf .bool)) (TT.un [.leaf (.int .i64), .leaf .slice] x) h = spilelaw32_LossTurns x.1 x.2 h := by
  intro x h
  kernel_rfl
noncomputable def spilelaw32_LossTurns.e : Entry := mkX [.leaf (.int .i64), .leaf .slice] (.one (.leaf .bool)) fun x h => spilelaw32_LossTurns x.1 x.2 h
theorem spilelaw32_LossTurns.ok : EntryOK Try.prog 10 (spilelaw32_LossTurns.e) := mkX_ok (spilelaw32_LossTurns.tbok) Try.mixed Try.func10 (by kernel_rfl) (spilelaw32_LossTurns.eq)
noncomputable def spilelaw32_LossTurnsP (a0 : Int) (a1 : (List (Int × Int × Int × Int × Int))) : Option (Bool) := (spilelaw32_LossTurns a0 (rowSV false [.int .i64, .int .i64, .int .i64, .int .i64, .int .i64] a1) H.empty).bind fun p => rdRes false p.2 (.one (.leaf .bool)) (Res.un (.one (.leaf .bool)) p.1)
theorem spilelaw32_LossTurnsP.eq : ∀ x : TT [.leaf (.int .i64), .leaf (.row [.int .i64, .int .i64, .int .i64, .int .i64, .int .i64])], ((evalFn Try.prog (spilelaw32_LossTurns.tb) spilelaw32_LossTurns.A Try.f10 (.one (.leaf .bool)) (TT.lo false [.leaf (.int .i64), .leaf (.row [.int .i64, .int .i64, .int .i64, .int .i64, .int .i64])] x) H.empty).bind fun p => rdRes false p.2 (.one (.leaf .bool)) (Res.un (.one (.leaf .bool)) p.1)) = spilelaw32_LossTurnsP x.1 x.2 := by
  intro x
  rw [show TT.lo false [.leaf (.int .i64), .leaf (.row [.int .i64, .int .i64, .int .i64, .int .i64, .int .i64])] x = TT.un [.leaf (.int .i64), .leaf .slice] (x.1, (rowSV false [.int .i64, .int .i64, .int .i64, .int .i64, .int .i64] x.2)) from rfl, spilelaw32_LossTurns.eq]
  rfl
noncomputable def spilelaw32_LossTurnsP.e : Entry := mkP [.leaf (.int .i64), .leaf (.row [.int .i64, .int .i64, .int .i64, .int .i64, .int .i64])] (.one (.leaf .bool)) fun x => spilelaw32_LossTurnsP x.1 x.2
theorem spilelaw32_LossTurnsP.ok : EntryOK Try.prog 10 (spilelaw32_LossTurnsP.e) := mkP_ok (spilelaw32_LossTurns.tbok) Try.mixed Try.func10 (by kernel_rfl) spilelaw32_LossTurnsP.eq

/-! ### math/bits.Add64: function 41 -/
noncomputable def math_bits_Add64 (a0 a1 a2 : Int) (h : H) : Option ((Int × Int) × H) := add64X a0 a1 a2 h
noncomputable def math_bits_Add64.e : Entry := mkX [.leaf (.int .u64), .leaf (.int .u64), .leaf (.int .u64)] (.many [.leaf (.int .u64), .leaf (.int .u64)]) fun x h => math_bits_Add64 x.1 x.2.1 x.2.2 h
theorem math_bits_Add64.ok : EntryOK Try.prog 41 math_bits_Add64.e := add64_ok Try.func41 (by kernel_rfl) (by kernel_rfl) (by kernel_rfl) (by kernel_rfl)

/-! ### spile/spilelaw01.ProportionBack: function 11 -/
noncomputable def spilelaw01_ProportionBack.tb : Table := tab [(15, spilelaw01_awakeP.e), (16, proportion_OfP.e), (18, proportion_UpP.e), (40, math_bits_Mul64P.e), (41, math_bits_Add64.e)] [] Table.nil
theorem spilelaw01_ProportionBack.tbok : TabOK Try.prog (spilelaw01_ProportionBack.tb) := TabOK.tab (TabOK.nil Try.prog) (all_cons spilelaw01_awakeP.ok (all_cons proportion_OfP.ok (all_cons proportion_UpP.ok (all_cons math_bits_Mul64P.ok (all_cons math_bits_Add64.ok (all_nil _)))))) (all_nil _)
noncomputable def spilelaw01_ProportionBack (a0 : Int) (a1 : Int) (a2 : Int) (h : H) : Option ((Bool) × H) :=
((spilelaw01_awakeP ).bind fun r1 =>
(bif (!r1) then (some (false, h)) else ((proportion_OfP a0 a1 a2).bind fun (r2, r3, r4) =>
((proportion_UpP a0 a1 a2).bind fun (r5, r6) =>
(bif (!(decide (r4 = 0))) then (((bif (decide (r2 = 0)) then (bif (decide (r3 = 0)) then (bif (decide (r6 = r4)) then (some ((decide (r5 = 0)), h)) else (some (false, h))) else (some (false, h))) else (some (false, h)))).bind fun (y7, h8) =>
(some (y7, h8))) else (((bif !(decide (r2 < 0)) then (bif !(decide (r3 < 0)) then (some ((decide (a2 ≤ r3)), h)) else (some (true, h))) else (some (true, h)))).bind fun (y9, h10) =>
(bif y9 then (some (false, h10)) else ((math_bits_Mul64P (IntKind.wrap .u64 (a0)) (IntKind.wrap .u64 (a1))).bind fun (r11, r12) =>
((math_bits_Mul64P (IntKind.wrap .u64 (r2)) (IntKind.wrap .u64 (a2))).bind fun (r13, r14) =>
((math_bits_Add64 r14 (IntKind.wrap .u64 (r3)) 0 h10).bind fun ((r15, r16), h17) =>
(((bif !(!(decide ((IntKind.wrap .u64 (r13 + r16)) = r11))) then (some ((!(decide (r15 = r12))), h17)) else (some (true, h17)))).bind fun (y18, h19) =>
(bif y18 then (some (false, h19)) else (bif (!(decide (r6 = 0))) then (((bif (decide (r6 = 15)) then (bif (decide (r2 = 128849018880000)) then (some ((decide ((0 : Int) < r3)), h19)) else (some (false, h19))) else (some (false, h19)))).bind fun (y20, h21) =>
(some (y20, h21))) else (some ((decide (r5 = (IntKind.wrap .i64 (r2 + (minI 1 r3))))), h19)))))))))))))))
def spilelaw01_ProportionBack.A : Ann := { lits := [], conds := [], loops := [], regs := [(6, [6], [.leaf .bool]), (7, [62], [.leaf .bool]), (12, [95], [.leaf .bool]), (15, [6], [.leaf .bool])] }
theorem spilelaw01_ProportionBack.eq : ∀ (x : TT [.leaf (.int .i64), .leaf (.int .i64), .leaf (.int .i64)]) (h : H), evalFn Try.prog (spilelaw01_ProportionBack.tb) spilelaw01_ProportionBack.A Try.f11 (.one (.leaf .bool)) (TT.un [.leaf (.int .i64), .leaf (.int .i64), .leaf (.int .i64)] x) h = spilelaw01_ProportionBack x.1 x.2.1 x.2.2 h := by
  intro x h
  kernel_rfl
noncomputable def spilelaw01_ProportionBack.e : Entry := mkX [.leaf (.int .i64), .leaf (.int .i64), .leaf (.int .i64)] (.one (.leaf .bool)) fun x h => spilelaw01_ProportionBack x.1 x.2.1 x.2.2 h
theorem spilelaw01_ProportionBack.ok : EntryOK Try.prog 11 (spilelaw01_ProportionBack.e) := mkX_ok (spilelaw01_ProportionBack.tbok) Try.mixed Try.func11 (by kernel_rfl) (spilelaw01_ProportionBack.eq)
noncomputable def spilelaw01_ProportionBackP (a0 : Int) (a1 : Int) (a2 : Int) : Option (Bool) := (spilelaw01_ProportionBack a0 a1 a2 H.empty).bind fun p => rdRes false p.2 (.one (.leaf .bool)) (Res.un (.one (.leaf .bool)) p.1)
theorem spilelaw01_ProportionBackP.eq : ∀ x : TT [.leaf (.int .i64), .leaf (.int .i64), .leaf (.int .i64)], ((evalFn Try.prog (spilelaw01_ProportionBack.tb) spilelaw01_ProportionBack.A Try.f11 (.one (.leaf .bool)) (TT.lo false [.leaf (.int .i64), .leaf (.int .i64), .leaf (.int .i64)] x) H.empty).bind fun p => rdRes false p.2 (.one (.leaf .bool)) (Res.un (.one (.leaf .bool)) p.1)) = spilelaw01_ProportionBackP x.1 x.2.1 x.2.2 := by
  intro x
  rw [show TT.lo false [.leaf (.int .i64), .leaf (.int .i64), .leaf (.int .i64)] x = TT.un [.leaf (.int .i64), .leaf (.int .i64), .leaf (.int .i64)] (x.1, x.2.1, x.2.2) from rfl, spilelaw01_ProportionBack.eq]
  rfl
noncomputable def spilelaw01_ProportionBackP.e : Entry := mkP [.leaf (.int .i64), .leaf (.int .i64), .leaf (.int .i64)] (.one (.leaf .bool)) fun x => spilelaw01_ProportionBackP x.1 x.2.1 x.2.2
theorem spilelaw01_ProportionBackP.ok : EntryOK Try.prog 11 (spilelaw01_ProportionBackP.e) := mkP_ok (spilelaw01_ProportionBack.tbok) Try.mixed Try.func11 (by kernel_rfl) spilelaw01_ProportionBackP.eq

/-! ### spile/spileref32.Split: function 42 -/
noncomputable def spileref32_Split.tb : Table := tab [(67, spileref32_IsP.e), (68, spileref32_OfP.e)] [] Table.nil
theorem spileref32_Split.tbok : TabOK Try.prog (spileref32_Split.tb) := TabOK.tab (TabOK.nil Try.prog) (all_cons spileref32_IsP.ok (all_cons spileref32_OfP.ok (all_nil _))) (all_nil _)
noncomputable def spileref32_Split (a0 : Int) (a1 : Int) (a2 : Int) (a3 : Int) (h : H) : Option (((Int × Int × Int × Int) × Int) × H) :=
(let h1 : H := H.new h [.int .i64 0, .int .i64 0, .int .i64 0, .int .i64 0] 4
((((spileref32_IsP a0).bind fun r2 =>
(bif !(!r2) then ((spileref32_IsP a1).bind fun r3 =>
(bif !(!r3) then ((spileref32_IsP a2).bind fun r4 =>
(bif !(!r4) then ((spileref32_IsP a3).bind fun r5 =>
(some ((!r5), h1))) else (some (true, h1)))) else (some (true, h1)))) else (some (true, h1))))).bind fun (y6, h7) =>
(bif y6 then ((H.wrs h7 (.hp h.next 4 0) [.int .i64 0, .int .i64 0, .int .i64 0, .int .i64 0]).bind fun h8 =>
((rdT (.agg [.int .i64, .int .i64, .int .i64, .int .i64]) h8 (.hp h.next 4 0 : V)).bind fun (x9_0, x9_1, x9_2, x9_3) =>
(some (((x9_0, x9_1, x9_2, x9_3), 2), h8)))) else ((spileref32_OfP a0 a1 a2 a3).bind fun (r10_0, r10_1, r10_2, r10_3) =>
((H.wrs h7 (.hp h.next 4 0) [.int .i64 r10_0, .int .i64 r10_1, .int .i64 r10_2, .int .i64 r10_3]).bind fun h11 =>
((rdT (.agg [.int .i64, .int .i64, .int .i64, .int .i64]) h11 (.hp h.next 4 0 : V)).bind fun (x12_0, x12_1, x12_2, x12_3) =>
(some (((x12_0, x12_1, x12_2, x12_3), 0), h11))))))))
def spileref32_Split.A : Ann := { lits := [], conds := [], loops := [], regs := [(1, [27], [.leaf .bool])] }
theorem spileref32_Split.eq : ∀ (x : TT [.leaf (.int .i64), .leaf (.int .i64), .leaf (.int .i64), .leaf (.int .i64)]) (h : H), evalFn Try.prog (spileref32_Split.tb) spileref32_Split.A Try.f42 (.many [.agg [.int .i64, .int .i64, .int .i64, .int .i64], .leaf (.int .i64)]) (TT.un [.leaf (.int .i64), .leaf (.int .i64), .leaf (.int .i64), .leaf (.int .i64)] x) h = spileref32_Split x.1 x.2.1 x.2.2.1 x.2.2.2 h := by
  intro x h
  kernel_rfl
noncomputable def spileref32_Split.e : Entry := mkX [.leaf (.int .i64), .leaf (.int .i64), .leaf (.int .i64), .leaf (.int .i64)] (.many [.agg [.int .i64, .int .i64, .int .i64, .int .i64], .leaf (.int .i64)]) fun x h => spileref32_Split x.1 x.2.1 x.2.2.1 x.2.2.2 h
theorem spileref32_Split.ok : EntryOK Try.prog 42 (spileref32_Split.e) := mkX_ok (spileref32_Split.tbok) Try.mixed Try.func42 (by kernel_rfl) (spileref32_Split.eq)
noncomputable def spileref32_SplitP (a0 : Int) (a1 : Int) (a2 : Int) (a3 : Int) : Option ((Int × Int × Int × Int) × Int) := (spileref32_Split a0 a1 a2 a3 H.empty).bind fun p => rdRes false p.2 (.many [.agg [.int .i64, .int .i64, .int .i64, .int .i64], .leaf (.int .i64)]) (Res.un (.many [.agg [.int .i64, .int .i64, .int .i64, .int .i64], .leaf (.int .i64)]) p.1)
theorem spileref32_SplitP.eq : ∀ x : TT [.leaf (.int .i64), .leaf (.int .i64), .leaf (.int .i64), .leaf (.int .i64)], ((evalFn Try.prog (spileref32_Split.tb) spileref32_Split.A Try.f42 (.many [.agg [.int .i64, .int .i64, .int .i64, .int .i64], .leaf (.int .i64)]) (TT.lo false [.leaf (.int .i64), .leaf (.int .i64), .leaf (.int .i64), .leaf (.int .i64)] x) H.empty).bind fun p => rdRes false p.2 (.many [.agg [.int .i64, .int .i64, .int .i64, .int .i64], .leaf (.int .i64)]) (Res.un (.many [.agg [.int .i64, .int .i64, .int .i64, .int .i64], .leaf (.int .i64)]) p.1)) = spileref32_SplitP x.1 x.2.1 x.2.2.1 x.2.2.2 := by
  intro x
  rw [show TT.lo false [.leaf (.int .i64), .leaf (.int .i64), .leaf (.int .i64), .leaf (.int .i64)] x = TT.un [.leaf (.int .i64), .leaf (.int .i64), .leaf (.int .i64), .leaf (.int .i64)] (x.1, x.2.1, x.2.2.1, x.2.2.2) from rfl, spileref32_Split.eq]
  rfl
noncomputable def spileref32_SplitP.e : Entry := mkP [.leaf (.int .i64), .leaf (.int .i64), .leaf (.int .i64), .leaf (.int .i64)] (.many [.agg [.int .i64, .int .i64, .int .i64, .int .i64], .leaf (.int .i64)]) fun x => spileref32_SplitP x.1 x.2.1 x.2.2.1 x.2.2.2
theorem spileref32_SplitP.ok : EntryOK Try.prog 42 (spileref32_SplitP.e) := mkP_ok (spileref32_Split.tbok) Try.mixed Try.func42 (by kernel_rfl) spileref32_SplitP.eq

/-! ### spile/spileref32.Between: function 43 -/
noncomputable def spileref32_Between.tb : Table := tab [(67, spileref32_IsP.e), (68, spileref32_OfP.e)] [] Table.nil
theorem spileref32_Between.tbok : TabOK Try.prog (spileref32_Between.tb) := TabOK.tab (TabOK.nil Try.prog) (all_cons spileref32_IsP.ok (all_cons spileref32_OfP.ok (all_nil _))) (all_nil _)
noncomputable def spileref32_Between (a0 : Int) (a1 : (Int × Int)) (a2 : Int) (a3 : Int) (h : H) : Option (((Int × Int × Int × Int) × (Int × Int × Int × Int) × Int) × H) :=
(match a1 with
| (a1_0, a1_1) =>
(let h1 : H := H.new h [.int .i64 a1_0, .int .i64 a1_1] 2
(let h2 : H := H.new h1 [.int .i64 0, .int .i64 0, .int .i64 0, .int .i64 0] 4
(let h3 : H := H.new h2 [.int .i64 0, .int .i64 0, .int .i64 0, .int .i64 0] 4
((((spileref32_IsP a0).bind fun r4 =>
(bif !(!r4) then ((rdT (.leaf (.int .i64)) h3 (.hp h.next 2 0)).bind fun x5 =>
((spileref32_IsP x5).bind fun r6 =>
(bif !(!r6) then ((rdT (.leaf (.int .i64)) h3 (.hp h.next 2 1)).bind fun x7 =>
((spileref32_IsP x7).bind fun r8 =>
(bif !(!r8) then ((spileref32_IsP a2).bind fun r9 =>
(bif !(!r9) then ((spileref32_IsP a3).bind fun r10 =>
(some ((!r10), h3))) else (some (true, h3)))) else (some (true, h3))))) else (some (true, h3))))) else (some (true, h3))))).bind fun (y11, h12) =>
(bif y11 then ((H.wrs h12 (.hp h1.next 4 0) [.int .i64 0, .int .i64 0, .int .i64 0, .int .i64 0]).bind fun h13 =>
((H.wrs h13 (.hp h2.next 4 0) [.int .i64 0, .int .i64 0, .int .i64 0, .int .i64 0]).bind fun h14 =>
((rdT (.agg [.int .i64, .int .i64, .int .i64, .int .i64]) h14 (.hp h1.next 4 0 : V)).bind fun (x15_0, x15_1, x15_2, x15_3) =>
((rdT (.agg [.int .i64, .int .i64, .int .i64, .int .i64]) h14 (.hp h2.next 4 0 : V)).bind fun (x16_0, x16_1, x16_2, x16_3) =>
(some (((x15_0, x15_1, x15_2, x15_3), (x16_0, x16_1, x16_2, x16_3), 2), h14)))))) else ((rdT (.leaf (.int .i64)) h12 (.hp h.next 2 0)).bind fun x17 =>
((rdT (.leaf (.int .i64)) h12 (.hp h.next 2 1)).bind fun x18 =>
(bif (decide (x18 < x17)) then ((H.wrs h12 (.hp h1.next 4 0) [.int .i64 0, .int .i64 0, .int .i64 0, .int .i64 0]).bind fun h19 =>
((H.wrs h19 (.hp h2.next 4 0) [.int .i64 0, .int .i64 0, .int .i64 0, .int .i64 0]).bind fun h20 =>
((rdT (.agg [.int .i64, .int .i64, .int .i64, .int .i64]) h20 (.hp h1.next 4 0 : V)).bind fun (x21_0, x21_1, x21_2, x21_3) =>
((rdT (.agg [.int .i64, .int .i64, .int .i64, .int .i64]) h20 (.hp h2.next 4 0 : V)).bind fun (x22_0, x22_1, x22_2, x22_3) =>
(some (((x21_0, x21_1, x21_2, x21_3), (x22_0, x22_1, x22_2, x22_3), 5), h20)))))) else (let h23 : H := H.reserve h12 0
((rdT (.leaf (.int .i64)) h23 (.hp h.next 2 1)).bind fun x24 =>
((spileref32_OfP a0 x24 a2 a3).bind fun (r25_0, r25_1, r25_2, r25_3) =>
((rdT (.leaf (.int .i64)) h23 (.hp h.next 2 0)).bind fun x26 =>
((spileref32_OfP a0 x26 a2 a3).bind fun (r27_0, r27_1, r27_2, r27_3) =>
((H.wrs h23 (.hp h1.next 4 0) [.int .i64 r25_0, .int .i64 r25_1, .int .i64 r25_2, .int .i64 r25_3]).bind fun h28 =>
((H.wrs h28 (.hp h2.next 4 0) [.int .i64 r27_0, .int .i64 r27_1, .int .i64 r27_2, .int .i64 r27_3]).bind fun h29 =>
((rdT (.agg [.int .i64, .int .i64, .int .i64, .int .i64]) h29 (.hp h1.next 4 0 : V)).bind fun (x30_0, x30_1, x30_2, x30_3) =>
((rdT (.agg [.int .i64, .int .i64, .int .i64, .int .i64]) h29 (.hp h2.next 4 0 : V)).bind fun (x31_0, x31_1, x31_2, x31_3) =>
(some (((x30_0, x30_1, x30_2, x30_3), (x31_0, x31_1, x31_2, x31_3), 0), h29))))))))))))))))))))
def spileref32_Between.A : Ann := { lits := [], conds := [], loops := [], regs := [(1, [35], [.leaf .bool])] }
theorem spileref32_Between.eq : ∀ (x : TT [.leaf (.int .i64), .agg [.int .i64, .int .i64], .leaf (.int .i64), .leaf (.int .i64)]) (h : H), evalFn Try.prog (spileref32_Between.tb) spileref32_Between.A Try.f43 (.many [.agg [.int .i64, .int .i64, .int .i64, .int .i64], .agg [.int .i64, .int .i64, .int .i64, .int .i64], .leaf (.int .i64)]) (TT.un [.leaf (.int .i64), .agg [.int .i64, .int .i64], .leaf (.int .i64), .leaf (.int .i64)] x) h = spileref32_Between x.1 x.2.1 x.2.2.1 x.2.2.2 h := by
  intro x h
  kernel_rfl
noncomputable def spileref32_Between.e : Entry := mkX [.leaf (.int .i64), .agg [.int .i64, .int .i64], .leaf (.int .i64), .leaf (.int .i64)] (.many [.agg [.int .i64, .int .i64, .int .i64, .int .i64], .agg [.int .i64, .int .i64, .int .i64, .int .i64], .leaf (.int .i64)]) fun x h => spileref32_Between x.1 x.2.1 x.2.2.1 x.2.2.2 h
theorem spileref32_Between.ok : EntryOK Try.prog 43 (spileref32_Between.e) := mkX_ok (spileref32_Between.tbok) Try.mixed Try.func43 (by kernel_rfl) (spileref32_Between.eq)
noncomputable def spileref32_BetweenP (a0 : Int) (a1 : (Int × Int)) (a2 : Int) (a3 : Int) : Option ((Int × Int × Int × Int) × (Int × Int × Int × Int) × Int) := (spileref32_Between a0 a1 a2 a3 H.empty).bind fun p => rdRes false p.2 (.many [.agg [.int .i64, .int .i64, .int .i64, .int .i64], .agg [.int .i64, .int .i64, .int .i64, .int .i64], .leaf (.int .i64)]) (Res.un (.many [.agg [.int .i64, .int .i64, .int .i64, .int .i64], .agg [.int .i64, .int .i64, .int .i64, .int .i64], .leaf (.int .i64)]) p.1)
theorem spileref32_BetweenP.eq : ∀ x : TT [.leaf (.int .i64), .agg [.int .i64, .int .i64], .leaf (.int .i64), .leaf (.int .i64)], ((evalFn Try.prog (spileref32_Between.tb) spileref32_Between.A Try.f43 (.many [.agg [.int .i64, .int .i64, .int .i64, .int .i64], .agg [.int .i64, .int .i64, .int .i64, .int .i64], .leaf (.int .i64)]) (TT.lo false [.leaf (.int .i64), .agg [.int .i64, .int .i64], .leaf (.int .i64), .leaf (.int .i64)] x) H.empty).bind fun p => rdRes false p.2 (.many [.agg [.int .i64, .int .i64, .int .i64, .int .i64], .agg [.int .i64, .int .i64, .int .i64, .int .i64], .leaf (.int .i64)]) (Res.un (.many [.agg [.int .i64, .int .i64, .int .i64, .int .i64], .agg [.int .i64, .int .i64, .int .i64, .int .i64], .leaf (.int .i64)]) p.1)) = spileref32_BetweenP x.1 x.2.1 x.2.2.1 x.2.2.2 := by
  intro x
  rw [show TT.lo false [.leaf (.int .i64), .agg [.int .i64, .int .i64], .leaf (.int .i64), .leaf (.int .i64)] x = TT.un [.leaf (.int .i64), .agg [.int .i64, .int .i64], .leaf (.int .i64), .leaf (.int .i64)] (x.1, x.2.1, x.2.2.1, x.2.2.2) from rfl, spileref32_Between.eq]
  rfl
noncomputable def spileref32_BetweenP.e : Entry := mkP [.leaf (.int .i64), .agg [.int .i64, .int .i64], .leaf (.int .i64), .leaf (.int .i64)] (.many [.agg [.int .i64, .int .i64, .int .i64, .int .i64], .agg [.int .i64, .int .i64, .int .i64, .int .i64], .leaf (.int .i64)]) fun x => spileref32_BetweenP x.1 x.2.1 x.2.2.1 x.2.2.2
theorem spileref32_BetweenP.ok : EntryOK Try.prog 43 (spileref32_BetweenP.e) := mkP_ok (spileref32_Between.tbok) Try.mixed Try.func43 (by kernel_rfl) spileref32_BetweenP.eq

/-! ### spile/spileref32.Check: function 44 -/
noncomputable def spileref32_Check.tb : Table := tab [(42, spileref32_SplitP.e)] [] Table.nil
theorem spileref32_Check.tbok : TabOK Try.prog (spileref32_Check.tb) := TabOK.tab (TabOK.nil Try.prog) (all_cons spileref32_SplitP.ok (all_nil _)) (all_nil _)
noncomputable def spileref32_Check (a0 : Int) (a1 : Int) (a2 : Int) (a3 : Int) (a4 : (Int × Int × Int × Int)) (h : H) : Option ((Int) × H) :=
(match a4 with
| (a4_0, a4_1, a4_2, a4_3) =>
(let h1 : H := H.new h [.int .i64 a4_0, .int .i64 a4_1, .int .i64 a4_2, .int .i64 a4_3] 4
((spileref32_SplitP a0 a1 a2 a3).bind fun ((r2_0, r2_1, r2_2, r2_3), r3) =>
(let h4 : H := H.new h1 [.int .i64 0, .int .i64 0, .int .i64 0, .int .i64 0] 4
((H.wrs h4 (.hp h1.next 4 0) [.int .i64 r2_0, .int .i64 r2_1, .int .i64 r2_2, .int .i64 r2_3]).bind fun h5 =>
(bif (!(decide (r3 = 0))) then (some (r3, h5)) else ((rdT (.agg [.int .i64, .int .i64, .int .i64, .int .i64]) h5 (.hp h1.next 4 0)).bind fun (x6_0, x6_1, x6_2, x6_3) =>
((rdT (.agg [.int .i64, .int .i64, .int .i64, .int .i64]) h5 (.hp h.next 4 0)).bind fun (x7_0, x7_1, x7_2, x7_3) =>
(bif (!(decide (x6_0 = x7_0) && (decide (x6_1 = x7_1) && (decide (x6_2 = x7_2) && (decide (x6_3 = x7_3)))))) then (some (14, h5)) else (some (0, h5)))))))))))
def spileref32_Check.A : Ann := { lits := [], conds := [], loops := [], regs := [] }
theorem spileref32_Check.eq : ∀ (x : TT [.leaf (.int .i64), .leaf (.int .i64), .leaf (.int .i64), .leaf (.int .i64), .agg [.int .i64, .int .i64, .int .i64, .int .i64]]) (h : H), evalFn Try.prog (spileref32_Check.tb) spileref32_Check.A Try.f44 (.one (.leaf (.int .i64))) (TT.un [.leaf (.int .i64), .leaf (.int .i64), .leaf (.int .i64), .leaf (.int .i64), .agg [.int .i64, .int .i64, .int .i64, .int .i64]] x) h = spileref32_Check x.1 x.2.1 x.2.2.1 x.2.2.2.1 x.2.2.2.2 h := by
  intro x h
  kernel_rfl
noncomputable def spileref32_Check.e : Entry := mkX [.leaf (.int .i64), .leaf (.int .i64), .leaf (.int .i64), .leaf (.int .i64), .agg [.int .i64, .int .i64, .int .i64, .int .i64]] (.one (.leaf (.int .i64))) fun x h => spileref32_Check x.1 x.2.1 x.2.2.1 x.2.2.2.1 x.2.2.2.2 h
theorem spileref32_Check.ok : EntryOK Try.prog 44 (spileref32_Check.e) := mkX_ok (spileref32_Check.tbok) Try.mixed Try.func44 (by kernel_rfl) (spileref32_Check.eq)
noncomputable def spileref32_CheckP (a0 : Int) (a1 : Int) (a2 : Int) (a3 : Int) (a4 : (Int × Int × Int × Int)) : Option (Int) := (spileref32_Check a0 a1 a2 a3 a4 H.empty).bind fun p => rdRes false p.2 (.one (.leaf (.int .i64))) (Res.un (.one (.leaf (.int .i64))) p.1)
theorem spileref32_CheckP.eq : ∀ x : TT [.leaf (.int .i64), .leaf (.int .i64), .leaf (.int .i64), .leaf (.int .i64), .agg [.int .i64, .int .i64, .int .i64, .int .i64]], ((evalFn Try.prog (spileref32_Check.tb) spileref32_Check.A Try.f44 (.one (.leaf (.int .i64))) (TT.lo false [.leaf (.int .i64), .leaf (.int .i64), .leaf (.int .i64), .leaf (.int .i64), .agg [.int .i64, .int .i64, .int .i64, .int .i64]] x) H.empty).bind fun p => rdRes false p.2 (.one (.leaf (.int .i64))) (Res.un (.one (.leaf (.int .i64))) p.1)) = spileref32_CheckP x.1 x.2.1 x.2.2.1 x.2.2.2.1 x.2.2.2.2 := by
  intro x
  rw [show TT.lo false [.leaf (.int .i64), .leaf (.int .i64), .leaf (.int .i64), .leaf (.int .i64), .agg [.int .i64, .int .i64, .int .i64, .int .i64]] x = TT.un [.leaf (.int .i64), .leaf (.int .i64), .leaf (.int .i64), .leaf (.int .i64), .agg [.int .i64, .int .i64, .int .i64, .int .i64]] (x.1, x.2.1, x.2.2.1, x.2.2.2.1, x.2.2.2.2) from rfl, spileref32_Check.eq]
  rfl
noncomputable def spileref32_CheckP.e : Entry := mkP [.leaf (.int .i64), .leaf (.int .i64), .leaf (.int .i64), .leaf (.int .i64), .agg [.int .i64, .int .i64, .int .i64, .int .i64]] (.one (.leaf (.int .i64))) fun x => spileref32_CheckP x.1 x.2.1 x.2.2.1 x.2.2.2.1 x.2.2.2.2
theorem spileref32_CheckP.ok : EntryOK Try.prog 44 (spileref32_CheckP.e) := mkP_ok (spileref32_Check.tbok) Try.mixed Try.func44 (by kernel_rfl) spileref32_CheckP.eq

/-! ### spile/spilelaw32.LossSplits: function 12 -/
noncomputable def spilelaw32_LossSplits.tb : Table := tab [(30, spilelaw32_awakeP.e), (35, loss_SplitP.e), (37, loss_CheckP.e), (38, loss_BetweenP.e), (42, spileref32_SplitP.e), (43, spileref32_BetweenP.e), (44, spileref32_CheckP.e)] [] Table.nil
theorem spilelaw32_LossSplits.tbok : TabOK Try.prog (spilelaw32_LossSplits.tb) := TabOK.tab (TabOK.nil Try.prog) (all_cons spilelaw32_awakeP.ok (all_cons loss_SplitP.ok (all_cons loss_CheckP.ok (all_cons loss_BetweenP.ok (all_cons spileref32_SplitP.ok (all_cons spileref32_BetweenP.ok (all_cons spileref32_CheckP.ok (all_nil _)))))))) (all_nil _)
noncomputable def spilelaw32_LossSplits (a0 : (Int × Int × Int × Int × Int)) (a1 : (Int × Int × Int × Int)) (h : H) : Option ((Bool) × H) :=
(match a0 with
| (a0_0, a0_1, a0_2, a0_3, a0_4) =>
(match a1 with
| (a1_0, a1_1, a1_2, a1_3) =>
(let h1 : H := H.new h [.int .i64 a0_0, .int .i64 a0_1, .int .i64 a0_2, .int .i64 a0_3, .int .i64 a0_4] 5
(let h2 : H := H.new h1 [.int .i64 a1_0, .int .i64 a1_1, .int .i64 a1_2, .int .i64 a1_3] 4
((spilelaw32_awakeP ).bind fun r3 =>
(bif (!r3) then (some (false, h2)) else ((rdT (.leaf (.int .i64)) h2 (.hp h.next 5 0)).bind fun x4 =>
((rdT (.leaf (.int .i64)) h2 (.hp h.next 5 1)).bind fun x5 =>
((rdT (.leaf (.int .i64)) h2 (.hp h.next 5 3)).bind fun x6 =>
((rdT (.leaf (.int .i64)) h2 (.hp h.next 5 4)).bind fun x7 =>
((loss_SplitP x4 x5 x6 x7).bind fun ((r8_0, r8_1, r8_2, r8_3), r9) =>
(let h10 : H := H.new h2 [.int .i64 0, .int .i64 0, .int .i64 0, .int .i64 0] 4
((H.wrs h10 (.hp h2.next 4 0) [.int .i64 r8_0, .int .i64 r8_1, .int .i64 r8_2, .int .i64 r8_3]).bind fun h11 =>
((rdT (.leaf (.int .i64)) h11 (.hp h.next 5 0)).bind fun x12 =>
((rdT (.leaf (.int .i64)) h11 (.hp h.next 5 1)).bind fun x13 =>
((rdT (.leaf (.int .i64)) h11 (.hp h.next 5 3)).bind fun x14 =>
((rdT (.leaf (.int .i64)) h11 (.hp h.next 5 4)).bind fun x15 =>
((spileref32_SplitP x12 x13 x14 x15).bind fun ((r16_0, r16_1, r16_2, r16_3), r17) =>
(let h18 : H := H.new h11 [.int .i64 0, .int .i64 0, .int .i64 0, .int .i64 0] 4
((H.wrs h18 (.hp h11.next 4 0) [.int .i64 r16_0, .int .i64 r16_1, .int .i64 r16_2, .int .i64 r16_3]).bind fun h19 =>
((rdT (.leaf (.int .i64)) h19 (.hp h.next 5 0)).bind fun x20 =>
((rdT (.agg [.int .i64, .int .i64]) h19 (.hp h.next 5 1)).bind fun (x21_0, x21_1) =>
((rdT (.leaf (.int .i64)) h19 (.hp h.next 5 3)).bind fun x22 =>
((rdT (.leaf (.int .i64)) h19 (.hp h.next 5 4)).bind fun x23 =>
((loss_BetweenP x20 (x21_0, x21_1) x22 x23).bind fun ((r24_0, r24_1, r24_2, r24_3), (r25_0, r25_1, r25_2, r25_3), r26) =>
(let h27 : H := H.new h19 [.int .i64 0, .int .i64 0, .int .i64 0, .int .i64 0] 4
(let h28 : H := H.new h27 [.int .i64 0, .int .i64 0, .int .i64 0, .int .i64 0] 4
((H.wrs h28 (.hp h19.next 4 0) [.int .i64 r24_0, .int .i64 r24_1, .int .i64 r24_2, .int .i64 r24_3]).bind fun h29 =>
((H.wrs h29 (.hp h27.next 4 0) [.int .i64 r25_0, .int .i64 r25_1, .int .i64 r25_2, .int .i64 r25_3]).bind fun h30 =>
((rdT (.leaf (.int .i64)) h30 (.hp h.next 5 0)).bind fun x31 =>
((rdT (.agg [.int .i64, .int .i64]) h30 (.hp h.next 5 1)).bind fun (x32_0, x32_1) =>
((rdT (.leaf (.int .i64)) h30 (.hp h.next 5 3)).bind fun x33 =>
((rdT (.leaf (.int .i64)) h30 (.hp h.next 5 4)).bind fun x34 =>
((spileref32_BetweenP x31 (x32_0, x32_1) x33 x34).bind fun ((r35_0, r35_1, r35_2, r35_3), (r36_0, r36_1, r36_2, r36_3), r37) =>
(let h38 : H := H.new h30 [.int .i64 0, .int .i64 0, .int .i64 0, .int .i64 0] 4
(let h39 : H := H.new h38 [.int .i64 0, .int .i64 0, .int .i64 0, .int .i64 0] 4
((H.wrs h39 (.hp h30.next 4 0) [.int .i64 r35_0, .int .i64 r35_1, .int .i64 r35_2, .int .i64 r35_3]).bind fun h40 =>
((H.wrs h40 (.hp h38.next 4 0) [.int .i64 r36_0, .int .i64 r36_1, .int .i64 r36_2, .int .i64 r36_3]).bind fun h41 =>
(((let h42 : H := H.reserve h41 0
((rdT (.agg [.int .i64, .int .i64, .int .i64, .int .i64]) h42 (.hp h2.next 4 0)).bind fun (x43_0, x43_1, x43_2, x43_3) =>
((rdT (.agg [.int .i64, .int .i64, .int .i64, .int .i64]) h42 (.hp h11.next 4 0)).bind fun (x44_0, x44_1, x44_2, x44_3) =>
(bif (decide (x43_0 = x44_0) && (decide (x43_1 = x44_1) && (decide (x43_2 = x44_2) && (decide (x43_3 = x44_3))))) then (bif (decide (r9 = r17)) then ((rdT (.agg [.int .i64, .int .i64, .int .i64, .int .i64]) h42 (.hp h19.next 4 0)).bind fun (x45_0, x45_1, x45_2, x45_3) =>
((rdT (.agg [.int .i64, .int .i64, .int .i64, .int .i64]) h42 (.hp h30.next 4 0)).bind fun (x46_0, x46_1, x46_2, x46_3) =>
(bif (decide (x45_0 = x46_0) && (decide (x45_1 = x46_1) && (decide (x45_2 = x46_2) && (decide (x45_3 = x46_3))))) then ((rdT (.agg [.int .i64, .int .i64, .int .i64, .int .i64]) h42 (.hp h27.next 4 0)).bind fun (x47_0, x47_1, x47_2, x47_3) =>
((rdT (.agg [.int .i64, .int .i64, .int .i64, .int .i64]) h42 (.hp h38.next 4 0)).bind fun (x48_0, x48_1, x48_2, x48_3) =>
(bif (decide (x47_0 = x48_0) && (decide (x47_1 = x48_1) && (decide (x47_2 = x48_2) && (decide (x47_3 = x48_3))))) then (bif (decide (r26 = r37)) then ((rdT (.leaf (.int .i64)) h42 (.hp h.next 5 0)).bind fun x49 =>
((rdT (.leaf (.int .i64)) h42 (.hp h.next 5 1)).bind fun x50 =>
((rdT (.leaf (.int .i64)) h42 (.hp h.next 5 3)).bind fun x51 =>
((rdT (.leaf (.int .i64)) h42 (.hp h.next 5 4)).bind fun x52 =>
((rdT (.agg [.int .i64, .int .i64, .int .i64, .int .i64]) h42 (.hp h1.next 4 0)).bind fun (x53_0, x53_1, x53_2, x53_3) =>
((loss_CheckP x49 x50 x51 x52 (x53_0, x53_1, x53_2, x53_3)).bind fun r54 =>
((rdT (.leaf (.int .i64)) h42 (.hp h.next 5 0)).bind fun x55 =>
((rdT (.leaf (.int .i64)) h42 (.hp h.next 5 1)).bind fun x56 =>
((rdT (.leaf (.int .i64)) h42 (.hp h.next 5 3)).bind fun x57 =>
((rdT (.leaf (.int .i64)) h42 (.hp h.next 5 4)).bind fun x58 =>
((rdT (.agg [.int .i64, .int .i64, .int .i64, .int .i64]) h42 (.hp h1.next 4 0)).bind fun (x59_0, x59_1, x59_2, x59_3) =>
((spileref32_CheckP x55 x56 x57 x58 (x59_0, x59_1, x59_2, x59_3)).bind fun r60 =>
(some ((decide (r54 = r60)), h42)))))))))))))) else (some (false, h42))) else (some (false, h42))))) else (some (false, h42))))) else (some (false, h42))) else (some (false, h42))))))).bind fun (y61, h62) =>
(some (y61, h62)))))))))))))))))))))))))))))))))))))))))
def spilelaw32_LossSplits.A : Ann := { lits := [], conds := [], loops := [], regs := [(7, [4], [.leaf .bool])] }
theorem spilelaw32_LossSplits.eq : ∀ (x : TT [.agg [.int .i64, .int .i64, .int .i64, .int .i64, .int .i64], .agg [.int .i64, .int .i64, .int .i64, .int .i64]]) (h : H), evalFn Try.prog (spilelaw32_LossSplits.tb) spilelaw32_LossSplits.A Try.f12 (.one (.leaf .bool)) (TT.un [.agg [.int .i64, .int .i64, .int .i64, .int .i64, .int .i64], .agg [.int .i64, .int .i64, .int .i64, .int .i64]] x) h = spilelaw32_LossSplits x.1 x.2 h := by
  intro x h
  kernel_rfl
noncomputable def spilelaw32_LossSplits.e : Entry := mkX [.agg [.int .i64, .int .i64, .int .i64, .int .i64, .int .i64], .agg [.int .i64, .int .i64, .int .i64, .int .i64]] (.one (.leaf .bool)) fun x h => spilelaw32_LossSplits x.1 x.2 h
theorem spilelaw32_LossSplits.ok : EntryOK Try.prog 12 (spilelaw32_LossSplits.e) := mkX_ok (spilelaw32_LossSplits.tbok) Try.mixed Try.func12 (by kernel_rfl) (spilelaw32_LossSplits.eq)
noncomputable def spilelaw32_LossSplitsP (a0 : (Int × Int × Int × Int × Int)) (a1 : (Int × Int × Int × Int)) : Option (Bool) := (spilelaw32_LossSplits a0 a1 H.empty).bind fun p => rdRes false p.2 (.one (.leaf .bool)) (Res.un (.one (.leaf .bool)) p.1)
theorem spilelaw32_LossSplitsP.eq : ∀ x : TT [.agg [.int .i64, .int .i64, .int .i64, .int .i64, .int .i64], .agg [.int .i64, .int .i64, .int .i64, .int .i64]], ((evalFn Try.prog (spilelaw32_LossSplits.tb) spilelaw32_LossSplits.A Try.f12 (.one (.leaf .bool)) (TT.lo false [.agg [.int .i64, .int .i64, .int .i64, .int .i64, .int .i64], .agg [.int .i64, .int .i64, .int .i64, .int .i64]] x) H.empty).bind fun p => rdRes false p.2 (.one (.leaf .bool)) (Res.un (.one (.leaf .bool)) p.1)) = spilelaw32_LossSplitsP x.1 x.2 := by
  intro x
  rw [show TT.lo false [.agg [.int .i64, .int .i64, .int .i64, .int .i64, .int .i64], .agg [.int .i64, .int .i64, .int .i64, .int .i64]] x = TT.un [.agg [.int .i64, .int .i64, .int .i64, .int .i64, .int .i64], .agg [.int .i64, .int .i64, .int .i64, .int .i64]] (x.1, x.2) from rfl, spilelaw32_LossSplits.eq]
  rfl
noncomputable def spilelaw32_LossSplitsP.e : Entry := mkP [.agg [.int .i64, .int .i64, .int .i64, .int .i64, .int .i64], .agg [.int .i64, .int .i64, .int .i64, .int .i64]] (.one (.leaf .bool)) fun x => spilelaw32_LossSplitsP x.1 x.2
theorem spilelaw32_LossSplitsP.ok : EntryOK Try.prog 12 (spilelaw32_LossSplitsP.e) := mkP_ok (spilelaw32_LossSplits.tbok) Try.mixed Try.func12 (by kernel_rfl) spilelaw32_LossSplitsP.eq
end Go.Proofs.Ytadlfinlbaogeaa
