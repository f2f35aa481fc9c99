/- The functions of the program as Lean functions, each with the equation by which the evaluator is that function. Written by a program of this session (evdrive.py). Conditions: none. -/
import Derived.Test.YtadlfinlbaogeaaProg
import Derived.Test.YtadlfinlbaogeaaEvSpec
import Derived.Test.YtadlfinlbaogeaaFn7
namespace Go.Proofs.Ytadlfinlbaogeaa
open Go Go.Proofs.Ytadlfinlbaogeaa.Ev
set_option maxRecDepth 100000
set_option linter.unusedVariables false
/-! ### spile/loss.Sum: function 45 -/
noncomputable def loss_Sum.tb : Table := tab [(65, loss_amountP.e)] [] Table.nil
theorem loss_Sum.tbok : TabOK Try.prog (loss_Sum.tb) := TabOK.tab (TabOK.nil Try.prog) (all_cons loss_amountP.ok (all_nil _)) (all_nil _)
noncomputable def loss_Sum.loop1 (h : H) (a0 : SV) (h1 : H) : (Int) × H → Option (Stp ((Int) × H) (Flow (Unit) ((Int × Int × Int × Int) × Int) × H)) := fun (y5, h6) =>
(bif (decide (y5 < ((a0.len : Nat) : Int))) then (guardO (0 ≤ y5 ∧ y5 < ((a0.len : Nat) : Int)) ((rdT (.agg [.int .i64, .int .i64, .int .i64, .int .i64]) h6 (V.add a0.a (Int.toNat y5 * 4))).bind fun (x7_0, x7_1, x7_2, x7_3) =>
(let h8 : H := H.new h6 [.int .i64 0, .int .i64 0, .int .i64 0, .int .i64 0] 4
((H.wrs h8 (.hp h6.next 4 0) [.int .i64 x7_0, .int .i64 x7_1, .int .i64 x7_2, .int .i64 x7_3]).bind fun h9 =>
((rdT (.leaf (.int .i64)) h9 (.hp h6.next 4 0)).bind fun x10 =>
((rdT (.leaf (.int .i64)) h9 (.hp h6.next 4 1)).bind fun x11 =>
((rdT (.leaf (.int .i64)) h9 (.hp h6.next 4 2)).bind fun x12 =>
((rdT (.leaf (.int .i64)) h9 (.hp h6.next 4 3)).bind fun x13 =>
((rdRow true h9 [.int .i64] ⟨.lp true ([.int .i64 x10, .int .i64 x11, .int .i64 x12, .int .i64 x13]) 0, 4, 4, false⟩).bind fun s15 =>
((loss_amountP s15).bind fun r14 =>
(bif (!r14) then ((H.wrs h9 (.hp h.next 4 0) [.int .i64 0, .int .i64 0, .int .i64 0, .int .i64 0]).bind fun h16 =>
((rdT (.agg [.int .i64, .int .i64, .int .i64, .int .i64]) h16 (.hp h.next 4 0 : V)).bind fun (x17_0, x17_1, x17_2, x17_3) =>
(some (.done (.ret ((x17_0, x17_1, x17_2, x17_3), 2), h16))))) else ((rdT (.leaf (.int .i64)) h9 (.hp h1.next 4 0)).bind fun x18 =>
((rdT (.leaf (.int .i64)) h9 (.hp h6.next 4 0)).bind fun x19 =>
((H.wrs h9 (.hp h1.next 4 0) [.int .i64 (IntKind.wrap .i64 (x18 + x19))]).bind fun h20 =>
((rdT (.leaf (.int .i64)) h20 (.hp h1.next 4 1)).bind fun x21 =>
((rdT (.leaf (.int .i64)) h20 (.hp h6.next 4 1)).bind fun x22 =>
((H.wrs h20 (.hp h1.next 4 1) [.int .i64 (IntKind.wrap .i64 (x21 + x22))]).bind fun h23 =>
((rdT (.leaf (.int .i64)) h23 (.hp h1.next 4 2)).bind fun x24 =>
((rdT (.leaf (.int .i64)) h23 (.hp h6.next 4 2)).bind fun x25 =>
((H.wrs h23 (.hp h1.next 4 2) [.int .i64 (IntKind.wrap .i64 (x24 + x25))]).bind fun h26 =>
((rdT (.leaf (.int .i64)) h26 (.hp h1.next 4 3)).bind fun x27 =>
((rdT (.leaf (.int .i64)) h26 (.hp h6.next 4 3)).bind fun x28 =>
((H.wrs h26 (.hp h1.next 4 3) [.int .i64 (IntKind.wrap .i64 (x27 + x28))]).bind fun h29 =>
(some (.more ((IntKind.wrap .i64 (y5 + 1)), h29)))))))))))))))))))))))))) else (some (.done (.ex0 (), h6))))
noncomputable def loss_Sum (a0 : SV) (h : H) : Option (((Int × Int × Int × Int) × Int) × H) :=
(let h1 : H := H.new h [.int .i64 0, .int .i64 0, .int .i64 0, .int .i64 0] 4
(bif (decide ((1024 : Int) < ((a0.len : Nat) : Int))) then ((H.wrs h1 (.hp h.next 4 0) [.int .i64 0, .int .i64 0, .int .i64 0, .int .i64 0]).bind fun h2 =>
((rdT (.agg [.int .i64, .int .i64, .int .i64, .int .i64]) h2 (.hp h.next 4 0 : V)).bind fun (x3_0, x3_1, x3_2, x3_3) =>
(some (((x3_0, x3_1, x3_2, x3_3), 8), h2)))) else (let h4 : H := H.new h1 [.int .i64 0, .int .i64 0, .int .i64 0, .int .i64 0] 4
((iter FUEL (loss_Sum.loop1 h a0 h1) (0, h4)).bind fun (fl31, h30) => match fl31 with
| .next _ => none
| .ret rr32 => (some (rr32, h30))
| .ex0 _ =>
((rdT (.leaf (.int .i64)) h30 (.hp h1.next 4 0)).bind fun x33 =>
((rdT (.leaf (.int .i64)) h30 (.hp h1.next 4 1)).bind fun x34 =>
((rdT (.leaf (.int .i64)) h30 (.hp h1.next 4 2)).bind fun x35 =>
((rdT (.leaf (.int .i64)) h30 (.hp h1.next 4 3)).bind fun x36 =>
((rdRow true h30 [.int .i64] ⟨.lp true ([.int .i64 x33, .int .i64 x34, .int .i64 x35, .int .i64 x36]) 0, 4, 4, false⟩).bind fun s38 =>
((loss_amountP s38).bind fun r37 =>
(bif (!r37) then ((H.wrs h30 (.hp h.next 4 0) [.int .i64 0, .int .i64 0, .int .i64 0, .int .i64 0]).bind fun h39 =>
((rdT (.agg [.int .i64, .int .i64, .int .i64, .int .i64]) h39 (.hp h.next 4 0 : V)).bind fun (x40_0, x40_1, x40_2, x40_3) =>
(some (((x40_0, x40_1, x40_2, x40_3), 15), h39)))) else ((rdT (.agg [.int .i64, .int .i64, .int .i64, .int .i64]) h30 (.hp h1.next 4 0)).bind fun (x41_0, x41_1, x41_2, x41_3) =>
((H.wrs h30 (.hp h.next 4 0) [.int .i64 x41_0, .int .i64 x41_1, .int .i64 x41_2, .int .i64 x41_3]).bind fun h42 =>
((rdT (.agg [.int .i64, .int .i64, .int .i64, .int .i64]) h42 (.hp h.next 4 0 : V)).bind fun (x43_0, x43_1, x43_2, x43_3) =>
(some (((x43_0, x43_1, x43_2, x43_3), 0), h42))))))))))))
| .ex1 _ => none))))
def loss_Sum.A : Ann := { lits := [], conds := [], loops := [(5, [13], [.leaf (.int .i64)], [], [], some 0, none)], regs := [] }
theorem loss_Sum.eq : ∀ (x : TT [.leaf .slice]) (h : H), evalFn Try.prog (loss_Sum.tb) loss_Sum.A Try.f45 (.many [.agg [.int .i64, .int .i64, .int .i64, .int .i64], .leaf (.int .i64)]) (TT.un [.leaf .slice] x) h = loss_Sum x h := by
  intro x h
  kernel_rfl
noncomputable def loss_Sum.e : Entry := mkX [.leaf .slice] (.many [.agg [.int .i64, .int .i64, .int .i64, .int .i64], .leaf (.int .i64)]) fun x h => loss_Sum x h
theorem loss_Sum.ok : EntryOK Try.prog 45 (loss_Sum.e) := mkX_ok (loss_Sum.tbok) Try.mixed Try.func45 (by kernel_rfl) (loss_Sum.eq)
noncomputable def loss_SumP (a0 : (List (Int × Int × Int × Int))) : Option ((Int × Int × Int × Int) × Int) := (loss_Sum (rowSV false [.int .i64, .int .i64, .int .i64, .int .i64] a0) H.empty).bind fun p => rdRes false p.2 (.many [.agg [.int .i64, .int .i64, .int .i64, .int .i64], .leaf (.int .i64)]) (Res.un (.many [.agg [.int .i64, .int .i64, .int .i64, .int .i64], .leaf (.int .i64)]) p.1)
theorem loss_SumP.eq : ∀ x : TT [.leaf (.row [.int .i64, .int .i64, .int .i64, .int .i64])], ((evalFn Try.prog (loss_Sum.tb) loss_Sum.A Try.f45 (.many [.agg [.int .i64, .int .i64, .int .i64, .int .i64], .leaf (.int .i64)]) (TT.lo false [.leaf (.row [.int .i64, .int .i64, .int .i64, .int .i64])] x) H.empty).bind fun p => rdRes false p.2 (.many [.agg [.int .i64, .int .i64, .int .i64, .int .i64], .leaf (.int .i64)]) (Res.un (.many [.agg [.int .i64, .int .i64, .int .i64, .int .i64], .leaf (.int .i64)]) p.1)) = loss_SumP x := by
  intro x
  rw [show TT.lo false [.leaf (.row [.int .i64, .int .i64, .int .i64, .int .i64])] x = TT.un [.leaf .slice] ((rowSV false [.int .i64, .int .i64, .int .i64, .int .i64] x)) from rfl, loss_Sum.eq]
  rfl
noncomputable def loss_SumP.e : Entry := mkP [.leaf (.row [.int .i64, .int .i64, .int .i64, .int .i64])] (.many [.agg [.int .i64, .int .i64, .int .i64, .int .i64], .leaf (.int .i64)]) fun x => loss_SumP x
theorem loss_SumP.ok : EntryOK Try.prog 45 (loss_SumP.e) := mkP_ok (loss_Sum.tbok) Try.mixed Try.func45 (by kernel_rfl) loss_SumP.eq

/-! ### slices.Clone[[]spile/api.Loss,spile/api.Loss]: function 46 -/
noncomputable def slices_Clone_api_Loss_api_Loss.tb : Table := tab [] [] Table.nil
theorem slices_Clone_api_Loss_api_Loss.tbok : TabOK Try.prog (slices_Clone_api_Loss_api_Loss.tb) := TabOK.tab (TabOK.nil Try.prog) (all_nil _) (all_nil _)
noncomputable def slices_Clone_api_Loss_api_Loss (a0 : SV) (h : H) : Option ((SV) × H) :=
(bif !(V.mayNil (a0.a : V)) then (bif (!(V.nn (a0.a : V))) then (some (⟨.nil, 0, 0, false⟩, h)) else ((cellsOf h (.slice a0.a a0.len a0.cap a0.tail : V) 4).bind fun (n3, cs3) =>
((appendS h none 4 32 (⟨.lp true ([]) 0, 0, 0, false⟩) cs3 n3).bind fun (s3, h2) =>
(some (s3, h2))))) else none)
def slices_Clone_api_Loss_api_Loss.A : Ann := { lits := [], conds := [], loops := [], regs := [] }
theorem slices_Clone_api_Loss_api_Loss.eq : ∀ (x : TT [.leaf .slice]) (h : H), evalFn Try.prog (slices_Clone_api_Loss_api_Loss.tb) slices_Clone_api_Loss_api_Loss.A Try.f46 (.one (.leaf .slice)) (TT.un [.leaf .slice] x) h = slices_Clone_api_Loss_api_Loss x h := by
  intro x h
  kernel_rfl
noncomputable def slices_Clone_api_Loss_api_Loss.e : Entry := mkX [.leaf .slice] (.one (.leaf .slice)) (cloneX 4 32)
theorem slices_Clone_api_Loss_api_Loss.ok : EntryOK Try.prog 46 slices_Clone_api_Loss_api_Loss.e := cloneX_ok (g := slices_Clone_api_Loss_api_Loss) (mkX_ok (slices_Clone_api_Loss_api_Loss.tbok) Try.mixed Try.func46 (by kernel_rfl) (slices_Clone_api_Loss_api_Loss.eq)) (fun s h => by kernel_rfl)
noncomputable def slices_Clone_api_Loss_api_LossP.e : Entry := mkP [.leaf (.row [.int .i64, .int .i64, .int .i64, .int .i64])] (.one (.leaf (.row [.int .i64, .int .i64, .int .i64, .int .i64]))) (cloneP 32)
theorem slices_Clone_api_Loss_api_LossP.ok : EntryOK Try.prog 46 slices_Clone_api_Loss_api_LossP.e := cloneP_ok slices_Clone_api_Loss_api_Loss.ok rfl (by omega) rfl

/-! ### spile/spileref32.inRange: function 69 -/
noncomputable def spileref32_inRange.tb : Table := tab [(67, spileref32_IsP.e)] [] Table.nil
theorem spileref32_inRange.tbok : TabOK Try.prog (spileref32_inRange.tb) := TabOK.tab (TabOK.nil Try.prog) (all_cons spileref32_IsP.ok (all_nil _)) (all_nil _)
noncomputable def spileref32_inRange (a0 : (Int × Int × Int × Int)) (h : H) : Option ((Bool) × H) :=
(match a0 with
| (a0_0, a0_1, a0_2, a0_3) =>
(let h1 : H := H.new h [.int .i64 a0_0, .int .i64 a0_1, .int .i64 a0_2, .int .i64 a0_3] 4
((((rdT (.leaf (.int .i64)) h1 (.hp h.next 4 0)).bind fun x2 =>
((spileref32_IsP x2).bind fun r3 =>
(bif r3 then ((rdT (.leaf (.int .i64)) h1 (.hp h.next 4 1)).bind fun x4 =>
((spileref32_IsP x4).bind fun r5 =>
(bif r5 then ((rdT (.leaf (.int .i64)) h1 (.hp h.next 4 2)).bind fun x6 =>
((spileref32_IsP x6).bind fun r7 =>
(bif r7 then ((rdT (.leaf (.int .i64)) h1 (.hp h.next 4 3)).bind fun x8 =>
((spileref32_IsP x8).bind fun r9 =>
(some (r9, h1)))) else (some (false, h1))))) else (some (false, h1))))) else (some (false, h1)))))).bind fun (y10, h11) =>
(some (y10, h11)))))
def spileref32_inRange.A : Ann := { lits := [], conds := [], loops := [], regs := [(1, [2], [.leaf .bool])] }
theorem spileref32_inRange.eq : ∀ (x : TT [.agg [.int .i64, .int .i64, .int .i64, .int .i64]]) (h : H), evalFn Try.prog (spileref32_inRange.tb) spileref32_inRange.A Try.f69 (.one (.leaf .bool)) (TT.un [.agg [.int .i64, .int .i64, .int .i64, .int .i64]] x) h = spileref32_inRange x h := by
  intro x h
  kernel_rfl
noncomputable def spileref32_inRange.e : Entry := mkX [.agg [.int .i64, .int .i64, .int .i64, .int .i64]] (.one (.leaf .bool)) fun x h => spileref32_inRange x h
theorem spileref32_inRange.ok : EntryOK Try.prog 69 (spileref32_inRange.e) := mkX_ok (spileref32_inRange.tbok) Try.mixed Try.func69 (by kernel_rfl) (spileref32_inRange.eq)
noncomputable def spileref32_inRangeP (a0 : (Int × Int × Int × Int)) : Option (Bool) := (spileref32_inRange a0 H.empty).bind fun p => rdRes false p.2 (.one (.leaf .bool)) (Res.un (.one (.leaf .bool)) p.1)
theorem spileref32_inRangeP.eq : ∀ x : TT [.agg [.int .i64, .int .i64, .int .i64, .int .i64]], ((evalFn Try.prog (spileref32_inRange.tb) spileref32_inRange.A Try.f69 (.one (.leaf .bool)) (TT.lo false [.agg [.int .i64, .int .i64, .int .i64, .int .i64]] x) H.empty).bind fun p => rdRes false p.2 (.one (.leaf .bool)) (Res.un (.one (.leaf .bool)) p.1)) = spileref32_inRangeP x := by
  intro x
  rw [show TT.lo false [.agg [.int .i64, .int .i64, .int .i64, .int .i64]] x = TT.un [.agg [.int .i64, .int .i64, .int .i64, .int .i64]] (x) from rfl, spileref32_inRange.eq]
  rfl
noncomputable def spileref32_inRangeP.e : Entry := mkP [.agg [.int .i64, .int .i64, .int .i64, .int .i64]] (.one (.leaf .bool)) fun x => spileref32_inRangeP x
theorem spileref32_inRangeP.ok : EntryOK Try.prog 69 (spileref32_inRangeP.e) := mkP_ok (spileref32_inRange.tbok) Try.mixed Try.func69 (by kernel_rfl) spileref32_inRangeP.eq

/-! ### spile/spileref32.Sum: function 47 -/
noncomputable def spileref32_Sum.tb : Table := tab [(69, spileref32_inRangeP.e)] [] Table.nil
theorem spileref32_Sum.tbok : TabOK Try.prog (spileref32_Sum.tb) := TabOK.tab (TabOK.nil Try.prog) (all_cons spileref32_inRangeP.ok (all_nil _)) (all_nil _)
noncomputable def spileref32_Sum.loop1 (h : H) (a0 : SV) : (Int) × H → Option (Stp ((Int) × H) (Flow (Unit) ((Int × Int × Int × Int) × Int) × H)) := fun (y4, h5) =>
(bif (decide (y4 < ((a0.len : Nat) : Int))) then (guardO (0 ≤ y4 ∧ y4 < ((a0.len : Nat) : Int)) ((rdT (.agg [.int .i64, .int .i64, .int .i64, .int .i64]) h5 (V.add a0.a (Int.toNat y4 * 4))).bind fun (x6_0, x6_1, x6_2, x6_3) =>
((spileref32_inRangeP (x6_0, x6_1, x6_2, x6_3)).bind fun r7 =>
(bif (!r7) then ((H.wrs h5 (.hp h.next 4 0) [.int .i64 0, .int .i64 0, .int .i64 0, .int .i64 0]).bind fun h8 =>
((rdT (.agg [.int .i64, .int .i64, .int .i64, .int .i64]) h8 (.hp h.next 4 0 : V)).bind fun (x9_0, x9_1, x9_2, x9_3) =>
(some (.done (.ret ((x9_0, x9_1, x9_2, x9_3), 2), h8))))) else (some (.more ((IntKind.wrap .i64 (y4 + 1)), h5))))))) else (some (.done (.ex0 (), h5))))
noncomputable def spileref32_Sum.loop2 (a0 : SV) (h10 : H) : (Int) × H → Option (Stp ((Int) × H) (Flow (Unit) ((Int × Int × Int × Int) × Int) × H)) := fun (y14, h15) =>
(bif (decide (y14 < ((a0.len : Nat) : Int))) then (let h16 : H := H.reserve h15 0
((rdT (.leaf (.int .i64)) h16 (.hp h10.next 4 0)).bind fun x17 =>
(guardO (0 ≤ y14 ∧ y14 < ((a0.len : Nat) : Int)) (guardO (V.nn ((V.add a0.a (Int.toNat y14 * 4)) : V) = true) ((rdT (.leaf (.int .i64)) h16 (V.add (V.add a0.a (Int.toNat y14 * 4)) 0)).bind fun x18 =>
((H.wrs h16 (.hp h10.next 4 0) [.int .i64 (IntKind.wrap .i64 (x17 + x18))]).bind fun h19 =>
(let h20 : H := H.reserve h19 0
((rdT (.leaf (.int .i64)) h20 (.hp h10.next 4 1)).bind fun x21 =>
(guardO (0 ≤ y14 ∧ y14 < ((a0.len : Nat) : Int)) (guardO (V.nn ((V.add a0.a (Int.toNat y14 * 4)) : V) = true) ((rdT (.leaf (.int .i64)) h20 (V.add (V.add a0.a (Int.toNat y14 * 4)) 1)).bind fun x22 =>
((H.wrs h20 (.hp h10.next 4 1) [.int .i64 (IntKind.wrap .i64 (x21 + x22))]).bind fun h23 =>
(let h24 : H := H.reserve h23 0
((rdT (.leaf (.int .i64)) h24 (.hp h10.next 4 2)).bind fun x25 =>
(guardO (0 ≤ y14 ∧ y14 < ((a0.len : Nat) : Int)) (guardO (V.nn ((V.add a0.a (Int.toNat y14 * 4)) : V) = true) ((rdT (.leaf (.int .i64)) h24 (V.add (V.add a0.a (Int.toNat y14 * 4)) 2)).bind fun x26 =>
((H.wrs h24 (.hp h10.next 4 2) [.int .i64 (IntKind.wrap .i64 (x25 + x26))]).bind fun h27 =>
(let h28 : H := H.reserve h27 0
((rdT (.leaf (.int .i64)) h28 (.hp h10.next 4 3)).bind fun x29 =>
(guardO (0 ≤ y14 ∧ y14 < ((a0.len : Nat) : Int)) (guardO (V.nn ((V.add a0.a (Int.toNat y14 * 4)) : V) = true) ((rdT (.leaf (.int .i64)) h28 (V.add (V.add a0.a (Int.toNat y14 * 4)) 3)).bind fun x30 =>
((H.wrs h28 (.hp h10.next 4 3) [.int .i64 (IntKind.wrap .i64 (x29 + x30))]).bind fun h31 =>
(some (.more ((IntKind.wrap .i64 (y14 + 1)), h31))))))))))))))))))))))))))) else (some (.done (.ex0 (), h15))))
noncomputable def spileref32_Sum (a0 : SV) (h : H) : Option (((Int × Int × Int × Int) × Int) × H) :=
(let h1 : H := H.new h [.int .i64 0, .int .i64 0, .int .i64 0, .int .i64 0] 4
(bif (decide ((1024 : Int) < ((a0.len : Nat) : Int))) then ((H.wrs h1 (.hp h.next 4 0) [.int .i64 0, .int .i64 0, .int .i64 0, .int .i64 0]).bind fun h2 =>
((rdT (.agg [.int .i64, .int .i64, .int .i64, .int .i64]) h2 (.hp h.next 4 0 : V)).bind fun (x3_0, x3_1, x3_2, x3_3) =>
(some (((x3_0, x3_1, x3_2, x3_3), 8), h2)))) else ((iter FUEL (spileref32_Sum.loop1 h a0) (0, h1)).bind fun (fl11, h10) => match fl11 with
| .next _ => none
| .ret rr12 => (some (rr12, h10))
| .ex0 _ =>
(let h13 : H := H.new h10 [.int .i64 0, .int .i64 0, .int .i64 0, .int .i64 0] 4
((iter FUEL (spileref32_Sum.loop2 a0 h10) (0, h13)).bind fun (fl33, h32) => match fl33 with
| .next _ => none
| .ret rr34 => (some (rr34, h32))
| .ex0 _ =>
((rdT (.agg [.int .i64, .int .i64, .int .i64, .int .i64]) h32 (.hp h10.next 4 0)).bind fun (x35_0, x35_1, x35_2, x35_3) =>
((spileref32_inRangeP (x35_0, x35_1, x35_2, x35_3)).bind fun r36 =>
(bif (!r36) then ((H.wrs h32 (.hp h.next 4 0) [.int .i64 0, .int .i64 0, .int .i64 0, .int .i64 0]).bind fun h37 =>
((rdT (.agg [.int .i64, .int .i64, .int .i64, .int .i64]) h37 (.hp h.next 4 0 : V)).bind fun (x38_0, x38_1, x38_2, x38_3) =>
(some (((x38_0, x38_1, x38_2, x38_3), 15), h37)))) else ((rdT (.agg [.int .i64, .int .i64, .int .i64, .int .i64]) h32 (.hp h10.next 4 0)).bind fun (x39_0, x39_1, x39_2, x39_3) =>
((H.wrs h32 (.hp h.next 4 0) [.int .i64 x39_0, .int .i64 x39_1, .int .i64 x39_2, .int .i64 x39_3]).bind fun h40 =>
((rdT (.agg [.int .i64, .int .i64, .int .i64, .int .i64]) h40 (.hp h.next 4 0 : V)).bind fun (x41_0, x41_1, x41_2, x41_3) =>
(some (((x41_0, x41_1, x41_2, x41_3), 0), h40))))))))
| .ex1 _ => none))
| .ex1 _ => none)))
def spileref32_Sum.A : Ann := { lits := [], conds := [], loops := [(4, [4], [.leaf (.int .i64)], [], [], some 0, none), (10, [6], [.leaf (.int .i64)], [], [], some 2, none)], regs := [] }
theorem spileref32_Sum.eq : ∀ (x : TT [.leaf .slice]) (h : H), evalFn Try.prog (spileref32_Sum.tb) spileref32_Sum.A Try.f47 (.many [.agg [.int .i64, .int .i64, .int .i64, .int .i64], .leaf (.int .i64)]) (TT.un [.leaf .slice] x) h = spileref32_Sum x h := by
  intro x h
  kernel_rfl
noncomputable def spileref32_Sum.e : Entry := mkX [.leaf .slice] (.many [.agg [.int .i64, .int .i64, .int .i64, .int .i64], .leaf (.int .i64)]) fun x h => spileref32_Sum x h
theorem spileref32_Sum.ok : EntryOK Try.prog 47 (spileref32_Sum.e) := mkX_ok (spileref32_Sum.tbok) Try.mixed Try.func47 (by kernel_rfl) (spileref32_Sum.eq)
noncomputable def spileref32_SumP (a0 : (List (Int × Int × Int × Int))) : Option ((Int × Int × Int × Int) × Int) := (spileref32_Sum (rowSV false [.int .i64, .int .i64, .int .i64, .int .i64] a0) H.empty).bind fun p => rdRes false p.2 (.many [.agg [.int .i64, .int .i64, .int .i64, .int .i64], .leaf (.int .i64)]) (Res.un (.many [.agg [.int .i64, .int .i64, .int .i64, .int .i64], .leaf (.int .i64)]) p.1)
theorem spileref32_SumP.eq : ∀ x : TT [.leaf (.row [.int .i64, .int .i64, .int .i64, .int .i64])], ((evalFn Try.prog (spileref32_Sum.tb) spileref32_Sum.A Try.f47 (.many [.agg [.int .i64, .int .i64, .int .i64, .int .i64], .leaf (.int .i64)]) (TT.lo false [.leaf (.row [.int .i64, .int .i64, .int .i64, .int .i64])] x) H.empty).bind fun p => rdRes false p.2 (.many [.agg [.int .i64, .int .i64, .int .i64, .int .i64], .leaf (.int .i64)]) (Res.un (.many [.agg [.int .i64, .int .i64, .int .i64, .int .i64], .leaf (.int .i64)]) p.1)) = spileref32_SumP x := by
  intro x
  rw [show TT.lo false [.leaf (.row [.int .i64, .int .i64, .int .i64, .int .i64])] x = TT.un [.leaf .slice] ((rowSV false [.int .i64, .int .i64, .int .i64, .int .i64] x)) from rfl, spileref32_Sum.eq]
  rfl
noncomputable def spileref32_SumP.e : Entry := mkP [.leaf (.row [.int .i64, .int .i64, .int .i64, .int .i64])] (.many [.agg [.int .i64, .int .i64, .int .i64, .int .i64], .leaf (.int .i64)]) fun x => spileref32_SumP x
theorem spileref32_SumP.ok : EntryOK Try.prog 47 (spileref32_SumP.e) := mkP_ok (spileref32_Sum.tbok) Try.mixed Try.func47 (by kernel_rfl) spileref32_SumP.eq

/-! ### spile/spileref32.Right: function 75 -/
noncomputable def spileref32_Right.tb : Table := tab [(69, spileref32_inRangeP.e)] [] Table.nil
theorem spileref32_Right.tbok : TabOK Try.prog (spileref32_Right.tb) := TabOK.tab (TabOK.nil Try.prog) (all_cons spileref32_inRangeP.ok (all_nil _)) (all_nil _)
noncomputable def spileref32_Right (a0 : (Int × Int × Int × Int)) (h : H) : Option ((Bool) × H) :=
(match a0 with
| (a0_0, a0_1, a0_2, a0_3) =>
(let h1 : H := H.new h [.int .i64 a0_0, .int .i64 a0_1, .int .i64 a0_2, .int .i64 a0_3] 4
((((rdT (.agg [.int .i64, .int .i64, .int .i64, .int .i64]) h1 (.hp h.next 4 0)).bind fun (x2_0, x2_1, x2_2, x2_3) =>
((spileref32_inRangeP (x2_0, x2_1, x2_2, x2_3)).bind fun r3 =>
(bif r3 then ((rdT (.leaf (.int .i64)) h1 (.hp h.next 4 3)).bind fun x4 =>
(bif !(decide (x4 = 0)) then ((rdT (.leaf (.int .i64)) h1 (.hp h.next 4 0)).bind fun x5 =>
(bif (decide (x5 = 0)) then ((rdT (.leaf (.int .i64)) h1 (.hp h.next 4 1)).bind fun x6 =>
(bif (decide (x6 = 0)) then ((rdT (.leaf (.int .i64)) h1 (.hp h.next 4 2)).bind fun x7 =>
(some ((decide (x7 = 0)), h1))) else (some (false, h1)))) else (some (false, h1)))) else (some (true, h1)))) else (some (false, h1)))))).bind fun (y8, h9) =>
(some (y8, h9)))))
def spileref32_Right.A : Ann := { lits := [], conds := [], loops := [], regs := [(1, [2], [.leaf .bool])] }
theorem spileref32_Right.eq : ∀ (x : TT [.agg [.int .i64, .int .i64, .int .i64, .int .i64]]) (h : H), evalFn Try.prog (spileref32_Right.tb) spileref32_Right.A Try.f75 (.one (.leaf .bool)) (TT.un [.agg [.int .i64, .int .i64, .int .i64, .int .i64]] x) h = spileref32_Right x h := by
  intro x h
  kernel_rfl
noncomputable def spileref32_Right.e : Entry := mkX [.agg [.int .i64, .int .i64, .int .i64, .int .i64]] (.one (.leaf .bool)) fun x h => spileref32_Right x h
theorem spileref32_Right.ok : EntryOK Try.prog 75 (spileref32_Right.e) := mkX_ok (spileref32_Right.tbok) Try.mixed Try.func75 (by kernel_rfl) (spileref32_Right.eq)
noncomputable def spileref32_RightP (a0 : (Int × Int × Int × Int)) : Option (Bool) := (spileref32_Right a0 H.empty).bind fun p => rdRes false p.2 (.one (.leaf .bool)) (Res.un (.one (.leaf .bool)) p.1)
theorem spileref32_RightP.eq : ∀ x : TT [.agg [.int .i64, .int .i64, .int .i64, .int .i64]], ((evalFn Try.prog (spileref32_Right.tb) spileref32_Right.A Try.f75 (.one (.leaf .bool)) (TT.lo false [.agg [.int .i64, .int .i64, .int .i64, .int .i64]] x) H.empty).bind fun p => rdRes false p.2 (.one (.leaf .bool)) (Res.un (.one (.leaf .bool)) p.1)) = spileref32_RightP x := by
  intro x
  rw [show TT.lo false [.agg [.int .i64, .int .i64, .int .i64, .int .i64]] x = TT.un [.agg [.int .i64, .int .i64, .int .i64, .int .i64]] (x) from rfl, spileref32_Right.eq]
  rfl
noncomputable def spileref32_RightP.e : Entry := mkP [.agg [.int .i64, .int .i64, .int .i64, .int .i64]] (.one (.leaf .bool)) fun x => spileref32_RightP x
theorem spileref32_RightP.ok : EntryOK Try.prog 75 (spileref32_RightP.e) := mkP_ok (spileref32_Right.tbok) Try.mixed Try.func75 (by kernel_rfl) spileref32_RightP.eq

/-! ### spile/spileref01.weigh: function 85 -/
noncomputable def spileref01_weigh.tb : Table := tab [(56, spileref01_IsP.e)] [] Table.nil
theorem spileref01_weigh.tbok : TabOK Try.prog (spileref01_weigh.tb) := TabOK.tab (TabOK.nil Try.prog) (all_cons spileref01_IsP.ok (all_nil _)) (all_nil _)
noncomputable def spileref01_weigh.loop1 (a1 : SV) : (Int × Int) × H → Option (Stp ((Int × Int) × H) (Flow (Int) (Int × Int) × H)) := fun ((y2, y3), h4) =>
(bif (decide (y3 < ((a1.len : Nat) : Int))) then (((guardO (0 ≤ y3 ∧ y3 < ((a1.len : Nat) : Int)) ((rdT (.leaf (.int .i64)) h4 (V.add a1.a (Int.toNat y3 * 1))).bind fun x5 =>
((spileref01_IsP x5).bind fun r6 =>
(bif !(!r6) then (guardO (0 ≤ y3 ∧ y3 < ((a1.len : Nat) : Int)) ((rdT (.leaf (.int .i64)) h4 (V.add a1.a (Int.toNat y3 * 1))).bind fun x7 =>
((spileref01_IsP (IntKind.wrap .i64 (y2 + x7))).bind fun r8 =>
(some ((!r8), h4))))) else (some (true, h4))))))).bind fun (y9, h10) =>
(bif y9 then (some (.done (.ret (0, 2), h10))) else (guardO (0 ≤ y3 ∧ y3 < ((a1.len : Nat) : Int)) ((rdT (.leaf (.int .i64)) h10 (V.add a1.a (Int.toNat y3 * 1))).bind fun x11 =>
(some (.more (((IntKind.wrap .i64 (y2 + x11)), (IntKind.wrap .i64 (y3 + 1))), h10))))))) else (some (.done (.ex0 y2, h4))))
noncomputable def spileref01_weigh (a0 : Int) (a1 : SV) (h : H) : Option ((Int × Int) × H) :=
((spileref01_IsP a0).bind fun r1 =>
(bif (!r1) then (some ((0, 2), h)) else (bif (decide (((a1.len : Nat) : Int) = 0)) then (some ((0, 9), h)) else (bif (decide ((64 : Int) < ((a1.len : Nat) : Int))) then (some ((0, 8), h)) else ((iter FUEL (spileref01_weigh.loop1 a1) ((0, 0), h)).bind fun (fl13, h12) => match fl13 with
| .next _ => none
| .ret rr14 => (some (rr14, h12))
| .ex0 y15 =>
(bif (decide (y15 = 0)) then (some ((0, 16), h12)) else (some ((y15, 0), h12)))
| .ex1 _ => none)))))
def spileref01_weigh.A : Ann := { lits := [], conds := [], loops := [(9, [6, 7], [.leaf (.int .i64), .leaf (.int .i64)], [6], [.leaf (.int .i64)], some 0, none)], regs := [(11, [38], [.leaf .bool])] }
theorem spileref01_weigh.eq : ∀ (x : TT [.leaf (.int .i64), .leaf .slice]) (h : H), evalFn Try.prog (spileref01_weigh.tb) spileref01_weigh.A Try.f85 (.many [.leaf (.int .i64), .leaf (.int .i64)]) (TT.un [.leaf (.int .i64), .leaf .slice] x) h = spileref01_weigh x.1 x.2 h := by
  intro x h
  kernel_rfl
noncomputable def spileref01_weigh.e : Entry := mkX [.leaf (.int .i64), .leaf .slice] (.many [.leaf (.int .i64), .leaf (.int .i64)]) fun x h => spileref01_weigh x.1 x.2 h
theorem spileref01_weigh.ok : EntryOK Try.prog 85 (spileref01_weigh.e) := mkX_ok (spileref01_weigh.tbok) Try.mixed Try.func85 (by kernel_rfl) (spileref01_weigh.eq)
noncomputable def spileref01_weighP (a0 : Int) (a1 : (List (Int))) : Option (Int × Int) := (spileref01_weigh a0 (rowSV false [.int .i64] a1) H.empty).bind fun p => rdRes false p.2 (.many [.leaf (.int .i64), .leaf (.int .i64)]) (Res.un (.many [.leaf (.int .i64), .leaf (.int .i64)]) p.1)
theorem spileref01_weighP.eq : ∀ x : TT [.leaf (.int .i64), .leaf (.row [.int .i64])], ((evalFn Try.prog (spileref01_weigh.tb) spileref01_weigh.A Try.f85 (.many [.leaf (.int .i64), .leaf (.int .i64)]) (TT.lo false [.leaf (.int .i64), .leaf (.row [.int .i64])] x) H.empty).bind fun p => rdRes false p.2 (.many [.leaf (.int .i64), .leaf (.int .i64)]) (Res.un (.many [.leaf (.int .i64), .leaf (.int .i64)]) p.1)) = spileref01_weighP x.1 x.2 := by
  intro x
  rw [show TT.lo false [.leaf (.int .i64), .leaf (.row [.int .i64])] x = TT.un [.leaf (.int .i64), .leaf .slice] (x.1, (rowSV false [.int .i64] x.2)) from rfl, spileref01_weigh.eq]
  rfl
noncomputable def spileref01_weighP.e : Entry := mkP [.leaf (.int .i64), .leaf (.row [.int .i64])] (.many [.leaf (.int .i64), .leaf (.int .i64)]) fun x => spileref01_weighP x.1 x.2
theorem spileref01_weighP.ok : EntryOK Try.prog 85 (spileref01_weighP.e) := mkP_ok (spileref01_weigh.tbok) Try.mixed Try.func85 (by kernel_rfl) spileref01_weighP.eq

/-! ### spile/spileref01.Proportion: function 86 -/
noncomputable def spileref01_Proportion.tb : Table := tab [(53, spileref01_OfP.e)] [] Table.nil
theorem spileref01_Proportion.tbok : TabOK Try.prog (spileref01_Proportion.tb) := TabOK.tab (TabOK.nil Try.prog) (all_cons spileref01_OfP.ok (all_nil _)) (all_nil _)
noncomputable def spileref01_Proportion (a0 : Int) (a1 : Int) (a2 : Int) (h : H) : Option ((Int × Int) × H) :=
((spileref01_OfP a0 a1 a2 128849018880000).bind fun (r1, r2, r3) =>
(some ((r1, r2), h)))
def spileref01_Proportion.A : Ann := { lits := [], conds := [], loops := [], regs := [] }
theorem spileref01_Proportion.eq : ∀ (x : TT [.leaf (.int .i64), .leaf (.int .i64), .leaf (.int .i64)]) (h : H), evalFn Try.prog (spileref01_Proportion.tb) spileref01_Proportion.A Try.f86 (.many [.leaf (.int .i64), .leaf (.int .i64)]) (TT.un [.leaf (.int .i64), .leaf (.int .i64), .leaf (.int .i64)] x) h = spileref01_Proportion x.1 x.2.1 x.2.2 h := by
  intro x h
  kernel_rfl
noncomputable def spileref01_Proportion.e : Entry := mkX [.leaf (.int .i64), .leaf (.int .i64), .leaf (.int .i64)] (.many [.leaf (.int .i64), .leaf (.int .i64)]) fun x h => spileref01_Proportion x.1 x.2.1 x.2.2 h
theorem spileref01_Proportion.ok : EntryOK Try.prog 86 (spileref01_Proportion.e) := mkX_ok (spileref01_Proportion.tbok) Try.mixed Try.func86 (by kernel_rfl) (spileref01_Proportion.eq)
noncomputable def spileref01_ProportionP (a0 : Int) (a1 : Int) (a2 : Int) : Option (Int × Int) := (spileref01_Proportion a0 a1 a2 H.empty).bind fun p => rdRes false p.2 (.many [.leaf (.int .i64), .leaf (.int .i64)]) (Res.un (.many [.leaf (.int .i64), .leaf (.int .i64)]) p.1)
theorem spileref01_ProportionP.eq : ∀ x : TT [.leaf (.int .i64), .leaf (.int .i64), .leaf (.int .i64)], ((evalFn Try.prog (spileref01_Proportion.tb) spileref01_Proportion.A Try.f86 (.many [.leaf (.int .i64), .leaf (.int .i64)]) (TT.lo false [.leaf (.int .i64), .leaf (.int .i64), .leaf (.int .i64)] x) H.empty).bind fun p => rdRes false p.2 (.many [.leaf (.int .i64), .leaf (.int .i64)]) (Res.un (.many [.leaf (.int .i64), .leaf (.int .i64)]) p.1)) = spileref01_ProportionP x.1 x.2.1 x.2.2 := by
  intro x
  rw [show TT.lo false [.leaf (.int .i64), .leaf (.int .i64), .leaf (.int .i64)] x = TT.un [.leaf (.int .i64), .leaf (.int .i64), .leaf (.int .i64)] (x.1, x.2.1, x.2.2) from rfl, spileref01_Proportion.eq]
  rfl
noncomputable def spileref01_ProportionP.e : Entry := mkP [.leaf (.int .i64), .leaf (.int .i64), .leaf (.int .i64)] (.many [.leaf (.int .i64), .leaf (.int .i64)]) fun x => spileref01_ProportionP x.1 x.2.1 x.2.2
theorem spileref01_ProportionP.ok : EntryOK Try.prog 86 (spileref01_ProportionP.e) := mkP_ok (spileref01_Proportion.tbok) Try.mixed Try.func86 (by kernel_rfl) spileref01_ProportionP.eq

/-! ### spile/spileref01.Divide: function 76 -/
noncomputable def spileref01_Divide.tb : Table := tab [(85, spileref01_weighP.e), (86, spileref01_ProportionP.e)] [] Table.nil
theorem spileref01_Divide.tbok : TabOK Try.prog (spileref01_Divide.tb) := TabOK.tab (TabOK.nil Try.prog) (all_cons spileref01_weighP.ok (all_cons spileref01_ProportionP.ok (all_nil _))) (all_nil _)
noncomputable def spileref01_Divide.loop1 (a0 : Int) (a1 : SV) (r1 : Int) : (SV × SV × Int × Int) × H → Option (Stp ((SV × SV × Int × Int) × H) (Flow (SV × SV × Int) (SV × Int) × H)) := fun ((y4, y5, y6, y7), h8) =>
(bif (decide (y7 < ((a1.len : Nat) : Int))) then (guardO (0 ≤ y7 ∧ y7 < ((a1.len : Nat) : Int)) ((rdT (.leaf (.int .i64)) h8 (V.add a1.a (Int.toNat y7 * 1))).bind fun x9 =>
((spileref01_ProportionP a0 x9 r1).bind fun (r10, r11) =>
((appendS h8 none 1 8 y4 [.int .i64 r10] 1).bind fun (s14, h13) =>
((appendS h13 none 1 8 y5 [.int .i64 r11] 1).bind fun (s18, h17) =>
(some (.more ((s14, s18, (IntKind.wrap .i64 (y6 - r10)), (IntKind.wrap .i64 (y7 + 1))), h17)))))))) else (some (.done (.ex0 (y4, y5, y6), h8))))
noncomputable def spileref01_Divide.loop2 (y24 : SV) : (Int × Int) × H → Option (Stp ((Int × Int) × H) (Flow (Int) (SV × Int) × H)) := fun ((y28, y29), h30) =>
(bif (decide (y29 < ((y24.len : Nat) : Int))) then (let h31 : H := H.reserve h30 0
(guardO (0 ≤ y29 ∧ y29 < ((y24.len : Nat) : Int)) ((rdT (.leaf (.int .i64)) h31 (V.add y24.a (Int.toNat y29 * 1))).bind fun x32 =>
(guardO (0 ≤ y28 ∧ y28 < ((y24.len : Nat) : Int)) ((rdT (.leaf (.int .i64)) h31 (V.add y24.a (Int.toNat y28 * 1))).bind fun x33 =>
((bif (decide (x33 < x32)) then (some (.next y29, h31)) else (some (.next y28, h31)) : Option (Flow (Int) (SV × Int) × H)).bind fun (fl35, h34) => match fl35 with
| .next y36 =>
(some (.more ((y36, (IntKind.wrap .i64 (y29 + 1))), h34)))
| .ret rr37 => (some (.done (.ret rr37, h34)))
| .ex0 _ => none
| .ex1 _ => none)))))) else (some (.done (.ex0 y28, h30))))
noncomputable def spileref01_Divide.loop3 (y23 : SV) (y24 : SV) : (Int) × H → Option (Stp ((Int) × H) (Flow (Unit) (SV × Int) × H)) := fun (y26, h27) =>
(bif (decide ((0 : Int) < y26)) then ((iter FUEL (spileref01_Divide.loop2 y24) ((0, 0), h27)).bind fun (fl39, h38) => match fl39 with
| .next _ => none
| .ret rr40 => (some (.done (.ret rr40, h38)))
| .ex0 y41 =>
(guardO (0 ≤ y41 ∧ y41 < ((y23.len : Nat) : Int)) ((rdT (.leaf (.int .i64)) h38 (V.add y23.a (Int.toNat y41 * 1))).bind fun x42 =>
(guardO (0 ≤ y41 ∧ y41 < ((y23.len : Nat) : Int)) ((H.wrs h38 (V.add y23.a (Int.toNat y41 * 1)) [.int .i64 (IntKind.wrap .i64 (x42 + 1))]).bind fun h43 =>
(guardO (0 ≤ y41 ∧ y41 < ((y24.len : Nat) : Int)) ((H.wrs h43 (V.add y24.a (Int.toNat y41 * 1)) [.int .i64 (-1)]).bind fun h44 =>
(some (.more ((IntKind.wrap .i64 (y26 - 1)), h44)))))))))
| .ex1 _ => none) else (some (.done (.ex0 (), h27))))
noncomputable def spileref01_Divide (a0 : Int) (a1 : SV) (h : H) : Option ((SV × Int) × H) :=
((rdRow true h [.int .i64] a1).bind fun s3 =>
((spileref01_weighP a0 s3).bind fun (r1, r2) =>
(bif (!(decide (r2 = 0))) then (some ((⟨.nil, 0, 0, false⟩, r2), h)) else ((iter FUEL (spileref01_Divide.loop1 a0 a1 r1) ((⟨.nil, 0, 0, false⟩, ⟨.nil, 0, 0, false⟩, a0, 0), h)).bind fun (fl21, h20) => match fl21 with
| .next _ => none
| .ret rr22 => (some (rr22, h20))
| .ex0 (y23, y24, y25) =>
((iter FUEL (spileref01_Divide.loop3 y23 y24) (y25, h20)).bind fun (fl46, h45) => match fl46 with
| .next _ => none
| .ret rr47 => (some (rr47, h45))
| .ex0 _ =>
(some ((y23, 0), h45))
| .ex1 _ => none)
| .ex1 _ => none))))
def spileref01_Divide.A : Ann := { lits := [], conds := [(71, [14], [.leaf (.int .i64)], none, none)], loops := [(7, [8, 9, 10, 11], [.leaf .slice, .leaf .slice, .leaf (.int .i64), .leaf (.int .i64)], [8, 9, 10], [.leaf .slice, .leaf .slice, .leaf (.int .i64)], some 0, none), (16, [14, 15], [.leaf (.int .i64), .leaf (.int .i64)], [14], [.leaf (.int .i64)], some 4, none), (12, [10], [.leaf (.int .i64)], [], [], some 2, none)], regs := [] }
theorem spileref01_Divide.eq : ∀ (x : TT [.leaf (.int .i64), .leaf .slice]) (h : H), evalFn Try.prog (spileref01_Divide.tb) spileref01_Divide.A Try.f76 (.many [.leaf .slice, .leaf (.int .i64)]) (TT.un [.leaf (.int .i64), .leaf .slice] x) h = spileref01_Divide x.1 x.2 h := by
  intro x h
  kernel_rfl
noncomputable def spileref01_Divide.e : Entry := mkX [.leaf (.int .i64), .leaf .slice] (.many [.leaf .slice, .leaf (.int .i64)]) fun x h => spileref01_Divide x.1 x.2 h
theorem spileref01_Divide.ok : EntryOK Try.prog 76 (spileref01_Divide.e) := mkX_ok (spileref01_Divide.tbok) Try.mixed Try.func76 (by kernel_rfl) (spileref01_Divide.eq)
noncomputable def spileref01_DivideP (a0 : Int) (a1 : (List (Int))) : Option ((List (Int)) × Int) := (spileref01_Divide a0 (rowSV false [.int .i64] a1) H.empty).bind fun p => rdRes false p.2 (.many [.leaf (.row [.int .i64]), .leaf (.int .i64)]) (Res.un (.many [.leaf .slice, .leaf (.int .i64)]) p.1)
theorem spileref01_DivideP.eq : ∀ x : TT [.leaf (.int .i64), .leaf (.row [.int .i64])], ((evalFn Try.prog (spileref01_Divide.tb) spileref01_Divide.A Try.f76 (.many [.leaf .slice, .leaf (.int .i64)]) (TT.lo false [.leaf (.int .i64), .leaf (.row [.int .i64])] x) H.empty).bind fun p => rdRes false p.2 (.many [.leaf (.row [.int .i64]), .leaf (.int .i64)]) (Res.un (.many [.leaf .slice, .leaf (.int .i64)]) p.1)) = spileref01_DivideP x.1 x.2 := by
  intro x
  rw [show TT.lo false [.leaf (.int .i64), .leaf (.row [.int .i64])] x = TT.un [.leaf (.int .i64), .leaf .slice] (x.1, (rowSV false [.int .i64] x.2)) from rfl, spileref01_Divide.eq]
  rfl
noncomputable def spileref01_DivideP.e : Entry := mkP [.leaf (.int .i64), .leaf (.row [.int .i64])] (.many [.leaf (.row [.int .i64]), .leaf (.int .i64)]) fun x => spileref01_DivideP x.1 x.2
theorem spileref01_DivideP.ok : EntryOK Try.prog 76 (spileref01_DivideP.e) := mkP_ok (spileref01_Divide.tbok) Try.mixed Try.func76 (by kernel_rfl) spileref01_DivideP.eq

/-! ### spile/spileref32.Among: function 49 -/
noncomputable def spileref32_Among.tb : Table := tab [(75, spileref32_RightP.e), (76, spileref01_DivideP.e)] [] Table.nil
theorem spileref32_Among.tbok : TabOK Try.prog (spileref32_Among.tb) := TabOK.tab (TabOK.nil Try.prog) (all_cons spileref32_RightP.ok (all_cons spileref01_DivideP.ok (all_nil _))) (all_nil _)
noncomputable def spileref32_Among.loop1 (r5 : List (Int)) (r9 : List (Int)) (r13 : List (Int)) (r17 : List (Int)) : (SV × Int) × H → Option (Stp ((SV × Int) × H) (Flow (SV) (SV × Int) × H)) := fun ((y20, y21), h22) =>
(bif (decide (y21 < ((r5.length : Nat) : Int))) then (let h23 : H := H.reserve h22 0
(guardO (0 ≤ y21 ∧ y21 < ((r5.length : Nat) : Int)) ((rdT (.leaf (.int .i64)) h23 (V.add ((rowSV true [.int .i64] r5).a) (Int.toNat y21 * 1))).bind fun x24 =>
(guardO (0 ≤ y21 ∧ y21 < ((r9.length : Nat) : Int)) ((rdT (.leaf (.int .i64)) h23 (V.add ((rowSV true [.int .i64] r9).a) (Int.toNat y21 * 1))).bind fun x25 =>
(guardO (0 ≤ y21 ∧ y21 < ((r13.length : Nat) : Int)) ((rdT (.leaf (.int .i64)) h23 (V.add ((rowSV true [.int .i64] r13).a) (Int.toNat y21 * 1))).bind fun x26 =>
(guardO (0 ≤ y21 ∧ y21 < ((r17.length : Nat) : Int)) ((rdT (.leaf (.int .i64)) h23 (V.add ((rowSV true [.int .i64] r17).a) (Int.toNat y21 * 1))).bind fun x27 =>
((appendS h23 none 4 32 y20 [.int .i64 x24, .int .i64 x25, .int .i64 x26, .int .i64 x27] 1).bind fun (s30, h29) =>
(some (.more ((s30, (IntKind.wrap .i64 (y21 + 1))), h29))))))))))))) else (some (.done (.ex0 y20, h22))))
noncomputable def spileref32_Among (a0 : (Int × Int × Int × Int)) (a1 : SV) (h : H) : Option ((SV × Int) × H) :=
(match a0 with
| (a0_0, a0_1, a0_2, a0_3) =>
(let h1 : H := H.new h [.int .i64 a0_0, .int .i64 a0_1, .int .i64 a0_2, .int .i64 a0_3] 4
((rdT (.agg [.int .i64, .int .i64, .int .i64, .int .i64]) h1 (.hp h.next 4 0)).bind fun (x2_0, x2_1, x2_2, x2_3) =>
((spileref32_RightP (x2_0, x2_1, x2_2, x2_3)).bind fun r3 =>
(bif (!r3) then (some ((⟨.nil, 0, 0, false⟩, 1), h1)) else ((rdT (.leaf (.int .i64)) h1 (.hp h.next 4 0)).bind fun x4 =>
((rdRow true h1 [.int .i64] a1).bind fun s7 =>
((spileref01_DivideP x4 s7).bind fun (r5, r6) =>
(bif (!(decide (r6 = 0))) then (some ((⟨.nil, 0, 0, false⟩, r6), h1)) else ((rdT (.leaf (.int .i64)) h1 (.hp h.next 4 1)).bind fun x8 =>
((rdRow true h1 [.int .i64] a1).bind fun s11 =>
((spileref01_DivideP x8 s11).bind fun (r9, r10) =>
((rdT (.leaf (.int .i64)) h1 (.hp h.next 4 2)).bind fun x12 =>
((rdRow true h1 [.int .i64] a1).bind fun s15 =>
((spileref01_DivideP x12 s15).bind fun (r13, r14) =>
((rdT (.leaf (.int .i64)) h1 (.hp h.next 4 3)).bind fun x16 =>
((rdRow true h1 [.int .i64] a1).bind fun s19 =>
((spileref01_DivideP x16 s19).bind fun (r17, r18) =>
((iter FUEL (spileref32_Among.loop1 r5 r9 r13 r17) ((⟨.lp true ([]) 0, 0, 0, false⟩, 0), h1)).bind fun (fl33, h32) => match fl33 with
| .next _ => none
| .ret rr34 => (some (rr34, h32))
| .ex0 y35 =>
(some ((y35, 0), h32))
| .ex1 _ => none)))))))))))))))))))
def spileref32_Among.A : Ann := { lits := [], conds := [], loops := [(11, [14, 15], [.leaf .slice, .leaf (.int .i64)], [14], [.leaf .slice], some 0, none)], regs := [] }
theorem spileref32_Among.eq : ∀ (x : TT [.agg [.int .i64, .int .i64, .int .i64, .int .i64], .leaf .slice]) (h : H), evalFn Try.prog (spileref32_Among.tb) spileref32_Among.A Try.f49 (.many [.leaf .slice, .leaf (.int .i64)]) (TT.un [.agg [.int .i64, .int .i64, .int .i64, .int .i64], .leaf .slice] x) h = spileref32_Among x.1 x.2 h := by
  intro x h
  kernel_rfl
noncomputable def spileref32_Among.e : Entry := mkX [.agg [.int .i64, .int .i64, .int .i64, .int .i64], .leaf .slice] (.many [.leaf .slice, .leaf (.int .i64)]) fun x h => spileref32_Among x.1 x.2 h
theorem spileref32_Among.ok : EntryOK Try.prog 49 (spileref32_Among.e) := mkX_ok (spileref32_Among.tbok) Try.mixed Try.func49 (by kernel_rfl) (spileref32_Among.eq)
noncomputable def spileref32_AmongP (a0 : (Int × Int × Int × Int)) (a1 : (List (Int))) : Option ((List (Int × Int × Int × Int)) × Int) := (spileref32_Among a0 (rowSV false [.int .i64] a1) H.empty).bind fun p => rdRes false p.2 (.many [.leaf (.row [.int .i64, .int .i64, .int .i64, .int .i64]), .leaf (.int .i64)]) (Res.un (.many [.leaf .slice, .leaf (.int .i64)]) p.1)
theorem spileref32_AmongP.eq : ∀ x : TT [.agg [.int .i64, .int .i64, .int .i64, .int .i64], .leaf (.row [.int .i64])], ((evalFn Try.prog (spileref32_Among.tb) spileref32_Among.A Try.f49 (.many [.leaf .slice, .leaf (.int .i64)]) (TT.lo false [.agg [.int .i64, .int .i64, .int .i64, .int .i64], .leaf (.row [.int .i64])] x) H.empty).bind fun p => rdRes false p.2 (.many [.leaf (.row [.int .i64, .int .i64, .int .i64, .int .i64]), .leaf (.int .i64)]) (Res.un (.many [.leaf .slice, .leaf (.int .i64)]) p.1)) = spileref32_AmongP x.1 x.2 := by
  intro x
  rw [show TT.lo false [.agg [.int .i64, .int .i64, .int .i64, .int .i64], .leaf (.row [.int .i64])] x = TT.un [.agg [.int .i64, .int .i64, .int .i64, .int .i64], .leaf .slice] (x.1, (rowSV false [.int .i64] x.2)) from rfl, spileref32_Among.eq]
  rfl
noncomputable def spileref32_AmongP.e : Entry := mkP [.agg [.int .i64, .int .i64, .int .i64, .int .i64], .leaf (.row [.int .i64])] (.many [.leaf (.row [.int .i64, .int .i64, .int .i64, .int .i64]), .leaf (.int .i64)]) fun x => spileref32_AmongP x.1 x.2
theorem spileref32_AmongP.ok : EntryOK Try.prog 49 (spileref32_AmongP.e) := mkP_ok (spileref32_Among.tbok) Try.mixed Try.func49 (by kernel_rfl) spileref32_AmongP.eq

/-! ### spile/spilelaw32.LossSums: function 13 -/
noncomputable def spilelaw32_LossSums.tb : Table := tab [(22, spileref01_FewP.e), (24, slices_Clone_int_intP.e), (30, spilelaw32_awakeP.e), (34, spileref32_SameP.e), (45, loss_SumP.e), (46, slices_Clone_api_Loss_api_LossP.e), (47, spileref32_SumP.e), (48, loss_AmongP.e), (49, spileref32_AmongP.e)] [] Table.nil
theorem spilelaw32_LossSums.tbok : TabOK Try.prog (spilelaw32_LossSums.tb) := TabOK.tab (TabOK.nil Try.prog) (all_cons spileref01_FewP.ok (all_cons slices_Clone_int_intP.ok (all_cons spilelaw32_awakeP.ok (all_cons spileref32_SameP.ok (all_cons loss_SumP.ok (all_cons slices_Clone_api_Loss_api_LossP.ok (all_cons spileref32_SumP.ok (all_cons loss_AmongP.ok (all_cons spileref32_AmongP.ok (all_nil _)))))))))) (all_nil _)
noncomputable def spilelaw32_LossSums (a0 : SV) (a1 : (Int × Int × Int × Int)) (a2 : SV) (h : H) : Option ((Bool) × H) :=
(match a1 with
| (a1_0, a1_1, a1_2, a1_3) =>
(let h1 : H := H.new h [.int .i64 a1_0, .int .i64 a1_1, .int .i64 a1_2, .int .i64 a1_3] 4
((spilelaw32_awakeP ).bind fun r2 =>
(bif (!r2) then (some (false, h1)) else (((bif (decide ((20 : Int) < ((a0.len : Nat) : Int))) then (bif !(!(decide (((a0.len : Nat) : Int) = 1025))) then ((rdRow true h1 [.int .i64] a2).bind fun s4 =>
((spileref01_FewP s4).bind fun r3 =>
(some ((!r3), h1)))) else (some (true, h1))) else ((rdRow true h1 [.int .i64] a2).bind fun s6 =>
((spileref01_FewP s6).bind fun r5 =>
(some ((!r5), h1)))))).bind fun (y7, h8) =>
(bif y7 then (some (true, h8)) else ((rdRow true h8 [.int .i64, .int .i64, .int .i64, .int .i64] a0).bind fun s10 =>
((cloneP 32 s10).bind fun r9 =>
((rdRow true h8 [.int .i64, .int .i64, .int .i64, .int .i64] (rowSV true [.int .i64, .int .i64, .int .i64, .int .i64] r9)).bind fun s13 =>
((loss_SumP s13).bind fun ((r11_0, r11_1, r11_2, r11_3), r12) =>
(let h14 : H := H.new h8 [.int .i64 0, .int .i64 0, .int .i64 0, .int .i64 0] 4
((H.wrs h14 (.hp h8.next 4 0) [.int .i64 r11_0, .int .i64 r11_1, .int .i64 r11_2, .int .i64 r11_3]).bind fun h15 =>
((rdRow true h15 [.int .i64, .int .i64, .int .i64, .int .i64] a0).bind fun s18 =>
((spileref32_SumP s18).bind fun ((r16_0, r16_1, r16_2, r16_3), r17) =>
(let h19 : H := H.new h15 [.int .i64 0, .int .i64 0, .int .i64 0, .int .i64 0] 4
((H.wrs h19 (.hp h15.next 4 0) [.int .i64 r16_0, .int .i64 r16_1, .int .i64 r16_2, .int .i64 r16_3]).bind fun h20 =>
(let h21 : H := H.reserve h20 0
((rdT (.agg [.int .i64, .int .i64, .int .i64, .int .i64]) h21 (.hp h.next 4 0)).bind fun (x22_0, x22_1, x22_2, x22_3) =>
((rdRow true h21 [.int .i64] a2).bind fun s24 =>
((cloneP 8 s24).bind fun r23 =>
((rdRow true h21 [.int .i64] (rowSV true [.int .i64] r23)).bind fun s27 =>
((loss_AmongP (x22_0, x22_1, x22_2, x22_3) s27).bind fun (r25, r26) =>
((rdT (.agg [.int .i64, .int .i64, .int .i64, .int .i64]) h21 (.hp h.next 4 0)).bind fun (x28_0, x28_1, x28_2, x28_3) =>
((rdRow true h21 [.int .i64] a2).bind fun s31 =>
((spileref32_AmongP (x28_0, x28_1, x28_2, x28_3) s31).bind fun (r29, r30) =>
((((rdT (.agg [.int .i64, .int .i64, .int .i64, .int .i64]) h21 (.hp h8.next 4 0)).bind fun (x32_0, x32_1, x32_2, x32_3) =>
((rdT (.agg [.int .i64, .int .i64, .int .i64, .int .i64]) h21 (.hp h15.next 4 0)).bind fun (x33_0, x33_1, x33_2, x33_3) =>
(bif (decide (x32_0 = x33_0) && (decide (x32_1 = x33_1) && (decide (x32_2 = x33_2) && (decide (x32_3 = x33_3))))) then (bif (decide (r12 = r17)) then ((rdRow true h21 [.int .i64, .int .i64, .int .i64, .int .i64] (rowSV true [.int .i64, .int .i64, .int .i64, .int .i64] r25)).bind fun s35 =>
((rdRow true h21 [.int .i64, .int .i64, .int .i64, .int .i64] (rowSV true [.int .i64, .int .i64, .int .i64, .int .i64] r29)).bind fun s36 =>
((spileref32_SameP s35 s36).bind fun r34 =>
(bif r34 then (some ((decide (r26 = r30)), h21)) else (some (false, h21)))))) else (some (false, h21))) else (some (false, h21)))))).bind fun (y37, h38) =>
(some (y37, h38))))))))))))))))))))))))))))
def spilelaw32_LossSums.A : Ann := { lits := [], conds := [], loops := [], regs := [(3, [29], [.leaf .bool]), (9, [6], [.leaf .bool])] }
theorem spilelaw32_LossSums.eq : ∀ (x : TT [.leaf .slice, .agg [.int .i64, .int .i64, .int .i64, .int .i64], .leaf .slice]) (h : H), evalFn Try.prog (spilelaw32_LossSums.tb) spilelaw32_LossSums.A Try.f13 (.one (.leaf .bool)) (TT.un [.leaf .slice, .agg [.int .i64, .int .i64, .int .i64, .int .i64], .leaf .slice] x) h = spilelaw32_LossSums x.1 x.2.1 x.2.2 h := by
  intro x h
  kernel_rfl
noncomputable def spilelaw32_LossSums.e : Entry := mkX [.leaf .slice, .agg [.int .i64, .int .i64, .int .i64, .int .i64], .leaf .slice] (.one (.leaf .bool)) fun x h => spilelaw32_LossSums x.1 x.2.1 x.2.2 h
theorem spilelaw32_LossSums.ok : EntryOK Try.prog 13 (spilelaw32_LossSums.e) := mkX_ok (spilelaw32_LossSums.tbok) Try.mixed Try.func13 (by kernel_rfl) (spilelaw32_LossSums.eq)
noncomputable def spilelaw32_LossSumsP (a0 : (List (Int × Int × Int × Int))) (a1 : (Int × Int × Int × Int)) (a2 : (List (Int))) : Option (Bool) := (spilelaw32_LossSums (rowSV false [.int .i64, .int .i64, .int .i64, .int .i64] a0) a1 (rowSV false [.int .i64] a2) H.empty).bind fun p => rdRes false p.2 (.one (.leaf .bool)) (Res.un (.one (.leaf .bool)) p.1)
theorem spilelaw32_LossSumsP.eq : ∀ x : TT [.leaf (.row [.int .i64, .int .i64, .int .i64, .int .i64]), .agg [.int .i64, .int .i64, .int .i64, .int .i64], .leaf (.row [.int .i64])], ((evalFn Try.prog (spilelaw32_LossSums.tb) spilelaw32_LossSums.A Try.f13 (.one (.leaf .bool)) (TT.lo false [.leaf (.row [.int .i64, .int .i64, .int .i64, .int .i64]), .agg [.int .i64, .int .i64, .int .i64, .int .i64], .leaf (.row [.int .i64])] x) H.empty).bind fun p => rdRes false p.2 (.one (.leaf .bool)) (Res.un (.one (.leaf .bool)) p.1)) = spilelaw32_LossSumsP x.1 x.2.1 x.2.2 := by
  intro x
  rw [show TT.lo false [.leaf (.row [.int .i64, .int .i64, .int .i64, .int .i64]), .agg [.int .i64, .int .i64, .int .i64, .int .i64], .leaf (.row [.int .i64])] x = TT.un [.leaf .slice, .agg [.int .i64, .int .i64, .int .i64, .int .i64], .leaf .slice] ((rowSV false [.int .i64, .int .i64, .int .i64, .int .i64] x.1), x.2.1, (rowSV false [.int .i64] x.2.2)) from rfl, spilelaw32_LossSums.eq]
  rfl
noncomputable def spilelaw32_LossSumsP.e : Entry := mkP [.leaf (.row [.int .i64, .int .i64, .int .i64, .int .i64]), .agg [.int .i64, .int .i64, .int .i64, .int .i64], .leaf (.row [.int .i64])] (.one (.leaf .bool)) fun x => spilelaw32_LossSumsP x.1 x.2.1 x.2.2
theorem spilelaw32_LossSumsP.ok : EntryOK Try.prog 13 (spilelaw32_LossSumsP.e) := mkP_ok (spilelaw32_LossSums.tbok) Try.mixed Try.func13 (by kernel_rfl) spilelaw32_LossSumsP.eq
end Go.Proofs.Ytadlfinlbaogeaa
