/- The functions of the program as Lean functions, each with the equation by which the evaluator is that function. Written by a program of this session (evdrive.py). Conditions: none. -/
import Derived.Test.YtbcpdecgfdlaaaaProg
import Derived.Test.YtbcpdecgfdlaaaaEvSpec
import Derived.Test.YtbcpdecgfdlaaaaFn7
namespace Go.Proofs.Ytbcpdecgfdlaaaa
open Go Go.Proofs.Ytbcpdecgfdlaaaa.Ev
set_option maxRecDepth 100000
set_option linter.unusedVariables false
/-! ### slices.Reverse[[]spile/api.Lot,spile/api.Lot]: function 27 -/
noncomputable def slices_Reverse_api_Lot_api_Lot.tb : Table := tab [] [] Table.nil
theorem slices_Reverse_api_Lot_api_Lot.tbok : TabOK Try.prog (slices_Reverse_api_Lot_api_Lot.tb) := TabOK.tab (TabOK.nil Try.prog) (all_nil _) (all_nil _)
noncomputable def slices_Reverse_api_Lot_api_Lot.loop1 (a0 : SV) : (Int × Int) × H → Option (Stp ((Int × Int) × H) (Flow (Unit) (Unit) × H)) := fun ((y1, y2), h3) =>
(bif (decide (y1 < y2)) then (let h4 : H := H.reserve h3 0
(guardO (0 ≤ y2 ∧ y2 < ((a0.len : Nat) : Int)) ((rdT (.agg [.int .i64, .int .i64, .int .i64, .slice]) h4 (V.add a0.a (Int.toNat y2 * 4))).bind fun (x5_0, x5_1, x5_2, x5_3) =>
(guardO (0 ≤ y1 ∧ y1 < ((a0.len : Nat) : Int)) ((rdT (.agg [.int .i64, .int .i64, .int .i64, .slice]) h4 (V.add a0.a (Int.toNat y1 * 4))).bind fun (x6_0, x6_1, x6_2, x6_3) =>
(guardO (0 ≤ y1 ∧ y1 < ((a0.len : Nat) : Int)) ((H.wrs h4 (V.add a0.a (Int.toNat y1 * 4)) [.int .i64 x5_0, .int .i64 x5_1, .int .i64 x5_2, .slice x5_3.a x5_3.len x5_3.cap x5_3.tail]).bind fun h7 =>
(guardO (0 ≤ y2 ∧ y2 < ((a0.len : Nat) : Int)) ((H.wrs h7 (V.add a0.a (Int.toNat y2 * 4)) [.int .i64 x6_0, .int .i64 x6_1, .int .i64 x6_2, .slice x6_3.a x6_3.len x6_3.cap x6_3.tail]).bind fun h8 =>
(some (.more (((IntKind.wrap .i64 (y1 + 1)), (IntKind.wrap .i64 (y2 - 1))), h8)))))))))))) else (some (.done (.ex0 (), h3))))
noncomputable def slices_Reverse_api_Lot_api_Lot (a0 : SV) (h : H) : Option ((Unit) × H) :=
((iter FUEL (slices_Reverse_api_Lot_api_Lot.loop1 a0) ((0, (IntKind.wrap .i64 (((a0.len : Nat) : Int) - 1))), h)).bind fun (fl10, h9) => match fl10 with
| .next _ => none
| .ret rr11 => (some (rr11, h9))
| .ex0 _ =>
(some ((), h9))
| .ex1 _ => none)
def slices_Reverse_api_Lot_api_Lot.A : Ann := { lits := [], conds := [], loops := [(1, [2, 3], [.leaf (.int .i64), .leaf (.int .i64)], [], [], some 0, none)], regs := [] }
theorem slices_Reverse_api_Lot_api_Lot.eq : ∀ (x : TT [.leaf .slice]) (h : H), evalFn Try.prog (slices_Reverse_api_Lot_api_Lot.tb) slices_Reverse_api_Lot_api_Lot.A Try.f27 (.many []) (TT.un [.leaf .slice] x) h = slices_Reverse_api_Lot_api_Lot x h := by
  intro x h
  kernel_rfl
noncomputable def slices_Reverse_api_Lot_api_Lot.e : Entry := mkX [.leaf .slice] (.many []) fun x h => slices_Reverse_api_Lot_api_Lot x h
theorem slices_Reverse_api_Lot_api_Lot.ok : EntryOK Try.prog 27 (slices_Reverse_api_Lot_api_Lot.e) := mkX_ok (slices_Reverse_api_Lot_api_Lot.tbok) Try.mixed Try.func27 (by kernel_rfl) (slices_Reverse_api_Lot_api_Lot.eq)
noncomputable def slices_Reverse_api_Lot_api_LotP (a0 : (List (Int × Int × Int × (List (Int × Int))))) : Option (Unit) := (slices_Reverse_api_Lot_api_Lot (rowSV false [.int .i64, .int .i64, .int .i64, .row [.int .i64, .int .i64]] a0) H.empty).bind fun p => rdRes false p.2 (.many []) (Res.un (.many []) p.1)
theorem slices_Reverse_api_Lot_api_LotP.eq : ∀ x : TT [.leaf (.row [.int .i64, .int .i64, .int .i64, .row [.int .i64, .int .i64]])], ((evalFn Try.prog (slices_Reverse_api_Lot_api_Lot.tb) slices_Reverse_api_Lot_api_Lot.A Try.f27 (.many []) (TT.lo false [.leaf (.row [.int .i64, .int .i64, .int .i64, .row [.int .i64, .int .i64]])] x) H.empty).bind fun p => rdRes false p.2 (.many []) (Res.un (.many []) p.1)) = slices_Reverse_api_Lot_api_LotP x := by
  intro x
  rw [show TT.lo false [.leaf (.row [.int .i64, .int .i64, .int .i64, .row [.int .i64, .int .i64]])] x = TT.un [.leaf .slice] ((rowSV false [.int .i64, .int .i64, .int .i64, .row [.int .i64, .int .i64]] x)) from rfl, slices_Reverse_api_Lot_api_Lot.eq]
  rfl
noncomputable def slices_Reverse_api_Lot_api_LotP.e : Entry := mkP [.leaf (.row [.int .i64, .int .i64, .int .i64, .row [.int .i64, .int .i64]])] (.many []) fun x => slices_Reverse_api_Lot_api_LotP x
theorem slices_Reverse_api_Lot_api_LotP.ok : EntryOK Try.prog 27 (slices_Reverse_api_Lot_api_LotP.e) := mkP_ok (slices_Reverse_api_Lot_api_Lot.tbok) Try.mixed Try.func27 (by kernel_rfl) slices_Reverse_api_Lot_api_LotP.eq

/-! ### spile/spileref22.SameLot: function 28 -/
noncomputable def spileref22_SameLot.tb : Table := tab [(20, spileref22_SameSharesP.e)] [] Table.nil
theorem spileref22_SameLot.tbok : TabOK Try.prog (spileref22_SameLot.tb) := TabOK.tab (TabOK.nil Try.prog) (all_cons spileref22_SameSharesP.ok (all_nil _)) (all_nil _)
noncomputable def spileref22_SameLot (a0 : (Int × Int × Int × SV)) (a1 : (Int × Int × Int × SV)) (h : H) : Option ((Bool) × H) :=
(match a0 with
| (a0_0, a0_1, a0_2, a0_3) =>
(match a1 with
| (a1_0, a1_1, a1_2, a1_3) =>
(let h1 : H := H.new h [.int .i64 a0_0, .int .i64 a0_1, .int .i64 a0_2, .slice a0_3.a a0_3.len a0_3.cap a0_3.tail] 4
(let h2 : H := H.new h1 [.int .i64 a1_0, .int .i64 a1_1, .int .i64 a1_2, .slice a1_3.a a1_3.len a1_3.cap a1_3.tail] 4
((((rdT (.leaf (.int .i64)) h2 (.hp h.next 4 0)).bind fun x3 =>
((rdT (.leaf (.int .i64)) h2 (.hp h1.next 4 0)).bind fun x4 =>
(bif (decide (x3 = x4)) then ((rdT (.agg [.int .i64, .int .i64]) h2 (.hp h.next 4 1)).bind fun (x5_0, x5_1) =>
((rdT (.agg [.int .i64, .int .i64]) h2 (.hp h1.next 4 1)).bind fun (x6_0, x6_1) =>
(bif (decide (x5_0 = x6_0) && (decide (x5_1 = x6_1))) then ((rdT (.leaf .slice) h2 (.hp h.next 4 3)).bind fun x7 =>
((rdT (.leaf .slice) h2 (.hp h1.next 4 3)).bind fun x8 =>
((rdRow true h2 [.int .i64, .int .i64] x7).bind fun s10 =>
((rdRow true h2 [.int .i64, .int .i64] x8).bind fun s11 =>
((spileref22_SameSharesP s10 s11).bind fun r9 =>
(some (r9, h2))))))) else (some (false, h2))))) else (some (false, h2)))))).bind fun (y12, h13) =>
(some (y12, h13)))))))
def spileref22_SameLot.A : Ann := { lits := [], conds := [], loops := [], regs := [(1, [4], [.leaf .bool])] }
theorem spileref22_SameLot.eq : ∀ (x : TT [.agg [.int .i64, .int .i64, .int .i64, .slice], .agg [.int .i64, .int .i64, .int .i64, .slice]]) (h : H), evalFn Try.prog (spileref22_SameLot.tb) spileref22_SameLot.A Try.f28 (.one (.leaf .bool)) (TT.un [.agg [.int .i64, .int .i64, .int .i64, .slice], .agg [.int .i64, .int .i64, .int .i64, .slice]] x) h = spileref22_SameLot x.1 x.2 h := by
  intro x h
  kernel_rfl
noncomputable def spileref22_SameLot.e : Entry := mkX [.agg [.int .i64, .int .i64, .int .i64, .slice], .agg [.int .i64, .int .i64, .int .i64, .slice]] (.one (.leaf .bool)) fun x h => spileref22_SameLot x.1 x.2 h
theorem spileref22_SameLot.ok : EntryOK Try.prog 28 (spileref22_SameLot.e) := mkX_ok (spileref22_SameLot.tbok) Try.mixed Try.func28 (by kernel_rfl) (spileref22_SameLot.eq)
noncomputable def spileref22_SameLotP (a0 : (Int × Int × Int × (List (Int × Int)))) (a1 : (Int × Int × Int × (List (Int × Int)))) : Option (Bool) := (spileref22_SameLot (a0.1, a0.2.1, a0.2.2.1, rowSV false [.int .i64, .int .i64] a0.2.2.2) (a1.1, a1.2.1, a1.2.2.1, rowSV false [.int .i64, .int .i64] a1.2.2.2) H.empty).bind fun p => rdRes false p.2 (.one (.leaf .bool)) (Res.un (.one (.leaf .bool)) p.1)
theorem spileref22_SameLotP.eq : ∀ x : TT [.agg [.int .i64, .int .i64, .int .i64, .row [.int .i64, .int .i64]], .agg [.int .i64, .int .i64, .int .i64, .row [.int .i64, .int .i64]]], ((evalFn Try.prog (spileref22_SameLot.tb) spileref22_SameLot.A Try.f28 (.one (.leaf .bool)) (TT.lo false [.agg [.int .i64, .int .i64, .int .i64, .row [.int .i64, .int .i64]], .agg [.int .i64, .int .i64, .int .i64, .row [.int .i64, .int .i64]]] x) H.empty).bind fun p => rdRes false p.2 (.one (.leaf .bool)) (Res.un (.one (.leaf .bool)) p.1)) = spileref22_SameLotP x.1 x.2 := by
  intro x
  rw [show TT.lo false [.agg [.int .i64, .int .i64, .int .i64, .row [.int .i64, .int .i64]], .agg [.int .i64, .int .i64, .int .i64, .row [.int .i64, .int .i64]]] x = TT.un [.agg [.int .i64, .int .i64, .int .i64, .slice], .agg [.int .i64, .int .i64, .int .i64, .slice]] ((x.1.1, x.1.2.1, x.1.2.2.1, rowSV false [.int .i64, .int .i64] x.1.2.2.2), (x.2.1, x.2.2.1, x.2.2.2.1, rowSV false [.int .i64, .int .i64] x.2.2.2.2)) from rfl, spileref22_SameLot.eq]
  rfl
noncomputable def spileref22_SameLotP.e : Entry := mkP [.agg [.int .i64, .int .i64, .int .i64, .row [.int .i64, .int .i64]], .agg [.int .i64, .int .i64, .int .i64, .row [.int .i64, .int .i64]]] (.one (.leaf .bool)) fun x => spileref22_SameLotP x.1 x.2
theorem spileref22_SameLotP.ok : EntryOK Try.prog 28 (spileref22_SameLotP.e) := mkP_ok (spileref22_SameLot.tbok) Try.mixed Try.func28 (by kernel_rfl) spileref22_SameLotP.eq

/-! ### spile/lot.right: function 51 -/
noncomputable def lot_right.tb : Table := tab [(35, lot_CheckP.e)] [] Table.nil
theorem lot_right.tbok : TabOK Try.prog (lot_right.tb) := TabOK.tab (TabOK.nil Try.prog) (all_cons lot_CheckP.ok (all_nil _)) (all_nil _)
noncomputable def lot_right (a0 : SV) (h : H) : Option ((Bool) × H) :=
((rdRow true h [.int .i64, .int .i64, .int .i64, .row [.int .i64, .int .i64]] a0).bind fun s3 =>
((lot_CheckP s3).bind fun (r1, r2) =>
(some ((decide (r2 = 0)), h))))
def lot_right.A : Ann := { lits := [], conds := [], loops := [], regs := [] }
theorem lot_right.eq : ∀ (x : TT [.leaf .slice]) (h : H), evalFn Try.prog (lot_right.tb) lot_right.A Try.f51 (.one (.leaf .bool)) (TT.un [.leaf .slice] x) h = lot_right x h := by
  intro x h
  kernel_rfl
noncomputable def lot_right.e : Entry := mkX [.leaf .slice] (.one (.leaf .bool)) fun x h => lot_right x h
theorem lot_right.ok : EntryOK Try.prog 51 (lot_right.e) := mkX_ok (lot_right.tbok) Try.mixed Try.func51 (by kernel_rfl) (lot_right.eq)
noncomputable def lot_rightP (a0 : (List (Int × Int × Int × (List (Int × Int))))) : Option (Bool) := (lot_right (rowSV false [.int .i64, .int .i64, .int .i64, .row [.int .i64, .int .i64]] a0) H.empty).bind fun p => rdRes false p.2 (.one (.leaf .bool)) (Res.un (.one (.leaf .bool)) p.1)
theorem lot_rightP.eq : ∀ x : TT [.leaf (.row [.int .i64, .int .i64, .int .i64, .row [.int .i64, .int .i64]])], ((evalFn Try.prog (lot_right.tb) lot_right.A Try.f51 (.one (.leaf .bool)) (TT.lo false [.leaf (.row [.int .i64, .int .i64, .int .i64, .row [.int .i64, .int .i64]])] x) H.empty).bind fun p => rdRes false p.2 (.one (.leaf .bool)) (Res.un (.one (.leaf .bool)) p.1)) = lot_rightP x := by
  intro x
  rw [show TT.lo false [.leaf (.row [.int .i64, .int .i64, .int .i64, .row [.int .i64, .int .i64]])] x = TT.un [.leaf .slice] ((rowSV false [.int .i64, .int .i64, .int .i64, .row [.int .i64, .int .i64]] x)) from rfl, lot_right.eq]
  rfl
noncomputable def lot_rightP.e : Entry := mkP [.leaf (.row [.int .i64, .int .i64, .int .i64, .row [.int .i64, .int .i64]])] (.one (.leaf .bool)) fun x => lot_rightP x
theorem lot_rightP.ok : EntryOK Try.prog 51 (lot_rightP.e) := mkP_ok (lot_right.tbok) Try.mixed Try.func51 (by kernel_rfl) lot_rightP.eq

/-! ### spile/lot.Of: function 29 -/
noncomputable def lot_Of.tb : Table := tab [(51, lot_rightP.e)] [] Table.nil
theorem lot_Of.tbok : TabOK Try.prog (lot_Of.tb) := TabOK.tab (TabOK.nil Try.prog) (all_cons lot_rightP.ok (all_nil _)) (all_nil _)
noncomputable def lot_Of.loop1 (a1 : Int) (x11 : SV) : (Int × Int) × H → Option (Stp ((Int × Int) × H) (Flow (Int) (Int × Int) × H)) := fun ((y12, y13), h14) =>
(bif (decide (y13 < ((x11.len : Nat) : Int))) then (guardO (0 ≤ y13 ∧ y13 < ((x11.len : Nat) : Int)) ((rdT (.agg [.int .i64, .int .i64]) h14 (V.add x11.a (Int.toNat y13 * 2))).bind fun (x15_0, x15_1) =>
(let h16 : H := H.new h14 [.int .i64 0, .int .i64 0] 2
((H.wrs h16 (.hp h14.next 2 0) [.int .i64 x15_0, .int .i64 x15_1]).bind fun h17 =>
((rdT (.leaf (.int .i64)) h17 (.hp h14.next 2 0)).bind fun x18 =>
((bif (decide (x18 = a1)) then ((rdT (.leaf (.int .i64)) h17 (.hp h14.next 2 1)).bind fun x19 =>
(some (.next (IntKind.wrap .i64 (y12 + x19)), h17))) else (some (.next y12, h17)) : Option (Flow (Int) (Int × Int) × H)).bind fun (fl21, h20) => match fl21 with
| .next y22 =>
(some (.more ((y22, (IntKind.wrap .i64 (y13 + 1))), h20)))
| .ret rr23 => (some (.done (.ret rr23, h20)))
| .ex0 _ => none
| .ex1 _ => none)))))) else (some (.done (.ex0 y12, h14))))
noncomputable def lot_Of.loop2 (a0 : SV) (a1 : Int) : (Int × Int) × H → Option (Stp ((Int × Int) × H) (Flow (Int) (Int × Int) × H)) := fun ((y5, y6), h7) =>
(bif (decide (y6 < ((a0.len : Nat) : Int))) then (guardO (0 ≤ y6 ∧ y6 < ((a0.len : Nat) : Int)) ((rdT (.agg [.int .i64, .int .i64, .int .i64, .slice]) h7 (V.add a0.a (Int.toNat y6 * 4))).bind fun (x8_0, x8_1, x8_2, x8_3) =>
(let h9 : H := H.new h7 [.int .i64 0, .int .i64 0, .int .i64 0, .slice .nil 0 0 false] 4
((H.wrs h9 (.hp h7.next 4 0) [.int .i64 x8_0, .int .i64 x8_1, .int .i64 x8_2, .slice x8_3.a x8_3.len x8_3.cap x8_3.tail]).bind fun h10 =>
((rdT (.leaf .slice) h10 (.hp h7.next 4 3)).bind fun x11 =>
((iter FUEL (lot_Of.loop1 a1 x11) ((y5, 0), h10)).bind fun (fl25, h24) => match fl25 with
| .next _ => none
| .ret rr26 => (some (.done (.ret rr26, h24)))
| .ex0 y27 =>
(some (.more ((y27, (IntKind.wrap .i64 (y6 + 1))), h24)))
| .ex1 _ => none)))))) else (some (.done (.ex0 y5, h7))))
noncomputable def lot_Of (a0 : SV) (a1 : Int) (h : H) : Option ((Int × Int) × H) :=
((rdRow true h [.int .i64, .int .i64, .int .i64, .row [.int .i64, .int .i64]] a0).bind fun s2 =>
((lot_rightP s2).bind fun r1 =>
(bif (!r1) then (some ((0, 1), h)) else (((bif !(decide (a1 < 1)) then (some ((decide ((1073741824 : Int) < a1)), h)) else (some (true, h)))).bind fun (y3, h4) =>
(bif y3 then (some ((0, 2), h4)) else ((iter FUEL (lot_Of.loop2 a0 a1) ((0, 0), h4)).bind fun (fl29, h28) => match fl29 with
| .next _ => none
| .ret rr30 => (some (rr30, h28))
| .ex0 y31 =>
(some ((y31, 0), h28))
| .ex1 _ => none))))))
def lot_Of.A : Ann := { lits := [], conds := [(38, [6], [.leaf (.int .i64)], none, none)], loops := [(10, [6, 31], [.leaf (.int .i64), .leaf (.int .i64)], [6], [.leaf (.int .i64)], some 3, none), (7, [6, 24], [.leaf (.int .i64), .leaf (.int .i64)], [6], [.leaf (.int .i64)], some 1, none)], regs := [(3, [15], [.leaf .bool])] }
theorem lot_Of.eq : ∀ (x : TT [.leaf .slice, .leaf (.int .i64)]) (h : H), evalFn Try.prog (lot_Of.tb) lot_Of.A Try.f29 (.many [.leaf (.int .i64), .leaf (.int .i64)]) (TT.un [.leaf .slice, .leaf (.int .i64)] x) h = lot_Of x.1 x.2 h := by
  intro x h
  kernel_rfl
noncomputable def lot_Of.e : Entry := mkX [.leaf .slice, .leaf (.int .i64)] (.many [.leaf (.int .i64), .leaf (.int .i64)]) fun x h => lot_Of x.1 x.2 h
theorem lot_Of.ok : EntryOK Try.prog 29 (lot_Of.e) := mkX_ok (lot_Of.tbok) Try.mixed Try.func29 (by kernel_rfl) (lot_Of.eq)
noncomputable def lot_OfP (a0 : (List (Int × Int × Int × (List (Int × Int))))) (a1 : Int) : Option (Int × Int) := (lot_Of (rowSV false [.int .i64, .int .i64, .int .i64, .row [.int .i64, .int .i64]] a0) a1 H.empty).bind fun p => rdRes false p.2 (.many [.leaf (.int .i64), .leaf (.int .i64)]) (Res.un (.many [.leaf (.int .i64), .leaf (.int .i64)]) p.1)
theorem lot_OfP.eq : ∀ x : TT [.leaf (.row [.int .i64, .int .i64, .int .i64, .row [.int .i64, .int .i64]]), .leaf (.int .i64)], ((evalFn Try.prog (lot_Of.tb) lot_Of.A Try.f29 (.many [.leaf (.int .i64), .leaf (.int .i64)]) (TT.lo false [.leaf (.row [.int .i64, .int .i64, .int .i64, .row [.int .i64, .int .i64]]), .leaf (.int .i64)] x) H.empty).bind fun p => rdRes false p.2 (.many [.leaf (.int .i64), .leaf (.int .i64)]) (Res.un (.many [.leaf (.int .i64), .leaf (.int .i64)]) p.1)) = lot_OfP x.1 x.2 := by
  intro x
  rw [show TT.lo false [.leaf (.row [.int .i64, .int .i64, .int .i64, .row [.int .i64, .int .i64]]), .leaf (.int .i64)] x = TT.un [.leaf .slice, .leaf (.int .i64)] ((rowSV false [.int .i64, .int .i64, .int .i64, .row [.int .i64, .int .i64]] x.1), x.2) from rfl, lot_Of.eq]
  rfl
noncomputable def lot_OfP.e : Entry := mkP [.leaf (.row [.int .i64, .int .i64, .int .i64, .row [.int .i64, .int .i64]]), .leaf (.int .i64)] (.many [.leaf (.int .i64), .leaf (.int .i64)]) fun x => lot_OfP x.1 x.2
theorem lot_OfP.ok : EntryOK Try.prog 29 (lot_OfP.e) := mkP_ok (lot_Of.tbok) Try.mixed Try.func29 (by kernel_rfl) lot_OfP.eq

/-! ### spile/lot.Total: function 30 -/
noncomputable def lot_Total.tb : Table := tab [(51, lot_rightP.e), (52, lot_plainP.e)] [] Table.nil
theorem lot_Total.tbok : TabOK Try.prog (lot_Total.tb) := TabOK.tab (TabOK.nil Try.prog) (all_cons lot_rightP.ok (all_cons lot_plainP.ok (all_nil _))) (all_nil _)
noncomputable def lot_Total.loop1 (a0 : SV) (h1 : H) : (Int) × H → Option (Stp ((Int) × H) (Flow (Unit) ((Int × Int) × Int) × H)) := fun (y8, h9) =>
(bif (decide (y8 < ((a0.len : Nat) : Int))) then (guardO (0 ≤ y8 ∧ y8 < ((a0.len : Nat) : Int)) ((rdT (.agg [.int .i64, .int .i64, .int .i64, .slice]) h9 (V.add a0.a (Int.toNat y8 * 4))).bind fun (x10_0, x10_1, x10_2, x10_3) =>
(let h11 : H := H.new h9 [.int .i64 0, .int .i64 0, .int .i64 0, .slice .nil 0 0 false] 4
((H.wrs h11 (.hp h9.next 4 0) [.int .i64 x10_0, .int .i64 x10_1, .int .i64 x10_2, .slice x10_3.a x10_3.len x10_3.cap x10_3.tail]).bind fun h12 =>
(let h13 : H := H.reserve h12 0
((rdT (.leaf (.int .i64)) h13 (.hp h1.next 2 0)).bind fun x14 =>
((rdT (.leaf (.int .i64)) h13 (.hp h9.next 4 1)).bind fun x15 =>
((rdT (.leaf (.int .i64)) h13 (.hp h1.next 2 1)).bind fun x16 =>
((rdT (.leaf (.int .i64)) h13 (.hp h9.next 4 2)).bind fun x17 =>
((H.wrs h13 (.hp h1.next 2 0) [.int .i64 (IntKind.wrap .i64 (x14 + x15))]).bind fun h18 =>
((H.wrs h18 (.hp h1.next 2 1) [.int .i64 (IntKind.wrap .i64 (x16 + x17))]).bind fun h19 =>
(guardO (apartA (.hp h9.next 4 2 : V) (.hp h1.next 2 0 : V) = true) (some (.more ((IntKind.wrap .i64 (y8 + 1)), h19))))))))))))))) else (some (.done (.ex0 (), h9))))
noncomputable def lot_Total (a0 : SV) (h : H) : Option (((Int × Int) × Int) × H) :=
(let h1 : H := H.new h [.int .i64 0, .int .i64 0] 2
((rdRow true h1 [.int .i64, .int .i64, .int .i64, .row [.int .i64, .int .i64]] a0).bind fun s3 =>
((lot_rightP s3).bind fun r2 =>
(bif (!r2) then ((H.wrs h1 (.hp h.next 2 0) [.int .i64 0, .int .i64 0]).bind fun h4 =>
((rdT (.agg [.int .i64, .int .i64]) h4 (.hp h.next 2 0 : V)).bind fun (x5_0, x5_1) =>
(some (((x5_0, x5_1), 1), h4)))) else (let h6 : H := H.new h1 [.int .i64 0, .int .i64 0] 2
((H.wrs h6 (.hp h1.next 2 0) [.int .i64 0, .int .i64 0]).bind fun h7 =>
((iter FUEL (lot_Total.loop1 a0 h1) (0, h7)).bind fun (fl21, h20) => match fl21 with
| .next _ => none
| .ret rr22 => (some (rr22, h20))
| .ex0 _ =>
((rdT (.agg [.int .i64, .int .i64]) h20 (.hp h1.next 2 0)).bind fun (x23_0, x23_1) =>
((lot_plainP (x23_0, x23_1)).bind fun r24 =>
(bif (!r24) then ((H.wrs h20 (.hp h.next 2 0) [.int .i64 0, .int .i64 0]).bind fun h25 =>
((rdT (.agg [.int .i64, .int .i64]) h25 (.hp h.next 2 0 : V)).bind fun (x26_0, x26_1) =>
(some (((x26_0, x26_1), 15), h25)))) else ((rdT (.agg [.int .i64, .int .i64]) h20 (.hp h1.next 2 0)).bind fun (x27_0, x27_1) =>
((H.wrs h20 (.hp h.next 2 0) [.int .i64 x27_0, .int .i64 x27_1]).bind fun h28 =>
((rdT (.agg [.int .i64, .int .i64]) h28 (.hp h.next 2 0 : V)).bind fun (x29_0, x29_1) =>
(some (((x29_0, x29_1), 0), h28))))))))
| .ex1 _ => none)))))))
def lot_Total.A : Ann := { lits := [], conds := [], loops := [(5, [14], [.leaf (.int .i64)], [], [], some 0, none)], regs := [] }
theorem lot_Total.eq : ∀ (x : TT [.leaf .slice]) (h : H), evalFn Try.prog (lot_Total.tb) lot_Total.A Try.f30 (.many [.agg [.int .i64, .int .i64], .leaf (.int .i64)]) (TT.un [.leaf .slice] x) h = lot_Total x h := by
  intro x h
  kernel_rfl
noncomputable def lot_Total.e : Entry := mkX [.leaf .slice] (.many [.agg [.int .i64, .int .i64], .leaf (.int .i64)]) fun x h => lot_Total x h
theorem lot_Total.ok : EntryOK Try.prog 30 (lot_Total.e) := mkX_ok (lot_Total.tbok) Try.mixed Try.func30 (by kernel_rfl) (lot_Total.eq)
noncomputable def lot_TotalP (a0 : (List (Int × Int × Int × (List (Int × Int))))) : Option ((Int × Int) × Int) := (lot_Total (rowSV false [.int .i64, .int .i64, .int .i64, .row [.int .i64, .int .i64]] a0) H.empty).bind fun p => rdRes false p.2 (.many [.agg [.int .i64, .int .i64], .leaf (.int .i64)]) (Res.un (.many [.agg [.int .i64, .int .i64], .leaf (.int .i64)]) p.1)
theorem lot_TotalP.eq : ∀ x : TT [.leaf (.row [.int .i64, .int .i64, .int .i64, .row [.int .i64, .int .i64]])], ((evalFn Try.prog (lot_Total.tb) lot_Total.A Try.f30 (.many [.agg [.int .i64, .int .i64], .leaf (.int .i64)]) (TT.lo false [.leaf (.row [.int .i64, .int .i64, .int .i64, .row [.int .i64, .int .i64]])] x) H.empty).bind fun p => rdRes false p.2 (.many [.agg [.int .i64, .int .i64], .leaf (.int .i64)]) (Res.un (.many [.agg [.int .i64, .int .i64], .leaf (.int .i64)]) p.1)) = lot_TotalP x := by
  intro x
  rw [show TT.lo false [.leaf (.row [.int .i64, .int .i64, .int .i64, .row [.int .i64, .int .i64]])] x = TT.un [.leaf .slice] ((rowSV false [.int .i64, .int .i64, .int .i64, .row [.int .i64, .int .i64]] x)) from rfl, lot_Total.eq]
  rfl
noncomputable def lot_TotalP.e : Entry := mkP [.leaf (.row [.int .i64, .int .i64, .int .i64, .row [.int .i64, .int .i64]])] (.many [.agg [.int .i64, .int .i64], .leaf (.int .i64)]) fun x => lot_TotalP x
theorem lot_TotalP.ok : EntryOK Try.prog 30 (lot_TotalP.e) := mkP_ok (lot_Total.tbok) Try.mixed Try.func30 (by kernel_rfl) lot_TotalP.eq

/-! ### spile/spilelaw23.ShareVats: function 7 -/
noncomputable def spilelaw23_ShareVats.tb : Table := tab [(10, spilelaw23_awakeP.e), (24, spileref22_FewP.e), (25, share_VatP.e), (26, spileref22_CopyAll.e), (27, slices_Reverse_api_Lot_api_Lot.e), (28, spileref22_SameLotP.e), (29, lot_OfP.e), (30, lot_TotalP.e)] [] Table.nil
theorem spilelaw23_ShareVats.tbok : TabOK Try.prog (spilelaw23_ShareVats.tb) := TabOK.tab (TabOK.nil Try.prog) (all_cons spilelaw23_awakeP.ok (all_cons spileref22_FewP.ok (all_cons share_VatP.ok (all_cons spileref22_CopyAll.ok (all_cons slices_Reverse_api_Lot_api_Lot.ok (all_cons spileref22_SameLotP.ok (all_cons lot_OfP.ok (all_cons lot_TotalP.ok (all_nil _))))))))) (all_nil _)
noncomputable def spilelaw23_ShareVats.loop1 (r15 : SV) : (Int) × H → Option (Stp ((Int) × H) (Flow (Unit) (Bool) × H)) := fun (y18, h19) =>
(bif (decide (y18 < ((r15.len : Nat) : Int))) then (guardO (0 ≤ y18 ∧ y18 < ((r15.len : Nat) : Int)) (guardO (V.nn ((V.add r15.a (Int.toNat y18 * 4)) : V) = true) ((H.wrs h19 (V.add (V.add r15.a (Int.toNat y18 * 4)) 0) [.int .i64 (IntKind.wrap .i64 (y18 + 1))]).bind fun h20 =>
(some (.more ((IntKind.wrap .i64 (y18 + 1)), h20)))))) else (some (.done (.ex0 (), h19))))
noncomputable def spilelaw23_ShareVats.loop2 (x39_0 : Int) (x39_1 : Int) (x39_2 : Int) (x39_3 : SV) (x40_0 : Int) (x40_1 : Int) (x40_2 : Int) (x40_3 : SV) : (SV × Int) × H → Option (Stp ((SV × Int) × H) (Flow (SV) (Bool) × H)) := fun ((y41, y42), h43) =>
(bif (decide (y42 < 2)) then (guardO (0 ≤ y42 ∧ y42 < ((2 : Nat) : Int)) ((rdT (.agg [.int .i64, .int .i64, .int .i64, .slice]) h43 (.lp true ([.int .i64 x39_0, .int .i64 x39_1, .int .i64 x39_2, .slice x39_3.a x39_3.len x39_3.cap x39_3.tail, .int .i64 x40_0, .int .i64 x40_1, .int .i64 x40_2, .slice x40_3.a x40_3.len x40_3.cap x40_3.tail]) (0 + (Int.toNat y42 * 4)))).bind fun (x44_0, x44_1, x44_2, x44_3) =>
(let h45 : H := H.new h43 [.int .i64 0, .int .i64 0, .int .i64 0, .slice .nil 0 0 false] 4
((H.wrs h45 (.hp h43.next 4 0) [.int .i64 x44_0, .int .i64 x44_1, .int .i64 x44_2, .slice x44_3.a x44_3.len x44_3.cap x44_3.tail]).bind fun h46 =>
((rdT (.leaf (.int .i64)) h46 (.hp h43.next 4 2)).bind fun x47 =>
((bif (decide ((0 : Int) < x47)) then ((rdT (.agg [.int .i64, .int .i64, .int .i64, .slice]) h46 (.hp h43.next 4 0)).bind fun (x48_0, x48_1, x48_2, x48_3) =>
((appendS h46 none 4 48 y41 [.int .i64 x48_0, .int .i64 x48_1, .int .i64 x48_2, .slice x48_3.a x48_3.len x48_3.cap x48_3.tail] 1).bind fun (s51, h50) =>
(some (.next s51, h50)))) else (some (.next y41, h46)) : Option (Flow (SV) (Bool) × H)).bind fun (fl54, h53) => match fl54 with
| .next y55 =>
(some (.more ((y55, (IntKind.wrap .i64 (y42 + 1))), h53)))
| .ret rr56 => (some (.done (.ret rr56, h53)))
| .ex0 _ => none
| .ex1 _ => none)))))) else (some (.done (.ex0 y41, h43))))
noncomputable def spilelaw23_ShareVats.loop3 (a0 : SV) (x78 : SV) : (Int) × H → Option (Stp ((Int) × H) (Flow (Unit) (Bool) × H)) := fun (y79, h80) =>
(bif (decide (y79 < ((x78.len : Nat) : Int))) then (guardO (0 ≤ y79 ∧ y79 < ((x78.len : Nat) : Int)) ((rdT (.agg [.int .i64, .int .i64]) h80 (V.add x78.a (Int.toNat y79 * 2))).bind fun (x81_0, x81_1) =>
(let h82 : H := H.new h80 [.int .i64 0, .int .i64 0] 2
((H.wrs h82 (.hp h80.next 2 0) [.int .i64 x81_0, .int .i64 x81_1]).bind fun h83 =>
((rdT (.leaf (.int .i64)) h83 (.hp h80.next 2 0)).bind fun x84 =>
((rdRow true h83 [.int .i64, .int .i64, .int .i64, .row [.int .i64, .int .i64]] a0).bind fun s87 =>
((lot_OfP s87 x84).bind fun (r85, r86) =>
(((bif !(!(decide (r86 = 0))) then ((rdT (.leaf (.int .i64)) h83 (.hp h80.next 2 1)).bind fun x88 =>
(some ((!(decide (r85 = x88))), h83))) else (some (true, h83)))).bind fun (y89, h90) =>
(bif y89 then (some (.done (.ret false, h90))) else (some (.more ((IntKind.wrap .i64 (y79 + 1)), h90)))))))))))) else (some (.done (.ex0 (), h80))))
noncomputable def spilelaw23_ShareVats (a0 : SV) (a1 : Int) (h : H) : Option ((Bool) × H) :=
((spilelaw23_awakeP ).bind fun r1 =>
(bif (!r1) then (some (false, h)) else (((bif !(decide ((8 : Int) < ((a0.len : Nat) : Int))) then ((rdRow true h [.int .i64, .int .i64, .int .i64, .row [.int .i64, .int .i64]] a0).bind fun s3 =>
((spileref22_FewP s3).bind fun r2 =>
(some ((!r2), h)))) else (some (true, h)))).bind fun (y4, h5) =>
(bif y4 then (some (true, h5)) else ((rdRow true h5 [.int .i64, .int .i64, .int .i64, .row [.int .i64, .int .i64]] a0).bind fun s8 =>
((share_VatP s8 1).bind fun ((r6_0, r6_1, r6_2, r6_3), r7) =>
(let h9 : H := H.new h5 [.int .i64 0, .int .i64 0, .int .i64 0, .slice .nil 0 0 false] 4
((H.wrs h9 (.hp h5.next 4 0) [.int .i64 r6_0, .int .i64 r6_1, .int .i64 r6_2, .slice ((rowSV true [.int .i64, .int .i64] r6_3).a) r6_3.length r6_3.length true]).bind fun h10 =>
(bif (!(decide (r7 = 0))) then ((((rdT (.leaf .slice) h10 (.hp h5.next 4 3)).bind fun x11 =>
(bif (decide (((x11.len : Nat) : Int) = 0)) then ((rdT (.leaf (.int .i64)) h10 (.hp h5.next 4 0)).bind fun x12 =>
(some ((decide (x12 = 0)), h10))) else (some (false, h10))))).bind fun (y13, h14) =>
(some (y13, h14))) else ((spileref22_CopyAll a0 h10).bind fun (r15, h16) =>
((slices_Reverse_api_Lot_api_Lot r15 h16).bind fun (_, h17) =>
((iter FUEL (spilelaw23_ShareVats.loop1 r15) (0, h17)).bind fun (fl22, h21) => match fl22 with
| .next _ => none
| .ret rr23 => (some (rr23, h21))
| .ex0 _ =>
((rdRow true h21 [.int .i64, .int .i64, .int .i64, .row [.int .i64, .int .i64]] r15).bind fun s26 =>
((share_VatP s26 1).bind fun ((r24_0, r24_1, r24_2, r24_3), r25) =>
(let h27 : H := H.new h21 [.int .i64 0, .int .i64 0, .int .i64 0, .slice .nil 0 0 false] 4
((H.wrs h27 (.hp h21.next 4 0) [.int .i64 r24_0, .int .i64 r24_1, .int .i64 r24_2, .slice ((rowSV true [.int .i64, .int .i64] r24_3).a) r24_3.length r24_3.length true]).bind fun h28 =>
(guardO ((IntKind.wrap .i64 (((a0.len : Nat) : Int) + 1)) ≠ 0) (guardO ((0 : Int) ≤ 0 ∧ (0 : Int) ≤ (Int.tmod (IntKind.wrap .i64 (a1)) (IntKind.wrap .i64 (((a0.len : Nat) : Int) + 1))) ∧ (Int.tmod (IntKind.wrap .i64 (a1)) (IntKind.wrap .i64 (((a0.len : Nat) : Int) + 1))) ≤ ((a0.cap : Nat) : Int)) ((rdRow true h28 [.int .i64, .int .i64, .int .i64, .row [.int .i64, .int .i64]] ⟨(V.add a0.a 0), ((Int.toNat (Int.tmod (IntKind.wrap .i64 (a1)) (IntKind.wrap .i64 (((a0.len : Nat) : Int) + 1)))) - Int.toNat 0), (a0.cap - Int.toNat 0), a0.tail⟩).bind fun s31 =>
((share_VatP s31 1).bind fun ((r29_0, r29_1, r29_2, r29_3), r30) =>
(let h32 : H := H.new h28 [.int .i64 0, .int .i64 0, .int .i64 0, .slice .nil 0 0 false] 4
((H.wrs h32 (.hp h28.next 4 0) [.int .i64 r29_0, .int .i64 r29_1, .int .i64 r29_2, .slice ((rowSV true [.int .i64, .int .i64] r29_3).a) r29_3.length r29_3.length true]).bind fun h33 =>
(guardO ((0 : Int) ≤ (Int.tmod (IntKind.wrap .i64 (a1)) (IntKind.wrap .i64 (((a0.len : Nat) : Int) + 1))) ∧ (Int.tmod (IntKind.wrap .i64 (a1)) (IntKind.wrap .i64 (((a0.len : Nat) : Int) + 1))) ≤ ((a0.len : Nat) : Int) ∧ ((a0.len : Nat) : Int) ≤ ((a0.cap : Nat) : Int)) ((rdRow true h33 [.int .i64, .int .i64, .int .i64, .row [.int .i64, .int .i64]] ⟨(V.add a0.a ((Int.toNat (Int.tmod (IntKind.wrap .i64 (a1)) (IntKind.wrap .i64 (((a0.len : Nat) : Int) + 1)))) * 4)), ((Int.toNat ((a0.len : Nat) : Int)) - (Int.toNat (Int.tmod (IntKind.wrap .i64 (a1)) (IntKind.wrap .i64 (((a0.len : Nat) : Int) + 1))))), (a0.cap - (Int.toNat (Int.tmod (IntKind.wrap .i64 (a1)) (IntKind.wrap .i64 (((a0.len : Nat) : Int) + 1))))), a0.tail⟩).bind fun s36 =>
((share_VatP s36 2).bind fun ((r34_0, r34_1, r34_2, r34_3), r35) =>
(let h37 : H := H.new h33 [.int .i64 0, .int .i64 0, .int .i64 0, .slice .nil 0 0 false] 4
((H.wrs h37 (.hp h33.next 4 0) [.int .i64 r34_0, .int .i64 r34_1, .int .i64 r34_2, .slice ((rowSV true [.int .i64, .int .i64] r34_3).a) r34_3.length r34_3.length true]).bind fun h38 =>
((rdT (.agg [.int .i64, .int .i64, .int .i64, .slice]) h38 (.hp h28.next 4 0)).bind fun (x39_0, x39_1, x39_2, x39_3) =>
((rdT (.agg [.int .i64, .int .i64, .int .i64, .slice]) h38 (.hp h33.next 4 0)).bind fun (x40_0, x40_1, x40_2, x40_3) =>
((iter FUEL (spilelaw23_ShareVats.loop2 x39_0 x39_1 x39_2 x39_3 x40_0 x40_1 x40_2 x40_3) ((⟨.nil, 0, 0, false⟩, 0), h38)).bind fun (fl58, h57) => match fl58 with
| .next _ => none
| .ret rr59 => (some (rr59, h57))
| .ex0 y60 =>
((rdRow true h57 [.int .i64, .int .i64, .int .i64, .row [.int .i64, .int .i64]] y60).bind fun s63 =>
((share_VatP s63 1).bind fun ((r61_0, r61_1, r61_2, r61_3), r62) =>
(let h64 : H := H.new h57 [.int .i64 0, .int .i64 0, .int .i64 0, .slice .nil 0 0 false] 4
((H.wrs h64 (.hp h57.next 4 0) [.int .i64 r61_0, .int .i64 r61_1, .int .i64 r61_2, .slice ((rowSV true [.int .i64, .int .i64] r61_3).a) r61_3.length r61_3.length true]).bind fun h65 =>
(((bif !(!(decide (r25 = 0))) then (bif !(!(decide (r30 = 0))) then (bif !(!(decide (r35 = 0))) then (bif !(!(decide (r62 = 0))) then ((rdT (.agg [.int .i64, .int .i64, .int .i64, .slice]) h65 (.hp h5.next 4 0)).bind fun (x66_0, x66_1, x66_2, x66_3) =>
((rdT (.agg [.int .i64, .int .i64, .int .i64, .slice]) h65 (.hp h21.next 4 0)).bind fun (x67_0, x67_1, x67_2, x67_3) =>
((rdRow true h65 [.int .i64, .int .i64] x66_3).bind fun s69 =>
((rdRow true h65 [.int .i64, .int .i64] x67_3).bind fun s70 =>
((spileref22_SameLotP (x66_0, x66_1, x66_2, s69) (x67_0, x67_1, x67_2, s70)).bind fun r68 =>
(bif !(!r68) then ((rdT (.agg [.int .i64, .int .i64, .int .i64, .slice]) h65 (.hp h5.next 4 0)).bind fun (x71_0, x71_1, x71_2, x71_3) =>
((rdT (.agg [.int .i64, .int .i64, .int .i64, .slice]) h65 (.hp h57.next 4 0)).bind fun (x72_0, x72_1, x72_2, x72_3) =>
((rdRow true h65 [.int .i64, .int .i64] x71_3).bind fun s74 =>
((rdRow true h65 [.int .i64, .int .i64] x72_3).bind fun s75 =>
((spileref22_SameLotP (x71_0, x71_1, x71_2, s74) (x72_0, x72_1, x72_2, s75)).bind fun r73 =>
(some ((!r73), h65))))))) else (some (true, h65)))))))) else (some (true, h65))) else (some (true, h65))) else (some (true, h65))) else (some (true, h65)))).bind fun (y76, h77) =>
(bif y76 then (some (false, h77)) else ((rdT (.leaf .slice) h77 (.hp h5.next 4 3)).bind fun x78 =>
((iter FUEL (spilelaw23_ShareVats.loop3 a0 x78) (0, h77)).bind fun (fl92, h91) => match fl92 with
| .next _ => none
| .ret rr93 => (some (rr93, h91))
| .ex0 _ =>
((rdRow true h91 [.int .i64, .int .i64, .int .i64, .row [.int .i64, .int .i64]] a0).bind fun s96 =>
((lot_TotalP s96).bind fun ((r94_0, r94_1), r95) =>
(let h97 : H := H.new h91 [.int .i64 0, .int .i64 0] 2
((H.wrs h97 (.hp h91.next 2 0) [.int .i64 r94_0, .int .i64 r94_1]).bind fun h98 =>
(((bif (decide (r95 = 0)) then ((rdT (.agg [.int .i64, .int .i64]) h98 (.hp h91.next 2 0)).bind fun (x99_0, x99_1) =>
((rdT (.agg [.int .i64, .int .i64]) h98 (.hp h5.next 4 1)).bind fun (x100_0, x100_1) =>
(some ((decide (x99_0 = x100_0) && (decide (x99_1 = x100_1))), h98)))) else (some (false, h98)))).bind fun (y101, h102) =>
(some (y101, h102)))))))
| .ex1 _ => none))))))))
| .ex1 _ => none))))))))))))))))))
| .ex1 _ => none))))))))))))
def spilelaw23_ShareVats.A : Ann := { lits := [], conds := [(105, [16], [.leaf .slice], none, none)], loops := [(11, [59], [.leaf (.int .i64)], [], [], some 0, none), (21, [16, 98], [.leaf .slice, .leaf (.int .i64)], [16], [.leaf .slice], some 2, none), (30, [145], [.leaf (.int .i64)], [], [], some 4, none)], regs := [(3, [36], [.leaf .bool]), (7, [4], [.leaf .bool]), (27, [141], [.leaf .bool]), (33, [163], [.leaf .bool]), (37, [4], [.leaf .bool])] }
theorem spilelaw23_ShareVats.eq : ∀ (x : TT [.leaf .slice, .leaf (.int .u8)]) (h : H), evalFn Try.prog (spilelaw23_ShareVats.tb) spilelaw23_ShareVats.A Try.f7 (.one (.leaf .bool)) (TT.un [.leaf .slice, .leaf (.int .u8)] x) h = spilelaw23_ShareVats x.1 x.2 h := by
  intro x h
  kernel_rfl
noncomputable def spilelaw23_ShareVats.e : Entry := mkX [.leaf .slice, .leaf (.int .u8)] (.one (.leaf .bool)) fun x h => spilelaw23_ShareVats x.1 x.2 h
theorem spilelaw23_ShareVats.ok : EntryOK Try.prog 7 (spilelaw23_ShareVats.e) := mkX_ok (spilelaw23_ShareVats.tbok) Try.mixed Try.func7 (by kernel_rfl) (spilelaw23_ShareVats.eq)
noncomputable def spilelaw23_ShareVatsP (a0 : (List (Int × Int × Int × (List (Int × Int))))) (a1 : Int) : Option (Bool) := (spilelaw23_ShareVats (rowSV false [.int .i64, .int .i64, .int .i64, .row [.int .i64, .int .i64]] a0) a1 H.empty).bind fun p => rdRes false p.2 (.one (.leaf .bool)) (Res.un (.one (.leaf .bool)) p.1)
theorem spilelaw23_ShareVatsP.eq : ∀ x : TT [.leaf (.row [.int .i64, .int .i64, .int .i64, .row [.int .i64, .int .i64]]), .leaf (.int .u8)], ((evalFn Try.prog (spilelaw23_ShareVats.tb) spilelaw23_ShareVats.A Try.f7 (.one (.leaf .bool)) (TT.lo false [.leaf (.row [.int .i64, .int .i64, .int .i64, .row [.int .i64, .int .i64]]), .leaf (.int .u8)] x) H.empty).bind fun p => rdRes false p.2 (.one (.leaf .bool)) (Res.un (.one (.leaf .bool)) p.1)) = spilelaw23_ShareVatsP x.1 x.2 := by
  intro x
  rw [show TT.lo false [.leaf (.row [.int .i64, .int .i64, .int .i64, .row [.int .i64, .int .i64]]), .leaf (.int .u8)] x = TT.un [.leaf .slice, .leaf (.int .u8)] ((rowSV false [.int .i64, .int .i64, .int .i64, .row [.int .i64, .int .i64]] x.1), x.2) from rfl, spilelaw23_ShareVats.eq]
  rfl
noncomputable def spilelaw23_ShareVatsP.e : Entry := mkP [.leaf (.row [.int .i64, .int .i64, .int .i64, .row [.int .i64, .int .i64]]), .leaf (.int .u8)] (.one (.leaf .bool)) fun x => spilelaw23_ShareVatsP x.1 x.2
theorem spilelaw23_ShareVatsP.ok : EntryOK Try.prog 7 (spilelaw23_ShareVatsP.e) := mkP_ok (spilelaw23_ShareVats.tbok) Try.mixed Try.func7 (by kernel_rfl) spilelaw23_ShareVatsP.eq

/-! ### spile/proportion.Of: function 59 -/
noncomputable def proportion_Of.tb : Table := tab [(65, proportion_dividedP.e), (78, proportion_amountsP.e)] [] Table.nil
theorem proportion_Of.tbok : TabOK Try.prog (proportion_Of.tb) := TabOK.tab (TabOK.nil Try.prog) (all_cons proportion_dividedP.ok (all_cons proportion_amountsP.ok (all_nil _))) (all_nil _)
noncomputable def proportion_Of (a0 : Int) (a1 : Int) (a2 : Int) (h : H) : Option ((Int × Int × Int) × H) :=
((rdRow true h [.int .i64] ⟨.lp true ([.int .i64 a0, .int .i64 a1, .int .i64 a2]) 0, 3, 3, false⟩).bind fun s2 =>
((proportion_amountsP s2).bind fun r1 =>
(bif (!r1) then (some ((0, 0, 2), h)) else (bif (decide (a2 = 0)) then (some ((0, 0, 16), h)) else ((proportion_dividedP a0 a1 a2).bind fun (r3, r4, r5) =>
(bif (!r5) then (some ((0, 0, 15), h)) else (some ((r3, r4, 0), h))))))))
def proportion_Of.A : Ann := { lits := [], conds := [], loops := [], regs := [] }
theorem proportion_Of.eq : ∀ (x : TT [.leaf (.int .i64), .leaf (.int .i64), .leaf (.int .i64)]) (h : H), evalFn Try.prog (proportion_Of.tb) proportion_Of.A Try.f59 (.many [.leaf (.int .i64), .leaf (.int .i64), .leaf (.int .i64)]) (TT.un [.leaf (.int .i64), .leaf (.int .i64), .leaf (.int .i64)] x) h = proportion_Of x.1 x.2.1 x.2.2 h := by
  intro x h
  kernel_rfl
noncomputable def proportion_Of.e : Entry := mkX [.leaf (.int .i64), .leaf (.int .i64), .leaf (.int .i64)] (.many [.leaf (.int .i64), .leaf (.int .i64), .leaf (.int .i64)]) fun x h => proportion_Of x.1 x.2.1 x.2.2 h
theorem proportion_Of.ok : EntryOK Try.prog 59 (proportion_Of.e) := mkX_ok (proportion_Of.tbok) Try.mixed Try.func59 (by kernel_rfl) (proportion_Of.eq)
noncomputable def proportion_OfP (a0 : Int) (a1 : Int) (a2 : Int) : Option (Int × Int × Int) := (proportion_Of a0 a1 a2 H.empty).bind fun p => rdRes false p.2 (.many [.leaf (.int .i64), .leaf (.int .i64), .leaf (.int .i64)]) (Res.un (.many [.leaf (.int .i64), .leaf (.int .i64), .leaf (.int .i64)]) p.1)
theorem proportion_OfP.eq : ∀ x : TT [.leaf (.int .i64), .leaf (.int .i64), .leaf (.int .i64)], ((evalFn Try.prog (proportion_Of.tb) proportion_Of.A Try.f59 (.many [.leaf (.int .i64), .leaf (.int .i64), .leaf (.int .i64)]) (TT.lo false [.leaf (.int .i64), .leaf (.int .i64), .leaf (.int .i64)] x) H.empty).bind fun p => rdRes false p.2 (.many [.leaf (.int .i64), .leaf (.int .i64), .leaf (.int .i64)]) (Res.un (.many [.leaf (.int .i64), .leaf (.int .i64), .leaf (.int .i64)]) p.1)) = proportion_OfP x.1 x.2.1 x.2.2 := by
  intro x
  rw [show TT.lo false [.leaf (.int .i64), .leaf (.int .i64), .leaf (.int .i64)] x = TT.un [.leaf (.int .i64), .leaf (.int .i64), .leaf (.int .i64)] (x.1, x.2.1, x.2.2) from rfl, proportion_Of.eq]
  rfl
noncomputable def proportion_OfP.e : Entry := mkP [.leaf (.int .i64), .leaf (.int .i64), .leaf (.int .i64)] (.many [.leaf (.int .i64), .leaf (.int .i64), .leaf (.int .i64)]) fun x => proportion_OfP x.1 x.2.1 x.2.2
theorem proportion_OfP.ok : EntryOK Try.prog 59 (proportion_OfP.e) := mkP_ok (proportion_Of.tbok) Try.mixed Try.func59 (by kernel_rfl) proportion_OfP.eq

/-! ### spile/mix.Draw: function 34 -/
noncomputable def mix_Draw.tb : Table := tab [(58, mix_plainP.e), (59, proportion_OfP.e)] [] Table.nil
theorem mix_Draw.tbok : TabOK Try.prog (mix_Draw.tb) := TabOK.tab (TabOK.nil Try.prog) (all_cons mix_plainP.ok (all_cons proportion_OfP.ok (all_nil _))) (all_nil _)
noncomputable def mix_Draw (a0 : (Int × Int)) (a1 : Int) (h : H) : Option (((Int × Int) × (Int × Int) × Int) × H) :=
(match a0 with
| (a0_0, a0_1) =>
(let h1 : H := H.new h [.int .i64 a0_0, .int .i64 a0_1] 2
(let h2 : H := H.new h1 [.int .i64 0, .int .i64 0] 2
(let h3 : H := H.new h2 [.int .i64 0, .int .i64 0] 2
((rdT (.agg [.int .i64, .int .i64]) h3 (.hp h.next 2 0)).bind fun (x4_0, x4_1) =>
((mix_plainP (x4_0, x4_1)).bind fun r5 =>
(bif (!r5) then ((H.wrs h3 (.hp h1.next 2 0) [.int .i64 0, .int .i64 0]).bind fun h6 =>
((H.wrs h6 (.hp h2.next 2 0) [.int .i64 0, .int .i64 0]).bind fun h7 =>
((rdT (.agg [.int .i64, .int .i64]) h7 (.hp h1.next 2 0 : V)).bind fun (x8_0, x8_1) =>
((rdT (.agg [.int .i64, .int .i64]) h7 (.hp h2.next 2 0 : V)).bind fun (x9_0, x9_1) =>
(some (((x8_0, x8_1), (x9_0, x9_1), 1), h7)))))) else (bif (decide (a1 < 0)) then ((H.wrs h3 (.hp h1.next 2 0) [.int .i64 0, .int .i64 0]).bind fun h10 =>
((H.wrs h10 (.hp h2.next 2 0) [.int .i64 0, .int .i64 0]).bind fun h11 =>
((rdT (.agg [.int .i64, .int .i64]) h11 (.hp h1.next 2 0 : V)).bind fun (x12_0, x12_1) =>
((rdT (.agg [.int .i64, .int .i64]) h11 (.hp h2.next 2 0 : V)).bind fun (x13_0, x13_1) =>
(some (((x12_0, x12_1), (x13_0, x13_1), 2), h11)))))) else ((rdT (.leaf (.int .i64)) h3 (.hp h.next 2 1)).bind fun x14 =>
(bif (decide (x14 < a1)) then ((H.wrs h3 (.hp h1.next 2 0) [.int .i64 0, .int .i64 0]).bind fun h15 =>
((H.wrs h15 (.hp h2.next 2 0) [.int .i64 0, .int .i64 0]).bind fun h16 =>
((rdT (.agg [.int .i64, .int .i64]) h16 (.hp h1.next 2 0 : V)).bind fun (x17_0, x17_1) =>
((rdT (.agg [.int .i64, .int .i64]) h16 (.hp h2.next 2 0 : V)).bind fun (x18_0, x18_1) =>
(some (((x17_0, x17_1), (x18_0, x18_1), 17), h16)))))) else ((rdT (.leaf (.int .i64)) h3 (.hp h.next 2 1)).bind fun x19 =>
(bif (decide (x19 = 0)) then ((H.wrs h3 (.hp h1.next 2 0) [.int .i64 0, .int .i64 0]).bind fun h20 =>
((H.wrs h20 (.hp h2.next 2 0) [.int .i64 0, .int .i64 0]).bind fun h21 =>
((rdT (.agg [.int .i64, .int .i64]) h21 (.hp h1.next 2 0 : V)).bind fun (x22_0, x22_1) =>
((rdT (.agg [.int .i64, .int .i64]) h21 (.hp h2.next 2 0 : V)).bind fun (x23_0, x23_1) =>
(some (((x22_0, x22_1), (x23_0, x23_1), 0), h21)))))) else ((rdT (.leaf (.int .i64)) h3 (.hp h.next 2 0)).bind fun x24 =>
((rdT (.leaf (.int .i64)) h3 (.hp h.next 2 1)).bind fun x25 =>
((proportion_OfP x24 a1 x25).bind fun (r26, r27, r28) =>
(let h29 : H := H.reserve h3 0
((rdT (.leaf (.int .i64)) h29 (.hp h.next 2 0)).bind fun x30 =>
((rdT (.leaf (.int .i64)) h29 (.hp h.next 2 1)).bind fun x31 =>
((H.wrs h29 (.hp h1.next 2 0) [.int .i64 r26, .int .i64 a1]).bind fun h32 =>
((H.wrs h32 (.hp h2.next 2 0) [.int .i64 (IntKind.wrap .i64 (x30 - r26)), .int .i64 (IntKind.wrap .i64 (x31 - a1))]).bind fun h33 =>
(guardO (apartA (.hp h.next 2 0 : V) (.hp h1.next 2 0 : V) = true) (guardO (apartA (.hp h.next 2 1 : V) (.hp h1.next 2 0 : V) = true) ((rdT (.agg [.int .i64, .int .i64]) h33 (.hp h1.next 2 0 : V)).bind fun (x34_0, x34_1) =>
((rdT (.agg [.int .i64, .int .i64]) h33 (.hp h2.next 2 0 : V)).bind fun (x35_0, x35_1) =>
(some (((x34_0, x34_1), (x35_0, x35_1), 0), h33))))))))))))))))))))))))))
def mix_Draw.A : Ann := { lits := [], conds := [], loops := [], regs := [] }
theorem mix_Draw.eq : ∀ (x : TT [.agg [.int .i64, .int .i64], .leaf (.int .i64)]) (h : H), evalFn Try.prog (mix_Draw.tb) mix_Draw.A Try.f34 (.many [.agg [.int .i64, .int .i64], .agg [.int .i64, .int .i64], .leaf (.int .i64)]) (TT.un [.agg [.int .i64, .int .i64], .leaf (.int .i64)] x) h = mix_Draw x.1 x.2 h := by
  intro x h
  kernel_rfl
noncomputable def mix_Draw.e : Entry := mkX [.agg [.int .i64, .int .i64], .leaf (.int .i64)] (.many [.agg [.int .i64, .int .i64], .agg [.int .i64, .int .i64], .leaf (.int .i64)]) fun x h => mix_Draw x.1 x.2 h
theorem mix_Draw.ok : EntryOK Try.prog 34 (mix_Draw.e) := mkX_ok (mix_Draw.tbok) Try.mixed Try.func34 (by kernel_rfl) (mix_Draw.eq)
noncomputable def mix_DrawP (a0 : (Int × Int)) (a1 : Int) : Option ((Int × Int) × (Int × Int) × Int) := (mix_Draw a0 a1 H.empty).bind fun p => rdRes false p.2 (.many [.agg [.int .i64, .int .i64], .agg [.int .i64, .int .i64], .leaf (.int .i64)]) (Res.un (.many [.agg [.int .i64, .int .i64], .agg [.int .i64, .int .i64], .leaf (.int .i64)]) p.1)
theorem mix_DrawP.eq : ∀ x : TT [.agg [.int .i64, .int .i64], .leaf (.int .i64)], ((evalFn Try.prog (mix_Draw.tb) mix_Draw.A Try.f34 (.many [.agg [.int .i64, .int .i64], .agg [.int .i64, .int .i64], .leaf (.int .i64)]) (TT.lo false [.agg [.int .i64, .int .i64], .leaf (.int .i64)] x) H.empty).bind fun p => rdRes false p.2 (.many [.agg [.int .i64, .int .i64], .agg [.int .i64, .int .i64], .leaf (.int .i64)]) (Res.un (.many [.agg [.int .i64, .int .i64], .agg [.int .i64, .int .i64], .leaf (.int .i64)]) p.1)) = mix_DrawP x.1 x.2 := by
  intro x
  rw [show TT.lo false [.agg [.int .i64, .int .i64], .leaf (.int .i64)] x = TT.un [.agg [.int .i64, .int .i64], .leaf (.int .i64)] (x.1, x.2) from rfl, mix_Draw.eq]
  rfl
noncomputable def mix_DrawP.e : Entry := mkP [.agg [.int .i64, .int .i64], .leaf (.int .i64)] (.many [.agg [.int .i64, .int .i64], .agg [.int .i64, .int .i64], .leaf (.int .i64)]) fun x => mix_DrawP x.1 x.2
theorem mix_DrawP.ok : EntryOK Try.prog 34 (mix_DrawP.e) := mkP_ok (mix_Draw.tbok) Try.mixed Try.func34 (by kernel_rfl) mix_DrawP.eq

/-! ### spile/share.Draw: function 31 -/
noncomputable def share_Draw.tb : Table := tab [(14, share_TakeP.e), (34, mix_DrawP.e), (35, lot_CheckP.e), (48, share_idP.e)] [] Table.nil
theorem share_Draw.tbok : TabOK Try.prog (share_Draw.tb) := TabOK.tab (TabOK.nil Try.prog) (all_cons share_TakeP.ok (all_cons mix_DrawP.ok (all_cons lot_CheckP.ok (all_cons share_idP.ok (all_nil _))))) (all_nil _)
noncomputable def share_Draw (a0 : (Int × Int × Int × SV)) (a1 : Int) (a2 : Int) (h : H) : Option (((Int × Int × Int × SV) × (Int × Int × Int × SV) × Int) × H) :=
(match a0 with
| (a0_0, a0_1, a0_2, a0_3) =>
(let h1 : H := H.new h [.int .i64 a0_0, .int .i64 a0_1, .int .i64 a0_2, .slice a0_3.a a0_3.len a0_3.cap a0_3.tail] 4
(let h2 : H := H.new h1 [.int .i64 0, .int .i64 0, .int .i64 0, .slice .nil 0 0 false] 4
(let h3 : H := H.new h2 [.int .i64 0, .int .i64 0, .int .i64 0, .slice .nil 0 0 false] 4
((rdT (.agg [.int .i64, .int .i64, .int .i64, .slice]) h3 (.hp h.next 4 0)).bind fun (x4_0, x4_1, x4_2, x4_3) =>
((rdRow true h3 [.int .i64, .int .i64, .int .i64, .row [.int .i64, .int .i64]] ⟨.lp true ([.int .i64 x4_0, .int .i64 x4_1, .int .i64 x4_2, .slice x4_3.a x4_3.len x4_3.cap x4_3.tail]) 0, 1, 1, false⟩).bind fun s7 =>
((lot_CheckP s7).bind fun (r5, r6) =>
(bif (!(decide (r6 = 0))) then ((H.wrs h3 (.hp h1.next 4 0) [.int .i64 0, .int .i64 0, .int .i64 0, .slice .nil 0 0 false]).bind fun h8 =>
((H.wrs h8 (.hp h2.next 4 0) [.int .i64 0, .int .i64 0, .int .i64 0, .slice .nil 0 0 false]).bind fun h9 =>
((rdT (.agg [.int .i64, .int .i64, .int .i64, .slice]) h9 (.hp h1.next 4 0 : V)).bind fun (x10_0, x10_1, x10_2, x10_3) =>
((rdT (.agg [.int .i64, .int .i64, .int .i64, .slice]) h9 (.hp h2.next 4 0 : V)).bind fun (x11_0, x11_1, x11_2, x11_3) =>
(some (((x10_0, x10_1, x10_2, x10_3), (x11_0, x11_1, x11_2, x11_3), 1), h9)))))) else ((((share_idP a2).bind fun r12 =>
(bif !(!r12) then (some ((decide (a1 < 0)), h3)) else (some (true, h3))))).bind fun (y13, h14) =>
(bif y13 then ((H.wrs h14 (.hp h1.next 4 0) [.int .i64 0, .int .i64 0, .int .i64 0, .slice .nil 0 0 false]).bind fun h15 =>
((H.wrs h15 (.hp h2.next 4 0) [.int .i64 0, .int .i64 0, .int .i64 0, .slice .nil 0 0 false]).bind fun h16 =>
((rdT (.agg [.int .i64, .int .i64, .int .i64, .slice]) h16 (.hp h1.next 4 0 : V)).bind fun (x17_0, x17_1, x17_2, x17_3) =>
((rdT (.agg [.int .i64, .int .i64, .int .i64, .slice]) h16 (.hp h2.next 4 0 : V)).bind fun (x18_0, x18_1, x18_2, x18_3) =>
(some (((x17_0, x17_1, x17_2, x17_3), (x18_0, x18_1, x18_2, x18_3), 2), h16)))))) else ((rdT (.leaf (.int .i64)) h14 (.hp h.next 4 2)).bind fun x19 =>
(bif (decide (x19 < a1)) then ((H.wrs h14 (.hp h1.next 4 0) [.int .i64 0, .int .i64 0, .int .i64 0, .slice .nil 0 0 false]).bind fun h20 =>
((H.wrs h20 (.hp h2.next 4 0) [.int .i64 0, .int .i64 0, .int .i64 0, .slice .nil 0 0 false]).bind fun h21 =>
((rdT (.agg [.int .i64, .int .i64, .int .i64, .slice]) h21 (.hp h1.next 4 0 : V)).bind fun (x22_0, x22_1, x22_2, x22_3) =>
((rdT (.agg [.int .i64, .int .i64, .int .i64, .slice]) h21 (.hp h2.next 4 0 : V)).bind fun (x23_0, x23_1, x23_2, x23_3) =>
(some (((x22_0, x22_1, x22_2, x22_3), (x23_0, x23_1, x23_2, x23_3), 17), h21)))))) else ((rdT (.agg [.int .i64, .int .i64]) h14 (.hp h.next 4 1)).bind fun (x24_0, x24_1) =>
((mix_DrawP (x24_0, x24_1) a1).bind fun ((r25_0, r25_1), (r26_0, r26_1), r27) =>
(let h28 : H := H.new h14 [.int .i64 0, .int .i64 0] 2
(let h29 : H := H.new h28 [.int .i64 0, .int .i64 0] 2
((H.wrs h29 (.hp h14.next 2 0) [.int .i64 r25_0, .int .i64 r25_1]).bind fun h30 =>
((H.wrs h30 (.hp h28.next 2 0) [.int .i64 r26_0, .int .i64 r26_1]).bind fun h31 =>
((rdT (.leaf .slice) h31 (.hp h.next 4 3)).bind fun x32 =>
((rdT (.leaf (.int .i64)) h31 (.hp h14.next 2 0)).bind fun x33 =>
((rdRow true h31 [.int .i64, .int .i64] x32).bind fun s37 =>
((share_TakeP s37 x33).bind fun (r34, r35, r36) =>
(let h38 : H := H.reserve h31 0
((rdT (.agg [.int .i64, .int .i64]) h38 (.hp h14.next 2 0)).bind fun (x39_0, x39_1) =>
((rdT (.leaf (.int .i64)) h38 (.hp h.next 4 0)).bind fun x40 =>
((rdT (.agg [.int .i64, .int .i64]) h38 (.hp h28.next 2 0)).bind fun (x41_0, x41_1) =>
((H.wrs h38 (.hp h1.next 4 0) [.int .i64 a2, .int .i64 x39_0, .int .i64 x39_1, .slice ((rowSV true [.int .i64, .int .i64] r34).a) r34.length r34.length true]).bind fun h42 =>
((H.wrs h42 (.hp h2.next 4 0) [.int .i64 x40, .int .i64 x41_0, .int .i64 x41_1, .slice ((rowSV true [.int .i64, .int .i64] r35).a) r35.length r35.length true]).bind fun h43 =>
(guardO (apartA (.hp h.next 4 0 : V) (.hp h1.next 4 0 : V) = true) (guardO (apartA (.hp h28.next 2 0 : V) (.hp h1.next 4 0 : V) = true) ((rdT (.agg [.int .i64, .int .i64, .int .i64, .slice]) h43 (.hp h1.next 4 0 : V)).bind fun (x44_0, x44_1, x44_2, x44_3) =>
((rdT (.agg [.int .i64, .int .i64, .int .i64, .slice]) h43 (.hp h2.next 4 0 : V)).bind fun (x45_0, x45_1, x45_2, x45_3) =>
(some (((x44_0, x44_1, x44_2, x44_3), (x45_0, x45_1, x45_2, x45_3), 0), h43))))))))))))))))))))))))))))))))))
def share_Draw.A : Ann := { lits := [], conds := [], loops := [], regs := [(4, [28], [.leaf .bool])] }
theorem share_Draw.eq : ∀ (x : TT [.agg [.int .i64, .int .i64, .int .i64, .slice], .leaf (.int .i64), .leaf (.int .i64)]) (h : H), evalFn Try.prog (share_Draw.tb) share_Draw.A Try.f31 (.many [.agg [.int .i64, .int .i64, .int .i64, .slice], .agg [.int .i64, .int .i64, .int .i64, .slice], .leaf (.int .i64)]) (TT.un [.agg [.int .i64, .int .i64, .int .i64, .slice], .leaf (.int .i64), .leaf (.int .i64)] x) h = share_Draw x.1 x.2.1 x.2.2 h := by
  intro x h
  kernel_rfl
noncomputable def share_Draw.e : Entry := mkX [.agg [.int .i64, .int .i64, .int .i64, .slice], .leaf (.int .i64), .leaf (.int .i64)] (.many [.agg [.int .i64, .int .i64, .int .i64, .slice], .agg [.int .i64, .int .i64, .int .i64, .slice], .leaf (.int .i64)]) fun x h => share_Draw x.1 x.2.1 x.2.2 h
theorem share_Draw.ok : EntryOK Try.prog 31 (share_Draw.e) := mkX_ok (share_Draw.tbok) Try.mixed Try.func31 (by kernel_rfl) (share_Draw.eq)
noncomputable def share_DrawP (a0 : (Int × Int × Int × (List (Int × Int)))) (a1 : Int) (a2 : Int) : Option ((Int × Int × Int × (List (Int × Int))) × (Int × Int × Int × (List (Int × Int))) × Int) := (share_Draw (a0.1, a0.2.1, a0.2.2.1, rowSV false [.int .i64, .int .i64] a0.2.2.2) a1 a2 H.empty).bind fun p => rdRes false p.2 (.many [.agg [.int .i64, .int .i64, .int .i64, .row [.int .i64, .int .i64]], .agg [.int .i64, .int .i64, .int .i64, .row [.int .i64, .int .i64]], .leaf (.int .i64)]) (Res.un (.many [.agg [.int .i64, .int .i64, .int .i64, .slice], .agg [.int .i64, .int .i64, .int .i64, .slice], .leaf (.int .i64)]) p.1)
theorem share_DrawP.eq : ∀ x : TT [.agg [.int .i64, .int .i64, .int .i64, .row [.int .i64, .int .i64]], .leaf (.int .i64), .leaf (.int .i64)], ((evalFn Try.prog (share_Draw.tb) share_Draw.A Try.f31 (.many [.agg [.int .i64, .int .i64, .int .i64, .slice], .agg [.int .i64, .int .i64, .int .i64, .slice], .leaf (.int .i64)]) (TT.lo false [.agg [.int .i64, .int .i64, .int .i64, .row [.int .i64, .int .i64]], .leaf (.int .i64), .leaf (.int .i64)] x) H.empty).bind fun p => rdRes false p.2 (.many [.agg [.int .i64, .int .i64, .int .i64, .row [.int .i64, .int .i64]], .agg [.int .i64, .int .i64, .int .i64, .row [.int .i64, .int .i64]], .leaf (.int .i64)]) (Res.un (.many [.agg [.int .i64, .int .i64, .int .i64, .slice], .agg [.int .i64, .int .i64, .int .i64, .slice], .leaf (.int .i64)]) p.1)) = share_DrawP x.1 x.2.1 x.2.2 := by
  intro x
  rw [show TT.lo false [.agg [.int .i64, .int .i64, .int .i64, .row [.int .i64, .int .i64]], .leaf (.int .i64), .leaf (.int .i64)] x = TT.un [.agg [.int .i64, .int .i64, .int .i64, .slice], .leaf (.int .i64), .leaf (.int .i64)] ((x.1.1, x.1.2.1, x.1.2.2.1, rowSV false [.int .i64, .int .i64] x.1.2.2.2), x.2.1, x.2.2) from rfl, share_Draw.eq]
  rfl
noncomputable def share_DrawP.e : Entry := mkP [.agg [.int .i64, .int .i64, .int .i64, .row [.int .i64, .int .i64]], .leaf (.int .i64), .leaf (.int .i64)] (.many [.agg [.int .i64, .int .i64, .int .i64, .row [.int .i64, .int .i64]], .agg [.int .i64, .int .i64, .int .i64, .row [.int .i64, .int .i64]], .leaf (.int .i64)]) fun x => share_DrawP x.1 x.2.1 x.2.2
theorem share_DrawP.ok : EntryOK Try.prog 31 (share_DrawP.e) := mkP_ok (share_Draw.tbok) Try.mixed Try.func31 (by kernel_rfl) share_DrawP.eq

/-! ### spile/spileref22.ID: function 54 -/
noncomputable def spileref22_ID.tb : Table := tab [] [] Table.nil
theorem spileref22_ID.tbok : TabOK Try.prog (spileref22_ID.tb) := TabOK.tab (TabOK.nil Try.prog) (all_nil _) (all_nil _)
noncomputable def spileref22_ID (a0 : Int) (h : H) : Option ((Bool) × H) :=
(((bif (decide ((1 : Int) ≤ a0)) then (some ((decide (a0 ≤ 1073741824)), h)) else (some (false, h)))).bind fun (y1, h2) =>
(some (y1, h2)))
def spileref22_ID.A : Ann := { lits := [], conds := [], loops := [], regs := [(1, [2], [.leaf .bool])] }
theorem spileref22_ID.eq : ∀ (x : TT [.leaf (.int .i64)]) (h : H), evalFn Try.prog (spileref22_ID.tb) spileref22_ID.A Try.f54 (.one (.leaf .bool)) (TT.un [.leaf (.int .i64)] x) h = spileref22_ID x h := by
  intro x h
  kernel_rfl
noncomputable def spileref22_ID.e : Entry := mkX [.leaf (.int .i64)] (.one (.leaf .bool)) fun x h => spileref22_ID x h
theorem spileref22_ID.ok : EntryOK Try.prog 54 (spileref22_ID.e) := mkX_ok (spileref22_ID.tbok) Try.mixed Try.func54 (by kernel_rfl) (spileref22_ID.eq)
noncomputable def spileref22_IDP (a0 : Int) : Option (Bool) := (spileref22_ID a0 H.empty).bind fun p => rdRes false p.2 (.one (.leaf .bool)) (Res.un (.one (.leaf .bool)) p.1)
theorem spileref22_IDP.eq : ∀ x : TT [.leaf (.int .i64)], ((evalFn Try.prog (spileref22_ID.tb) spileref22_ID.A Try.f54 (.one (.leaf .bool)) (TT.lo false [.leaf (.int .i64)] x) H.empty).bind fun p => rdRes false p.2 (.one (.leaf .bool)) (Res.un (.one (.leaf .bool)) p.1)) = spileref22_IDP x := by
  intro x
  rw [show TT.lo false [.leaf (.int .i64)] x = TT.un [.leaf (.int .i64)] (x) from rfl, spileref22_ID.eq]
  rfl
noncomputable def spileref22_IDP.e : Entry := mkP [.leaf (.int .i64)] (.one (.leaf .bool)) fun x => spileref22_IDP x
theorem spileref22_IDP.ok : EntryOK Try.prog 54 (spileref22_IDP.e) := mkP_ok (spileref22_ID.tbok) Try.mixed Try.func54 (by kernel_rfl) spileref22_IDP.eq
end Go.Proofs.Ytbcpdecgfdlaaaa
