/- The functions of the program as Lean functions, each with the equation by which the evaluator is that function. Written by a program of this session (evdrive.py). Conditions: none. -/
import Derived.Test.YtfkabibbaajfhaaProg
import Derived.Test.YtfkabibbaajfhaaEvSpec
import Derived.Test.YtfkabibbaajfhaaFn1
namespace Go.Proofs.Ytfkabibbaajfhaa
open Go Go.Proofs.Ytfkabibbaajfhaa.Ev
set_option maxRecDepth 100000
set_option linter.unusedVariables false
/-! ### spile/blend.edge: function 55 -/
noncomputable def blend_edge.tb : Table := tab [(79, interpolate_DensityP.e)] [] Table.nil
theorem blend_edge.tbok : TabOK Try.prog (blend_edge.tb) := TabOK.tab (TabOK.nil Try.prog) (all_cons interpolate_DensityP.ok (all_nil _)) (all_nil _)
noncomputable def blend_edge (a0 : SV) (a1 : (SV × SV × SV × Int × Int × Int)) (h : H) : Option (((Int × Int)) × H) :=
(match a1 with
| (a1_0, a1_1, a1_2, a1_3, a1_4, a1_5) =>
(let h1 : H := H.new h [.slice a1_0.a a1_0.len a1_0.cap a1_0.tail, .slice a1_1.a a1_1.len a1_1.cap a1_1.tail, .slice a1_2.a a1_2.len a1_2.cap a1_2.tail, .int .i64 a1_3, .int .i64 a1_4, .int .i64 a1_5] 6
(let h2 : H := H.new h1 [.int .i64 0, .int .i64 0] 2
(let h3 : H := H.new h2 [.int .i64 0, .int .i64 0] 2
((rdT (.leaf (.int .i64)) h3 (.hp h.next 6 3)).bind fun x4 =>
((rdRow true h3 [.int .i64, .int .i64] a0).bind fun s7 =>
((interpolate_DensityP s7 x4).bind fun (r5, r6) =>
((H.wrs h3 (.hp h2.next 2 0) [.int .i64 r5]).bind fun h8 =>
((rdT (.leaf (.int .i64)) h8 (.hp h.next 6 4)).bind fun x9 =>
((rdRow true h8 [.int .i64, .int .i64] a0).bind fun s12 =>
((interpolate_DensityP s12 (IntKind.wrap .i64 (x9 + 1))).bind fun (r10, r11) =>
((H.wrs h8 (.hp h2.next 2 1) [.int .i64 r10]).bind fun h13 =>
((rdT (.agg [.int .i64, .int .i64]) h13 (.hp h2.next 2 0)).bind fun (x14_0, x14_1) =>
((H.wrs h13 (.hp h1.next 2 0) [.int .i64 x14_0, .int .i64 x14_1]).bind fun h15 =>
((rdT (.agg [.int .i64, .int .i64]) h15 (.hp h1.next 2 0 : V)).bind fun (x16_0, x16_1) =>
(some ((x16_0, x16_1), h15)))))))))))))))))
def blend_edge.A : Ann := { lits := [], conds := [], loops := [], regs := [] }
theorem blend_edge.eq : ∀ (x : TT [.leaf .slice, .agg [.slice, .slice, .slice, .int .i64, .int .i64, .int .i64]]) (h : H), evalFn Try.prog (blend_edge.tb) blend_edge.A Try.f55 (.one (.agg [.int .i64, .int .i64])) (TT.un [.leaf .slice, .agg [.slice, .slice, .slice, .int .i64, .int .i64, .int .i64]] x) h = blend_edge x.1 x.2 h := by
  intro x h
  kernel_rfl
noncomputable def blend_edge.e : Entry := mkX [.leaf .slice, .agg [.slice, .slice, .slice, .int .i64, .int .i64, .int .i64]] (.one (.agg [.int .i64, .int .i64])) fun x h => blend_edge x.1 x.2 h
theorem blend_edge.ok : EntryOK Try.prog 55 (blend_edge.e) := mkX_ok (blend_edge.tbok) Try.mixed Try.func55 (by kernel_rfl) (blend_edge.eq)
noncomputable def blend_edgeP (a0 : (List (Int × Int))) (a1 : ((List (Int × Int)) × (List (Int)) × (List (Int)) × Int × Int × Int)) : Option ((Int × Int)) := (blend_edge (rowSV false [.int .i64, .int .i64] a0) (rowSV false [.int .i64, .int .i64] a1.1, rowSV false [.int .i64] a1.2.1, rowSV false [.int .i64] a1.2.2.1, a1.2.2.2.1, a1.2.2.2.2.1, a1.2.2.2.2.2) H.empty).bind fun p => rdRes false p.2 (.one (.agg [.int .i64, .int .i64])) (Res.un (.one (.agg [.int .i64, .int .i64])) p.1)
theorem blend_edgeP.eq : ∀ x : TT [.leaf (.row [.int .i64, .int .i64]), .agg [.row [.int .i64, .int .i64], .row [.int .i64], .row [.int .i64], .int .i64, .int .i64, .int .i64]], ((evalFn Try.prog (blend_edge.tb) blend_edge.A Try.f55 (.one (.agg [.int .i64, .int .i64])) (TT.lo false [.leaf (.row [.int .i64, .int .i64]), .agg [.row [.int .i64, .int .i64], .row [.int .i64], .row [.int .i64], .int .i64, .int .i64, .int .i64]] x) H.empty).bind fun p => rdRes false p.2 (.one (.agg [.int .i64, .int .i64])) (Res.un (.one (.agg [.int .i64, .int .i64])) p.1)) = blend_edgeP x.1 x.2 := by
  intro x
  rw [show TT.lo false [.leaf (.row [.int .i64, .int .i64]), .agg [.row [.int .i64, .int .i64], .row [.int .i64], .row [.int .i64], .int .i64, .int .i64, .int .i64]] x = TT.un [.leaf .slice, .agg [.slice, .slice, .slice, .int .i64, .int .i64, .int .i64]] ((rowSV false [.int .i64, .int .i64] x.1), (rowSV false [.int .i64, .int .i64] x.2.1, rowSV false [.int .i64] x.2.2.1, rowSV false [.int .i64] x.2.2.2.1, x.2.2.2.2.1, x.2.2.2.2.2.1, x.2.2.2.2.2.2)) from rfl, blend_edge.eq]
  rfl
noncomputable def blend_edgeP.e : Entry := mkP [.leaf (.row [.int .i64, .int .i64]), .agg [.row [.int .i64, .int .i64], .row [.int .i64], .row [.int .i64], .int .i64, .int .i64, .int .i64]] (.one (.agg [.int .i64, .int .i64])) fun x => blend_edgeP x.1 x.2
theorem blend_edgeP.ok : EntryOK Try.prog 55 (blend_edgeP.e) := mkP_ok (blend_edge.tbok) Try.mixed Try.func55 (by kernel_rfl) blend_edgeP.eq

/-! ### spile/blend.sum: function 41 -/
noncomputable def blend_sum.tb : Table := tab [] [] Table.nil
theorem blend_sum.tbok : TabOK Try.prog (blend_sum.tb) := TabOK.tab (TabOK.nil Try.prog) (all_nil _) (all_nil _)
noncomputable def blend_sum.loop1 (a0 : SV) : (Int × Int) × H → Option (Stp ((Int × Int) × H) (Flow (Int) (Int) × H)) := fun ((y1, y2), h3) =>
(bif (decide (y2 < ((a0.len : Nat) : Int))) then (guardO (0 ≤ y2 ∧ y2 < ((a0.len : Nat) : Int)) ((rdT (.leaf (.int .i64)) h3 (V.add a0.a (Int.toNat y2 * 1))).bind fun x4 =>
(some (.more (((IntKind.wrap .i64 (y1 + x4)), (IntKind.wrap .i64 (y2 + 1))), h3))))) else (some (.done (.ex0 y1, h3))))
noncomputable def blend_sum (a0 : SV) (h : H) : Option ((Int) × H) :=
((iter FUEL (blend_sum.loop1 a0) ((0, 0), h)).bind fun (fl6, h5) => match fl6 with
| .next _ => none
| .ret rr7 => (some (rr7, h5))
| .ex0 y8 =>
(some (y8, h5))
| .ex1 _ => none)
def blend_sum.A : Ann := { lits := [], conds := [], loops := [(3, [3, 8], [.leaf (.int .i64), .leaf (.int .i64)], [3], [.leaf (.int .i64)], some 0, none)], regs := [] }
theorem blend_sum.eq : ∀ (x : TT [.leaf .slice]) (h : H), evalFn Try.prog (blend_sum.tb) blend_sum.A Try.f41 (.one (.leaf (.int .i64))) (TT.un [.leaf .slice] x) h = blend_sum x h := by
  intro x h
  kernel_rfl
noncomputable def blend_sum.e : Entry := mkX [.leaf .slice] (.one (.leaf (.int .i64))) fun x h => blend_sum x h
theorem blend_sum.ok : EntryOK Try.prog 41 (blend_sum.e) := mkX_ok (blend_sum.tbok) Try.mixed Try.func41 (by kernel_rfl) (blend_sum.eq)
noncomputable def blend_sumP (a0 : (List (Int))) : Option (Int) := (blend_sum (rowSV false [.int .i64] a0) H.empty).bind fun p => rdRes false p.2 (.one (.leaf (.int .i64))) (Res.un (.one (.leaf (.int .i64))) p.1)
theorem blend_sumP.eq : ∀ x : TT [.leaf (.row [.int .i64])], ((evalFn Try.prog (blend_sum.tb) blend_sum.A Try.f41 (.one (.leaf (.int .i64))) (TT.lo false [.leaf (.row [.int .i64])] x) H.empty).bind fun p => rdRes false p.2 (.one (.leaf (.int .i64))) (Res.un (.one (.leaf (.int .i64))) p.1)) = blend_sumP x := by
  intro x
  rw [show TT.lo false [.leaf (.row [.int .i64])] x = TT.un [.leaf .slice] ((rowSV false [.int .i64] x)) from rfl, blend_sum.eq]
  rfl
noncomputable def blend_sumP.e : Entry := mkP [.leaf (.row [.int .i64])] (.one (.leaf (.int .i64))) fun x => blend_sumP x
theorem blend_sumP.ok : EntryOK Try.prog 41 (blend_sumP.e) := mkP_ok (blend_sum.tbok) Try.mixed Try.func41 (by kernel_rfl) blend_sumP.eq

/-! ### spile/blend.mixed: function 52 -/
noncomputable def blend_mixed.tb : Table := tab [] [] Table.nil
theorem blend_mixed.tbok : TabOK Try.prog (blend_mixed.tb) := TabOK.tab (TabOK.nil Try.prog) (all_nil _) (all_nil _)
noncomputable def blend_mixed.loop1 (a1 : SV) (h2 : H) (x5 : SV) : (Int) × H → Option (Stp ((Int) × H) (Flow (Unit) ((Int × Int)) × H)) := fun (y6, h7) =>
(bif (decide (y6 < ((x5.len : Nat) : Int))) then (guardO (0 ≤ y6 ∧ y6 < ((x5.len : Nat) : Int)) ((rdT (.agg [.int .i64, .int .i64]) h7 (V.add x5.a (Int.toNat y6 * 2))).bind fun (x8_0, x8_1) =>
(let h9 : H := H.new h7 [.int .i64 0, .int .i64 0] 2
((H.wrs h9 (.hp h7.next 2 0) [.int .i64 x8_0, .int .i64 x8_1]).bind fun h10 =>
(let h11 : H := H.reserve h10 0
((rdT (.leaf (.int .i64)) h11 (.hp h2.next 2 0)).bind fun x12 =>
(guardO (0 ≤ y6 ∧ y6 < ((a1.len : Nat) : Int)) ((rdT (.leaf (.int .i64)) h11 (V.add a1.a (Int.toNat y6 * 1))).bind fun x13 =>
((rdT (.leaf (.int .i64)) h11 (.hp h7.next 2 0)).bind fun x14 =>
((rdT (.leaf (.int .i64)) h11 (.hp h2.next 2 1)).bind fun x15 =>
(guardO (0 ≤ y6 ∧ y6 < ((a1.len : Nat) : Int)) ((rdT (.leaf (.int .i64)) h11 (V.add a1.a (Int.toNat y6 * 1))).bind fun x16 =>
((rdT (.leaf (.int .i64)) h11 (.hp h7.next 2 1)).bind fun x17 =>
((H.wrs h11 (.hp h2.next 2 0) [.int .i64 (IntKind.wrap .i64 (x12 + (IntKind.wrap .i64 (x13 * x14))))]).bind fun h18 =>
((H.wrs h18 (.hp h2.next 2 1) [.int .i64 (IntKind.wrap .i64 (x15 + (IntKind.wrap .i64 (x16 * x17))))]).bind fun h19 =>
(guardO (apartA ((V.add a1.a (Int.toNat y6 * 1)) : V) (.hp h2.next 2 0 : V) = true) (guardO (apartA (.hp h7.next 2 1 : V) (.hp h2.next 2 0 : V) = true) (some (.more ((IntKind.wrap .i64 (y6 + 1)), h19)))))))))))))))))))) else (some (.done (.ex0 (), h7))))
noncomputable def blend_mixed (a0 : (SV × SV × SV × Int × Int × Int)) (a1 : SV) (h : H) : Option (((Int × Int)) × H) :=
(match a0 with
| (a0_0, a0_1, a0_2, a0_3, a0_4, a0_5) =>
(let h1 : H := H.new h [.slice a0_0.a a0_0.len a0_0.cap a0_0.tail, .slice a0_1.a a0_1.len a0_1.cap a0_1.tail, .slice a0_2.a a0_2.len a0_2.cap a0_2.tail, .int .i64 a0_3, .int .i64 a0_4, .int .i64 a0_5] 6
(let h2 : H := H.new h1 [.int .i64 0, .int .i64 0] 2
(let h3 : H := H.new h2 [.int .i64 0, .int .i64 0] 2
((H.wrs h3 (.hp h2.next 2 0) [.int .i64 0, .int .i64 0]).bind fun h4 =>
((rdT (.leaf .slice) h4 (.hp h.next 6 0)).bind fun x5 =>
((iter FUEL (blend_mixed.loop1 a1 h2 x5) (0, h4)).bind fun (fl21, h20) => match fl21 with
| .next _ => none
| .ret rr22 => (some (rr22, h20))
| .ex0 _ =>
((rdT (.agg [.int .i64, .int .i64]) h20 (.hp h2.next 2 0)).bind fun (x23_0, x23_1) =>
((H.wrs h20 (.hp h1.next 2 0) [.int .i64 x23_0, .int .i64 x23_1]).bind fun h24 =>
((rdT (.agg [.int .i64, .int .i64]) h24 (.hp h1.next 2 0 : V)).bind fun (x25_0, x25_1) =>
(some ((x25_0, x25_1), h24)))))
| .ex1 _ => none)))))))
def blend_mixed.A : Ann := { lits := [], conds := [], loops := [(3, [12], [.leaf (.int .i64)], [], [], some 0, none)], regs := [] }
theorem blend_mixed.eq : ∀ (x : TT [.agg [.slice, .slice, .slice, .int .i64, .int .i64, .int .i64], .leaf .slice]) (h : H), evalFn Try.prog (blend_mixed.tb) blend_mixed.A Try.f52 (.one (.agg [.int .i64, .int .i64])) (TT.un [.agg [.slice, .slice, .slice, .int .i64, .int .i64, .int .i64], .leaf .slice] x) h = blend_mixed x.1 x.2 h := by
  intro x h
  kernel_rfl
noncomputable def blend_mixed.e : Entry := mkX [.agg [.slice, .slice, .slice, .int .i64, .int .i64, .int .i64], .leaf .slice] (.one (.agg [.int .i64, .int .i64])) fun x h => blend_mixed x.1 x.2 h
theorem blend_mixed.ok : EntryOK Try.prog 52 (blend_mixed.e) := mkX_ok (blend_mixed.tbok) Try.mixed Try.func52 (by kernel_rfl) (blend_mixed.eq)
noncomputable def blend_mixedP (a0 : ((List (Int × Int)) × (List (Int)) × (List (Int)) × Int × Int × Int)) (a1 : (List (Int))) : Option ((Int × Int)) := (blend_mixed (rowSV false [.int .i64, .int .i64] a0.1, rowSV false [.int .i64] a0.2.1, rowSV false [.int .i64] a0.2.2.1, a0.2.2.2.1, a0.2.2.2.2.1, a0.2.2.2.2.2) (rowSV false [.int .i64] a1) H.empty).bind fun p => rdRes false p.2 (.one (.agg [.int .i64, .int .i64])) (Res.un (.one (.agg [.int .i64, .int .i64])) p.1)
theorem blend_mixedP.eq : ∀ x : TT [.agg [.row [.int .i64, .int .i64], .row [.int .i64], .row [.int .i64], .int .i64, .int .i64, .int .i64], .leaf (.row [.int .i64])], ((evalFn Try.prog (blend_mixed.tb) blend_mixed.A Try.f52 (.one (.agg [.int .i64, .int .i64])) (TT.lo false [.agg [.row [.int .i64, .int .i64], .row [.int .i64], .row [.int .i64], .int .i64, .int .i64, .int .i64], .leaf (.row [.int .i64])] x) H.empty).bind fun p => rdRes false p.2 (.one (.agg [.int .i64, .int .i64])) (Res.un (.one (.agg [.int .i64, .int .i64])) p.1)) = blend_mixedP x.1 x.2 := by
  intro x
  rw [show TT.lo false [.agg [.row [.int .i64, .int .i64], .row [.int .i64], .row [.int .i64], .int .i64, .int .i64, .int .i64], .leaf (.row [.int .i64])] x = TT.un [.agg [.slice, .slice, .slice, .int .i64, .int .i64, .int .i64], .leaf .slice] ((rowSV false [.int .i64, .int .i64] x.1.1, rowSV false [.int .i64] x.1.2.1, rowSV false [.int .i64] x.1.2.2.1, x.1.2.2.2.1, x.1.2.2.2.2.1, x.1.2.2.2.2.2), (rowSV false [.int .i64] x.2)) from rfl, blend_mixed.eq]
  rfl
noncomputable def blend_mixedP.e : Entry := mkP [.agg [.row [.int .i64, .int .i64], .row [.int .i64], .row [.int .i64], .int .i64, .int .i64, .int .i64], .leaf (.row [.int .i64])] (.one (.agg [.int .i64, .int .i64])) fun x => blend_mixedP x.1 x.2
theorem blend_mixedP.ok : EntryOK Try.prog 52 (blend_mixedP.e) := mkP_ok (blend_mixed.tbok) Try.mixed Try.func52 (by kernel_rfl) blend_mixedP.eq

/-! ### (spile/blend.ends).carries: function 56 -/
noncomputable def blend_ends_carries.tb : Table := tab [(41, blend_sumP.e), (52, blend_mixedP.e)] [] Table.nil
theorem blend_ends_carries.tbok : TabOK Try.prog (blend_ends_carries.tb) := TabOK.tab (TabOK.nil Try.prog) (all_cons blend_sumP.ok (all_cons blend_mixedP.ok (all_nil _))) (all_nil _)
noncomputable def blend_ends_carries (a0 : (Int × Int)) (a1 : (SV × SV × SV × Int × Int × Int)) (a2 : SV) (h : H) : Option ((Bool) × H) :=
(match a0 with
| (a0_0, a0_1) =>
(match a1 with
| (a1_0, a1_1, a1_2, a1_3, a1_4, a1_5) =>
(let h1 : H := H.new h [.int .i64 a0_0, .int .i64 a0_1] 2
(let h2 : H := H.new h1 [.slice a1_0.a a1_0.len a1_0.cap a1_0.tail, .slice a1_1.a a1_1.len a1_1.cap a1_1.tail, .slice a1_2.a a1_2.len a1_2.cap a1_2.tail, .int .i64 a1_3, .int .i64 a1_4, .int .i64 a1_5] 6
((rdT (.agg [.slice, .slice, .slice, .int .i64, .int .i64, .int .i64]) h2 (.hp h1.next 6 0)).bind fun (x3_0, x3_1, x3_2, x3_3, x3_4, x3_5) =>
((rdRow true h2 [.int .i64, .int .i64] x3_0).bind fun s5 =>
((rdRow true h2 [.int .i64] x3_1).bind fun s6 =>
((rdRow true h2 [.int .i64] x3_2).bind fun s7 =>
((rdRow true h2 [.int .i64] a2).bind fun s8 =>
((blend_mixedP (s5, s6, s7, x3_3, x3_4, x3_5) s8).bind fun (r4_0, r4_1) =>
(let h9 : H := H.new h2 [.int .i64 0, .int .i64 0] 2
((H.wrs h9 (.hp h2.next 2 0) [.int .i64 r4_0, .int .i64 r4_1]).bind fun h10 =>
(((let h11 : H := H.reserve h10 0
((rdRow true h11 [.int .i64] a2).bind fun s13 =>
((blend_sumP s13).bind fun r12 =>
((rdT (.leaf (.int .i64)) h11 (.hp h1.next 6 5)).bind fun x14 =>
(bif (decide (x14 ≤ r12)) then ((rdT (.leaf (.int .i64)) h11 (.hp h2.next 2 0)).bind fun x15 =>
((rdT (.leaf (.int .i64)) h11 (.hp h.next 2 0)).bind fun x16 =>
((rdT (.leaf (.int .i64)) h11 (.hp h2.next 2 1)).bind fun x17 =>
((rdT (.leaf (.int .i64)) h11 (.hp h1.next 6 3)).bind fun x18 =>
(bif (decide ((IntKind.wrap .i64 (x17 * x18)) ≤ (IntKind.wrap .i64 (x15 * x16)))) then ((rdT (.leaf (.int .i64)) h11 (.hp h1.next 6 4)).bind fun x19 =>
(bif !(decide (x19 = 10000)) then ((rdT (.leaf (.int .i64)) h11 (.hp h2.next 2 0)).bind fun x20 =>
((rdT (.leaf (.int .i64)) h11 (.hp h.next 2 1)).bind fun x21 =>
((rdT (.leaf (.int .i64)) h11 (.hp h2.next 2 1)).bind fun x22 =>
((rdT (.leaf (.int .i64)) h11 (.hp h1.next 6 4)).bind fun x23 =>
(some ((decide ((IntKind.wrap .i64 (x20 * x21)) < (IntKind.wrap .i64 (x22 * (IntKind.wrap .i64 (x23 + 1)))))), h11)))))) else (some (true, h11)))) else (some (false, h11))))))) else (some (false, h11)))))))).bind fun (y24, h25) =>
(some (y24, h25)))))))))))))))
def blend_ends_carries.A : Ann := { lits := [], conds := [], loops := [], regs := [(2, [6], [.leaf .bool])] }
theorem blend_ends_carries.eq : ∀ (x : TT [.agg [.int .i64, .int .i64], .agg [.slice, .slice, .slice, .int .i64, .int .i64, .int .i64], .leaf .slice]) (h : H), evalFn Try.prog (blend_ends_carries.tb) blend_ends_carries.A Try.f56 (.one (.leaf .bool)) (TT.un [.agg [.int .i64, .int .i64], .agg [.slice, .slice, .slice, .int .i64, .int .i64, .int .i64], .leaf .slice] x) h = blend_ends_carries x.1 x.2.1 x.2.2 h := by
  intro x h
  kernel_rfl
noncomputable def blend_ends_carries.e : Entry := mkX [.agg [.int .i64, .int .i64], .agg [.slice, .slice, .slice, .int .i64, .int .i64, .int .i64], .leaf .slice] (.one (.leaf .bool)) fun x h => blend_ends_carries x.1 x.2.1 x.2.2 h
theorem blend_ends_carries.ok : EntryOK Try.prog 56 (blend_ends_carries.e) := mkX_ok (blend_ends_carries.tbok) Try.mixed Try.func56 (by kernel_rfl) (blend_ends_carries.eq)
noncomputable def blend_ends_carriesP (a0 : (Int × Int)) (a1 : ((List (Int × Int)) × (List (Int)) × (List (Int)) × Int × Int × Int)) (a2 : (List (Int))) : Option (Bool) := (blend_ends_carries a0 (rowSV false [.int .i64, .int .i64] a1.1, rowSV false [.int .i64] a1.2.1, rowSV false [.int .i64] a1.2.2.1, a1.2.2.2.1, a1.2.2.2.2.1, a1.2.2.2.2.2) (rowSV false [.int .i64] a2) H.empty).bind fun p => rdRes false p.2 (.one (.leaf .bool)) (Res.un (.one (.leaf .bool)) p.1)
theorem blend_ends_carriesP.eq : ∀ x : TT [.agg [.int .i64, .int .i64], .agg [.row [.int .i64, .int .i64], .row [.int .i64], .row [.int .i64], .int .i64, .int .i64, .int .i64], .leaf (.row [.int .i64])], ((evalFn Try.prog (blend_ends_carries.tb) blend_ends_carries.A Try.f56 (.one (.leaf .bool)) (TT.lo false [.agg [.int .i64, .int .i64], .agg [.row [.int .i64, .int .i64], .row [.int .i64], .row [.int .i64], .int .i64, .int .i64, .int .i64], .leaf (.row [.int .i64])] x) H.empty).bind fun p => rdRes false p.2 (.one (.leaf .bool)) (Res.un (.one (.leaf .bool)) p.1)) = blend_ends_carriesP x.1 x.2.1 x.2.2 := by
  intro x
  rw [show TT.lo false [.agg [.int .i64, .int .i64], .agg [.row [.int .i64, .int .i64], .row [.int .i64], .row [.int .i64], .int .i64, .int .i64, .int .i64], .leaf (.row [.int .i64])] x = TT.un [.agg [.int .i64, .int .i64], .agg [.slice, .slice, .slice, .int .i64, .int .i64, .int .i64], .leaf .slice] (x.1, (rowSV false [.int .i64, .int .i64] x.2.1.1, rowSV false [.int .i64] x.2.1.2.1, rowSV false [.int .i64] x.2.1.2.2.1, x.2.1.2.2.2.1, x.2.1.2.2.2.2.1, x.2.1.2.2.2.2.2), (rowSV false [.int .i64] x.2.2)) from rfl, blend_ends_carries.eq]
  rfl
noncomputable def blend_ends_carriesP.e : Entry := mkP [.agg [.int .i64, .int .i64], .agg [.row [.int .i64, .int .i64], .row [.int .i64], .row [.int .i64], .int .i64, .int .i64, .int .i64], .leaf (.row [.int .i64])] (.one (.leaf .bool)) fun x => blend_ends_carriesP x.1 x.2.1 x.2.2
theorem blend_ends_carriesP.ok : EntryOK Try.prog 56 (blend_ends_carriesP.e) := mkP_ok (blend_ends_carries.tbok) Try.mixed Try.func56 (by kernel_rfl) blend_ends_carriesP.eq

/-! ### spile/blend.plans$1: function 84 -/
noncomputable def blend_plans_1.tb (T : Table) : Table := tab [] [] T
theorem blend_plans_1.tbok (T : Table) (hT : TabOK Try.prog T) : TabOK Try.prog (blend_plans_1.tb T) := TabOK.tab (hT) (all_nil _) (all_nil _)
noncomputable def blend_plans_1.loop1 (T : Table) (h : H) (a1 : V) (x1 : SV) : (Int) × H → Option (Stp ((Int) × H) (Flow (Int) (Unit) × H)) := fun (y7, h8) =>
(((let h9 : H := H.reserve h8 0
(bif (decide ((0 : Int) ≤ y7)) then (guardO (0 ≤ y7 ∧ y7 < (((Int.toNat ((x1.len : Nat) : Int)) : Nat) : Int)) ((rdT (.leaf (.int .i64)) h9 (.hp h.next (Int.toNat ((x1.len : Nat) : Int) * 1) (0 + (Int.toNat y7 * 1)))).bind fun x10 =>
(guardO (V.nn (a1 : V) = true) ((rdT (.leaf .slice) h9 (V.add a1 1)).bind fun x11 =>
(guardO (0 ≤ y7 ∧ y7 < ((x11.len : Nat) : Int)) ((rdT (.leaf (.int .i64)) h9 (V.add x11.a (Int.toNat y7 * 1))).bind fun x12 =>
(some ((decide (x10 = x12)), h9)))))))) else (some (false, h9))))).bind fun (y13, h14) =>
(bif y13 then (guardO (0 ≤ y7 ∧ y7 < (((Int.toNat ((x1.len : Nat) : Int)) : Nat) : Int)) ((H.wrs h14 (.hp h.next (Int.toNat ((x1.len : Nat) : Int) * 1) (0 + (Int.toNat y7 * 1))) [.int .i64 0]).bind fun h15 =>
(some (.more ((IntKind.wrap .i64 (y7 - 1)), h15))))) else (some (.done (.ex0 y7, h14)))))
noncomputable def blend_plans_1.loop2 (T : Table) (h : H) (a0 : V) (a1 : V) (x1 : SV) : (Unit) × H → Option (Stp ((Unit) × H) (Flow (Unit) (Unit) × H)) := fun (_, h3) =>
(callV T.dy a0 [.slice (.hp h.next (Int.toNat ((x1.len : Nat) : Int) * 1) 0) (Int.toNat ((x1.len : Nat) : Int)) (Int.toNat ((x1.len : Nat) : Int)) true] h3 fun v4 h5 =>
(Res.pack (.one (.leaf .bool)) v4).bind fun r6 =>
(bif (!r6) then (some (.done (.ret (), h5))) else ((iter FUEL (blend_plans_1.loop1 T h a1 x1) ((IntKind.wrap .i64 ((((Int.toNat ((x1.len : Nat) : Int)) : Nat) : Int) - 1)), h5)).bind fun (fl17, h16) => match fl17 with
| .next _ => none
| .ret rr18 => (some (.done (.ret rr18, h16)))
| .ex0 y19 =>
(bif (decide (y19 < 0)) then (some (.done (.ret (), h16))) else (guardO (0 ≤ y19 ∧ y19 < (((Int.toNat ((x1.len : Nat) : Int)) : Nat) : Int)) ((rdT (.leaf (.int .i64)) h16 (.hp h.next (Int.toNat ((x1.len : Nat) : Int) * 1) (0 + (Int.toNat y19 * 1)))).bind fun x20 =>
(guardO (0 ≤ y19 ∧ y19 < (((Int.toNat ((x1.len : Nat) : Int)) : Nat) : Int)) ((H.wrs h16 (.hp h.next (Int.toNat ((x1.len : Nat) : Int) * 1) (0 + (Int.toNat y19 * 1))) [.int .i64 (IntKind.wrap .i64 (x20 + 1))]).bind fun h21 =>
(some (.more ((), h21))))))))
| .ex1 _ => none)))
noncomputable def blend_plans_1 (T : Table) (a0 : V) (a1 : V) (h : H) : Option ((Unit) × H) :=
(guardO (V.nn (a1 : V) = true) ((rdT (.leaf .slice) h (V.add a1 1)).bind fun x1 =>
(guardO (0 ≤ ((x1.len : Nat) : Int) ∧ ((x1.len : Nat) : Int) ≤ ((x1.len : Nat) : Int) ∧ ((x1.len : Nat) : Int) ≤ roomCells ∧ 8 ≤ 2 ^ 11 ∧ 1 = 1) (let h2 : H := H.new h (repeatCells [.int .i64 0] (Int.toNat ((x1.len : Nat) : Int))) 1
((iter FUEL (blend_plans_1.loop2 T h a0 a1 x1) ((), h2)).bind fun (fl23, h22) => match fl23 with
| .next _ => none
| .ret rr24 => (some (rr24, h22))
| .ex0 _ => none
| .ex1 _ => none)))))
def blend_plans_1.A : Ann := { lits := [], conds := [], loops := [(3, [4], [.leaf (.int .i64)], [4], [.leaf (.int .i64)], some 2, none), (1, [], [], [], [], none, none)], regs := [(3, [29], [.leaf .bool])] }
theorem blend_plans_1.eq (T : Table) : ∀ (x : TT [.leaf .dyn, .leaf .ptr]) (h : H), evalFn Try.prog (blend_plans_1.tb T) blend_plans_1.A Try.f84 (.many []) (TT.un [.leaf .dyn, .leaf .ptr] x) h = blend_plans_1 T x.1 x.2 h := by
  intro x h
  kernel_rfl
theorem blend_plans_1.tbokW (T : Table) (hT : TabW Try.prog T) : TabW Try.prog (blend_plans_1.tb T) := TabW.tab hT (all_nil _) (all_nil _)
noncomputable def blend_plans_1.it : Entry → Entry := fun Y => mkX [.leaf .dyn, .leaf .ptr] (.many []) fun x h => blend_plans_1 (withY Table.nil Y) x.1 x.2 h
theorem blend_plans_1.itok : ItOK Try.prog 84 blend_plans_1.it := mkIt_ok (T := fun Y => blend_plans_1.tb (withY Table.nil Y)) (fun Y hY => blend_plans_1.tbokW _ ((TabW.nil Try.prog).withY hY)) (fun _ => rfl) Try.mixed Try.func84 (by kernel_rfl) (fun Y x h => blend_plans_1.eq (withY Table.nil Y) x h) rfl
noncomputable def blend_plans_1.e (T : Table) : Entry := mkX [.leaf .dyn, .leaf .ptr] (.many []) fun x h => blend_plans_1 T x.1 x.2 h
theorem blend_plans_1.ok (T : Table) (hT : TabOK Try.prog T) : EntryOK Try.prog 84 (blend_plans_1.e T) := mkX_ok (blend_plans_1.tbok T hT) Try.mixed Try.func84 (by kernel_rfl) (blend_plans_1.eq T)

/-! ### spile/blend.plans: function 69 -/
noncomputable def blend_plans.tb : Table := tab [] [] Table.nil
theorem blend_plans.tbok : TabOK Try.prog (blend_plans.tb) := TabOK.tab (TabOK.nil Try.prog) (all_nil _) (all_nil _)
noncomputable def blend_plans (a0 : (SV × SV × SV × Int × Int × Int)) (h : H) : Option ((V) × H) :=
(match a0 with
| (a0_0, a0_1, a0_2, a0_3, a0_4, a0_5) =>
(let h1 : H := H.new h [.slice a0_0.a a0_0.len a0_0.cap a0_0.tail, .slice a0_1.a a0_1.len a0_1.cap a0_1.tail, .slice a0_2.a a0_2.len a0_2.cap a0_2.tail, .int .i64 a0_3, .int .i64 a0_4, .int .i64 a0_5] 6
(some ((.func 84 [.hp h.next 6 0] : V), h1))))
def blend_plans.A : Ann := { lits := [], conds := [], loops := [], regs := [] }
noncomputable def blend_plans.tc : Table := tab [] [(84, blend_plans_1.e (blend_plans.tb))] (blend_plans.tb)
theorem blend_plans.tcok : TabOK Try.prog (blend_plans.tc) := TabOK.tab (blend_plans.tbok) (all_nil _) (all_cons (blend_plans_1.ok _ (blend_plans.tbok)) (all_nil _))
theorem blend_plans.eq : ∀ (x : TT [.agg [.slice, .slice, .slice, .int .i64, .int .i64, .int .i64]]) (h : H), evalFn Try.prog (blend_plans.tc) blend_plans.A Try.f69 (.one (.leaf .dyn)) (TT.un [.agg [.slice, .slice, .slice, .int .i64, .int .i64, .int .i64]] x) h = blend_plans x h := by
  intro x h
  kernel_rfl
noncomputable def blend_plans.e : Entry := mkX [.agg [.slice, .slice, .slice, .int .i64, .int .i64, .int .i64]] (.one (.leaf .dyn)) fun x h => blend_plans x h
theorem blend_plans.ok : EntryOK Try.prog 69 (blend_plans.e) := mkX_ok (blend_plans.tcok) Try.mixed Try.func69 (by kernel_rfl) (blend_plans.eq)

/-! ### spile/blend.first: function 33 -/
noncomputable def blend_first.tb (T : Table) : Table := tabI [(84, blend_plans_1.it)] (tab [(13, slices_Clone_int_intP.e), (14, blend_CheckP.e), (55, blend_edgeP.e), (56, blend_ends_carriesP.e), (69, blend_plans.e)] [] T)
theorem blend_first.tbok (T : Table) (hT : TabOK Try.prog T) : TabOK Try.prog (blend_first.tb T) := TabOK.tabI (TabOK.tab (hT) (all_cons slices_Clone_int_intP.ok (all_cons blend_CheckP.ok (all_cons blend_edgeP.ok (all_cons blend_ends_carriesP.ok (all_cons blend_plans.ok (all_nil _)))))) (all_nil _)) (allI_cons blend_plans_1.itok (allI_nil _))
noncomputable def blend_first.round1 (T : Table) (h : H) (h1 : H) (h2 : H) (h16 : H) (h20 : H) : (SV) → H → Option H := fun y21 h22 =>
((H.begin h22 h20.next).bind fun _ =>
((H.begin h22 h20.next).bind fun h23 =>
(((let h24 : H := H.reserve h23 0
((rdT (.agg [.int .i64, .int .i64]) h24 (.hp h2.next 2 0)).bind fun (x25_0, x25_1) =>
((rdT (.agg [.slice, .slice, .slice, .int .i64, .int .i64, .int .i64]) h24 (.hp h.next 6 0)).bind fun (x26_0, x26_1, x26_2, x26_3, x26_4, x26_5) =>
((rdRow true h24 [.int .i64, .int .i64] x26_0).bind fun s28 =>
((rdRow true h24 [.int .i64] x26_1).bind fun s29 =>
((rdRow true h24 [.int .i64] x26_2).bind fun s30 =>
((rdRow true h24 [.int .i64] y21).bind fun s31 =>
((blend_ends_carriesP (x25_0, x25_1) (s28, s29, s30, x26_3, x26_4, x26_5) s31).bind fun r27 =>
(bif r27 then ((rdT (.leaf .slice) h24 (.hp h16.next 1 0)).bind fun x32 =>
(bif !(V.mayNil (x32.a : V)) then (bif !(!(V.nn (x32.a : V))) then ((rdT (.leaf .dyn) h24 (.hp h1.next 1 0)).bind fun x33 =>
(callQ T.dy x33 [.slice y21.a y21.len y21.cap y21.tail] h24 fun v34 h35 =>
(Res.pack (.one (.leaf (.int .i64))) v34).bind fun r36 =>
((rdT (.leaf .dyn) h35 (.hp h1.next 1 0)).bind fun x37 =>
((rdT (.leaf .slice) h35 (.hp h16.next 1 0)).bind fun x38 =>
(callQ T.dy x37 [.slice x38.a x38.len x38.cap x38.tail] h35 fun v39 h40 =>
(Res.pack (.one (.leaf (.int .i64))) v39).bind fun r41 =>
(some ((decide (r36 < r41)), h40))))))) else (some (true, h24))) else none)) else (some (false, h24)))))))))))).bind fun (y42, h43) =>
((bif y42 then ((rdRow true h43 [.int .i64] y21).bind fun s45 =>
((cloneP 8 s45).bind fun r44 =>
((H.wrs h43 (.hp h16.next 1 0) [.slice ((rowSV true [.int .i64] r44).a) r44.length r44.length true]).bind fun h46 =>
(some (.next (), h46))))) else (some (.next (), h43)) : Option (Flow (Unit) (SV × Int × Int) × H)).bind fun (fl48, h47) => match fl48 with
| .next _ =>
(H.endR h47 h20.next)
| .ret rr49 => none
| .ex0 _ => none
| .ex1 _ => none))))
noncomputable def blend_first (T : Table) (a0 : SV) (a1 : (SV × SV × SV × Int × Int × Int)) (a2 : V) (h : H) : Option ((SV × Int × Int) × H) :=
(match a1 with
| (a1_0, a1_1, a1_2, a1_3, a1_4, a1_5) =>
(let h1 : H := H.new h [.slice a1_0.a a1_0.len a1_0.cap a1_0.tail, .slice a1_1.a a1_1.len a1_1.cap a1_1.tail, .slice a1_2.a a1_2.len a1_2.cap a1_2.tail, .int .i64 a1_3, .int .i64 a1_4, .int .i64 a1_5] 6
(guardO (V.isCell a2 = true) (let h2 : H := H.new h1 [a2] 1
((rdT (.agg [.slice, .slice, .slice, .int .i64, .int .i64, .int .i64]) h2 (.hp h.next 6 0)).bind fun (x3_0, x3_1, x3_2, x3_3, x3_4, x3_5) =>
((rdRow true h2 [.int .i64, .int .i64] a0).bind fun s5 =>
((rdRow true h2 [.int .i64, .int .i64] x3_0).bind fun s6 =>
((rdRow true h2 [.int .i64] x3_1).bind fun s7 =>
((rdRow true h2 [.int .i64] x3_2).bind fun s8 =>
((blend_CheckP s5 (s6, s7, s8, x3_3, x3_4, x3_5)).bind fun r4 =>
(bif (!(decide (r4 = 0))) then (some ((⟨.nil, 0, 0, false⟩, 0, 1), h2)) else ((rdT (.agg [.slice, .slice, .slice, .int .i64, .int .i64, .int .i64]) h2 (.hp h.next 6 0)).bind fun (x9_0, x9_1, x9_2, x9_3, x9_4, x9_5) =>
((rdRow true h2 [.int .i64, .int .i64] a0).bind fun s11 =>
((rdRow true h2 [.int .i64, .int .i64] x9_0).bind fun s12 =>
((rdRow true h2 [.int .i64] x9_1).bind fun s13 =>
((rdRow true h2 [.int .i64] x9_2).bind fun s14 =>
((blend_edgeP s11 (s12, s13, s14, x9_3, x9_4, x9_5)).bind fun (r10_0, r10_1) =>
(let h15 : H := H.new h2 [.int .i64 0, .int .i64 0] 2
((H.wrs h15 (.hp h2.next 2 0) [.int .i64 r10_0, .int .i64 r10_1]).bind fun h16 =>
(let h17 : H := H.new h16 [.slice .nil 0 0 false] 1
((rdT (.agg [.slice, .slice, .slice, .int .i64, .int .i64, .int .i64]) h17 (.hp h.next 6 0)).bind fun (x18_0, x18_1, x18_2, x18_3, x18_4, x18_5) =>
((blend_plans (x18_0, x18_1, x18_2, x18_3, x18_4, x18_5) h17).bind fun (r19, h20) =>
((callIt (blend_first.tb T).dy (mkY [.leaf .slice] h20.next (blend_first.round1 T h h1 h2 h16 h20)) (r19 : V) [.yld h20.next] (H.newS h20 (.loop .ready))).bind fun h50 =>
((H.endL h50 h20.next).bind fun h51 =>
((rdT (.leaf .slice) h51 (.hp h16.next 1 0)).bind fun x52 =>
(bif !(V.mayNil (x52.a : V)) then (bif (!(V.nn (x52.a : V))) then (some ((⟨.nil, 0, 0, false⟩, 0, 20), h51)) else (let h53 : H := H.reserve h51 0
((rdT (.leaf .slice) h53 (.hp h16.next 1 0)).bind fun x54 =>
((rdT (.leaf .dyn) h53 (.hp h1.next 1 0)).bind fun x55 =>
((rdT (.leaf .slice) h53 (.hp h16.next 1 0)).bind fun x56 =>
(callQ T.dy x55 [.slice x56.a x56.len x56.cap x56.tail] h53 fun v57 h58 =>
(Res.pack (.one (.leaf (.int .i64))) v57).bind fun r59 =>
(some ((x54, r59, 0), h58)))))))) else none))))))))))))))))))))))))))
def blend_first.A : Ann := { lits := [], conds := [(38, [], [], none, none)], loops := [], regs := [(7, [38], [.leaf .bool])], rnds := [(21, [.leaf .slice])], qd := [32, 35, 46] }
theorem blend_first.eq (T : Table) : ∀ (x : TT [.leaf .slice, .agg [.slice, .slice, .slice, .int .i64, .int .i64, .int .i64], .leaf .dyn]) (h : H), evalFn Try.prog (blend_first.tb T) blend_first.A Try.f33 (.many [.leaf .slice, .leaf (.int .i64), .leaf (.int .i64)]) (TT.un [.leaf .slice, .agg [.slice, .slice, .slice, .int .i64, .int .i64, .int .i64], .leaf .dyn] x) h = blend_first T x.1 x.2.1 x.2.2 h := by
  intro x h
  kernel_rfl
noncomputable def blend_first.e (T : Table) : Entry := mkX [.leaf .slice, .agg [.slice, .slice, .slice, .int .i64, .int .i64, .int .i64], .leaf .dyn] (.many [.leaf .slice, .leaf (.int .i64), .leaf (.int .i64)]) fun x h => blend_first T x.1 x.2.1 x.2.2 h
theorem blend_first.ok (T : Table) (hT : TabOK Try.prog T) : EntryOK Try.prog 33 (blend_first.e T) := mkX_ok (blend_first.tbok T hT) Try.mixed Try.func33 (by kernel_rfl) (blend_first.eq T)

/-! ### spile/blend.cost: function 35 -/
noncomputable def blend_cost.tb : Table := tab [] [] Table.nil
theorem blend_cost.tbok : TabOK Try.prog (blend_cost.tb) := TabOK.tab (TabOK.nil Try.prog) (all_nil _) (all_nil _)
noncomputable def blend_cost.loop1 (h : H) (a1 : SV) : (Int × Int) × H → Option (Stp ((Int × Int) × H) (Flow (Int) (Int) × H)) := fun ((y2, y3), h4) =>
(bif (decide (y3 < ((a1.len : Nat) : Int))) then (guardO (0 ≤ y3 ∧ y3 < ((a1.len : Nat) : Int)) ((rdT (.leaf (.int .i64)) h4 (V.add a1.a (Int.toNat y3 * 1))).bind fun x5 =>
((rdT (.leaf .slice) h4 (.hp h.next 6 2)).bind fun x6 =>
(guardO (0 ≤ y3 ∧ y3 < ((x6.len : Nat) : Int)) ((rdT (.leaf (.int .i64)) h4 (V.add x6.a (Int.toNat y3 * 1))).bind fun x7 =>
(some (.more (((IntKind.wrap .i64 (y2 + (IntKind.wrap .i64 (x5 * x7)))), (IntKind.wrap .i64 (y3 + 1))), h4)))))))) else (some (.done (.ex0 y2, h4))))
noncomputable def blend_cost (a0 : (SV × SV × SV × Int × Int × Int)) (a1 : SV) (h : H) : Option ((Int) × H) :=
(match a0 with
| (a0_0, a0_1, a0_2, a0_3, a0_4, a0_5) =>
(let h1 : H := H.new h [.slice a0_0.a a0_0.len a0_0.cap a0_0.tail, .slice a0_1.a a0_1.len a0_1.cap a0_1.tail, .slice a0_2.a a0_2.len a0_2.cap a0_2.tail, .int .i64 a0_3, .int .i64 a0_4, .int .i64 a0_5] 6
((iter FUEL (blend_cost.loop1 h a1) ((0, 0), h1)).bind fun (fl9, h8) => match fl9 with
| .next _ => none
| .ret rr10 => (some (rr10, h8))
| .ex0 y11 =>
(some (y11, h8))
| .ex1 _ => none)))
def blend_cost.A : Ann := { lits := [], conds := [], loops := [(3, [5, 10], [.leaf (.int .i64), .leaf (.int .i64)], [5], [.leaf (.int .i64)], some 0, none)], regs := [] }
theorem blend_cost.eq : ∀ (x : TT [.agg [.slice, .slice, .slice, .int .i64, .int .i64, .int .i64], .leaf .slice]) (h : H), evalFn Try.prog (blend_cost.tb) blend_cost.A Try.f35 (.one (.leaf (.int .i64))) (TT.un [.agg [.slice, .slice, .slice, .int .i64, .int .i64, .int .i64], .leaf .slice] x) h = blend_cost x.1 x.2 h := by
  intro x h
  kernel_rfl
noncomputable def blend_cost.e : Entry := mkX [.agg [.slice, .slice, .slice, .int .i64, .int .i64, .int .i64], .leaf .slice] (.one (.leaf (.int .i64))) fun x h => blend_cost x.1 x.2 h
theorem blend_cost.ok : EntryOK Try.prog 35 (blend_cost.e) := mkX_ok (blend_cost.tbok) Try.mixed Try.func35 (by kernel_rfl) (blend_cost.eq)
noncomputable def blend_costP (a0 : ((List (Int × Int)) × (List (Int)) × (List (Int)) × Int × Int × Int)) (a1 : (List (Int))) : Option (Int) := (blend_cost (rowSV false [.int .i64, .int .i64] a0.1, rowSV false [.int .i64] a0.2.1, rowSV false [.int .i64] a0.2.2.1, a0.2.2.2.1, a0.2.2.2.2.1, a0.2.2.2.2.2) (rowSV false [.int .i64] a1) H.empty).bind fun p => rdRes false p.2 (.one (.leaf (.int .i64))) (Res.un (.one (.leaf (.int .i64))) p.1)
theorem blend_costP.eq : ∀ x : TT [.agg [.row [.int .i64, .int .i64], .row [.int .i64], .row [.int .i64], .int .i64, .int .i64, .int .i64], .leaf (.row [.int .i64])], ((evalFn Try.prog (blend_cost.tb) blend_cost.A Try.f35 (.one (.leaf (.int .i64))) (TT.lo false [.agg [.row [.int .i64, .int .i64], .row [.int .i64], .row [.int .i64], .int .i64, .int .i64, .int .i64], .leaf (.row [.int .i64])] x) H.empty).bind fun p => rdRes false p.2 (.one (.leaf (.int .i64))) (Res.un (.one (.leaf (.int .i64))) p.1)) = blend_costP x.1 x.2 := by
  intro x
  rw [show TT.lo false [.agg [.row [.int .i64, .int .i64], .row [.int .i64], .row [.int .i64], .int .i64, .int .i64, .int .i64], .leaf (.row [.int .i64])] x = TT.un [.agg [.slice, .slice, .slice, .int .i64, .int .i64, .int .i64], .leaf .slice] ((rowSV false [.int .i64, .int .i64] x.1.1, rowSV false [.int .i64] x.1.2.1, rowSV false [.int .i64] x.1.2.2.1, x.1.2.2.2.1, x.1.2.2.2.2.1, x.1.2.2.2.2.2), (rowSV false [.int .i64] x.2)) from rfl, blend_cost.eq]
  rfl
noncomputable def blend_costP.e : Entry := mkP [.agg [.row [.int .i64, .int .i64], .row [.int .i64], .row [.int .i64], .int .i64, .int .i64, .int .i64], .leaf (.row [.int .i64])] (.one (.leaf (.int .i64))) fun x => blend_costP x.1 x.2
theorem blend_costP.ok : EntryOK Try.prog 35 (blend_costP.e) := mkP_ok (blend_cost.tbok) Try.mixed Try.func35 (by kernel_rfl) blend_costP.eq

/-! ### spile/blend.Best$1: function 34 -/
noncomputable def blend_Best_1.tb : Table := tab [(35, blend_costP.e)] [] Table.nil
theorem blend_Best_1.tbok : TabOK Try.prog (blend_Best_1.tb) := TabOK.tab (TabOK.nil Try.prog) (all_cons blend_costP.ok (all_nil _)) (all_nil _)
noncomputable def blend_Best_1 (a0 : SV) (a1 : V) (h : H) : Option ((Int) × H) :=
((rdT (.agg [.slice, .slice, .slice, .int .i64, .int .i64, .int .i64]) h a1).bind fun (x1_0, x1_1, x1_2, x1_3, x1_4, x1_5) =>
((rdRow true h [.int .i64, .int .i64] x1_0).bind fun s3 =>
((rdRow true h [.int .i64] x1_1).bind fun s4 =>
((rdRow true h [.int .i64] x1_2).bind fun s5 =>
((rdRow true h [.int .i64] a0).bind fun s6 =>
((blend_costP (s3, s4, s5, x1_3, x1_4, x1_5) s6).bind fun r2 =>
(some (r2, h))))))))
def blend_Best_1.A : Ann := { lits := [], conds := [], loops := [], regs := [] }
theorem blend_Best_1.eq : ∀ (x : TT [.leaf .slice, .leaf .ptr]) (h : H), evalFn Try.prog (blend_Best_1.tb) blend_Best_1.A Try.f34 (.one (.leaf (.int .i64))) (TT.un [.leaf .slice, .leaf .ptr] x) h = blend_Best_1 x.1 x.2 h := by
  intro x h
  kernel_rfl
noncomputable def blend_Best_1.r (a0 : SV) (a1 : V) (h : H) : Option (Int) := (blend_Best_1 a0 a1 h).bind fun p => some p.1
theorem blend_Best_1.eqr : ∀ (x : TT [.leaf .slice, .leaf .ptr]) (h : H), evalFn Try.prog (blend_Best_1.tb) blend_Best_1.A Try.f34 (.one (.leaf (.int .i64))) (TT.un [.leaf .slice, .leaf .ptr] x) h = (blend_Best_1.r x.1 x.2 h).bind fun p => some (p, h) := by
  intro x h
  rw [blend_Best_1.eq]
  simp only [blend_Best_1, blend_Best_1.r, Option.bind_assoc, Option.bind_some, guardO_bind]
noncomputable def blend_Best_1.e : Entry := mkR [.leaf .slice, .leaf .ptr] (.one (.leaf (.int .i64))) fun x h => blend_Best_1.r x.1 x.2 h
theorem blend_Best_1.ok : EntryOK Try.prog 34 (blend_Best_1.e) := mkR_ok (blend_Best_1.tbok) Try.mixed Try.func34 (by kernel_rfl) (blend_Best_1.eqr)

/-! ### spile/blend.Best: function 12 -/
noncomputable def blend_Best.tb : Table := tab [] [(34, blend_Best_1.e)] Table.nil
theorem blend_Best.tbok : TabOK Try.prog (blend_Best.tb) := TabOK.tab (TabOK.nil Try.prog) (all_nil _) (all_cons blend_Best_1.ok (all_nil _))
noncomputable def blend_Best (a0 : SV) (a1 : (SV × SV × SV × Int × Int × Int)) (h : H) : Option ((SV × Int × Int) × H) :=
(match a1 with
| (a1_0, a1_1, a1_2, a1_3, a1_4, a1_5) =>
(let h1 : H := H.new h [.slice a1_0.a a1_0.len a1_0.cap a1_0.tail, .slice a1_1.a a1_1.len a1_1.cap a1_1.tail, .slice a1_2.a a1_2.len a1_2.cap a1_2.tail, .int .i64 a1_3, .int .i64 a1_4, .int .i64 a1_5] 6
((rdT (.agg [.slice, .slice, .slice, .int .i64, .int .i64, .int .i64]) h1 (.hp h.next 6 0)).bind fun (x2_0, x2_1, x2_2, x2_3, x2_4, x2_5) =>
((blend_first blend_Best.tb a0 (x2_0, x2_1, x2_2, x2_3, x2_4, x2_5) (.func 34 [.hp h.next 6 0] : V) h1).bind fun ((r3, r4, r5), h6) =>
(some ((r3, r4, r5), h6))))))
def blend_Best.A : Ann := { lits := [], conds := [], loops := [], regs := [] }
noncomputable def blend_Best.tc : Table := tab [(33, blend_first.e (blend_Best.tb))] [] (blend_Best.tb)
theorem blend_Best.tcok : TabOK Try.prog (blend_Best.tc) := TabOK.tab (blend_Best.tbok) (all_cons (blend_first.ok _ (blend_Best.tbok)) (all_nil _)) (all_nil _)
theorem blend_Best.eq : ∀ (x : TT [.leaf .slice, .agg [.slice, .slice, .slice, .int .i64, .int .i64, .int .i64]]) (h : H), evalFn Try.prog (blend_Best.tc) blend_Best.A Try.f12 (.many [.leaf .slice, .leaf (.int .i64), .leaf (.int .i64)]) (TT.un [.leaf .slice, .agg [.slice, .slice, .slice, .int .i64, .int .i64, .int .i64]] x) h = blend_Best x.1 x.2 h := by
  intro x h
  kernel_rfl
noncomputable def blend_Best.e : Entry := mkX [.leaf .slice, .agg [.slice, .slice, .slice, .int .i64, .int .i64, .int .i64]] (.many [.leaf .slice, .leaf (.int .i64), .leaf (.int .i64)]) fun x h => blend_Best x.1 x.2 h
theorem blend_Best.ok : EntryOK Try.prog 12 (blend_Best.e) := mkX_ok (blend_Best.tcok) Try.mixed Try.func12 (by kernel_rfl) (blend_Best.eq)
noncomputable def blend_BestP (a0 : (List (Int × Int))) (a1 : ((List (Int × Int)) × (List (Int)) × (List (Int)) × Int × Int × Int)) : Option ((List (Int)) × Int × Int) := (blend_Best (rowSV false [.int .i64, .int .i64] a0) (rowSV false [.int .i64, .int .i64] a1.1, rowSV false [.int .i64] a1.2.1, rowSV false [.int .i64] a1.2.2.1, a1.2.2.2.1, a1.2.2.2.2.1, a1.2.2.2.2.2) H.empty).bind fun p => rdRes false p.2 (.many [.leaf (.row [.int .i64]), .leaf (.int .i64), .leaf (.int .i64)]) (Res.un (.many [.leaf .slice, .leaf (.int .i64), .leaf (.int .i64)]) p.1)
theorem blend_BestP.eq : ∀ x : TT [.leaf (.row [.int .i64, .int .i64]), .agg [.row [.int .i64, .int .i64], .row [.int .i64], .row [.int .i64], .int .i64, .int .i64, .int .i64]], ((evalFn Try.prog (blend_Best.tc) blend_Best.A Try.f12 (.many [.leaf .slice, .leaf (.int .i64), .leaf (.int .i64)]) (TT.lo false [.leaf (.row [.int .i64, .int .i64]), .agg [.row [.int .i64, .int .i64], .row [.int .i64], .row [.int .i64], .int .i64, .int .i64, .int .i64]] x) H.empty).bind fun p => rdRes false p.2 (.many [.leaf (.row [.int .i64]), .leaf (.int .i64), .leaf (.int .i64)]) (Res.un (.many [.leaf .slice, .leaf (.int .i64), .leaf (.int .i64)]) p.1)) = blend_BestP x.1 x.2 := by
  intro x
  rw [show TT.lo false [.leaf (.row [.int .i64, .int .i64]), .agg [.row [.int .i64, .int .i64], .row [.int .i64], .row [.int .i64], .int .i64, .int .i64, .int .i64]] x = TT.un [.leaf .slice, .agg [.slice, .slice, .slice, .int .i64, .int .i64, .int .i64]] ((rowSV false [.int .i64, .int .i64] x.1), (rowSV false [.int .i64, .int .i64] x.2.1, rowSV false [.int .i64] x.2.2.1, rowSV false [.int .i64] x.2.2.2.1, x.2.2.2.2.1, x.2.2.2.2.2.1, x.2.2.2.2.2.2)) from rfl, blend_Best.eq]
  rfl
noncomputable def blend_BestP.e : Entry := mkP [.leaf (.row [.int .i64, .int .i64]), .agg [.row [.int .i64, .int .i64], .row [.int .i64], .row [.int .i64], .int .i64, .int .i64, .int .i64]] (.many [.leaf (.row [.int .i64]), .leaf (.int .i64), .leaf (.int .i64)]) fun x => blend_BestP x.1 x.2
theorem blend_BestP.ok : EntryOK Try.prog 12 (blend_BestP.e) := mkP_ok (blend_Best.tcok) Try.mixed Try.func12 (by kernel_rfl) blend_BestP.eq
end Go.Proofs.Ytfkabibbaajfhaa
