/- The functions of the program as Lean functions, each with the equation by which the evaluator is that function. Written by a program of this session (evdrive.py). Conditions: none. -/
import Derived.Test.YtfkabibbaajfhaaProg
import Derived.Test.YtfkabibbaajfhaaEvSpec
import Derived.Test.YtfkabibbaajfhaaFn4
namespace Go.Proofs.Ytfkabibbaajfhaa
open Go Go.Proofs.Ytfkabibbaajfhaa.Ev
set_option maxRecDepth 100000
set_option linter.unusedVariables false
/-! ### spile/blend.plain: function 48 -/
noncomputable def blend_plain.tb : Table := tab [(26, mix_SumP.e)] [] Table.nil
theorem blend_plain.tbok : TabOK Try.prog (blend_plain.tb) := TabOK.tab (TabOK.nil Try.prog) (all_cons mix_SumP.ok (all_nil _)) (all_nil _)
noncomputable def blend_plain (a0 : (Int × Int)) (h : H) : Option ((Bool) × H) :=
(match a0 with
| (a0_0, a0_1) =>
(let h1 : H := H.new h [.int .i64 a0_0, .int .i64 a0_1] 2
((rdT (.agg [.int .i64, .int .i64]) h1 (.hp h.next 2 0)).bind fun (x2_0, x2_1) =>
((rdRow true h1 [.int .i64, .int .i64] ⟨.lp true ([.int .i64 x2_0, .int .i64 x2_1]) 0, 1, 1, false⟩).bind fun s5 =>
((mix_SumP s5).bind fun ((r3_0, r3_1), r4) =>
(let h6 : H := H.new h1 [.int .i64 0, .int .i64 0] 2
((H.wrs h6 (.hp h1.next 2 0) [.int .i64 r3_0, .int .i64 r3_1]).bind fun h7 =>
(some ((decide (r4 = 0)), h7)))))))))
def blend_plain.A : Ann := { lits := [], conds := [], loops := [], regs := [] }
theorem blend_plain.eq : ∀ (x : TT [.agg [.int .i64, .int .i64]]) (h : H), evalFn Try.prog (blend_plain.tb) blend_plain.A Try.f48 (.one (.leaf .bool)) (TT.un [.agg [.int .i64, .int .i64]] x) h = blend_plain x h := by
  intro x h
  kernel_rfl
noncomputable def blend_plain.e : Entry := mkX [.agg [.int .i64, .int .i64]] (.one (.leaf .bool)) fun x h => blend_plain x h
theorem blend_plain.ok : EntryOK Try.prog 48 (blend_plain.e) := mkX_ok (blend_plain.tbok) Try.mixed Try.func48 (by kernel_rfl) (blend_plain.eq)
noncomputable def blend_plainP (a0 : (Int × Int)) : Option (Bool) := (blend_plain a0 H.empty).bind fun p => rdRes false p.2 (.one (.leaf .bool)) (Res.un (.one (.leaf .bool)) p.1)
theorem blend_plainP.eq : ∀ x : TT [.agg [.int .i64, .int .i64]], ((evalFn Try.prog (blend_plain.tb) blend_plain.A Try.f48 (.one (.leaf .bool)) (TT.lo false [.agg [.int .i64, .int .i64]] x) H.empty).bind fun p => rdRes false p.2 (.one (.leaf .bool)) (Res.un (.one (.leaf .bool)) p.1)) = blend_plainP x := by
  intro x
  rw [show TT.lo false [.agg [.int .i64, .int .i64]] x = TT.un [.agg [.int .i64, .int .i64]] (x) from rfl, blend_plain.eq]
  rfl
noncomputable def blend_plainP.e : Entry := mkP [.agg [.int .i64, .int .i64]] (.one (.leaf .bool)) fun x => blend_plainP x
theorem blend_plainP.ok : EntryOK Try.prog 48 (blend_plainP.e) := mkP_ok (blend_plain.tbok) Try.mixed Try.func48 (by kernel_rfl) blend_plainP.eq

/-! ### spile/blend.Of$1: function 47 -/
noncomputable def blend_Of_1.tb : Table := tab [(48, blend_plainP.e)] [] Table.nil
theorem blend_Of_1.tbok : TabOK Try.prog (blend_Of_1.tb) := TabOK.tab (TabOK.nil Try.prog) (all_cons blend_plainP.ok (all_nil _)) (all_nil _)
noncomputable def blend_Of_1 (a0 : (Int × Int)) (h : H) : Option ((Bool) × H) :=
(match a0 with
| (a0_0, a0_1) =>
(let h1 : H := H.new h [.int .i64 a0_0, .int .i64 a0_1] 2
((((rdT (.agg [.int .i64, .int .i64]) h1 (.hp h.next 2 0)).bind fun (x2_0, x2_1) =>
((blend_plainP (x2_0, x2_1)).bind fun r3 =>
(bif !(!r3) then ((rdT (.leaf (.int .i64)) h1 (.hp h.next 2 1)).bind fun x4 =>
(some ((decide ((1000000000 : Int) < x4)), h1))) else (some (true, h1)))))).bind fun (y5, h6) =>
(some (y5, h6)))))
def blend_Of_1.A : Ann := { lits := [], conds := [], loops := [], regs := [(1, [2], [.leaf .bool])] }
theorem blend_Of_1.eq : ∀ (x : TT [.agg [.int .i64, .int .i64]]) (h : H), evalFn Try.prog (blend_Of_1.tb) blend_Of_1.A Try.f47 (.one (.leaf .bool)) (TT.un [.agg [.int .i64, .int .i64]] x) h = blend_Of_1 x h := by
  intro x h
  kernel_rfl
noncomputable def blend_Of_1.e : Entry := mkX [.agg [.int .i64, .int .i64]] (.one (.leaf .bool)) fun x h => blend_Of_1 x h
theorem blend_Of_1.ok : EntryOK Try.prog 47 (blend_Of_1.e) := mkX_ok (blend_Of_1.tbok) Try.mixed Try.func47 (by kernel_rfl) (blend_Of_1.eq)
noncomputable def blend_Of_1P (a0 : (Int × Int)) : Option (Bool) := (blend_Of_1 a0 H.empty).bind fun p => rdRes false p.2 (.one (.leaf .bool)) (Res.un (.one (.leaf .bool)) p.1)
theorem blend_Of_1P.eq : ∀ x : TT [.agg [.int .i64, .int .i64]], ((evalFn Try.prog (blend_Of_1.tb) blend_Of_1.A Try.f47 (.one (.leaf .bool)) (TT.lo false [.agg [.int .i64, .int .i64]] x) H.empty).bind fun p => rdRes false p.2 (.one (.leaf .bool)) (Res.un (.one (.leaf .bool)) p.1)) = blend_Of_1P x := by
  intro x
  rw [show TT.lo false [.agg [.int .i64, .int .i64]] x = TT.un [.agg [.int .i64, .int .i64]] (x) from rfl, blend_Of_1.eq]
  rfl
noncomputable def blend_Of_1P.e : Entry := mkP [.agg [.int .i64, .int .i64]] (.one (.leaf .bool)) fun x => blend_Of_1P x
theorem blend_Of_1P.ok : EntryOK Try.prog 47 (blend_Of_1P.e) := mkP_ok (blend_Of_1.tbok) Try.mixed Try.func47 (by kernel_rfl) blend_Of_1P.eq

/-! ### spile/blend.few: function 49 -/
noncomputable def blend_few.tb : Table := tab [] [] Table.nil
theorem blend_few.tbok : TabOK Try.prog (blend_few.tb) := TabOK.tab (TabOK.nil Try.prog) (all_nil _) (all_nil _)
noncomputable def blend_few.loop1 (h : H) (a1 : SV) : (Int) × H → Option (Stp ((Int) × H) (Flow (Unit) (Bool) × H)) := fun (y2, h3) =>
(bif (decide (y2 < ((a1.len : Nat) : Int))) then (guardO (0 ≤ y2 ∧ y2 < ((a1.len : Nat) : Int)) ((rdT (.leaf (.int .i64)) h3 (V.add a1.a (Int.toNat y2 * 1))).bind fun x4 =>
(((bif !(decide (x4 < 0)) then ((rdT (.leaf .slice) h3 (.hp h.next 6 1)).bind fun x5 =>
(guardO (0 ≤ y2 ∧ y2 < ((x5.len : Nat) : Int)) ((rdT (.leaf (.int .i64)) h3 (V.add x5.a (Int.toNat y2 * 1))).bind fun x6 =>
(some ((decide (x6 < x4)), h3))))) else (some (true, h3)))).bind fun (y7, h8) =>
(bif y7 then (some (.done (.ret false, h8))) else (some (.more ((IntKind.wrap .i64 (y2 + 1)), h8))))))) else (some (.done (.ex0 (), h3))))
noncomputable def blend_few (a0 : (SV × SV × SV × Int × Int × Int)) (a1 : SV) (h : H) : Option ((Bool) × H) :=
(match a0 with
| (a0_0, a0_1, a0_2, a0_3, a0_4, a0_5) =>
(let h1 : H := H.new h [.slice a0_0.a a0_0.len a0_0.cap a0_0.tail, .slice a0_1.a a0_1.len a0_1.cap a0_1.tail, .slice a0_2.a a0_2.len a0_2.cap a0_2.tail, .int .i64 a0_3, .int .i64 a0_4, .int .i64 a0_5] 6
((iter FUEL (blend_few.loop1 h a1) (0, h1)).bind fun (fl10, h9) => match fl10 with
| .next _ => none
| .ret rr11 => (some (rr11, h9))
| .ex0 _ =>
(some (true, h9))
| .ex1 _ => none)))
def blend_few.A : Ann := { lits := [], conds := [], loops := [(2, [9], [.leaf (.int .i64)], [], [], some 0, none)], regs := [(4, [24], [.leaf .bool])] }
theorem blend_few.eq : ∀ (x : TT [.agg [.slice, .slice, .slice, .int .i64, .int .i64, .int .i64], .leaf .slice]) (h : H), evalFn Try.prog (blend_few.tb) blend_few.A Try.f49 (.one (.leaf .bool)) (TT.un [.agg [.slice, .slice, .slice, .int .i64, .int .i64, .int .i64], .leaf .slice] x) h = blend_few x.1 x.2 h := by
  intro x h
  kernel_rfl
noncomputable def blend_few.e : Entry := mkX [.agg [.slice, .slice, .slice, .int .i64, .int .i64, .int .i64], .leaf .slice] (.one (.leaf .bool)) fun x h => blend_few x.1 x.2 h
theorem blend_few.ok : EntryOK Try.prog 49 (blend_few.e) := mkX_ok (blend_few.tbok) Try.mixed Try.func49 (by kernel_rfl) (blend_few.eq)
noncomputable def blend_fewP (a0 : ((List (Int × Int)) × (List (Int)) × (List (Int)) × Int × Int × Int)) (a1 : (List (Int))) : Option (Bool) := (blend_few (rowSV false [.int .i64, .int .i64] a0.1, rowSV false [.int .i64] a0.2.1, rowSV false [.int .i64] a0.2.2.1, a0.2.2.2.1, a0.2.2.2.2.1, a0.2.2.2.2.2) (rowSV false [.int .i64] a1) H.empty).bind fun p => rdRes false p.2 (.one (.leaf .bool)) (Res.un (.one (.leaf .bool)) p.1)
theorem blend_fewP.eq : ∀ x : TT [.agg [.row [.int .i64, .int .i64], .row [.int .i64], .row [.int .i64], .int .i64, .int .i64, .int .i64], .leaf (.row [.int .i64])], ((evalFn Try.prog (blend_few.tb) blend_few.A Try.f49 (.one (.leaf .bool)) (TT.lo false [.agg [.row [.int .i64, .int .i64], .row [.int .i64], .row [.int .i64], .int .i64, .int .i64, .int .i64], .leaf (.row [.int .i64])] x) H.empty).bind fun p => rdRes false p.2 (.one (.leaf .bool)) (Res.un (.one (.leaf .bool)) p.1)) = blend_fewP x.1 x.2 := by
  intro x
  rw [show TT.lo false [.agg [.row [.int .i64, .int .i64], .row [.int .i64], .row [.int .i64], .int .i64, .int .i64, .int .i64], .leaf (.row [.int .i64])] x = TT.un [.agg [.slice, .slice, .slice, .int .i64, .int .i64, .int .i64], .leaf .slice] ((rowSV false [.int .i64, .int .i64] x.1.1, rowSV false [.int .i64] x.1.2.1, rowSV false [.int .i64] x.1.2.2.1, x.1.2.2.2.1, x.1.2.2.2.2.1, x.1.2.2.2.2.2), (rowSV false [.int .i64] x.2)) from rfl, blend_few.eq]
  rfl
noncomputable def blend_fewP.e : Entry := mkP [.agg [.row [.int .i64, .int .i64], .row [.int .i64], .row [.int .i64], .int .i64, .int .i64, .int .i64], .leaf (.row [.int .i64])] (.one (.leaf .bool)) fun x => blend_fewP x.1 x.2
theorem blend_fewP.ok : EntryOK Try.prog 49 (blend_fewP.e) := mkP_ok (blend_few.tbok) Try.mixed Try.func49 (by kernel_rfl) blend_fewP.eq

/-! ### spile/blend.Of: function 21 -/
noncomputable def blend_Of.tb : Table := tab [(48, blend_plainP.e), (49, blend_fewP.e), (51, blend_outside.e), (52, blend_mixedP.e)] [(47, blend_Of_1P.e), (77, blend_outside_1.e)] Table.nil
theorem blend_Of.tbok : TabOK Try.prog (blend_Of.tb) := TabOK.tab (TabOK.nil Try.prog) (all_cons blend_plainP.ok (all_cons blend_fewP.ok (all_cons blend_outside.ok (all_cons blend_mixedP.ok (all_nil _))))) (all_cons blend_Of_1P.ok (all_cons blend_outside_1.ok (all_nil _)))
noncomputable def blend_Of (a0 : (SV × SV × SV × Int × Int × Int)) (a1 : SV) (h : H) : Option (((Int × Int) × Int) × H) :=
(match a0 with
| (a0_0, a0_1, a0_2, a0_3, a0_4, a0_5) =>
(let h1 : H := H.new h [.slice a0_0.a a0_0.len a0_0.cap a0_0.tail, .slice a0_1.a a0_1.len a0_1.cap a0_1.tail, .slice a0_2.a a0_2.len a0_2.cap a0_2.tail, .int .i64 a0_3, .int .i64 a0_4, .int .i64 a0_5] 6
(let h2 : H := H.new h1 [.int .i64 0, .int .i64 0] 2
((rdT (.leaf .slice) h2 (.hp h.next 6 0)).bind fun x3 =>
(bif (decide ((4 : Int) < ((x3.len : Nat) : Int))) then ((H.wrs h2 (.hp h1.next 2 0) [.int .i64 0, .int .i64 0]).bind fun h4 =>
((rdT (.agg [.int .i64, .int .i64]) h4 (.hp h1.next 2 0 : V)).bind fun (x5_0, x5_1) =>
(some (((x5_0, x5_1), 8), h4)))) else ((((rdT (.leaf .slice) h2 (.hp h.next 6 1)).bind fun x6 =>
((rdT (.leaf .slice) h2 (.hp h.next 6 0)).bind fun x7 =>
(bif !(!(decide (((x6.len : Nat) : Int) = ((x7.len : Nat) : Int)))) then ((rdT (.leaf .slice) h2 (.hp h.next 6 0)).bind fun x8 =>
(some ((!(decide (((a1.len : Nat) : Int) = ((x8.len : Nat) : Int)))), h2))) else (some (true, h2)))))).bind fun (y9, h10) =>
(bif y9 then ((H.wrs h10 (.hp h1.next 2 0) [.int .i64 0, .int .i64 0]).bind fun h11 =>
((rdT (.agg [.int .i64, .int .i64]) h11 (.hp h1.next 2 0 : V)).bind fun (x12_0, x12_1) =>
(some (((x12_0, x12_1), 10), h11)))) else ((rdT (.leaf .slice) h10 (.hp h.next 6 0)).bind fun x13 =>
((slices_ContainsFunc_api_Liquid_api_Liquid blend_Of.tb x13 (.func 47 [] : V) h10).bind fun (r14, h15) =>
(bif r14 then ((H.wrs h15 (.hp h1.next 2 0) [.int .i64 0, .int .i64 0]).bind fun h16 =>
((rdT (.agg [.int .i64, .int .i64]) h16 (.hp h1.next 2 0 : V)).bind fun (x17_0, x17_1) =>
(some (((x17_0, x17_1), 1), h16)))) else ((((rdT (.agg [.slice, .slice, .slice, .int .i64, .int .i64, .int .i64]) h15 (.hp h.next 6 0)).bind fun (x18_0, x18_1, x18_2, x18_3, x18_4, x18_5) =>
((rdRow true h15 [.int .i64, .int .i64] x18_0).bind fun s20 =>
((rdRow true h15 [.int .i64] x18_1).bind fun s21 =>
((rdRow true h15 [.int .i64] x18_2).bind fun s22 =>
((rdRow true h15 [.int .i64] a1).bind fun s23 =>
((blend_fewP (s20, s21, s22, x18_3, x18_4, x18_5) s23).bind fun r19 =>
(bif !(!r19) then ((blend_outside.q 64).bind fun r24 =>
((slices_ContainsFunc_int_int blend_Of.tb a1 r24 h15).bind fun (r25, h26) =>
(some (r25, h26)))) else (some (true, h15)))))))))).bind fun (y27, h28) =>
(bif y27 then ((H.wrs h28 (.hp h1.next 2 0) [.int .i64 0, .int .i64 0]).bind fun h29 =>
((rdT (.agg [.int .i64, .int .i64]) h29 (.hp h1.next 2 0 : V)).bind fun (x30_0, x30_1) =>
(some (((x30_0, x30_1), 2), h29)))) else ((rdT (.agg [.slice, .slice, .slice, .int .i64, .int .i64, .int .i64]) h28 (.hp h.next 6 0)).bind fun (x31_0, x31_1, x31_2, x31_3, x31_4, x31_5) =>
((rdRow true h28 [.int .i64, .int .i64] x31_0).bind fun s33 =>
((rdRow true h28 [.int .i64] x31_1).bind fun s34 =>
((rdRow true h28 [.int .i64] x31_2).bind fun s35 =>
((rdRow true h28 [.int .i64] a1).bind fun s36 =>
((blend_mixedP (s33, s34, s35, x31_3, x31_4, x31_5) s36).bind fun (r32_0, r32_1) =>
(let h37 : H := H.new h28 [.int .i64 0, .int .i64 0] 2
((H.wrs h37 (.hp h28.next 2 0) [.int .i64 r32_0, .int .i64 r32_1]).bind fun h38 =>
((rdT (.agg [.int .i64, .int .i64]) h38 (.hp h28.next 2 0)).bind fun (x39_0, x39_1) =>
((blend_plainP (x39_0, x39_1)).bind fun r40 =>
(bif (!r40) then ((H.wrs h38 (.hp h1.next 2 0) [.int .i64 0, .int .i64 0]).bind fun h41 =>
((rdT (.agg [.int .i64, .int .i64]) h41 (.hp h1.next 2 0 : V)).bind fun (x42_0, x42_1) =>
(some (((x42_0, x42_1), 15), h41)))) else ((rdT (.agg [.int .i64, .int .i64]) h38 (.hp h28.next 2 0)).bind fun (x43_0, x43_1) =>
((H.wrs h38 (.hp h1.next 2 0) [.int .i64 x43_0, .int .i64 x43_1]).bind fun h44 =>
((rdT (.agg [.int .i64, .int .i64]) h44 (.hp h1.next 2 0 : V)).bind fun (x45_0, x45_1) =>
(some (((x45_0, x45_1), 0), h44))))))))))))))))))))))))))))
def blend_Of.A : Ann := { lits := [], conds := [], loops := [], regs := [(3, [13], [.leaf .bool]), (7, [35], [.leaf .bool])] }
noncomputable def blend_Of.tc : Table := tab [(46, slices_ContainsFunc_api_Liquid_api_Liquid.e (blend_Of.tb)), (50, slices_ContainsFunc_int_int.e (blend_Of.tb))] [] (blend_Of.tb)
theorem blend_Of.tcok : TabOK Try.prog (blend_Of.tc) := TabOK.tab (blend_Of.tbok) (all_cons (slices_ContainsFunc_api_Liquid_api_Liquid.ok _ (blend_Of.tbok)) (all_cons (slices_ContainsFunc_int_int.ok _ (blend_Of.tbok)) (all_nil _))) (all_nil _)
theorem blend_Of.eq : ∀ (x : TT [.agg [.slice, .slice, .slice, .int .i64, .int .i64, .int .i64], .leaf .slice]) (h : H), evalFn Try.prog (blend_Of.tc) blend_Of.A Try.f21 (.many [.agg [.int .i64, .int .i64], .leaf (.int .i64)]) (TT.un [.agg [.slice, .slice, .slice, .int .i64, .int .i64, .int .i64], .leaf .slice] x) h = blend_Of x.1 x.2 h := by
  intro x h
  kernel_rfl
noncomputable def blend_Of.e : Entry := mkX [.agg [.slice, .slice, .slice, .int .i64, .int .i64, .int .i64], .leaf .slice] (.many [.agg [.int .i64, .int .i64], .leaf (.int .i64)]) fun x h => blend_Of x.1 x.2 h
theorem blend_Of.ok : EntryOK Try.prog 21 (blend_Of.e) := mkX_ok (blend_Of.tcok) Try.mixed Try.func21 (by kernel_rfl) (blend_Of.eq)
noncomputable def blend_OfP (a0 : ((List (Int × Int)) × (List (Int)) × (List (Int)) × Int × Int × Int)) (a1 : (List (Int))) : Option ((Int × Int) × Int) := (blend_Of (rowSV false [.int .i64, .int .i64] a0.1, rowSV false [.int .i64] a0.2.1, rowSV false [.int .i64] a0.2.2.1, a0.2.2.2.1, a0.2.2.2.2.1, a0.2.2.2.2.2) (rowSV false [.int .i64] a1) H.empty).bind fun p => rdRes false p.2 (.many [.agg [.int .i64, .int .i64], .leaf (.int .i64)]) (Res.un (.many [.agg [.int .i64, .int .i64], .leaf (.int .i64)]) p.1)
theorem blend_OfP.eq : ∀ x : TT [.agg [.row [.int .i64, .int .i64], .row [.int .i64], .row [.int .i64], .int .i64, .int .i64, .int .i64], .leaf (.row [.int .i64])], ((evalFn Try.prog (blend_Of.tc) blend_Of.A Try.f21 (.many [.agg [.int .i64, .int .i64], .leaf (.int .i64)]) (TT.lo false [.agg [.row [.int .i64, .int .i64], .row [.int .i64], .row [.int .i64], .int .i64, .int .i64, .int .i64], .leaf (.row [.int .i64])] x) H.empty).bind fun p => rdRes false p.2 (.many [.agg [.int .i64, .int .i64], .leaf (.int .i64)]) (Res.un (.many [.agg [.int .i64, .int .i64], .leaf (.int .i64)]) p.1)) = blend_OfP x.1 x.2 := by
  intro x
  rw [show TT.lo false [.agg [.row [.int .i64, .int .i64], .row [.int .i64], .row [.int .i64], .int .i64, .int .i64, .int .i64], .leaf (.row [.int .i64])] x = TT.un [.agg [.slice, .slice, .slice, .int .i64, .int .i64, .int .i64], .leaf .slice] ((rowSV false [.int .i64, .int .i64] x.1.1, rowSV false [.int .i64] x.1.2.1, rowSV false [.int .i64] x.1.2.2.1, x.1.2.2.2.1, x.1.2.2.2.2.1, x.1.2.2.2.2.2), (rowSV false [.int .i64] x.2)) from rfl, blend_Of.eq]
  rfl
noncomputable def blend_OfP.e : Entry := mkP [.agg [.row [.int .i64, .int .i64], .row [.int .i64], .row [.int .i64], .int .i64, .int .i64, .int .i64], .leaf (.row [.int .i64])] (.many [.agg [.int .i64, .int .i64], .leaf (.int .i64)]) fun x => blend_OfP x.1 x.2
theorem blend_OfP.ok : EntryOK Try.prog 21 (blend_OfP.e) := mkP_ok (blend_Of.tcok) Try.mixed Try.func21 (by kernel_rfl) blend_OfP.eq

/-! ### spile/alcohol.Strength$1: function 65 -/
noncomputable def alcohol_Strength_1.tb : Table := tab [(66, alcohol_ofP.e)] [] Table.nil
theorem alcohol_Strength_1.tbok : TabOK Try.prog (alcohol_Strength_1.tb) := TabOK.tab (TabOK.nil Try.prog) (all_cons alcohol_ofP.ok (all_nil _)) (all_nil _)
noncomputable def alcohol_Strength_1 (a0 : Int) (a1 : V) (a2 : V) (h : H) : Option ((Bool) × H) :=
(let h1 : H := H.reserve h 0
(guardO (V.nn (a1 : V) = true) ((rdT (.leaf (.int .i64)) h1 (V.add a1 0)).bind fun x2 =>
((rdT (.leaf .slice) h1 a2).bind fun x3 =>
((rdRow true h1 [.int .i64, .int .i64] x3).bind fun s5 =>
((alcohol_ofP s5 a0).bind fun r4 =>
(guardO (V.nn (a1 : V) = true) ((rdT (.leaf (.int .i64)) h1 (V.add a1 1)).bind fun x6 =>
(some ((decide ((IntKind.wrap .i64 (x2 * r4)) < (IntKind.wrap .i64 (x6 * a0)))), h1))))))))))
def alcohol_Strength_1.A : Ann := { lits := [], conds := [], loops := [], regs := [] }
theorem alcohol_Strength_1.eq : ∀ (x : TT [.leaf (.int .i64), .leaf .ptr, .leaf .ptr]) (h : H), evalFn Try.prog (alcohol_Strength_1.tb) alcohol_Strength_1.A Try.f65 (.one (.leaf .bool)) (TT.un [.leaf (.int .i64), .leaf .ptr, .leaf .ptr] x) h = alcohol_Strength_1 x.1 x.2.1 x.2.2 h := by
  intro x h
  kernel_rfl
noncomputable def alcohol_Strength_1.e : Entry := mkX [.leaf (.int .i64), .leaf .ptr, .leaf .ptr] (.one (.leaf .bool)) fun x h => alcohol_Strength_1 x.1 x.2.1 x.2.2 h
theorem alcohol_Strength_1.ok : EntryOK Try.prog 65 (alcohol_Strength_1.e) := mkX_ok (alcohol_Strength_1.tbok) Try.mixed Try.func65 (by kernel_rfl) (alcohol_Strength_1.eq)

/-! ### spile/alcohol.Strength: function 28 -/
noncomputable def alcohol_Strength.tb : Table := tab [(64, alcohol_CheckP.e)] [(65, alcohol_Strength_1.e)] Table.nil
theorem alcohol_Strength.tbok : TabOK Try.prog (alcohol_Strength.tb) := TabOK.tab (TabOK.nil Try.prog) (all_cons alcohol_CheckP.ok (all_nil _)) (all_cons alcohol_Strength_1.ok (all_nil _))
noncomputable def alcohol_Strength (a0 : SV) (a1 : (Int × Int)) (h : H) : Option ((Int × Int) × H) :=
(match a1 with
| (a1_0, a1_1) =>
(let h1 : H := H.new h [.slice a0.a a0.len a0.cap a0.tail] 1
(let h2 : H := H.new h1 [.int .i64 a1_0, .int .i64 a1_1] 2
((rdT (.leaf .slice) h2 (.hp h.next 1 0)).bind fun x3 =>
((rdT (.agg [.int .i64, .int .i64]) h2 (.hp h1.next 2 0)).bind fun (x4_0, x4_1) =>
((rdRow true h2 [.int .i64, .int .i64] x3).bind fun s6 =>
((alcohol_CheckP s6 (x4_0, x4_1)).bind fun r5 =>
(bif (!(decide (r5 = 0))) then (some ((0, 1), h2)) else ((rdT (.agg [.int .i64, .int .i64]) h2 (.hp h1.next 2 0)).bind fun (x7_0, x7_1) =>
(bif (decide (x7_0 = 0) && (decide (x7_1 = 0))) then (some ((0, 0), h2)) else ((sort_Search alcohol_Strength.tb 10001 (.func 65 [.hp h1.next 2 0, .hp h.next 1 0] : V) h2).bind fun (r8, h9) =>
(some (((IntKind.wrap .i64 (r8 - 1)), 0), h9)))))))))))))
def alcohol_Strength.A : Ann := { lits := [], conds := [], loops := [], regs := [] }
noncomputable def alcohol_Strength.tc : Table := tab [(67, sort_Search.e (alcohol_Strength.tb))] [] (alcohol_Strength.tb)
theorem alcohol_Strength.tcok : TabOK Try.prog (alcohol_Strength.tc) := TabOK.tab (alcohol_Strength.tbok) (all_cons (sort_Search.ok _ (alcohol_Strength.tbok)) (all_nil _)) (all_nil _)
theorem alcohol_Strength.eq : ∀ (x : TT [.leaf .slice, .agg [.int .i64, .int .i64]]) (h : H), evalFn Try.prog (alcohol_Strength.tc) alcohol_Strength.A Try.f28 (.many [.leaf (.int .i64), .leaf (.int .i64)]) (TT.un [.leaf .slice, .agg [.int .i64, .int .i64]] x) h = alcohol_Strength x.1 x.2 h := by
  intro x h
  kernel_rfl
noncomputable def alcohol_Strength.e : Entry := mkX [.leaf .slice, .agg [.int .i64, .int .i64]] (.many [.leaf (.int .i64), .leaf (.int .i64)]) fun x h => alcohol_Strength x.1 x.2 h
theorem alcohol_Strength.ok : EntryOK Try.prog 28 (alcohol_Strength.e) := mkX_ok (alcohol_Strength.tcok) Try.mixed Try.func28 (by kernel_rfl) (alcohol_Strength.eq)
noncomputable def alcohol_StrengthP (a0 : (List (Int × Int))) (a1 : (Int × Int)) : Option (Int × Int) := (alcohol_Strength (rowSV false [.int .i64, .int .i64] a0) a1 H.empty).bind fun p => rdRes false p.2 (.many [.leaf (.int .i64), .leaf (.int .i64)]) (Res.un (.many [.leaf (.int .i64), .leaf (.int .i64)]) p.1)
theorem alcohol_StrengthP.eq : ∀ x : TT [.leaf (.row [.int .i64, .int .i64]), .agg [.int .i64, .int .i64]], ((evalFn Try.prog (alcohol_Strength.tc) alcohol_Strength.A Try.f28 (.many [.leaf (.int .i64), .leaf (.int .i64)]) (TT.lo false [.leaf (.row [.int .i64, .int .i64]), .agg [.int .i64, .int .i64]] x) H.empty).bind fun p => rdRes false p.2 (.many [.leaf (.int .i64), .leaf (.int .i64)]) (Res.un (.many [.leaf (.int .i64), .leaf (.int .i64)]) p.1)) = alcohol_StrengthP x.1 x.2 := by
  intro x
  rw [show TT.lo false [.leaf (.row [.int .i64, .int .i64]), .agg [.int .i64, .int .i64]] x = TT.un [.leaf .slice, .agg [.int .i64, .int .i64]] ((rowSV false [.int .i64, .int .i64] x.1), x.2) from rfl, alcohol_Strength.eq]
  rfl
noncomputable def alcohol_StrengthP.e : Entry := mkP [.leaf (.row [.int .i64, .int .i64]), .agg [.int .i64, .int .i64]] (.many [.leaf (.int .i64), .leaf (.int .i64)]) fun x => alcohol_StrengthP x.1 x.2
theorem alcohol_StrengthP.ok : EntryOK Try.prog 28 (alcohol_StrengthP.e) := mkP_ok (alcohol_Strength.tcok) Try.mixed Try.func28 (by kernel_rfl) alcohol_StrengthP.eq

/-! ### spile/spilelaw29.example: function 32 -/
noncomputable def spilelaw29_example.tb : Table := tab [] [] Table.nil
theorem spilelaw29_example.tbok : TabOK Try.prog (spilelaw29_example.tb) := TabOK.tab (TabOK.nil Try.prog) (all_nil _) (all_nil _)
noncomputable def spilelaw29_example (h : H) : Option ((SV × (SV × SV × SV × Int × Int × Int)) × H) :=
(let h1 : H := H.new h [.slice .nil 0 0 false, .slice .nil 0 0 false, .slice .nil 0 0 false, .int .i64 0, .int .i64 0, .int .i64 0] 6
(let h2 : H := H.new h1 [.int .i64 0, .int .i64 100000, .int .i64 10000, .int .i64 80000] 2
((H.wrs h2 (.hp h.next 6 0) [.slice (.lp true ([.int .i64 40000, .int .i64 920000, .int .i64 60000, .int .i64 880000]) 0) 2 2 false, .slice (.lp true ([.int .i64 3, .int .i64 3]) 0) 2 2 false, .slice (.lp true ([.int .i64 1, .int .i64 3]) 0) 2 2 false, .int .i64 4500, .int .i64 5500, .int .i64 3]).bind fun h3 =>
((rdT (.agg [.slice, .slice, .slice, .int .i64, .int .i64, .int .i64]) h3 (.hp h.next 6 0 : V)).bind fun (x4_0, x4_1, x4_2, x4_3, x4_4, x4_5) =>
(some ((⟨.hp h1.next 4 0, 2, 2, false⟩, (x4_0, x4_1, x4_2, x4_3, x4_4, x4_5)), h3))))))
def spilelaw29_example.A : Ann := { lits := [4], conds := [], loops := [], regs := [] }
theorem spilelaw29_example.eq : ∀ (x : TT []) (h : H), evalFn Try.prog (spilelaw29_example.tb) spilelaw29_example.A Try.f32 (.many [.leaf .slice, .agg [.slice, .slice, .slice, .int .i64, .int .i64, .int .i64]]) (TT.un [] x) h = spilelaw29_example  h := by
  intro x h
  kernel_rfl
noncomputable def spilelaw29_example.e : Entry := mkX [] (.many [.leaf .slice, .agg [.slice, .slice, .slice, .int .i64, .int .i64, .int .i64]]) fun x h => spilelaw29_example  h
theorem spilelaw29_example.ok : EntryOK Try.prog 32 (spilelaw29_example.e) := mkX_ok (spilelaw29_example.tbok) Try.mixed Try.func32 (by kernel_rfl) (spilelaw29_example.eq)
noncomputable def spilelaw29_exampleP : Option ((List (Int × Int)) × ((List (Int × Int)) × (List (Int)) × (List (Int)) × Int × Int × Int)) := (spilelaw29_example H.empty).bind fun p => rdRes false p.2 (.many [.leaf (.row [.int .i64, .int .i64]), .agg [.row [.int .i64, .int .i64], .row [.int .i64], .row [.int .i64], .int .i64, .int .i64, .int .i64]]) (Res.un (.many [.leaf .slice, .agg [.slice, .slice, .slice, .int .i64, .int .i64, .int .i64]]) p.1)
theorem spilelaw29_exampleP.eq : ∀ x : TT [], ((evalFn Try.prog (spilelaw29_example.tb) spilelaw29_example.A Try.f32 (.many [.leaf .slice, .agg [.slice, .slice, .slice, .int .i64, .int .i64, .int .i64]]) (TT.lo false [] x) H.empty).bind fun p => rdRes false p.2 (.many [.leaf (.row [.int .i64, .int .i64]), .agg [.row [.int .i64, .int .i64], .row [.int .i64], .row [.int .i64], .int .i64, .int .i64, .int .i64]]) (Res.un (.many [.leaf .slice, .agg [.slice, .slice, .slice, .int .i64, .int .i64, .int .i64]]) p.1)) = spilelaw29_exampleP  := by
  intro x
  rw [show TT.lo false [] x = TT.un [] () from rfl, spilelaw29_example.eq]
  rfl
noncomputable def spilelaw29_exampleP.e : Entry := mkP [] (.many [.leaf (.row [.int .i64, .int .i64]), .agg [.row [.int .i64, .int .i64], .row [.int .i64], .row [.int .i64], .int .i64, .int .i64, .int .i64]]) fun x => spilelaw29_exampleP 
theorem spilelaw29_exampleP.ok : EntryOK Try.prog 32 (spilelaw29_exampleP.e) := mkP_ok (spilelaw29_example.tbok) Try.mixed Try.func32 (by kernel_rfl) spilelaw29_exampleP.eq

/-! ### spile/spilelaw29.awake: function 9 -/
noncomputable def spilelaw29_awake.tb : Table := tab [(12, blend_BestP.e), (14, blend_CheckP.e), (16, blend_BoundP.e), (20, slices_Equal_int_intP.e), (21, blend_OfP.e), (28, alcohol_StrengthP.e), (32, spilelaw29_exampleP.e)] [] Table.nil
theorem spilelaw29_awake.tbok : TabOK Try.prog (spilelaw29_awake.tb) := TabOK.tab (TabOK.nil Try.prog) (all_cons blend_BestP.ok (all_cons blend_CheckP.ok (all_cons blend_BoundP.ok (all_cons slices_Equal_int_intP.ok (all_cons blend_OfP.ok (all_cons alcohol_StrengthP.ok (all_cons spilelaw29_exampleP.ok (all_nil _)))))))) (all_nil _)
noncomputable def spilelaw29_awake (h : H) : Option ((Bool) × H) :=
((spilelaw29_exampleP ).bind fun (r1, (r2_0, r2_1, r2_2, r2_3, r2_4, r2_5)) =>
(let h3 : H := H.new h [.slice .nil 0 0 false, .slice .nil 0 0 false, .slice .nil 0 0 false, .int .i64 0, .int .i64 0, .int .i64 0] 6
((H.wrs h3 (.hp h.next 6 0) [.slice ((rowSV true [.int .i64, .int .i64] r2_0).a) r2_0.length r2_0.length true, .slice ((rowSV true [.int .i64] r2_1).a) r2_1.length r2_1.length true, .slice ((rowSV true [.int .i64] r2_2).a) r2_2.length r2_2.length true, .int .i64 r2_3, .int .i64 r2_4, .int .i64 r2_5]).bind fun h4 =>
((rdT (.agg [.slice, .slice, .slice, .int .i64, .int .i64, .int .i64]) h4 (.hp h.next 6 0)).bind fun (x5_0, x5_1, x5_2, x5_3, x5_4, x5_5) =>
((rdRow true h4 [.int .i64, .int .i64] x5_0).bind fun s8 =>
((rdRow true h4 [.int .i64] x5_1).bind fun s9 =>
((rdRow true h4 [.int .i64] x5_2).bind fun s10 =>
((rdRow true h4 [.int .i64] ⟨.lp true ([.int .i64 2, .int .i64 1]) 0, 2, 2, false⟩).bind fun s11 =>
((blend_OfP (s8, s9, s10, x5_3, x5_4, x5_5) s11).bind fun ((r6_0, r6_1), r7) =>
(let h12 : H := H.new h4 [.int .i64 0, .int .i64 0] 2
((H.wrs h12 (.hp h4.next 2 0) [.int .i64 r6_0, .int .i64 r6_1]).bind fun h13 =>
((rdT (.agg [.int .i64, .int .i64]) h13 (.hp h4.next 2 0)).bind fun (x14_0, x14_1) =>
((rdRow true h13 [.int .i64, .int .i64] (rowSV true [.int .i64, .int .i64] r1)).bind fun s17 =>
((alcohol_StrengthP s17 (x14_0, x14_1)).bind fun (r15, r16) =>
((rdT (.agg [.slice, .slice, .slice, .int .i64, .int .i64, .int .i64]) h13 (.hp h.next 6 0)).bind fun (x18_0, x18_1, x18_2, x18_3, x18_4, x18_5) =>
((rdRow true h13 [.int .i64, .int .i64] (rowSV true [.int .i64, .int .i64] r1)).bind fun s22 =>
((rdRow true h13 [.int .i64, .int .i64] x18_0).bind fun s23 =>
((rdRow true h13 [.int .i64] x18_1).bind fun s24 =>
((rdRow true h13 [.int .i64] x18_2).bind fun s25 =>
((blend_BestP s22 (s23, s24, s25, x18_3, x18_4, x18_5)).bind fun (r19, r20, r21) =>
((rdT (.agg [.slice, .slice, .slice, .int .i64, .int .i64, .int .i64]) h13 (.hp h.next 6 0)).bind fun (x26_0, x26_1, x26_2, x26_3, x26_4, x26_5) =>
((rdRow true h13 [.int .i64, .int .i64] (rowSV true [.int .i64, .int .i64] r1)).bind fun s29 =>
((rdRow true h13 [.int .i64, .int .i64] x26_0).bind fun s30 =>
((rdRow true h13 [.int .i64] x26_1).bind fun s31 =>
((rdRow true h13 [.int .i64] x26_2).bind fun s32 =>
((blend_BoundP s29 (s30, s31, s32, x26_3, x26_4, x26_5)).bind fun (r27, r28) =>
((((rdT (.agg [.slice, .slice, .slice, .int .i64, .int .i64, .int .i64]) h13 (.hp h.next 6 0)).bind fun (x33_0, x33_1, x33_2, x33_3, x33_4, x33_5) =>
((rdRow true h13 [.int .i64, .int .i64] (rowSV true [.int .i64, .int .i64] r1)).bind fun s35 =>
((rdRow true h13 [.int .i64, .int .i64] x33_0).bind fun s36 =>
((rdRow true h13 [.int .i64] x33_1).bind fun s37 =>
((rdRow true h13 [.int .i64] x33_2).bind fun s38 =>
((blend_CheckP s35 (s36, s37, s38, x33_3, x33_4, x33_5)).bind fun r34 =>
(bif (decide (r34 = 0)) then (bif (decide (r7 = 0)) then ((rdT (.agg [.int .i64, .int .i64]) h13 (.hp h4.next 2 0)).bind fun (x39_0, x39_1) =>
(bif (decide (x39_0 = 140000) && (decide (x39_1 = 2720000))) then (bif (decide (r16 = 0)) then (bif (decide (r15 = 4666)) then (bif (decide (r21 = 0)) then ((rdRow true h13 [.int .i64] (rowSV true [.int .i64] r19)).bind fun s41 =>
((rdRow true h13 [.int .i64] ⟨.lp true ([.int .i64 2, .int .i64 1]) 0, 2, 2, false⟩).bind fun s42 =>
((slices_Equal_int_intP s41 s42).bind fun r40 =>
(bif r40 then (bif (decide (r20 = 5)) then (bif (decide (r28 = 0)) then (some ((decide (r27 = 3)), h13)) else (some (false, h13))) else (some (false, h13))) else (some (false, h13)))))) else (some (false, h13))) else (some (false, h13))) else (some (false, h13))) else (some (false, h13)))) else (some (false, h13))) else (some (false, h13)))))))))).bind fun (y43, h44) =>
(some (y43, h44)))))))))))))))))))))))))))))
def spilelaw29_awake.A : Ann := { lits := [], conds := [], loops := [], regs := [(6, [0], [.leaf .bool])] }
theorem spilelaw29_awake.eq : ∀ (x : TT []) (h : H), evalFn Try.prog (spilelaw29_awake.tb) spilelaw29_awake.A Try.f9 (.one (.leaf .bool)) (TT.un [] x) h = spilelaw29_awake  h := by
  intro x h
  kernel_rfl
noncomputable def spilelaw29_awake.e : Entry := mkX [] (.one (.leaf .bool)) fun x h => spilelaw29_awake  h
theorem spilelaw29_awake.ok : EntryOK Try.prog 9 (spilelaw29_awake.e) := mkX_ok (spilelaw29_awake.tbok) Try.mixed Try.func9 (by kernel_rfl) (spilelaw29_awake.eq)
noncomputable def spilelaw29_awakeP : Option (Bool) := (spilelaw29_awake H.empty).bind fun p => rdRes false p.2 (.one (.leaf .bool)) (Res.un (.one (.leaf .bool)) p.1)
theorem spilelaw29_awakeP.eq : ∀ x : TT [], ((evalFn Try.prog (spilelaw29_awake.tb) spilelaw29_awake.A Try.f9 (.one (.leaf .bool)) (TT.lo false [] x) H.empty).bind fun p => rdRes false p.2 (.one (.leaf .bool)) (Res.un (.one (.leaf .bool)) p.1)) = spilelaw29_awakeP  := by
  intro x
  rw [show TT.lo false [] x = TT.un [] () from rfl, spilelaw29_awake.eq]
  rfl
noncomputable def spilelaw29_awakeP.e : Entry := mkP [] (.one (.leaf .bool)) fun x => spilelaw29_awakeP 
theorem spilelaw29_awakeP.ok : EntryOK Try.prog 9 (spilelaw29_awakeP.e) := mkP_ok (spilelaw29_awake.tbok) Try.mixed Try.func9 (by kernel_rfl) spilelaw29_awakeP.eq

/-! ### spile/spileref16.Few: function 10 -/
noncomputable def spileref16_Few.tb : Table := tab [] [] Table.nil
theorem spileref16_Few.tbok : TabOK Try.prog (spileref16_Few.tb) := TabOK.tab (TabOK.nil Try.prog) (all_nil _) (all_nil _)
noncomputable def spileref16_Few (a0 : SV) (h : H) : Option ((Bool) × H) :=
(((bif !(decide (((a0.len : Nat) : Int) ≤ 20)) then (bif (decide ((128 : Int) < ((a0.len : Nat) : Int))) then (some ((decide (((a0.len : Nat) : Int) ≤ 133)), h)) else (some (false, h))) else (some (true, h)))).bind fun (y1, h2) =>
(some (y1, h2)))
def spileref16_Few.A : Ann := { lits := [], conds := [], loops := [], regs := [(1, [2], [.leaf .bool])] }
theorem spileref16_Few.eq : ∀ (x : TT [.leaf .slice]) (h : H), evalFn Try.prog (spileref16_Few.tb) spileref16_Few.A Try.f10 (.one (.leaf .bool)) (TT.un [.leaf .slice] x) h = spileref16_Few x h := by
  intro x h
  kernel_rfl
noncomputable def spileref16_Few.e : Entry := mkX [.leaf .slice] (.one (.leaf .bool)) fun x h => spileref16_Few x h
theorem spileref16_Few.ok : EntryOK Try.prog 10 (spileref16_Few.e) := mkX_ok (spileref16_Few.tbok) Try.mixed Try.func10 (by kernel_rfl) (spileref16_Few.eq)
noncomputable def spileref16_FewP (a0 : (List (Int × Int))) : Option (Bool) := (spileref16_Few (rowSV false [.int .i64, .int .i64] a0) H.empty).bind fun p => rdRes false p.2 (.one (.leaf .bool)) (Res.un (.one (.leaf .bool)) p.1)
theorem spileref16_FewP.eq : ∀ x : TT [.leaf (.row [.int .i64, .int .i64])], ((evalFn Try.prog (spileref16_Few.tb) spileref16_Few.A Try.f10 (.one (.leaf .bool)) (TT.lo false [.leaf (.row [.int .i64, .int .i64])] x) H.empty).bind fun p => rdRes false p.2 (.one (.leaf .bool)) (Res.un (.one (.leaf .bool)) p.1)) = spileref16_FewP x := by
  intro x
  rw [show TT.lo false [.leaf (.row [.int .i64, .int .i64])] x = TT.un [.leaf .slice] ((rowSV false [.int .i64, .int .i64] x)) from rfl, spileref16_Few.eq]
  rfl
noncomputable def spileref16_FewP.e : Entry := mkP [.leaf (.row [.int .i64, .int .i64])] (.one (.leaf .bool)) fun x => spileref16_FewP x
theorem spileref16_FewP.ok : EntryOK Try.prog 10 (spileref16_FewP.e) := mkP_ok (spileref16_Few.tbok) Try.mixed Try.func10 (by kernel_rfl) spileref16_FewP.eq

/-! ### spile/spileref29.Few: function 11 -/
noncomputable def spileref29_Few.tb : Table := tab [] [] Table.nil
theorem spileref29_Few.tbok : TabOK Try.prog (spileref29_Few.tb) := TabOK.tab (TabOK.nil Try.prog) (all_nil _) (all_nil _)
noncomputable def spileref29_Few.loop1 (h : H) : (Int × Int) × H → Option (Stp ((Int × Int) × H) (Flow (Int) (Bool) × H)) := fun ((y7, y8), h9) =>
((rdT (.leaf .slice) h9 (.hp h.next 6 1)).bind fun x10 =>
(bif (decide (y8 < ((x10.len : Nat) : Int))) then ((((rdT (.leaf .slice) h9 (.hp h.next 6 1)).bind fun x11 =>
(guardO (0 ≤ y8 ∧ y8 < ((x11.len : Nat) : Int)) ((rdT (.leaf (.int .i64)) h9 (V.add x11.a (Int.toNat y8 * 1))).bind fun x12 =>
(bif !(decide (x12 < 0)) then ((rdT (.leaf .slice) h9 (.hp h.next 6 1)).bind fun x13 =>
(guardO (0 ≤ y8 ∧ y8 < ((x13.len : Nat) : Int)) ((rdT (.leaf (.int .i64)) h9 (V.add x13.a (Int.toNat y8 * 1))).bind fun x14 =>
(some ((decide ((64 : Int) < x14)), h9))))) else (some (true, h9))))))).bind fun (y15, h16) =>
(bif y15 then (some (.done (.ret true, h16))) else ((rdT (.leaf .slice) h16 (.hp h.next 6 1)).bind fun x17 =>
(guardO (0 ≤ y8 ∧ y8 < ((x17.len : Nat) : Int)) ((rdT (.leaf (.int .i64)) h16 (V.add x17.a (Int.toNat y8 * 1))).bind fun x18 =>
(bif (decide ((4096 : Int) < (IntKind.wrap .i64 (y7 * (IntKind.wrap .i64 (x18 + 1)))))) then (some (.done (.ret true, h16))) else (some (.more (((IntKind.wrap .i64 (y7 * (IntKind.wrap .i64 (x18 + 1)))), (IntKind.wrap .i64 (y8 + 1))), h16))))))))) else (some (.done (.ex0 y7, h9)))))
noncomputable def spileref29_Few (a0 : (SV × SV × SV × Int × Int × Int)) (h : H) : Option ((Bool) × H) :=
(match a0 with
| (a0_0, a0_1, a0_2, a0_3, a0_4, a0_5) =>
(let h1 : H := H.new h [.slice a0_0.a a0_0.len a0_0.cap a0_0.tail, .slice a0_1.a a0_1.len a0_1.cap a0_1.tail, .slice a0_2.a a0_2.len a0_2.cap a0_2.tail, .int .i64 a0_3, .int .i64 a0_4, .int .i64 a0_5] 6
((((rdT (.leaf .slice) h1 (.hp h.next 6 0)).bind fun x2 =>
(bif !(decide ((8 : Int) < ((x2.len : Nat) : Int))) then ((rdT (.leaf .slice) h1 (.hp h.next 6 1)).bind fun x3 =>
(bif !(decide ((8 : Int) < ((x3.len : Nat) : Int))) then ((rdT (.leaf .slice) h1 (.hp h.next 6 2)).bind fun x4 =>
(some ((decide ((8 : Int) < ((x4.len : Nat) : Int))), h1))) else (some (true, h1)))) else (some (true, h1))))).bind fun (y5, h6) =>
(bif y5 then (some (false, h6)) else ((iter FUEL (spileref29_Few.loop1 h) ((1, 0), h6)).bind fun (fl20, h19) => match fl20 with
| .next _ => none
| .ret rr21 => (some (rr21, h19))
| .ex0 y22 =>
(some ((decide (y22 ≤ 400)), h19))
| .ex1 _ => none)))))
def spileref29_Few.A : Ann := { lits := [], conds := [], loops := [(5, [3, 4], [.leaf (.int .i64), .leaf (.int .i64)], [3], [.leaf (.int .i64)], some 0, none)], regs := [(1, [20], [.leaf .bool]), (7, [41], [.leaf .bool])] }
theorem spileref29_Few.eq : ∀ (x : TT [.agg [.slice, .slice, .slice, .int .i64, .int .i64, .int .i64]]) (h : H), evalFn Try.prog (spileref29_Few.tb) spileref29_Few.A Try.f11 (.one (.leaf .bool)) (TT.un [.agg [.slice, .slice, .slice, .int .i64, .int .i64, .int .i64]] x) h = spileref29_Few x h := by
  intro x h
  kernel_rfl
noncomputable def spileref29_Few.e : Entry := mkX [.agg [.slice, .slice, .slice, .int .i64, .int .i64, .int .i64]] (.one (.leaf .bool)) fun x h => spileref29_Few x h
theorem spileref29_Few.ok : EntryOK Try.prog 11 (spileref29_Few.e) := mkX_ok (spileref29_Few.tbok) Try.mixed Try.func11 (by kernel_rfl) (spileref29_Few.eq)
noncomputable def spileref29_FewP (a0 : ((List (Int × Int)) × (List (Int)) × (List (Int)) × Int × Int × Int)) : Option (Bool) := (spileref29_Few (rowSV false [.int .i64, .int .i64] a0.1, rowSV false [.int .i64] a0.2.1, rowSV false [.int .i64] a0.2.2.1, a0.2.2.2.1, a0.2.2.2.2.1, a0.2.2.2.2.2) H.empty).bind fun p => rdRes false p.2 (.one (.leaf .bool)) (Res.un (.one (.leaf .bool)) p.1)
theorem spileref29_FewP.eq : ∀ x : TT [.agg [.row [.int .i64, .int .i64], .row [.int .i64], .row [.int .i64], .int .i64, .int .i64, .int .i64]], ((evalFn Try.prog (spileref29_Few.tb) spileref29_Few.A Try.f11 (.one (.leaf .bool)) (TT.lo false [.agg [.row [.int .i64, .int .i64], .row [.int .i64], .row [.int .i64], .int .i64, .int .i64, .int .i64]] x) H.empty).bind fun p => rdRes false p.2 (.one (.leaf .bool)) (Res.un (.one (.leaf .bool)) p.1)) = spileref29_FewP x := by
  intro x
  rw [show TT.lo false [.agg [.row [.int .i64, .int .i64], .row [.int .i64], .row [.int .i64], .int .i64, .int .i64, .int .i64]] x = TT.un [.agg [.slice, .slice, .slice, .int .i64, .int .i64, .int .i64]] ((rowSV false [.int .i64, .int .i64] x.1, rowSV false [.int .i64] x.2.1, rowSV false [.int .i64] x.2.2.1, x.2.2.2.1, x.2.2.2.2.1, x.2.2.2.2.2)) from rfl, spileref29_Few.eq]
  rfl
noncomputable def spileref29_FewP.e : Entry := mkP [.agg [.row [.int .i64, .int .i64], .row [.int .i64], .row [.int .i64], .int .i64, .int .i64, .int .i64]] (.one (.leaf .bool)) fun x => spileref29_FewP x
theorem spileref29_FewP.ok : EntryOK Try.prog 11 (spileref29_FewP.e) := mkP_ok (spileref29_Few.tbok) Try.mixed Try.func11 (by kernel_rfl) spileref29_FewP.eq
end Go.Proofs.Ytfkabibbaajfhaa
