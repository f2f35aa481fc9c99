/- The functions of the program as Lean functions, each with the equation by which the evaluator is that function. Written by a program of this session (evdrive.py). Conditions: none. -/
import Derived.Test.YtbcpdecgfdlaaaaProg
import Derived.Test.YtbcpdecgfdlaaaaEvSpec
import Derived.Test.YtbcpdecgfdlaaaaFn9
namespace Go.Proofs.Ytbcpdecgfdlaaaa
open Go Go.Proofs.Ytbcpdecgfdlaaaa.Ev
set_option maxRecDepth 100000
set_option linter.unusedVariables false
/-! ### spile/spileref23.Vat: function 33 -/
noncomputable def spileref23_Vat.tb : Table := tab [(46, spileref23_joinP.e), (53, spileref22_RightP.e), (54, spileref22_IDP.e), (56, spileref21_PlusP.e), (57, spileref21_PlainP.e)] [] Table.nil
theorem spileref23_Vat.tbok : TabOK Try.prog (spileref23_Vat.tb) := TabOK.tab (TabOK.nil Try.prog) (all_cons spileref23_joinP.ok (all_cons spileref22_RightP.ok (all_cons spileref22_IDP.ok (all_cons spileref21_PlusP.ok (all_cons spileref21_PlainP.ok (all_nil _)))))) (all_nil _)
noncomputable def spileref23_Vat.loop1 (a0 : SV) (a1 : Int) (h1 : H) : (Int) × H → Option (Stp ((Int) × H) (Flow (Unit) ((Int × Int × Int × SV) × Int) × H)) := fun (y11, h12) =>
(bif (decide (y11 < ((a0.len : Nat) : Int))) then (let h13 : H := H.reserve h12 0
((rdT (.agg [.int .i64, .int .i64]) h13 (.hp h1.next 4 1)).bind fun (x14_0, x14_1) =>
(guardO (0 ≤ y11 ∧ y11 < ((a0.len : Nat) : Int)) (guardO (V.nn ((V.add a0.a (Int.toNat y11 * 4)) : V) = true) ((rdT (.agg [.int .i64, .int .i64]) h13 (V.add (V.add a0.a (Int.toNat y11 * 4)) 1)).bind fun (x15_0, x15_1) =>
((spileref21_PlusP (x14_0, x14_1) (x15_0, x15_1)).bind fun (r16_0, r16_1) =>
((rdT (.leaf .slice) h13 (.hp h1.next 4 3)).bind fun x17 =>
(guardO (0 ≤ y11 ∧ y11 < ((a0.len : Nat) : Int)) (guardO (V.nn ((V.add a0.a (Int.toNat y11 * 4)) : V) = true) ((rdT (.leaf .slice) h13 (V.add (V.add a0.a (Int.toNat y11 * 4)) 3)).bind fun x18 =>
((rdRow true h13 [.int .i64, .int .i64] x17).bind fun s20 =>
((rdRow true h13 [.int .i64, .int .i64] x18).bind fun s21 =>
((spileref23_joinP s20 s21).bind fun r19 =>
((H.wrs h13 (.hp h1.next 4 0) [.int .i64 a1, .int .i64 r16_0, .int .i64 r16_1, .slice ((rowSV true [.int .i64, .int .i64] r19).a) r19.length r19.length true]).bind fun h22 =>
(some (.more ((IntKind.wrap .i64 (y11 + 1)), h22))))))))))))))))) else (some (.done (.ex0 (), h12))))
noncomputable def spileref23_Vat (a0 : SV) (a1 : Int) (h : H) : Option (((Int × Int × Int × SV) × Int) × H) :=
(let h1 : H := H.new h [.int .i64 0, .int .i64 0, .int .i64 0, .slice .nil 0 0 false] 4
((rdRow true h1 [.int .i64, .int .i64, .int .i64, .row [.int .i64, .int .i64]] a0).bind fun s3 =>
((spileref22_RightP s3).bind fun r2 =>
(bif (!r2) then ((H.wrs h1 (.hp h.next 4 0) [.int .i64 0, .int .i64 0, .int .i64 0, .slice .nil 0 0 false]).bind fun h4 =>
((rdT (.agg [.int .i64, .int .i64, .int .i64, .slice]) h4 (.hp h.next 4 0 : V)).bind fun (x5_0, x5_1, x5_2, x5_3) =>
(some (((x5_0, x5_1, x5_2, x5_3), 1), h4)))) else ((spileref22_IDP a1).bind fun r6 =>
(bif (!r6) then ((H.wrs h1 (.hp h.next 4 0) [.int .i64 0, .int .i64 0, .int .i64 0, .slice .nil 0 0 false]).bind fun h7 =>
((rdT (.agg [.int .i64, .int .i64, .int .i64, .slice]) h7 (.hp h.next 4 0 : V)).bind fun (x8_0, x8_1, x8_2, x8_3) =>
(some (((x8_0, x8_1, x8_2, x8_3), 2), h7)))) else (let h9 : H := H.new h1 [.int .i64 0, .int .i64 0, .int .i64 0, .slice .nil 0 0 false] 4
((H.wrs h9 (.hp h1.next 4 0) [.int .i64 a1, .int .i64 0, .int .i64 0, .slice .nil 0 0 false]).bind fun h10 =>
((iter FUEL (spileref23_Vat.loop1 a0 a1 h1) (0, h10)).bind fun (fl24, h23) => match fl24 with
| .next _ => none
| .ret rr25 => (some (rr25, h23))
| .ex0 _ =>
((rdT (.leaf .slice) h23 (.hp h1.next 4 3)).bind fun x26 =>
(bif (decide ((32 : Int) < ((x26.len : Nat) : Int))) then ((H.wrs h23 (.hp h.next 4 0) [.int .i64 0, .int .i64 0, .int .i64 0, .slice .nil 0 0 false]).bind fun h27 =>
((rdT (.agg [.int .i64, .int .i64, .int .i64, .slice]) h27 (.hp h.next 4 0 : V)).bind fun (x28_0, x28_1, x28_2, x28_3) =>
(some (((x28_0, x28_1, x28_2, x28_3), 12), h27)))) else ((rdT (.agg [.int .i64, .int .i64]) h23 (.hp h1.next 4 1)).bind fun (x29_0, x29_1) =>
((spileref21_PlainP (x29_0, x29_1)).bind fun r30 =>
(bif (!r30) then ((H.wrs h23 (.hp h.next 4 0) [.int .i64 0, .int .i64 0, .int .i64 0, .slice .nil 0 0 false]).bind fun h31 =>
((rdT (.agg [.int .i64, .int .i64, .int .i64, .slice]) h31 (.hp h.next 4 0 : V)).bind fun (x32_0, x32_1, x32_2, x32_3) =>
(some (((x32_0, x32_1, x32_2, x32_3), 15), h31)))) else ((rdT (.agg [.int .i64, .int .i64, .int .i64, .slice]) h23 (.hp h1.next 4 0)).bind fun (x33_0, x33_1, x33_2, x33_3) =>
((H.wrs h23 (.hp h.next 4 0) [.int .i64 x33_0, .int .i64 x33_1, .int .i64 x33_2, .slice x33_3.a x33_3.len x33_3.cap x33_3.tail]).bind fun h34 =>
((rdT (.agg [.int .i64, .int .i64, .int .i64, .slice]) h34 (.hp h.next 4 0 : V)).bind fun (x35_0, x35_1, x35_2, x35_3) =>
(some (((x35_0, x35_1, x35_2, x35_3), 0), h34))))))))))
| .ex1 _ => none)))))))))
def spileref23_Vat.A : Ann := { lits := [], conds := [], loops := [(7, [7], [.leaf (.int .i64)], [], [], some 0, none)], regs := [] }
theorem spileref23_Vat.eq : ∀ (x : TT [.leaf .slice, .leaf (.int .i64)]) (h : H), evalFn Try.prog (spileref23_Vat.tb) spileref23_Vat.A Try.f33 (.many [.agg [.int .i64, .int .i64, .int .i64, .slice], .leaf (.int .i64)]) (TT.un [.leaf .slice, .leaf (.int .i64)] x) h = spileref23_Vat x.1 x.2 h := by
  intro x h
  kernel_rfl
noncomputable def spileref23_Vat.e : Entry := mkX [.leaf .slice, .leaf (.int .i64)] (.many [.agg [.int .i64, .int .i64, .int .i64, .slice], .leaf (.int .i64)]) fun x h => spileref23_Vat x.1 x.2 h
theorem spileref23_Vat.ok : EntryOK Try.prog 33 (spileref23_Vat.e) := mkX_ok (spileref23_Vat.tbok) Try.mixed Try.func33 (by kernel_rfl) (spileref23_Vat.eq)
noncomputable def spileref23_VatP (a0 : (List (Int × Int × Int × (List (Int × Int))))) (a1 : Int) : Option ((Int × Int × Int × (List (Int × Int))) × Int) := (spileref23_Vat (rowSV false [.int .i64, .int .i64, .int .i64, .row [.int .i64, .int .i64]] a0) a1 H.empty).bind fun p => rdRes false p.2 (.many [.agg [.int .i64, .int .i64, .int .i64, .row [.int .i64, .int .i64]], .leaf (.int .i64)]) (Res.un (.many [.agg [.int .i64, .int .i64, .int .i64, .slice], .leaf (.int .i64)]) p.1)
theorem spileref23_VatP.eq : ∀ x : TT [.leaf (.row [.int .i64, .int .i64, .int .i64, .row [.int .i64, .int .i64]]), .leaf (.int .i64)], ((evalFn Try.prog (spileref23_Vat.tb) spileref23_Vat.A Try.f33 (.many [.agg [.int .i64, .int .i64, .int .i64, .slice], .leaf (.int .i64)]) (TT.lo false [.leaf (.row [.int .i64, .int .i64, .int .i64, .row [.int .i64, .int .i64]]), .leaf (.int .i64)] x) H.empty).bind fun p => rdRes false p.2 (.many [.agg [.int .i64, .int .i64, .int .i64, .row [.int .i64, .int .i64]], .leaf (.int .i64)]) (Res.un (.many [.agg [.int .i64, .int .i64, .int .i64, .slice], .leaf (.int .i64)]) p.1)) = spileref23_VatP x.1 x.2 := by
  intro x
  rw [show TT.lo false [.leaf (.row [.int .i64, .int .i64, .int .i64, .row [.int .i64, .int .i64]]), .leaf (.int .i64)] x = TT.un [.leaf .slice, .leaf (.int .i64)] ((rowSV false [.int .i64, .int .i64, .int .i64, .row [.int .i64, .int .i64]] x.1), x.2) from rfl, spileref23_Vat.eq]
  rfl
noncomputable def spileref23_VatP.e : Entry := mkP [.leaf (.row [.int .i64, .int .i64, .int .i64, .row [.int .i64, .int .i64]]), .leaf (.int .i64)] (.many [.agg [.int .i64, .int .i64, .int .i64, .row [.int .i64, .int .i64]], .leaf (.int .i64)]) fun x => spileref23_VatP x.1 x.2
theorem spileref23_VatP.ok : EntryOK Try.prog 33 (spileref23_VatP.e) := mkP_ok (spileref23_Vat.tbok) Try.mixed Try.func33 (by kernel_rfl) spileref23_VatP.eq

/-! ### spile/spilelaw23.ShareLots: function 8 -/
noncomputable def spilelaw23_ShareLots.tb : Table := tab [(10, spilelaw23_awakeP.e), (11, spileref22_FewSharesP.e), (24, spileref22_FewP.e), (25, share_VatP.e), (28, spileref22_SameLotP.e), (31, share_DrawP.e), (32, spileref23_DrawP.e), (33, spileref23_VatP.e)] [] Table.nil
theorem spilelaw23_ShareLots.tbok : TabOK Try.prog (spilelaw23_ShareLots.tb) := TabOK.tab (TabOK.nil Try.prog) (all_cons spilelaw23_awakeP.ok (all_cons spileref22_FewSharesP.ok (all_cons spileref22_FewP.ok (all_cons share_VatP.ok (all_cons spileref22_SameLotP.ok (all_cons share_DrawP.ok (all_cons spileref23_DrawP.ok (all_cons spileref23_VatP.ok (all_nil _))))))))) (all_nil _)
noncomputable def spilelaw23_ShareLots (a0 : SV) (a1 : (Int × Int × Int × SV)) (a2 : Int) (a3 : Int) (h : H) : Option ((Bool) × H) :=
(match a1 with
| (a1_0, a1_1, a1_2, a1_3) =>
(let h1 : H := H.new h [.int .i64 a1_0, .int .i64 a1_1, .int .i64 a1_2, .slice a1_3.a a1_3.len a1_3.cap a1_3.tail] 4
((spilelaw23_awakeP ).bind fun r2 =>
(bif (!r2) then (some (false, h1)) else ((((rdRow true h1 [.int .i64, .int .i64, .int .i64, .row [.int .i64, .int .i64]] a0).bind fun s4 =>
((spileref22_FewP s4).bind fun r3 =>
(bif !(!r3) then ((rdT (.leaf .slice) h1 (.hp h.next 4 3)).bind fun x5 =>
((rdRow true h1 [.int .i64, .int .i64] x5).bind fun s7 =>
((spileref22_FewSharesP s7).bind fun r6 =>
(some ((!r6), h1))))) else (some (true, h1)))))).bind fun (y8, h9) =>
(bif y8 then (some (true, h9)) else ((rdT (.agg [.int .i64, .int .i64, .int .i64, .slice]) h9 (.hp h.next 4 0)).bind fun (x10_0, x10_1, x10_2, x10_3) =>
((rdRow true h9 [.int .i64, .int .i64] x10_3).bind fun s14 =>
((share_DrawP (x10_0, x10_1, x10_2, s14) a2 a3).bind fun ((r11_0, r11_1, r11_2, r11_3), (r12_0, r12_1, r12_2, r12_3), r13) =>
(let h15 : H := H.new h9 [.int .i64 0, .int .i64 0, .int .i64 0, .slice .nil 0 0 false] 4
(let h16 : H := H.new h15 [.int .i64 0, .int .i64 0, .int .i64 0, .slice .nil 0 0 false] 4
((H.wrs h16 (.hp h9.next 4 0) [.int .i64 r11_0, .int .i64 r11_1, .int .i64 r11_2, .slice ((rowSV true [.int .i64, .int .i64] r11_3).a) r11_3.length r11_3.length true]).bind fun h17 =>
((H.wrs h17 (.hp h15.next 4 0) [.int .i64 r12_0, .int .i64 r12_1, .int .i64 r12_2, .slice ((rowSV true [.int .i64, .int .i64] r12_3).a) r12_3.length r12_3.length true]).bind fun h18 =>
((rdT (.agg [.int .i64, .int .i64, .int .i64, .slice]) h18 (.hp h.next 4 0)).bind fun (x19_0, x19_1, x19_2, x19_3) =>
((rdRow true h18 [.int .i64, .int .i64] x19_3).bind fun s23 =>
((spileref23_DrawP (x19_0, x19_1, x19_2, s23) a2 a3).bind fun ((r20_0, r20_1, r20_2, r20_3), (r21_0, r21_1, r21_2, r21_3), r22) =>
(let h24 : H := H.new h18 [.int .i64 0, .int .i64 0, .int .i64 0, .slice .nil 0 0 false] 4
(let h25 : H := H.new h24 [.int .i64 0, .int .i64 0, .int .i64 0, .slice .nil 0 0 false] 4
((H.wrs h25 (.hp h18.next 4 0) [.int .i64 r20_0, .int .i64 r20_1, .int .i64 r20_2, .slice ((rowSV true [.int .i64, .int .i64] r20_3).a) r20_3.length r20_3.length true]).bind fun h26 =>
((H.wrs h26 (.hp h24.next 4 0) [.int .i64 r21_0, .int .i64 r21_1, .int .i64 r21_2, .slice ((rowSV true [.int .i64, .int .i64] r21_3).a) r21_3.length r21_3.length true]).bind fun h27 =>
((rdRow true h27 [.int .i64, .int .i64, .int .i64, .row [.int .i64, .int .i64]] a0).bind fun s30 =>
((share_VatP s30 a3).bind fun ((r28_0, r28_1, r28_2, r28_3), r29) =>
(let h31 : H := H.new h27 [.int .i64 0, .int .i64 0, .int .i64 0, .slice .nil 0 0 false] 4
((H.wrs h31 (.hp h27.next 4 0) [.int .i64 r28_0, .int .i64 r28_1, .int .i64 r28_2, .slice ((rowSV true [.int .i64, .int .i64] r28_3).a) r28_3.length r28_3.length true]).bind fun h32 =>
((rdRow true h32 [.int .i64, .int .i64, .int .i64, .row [.int .i64, .int .i64]] a0).bind fun s35 =>
((spileref23_VatP s35 a3).bind fun ((r33_0, r33_1, r33_2, r33_3), r34) =>
(let h36 : H := H.new h32 [.int .i64 0, .int .i64 0, .int .i64 0, .slice .nil 0 0 false] 4
((H.wrs h36 (.hp h32.next 4 0) [.int .i64 r33_0, .int .i64 r33_1, .int .i64 r33_2, .slice ((rowSV true [.int .i64, .int .i64] r33_3).a) r33_3.length r33_3.length true]).bind fun h37 =>
((((rdT (.agg [.int .i64, .int .i64, .int .i64, .slice]) h37 (.hp h9.next 4 0)).bind fun (x38_0, x38_1, x38_2, x38_3) =>
((rdT (.agg [.int .i64, .int .i64, .int .i64, .slice]) h37 (.hp h18.next 4 0)).bind fun (x39_0, x39_1, x39_2, x39_3) =>
((rdRow true h37 [.int .i64, .int .i64] x38_3).bind fun s41 =>
((rdRow true h37 [.int .i64, .int .i64] x39_3).bind fun s42 =>
((spileref22_SameLotP (x38_0, x38_1, x38_2, s41) (x39_0, x39_1, x39_2, s42)).bind fun r40 =>
(bif r40 then ((rdT (.agg [.int .i64, .int .i64, .int .i64, .slice]) h37 (.hp h15.next 4 0)).bind fun (x43_0, x43_1, x43_2, x43_3) =>
((rdT (.agg [.int .i64, .int .i64, .int .i64, .slice]) h37 (.hp h24.next 4 0)).bind fun (x44_0, x44_1, x44_2, x44_3) =>
((rdRow true h37 [.int .i64, .int .i64] x43_3).bind fun s46 =>
((rdRow true h37 [.int .i64, .int .i64] x44_3).bind fun s47 =>
((spileref22_SameLotP (x43_0, x43_1, x43_2, s46) (x44_0, x44_1, x44_2, s47)).bind fun r45 =>
(bif r45 then (bif (decide (r13 = r22)) then ((rdT (.agg [.int .i64, .int .i64, .int .i64, .slice]) h37 (.hp h27.next 4 0)).bind fun (x48_0, x48_1, x48_2, x48_3) =>
((rdT (.agg [.int .i64, .int .i64, .int .i64, .slice]) h37 (.hp h32.next 4 0)).bind fun (x49_0, x49_1, x49_2, x49_3) =>
((rdRow true h37 [.int .i64, .int .i64] x48_3).bind fun s51 =>
((rdRow true h37 [.int .i64, .int .i64] x49_3).bind fun s52 =>
((spileref22_SameLotP (x48_0, x48_1, x48_2, s51) (x49_0, x49_1, x49_2, s52)).bind fun r50 =>
(bif r50 then (some ((decide (r29 = r34)), h37)) else (some (false, h37)))))))) else (some (false, h37))) else (some (false, h37)))))))) else (some (false, h37))))))))).bind fun (y53, h54) =>
(some (y53, h54)))))))))))))))))))))))))))))))
def spilelaw23_ShareLots.A : Ann := { lits := [], conds := [], loops := [], regs := [(3, [29], [.leaf .bool]), (9, [8], [.leaf .bool])] }
theorem spilelaw23_ShareLots.eq : ∀ (x : TT [.leaf .slice, .agg [.int .i64, .int .i64, .int .i64, .slice], .leaf (.int .i64), .leaf (.int .i64)]) (h : H), evalFn Try.prog (spilelaw23_ShareLots.tb) spilelaw23_ShareLots.A Try.f8 (.one (.leaf .bool)) (TT.un [.leaf .slice, .agg [.int .i64, .int .i64, .int .i64, .slice], .leaf (.int .i64), .leaf (.int .i64)] x) h = spilelaw23_ShareLots x.1 x.2.1 x.2.2.1 x.2.2.2 h := by
  intro x h
  kernel_rfl
noncomputable def spilelaw23_ShareLots.e : Entry := mkX [.leaf .slice, .agg [.int .i64, .int .i64, .int .i64, .slice], .leaf (.int .i64), .leaf (.int .i64)] (.one (.leaf .bool)) fun x h => spilelaw23_ShareLots x.1 x.2.1 x.2.2.1 x.2.2.2 h
theorem spilelaw23_ShareLots.ok : EntryOK Try.prog 8 (spilelaw23_ShareLots.e) := mkX_ok (spilelaw23_ShareLots.tbok) Try.mixed Try.func8 (by kernel_rfl) (spilelaw23_ShareLots.eq)
noncomputable def spilelaw23_ShareLotsP (a0 : (List (Int × Int × Int × (List (Int × Int))))) (a1 : (Int × Int × Int × (List (Int × Int)))) (a2 : Int) (a3 : Int) : Option (Bool) := (spilelaw23_ShareLots (rowSV false [.int .i64, .int .i64, .int .i64, .row [.int .i64, .int .i64]] a0) (a1.1, a1.2.1, a1.2.2.1, rowSV false [.int .i64, .int .i64] a1.2.2.2) a2 a3 H.empty).bind fun p => rdRes false p.2 (.one (.leaf .bool)) (Res.un (.one (.leaf .bool)) p.1)
theorem spilelaw23_ShareLotsP.eq : ∀ x : TT [.leaf (.row [.int .i64, .int .i64, .int .i64, .row [.int .i64, .int .i64]]), .agg [.int .i64, .int .i64, .int .i64, .row [.int .i64, .int .i64]], .leaf (.int .i64), .leaf (.int .i64)], ((evalFn Try.prog (spilelaw23_ShareLots.tb) spilelaw23_ShareLots.A Try.f8 (.one (.leaf .bool)) (TT.lo false [.leaf (.row [.int .i64, .int .i64, .int .i64, .row [.int .i64, .int .i64]]), .agg [.int .i64, .int .i64, .int .i64, .row [.int .i64, .int .i64]], .leaf (.int .i64), .leaf (.int .i64)] x) H.empty).bind fun p => rdRes false p.2 (.one (.leaf .bool)) (Res.un (.one (.leaf .bool)) p.1)) = spilelaw23_ShareLotsP x.1 x.2.1 x.2.2.1 x.2.2.2 := by
  intro x
  rw [show TT.lo false [.leaf (.row [.int .i64, .int .i64, .int .i64, .row [.int .i64, .int .i64]]), .agg [.int .i64, .int .i64, .int .i64, .row [.int .i64, .int .i64]], .leaf (.int .i64), .leaf (.int .i64)] x = TT.un [.leaf .slice, .agg [.int .i64, .int .i64, .int .i64, .slice], .leaf (.int .i64), .leaf (.int .i64)] ((rowSV false [.int .i64, .int .i64, .int .i64, .row [.int .i64, .int .i64]] x.1), (x.2.1.1, x.2.1.2.1, x.2.1.2.2.1, rowSV false [.int .i64, .int .i64] x.2.1.2.2.2), x.2.2.1, x.2.2.2) from rfl, spilelaw23_ShareLots.eq]
  rfl
noncomputable def spilelaw23_ShareLotsP.e : Entry := mkP [.leaf (.row [.int .i64, .int .i64, .int .i64, .row [.int .i64, .int .i64]]), .agg [.int .i64, .int .i64, .int .i64, .row [.int .i64, .int .i64]], .leaf (.int .i64), .leaf (.int .i64)] (.one (.leaf .bool)) fun x => spilelaw23_ShareLotsP x.1 x.2.1 x.2.2.1 x.2.2.2
theorem spilelaw23_ShareLotsP.ok : EntryOK Try.prog 8 (spilelaw23_ShareLotsP.e) := mkP_ok (spilelaw23_ShareLots.tbok) Try.mixed Try.func8 (by kernel_rfl) spilelaw23_ShareLotsP.eq

/-! ### spile/spilelaw23.ShareDraws: function 9 -/
noncomputable def spilelaw23_ShareDraws.tb : Table := tab [(10, spilelaw23_awakeP.e), (11, spileref22_FewSharesP.e), (25, share_VatP.e), (28, spileref22_SameLotP.e), (31, share_DrawP.e), (34, mix_DrawP.e), (35, lot_CheckP.e)] [] Table.nil
theorem spilelaw23_ShareDraws.tbok : TabOK Try.prog (spilelaw23_ShareDraws.tb) := TabOK.tab (TabOK.nil Try.prog) (all_cons spilelaw23_awakeP.ok (all_cons spileref22_FewSharesP.ok (all_cons share_VatP.ok (all_cons spileref22_SameLotP.ok (all_cons share_DrawP.ok (all_cons mix_DrawP.ok (all_cons lot_CheckP.ok (all_nil _)))))))) (all_nil _)
noncomputable def spilelaw23_ShareDraws.loop1 (x38_0 : Int) (x38_1 : Int) (x38_2 : Int) (x38_3 : SV) (x39_0 : Int) (x39_1 : Int) (x39_2 : Int) (x39_3 : SV) : (SV × Int) × H → Option (Stp ((SV × Int) × H) (Flow (SV) (Bool) × H)) := fun ((y40, y41), h42) =>
(bif (decide (y41 < 2)) then (guardO (0 ≤ y41 ∧ y41 < ((2 : Nat) : Int)) ((rdT (.agg [.int .i64, .int .i64, .int .i64, .slice]) h42 (.lp true ([.int .i64 x38_0, .int .i64 x38_1, .int .i64 x38_2, .slice x38_3.a x38_3.len x38_3.cap x38_3.tail, .int .i64 x39_0, .int .i64 x39_1, .int .i64 x39_2, .slice x39_3.a x39_3.len x39_3.cap x39_3.tail]) (0 + (Int.toNat y41 * 4)))).bind fun (x43_0, x43_1, x43_2, x43_3) =>
(let h44 : H := H.new h42 [.int .i64 0, .int .i64 0, .int .i64 0, .slice .nil 0 0 false] 4
((H.wrs h44 (.hp h42.next 4 0) [.int .i64 x43_0, .int .i64 x43_1, .int .i64 x43_2, .slice x43_3.a x43_3.len x43_3.cap x43_3.tail]).bind fun h45 =>
((rdT (.leaf (.int .i64)) h45 (.hp h42.next 4 2)).bind fun x46 =>
(bif (decide (x46 = 0)) then ((rdT (.leaf .slice) h45 (.hp h42.next 4 3)).bind fun x47 =>
(bif (!(decide (((x47.len : Nat) : Int) = 0))) then (some (.done (.ret false, h45))) else (some (.more ((y40, (IntKind.wrap .i64 (y41 + 1))), h45))))) else ((rdT (.agg [.int .i64, .int .i64, .int .i64, .slice]) h45 (.hp h42.next 4 0)).bind fun (x48_0, x48_1, x48_2, x48_3) =>
((rdRow true h45 [.int .i64, .int .i64, .int .i64, .row [.int .i64, .int .i64]] ⟨.lp true ([.int .i64 x48_0, .int .i64 x48_1, .int .i64 x48_2, .slice x48_3.a x48_3.len x48_3.cap x48_3.tail]) 0, 1, 1, false⟩).bind fun s51 =>
((lot_CheckP s51).bind fun (r49, r50) =>
(bif (!(decide (r50 = 0))) then (some (.done (.ret false, h45))) else ((rdT (.agg [.int .i64, .int .i64, .int .i64, .slice]) h45 (.hp h42.next 4 0)).bind fun (x52_0, x52_1, x52_2, x52_3) =>
((appendS h45 none 4 48 y40 [.int .i64 x52_0, .int .i64 x52_1, .int .i64 x52_2, .slice x52_3.a x52_3.len x52_3.cap x52_3.tail] 1).bind fun (s55, h54) =>
(some (.more ((s55, (IntKind.wrap .i64 (y41 + 1))), h54))))))))))))))) else (some (.done (.ex0 y40, h42))))
noncomputable def spilelaw23_ShareDraws.loop2 (y60 : SV) : (Int) × H → Option (Stp ((Int) × H) (Flow (Unit) (Bool) × H)) := fun (y61, h62) =>
(bif (decide (y61 < ((y60.len : Nat) : Int))) then (guardO (0 ≤ y61 ∧ y61 < ((y60.len : Nat) : Int)) (guardO (V.nn ((V.add y60.a (Int.toNat y61 * 4)) : V) = true) ((H.wrs h62 (V.add (V.add y60.a (Int.toNat y61 * 4)) 0) [.int .i64 (IntKind.wrap .i64 (y61 + 1))]).bind fun h63 =>
(some (.more ((IntKind.wrap .i64 (y61 + 1)), h63)))))) else (some (.done (.ex0 (), h62))))
noncomputable def spilelaw23_ShareDraws (a0 : (Int × Int × Int × SV)) (a1 : Int) (a2 : Int) (h : H) : Option ((Bool) × H) :=
(match a0 with
| (a0_0, a0_1, a0_2, a0_3) =>
(let h1 : H := H.new h [.int .i64 a0_0, .int .i64 a0_1, .int .i64 a0_2, .slice a0_3.a a0_3.len a0_3.cap a0_3.tail] 4
((spilelaw23_awakeP ).bind fun r2 =>
(bif (!r2) then (some (false, h1)) else ((rdT (.leaf .slice) h1 (.hp h.next 4 3)).bind fun x3 =>
((rdRow true h1 [.int .i64, .int .i64] x3).bind fun s5 =>
((spileref22_FewSharesP s5).bind fun r4 =>
(bif (!r4) then (some (true, h1)) else ((rdT (.agg [.int .i64, .int .i64, .int .i64, .slice]) h1 (.hp h.next 4 0)).bind fun (x6_0, x6_1, x6_2, x6_3) =>
((rdRow true h1 [.int .i64, .int .i64] x6_3).bind fun s10 =>
((share_DrawP (x6_0, x6_1, x6_2, s10) a1 a2).bind fun ((r7_0, r7_1, r7_2, r7_3), (r8_0, r8_1, r8_2, r8_3), r9) =>
(let h11 : H := H.new h1 [.int .i64 0, .int .i64 0, .int .i64 0, .slice .nil 0 0 false] 4
(let h12 : H := H.new h11 [.int .i64 0, .int .i64 0, .int .i64 0, .slice .nil 0 0 false] 4
((H.wrs h12 (.hp h1.next 4 0) [.int .i64 r7_0, .int .i64 r7_1, .int .i64 r7_2, .slice ((rowSV true [.int .i64, .int .i64] r7_3).a) r7_3.length r7_3.length true]).bind fun h13 =>
((H.wrs h13 (.hp h11.next 4 0) [.int .i64 r8_0, .int .i64 r8_1, .int .i64 r8_2, .slice ((rowSV true [.int .i64, .int .i64] r8_3).a) r8_3.length r8_3.length true]).bind fun h14 =>
(bif (!(decide (r9 = 0))) then ((((rdT (.leaf (.int .i64)) h14 (.hp h1.next 4 0)).bind fun x15 =>
(bif (decide (x15 = 0)) then ((rdT (.leaf (.int .i64)) h14 (.hp h11.next 4 0)).bind fun x16 =>
(bif (decide (x16 = 0)) then ((rdT (.leaf .slice) h14 (.hp h1.next 4 3)).bind fun x17 =>
(bif (decide (((x17.len : Nat) : Int) = 0)) then ((rdT (.leaf .slice) h14 (.hp h11.next 4 3)).bind fun x18 =>
(some ((decide (((x18.len : Nat) : Int) = 0)), h14))) else (some (false, h14)))) else (some (false, h14)))) else (some (false, h14))))).bind fun (y19, h20) =>
(some (y19, h20))) else ((rdT (.agg [.int .i64, .int .i64]) h14 (.hp h.next 4 1)).bind fun (x21_0, x21_1) =>
((mix_DrawP (x21_0, x21_1) a1).bind fun ((r22_0, r22_1), (r23_0, r23_1), r24) =>
(let h25 : H := H.new h14 [.int .i64 0, .int .i64 0] 2
(let h26 : H := H.new h25 [.int .i64 0, .int .i64 0] 2
((H.wrs h26 (.hp h14.next 2 0) [.int .i64 r22_0, .int .i64 r22_1]).bind fun h27 =>
((H.wrs h27 (.hp h25.next 2 0) [.int .i64 r23_0, .int .i64 r23_1]).bind fun h28 =>
(((bif !(!(decide (r24 = 0))) then ((rdT (.agg [.int .i64, .int .i64]) h28 (.hp h1.next 4 1)).bind fun (x29_0, x29_1) =>
((rdT (.agg [.int .i64, .int .i64]) h28 (.hp h14.next 2 0)).bind fun (x30_0, x30_1) =>
(bif !(!(decide (x29_0 = x30_0) && (decide (x29_1 = x30_1)))) then ((rdT (.agg [.int .i64, .int .i64]) h28 (.hp h11.next 4 1)).bind fun (x31_0, x31_1) =>
((rdT (.agg [.int .i64, .int .i64]) h28 (.hp h25.next 2 0)).bind fun (x32_0, x32_1) =>
(bif !(!(decide (x31_0 = x32_0) && (decide (x31_1 = x32_1)))) then ((rdT (.leaf (.int .i64)) h28 (.hp h1.next 4 0)).bind fun x33 =>
(bif !(!(decide (x33 = a2))) then ((rdT (.leaf (.int .i64)) h28 (.hp h11.next 4 0)).bind fun x34 =>
((rdT (.leaf (.int .i64)) h28 (.hp h.next 4 0)).bind fun x35 =>
(some ((!(decide (x34 = x35))), h28)))) else (some (true, h28)))) else (some (true, h28))))) else (some (true, h28))))) else (some (true, h28)))).bind fun (y36, h37) =>
(bif y36 then (some (false, h37)) else ((rdT (.agg [.int .i64, .int .i64, .int .i64, .slice]) h37 (.hp h1.next 4 0)).bind fun (x38_0, x38_1, x38_2, x38_3) =>
((rdT (.agg [.int .i64, .int .i64, .int .i64, .slice]) h37 (.hp h11.next 4 0)).bind fun (x39_0, x39_1, x39_2, x39_3) =>
((iter FUEL (spilelaw23_ShareDraws.loop1 x38_0 x38_1 x38_2 x38_3 x39_0 x39_1 x39_2 x39_3) ((⟨.nil, 0, 0, false⟩, 0), h37)).bind fun (fl58, h57) => match fl58 with
| .next _ => none
| .ret rr59 => (some (rr59, h57))
| .ex0 y60 =>
((iter FUEL (spilelaw23_ShareDraws.loop2 y60) (0, h57)).bind fun (fl65, h64) => match fl65 with
| .next _ => none
| .ret rr66 => (some (rr66, h64))
| .ex0 _ =>
((rdT (.leaf (.int .i64)) h64 (.hp h.next 4 0)).bind fun x67 =>
((rdRow true h64 [.int .i64, .int .i64, .int .i64, .row [.int .i64, .int .i64]] y60).bind fun s70 =>
((share_VatP s70 x67).bind fun ((r68_0, r68_1, r68_2, r68_3), r69) =>
(let h71 : H := H.new h64 [.int .i64 0, .int .i64 0, .int .i64 0, .slice .nil 0 0 false] 4
((H.wrs h71 (.hp h64.next 4 0) [.int .i64 r68_0, .int .i64 r68_1, .int .i64 r68_2, .slice ((rowSV true [.int .i64, .int .i64] r68_3).a) r68_3.length r68_3.length true]).bind fun h72 =>
(((bif (decide (r69 = 0)) then ((rdT (.agg [.int .i64, .int .i64, .int .i64, .slice]) h72 (.hp h64.next 4 0)).bind fun (x73_0, x73_1, x73_2, x73_3) =>
((rdT (.agg [.int .i64, .int .i64, .int .i64, .slice]) h72 (.hp h.next 4 0)).bind fun (x74_0, x74_1, x74_2, x74_3) =>
((rdRow true h72 [.int .i64, .int .i64] x73_3).bind fun s76 =>
((rdRow true h72 [.int .i64, .int .i64] x74_3).bind fun s77 =>
((spileref22_SameLotP (x73_0, x73_1, x73_2, s76) (x74_0, x74_1, x74_2, s77)).bind fun r75 =>
(some (r75, h72))))))) else (some (false, h72)))).bind fun (y78, h79) =>
(some (y78, h79))))))))
| .ex1 _ => none)
| .ex1 _ => none)))))))))))))))))))))))))))
def spilelaw23_ShareDraws.A : Ann := { lits := [], conds := [], loops := [(13, [13, 96], [.leaf .slice, .leaf (.int .i64)], [13], [.leaf .slice], some 0, none), (24, [123], [.leaf (.int .i64)], [], [], some 2, none)], regs := [(7, [6], [.leaf .bool]), (9, [91], [.leaf .bool]), (29, [6], [.leaf .bool])] }
theorem spilelaw23_ShareDraws.eq : ∀ (x : TT [.agg [.int .i64, .int .i64, .int .i64, .slice], .leaf (.int .i64), .leaf (.int .i64)]) (h : H), evalFn Try.prog (spilelaw23_ShareDraws.tb) spilelaw23_ShareDraws.A Try.f9 (.one (.leaf .bool)) (TT.un [.agg [.int .i64, .int .i64, .int .i64, .slice], .leaf (.int .i64), .leaf (.int .i64)] x) h = spilelaw23_ShareDraws x.1 x.2.1 x.2.2 h := by
  intro x h
  kernel_rfl
noncomputable def spilelaw23_ShareDraws.e : Entry := mkX [.agg [.int .i64, .int .i64, .int .i64, .slice], .leaf (.int .i64), .leaf (.int .i64)] (.one (.leaf .bool)) fun x h => spilelaw23_ShareDraws x.1 x.2.1 x.2.2 h
theorem spilelaw23_ShareDraws.ok : EntryOK Try.prog 9 (spilelaw23_ShareDraws.e) := mkX_ok (spilelaw23_ShareDraws.tbok) Try.mixed Try.func9 (by kernel_rfl) (spilelaw23_ShareDraws.eq)
noncomputable def spilelaw23_ShareDrawsP (a0 : (Int × Int × Int × (List (Int × Int)))) (a1 : Int) (a2 : Int) : Option (Bool) := (spilelaw23_ShareDraws (a0.1, a0.2.1, a0.2.2.1, rowSV false [.int .i64, .int .i64] a0.2.2.2) a1 a2 H.empty).bind fun p => rdRes false p.2 (.one (.leaf .bool)) (Res.un (.one (.leaf .bool)) p.1)
theorem spilelaw23_ShareDrawsP.eq : ∀ x : TT [.agg [.int .i64, .int .i64, .int .i64, .row [.int .i64, .int .i64]], .leaf (.int .i64), .leaf (.int .i64)], ((evalFn Try.prog (spilelaw23_ShareDraws.tb) spilelaw23_ShareDraws.A Try.f9 (.one (.leaf .bool)) (TT.lo false [.agg [.int .i64, .int .i64, .int .i64, .row [.int .i64, .int .i64]], .leaf (.int .i64), .leaf (.int .i64)] x) H.empty).bind fun p => rdRes false p.2 (.one (.leaf .bool)) (Res.un (.one (.leaf .bool)) p.1)) = spilelaw23_ShareDrawsP x.1 x.2.1 x.2.2 := by
  intro x
  rw [show TT.lo false [.agg [.int .i64, .int .i64, .int .i64, .row [.int .i64, .int .i64]], .leaf (.int .i64), .leaf (.int .i64)] x = TT.un [.agg [.int .i64, .int .i64, .int .i64, .slice], .leaf (.int .i64), .leaf (.int .i64)] ((x.1.1, x.1.2.1, x.1.2.2.1, rowSV false [.int .i64, .int .i64] x.1.2.2.2), x.2.1, x.2.2) from rfl, spilelaw23_ShareDraws.eq]
  rfl
noncomputable def spilelaw23_ShareDrawsP.e : Entry := mkP [.agg [.int .i64, .int .i64, .int .i64, .row [.int .i64, .int .i64]], .leaf (.int .i64), .leaf (.int .i64)] (.one (.leaf .bool)) fun x => spilelaw23_ShareDrawsP x.1 x.2.1 x.2.2
theorem spilelaw23_ShareDrawsP.ok : EntryOK Try.prog 9 (spilelaw23_ShareDrawsP.e) := mkP_ok (spilelaw23_ShareDraws.tbok) Try.mixed Try.func9 (by kernel_rfl) spilelaw23_ShareDrawsP.eq
end Go.Proofs.Ytbcpdecgfdlaaaa
