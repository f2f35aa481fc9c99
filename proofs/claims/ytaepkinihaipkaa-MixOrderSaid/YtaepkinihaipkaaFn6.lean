/- The functions of the program as Lean functions, each with the equation by which the evaluator is that function. Written by a program of this session (evdrive.py). Conditions: none. -/
import Derived.Test.YtaepkinihaipkaaProg
import Derived.Test.YtaepkinihaipkaaEvSpec
import Derived.Test.YtaepkinihaipkaaFn5
namespace Go.Proofs.Ytaepkinihaipkaa
open Go Go.Proofs.Ytaepkinihaipkaa.Ev
set_option maxRecDepth 100000
set_option linter.unusedVariables false
/-! ### spile/spileref21.Draw: function 14 -/
noncomputable def spileref21_Draw.tb : Table := tab [(30, spileref21_PlainP.e), (33, spileref21_TakeP.e), (34, spileref21_MinusP.e)] [] Table.nil
theorem spileref21_Draw.tbok : TabOK Try.prog (spileref21_Draw.tb) := TabOK.tab (TabOK.nil Try.prog) (all_cons spileref21_PlainP.ok (all_cons spileref21_TakeP.ok (all_cons spileref21_MinusP.ok (all_nil _)))) (all_nil _)
noncomputable def spileref21_Draw (a0 : (Int × Int)) (a1 : Int) (h : H) : Option (((Int × Int) × (Int × Int) × Int) × H) :=
(match a0 with
| (a0_0, a0_1) =>
(let h1 : H := H.new h [.int .i64 a0_0, .int .i64 a0_1] 2
(let h2 : H := H.new h1 [.int .i64 0, .int .i64 0] 2
(let h3 : H := H.new h2 [.int .i64 0, .int .i64 0] 2
((rdT (.agg [.int .i64, .int .i64]) h3 (.hp h.next 2 0)).bind fun (x4_0, x4_1) =>
((spileref21_PlainP (x4_0, x4_1)).bind fun r5 =>
(bif (!r5) then ((H.wrs h3 (.hp h1.next 2 0) [.int .i64 0, .int .i64 0]).bind fun h6 =>
((H.wrs h6 (.hp h2.next 2 0) [.int .i64 0, .int .i64 0]).bind fun h7 =>
((rdT (.agg [.int .i64, .int .i64]) h7 (.hp h1.next 2 0 : V)).bind fun (x8_0, x8_1) =>
((rdT (.agg [.int .i64, .int .i64]) h7 (.hp h2.next 2 0 : V)).bind fun (x9_0, x9_1) =>
(some (((x8_0, x8_1), (x9_0, x9_1), 1), h7)))))) else (bif (decide (a1 < 0)) then ((H.wrs h3 (.hp h1.next 2 0) [.int .i64 0, .int .i64 0]).bind fun h10 =>
((H.wrs h10 (.hp h2.next 2 0) [.int .i64 0, .int .i64 0]).bind fun h11 =>
((rdT (.agg [.int .i64, .int .i64]) h11 (.hp h1.next 2 0 : V)).bind fun (x12_0, x12_1) =>
((rdT (.agg [.int .i64, .int .i64]) h11 (.hp h2.next 2 0 : V)).bind fun (x13_0, x13_1) =>
(some (((x12_0, x12_1), (x13_0, x13_1), 2), h11)))))) else ((rdT (.leaf (.int .i64)) h3 (.hp h.next 2 1)).bind fun x14 =>
(bif (decide (x14 < a1)) then ((H.wrs h3 (.hp h1.next 2 0) [.int .i64 0, .int .i64 0]).bind fun h15 =>
((H.wrs h15 (.hp h2.next 2 0) [.int .i64 0, .int .i64 0]).bind fun h16 =>
((rdT (.agg [.int .i64, .int .i64]) h16 (.hp h1.next 2 0 : V)).bind fun (x17_0, x17_1) =>
((rdT (.agg [.int .i64, .int .i64]) h16 (.hp h2.next 2 0 : V)).bind fun (x18_0, x18_1) =>
(some (((x17_0, x17_1), (x18_0, x18_1), 17), h16)))))) else ((rdT (.agg [.int .i64, .int .i64]) h3 (.hp h.next 2 0)).bind fun (x19_0, x19_1) =>
((spileref21_TakeP (x19_0, x19_1) a1).bind fun (r20_0, r20_1) =>
(let h21 : H := H.new h3 [.int .i64 0, .int .i64 0] 2
((H.wrs h21 (.hp h3.next 2 0) [.int .i64 r20_0, .int .i64 r20_1]).bind fun h22 =>
(let h23 : H := H.reserve h22 0
((rdT (.agg [.int .i64, .int .i64]) h23 (.hp h3.next 2 0)).bind fun (x24_0, x24_1) =>
((rdT (.agg [.int .i64, .int .i64]) h23 (.hp h.next 2 0)).bind fun (x25_0, x25_1) =>
((rdT (.agg [.int .i64, .int .i64]) h23 (.hp h3.next 2 0)).bind fun (x26_0, x26_1) =>
((spileref21_MinusP (x25_0, x25_1) (x26_0, x26_1)).bind fun (r27_0, r27_1) =>
((H.wrs h23 (.hp h1.next 2 0) [.int .i64 x24_0, .int .i64 x24_1]).bind fun h28 =>
((H.wrs h28 (.hp h2.next 2 0) [.int .i64 r27_0, .int .i64 r27_1]).bind fun h29 =>
((rdT (.agg [.int .i64, .int .i64]) h29 (.hp h1.next 2 0 : V)).bind fun (x30_0, x30_1) =>
((rdT (.agg [.int .i64, .int .i64]) h29 (.hp h2.next 2 0 : V)).bind fun (x31_0, x31_1) =>
(some (((x30_0, x30_1), (x31_0, x31_1), 0), h29)))))))))))))))))))))))))
def spileref21_Draw.A : Ann := { lits := [], conds := [], loops := [], regs := [] }
theorem spileref21_Draw.eq : ∀ (x : TT [.agg [.int .i64, .int .i64], .leaf (.int .i64)]) (h : H), evalFn Try.prog (spileref21_Draw.tb) spileref21_Draw.A Try.f14 (.many [.agg [.int .i64, .int .i64], .agg [.int .i64, .int .i64], .leaf (.int .i64)]) (TT.un [.agg [.int .i64, .int .i64], .leaf (.int .i64)] x) h = spileref21_Draw x.1 x.2 h := by
  intro x h
  kernel_rfl
noncomputable def spileref21_Draw.e : Entry := mkX [.agg [.int .i64, .int .i64], .leaf (.int .i64)] (.many [.agg [.int .i64, .int .i64], .agg [.int .i64, .int .i64], .leaf (.int .i64)]) fun x h => spileref21_Draw x.1 x.2 h
theorem spileref21_Draw.ok : EntryOK Try.prog 14 (spileref21_Draw.e) := mkX_ok (spileref21_Draw.tbok) Try.mixed Try.func14 (by kernel_rfl) (spileref21_Draw.eq)
noncomputable def spileref21_DrawP (a0 : (Int × Int)) (a1 : Int) : Option ((Int × Int) × (Int × Int) × Int) := (spileref21_Draw a0 a1 H.empty).bind fun p => rdRes false p.2 (.many [.agg [.int .i64, .int .i64], .agg [.int .i64, .int .i64], .leaf (.int .i64)]) (Res.un (.many [.agg [.int .i64, .int .i64], .agg [.int .i64, .int .i64], .leaf (.int .i64)]) p.1)
theorem spileref21_DrawP.eq : ∀ x : TT [.agg [.int .i64, .int .i64], .leaf (.int .i64)], ((evalFn Try.prog (spileref21_Draw.tb) spileref21_Draw.A Try.f14 (.many [.agg [.int .i64, .int .i64], .agg [.int .i64, .int .i64], .leaf (.int .i64)]) (TT.lo false [.agg [.int .i64, .int .i64], .leaf (.int .i64)] x) H.empty).bind fun p => rdRes false p.2 (.many [.agg [.int .i64, .int .i64], .agg [.int .i64, .int .i64], .leaf (.int .i64)]) (Res.un (.many [.agg [.int .i64, .int .i64], .agg [.int .i64, .int .i64], .leaf (.int .i64)]) p.1)) = spileref21_DrawP x.1 x.2 := by
  intro x
  rw [show TT.lo false [.agg [.int .i64, .int .i64], .leaf (.int .i64)] x = TT.un [.agg [.int .i64, .int .i64], .leaf (.int .i64)] (x.1, x.2) from rfl, spileref21_Draw.eq]
  rfl
noncomputable def spileref21_DrawP.e : Entry := mkP [.agg [.int .i64, .int .i64], .leaf (.int .i64)] (.many [.agg [.int .i64, .int .i64], .agg [.int .i64, .int .i64], .leaf (.int .i64)]) fun x => spileref21_DrawP x.1 x.2
theorem spileref21_DrawP.ok : EntryOK Try.prog 14 (spileref21_DrawP.e) := mkP_ok (spileref21_Draw.tbok) Try.mixed Try.func14 (by kernel_rfl) spileref21_DrawP.eq

/-! ### spile/spileref01.Is: function 69 -/
noncomputable def spileref01_Is.tb : Table := tab [] [] Table.nil
theorem spileref01_Is.tbok : TabOK Try.prog (spileref01_Is.tb) := TabOK.tab (TabOK.nil Try.prog) (all_nil _) (all_nil _)
noncomputable def spileref01_Is (a0 : Int) (h : H) : Option ((Bool) × H) :=
(((bif (decide ((0 : Int) ≤ a0)) then (some ((decide (a0 ≤ 128849018880000)), h)) else (some (false, h)))).bind fun (y1, h2) =>
(some (y1, h2)))
def spileref01_Is.A : Ann := { lits := [], conds := [], loops := [], regs := [(1, [2], [.leaf .bool])] }
theorem spileref01_Is.eq : ∀ (x : TT [.leaf (.int .i64)]) (h : H), evalFn Try.prog (spileref01_Is.tb) spileref01_Is.A Try.f69 (.one (.leaf .bool)) (TT.un [.leaf (.int .i64)] x) h = spileref01_Is x h := by
  intro x h
  kernel_rfl
noncomputable def spileref01_Is.e : Entry := mkX [.leaf (.int .i64)] (.one (.leaf .bool)) fun x h => spileref01_Is x h
theorem spileref01_Is.ok : EntryOK Try.prog 69 (spileref01_Is.e) := mkX_ok (spileref01_Is.tbok) Try.mixed Try.func69 (by kernel_rfl) (spileref01_Is.eq)
noncomputable def spileref01_IsP (a0 : Int) : Option (Bool) := (spileref01_Is a0 H.empty).bind fun p => rdRes false p.2 (.one (.leaf .bool)) (Res.un (.one (.leaf .bool)) p.1)
theorem spileref01_IsP.eq : ∀ x : TT [.leaf (.int .i64)], ((evalFn Try.prog (spileref01_Is.tb) spileref01_Is.A Try.f69 (.one (.leaf .bool)) (TT.lo false [.leaf (.int .i64)] x) H.empty).bind fun p => rdRes false p.2 (.one (.leaf .bool)) (Res.un (.one (.leaf .bool)) p.1)) = spileref01_IsP x := by
  intro x
  rw [show TT.lo false [.leaf (.int .i64)] x = TT.un [.leaf (.int .i64)] (x) from rfl, spileref01_Is.eq]
  rfl
noncomputable def spileref01_IsP.e : Entry := mkP [.leaf (.int .i64)] (.one (.leaf .bool)) fun x => spileref01_IsP x
theorem spileref01_IsP.ok : EntryOK Try.prog 69 (spileref01_IsP.e) := mkP_ok (spileref01_Is.tbok) Try.mixed Try.func69 (by kernel_rfl) spileref01_IsP.eq

/-! ### spile/spileref01.weigh: function 55 -/
noncomputable def spileref01_weigh.tb : Table := tab [(69, spileref01_IsP.e)] [] Table.nil
theorem spileref01_weigh.tbok : TabOK Try.prog (spileref01_weigh.tb) := TabOK.tab (TabOK.nil Try.prog) (all_cons spileref01_IsP.ok (all_nil _)) (all_nil _)
noncomputable def spileref01_weigh.loop1 (a1 : SV) : (Int × Int) × H → Option (Stp ((Int × Int) × H) (Flow (Int) (Int × Int) × H)) := fun ((y2, y3), h4) =>
(bif (decide (y3 < ((a1.len : Nat) : Int))) then (((guardO (0 ≤ y3 ∧ y3 < ((a1.len : Nat) : Int)) ((rdT (.leaf (.int .i64)) h4 (V.add a1.a (Int.toNat y3 * 1))).bind fun x5 =>
((spileref01_IsP x5).bind fun r6 =>
(bif !(!r6) then (guardO (0 ≤ y3 ∧ y3 < ((a1.len : Nat) : Int)) ((rdT (.leaf (.int .i64)) h4 (V.add a1.a (Int.toNat y3 * 1))).bind fun x7 =>
((spileref01_IsP (IntKind.wrap .i64 (y2 + x7))).bind fun r8 =>
(some ((!r8), h4))))) else (some (true, h4))))))).bind fun (y9, h10) =>
(bif y9 then (some (.done (.ret (0, 2), h10))) else (guardO (0 ≤ y3 ∧ y3 < ((a1.len : Nat) : Int)) ((rdT (.leaf (.int .i64)) h10 (V.add a1.a (Int.toNat y3 * 1))).bind fun x11 =>
(some (.more (((IntKind.wrap .i64 (y2 + x11)), (IntKind.wrap .i64 (y3 + 1))), h10))))))) else (some (.done (.ex0 y2, h4))))
noncomputable def spileref01_weigh (a0 : Int) (a1 : SV) (h : H) : Option ((Int × Int) × H) :=
((spileref01_IsP a0).bind fun r1 =>
(bif (!r1) then (some ((0, 2), h)) else (bif (decide (((a1.len : Nat) : Int) = 0)) then (some ((0, 9), h)) else (bif (decide ((64 : Int) < ((a1.len : Nat) : Int))) then (some ((0, 8), h)) else ((iter FUEL (spileref01_weigh.loop1 a1) ((0, 0), h)).bind fun (fl13, h12) => match fl13 with
| .next _ => none
| .ret rr14 => (some (rr14, h12))
| .ex0 y15 =>
(bif (decide (y15 = 0)) then (some ((0, 16), h12)) else (some ((y15, 0), h12)))
| .ex1 _ => none)))))
def spileref01_weigh.A : Ann := { lits := [], conds := [], loops := [(9, [6, 7], [.leaf (.int .i64), .leaf (.int .i64)], [6], [.leaf (.int .i64)], some 0, none)], regs := [(11, [38], [.leaf .bool])] }
theorem spileref01_weigh.eq : ∀ (x : TT [.leaf (.int .i64), .leaf .slice]) (h : H), evalFn Try.prog (spileref01_weigh.tb) spileref01_weigh.A Try.f55 (.many [.leaf (.int .i64), .leaf (.int .i64)]) (TT.un [.leaf (.int .i64), .leaf .slice] x) h = spileref01_weigh x.1 x.2 h := by
  intro x h
  kernel_rfl
noncomputable def spileref01_weigh.e : Entry := mkX [.leaf (.int .i64), .leaf .slice] (.many [.leaf (.int .i64), .leaf (.int .i64)]) fun x h => spileref01_weigh x.1 x.2 h
theorem spileref01_weigh.ok : EntryOK Try.prog 55 (spileref01_weigh.e) := mkX_ok (spileref01_weigh.tbok) Try.mixed Try.func55 (by kernel_rfl) (spileref01_weigh.eq)
noncomputable def spileref01_weighP (a0 : Int) (a1 : (List (Int))) : Option (Int × Int) := (spileref01_weigh a0 (rowSV false [.int .i64] a1) H.empty).bind fun p => rdRes false p.2 (.many [.leaf (.int .i64), .leaf (.int .i64)]) (Res.un (.many [.leaf (.int .i64), .leaf (.int .i64)]) p.1)
theorem spileref01_weighP.eq : ∀ x : TT [.leaf (.int .i64), .leaf (.row [.int .i64])], ((evalFn Try.prog (spileref01_weigh.tb) spileref01_weigh.A Try.f55 (.many [.leaf (.int .i64), .leaf (.int .i64)]) (TT.lo false [.leaf (.int .i64), .leaf (.row [.int .i64])] x) H.empty).bind fun p => rdRes false p.2 (.many [.leaf (.int .i64), .leaf (.int .i64)]) (Res.un (.many [.leaf (.int .i64), .leaf (.int .i64)]) p.1)) = spileref01_weighP x.1 x.2 := by
  intro x
  rw [show TT.lo false [.leaf (.int .i64), .leaf (.row [.int .i64])] x = TT.un [.leaf (.int .i64), .leaf .slice] (x.1, (rowSV false [.int .i64] x.2)) from rfl, spileref01_weigh.eq]
  rfl
noncomputable def spileref01_weighP.e : Entry := mkP [.leaf (.int .i64), .leaf (.row [.int .i64])] (.many [.leaf (.int .i64), .leaf (.int .i64)]) fun x => spileref01_weighP x.1 x.2
theorem spileref01_weighP.ok : EntryOK Try.prog 55 (spileref01_weighP.e) := mkP_ok (spileref01_weigh.tbok) Try.mixed Try.func55 (by kernel_rfl) spileref01_weighP.eq

/-! ### spile/spileref01.Divide: function 36 -/
noncomputable def spileref01_Divide.tb : Table := tab [(50, spileref01_ProportionP.e), (55, spileref01_weighP.e)] [] Table.nil
theorem spileref01_Divide.tbok : TabOK Try.prog (spileref01_Divide.tb) := TabOK.tab (TabOK.nil Try.prog) (all_cons spileref01_ProportionP.ok (all_cons spileref01_weighP.ok (all_nil _))) (all_nil _)
noncomputable def spileref01_Divide.loop1 (a0 : Int) (a1 : SV) (r1 : Int) : (SV × SV × Int × Int) × H → Option (Stp ((SV × SV × Int × Int) × H) (Flow (SV × SV × Int) (SV × Int) × H)) := fun ((y4, y5, y6, y7), h8) =>
(bif (decide (y7 < ((a1.len : Nat) : Int))) then (guardO (0 ≤ y7 ∧ y7 < ((a1.len : Nat) : Int)) ((rdT (.leaf (.int .i64)) h8 (V.add a1.a (Int.toNat y7 * 1))).bind fun x9 =>
((spileref01_ProportionP a0 x9 r1).bind fun (r10, r11) =>
((appendS h8 none 1 8 y4 [.int .i64 r10] 1).bind fun (s14, h13) =>
((appendS h13 none 1 8 y5 [.int .i64 r11] 1).bind fun (s18, h17) =>
(some (.more ((s14, s18, (IntKind.wrap .i64 (y6 - r10)), (IntKind.wrap .i64 (y7 + 1))), h17)))))))) else (some (.done (.ex0 (y4, y5, y6), h8))))
noncomputable def spileref01_Divide.loop2 (y24 : SV) : (Int × Int) × H → Option (Stp ((Int × Int) × H) (Flow (Int) (SV × Int) × H)) := fun ((y28, y29), h30) =>
(bif (decide (y29 < ((y24.len : Nat) : Int))) then (let h31 : H := H.reserve h30 0
(guardO (0 ≤ y29 ∧ y29 < ((y24.len : Nat) : Int)) ((rdT (.leaf (.int .i64)) h31 (V.add y24.a (Int.toNat y29 * 1))).bind fun x32 =>
(guardO (0 ≤ y28 ∧ y28 < ((y24.len : Nat) : Int)) ((rdT (.leaf (.int .i64)) h31 (V.add y24.a (Int.toNat y28 * 1))).bind fun x33 =>
((bif (decide (x33 < x32)) then (some (.next y29, h31)) else (some (.next y28, h31)) : Option (Flow (Int) (SV × Int) × H)).bind fun (fl35, h34) => match fl35 with
| .next y36 =>
(some (.more ((y36, (IntKind.wrap .i64 (y29 + 1))), h34)))
| .ret rr37 => (some (.done (.ret rr37, h34)))
| .ex0 _ => none
| .ex1 _ => none)))))) else (some (.done (.ex0 y28, h30))))
noncomputable def spileref01_Divide.loop3 (y23 : SV) (y24 : SV) : (Int) × H → Option (Stp ((Int) × H) (Flow (Unit) (SV × Int) × H)) := fun (y26, h27) =>
(bif (decide ((0 : Int) < y26)) then ((iter FUEL (spileref01_Divide.loop2 y24) ((0, 0), h27)).bind fun (fl39, h38) => match fl39 with
| .next _ => none
| .ret rr40 => (some (.done (.ret rr40, h38)))
| .ex0 y41 =>
(guardO (0 ≤ y41 ∧ y41 < ((y23.len : Nat) : Int)) ((rdT (.leaf (.int .i64)) h38 (V.add y23.a (Int.toNat y41 * 1))).bind fun x42 =>
(guardO (0 ≤ y41 ∧ y41 < ((y23.len : Nat) : Int)) ((H.wrs h38 (V.add y23.a (Int.toNat y41 * 1)) [.int .i64 (IntKind.wrap .i64 (x42 + 1))]).bind fun h43 =>
(guardO (0 ≤ y41 ∧ y41 < ((y24.len : Nat) : Int)) ((H.wrs h43 (V.add y24.a (Int.toNat y41 * 1)) [.int .i64 (-1)]).bind fun h44 =>
(some (.more ((IntKind.wrap .i64 (y26 - 1)), h44)))))))))
| .ex1 _ => none) else (some (.done (.ex0 (), h27))))
noncomputable def spileref01_Divide (a0 : Int) (a1 : SV) (h : H) : Option ((SV × Int) × H) :=
((rdRow true h [.int .i64] a1).bind fun s3 =>
((spileref01_weighP a0 s3).bind fun (r1, r2) =>
(bif (!(decide (r2 = 0))) then (some ((⟨.nil, 0, 0, false⟩, r2), h)) else ((iter FUEL (spileref01_Divide.loop1 a0 a1 r1) ((⟨.nil, 0, 0, false⟩, ⟨.nil, 0, 0, false⟩, a0, 0), h)).bind fun (fl21, h20) => match fl21 with
| .next _ => none
| .ret rr22 => (some (rr22, h20))
| .ex0 (y23, y24, y25) =>
((iter FUEL (spileref01_Divide.loop3 y23 y24) (y25, h20)).bind fun (fl46, h45) => match fl46 with
| .next _ => none
| .ret rr47 => (some (rr47, h45))
| .ex0 _ =>
(some ((y23, 0), h45))
| .ex1 _ => none)
| .ex1 _ => none))))
def spileref01_Divide.A : Ann := { lits := [], conds := [(71, [14], [.leaf (.int .i64)], none, none)], loops := [(7, [8, 9, 10, 11], [.leaf .slice, .leaf .slice, .leaf (.int .i64), .leaf (.int .i64)], [8, 9, 10], [.leaf .slice, .leaf .slice, .leaf (.int .i64)], some 0, none), (16, [14, 15], [.leaf (.int .i64), .leaf (.int .i64)], [14], [.leaf (.int .i64)], some 4, none), (12, [10], [.leaf (.int .i64)], [], [], some 2, none)], regs := [] }
theorem spileref01_Divide.eq : ∀ (x : TT [.leaf (.int .i64), .leaf .slice]) (h : H), evalFn Try.prog (spileref01_Divide.tb) spileref01_Divide.A Try.f36 (.many [.leaf .slice, .leaf (.int .i64)]) (TT.un [.leaf (.int .i64), .leaf .slice] x) h = spileref01_Divide x.1 x.2 h := by
  intro x h
  kernel_rfl
noncomputable def spileref01_Divide.e : Entry := mkX [.leaf (.int .i64), .leaf .slice] (.many [.leaf .slice, .leaf (.int .i64)]) fun x h => spileref01_Divide x.1 x.2 h
theorem spileref01_Divide.ok : EntryOK Try.prog 36 (spileref01_Divide.e) := mkX_ok (spileref01_Divide.tbok) Try.mixed Try.func36 (by kernel_rfl) (spileref01_Divide.eq)
noncomputable def spileref01_DivideP (a0 : Int) (a1 : (List (Int))) : Option ((List (Int)) × Int) := (spileref01_Divide a0 (rowSV false [.int .i64] a1) H.empty).bind fun p => rdRes false p.2 (.many [.leaf (.row [.int .i64]), .leaf (.int .i64)]) (Res.un (.many [.leaf .slice, .leaf (.int .i64)]) p.1)
theorem spileref01_DivideP.eq : ∀ x : TT [.leaf (.int .i64), .leaf (.row [.int .i64])], ((evalFn Try.prog (spileref01_Divide.tb) spileref01_Divide.A Try.f36 (.many [.leaf .slice, .leaf (.int .i64)]) (TT.lo false [.leaf (.int .i64), .leaf (.row [.int .i64])] x) H.empty).bind fun p => rdRes false p.2 (.many [.leaf (.row [.int .i64]), .leaf (.int .i64)]) (Res.un (.many [.leaf .slice, .leaf (.int .i64)]) p.1)) = spileref01_DivideP x.1 x.2 := by
  intro x
  rw [show TT.lo false [.leaf (.int .i64), .leaf (.row [.int .i64])] x = TT.un [.leaf (.int .i64), .leaf .slice] (x.1, (rowSV false [.int .i64] x.2)) from rfl, spileref01_Divide.eq]
  rfl
noncomputable def spileref01_DivideP.e : Entry := mkP [.leaf (.int .i64), .leaf (.row [.int .i64])] (.many [.leaf (.row [.int .i64]), .leaf (.int .i64)]) fun x => spileref01_DivideP x.1 x.2
theorem spileref01_DivideP.ok : EntryOK Try.prog 36 (spileref01_DivideP.e) := mkP_ok (spileref01_Divide.tbok) Try.mixed Try.func36 (by kernel_rfl) spileref01_DivideP.eq

/-! ### spile/spileref21.Divide: function 16 -/
noncomputable def spileref21_Divide.tb : Table := tab [(30, spileref21_PlainP.e), (36, spileref01_DivideP.e)] [] Table.nil
theorem spileref21_Divide.tbok : TabOK Try.prog (spileref21_Divide.tb) := TabOK.tab (TabOK.nil Try.prog) (all_cons spileref21_PlainP.ok (all_cons spileref01_DivideP.ok (all_nil _))) (all_nil _)
noncomputable def spileref21_Divide.loop1 (h1 : H) (r5 : List (Int)) (r11 : List (Int)) : (Int) × H → Option (Stp ((Int) × H) (Flow (Unit) (SV × Int) × H)) := fun (y14, h15) =>
(bif (decide (y14 < ((r5.length : Nat) : Int))) then (let h16 : H := H.reserve h15 0
(guardO (0 ≤ y14 ∧ y14 < ((r11.length : Nat) : Int)) ((rdT (.leaf (.int .i64)) h16 (V.add ((rowSV true [.int .i64] r11).a) (Int.toNat y14 * 1))).bind fun x17 =>
(guardO (0 ≤ y14 ∧ y14 < ((r5.length : Nat) : Int)) ((rdT (.leaf (.int .i64)) h16 (V.add ((rowSV true [.int .i64] r5).a) (Int.toNat y14 * 1))).bind fun x18 =>
(guardO (0 ≤ y14 ∧ y14 < (((Int.toNat ((r5.length : Nat) : Int)) : Nat) : Int)) ((H.wrs h16 (.hp h1.next (Int.toNat ((r5.length : Nat) : Int) * 2) (0 + (Int.toNat y14 * 2))) [.int .i64 x17, .int .i64 x18]).bind fun h19 =>
(some (.more ((IntKind.wrap .i64 (y14 + 1)), h19)))))))))) else (some (.done (.ex0 (), h15))))
noncomputable def spileref21_Divide (a0 : (Int × Int)) (a1 : SV) (h : H) : Option ((SV × Int) × H) :=
(match a0 with
| (a0_0, a0_1) =>
(let h1 : H := H.new h [.int .i64 a0_0, .int .i64 a0_1] 2
((rdT (.agg [.int .i64, .int .i64]) h1 (.hp h.next 2 0)).bind fun (x2_0, x2_1) =>
((spileref21_PlainP (x2_0, x2_1)).bind fun r3 =>
(bif (!r3) then (some ((⟨.nil, 0, 0, false⟩, 1), h1)) else ((rdT (.leaf (.int .i64)) h1 (.hp h.next 2 1)).bind fun x4 =>
((rdRow true h1 [.int .i64] a1).bind fun s7 =>
((spileref01_DivideP x4 s7).bind fun (r5, r6) =>
(bif (!(decide (r6 = 0))) then (some ((⟨.nil, 0, 0, false⟩, r6), h1)) else (guardO (0 ≤ ((r5.length : Nat) : Int) ∧ ((r5.length : Nat) : Int) ≤ ((r5.length : Nat) : Int) ∧ ((r5.length : Nat) : Int) ≤ roomCells ∧ 16 ≤ 2 ^ 11 ∧ 2 = 2) (let h8 : H := H.new h1 (repeatCells [.int .i64 0, .int .i64 0] (Int.toNat ((r5.length : Nat) : Int))) 2
((rdT (.leaf (.int .i64)) h8 (.hp h.next 2 1)).bind fun x9 =>
(bif (decide (x9 = 0)) then (some ((⟨.hp h1.next (Int.toNat ((r5.length : Nat) : Int) * 2) 0, (Int.toNat ((r5.length : Nat) : Int)), (Int.toNat ((r5.length : Nat) : Int)), true⟩, 0), h8)) else ((rdT (.leaf (.int .i64)) h8 (.hp h.next 2 0)).bind fun x10 =>
((rdRow true h8 [.int .i64] (rowSV true [.int .i64] r5)).bind fun s13 =>
((spileref01_DivideP x10 s13).bind fun (r11, r12) =>
((iter FUEL (spileref21_Divide.loop1 h1 r5 r11) (0, h8)).bind fun (fl21, h20) => match fl21 with
| .next _ => none
| .ret rr22 => (some (rr22, h20))
| .ex0 _ =>
(some ((⟨.hp h1.next (Int.toNat ((r5.length : Nat) : Int) * 2) 0, (Int.toNat ((r5.length : Nat) : Int)), (Int.toNat ((r5.length : Nat) : Int)), true⟩, 0), h20))
| .ex1 _ => none)))))))))))))))))
def spileref21_Divide.A : Ann := { lits := [], conds := [], loops := [(11, [11], [.leaf (.int .i64)], [], [], some 0, none)], regs := [] }
theorem spileref21_Divide.eq : ∀ (x : TT [.agg [.int .i64, .int .i64], .leaf .slice]) (h : H), evalFn Try.prog (spileref21_Divide.tb) spileref21_Divide.A Try.f16 (.many [.leaf .slice, .leaf (.int .i64)]) (TT.un [.agg [.int .i64, .int .i64], .leaf .slice] x) h = spileref21_Divide x.1 x.2 h := by
  intro x h
  kernel_rfl
noncomputable def spileref21_Divide.e : Entry := mkX [.agg [.int .i64, .int .i64], .leaf .slice] (.many [.leaf .slice, .leaf (.int .i64)]) fun x h => spileref21_Divide x.1 x.2 h
theorem spileref21_Divide.ok : EntryOK Try.prog 16 (spileref21_Divide.e) := mkX_ok (spileref21_Divide.tbok) Try.mixed Try.func16 (by kernel_rfl) (spileref21_Divide.eq)
noncomputable def spileref21_DivideP (a0 : (Int × Int)) (a1 : (List (Int))) : Option ((List (Int × Int)) × Int) := (spileref21_Divide a0 (rowSV false [.int .i64] a1) H.empty).bind fun p => rdRes false p.2 (.many [.leaf (.row [.int .i64, .int .i64]), .leaf (.int .i64)]) (Res.un (.many [.leaf .slice, .leaf (.int .i64)]) p.1)
theorem spileref21_DivideP.eq : ∀ x : TT [.agg [.int .i64, .int .i64], .leaf (.row [.int .i64])], ((evalFn Try.prog (spileref21_Divide.tb) spileref21_Divide.A Try.f16 (.many [.leaf .slice, .leaf (.int .i64)]) (TT.lo false [.agg [.int .i64, .int .i64], .leaf (.row [.int .i64])] x) H.empty).bind fun p => rdRes false p.2 (.many [.leaf (.row [.int .i64, .int .i64]), .leaf (.int .i64)]) (Res.un (.many [.leaf .slice, .leaf (.int .i64)]) p.1)) = spileref21_DivideP x.1 x.2 := by
  intro x
  rw [show TT.lo false [.agg [.int .i64, .int .i64], .leaf (.row [.int .i64])] x = TT.un [.agg [.int .i64, .int .i64], .leaf .slice] (x.1, (rowSV false [.int .i64] x.2)) from rfl, spileref21_Divide.eq]
  rfl
noncomputable def spileref21_DivideP.e : Entry := mkP [.agg [.int .i64, .int .i64], .leaf (.row [.int .i64])] (.many [.leaf (.row [.int .i64, .int .i64]), .leaf (.int .i64)]) fun x => spileref21_DivideP x.1 x.2
theorem spileref21_DivideP.ok : EntryOK Try.prog 16 (spileref21_DivideP.e) := mkP_ok (spileref21_Divide.tbok) Try.mixed Try.func16 (by kernel_rfl) spileref21_DivideP.eq

/-! ### spile/spileref21.Same: function 17 -/
noncomputable def spileref21_Same.tb : Table := tab [] [] Table.nil
theorem spileref21_Same.tbok : TabOK Try.prog (spileref21_Same.tb) := TabOK.tab (TabOK.nil Try.prog) (all_nil _) (all_nil _)
noncomputable def spileref21_Same.loop1 (a0 : SV) (a1 : SV) : (Int) × H → Option (Stp ((Int) × H) (Flow (Unit) (Bool) × H)) := fun (y1, h2) =>
(bif (decide (y1 < ((a0.len : Nat) : Int))) then (let h3 : H := H.reserve h2 0
(guardO (0 ≤ y1 ∧ y1 < ((a0.len : Nat) : Int)) ((rdT (.agg [.int .i64, .int .i64]) h3 (V.add a0.a (Int.toNat y1 * 2))).bind fun (x4_0, x4_1) =>
(guardO (0 ≤ y1 ∧ y1 < ((a1.len : Nat) : Int)) ((rdT (.agg [.int .i64, .int .i64]) h3 (V.add a1.a (Int.toNat y1 * 2))).bind fun (x5_0, x5_1) =>
(bif (!(decide (x4_0 = x5_0) && (decide (x4_1 = x5_1)))) then (some (.done (.ret false, h3))) else (some (.more ((IntKind.wrap .i64 (y1 + 1)), h3))))))))) else (some (.done (.ex0 (), h2))))
noncomputable def spileref21_Same (a0 : SV) (a1 : SV) (h : H) : Option ((Bool) × H) :=
(bif (!(decide (((a0.len : Nat) : Int) = ((a1.len : Nat) : Int)))) then (some (false, h)) else ((iter FUEL (spileref21_Same.loop1 a0 a1) (0, h)).bind fun (fl7, h6) => match fl7 with
| .next _ => none
| .ret rr8 => (some (rr8, h6))
| .ex0 _ =>
(some (true, h6))
| .ex1 _ => none))
def spileref21_Same.A : Ann := { lits := [], conds := [], loops := [(4, [5], [.leaf (.int .i64)], [], [], some 0, none)], regs := [] }
theorem spileref21_Same.eq : ∀ (x : TT [.leaf .slice, .leaf .slice]) (h : H), evalFn Try.prog (spileref21_Same.tb) spileref21_Same.A Try.f17 (.one (.leaf .bool)) (TT.un [.leaf .slice, .leaf .slice] x) h = spileref21_Same x.1 x.2 h := by
  intro x h
  kernel_rfl
noncomputable def spileref21_Same.e : Entry := mkX [.leaf .slice, .leaf .slice] (.one (.leaf .bool)) fun x h => spileref21_Same x.1 x.2 h
theorem spileref21_Same.ok : EntryOK Try.prog 17 (spileref21_Same.e) := mkX_ok (spileref21_Same.tbok) Try.mixed Try.func17 (by kernel_rfl) (spileref21_Same.eq)
noncomputable def spileref21_SameP (a0 : (List (Int × Int))) (a1 : (List (Int × Int))) : Option (Bool) := (spileref21_Same (rowSV false [.int .i64, .int .i64] a0) (rowSV false [.int .i64, .int .i64] a1) H.empty).bind fun p => rdRes false p.2 (.one (.leaf .bool)) (Res.un (.one (.leaf .bool)) p.1)
theorem spileref21_SameP.eq : ∀ x : TT [.leaf (.row [.int .i64, .int .i64]), .leaf (.row [.int .i64, .int .i64])], ((evalFn Try.prog (spileref21_Same.tb) spileref21_Same.A Try.f17 (.one (.leaf .bool)) (TT.lo false [.leaf (.row [.int .i64, .int .i64]), .leaf (.row [.int .i64, .int .i64])] x) H.empty).bind fun p => rdRes false p.2 (.one (.leaf .bool)) (Res.un (.one (.leaf .bool)) p.1)) = spileref21_SameP x.1 x.2 := by
  intro x
  rw [show TT.lo false [.leaf (.row [.int .i64, .int .i64]), .leaf (.row [.int .i64, .int .i64])] x = TT.un [.leaf .slice, .leaf .slice] ((rowSV false [.int .i64, .int .i64] x.1), (rowSV false [.int .i64, .int .i64] x.2)) from rfl, spileref21_Same.eq]
  rfl
noncomputable def spileref21_SameP.e : Entry := mkP [.leaf (.row [.int .i64, .int .i64]), .leaf (.row [.int .i64, .int .i64])] (.one (.leaf .bool)) fun x => spileref21_SameP x.1 x.2
theorem spileref21_SameP.ok : EntryOK Try.prog 17 (spileref21_SameP.e) := mkP_ok (spileref21_Same.tbok) Try.mixed Try.func17 (by kernel_rfl) spileref21_SameP.eq

/-! ### spile/spilelaw21.MixSums: function 3 -/
noncomputable def spilelaw21_MixSums.tb : Table := tab [(10, spilelaw21_awakeP.e), (11, mix_SumP.e), (12, spileref21_SumP.e), (13, mix_DrawP.e), (14, spileref21_DrawP.e), (15, mix_DivideP.e), (16, spileref21_DivideP.e), (17, spileref21_SameP.e)] [] Table.nil
theorem spilelaw21_MixSums.tbok : TabOK Try.prog (spilelaw21_MixSums.tb) := TabOK.tab (TabOK.nil Try.prog) (all_cons spilelaw21_awakeP.ok (all_cons mix_SumP.ok (all_cons spileref21_SumP.ok (all_cons mix_DrawP.ok (all_cons spileref21_DrawP.ok (all_cons mix_DivideP.ok (all_cons spileref21_DivideP.ok (all_cons spileref21_SameP.ok (all_nil _))))))))) (all_nil _)
noncomputable def spilelaw21_MixSums (a0 : SV) (a1 : (Int × Int)) (a2 : Int) (a3 : SV) (h : H) : Option ((Bool) × H) :=
(match a1 with
| (a1_0, a1_1) =>
(let h1 : H := H.new h [.int .i64 a1_0, .int .i64 a1_1] 2
((spilelaw21_awakeP ).bind fun r2 =>
(bif (!r2) then (some (false, h1)) else (((bif !(decide ((12 : Int) < ((a0.len : Nat) : Int))) then (some ((decide ((70 : Int) < ((a3.len : Nat) : Int))), h1)) else (some (true, h1)))).bind fun (y3, h4) =>
(bif y3 then (some (true, h4)) else ((rdRow true h4 [.int .i64, .int .i64] a0).bind fun s7 =>
((mix_SumP s7).bind fun ((r5_0, r5_1), r6) =>
(let h8 : H := H.new h4 [.int .i64 0, .int .i64 0] 2
((H.wrs h8 (.hp h4.next 2 0) [.int .i64 r5_0, .int .i64 r5_1]).bind fun h9 =>
((rdRow true h9 [.int .i64, .int .i64] a0).bind fun s12 =>
((spileref21_SumP s12).bind fun ((r10_0, r10_1), r11) =>
(let h13 : H := H.new h9 [.int .i64 0, .int .i64 0] 2
((H.wrs h13 (.hp h9.next 2 0) [.int .i64 r10_0, .int .i64 r10_1]).bind fun h14 =>
((rdT (.agg [.int .i64, .int .i64]) h14 (.hp h.next 2 0)).bind fun (x15_0, x15_1) =>
((mix_DrawP (x15_0, x15_1) a2).bind fun ((r16_0, r16_1), (r17_0, r17_1), r18) =>
(let h19 : H := H.new h14 [.int .i64 0, .int .i64 0] 2
(let h20 : H := H.new h19 [.int .i64 0, .int .i64 0] 2
((H.wrs h20 (.hp h14.next 2 0) [.int .i64 r16_0, .int .i64 r16_1]).bind fun h21 =>
((H.wrs h21 (.hp h19.next 2 0) [.int .i64 r17_0, .int .i64 r17_1]).bind fun h22 =>
((rdT (.agg [.int .i64, .int .i64]) h22 (.hp h.next 2 0)).bind fun (x23_0, x23_1) =>
((spileref21_DrawP (x23_0, x23_1) a2).bind fun ((r24_0, r24_1), (r25_0, r25_1), r26) =>
(let h27 : H := H.new h22 [.int .i64 0, .int .i64 0] 2
(let h28 : H := H.new h27 [.int .i64 0, .int .i64 0] 2
((H.wrs h28 (.hp h22.next 2 0) [.int .i64 r24_0, .int .i64 r24_1]).bind fun h29 =>
((H.wrs h29 (.hp h27.next 2 0) [.int .i64 r25_0, .int .i64 r25_1]).bind fun h30 =>
((rdT (.agg [.int .i64, .int .i64]) h30 (.hp h.next 2 0)).bind fun (x31_0, x31_1) =>
((rdRow true h30 [.int .i64] a3).bind fun s34 =>
((mix_DivideP (x31_0, x31_1) s34).bind fun (r32, r33) =>
((rdT (.agg [.int .i64, .int .i64]) h30 (.hp h.next 2 0)).bind fun (x35_0, x35_1) =>
((rdRow true h30 [.int .i64] a3).bind fun s38 =>
((spileref21_DivideP (x35_0, x35_1) s38).bind fun (r36, r37) =>
((((rdT (.agg [.int .i64, .int .i64]) h30 (.hp h4.next 2 0)).bind fun (x39_0, x39_1) =>
((rdT (.agg [.int .i64, .int .i64]) h30 (.hp h9.next 2 0)).bind fun (x40_0, x40_1) =>
(bif (decide (x39_0 = x40_0) && (decide (x39_1 = x40_1))) then (bif (decide (r6 = r11)) then ((rdT (.agg [.int .i64, .int .i64]) h30 (.hp h14.next 2 0)).bind fun (x41_0, x41_1) =>
((rdT (.agg [.int .i64, .int .i64]) h30 (.hp h22.next 2 0)).bind fun (x42_0, x42_1) =>
(bif (decide (x41_0 = x42_0) && (decide (x41_1 = x42_1))) then ((rdT (.agg [.int .i64, .int .i64]) h30 (.hp h19.next 2 0)).bind fun (x43_0, x43_1) =>
((rdT (.agg [.int .i64, .int .i64]) h30 (.hp h27.next 2 0)).bind fun (x44_0, x44_1) =>
(bif (decide (x43_0 = x44_0) && (decide (x43_1 = x44_1))) then (bif (decide (r18 = r26)) then ((rdRow true h30 [.int .i64, .int .i64] (rowSV true [.int .i64, .int .i64] r32)).bind fun s46 =>
((rdRow true h30 [.int .i64, .int .i64] (rowSV true [.int .i64, .int .i64] r36)).bind fun s47 =>
((spileref21_SameP s46 s47).bind fun r45 =>
(bif r45 then (some ((decide (r33 = r37)), h30)) else (some (false, h30)))))) else (some (false, h30))) else (some (false, h30))))) else (some (false, h30))))) else (some (false, h30))) else (some (false, h30)))))).bind fun (y48, h49) =>
(some (y48, h49)))))))))))))))))))))))))))))))))))
def spilelaw21_MixSums.A : Ann := { lits := [], conds := [], loops := [], regs := [(3, [32], [.leaf .bool]), (11, [8], [.leaf .bool])] }
theorem spilelaw21_MixSums.eq : ∀ (x : TT [.leaf .slice, .agg [.int .i64, .int .i64], .leaf (.int .i64), .leaf .slice]) (h : H), evalFn Try.prog (spilelaw21_MixSums.tb) spilelaw21_MixSums.A Try.f3 (.one (.leaf .bool)) (TT.un [.leaf .slice, .agg [.int .i64, .int .i64], .leaf (.int .i64), .leaf .slice] x) h = spilelaw21_MixSums x.1 x.2.1 x.2.2.1 x.2.2.2 h := by
  intro x h
  kernel_rfl
noncomputable def spilelaw21_MixSums.e : Entry := mkX [.leaf .slice, .agg [.int .i64, .int .i64], .leaf (.int .i64), .leaf .slice] (.one (.leaf .bool)) fun x h => spilelaw21_MixSums x.1 x.2.1 x.2.2.1 x.2.2.2 h
theorem spilelaw21_MixSums.ok : EntryOK Try.prog 3 (spilelaw21_MixSums.e) := mkX_ok (spilelaw21_MixSums.tbok) Try.mixed Try.func3 (by kernel_rfl) (spilelaw21_MixSums.eq)
noncomputable def spilelaw21_MixSumsP (a0 : (List (Int × Int))) (a1 : (Int × Int)) (a2 : Int) (a3 : (List (Int))) : Option (Bool) := (spilelaw21_MixSums (rowSV false [.int .i64, .int .i64] a0) a1 a2 (rowSV false [.int .i64] a3) H.empty).bind fun p => rdRes false p.2 (.one (.leaf .bool)) (Res.un (.one (.leaf .bool)) p.1)
theorem spilelaw21_MixSumsP.eq : ∀ x : TT [.leaf (.row [.int .i64, .int .i64]), .agg [.int .i64, .int .i64], .leaf (.int .i64), .leaf (.row [.int .i64])], ((evalFn Try.prog (spilelaw21_MixSums.tb) spilelaw21_MixSums.A Try.f3 (.one (.leaf .bool)) (TT.lo false [.leaf (.row [.int .i64, .int .i64]), .agg [.int .i64, .int .i64], .leaf (.int .i64), .leaf (.row [.int .i64])] x) H.empty).bind fun p => rdRes false p.2 (.one (.leaf .bool)) (Res.un (.one (.leaf .bool)) p.1)) = spilelaw21_MixSumsP x.1 x.2.1 x.2.2.1 x.2.2.2 := by
  intro x
  rw [show TT.lo false [.leaf (.row [.int .i64, .int .i64]), .agg [.int .i64, .int .i64], .leaf (.int .i64), .leaf (.row [.int .i64])] x = TT.un [.leaf .slice, .agg [.int .i64, .int .i64], .leaf (.int .i64), .leaf .slice] ((rowSV false [.int .i64, .int .i64] x.1), x.2.1, x.2.2.1, (rowSV false [.int .i64] x.2.2.2)) from rfl, spilelaw21_MixSums.eq]
  rfl
noncomputable def spilelaw21_MixSumsP.e : Entry := mkP [.leaf (.row [.int .i64, .int .i64]), .agg [.int .i64, .int .i64], .leaf (.int .i64), .leaf (.row [.int .i64])] (.one (.leaf .bool)) fun x => spilelaw21_MixSumsP x.1 x.2.1 x.2.2.1 x.2.2.2
theorem spilelaw21_MixSumsP.ok : EntryOK Try.prog 3 (spilelaw21_MixSumsP.e) := mkP_ok (spilelaw21_MixSums.tbok) Try.mixed Try.func3 (by kernel_rfl) spilelaw21_MixSumsP.eq

/-! ### spile/spileref16.Few: function 18 -/
noncomputable def spileref16_Few.tb : Table := tab [] [] Table.nil
theorem spileref16_Few.tbok : TabOK Try.prog (spileref16_Few.tb) := TabOK.tab (TabOK.nil Try.prog) (all_nil _) (all_nil _)
noncomputable def spileref16_Few (a0 : SV) (h : H) : Option ((Bool) × H) :=
(((bif !(decide (((a0.len : Nat) : Int) ≤ 20)) then (bif (decide ((128 : Int) < ((a0.len : Nat) : Int))) then (some ((decide (((a0.len : Nat) : Int) ≤ 133)), h)) else (some (false, h))) else (some (true, h)))).bind fun (y1, h2) =>
(some (y1, h2)))
def spileref16_Few.A : Ann := { lits := [], conds := [], loops := [], regs := [(1, [2], [.leaf .bool])] }
theorem spileref16_Few.eq : ∀ (x : TT [.leaf .slice]) (h : H), evalFn Try.prog (spileref16_Few.tb) spileref16_Few.A Try.f18 (.one (.leaf .bool)) (TT.un [.leaf .slice] x) h = spileref16_Few x h := by
  intro x h
  kernel_rfl
noncomputable def spileref16_Few.e : Entry := mkX [.leaf .slice] (.one (.leaf .bool)) fun x h => spileref16_Few x h
theorem spileref16_Few.ok : EntryOK Try.prog 18 (spileref16_Few.e) := mkX_ok (spileref16_Few.tbok) Try.mixed Try.func18 (by kernel_rfl) (spileref16_Few.eq)
noncomputable def spileref16_FewP (a0 : (List (Int × Int))) : Option (Bool) := (spileref16_Few (rowSV false [.int .i64, .int .i64] a0) H.empty).bind fun p => rdRes false p.2 (.one (.leaf .bool)) (Res.un (.one (.leaf .bool)) p.1)
theorem spileref16_FewP.eq : ∀ x : TT [.leaf (.row [.int .i64, .int .i64])], ((evalFn Try.prog (spileref16_Few.tb) spileref16_Few.A Try.f18 (.one (.leaf .bool)) (TT.lo false [.leaf (.row [.int .i64, .int .i64])] x) H.empty).bind fun p => rdRes false p.2 (.one (.leaf .bool)) (Res.un (.one (.leaf .bool)) p.1)) = spileref16_FewP x := by
  intro x
  rw [show TT.lo false [.leaf (.row [.int .i64, .int .i64])] x = TT.un [.leaf .slice] ((rowSV false [.int .i64, .int .i64] x)) from rfl, spileref16_Few.eq]
  rfl
noncomputable def spileref16_FewP.e : Entry := mkP [.leaf (.row [.int .i64, .int .i64])] (.one (.leaf .bool)) fun x => spileref16_FewP x
theorem spileref16_FewP.ok : EntryOK Try.prog 18 (spileref16_FewP.e) := mkP_ok (spileref16_Few.tbok) Try.mixed Try.func18 (by kernel_rfl) spileref16_FewP.eq

/-! ### spile/spileref16.At: function 72 -/
noncomputable def spileref16_At.tb : Table := tab [] [] Table.nil
theorem spileref16_At.tbok : TabOK Try.prog (spileref16_At.tb) := TabOK.tab (TabOK.nil Try.prog) (all_nil _) (all_nil _)
noncomputable def spileref16_At.loop1 (a0 : SV) (a1 : Int) : (Int × Int) × H → Option (Stp ((Int × Int) × H) (Flow (Int) (Int) × H)) := fun ((y1, y2), h3) =>
(bif (decide (y2 < ((a0.len : Nat) : Int))) then (guardO (0 ≤ y2 ∧ y2 < ((a0.len : Nat) : Int)) (guardO (V.nn ((V.add a0.a (Int.toNat y2 * 2)) : V) = true) ((rdT (.leaf (.int .i64)) h3 (V.add (V.add a0.a (Int.toNat y2 * 2)) 0)).bind fun x4 =>
((bif (decide (x4 ≤ a1)) then (some (.next y2, h3)) else (some (.next y1, h3)) : Option (Flow (Int) (Int) × H)).bind fun (fl6, h5) => match fl6 with
| .next y7 =>
(some (.more ((y7, (IntKind.wrap .i64 (y2 + 1))), h5)))
| .ret rr8 => (some (.done (.ret rr8, h5)))
| .ex0 _ => none
| .ex1 _ => none)))) else (some (.done (.ex0 y1, h3))))
noncomputable def spileref16_At (a0 : SV) (a1 : Int) (h : H) : Option ((Int) × H) :=
((iter FUEL (spileref16_At.loop1 a0 a1) ((0, 0), h)).bind fun (fl10, h9) => match fl10 with
| .next _ => none
| .ret rr11 => (some (rr11, h9))
| .ex0 y12 =>
(some (y12, h9))
| .ex1 _ => none)
def spileref16_At.A : Ann := { lits := [], conds := [(19, [5], [.leaf (.int .i64)], none, none)], loops := [(3, [5, 6], [.leaf (.int .i64), .leaf (.int .i64)], [5], [.leaf (.int .i64)], some 0, none)], regs := [] }
theorem spileref16_At.eq : ∀ (x : TT [.leaf .slice, .leaf (.int .i64)]) (h : H), evalFn Try.prog (spileref16_At.tb) spileref16_At.A Try.f72 (.one (.leaf (.int .i64))) (TT.un [.leaf .slice, .leaf (.int .i64)] x) h = spileref16_At x.1 x.2 h := by
  intro x h
  kernel_rfl
noncomputable def spileref16_At.e : Entry := mkX [.leaf .slice, .leaf (.int .i64)] (.one (.leaf (.int .i64))) fun x h => spileref16_At x.1 x.2 h
theorem spileref16_At.ok : EntryOK Try.prog 72 (spileref16_At.e) := mkX_ok (spileref16_At.tbok) Try.mixed Try.func72 (by kernel_rfl) (spileref16_At.eq)
noncomputable def spileref16_AtP (a0 : (List (Int × Int))) (a1 : Int) : Option (Int) := (spileref16_At (rowSV false [.int .i64, .int .i64] a0) a1 H.empty).bind fun p => rdRes false p.2 (.one (.leaf (.int .i64))) (Res.un (.one (.leaf (.int .i64))) p.1)
theorem spileref16_AtP.eq : ∀ x : TT [.leaf (.row [.int .i64, .int .i64]), .leaf (.int .i64)], ((evalFn Try.prog (spileref16_At.tb) spileref16_At.A Try.f72 (.one (.leaf (.int .i64))) (TT.lo false [.leaf (.row [.int .i64, .int .i64]), .leaf (.int .i64)] x) H.empty).bind fun p => rdRes false p.2 (.one (.leaf (.int .i64))) (Res.un (.one (.leaf (.int .i64))) p.1)) = spileref16_AtP x.1 x.2 := by
  intro x
  rw [show TT.lo false [.leaf (.row [.int .i64, .int .i64]), .leaf (.int .i64)] x = TT.un [.leaf .slice, .leaf (.int .i64)] ((rowSV false [.int .i64, .int .i64] x.1), x.2) from rfl, spileref16_At.eq]
  rfl
noncomputable def spileref16_AtP.e : Entry := mkP [.leaf (.row [.int .i64, .int .i64]), .leaf (.int .i64)] (.one (.leaf (.int .i64))) fun x => spileref16_AtP x.1 x.2
theorem spileref16_AtP.ok : EntryOK Try.prog 72 (spileref16_AtP.e) := mkP_ok (spileref16_At.tbok) Try.mixed Try.func72 (by kernel_rfl) spileref16_AtP.eq

/-! ### spile/spileref18.line: function 73 -/
noncomputable def spileref18_line.tb : Table := tab [] [] Table.nil
theorem spileref18_line.tbok : TabOK Try.prog (spileref18_line.tb) := TabOK.tab (TabOK.nil Try.prog) (all_nil _) (all_nil _)
noncomputable def spileref18_line (a0 : (Int × Int)) (a1 : (Int × Int)) (a2 : Int) (h : H) : Option ((Int) × H) :=
(match a0 with
| (a0_0, a0_1) =>
(match a1 with
| (a1_0, a1_1) =>
(let h1 : H := H.new h [.int .i64 a0_0, .int .i64 a0_1] 2
(let h2 : H := H.new h1 [.int .i64 a1_0, .int .i64 a1_1] 2
((rdT (.leaf (.int .i64)) h2 (.hp h1.next 2 0)).bind fun x3 =>
((rdT (.leaf (.int .i64)) h2 (.hp h.next 2 0)).bind fun x4 =>
((rdT (.leaf (.int .i64)) h2 (.hp h.next 2 1)).bind fun x5 =>
((rdT (.leaf (.int .i64)) h2 (.hp h1.next 2 1)).bind fun x6 =>
((rdT (.leaf (.int .i64)) h2 (.hp h.next 2 1)).bind fun x7 =>
((rdT (.leaf (.int .i64)) h2 (.hp h.next 2 0)).bind fun x8 =>
(guardO ((IntKind.wrap .i64 (2 * (IntKind.wrap .i64 (x3 - x4)))) ≠ 0) (some ((IntKind.wrap .i64 (Int.tdiv (IntKind.wrap .i64 ((IntKind.wrap .i64 (2 * (IntKind.wrap .i64 ((IntKind.wrap .i64 (x5 * (IntKind.wrap .i64 (x3 - x4)))) + (IntKind.wrap .i64 ((IntKind.wrap .i64 (x6 - x7)) * (IntKind.wrap .i64 (a2 - x8)))))))) + (IntKind.wrap .i64 (x3 - x4)))) (IntKind.wrap .i64 (2 * (IntKind.wrap .i64 (x3 - x4)))))), h2)))))))))))))
def spileref18_line.A : Ann := { lits := [], conds := [], loops := [], regs := [] }
theorem spileref18_line.eq : ∀ (x : TT [.agg [.int .i64, .int .i64], .agg [.int .i64, .int .i64], .leaf (.int .i64)]) (h : H), evalFn Try.prog (spileref18_line.tb) spileref18_line.A Try.f73 (.one (.leaf (.int .i64))) (TT.un [.agg [.int .i64, .int .i64], .agg [.int .i64, .int .i64], .leaf (.int .i64)] x) h = spileref18_line x.1 x.2.1 x.2.2 h := by
  intro x h
  kernel_rfl
noncomputable def spileref18_line.e : Entry := mkX [.agg [.int .i64, .int .i64], .agg [.int .i64, .int .i64], .leaf (.int .i64)] (.one (.leaf (.int .i64))) fun x h => spileref18_line x.1 x.2.1 x.2.2 h
theorem spileref18_line.ok : EntryOK Try.prog 73 (spileref18_line.e) := mkX_ok (spileref18_line.tbok) Try.mixed Try.func73 (by kernel_rfl) (spileref18_line.eq)
noncomputable def spileref18_lineP (a0 : (Int × Int)) (a1 : (Int × Int)) (a2 : Int) : Option (Int) := (spileref18_line a0 a1 a2 H.empty).bind fun p => rdRes false p.2 (.one (.leaf (.int .i64))) (Res.un (.one (.leaf (.int .i64))) p.1)
theorem spileref18_lineP.eq : ∀ x : TT [.agg [.int .i64, .int .i64], .agg [.int .i64, .int .i64], .leaf (.int .i64)], ((evalFn Try.prog (spileref18_line.tb) spileref18_line.A Try.f73 (.one (.leaf (.int .i64))) (TT.lo false [.agg [.int .i64, .int .i64], .agg [.int .i64, .int .i64], .leaf (.int .i64)] x) H.empty).bind fun p => rdRes false p.2 (.one (.leaf (.int .i64))) (Res.un (.one (.leaf (.int .i64))) p.1)) = spileref18_lineP x.1 x.2.1 x.2.2 := by
  intro x
  rw [show TT.lo false [.agg [.int .i64, .int .i64], .agg [.int .i64, .int .i64], .leaf (.int .i64)] x = TT.un [.agg [.int .i64, .int .i64], .agg [.int .i64, .int .i64], .leaf (.int .i64)] (x.1, x.2.1, x.2.2) from rfl, spileref18_line.eq]
  rfl
noncomputable def spileref18_lineP.e : Entry := mkP [.agg [.int .i64, .int .i64], .agg [.int .i64, .int .i64], .leaf (.int .i64)] (.one (.leaf (.int .i64))) fun x => spileref18_lineP x.1 x.2.1 x.2.2
theorem spileref18_lineP.ok : EntryOK Try.prog 73 (spileref18_lineP.e) := mkP_ok (spileref18_line.tbok) Try.mixed Try.func73 (by kernel_rfl) spileref18_lineP.eq
end Go.Proofs.Ytaepkinihaipkaa
