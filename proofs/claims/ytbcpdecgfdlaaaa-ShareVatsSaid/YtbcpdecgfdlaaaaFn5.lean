/- The functions of the program as Lean functions, each with the equation by which the evaluator is that function. Written by a program of this session (evdrive.py). Conditions: none. -/
import Derived.Test.YtbcpdecgfdlaaaaProg
import Derived.Test.YtbcpdecgfdlaaaaEvSpec
import Derived.Test.YtbcpdecgfdlaaaaFn4
namespace Go.Proofs.Ytbcpdecgfdlaaaa
open Go Go.Proofs.Ytbcpdecgfdlaaaa.Ev
set_option maxRecDepth 100000
set_option linter.unusedVariables false
/-! ### spile/spileref01.Proportion: function 70 -/
noncomputable def spileref01_Proportion.tb : Table := tab [(86, spileref01_OfP.e)] [] Table.nil
theorem spileref01_Proportion.tbok : TabOK Try.prog (spileref01_Proportion.tb) := TabOK.tab (TabOK.nil Try.prog) (all_cons spileref01_OfP.ok (all_nil _)) (all_nil _)
noncomputable def spileref01_Proportion (a0 : Int) (a1 : Int) (a2 : Int) (h : H) : Option ((Int × Int) × H) :=
((spileref01_OfP a0 a1 a2 128849018880000).bind fun (r1, r2, r3) =>
(some ((r1, r2), h)))
def spileref01_Proportion.A : Ann := { lits := [], conds := [], loops := [], regs := [] }
theorem spileref01_Proportion.eq : ∀ (x : TT [.leaf (.int .i64), .leaf (.int .i64), .leaf (.int .i64)]) (h : H), evalFn Try.prog (spileref01_Proportion.tb) spileref01_Proportion.A Try.f70 (.many [.leaf (.int .i64), .leaf (.int .i64)]) (TT.un [.leaf (.int .i64), .leaf (.int .i64), .leaf (.int .i64)] x) h = spileref01_Proportion x.1 x.2.1 x.2.2 h := by
  intro x h
  kernel_rfl
noncomputable def spileref01_Proportion.e : Entry := mkX [.leaf (.int .i64), .leaf (.int .i64), .leaf (.int .i64)] (.many [.leaf (.int .i64), .leaf (.int .i64)]) fun x h => spileref01_Proportion x.1 x.2.1 x.2.2 h
theorem spileref01_Proportion.ok : EntryOK Try.prog 70 (spileref01_Proportion.e) := mkX_ok (spileref01_Proportion.tbok) Try.mixed Try.func70 (by kernel_rfl) (spileref01_Proportion.eq)
noncomputable def spileref01_ProportionP (a0 : Int) (a1 : Int) (a2 : Int) : Option (Int × Int) := (spileref01_Proportion a0 a1 a2 H.empty).bind fun p => rdRes false p.2 (.many [.leaf (.int .i64), .leaf (.int .i64)]) (Res.un (.many [.leaf (.int .i64), .leaf (.int .i64)]) p.1)
theorem spileref01_ProportionP.eq : ∀ x : TT [.leaf (.int .i64), .leaf (.int .i64), .leaf (.int .i64)], ((evalFn Try.prog (spileref01_Proportion.tb) spileref01_Proportion.A Try.f70 (.many [.leaf (.int .i64), .leaf (.int .i64)]) (TT.lo false [.leaf (.int .i64), .leaf (.int .i64), .leaf (.int .i64)] x) H.empty).bind fun p => rdRes false p.2 (.many [.leaf (.int .i64), .leaf (.int .i64)]) (Res.un (.many [.leaf (.int .i64), .leaf (.int .i64)]) p.1)) = spileref01_ProportionP x.1 x.2.1 x.2.2 := by
  intro x
  rw [show TT.lo false [.leaf (.int .i64), .leaf (.int .i64), .leaf (.int .i64)] x = TT.un [.leaf (.int .i64), .leaf (.int .i64), .leaf (.int .i64)] (x.1, x.2.1, x.2.2) from rfl, spileref01_Proportion.eq]
  rfl
noncomputable def spileref01_ProportionP.e : Entry := mkP [.leaf (.int .i64), .leaf (.int .i64), .leaf (.int .i64)] (.many [.leaf (.int .i64), .leaf (.int .i64)]) fun x => spileref01_ProportionP x.1 x.2.1 x.2.2
theorem spileref01_ProportionP.ok : EntryOK Try.prog 70 (spileref01_ProportionP.e) := mkP_ok (spileref01_Proportion.tbok) Try.mixed Try.func70 (by kernel_rfl) spileref01_ProportionP.eq

/-! ### spile/spileref01.Divide: function 43 -/
noncomputable def spileref01_Divide.tb : Table := tab [(69, spileref01_weighP.e), (70, spileref01_ProportionP.e)] [] Table.nil
theorem spileref01_Divide.tbok : TabOK Try.prog (spileref01_Divide.tb) := TabOK.tab (TabOK.nil Try.prog) (all_cons spileref01_weighP.ok (all_cons spileref01_ProportionP.ok (all_nil _))) (all_nil _)
noncomputable def spileref01_Divide.loop1 (a0 : Int) (a1 : SV) (r1 : Int) : (SV × SV × Int × Int) × H → Option (Stp ((SV × SV × Int × Int) × H) (Flow (SV × SV × Int) (SV × Int) × H)) := fun ((y4, y5, y6, y7), h8) =>
(bif (decide (y7 < ((a1.len : Nat) : Int))) then (guardO (0 ≤ y7 ∧ y7 < ((a1.len : Nat) : Int)) ((rdT (.leaf (.int .i64)) h8 (V.add a1.a (Int.toNat y7 * 1))).bind fun x9 =>
((spileref01_ProportionP a0 x9 r1).bind fun (r10, r11) =>
((appendS h8 none 1 8 y4 [.int .i64 r10] 1).bind fun (s14, h13) =>
((appendS h13 none 1 8 y5 [.int .i64 r11] 1).bind fun (s18, h17) =>
(some (.more ((s14, s18, (IntKind.wrap .i64 (y6 - r10)), (IntKind.wrap .i64 (y7 + 1))), h17)))))))) else (some (.done (.ex0 (y4, y5, y6), h8))))
noncomputable def spileref01_Divide.loop2 (y24 : SV) : (Int × Int) × H → Option (Stp ((Int × Int) × H) (Flow (Int) (SV × Int) × H)) := fun ((y28, y29), h30) =>
(bif (decide (y29 < ((y24.len : Nat) : Int))) then (let h31 : H := H.reserve h30 0
(guardO (0 ≤ y29 ∧ y29 < ((y24.len : Nat) : Int)) ((rdT (.leaf (.int .i64)) h31 (V.add y24.a (Int.toNat y29 * 1))).bind fun x32 =>
(guardO (0 ≤ y28 ∧ y28 < ((y24.len : Nat) : Int)) ((rdT (.leaf (.int .i64)) h31 (V.add y24.a (Int.toNat y28 * 1))).bind fun x33 =>
((bif (decide (x33 < x32)) then (some (.next y29, h31)) else (some (.next y28, h31)) : Option (Flow (Int) (SV × Int) × H)).bind fun (fl35, h34) => match fl35 with
| .next y36 =>
(some (.more ((y36, (IntKind.wrap .i64 (y29 + 1))), h34)))
| .ret rr37 => (some (.done (.ret rr37, h34)))
| .ex0 _ => none
| .ex1 _ => none)))))) else (some (.done (.ex0 y28, h30))))
noncomputable def spileref01_Divide.loop3 (y23 : SV) (y24 : SV) : (Int) × H → Option (Stp ((Int) × H) (Flow (Unit) (SV × Int) × H)) := fun (y26, h27) =>
(bif (decide ((0 : Int) < y26)) then ((iter FUEL (spileref01_Divide.loop2 y24) ((0, 0), h27)).bind fun (fl39, h38) => match fl39 with
| .next _ => none
| .ret rr40 => (some (.done (.ret rr40, h38)))
| .ex0 y41 =>
(guardO (0 ≤ y41 ∧ y41 < ((y23.len : Nat) : Int)) ((rdT (.leaf (.int .i64)) h38 (V.add y23.a (Int.toNat y41 * 1))).bind fun x42 =>
(guardO (0 ≤ y41 ∧ y41 < ((y23.len : Nat) : Int)) ((H.wrs h38 (V.add y23.a (Int.toNat y41 * 1)) [.int .i64 (IntKind.wrap .i64 (x42 + 1))]).bind fun h43 =>
(guardO (0 ≤ y41 ∧ y41 < ((y24.len : Nat) : Int)) ((H.wrs h43 (V.add y24.a (Int.toNat y41 * 1)) [.int .i64 (-1)]).bind fun h44 =>
(some (.more ((IntKind.wrap .i64 (y26 - 1)), h44)))))))))
| .ex1 _ => none) else (some (.done (.ex0 (), h27))))
noncomputable def spileref01_Divide (a0 : Int) (a1 : SV) (h : H) : Option ((SV × Int) × H) :=
((rdRow true h [.int .i64] a1).bind fun s3 =>
((spileref01_weighP a0 s3).bind fun (r1, r2) =>
(bif (!(decide (r2 = 0))) then (some ((⟨.nil, 0, 0, false⟩, r2), h)) else ((iter FUEL (spileref01_Divide.loop1 a0 a1 r1) ((⟨.nil, 0, 0, false⟩, ⟨.nil, 0, 0, false⟩, a0, 0), h)).bind fun (fl21, h20) => match fl21 with
| .next _ => none
| .ret rr22 => (some (rr22, h20))
| .ex0 (y23, y24, y25) =>
((iter FUEL (spileref01_Divide.loop3 y23 y24) (y25, h20)).bind fun (fl46, h45) => match fl46 with
| .next _ => none
| .ret rr47 => (some (rr47, h45))
| .ex0 _ =>
(some ((y23, 0), h45))
| .ex1 _ => none)
| .ex1 _ => none))))
def spileref01_Divide.A : Ann := { lits := [], conds := [(71, [14], [.leaf (.int .i64)], none, none)], loops := [(7, [8, 9, 10, 11], [.leaf .slice, .leaf .slice, .leaf (.int .i64), .leaf (.int .i64)], [8, 9, 10], [.leaf .slice, .leaf .slice, .leaf (.int .i64)], some 0, none), (16, [14, 15], [.leaf (.int .i64), .leaf (.int .i64)], [14], [.leaf (.int .i64)], some 4, none), (12, [10], [.leaf (.int .i64)], [], [], some 2, none)], regs := [] }
theorem spileref01_Divide.eq : ∀ (x : TT [.leaf (.int .i64), .leaf .slice]) (h : H), evalFn Try.prog (spileref01_Divide.tb) spileref01_Divide.A Try.f43 (.many [.leaf .slice, .leaf (.int .i64)]) (TT.un [.leaf (.int .i64), .leaf .slice] x) h = spileref01_Divide x.1 x.2 h := by
  intro x h
  kernel_rfl
noncomputable def spileref01_Divide.e : Entry := mkX [.leaf (.int .i64), .leaf .slice] (.many [.leaf .slice, .leaf (.int .i64)]) fun x h => spileref01_Divide x.1 x.2 h
theorem spileref01_Divide.ok : EntryOK Try.prog 43 (spileref01_Divide.e) := mkX_ok (spileref01_Divide.tbok) Try.mixed Try.func43 (by kernel_rfl) (spileref01_Divide.eq)
noncomputable def spileref01_DivideP (a0 : Int) (a1 : (List (Int))) : Option ((List (Int)) × Int) := (spileref01_Divide a0 (rowSV false [.int .i64] a1) H.empty).bind fun p => rdRes false p.2 (.many [.leaf (.row [.int .i64]), .leaf (.int .i64)]) (Res.un (.many [.leaf .slice, .leaf (.int .i64)]) p.1)
theorem spileref01_DivideP.eq : ∀ x : TT [.leaf (.int .i64), .leaf (.row [.int .i64])], ((evalFn Try.prog (spileref01_Divide.tb) spileref01_Divide.A Try.f43 (.many [.leaf .slice, .leaf (.int .i64)]) (TT.lo false [.leaf (.int .i64), .leaf (.row [.int .i64])] x) H.empty).bind fun p => rdRes false p.2 (.many [.leaf (.row [.int .i64]), .leaf (.int .i64)]) (Res.un (.many [.leaf .slice, .leaf (.int .i64)]) p.1)) = spileref01_DivideP x.1 x.2 := by
  intro x
  rw [show TT.lo false [.leaf (.int .i64), .leaf (.row [.int .i64])] x = TT.un [.leaf (.int .i64), .leaf .slice] (x.1, (rowSV false [.int .i64] x.2)) from rfl, spileref01_Divide.eq]
  rfl
noncomputable def spileref01_DivideP.e : Entry := mkP [.leaf (.int .i64), .leaf (.row [.int .i64])] (.many [.leaf (.row [.int .i64]), .leaf (.int .i64)]) fun x => spileref01_DivideP x.1 x.2
theorem spileref01_DivideP.ok : EntryOK Try.prog 43 (spileref01_DivideP.e) := mkP_ok (spileref01_Divide.tbok) Try.mixed Try.func43 (by kernel_rfl) spileref01_DivideP.eq

/-! ### spile/spileref01.Draw: function 63 -/
noncomputable def spileref01_Draw.tb : Table := tab [(43, spileref01_DivideP.e), (69, spileref01_weighP.e)] [] Table.nil
theorem spileref01_Draw.tbok : TabOK Try.prog (spileref01_Draw.tb) := TabOK.tab (TabOK.nil Try.prog) (all_cons spileref01_DivideP.ok (all_cons spileref01_weighP.ok (all_nil _))) (all_nil _)
noncomputable def spileref01_Draw.loop1 (a0 : SV) (r4 : List (Int)) : (SV × Int) × H → Option (Stp ((SV × Int) × H) (Flow (SV) (SV × SV × Int) × H)) := fun ((y7, y8), h9) =>
(bif (decide (y8 < ((a0.len : Nat) : Int))) then (let h10 : H := H.reserve h9 0
(guardO (0 ≤ y8 ∧ y8 < ((a0.len : Nat) : Int)) ((rdT (.leaf (.int .i64)) h10 (V.add a0.a (Int.toNat y8 * 1))).bind fun x11 =>
(guardO (0 ≤ y8 ∧ y8 < ((r4.length : Nat) : Int)) ((rdT (.leaf (.int .i64)) h10 (V.add ((rowSV true [.int .i64] r4).a) (Int.toNat y8 * 1))).bind fun x12 =>
((appendS h10 none 1 8 y7 [.int .i64 (IntKind.wrap .i64 (x11 - x12))] 1).bind fun (s15, h14) =>
(some (.more ((s15, (IntKind.wrap .i64 (y8 + 1))), h14))))))))) else (some (.done (.ex0 y7, h9))))
noncomputable def spileref01_Draw (a0 : SV) (a1 : Int) (h : H) : Option ((SV × SV × Int) × H) :=
((rdRow true h [.int .i64] a0).bind fun s3 =>
((spileref01_weighP a1 s3).bind fun (r1, r2) =>
(bif (!(decide (r2 = 0))) then (some ((⟨.nil, 0, 0, false⟩, ⟨.nil, 0, 0, false⟩, r2), h)) else (bif (decide (r1 < a1)) then (some ((⟨.nil, 0, 0, false⟩, ⟨.nil, 0, 0, false⟩, 17), h)) else ((rdRow true h [.int .i64] a0).bind fun s6 =>
((spileref01_DivideP a1 s6).bind fun (r4, r5) =>
((iter FUEL (spileref01_Draw.loop1 a0 r4) ((⟨.nil, 0, 0, false⟩, 0), h)).bind fun (fl18, h17) => match fl18 with
| .next _ => none
| .ret rr19 => (some (rr19, h17))
| .ex0 y20 =>
(some (((rowSV true [.int .i64] r4), y20, 0), h17))
| .ex1 _ => none)))))))
def spileref01_Draw.A : Ann := { lits := [], conds := [], loops := [(9, [11, 12], [.leaf .slice, .leaf (.int .i64)], [11], [.leaf .slice], some 0, none)], regs := [] }
theorem spileref01_Draw.eq : ∀ (x : TT [.leaf .slice, .leaf (.int .i64)]) (h : H), evalFn Try.prog (spileref01_Draw.tb) spileref01_Draw.A Try.f63 (.many [.leaf .slice, .leaf .slice, .leaf (.int .i64)]) (TT.un [.leaf .slice, .leaf (.int .i64)] x) h = spileref01_Draw x.1 x.2 h := by
  intro x h
  kernel_rfl
noncomputable def spileref01_Draw.e : Entry := mkX [.leaf .slice, .leaf (.int .i64)] (.many [.leaf .slice, .leaf .slice, .leaf (.int .i64)]) fun x h => spileref01_Draw x.1 x.2 h
theorem spileref01_Draw.ok : EntryOK Try.prog 63 (spileref01_Draw.e) := mkX_ok (spileref01_Draw.tbok) Try.mixed Try.func63 (by kernel_rfl) (spileref01_Draw.eq)
noncomputable def spileref01_DrawP (a0 : (List (Int))) (a1 : Int) : Option ((List (Int)) × (List (Int)) × Int) := (spileref01_Draw (rowSV false [.int .i64] a0) a1 H.empty).bind fun p => rdRes false p.2 (.many [.leaf (.row [.int .i64]), .leaf (.row [.int .i64]), .leaf (.int .i64)]) (Res.un (.many [.leaf .slice, .leaf .slice, .leaf (.int .i64)]) p.1)
theorem spileref01_DrawP.eq : ∀ x : TT [.leaf (.row [.int .i64]), .leaf (.int .i64)], ((evalFn Try.prog (spileref01_Draw.tb) spileref01_Draw.A Try.f63 (.many [.leaf .slice, .leaf .slice, .leaf (.int .i64)]) (TT.lo false [.leaf (.row [.int .i64]), .leaf (.int .i64)] x) H.empty).bind fun p => rdRes false p.2 (.many [.leaf (.row [.int .i64]), .leaf (.row [.int .i64]), .leaf (.int .i64)]) (Res.un (.many [.leaf .slice, .leaf .slice, .leaf (.int .i64)]) p.1)) = spileref01_DrawP x.1 x.2 := by
  intro x
  rw [show TT.lo false [.leaf (.row [.int .i64]), .leaf (.int .i64)] x = TT.un [.leaf .slice, .leaf (.int .i64)] ((rowSV false [.int .i64] x.1), x.2) from rfl, spileref01_Draw.eq]
  rfl
noncomputable def spileref01_DrawP.e : Entry := mkP [.leaf (.row [.int .i64]), .leaf (.int .i64)] (.many [.leaf (.row [.int .i64]), .leaf (.row [.int .i64]), .leaf (.int .i64)]) fun x => spileref01_DrawP x.1 x.2
theorem spileref01_DrawP.ok : EntryOK Try.prog 63 (spileref01_DrawP.e) := mkP_ok (spileref01_Draw.tbok) Try.mixed Try.func63 (by kernel_rfl) spileref01_DrawP.eq

/-! ### spile/spileref23.with: function 64 -/
noncomputable def spileref23_with.tb : Table := tab [] [] Table.nil
theorem spileref23_with.tbok : TabOK Try.prog (spileref23_with.tb) := TabOK.tab (TabOK.nil Try.prog) (all_nil _) (all_nil _)
noncomputable def spileref23_with.loop1 (a0 : SV) (a1 : SV) : (SV × Int) × H → Option (Stp ((SV × Int) × H) (Flow (SV) (SV) × H)) := fun ((y1, y2), h3) =>
(bif (decide (y2 < ((a0.len : Nat) : Int))) then (guardO (0 ≤ y2 ∧ y2 < ((a1.len : Nat) : Int)) ((rdT (.leaf (.int .i64)) h3 (V.add a1.a (Int.toNat y2 * 1))).bind fun x4 =>
((bif (decide ((0 : Int) < x4)) then (let h5 : H := H.reserve h3 0
(guardO (0 ≤ y2 ∧ y2 < ((a0.len : Nat) : Int)) (guardO (V.nn ((V.add a0.a (Int.toNat y2 * 2)) : V) = true) ((rdT (.leaf (.int .i64)) h5 (V.add (V.add a0.a (Int.toNat y2 * 2)) 0)).bind fun x6 =>
(guardO (0 ≤ y2 ∧ y2 < ((a1.len : Nat) : Int)) ((rdT (.leaf (.int .i64)) h5 (V.add a1.a (Int.toNat y2 * 1))).bind fun x7 =>
((appendS h5 none 2 16 y1 [.int .i64 x6, .int .i64 x7] 1).bind fun (s10, h9) =>
(some (.next s10, h9))))))))) else (some (.next y1, h3)) : Option (Flow (SV) (SV) × H)).bind fun (fl13, h12) => match fl13 with
| .next y14 =>
(some (.more ((y14, (IntKind.wrap .i64 (y2 + 1))), h12)))
| .ret rr15 => (some (.done (.ret rr15, h12)))
| .ex0 _ => none
| .ex1 _ => none))) else (some (.done (.ex0 y1, h3))))
noncomputable def spileref23_with (a0 : SV) (a1 : SV) (h : H) : Option ((SV) × H) :=
((iter FUEL (spileref23_with.loop1 a0 a1) ((⟨.lp true ([]) 0, 0, 0, false⟩, 0), h)).bind fun (fl17, h16) => match fl17 with
| .next _ => none
| .ret rr18 => (some (rr18, h16))
| .ex0 y19 =>
(some (y19, h16))
| .ex1 _ => none)
def spileref23_with.A : Ann := { lits := [], conds := [(18, [5], [.leaf .slice], none, none)], loops := [(3, [5, 6], [.leaf .slice, .leaf (.int .i64)], [5], [.leaf .slice], some 0, none)], regs := [] }
theorem spileref23_with.eq : ∀ (x : TT [.leaf .slice, .leaf .slice]) (h : H), evalFn Try.prog (spileref23_with.tb) spileref23_with.A Try.f64 (.one (.leaf .slice)) (TT.un [.leaf .slice, .leaf .slice] x) h = spileref23_with x.1 x.2 h := by
  intro x h
  kernel_rfl
noncomputable def spileref23_with.e : Entry := mkX [.leaf .slice, .leaf .slice] (.one (.leaf .slice)) fun x h => spileref23_with x.1 x.2 h
theorem spileref23_with.ok : EntryOK Try.prog 64 (spileref23_with.e) := mkX_ok (spileref23_with.tbok) Try.mixed Try.func64 (by kernel_rfl) (spileref23_with.eq)
noncomputable def spileref23_withP (a0 : (List (Int × Int))) (a1 : (List (Int))) : Option ((List (Int × Int))) := (spileref23_with (rowSV false [.int .i64, .int .i64] a0) (rowSV false [.int .i64] a1) H.empty).bind fun p => rdRes false p.2 (.one (.leaf (.row [.int .i64, .int .i64]))) (Res.un (.one (.leaf .slice)) p.1)
theorem spileref23_withP.eq : ∀ x : TT [.leaf (.row [.int .i64, .int .i64]), .leaf (.row [.int .i64])], ((evalFn Try.prog (spileref23_with.tb) spileref23_with.A Try.f64 (.one (.leaf .slice)) (TT.lo false [.leaf (.row [.int .i64, .int .i64]), .leaf (.row [.int .i64])] x) H.empty).bind fun p => rdRes false p.2 (.one (.leaf (.row [.int .i64, .int .i64]))) (Res.un (.one (.leaf .slice)) p.1)) = spileref23_withP x.1 x.2 := by
  intro x
  rw [show TT.lo false [.leaf (.row [.int .i64, .int .i64]), .leaf (.row [.int .i64])] x = TT.un [.leaf .slice, .leaf .slice] ((rowSV false [.int .i64, .int .i64] x.1), (rowSV false [.int .i64] x.2)) from rfl, spileref23_with.eq]
  rfl
noncomputable def spileref23_withP.e : Entry := mkP [.leaf (.row [.int .i64, .int .i64]), .leaf (.row [.int .i64])] (.one (.leaf (.row [.int .i64, .int .i64]))) fun x => spileref23_withP x.1 x.2
theorem spileref23_withP.ok : EntryOK Try.prog 64 (spileref23_withP.e) := mkP_ok (spileref23_with.tbok) Try.mixed Try.func64 (by kernel_rfl) spileref23_withP.eq

/-! ### spile/spileref23.take: function 41 -/
noncomputable def spileref23_take.tb : Table := tab [(44, spileref23_amountsP.e), (63, spileref01_DrawP.e), (64, spileref23_withP.e)] [] Table.nil
theorem spileref23_take.tbok : TabOK Try.prog (spileref23_take.tb) := TabOK.tab (TabOK.nil Try.prog) (all_cons spileref23_amountsP.ok (all_cons spileref01_DrawP.ok (all_cons spileref23_withP.ok (all_nil _)))) (all_nil _)
noncomputable def spileref23_take (a0 : SV) (a1 : Int) (h : H) : Option ((SV × SV) × H) :=
(bif (decide (((a0.len : Nat) : Int) = 0)) then (some ((⟨.lp true ([]) 0, 0, 0, false⟩, ⟨.lp true ([]) 0, 0, 0, false⟩), h)) else ((rdRow true h [.int .i64, .int .i64] a0).bind fun s2 =>
((spileref23_amountsP s2).bind fun r1 =>
((rdRow true h [.int .i64] (rowSV true [.int .i64] r1)).bind fun s6 =>
((spileref01_DrawP s6 a1).bind fun (r3, r4, r5) =>
((rdRow true h [.int .i64, .int .i64] a0).bind fun s8 =>
((rdRow true h [.int .i64] (rowSV true [.int .i64] r3)).bind fun s9 =>
((spileref23_withP s8 s9).bind fun r7 =>
((rdRow true h [.int .i64, .int .i64] a0).bind fun s11 =>
((rdRow true h [.int .i64] (rowSV true [.int .i64] r4)).bind fun s12 =>
((spileref23_withP s11 s12).bind fun r10 =>
(some (((rowSV true [.int .i64, .int .i64] r7), (rowSV true [.int .i64, .int .i64] r10)), h)))))))))))))
def spileref23_take.A : Ann := { lits := [], conds := [], loops := [], regs := [] }
theorem spileref23_take.eq : ∀ (x : TT [.leaf .slice, .leaf (.int .i64)]) (h : H), evalFn Try.prog (spileref23_take.tb) spileref23_take.A Try.f41 (.many [.leaf .slice, .leaf .slice]) (TT.un [.leaf .slice, .leaf (.int .i64)] x) h = spileref23_take x.1 x.2 h := by
  intro x h
  kernel_rfl
noncomputable def spileref23_take.e : Entry := mkX [.leaf .slice, .leaf (.int .i64)] (.many [.leaf .slice, .leaf .slice]) fun x h => spileref23_take x.1 x.2 h
theorem spileref23_take.ok : EntryOK Try.prog 41 (spileref23_take.e) := mkX_ok (spileref23_take.tbok) Try.mixed Try.func41 (by kernel_rfl) (spileref23_take.eq)
noncomputable def spileref23_takeP (a0 : (List (Int × Int))) (a1 : Int) : Option ((List (Int × Int)) × (List (Int × Int))) := (spileref23_take (rowSV false [.int .i64, .int .i64] a0) a1 H.empty).bind fun p => rdRes false p.2 (.many [.leaf (.row [.int .i64, .int .i64]), .leaf (.row [.int .i64, .int .i64])]) (Res.un (.many [.leaf .slice, .leaf .slice]) p.1)
theorem spileref23_takeP.eq : ∀ x : TT [.leaf (.row [.int .i64, .int .i64]), .leaf (.int .i64)], ((evalFn Try.prog (spileref23_take.tb) spileref23_take.A Try.f41 (.many [.leaf .slice, .leaf .slice]) (TT.lo false [.leaf (.row [.int .i64, .int .i64]), .leaf (.int .i64)] x) H.empty).bind fun p => rdRes false p.2 (.many [.leaf (.row [.int .i64, .int .i64]), .leaf (.row [.int .i64, .int .i64])]) (Res.un (.many [.leaf .slice, .leaf .slice]) p.1)) = spileref23_takeP x.1 x.2 := by
  intro x
  rw [show TT.lo false [.leaf (.row [.int .i64, .int .i64]), .leaf (.int .i64)] x = TT.un [.leaf .slice, .leaf (.int .i64)] ((rowSV false [.int .i64, .int .i64] x.1), x.2) from rfl, spileref23_take.eq]
  rfl
noncomputable def spileref23_takeP.e : Entry := mkP [.leaf (.row [.int .i64, .int .i64]), .leaf (.int .i64)] (.many [.leaf (.row [.int .i64, .int .i64]), .leaf (.row [.int .i64, .int .i64])]) fun x => spileref23_takeP x.1 x.2
theorem spileref23_takeP.ok : EntryOK Try.prog 41 (spileref23_takeP.e) := mkP_ok (spileref23_take.tbok) Try.mixed Try.func41 (by kernel_rfl) spileref23_takeP.eq

/-! ### spile/spileref23.Take: function 15 -/
noncomputable def spileref23_Take.tb : Table := tab [(19, spileref23_CheckP.e), (38, spileref22_AlcoholP.e), (41, spileref23_takeP.e)] [] Table.nil
theorem spileref23_Take.tbok : TabOK Try.prog (spileref23_Take.tb) := TabOK.tab (TabOK.nil Try.prog) (all_cons spileref23_CheckP.ok (all_cons spileref22_AlcoholP.ok (all_cons spileref23_takeP.ok (all_nil _)))) (all_nil _)
noncomputable def spileref23_Take (a0 : SV) (a1 : Int) (h : H) : Option ((SV × SV × Int) × H) :=
((rdRow true h [.int .i64, .int .i64] a0).bind fun s2 =>
((spileref23_CheckP s2).bind fun r1 =>
(bif (!(decide (r1 = 0))) then (some ((⟨.nil, 0, 0, false⟩, ⟨.nil, 0, 0, false⟩, 1), h)) else (bif (decide (a1 < 0)) then (some ((⟨.nil, 0, 0, false⟩, ⟨.nil, 0, 0, false⟩, 2), h)) else ((rdRow true h [.int .i64, .int .i64] a0).bind fun s4 =>
((spileref22_AlcoholP s4).bind fun r3 =>
(bif (decide (r3 < a1)) then (some ((⟨.nil, 0, 0, false⟩, ⟨.nil, 0, 0, false⟩, 17), h)) else ((rdRow true h [.int .i64, .int .i64] a0).bind fun s7 =>
((spileref23_takeP s7 a1).bind fun (r5, r6) =>
(some (((rowSV true [.int .i64, .int .i64] r5), (rowSV true [.int .i64, .int .i64] r6), 0), h)))))))))))
def spileref23_Take.A : Ann := { lits := [], conds := [], loops := [], regs := [] }
theorem spileref23_Take.eq : ∀ (x : TT [.leaf .slice, .leaf (.int .i64)]) (h : H), evalFn Try.prog (spileref23_Take.tb) spileref23_Take.A Try.f15 (.many [.leaf .slice, .leaf .slice, .leaf (.int .i64)]) (TT.un [.leaf .slice, .leaf (.int .i64)] x) h = spileref23_Take x.1 x.2 h := by
  intro x h
  kernel_rfl
noncomputable def spileref23_Take.e : Entry := mkX [.leaf .slice, .leaf (.int .i64)] (.many [.leaf .slice, .leaf .slice, .leaf (.int .i64)]) fun x h => spileref23_Take x.1 x.2 h
theorem spileref23_Take.ok : EntryOK Try.prog 15 (spileref23_Take.e) := mkX_ok (spileref23_Take.tbok) Try.mixed Try.func15 (by kernel_rfl) (spileref23_Take.eq)
noncomputable def spileref23_TakeP (a0 : (List (Int × Int))) (a1 : Int) : Option ((List (Int × Int)) × (List (Int × Int)) × Int) := (spileref23_Take (rowSV false [.int .i64, .int .i64] a0) a1 H.empty).bind fun p => rdRes false p.2 (.many [.leaf (.row [.int .i64, .int .i64]), .leaf (.row [.int .i64, .int .i64]), .leaf (.int .i64)]) (Res.un (.many [.leaf .slice, .leaf .slice, .leaf (.int .i64)]) p.1)
theorem spileref23_TakeP.eq : ∀ x : TT [.leaf (.row [.int .i64, .int .i64]), .leaf (.int .i64)], ((evalFn Try.prog (spileref23_Take.tb) spileref23_Take.A Try.f15 (.many [.leaf .slice, .leaf .slice, .leaf (.int .i64)]) (TT.lo false [.leaf (.row [.int .i64, .int .i64]), .leaf (.int .i64)] x) H.empty).bind fun p => rdRes false p.2 (.many [.leaf (.row [.int .i64, .int .i64]), .leaf (.row [.int .i64, .int .i64]), .leaf (.int .i64)]) (Res.un (.many [.leaf .slice, .leaf .slice, .leaf (.int .i64)]) p.1)) = spileref23_TakeP x.1 x.2 := by
  intro x
  rw [show TT.lo false [.leaf (.row [.int .i64, .int .i64]), .leaf (.int .i64)] x = TT.un [.leaf .slice, .leaf (.int .i64)] ((rowSV false [.int .i64, .int .i64] x.1), x.2) from rfl, spileref23_Take.eq]
  rfl
noncomputable def spileref23_TakeP.e : Entry := mkP [.leaf (.row [.int .i64, .int .i64]), .leaf (.int .i64)] (.many [.leaf (.row [.int .i64, .int .i64]), .leaf (.row [.int .i64, .int .i64]), .leaf (.int .i64)]) fun x => spileref23_TakeP x.1 x.2
theorem spileref23_TakeP.ok : EntryOK Try.prog 15 (spileref23_TakeP.e) := mkP_ok (spileref23_Take.tbok) Try.mixed Try.func15 (by kernel_rfl) spileref23_TakeP.eq

/-! ### spile/spileref23.Parts: function 17 -/
noncomputable def spileref23_Parts.tb : Table := tab [(19, spileref23_CheckP.e), (43, spileref01_DivideP.e), (44, spileref23_amountsP.e)] [] Table.nil
theorem spileref23_Parts.tbok : TabOK Try.prog (spileref23_Parts.tb) := TabOK.tab (TabOK.nil Try.prog) (all_cons spileref23_CheckP.ok (all_cons spileref01_DivideP.ok (all_cons spileref23_amountsP.ok (all_nil _)))) (all_nil _)
noncomputable def spileref23_Parts (a0 : SV) (a1 : Int) (h : H) : Option ((SV × Int) × H) :=
((rdRow true h [.int .i64, .int .i64] a0).bind fun s2 =>
((spileref23_CheckP s2).bind fun r1 =>
(bif (!(decide (r1 = 0))) then (some ((⟨.nil, 0, 0, false⟩, 1), h)) else (((bif !(decide (a1 < 0)) then (some ((decide ((128849018880000 : Int) < a1)), h)) else (some (true, h)))).bind fun (y3, h4) =>
(bif y3 then (some ((⟨.nil, 0, 0, false⟩, 2), h4)) else (bif (decide (((a0.len : Nat) : Int) = 0)) then (some ((⟨.nil, 0, 0, false⟩, 9), h4)) else ((rdRow true h4 [.int .i64, .int .i64] a0).bind fun s6 =>
((spileref23_amountsP s6).bind fun r5 =>
((rdRow true h4 [.int .i64] (rowSV true [.int .i64] r5)).bind fun s9 =>
((spileref01_DivideP a1 s9).bind fun (r7, r8) =>
(some (((rowSV true [.int .i64] r7), 0), h4))))))))))))
def spileref23_Parts.A : Ann := { lits := [], conds := [], loops := [], regs := [(3, [16], [.leaf .bool])] }
theorem spileref23_Parts.eq : ∀ (x : TT [.leaf .slice, .leaf (.int .i64)]) (h : H), evalFn Try.prog (spileref23_Parts.tb) spileref23_Parts.A Try.f17 (.many [.leaf .slice, .leaf (.int .i64)]) (TT.un [.leaf .slice, .leaf (.int .i64)] x) h = spileref23_Parts x.1 x.2 h := by
  intro x h
  kernel_rfl
noncomputable def spileref23_Parts.e : Entry := mkX [.leaf .slice, .leaf (.int .i64)] (.many [.leaf .slice, .leaf (.int .i64)]) fun x h => spileref23_Parts x.1 x.2 h
theorem spileref23_Parts.ok : EntryOK Try.prog 17 (spileref23_Parts.e) := mkX_ok (spileref23_Parts.tbok) Try.mixed Try.func17 (by kernel_rfl) (spileref23_Parts.eq)
noncomputable def spileref23_PartsP (a0 : (List (Int × Int))) (a1 : Int) : Option ((List (Int)) × Int) := (spileref23_Parts (rowSV false [.int .i64, .int .i64] a0) a1 H.empty).bind fun p => rdRes false p.2 (.many [.leaf (.row [.int .i64]), .leaf (.int .i64)]) (Res.un (.many [.leaf .slice, .leaf (.int .i64)]) p.1)
theorem spileref23_PartsP.eq : ∀ x : TT [.leaf (.row [.int .i64, .int .i64]), .leaf (.int .i64)], ((evalFn Try.prog (spileref23_Parts.tb) spileref23_Parts.A Try.f17 (.many [.leaf .slice, .leaf (.int .i64)]) (TT.lo false [.leaf (.row [.int .i64, .int .i64]), .leaf (.int .i64)] x) H.empty).bind fun p => rdRes false p.2 (.many [.leaf (.row [.int .i64]), .leaf (.int .i64)]) (Res.un (.many [.leaf .slice, .leaf (.int .i64)]) p.1)) = spileref23_PartsP x.1 x.2 := by
  intro x
  rw [show TT.lo false [.leaf (.row [.int .i64, .int .i64]), .leaf (.int .i64)] x = TT.un [.leaf .slice, .leaf (.int .i64)] ((rowSV false [.int .i64, .int .i64] x.1), x.2) from rfl, spileref23_Parts.eq]
  rfl
noncomputable def spileref23_PartsP.e : Entry := mkP [.leaf (.row [.int .i64, .int .i64]), .leaf (.int .i64)] (.many [.leaf (.row [.int .i64]), .leaf (.int .i64)]) fun x => spileref23_PartsP x.1 x.2
theorem spileref23_PartsP.ok : EntryOK Try.prog 17 (spileref23_PartsP.e) := mkP_ok (spileref23_Parts.tbok) Try.mixed Try.func17 (by kernel_rfl) spileref23_PartsP.eq

/-! ### spile/spileref22.SameShares: function 20 -/
noncomputable def spileref22_SameShares.tb : Table := tab [] [] Table.nil
theorem spileref22_SameShares.tbok : TabOK Try.prog (spileref22_SameShares.tb) := TabOK.tab (TabOK.nil Try.prog) (all_nil _) (all_nil _)
noncomputable def spileref22_SameShares.loop1 (a0 : SV) (a1 : SV) : (Int) × H → Option (Stp ((Int) × H) (Flow (Unit) (Bool) × H)) := fun (y1, h2) =>
(bif (decide (y1 < ((a0.len : Nat) : Int))) then (let h3 : H := H.reserve h2 0
(guardO (0 ≤ y1 ∧ y1 < ((a0.len : Nat) : Int)) ((rdT (.agg [.int .i64, .int .i64]) h3 (V.add a0.a (Int.toNat y1 * 2))).bind fun (x4_0, x4_1) =>
(guardO (0 ≤ y1 ∧ y1 < ((a1.len : Nat) : Int)) ((rdT (.agg [.int .i64, .int .i64]) h3 (V.add a1.a (Int.toNat y1 * 2))).bind fun (x5_0, x5_1) =>
(bif (!(decide (x4_0 = x5_0) && (decide (x4_1 = x5_1)))) then (some (.done (.ret false, h3))) else (some (.more ((IntKind.wrap .i64 (y1 + 1)), h3))))))))) else (some (.done (.ex0 (), h2))))
noncomputable def spileref22_SameShares (a0 : SV) (a1 : SV) (h : H) : Option ((Bool) × H) :=
(bif (!(decide (((a0.len : Nat) : Int) = ((a1.len : Nat) : Int)))) then (some (false, h)) else ((iter FUEL (spileref22_SameShares.loop1 a0 a1) (0, h)).bind fun (fl7, h6) => match fl7 with
| .next _ => none
| .ret rr8 => (some (rr8, h6))
| .ex0 _ =>
(some (true, h6))
| .ex1 _ => none))
def spileref22_SameShares.A : Ann := { lits := [], conds := [], loops := [(4, [5], [.leaf (.int .i64)], [], [], some 0, none)], regs := [] }
theorem spileref22_SameShares.eq : ∀ (x : TT [.leaf .slice, .leaf .slice]) (h : H), evalFn Try.prog (spileref22_SameShares.tb) spileref22_SameShares.A Try.f20 (.one (.leaf .bool)) (TT.un [.leaf .slice, .leaf .slice] x) h = spileref22_SameShares x.1 x.2 h := by
  intro x h
  kernel_rfl
noncomputable def spileref22_SameShares.e : Entry := mkX [.leaf .slice, .leaf .slice] (.one (.leaf .bool)) fun x h => spileref22_SameShares x.1 x.2 h
theorem spileref22_SameShares.ok : EntryOK Try.prog 20 (spileref22_SameShares.e) := mkX_ok (spileref22_SameShares.tbok) Try.mixed Try.func20 (by kernel_rfl) (spileref22_SameShares.eq)
noncomputable def spileref22_SameSharesP (a0 : (List (Int × Int))) (a1 : (List (Int × Int))) : Option (Bool) := (spileref22_SameShares (rowSV false [.int .i64, .int .i64] a0) (rowSV false [.int .i64, .int .i64] a1) H.empty).bind fun p => rdRes false p.2 (.one (.leaf .bool)) (Res.un (.one (.leaf .bool)) p.1)
theorem spileref22_SameSharesP.eq : ∀ x : TT [.leaf (.row [.int .i64, .int .i64]), .leaf (.row [.int .i64, .int .i64])], ((evalFn Try.prog (spileref22_SameShares.tb) spileref22_SameShares.A Try.f20 (.one (.leaf .bool)) (TT.lo false [.leaf (.row [.int .i64, .int .i64]), .leaf (.row [.int .i64, .int .i64])] x) H.empty).bind fun p => rdRes false p.2 (.one (.leaf .bool)) (Res.un (.one (.leaf .bool)) p.1)) = spileref22_SameSharesP x.1 x.2 := by
  intro x
  rw [show TT.lo false [.leaf (.row [.int .i64, .int .i64]), .leaf (.row [.int .i64, .int .i64])] x = TT.un [.leaf .slice, .leaf .slice] ((rowSV false [.int .i64, .int .i64] x.1), (rowSV false [.int .i64, .int .i64] x.2)) from rfl, spileref22_SameShares.eq]
  rfl
noncomputable def spileref22_SameSharesP.e : Entry := mkP [.leaf (.row [.int .i64, .int .i64]), .leaf (.row [.int .i64, .int .i64])] (.one (.leaf .bool)) fun x => spileref22_SameSharesP x.1 x.2
theorem spileref22_SameSharesP.ok : EntryOK Try.prog 20 (spileref22_SameSharesP.e) := mkP_ok (spileref22_SameShares.tbok) Try.mixed Try.func20 (by kernel_rfl) spileref22_SameSharesP.eq

/-! ### spile/spilelaw23.ShareTakes: function 3 -/
noncomputable def spilelaw23_ShareTakes.tb : Table := tab [(10, spilelaw23_awakeP.e), (11, spileref22_FewSharesP.e), (12, share_SumP.e), (13, spileref23_SumP.e), (14, share_TakeP.e), (15, spileref23_TakeP.e), (16, share_PartsP.e), (17, spileref23_PartsP.e), (18, share_CheckP.e), (19, spileref23_CheckP.e), (20, spileref22_SameSharesP.e), (21, slices_Equal_int_intP.e)] [] Table.nil
theorem spilelaw23_ShareTakes.tbok : TabOK Try.prog (spilelaw23_ShareTakes.tb) := TabOK.tab (TabOK.nil Try.prog) (all_cons spilelaw23_awakeP.ok (all_cons spileref22_FewSharesP.ok (all_cons share_SumP.ok (all_cons spileref23_SumP.ok (all_cons share_TakeP.ok (all_cons spileref23_TakeP.ok (all_cons share_PartsP.ok (all_cons spileref23_PartsP.ok (all_cons share_CheckP.ok (all_cons spileref23_CheckP.ok (all_cons spileref22_SameSharesP.ok (all_cons slices_Equal_int_intP.ok (all_nil _))))))))))))) (all_nil _)
noncomputable def spilelaw23_ShareTakes (a0 : SV) (a1 : Int) (h : H) : Option ((Bool) × H) :=
((spilelaw23_awakeP ).bind fun r1 =>
(bif (!r1) then (some (false, h)) else ((rdRow true h [.int .i64, .int .i64] a0).bind fun s3 =>
((spileref22_FewSharesP s3).bind fun r2 =>
(bif (!r2) then (some (true, h)) else ((rdRow true h [.int .i64, .int .i64] a0).bind fun s6 =>
((share_SumP s6).bind fun (r4, r5) =>
((rdRow true h [.int .i64, .int .i64] a0).bind fun s9 =>
((spileref23_SumP s9).bind fun (r7, r8) =>
((rdRow true h [.int .i64, .int .i64] a0).bind fun s13 =>
((share_TakeP s13 a1).bind fun (r10, r11, r12) =>
((rdRow true h [.int .i64, .int .i64] a0).bind fun s17 =>
((spileref23_TakeP s17 a1).bind fun (r14, r15, r16) =>
((rdRow true h [.int .i64, .int .i64] a0).bind fun s20 =>
((share_PartsP s20 a1).bind fun (r18, r19) =>
((rdRow true h [.int .i64, .int .i64] a0).bind fun s23 =>
((spileref23_PartsP s23 a1).bind fun (r21, r22) =>
((((rdRow true h [.int .i64, .int .i64] a0).bind fun s25 =>
((share_CheckP s25).bind fun r24 =>
((rdRow true h [.int .i64, .int .i64] a0).bind fun s27 =>
((spileref23_CheckP s27).bind fun r26 =>
(bif (decide (r24 = r26)) then (bif (decide (r4 = r7)) then (bif (decide (r5 = r8)) then ((rdRow true h [.int .i64, .int .i64] (rowSV true [.int .i64, .int .i64] r10)).bind fun s29 =>
((rdRow true h [.int .i64, .int .i64] (rowSV true [.int .i64, .int .i64] r14)).bind fun s30 =>
((spileref22_SameSharesP s29 s30).bind fun r28 =>
(bif r28 then ((rdRow true h [.int .i64, .int .i64] (rowSV true [.int .i64, .int .i64] r11)).bind fun s32 =>
((rdRow true h [.int .i64, .int .i64] (rowSV true [.int .i64, .int .i64] r15)).bind fun s33 =>
((spileref22_SameSharesP s32 s33).bind fun r31 =>
(bif r31 then (bif (decide (r12 = r16)) then ((rdRow true h [.int .i64] (rowSV true [.int .i64] r18)).bind fun s35 =>
((rdRow true h [.int .i64] (rowSV true [.int .i64] r21)).bind fun s36 =>
((slices_Equal_int_intP s35 s36).bind fun r34 =>
(bif r34 then (some ((decide (r19 = r22)), h)) else (some (false, h)))))) else (some (false, h))) else (some (false, h)))))) else (some (false, h)))))) else (some (false, h))) else (some (false, h))) else (some (false, h)))))))).bind fun (y37, h38) =>
(some (y37, h38))))))))))))))))))))
def spilelaw23_ShareTakes.A : Ann := { lits := [], conds := [], loops := [], regs := [(11, [4], [.leaf .bool])] }
theorem spilelaw23_ShareTakes.eq : ∀ (x : TT [.leaf .slice, .leaf (.int .i64)]) (h : H), evalFn Try.prog (spilelaw23_ShareTakes.tb) spilelaw23_ShareTakes.A Try.f3 (.one (.leaf .bool)) (TT.un [.leaf .slice, .leaf (.int .i64)] x) h = spilelaw23_ShareTakes x.1 x.2 h := by
  intro x h
  kernel_rfl
noncomputable def spilelaw23_ShareTakes.e : Entry := mkX [.leaf .slice, .leaf (.int .i64)] (.one (.leaf .bool)) fun x h => spilelaw23_ShareTakes x.1 x.2 h
theorem spilelaw23_ShareTakes.ok : EntryOK Try.prog 3 (spilelaw23_ShareTakes.e) := mkX_ok (spilelaw23_ShareTakes.tbok) Try.mixed Try.func3 (by kernel_rfl) (spilelaw23_ShareTakes.eq)
noncomputable def spilelaw23_ShareTakesP (a0 : (List (Int × Int))) (a1 : Int) : Option (Bool) := (spilelaw23_ShareTakes (rowSV false [.int .i64, .int .i64] a0) a1 H.empty).bind fun p => rdRes false p.2 (.one (.leaf .bool)) (Res.un (.one (.leaf .bool)) p.1)
theorem spilelaw23_ShareTakesP.eq : ∀ x : TT [.leaf (.row [.int .i64, .int .i64]), .leaf (.int .i64)], ((evalFn Try.prog (spilelaw23_ShareTakes.tb) spilelaw23_ShareTakes.A Try.f3 (.one (.leaf .bool)) (TT.lo false [.leaf (.row [.int .i64, .int .i64]), .leaf (.int .i64)] x) H.empty).bind fun p => rdRes false p.2 (.one (.leaf .bool)) (Res.un (.one (.leaf .bool)) p.1)) = spilelaw23_ShareTakesP x.1 x.2 := by
  intro x
  rw [show TT.lo false [.leaf (.row [.int .i64, .int .i64]), .leaf (.int .i64)] x = TT.un [.leaf .slice, .leaf (.int .i64)] ((rowSV false [.int .i64, .int .i64] x.1), x.2) from rfl, spilelaw23_ShareTakes.eq]
  rfl
noncomputable def spilelaw23_ShareTakesP.e : Entry := mkP [.leaf (.row [.int .i64, .int .i64]), .leaf (.int .i64)] (.one (.leaf .bool)) fun x => spilelaw23_ShareTakesP x.1 x.2
theorem spilelaw23_ShareTakesP.ok : EntryOK Try.prog 3 (spilelaw23_ShareTakesP.e) := mkP_ok (spilelaw23_ShareTakes.tbok) Try.mixed Try.func3 (by kernel_rfl) spilelaw23_ShareTakesP.eq

/-! ### spile/spileref23.join: function 46 -/
noncomputable def spileref23_join.tb : Table := tab [] [] Table.nil
theorem spileref23_join.tbok : TabOK Try.prog (spileref23_join.tb) := TabOK.tab (TabOK.nil Try.prog) (all_nil _) (all_nil _)
noncomputable def spileref23_join.loop1 (a0 : SV) (a1 : SV) : (SV × Int × Int) × H → Option (Stp ((SV × Int × Int) × H) (Flow (SV) (SV) × H)) := fun ((y1, y2, y3), h4) =>
(((bif !(decide (y2 < ((a0.len : Nat) : Int))) then (some ((decide (y3 < ((a1.len : Nat) : Int))), h4)) else (some (true, h4)))).bind fun (y5, h6) =>
(bif y5 then (((let h7 : H := H.reserve h6 0
(bif !(decide (y3 = ((a1.len : Nat) : Int))) then (bif (decide (y2 < ((a0.len : Nat) : Int))) then (guardO (0 ≤ y2 ∧ y2 < ((a0.len : Nat) : Int)) (guardO (V.nn ((V.add a0.a (Int.toNat y2 * 2)) : V) = true) ((rdT (.leaf (.int .i64)) h7 (V.add (V.add a0.a (Int.toNat y2 * 2)) 0)).bind fun x8 =>
(guardO (0 ≤ y3 ∧ y3 < ((a1.len : Nat) : Int)) (guardO (V.nn ((V.add a1.a (Int.toNat y3 * 2)) : V) = true) ((rdT (.leaf (.int .i64)) h7 (V.add (V.add a1.a (Int.toNat y3 * 2)) 0)).bind fun x9 =>
(some ((decide (x8 < x9)), h7)))))))) else (some (false, h7))) else (some (true, h7))))).bind fun (y10, h11) =>
((bif y10 then (guardO (0 ≤ y2 ∧ y2 < ((a0.len : Nat) : Int)) ((rdT (.agg [.int .i64, .int .i64]) h11 (V.add a0.a (Int.toNat y2 * 2))).bind fun (x12_0, x12_1) =>
((appendS h11 none 2 16 y1 [.int .i64 x12_0, .int .i64 x12_1] 1).bind fun (s15, h14) =>
(some (.next (s15, (IntKind.wrap .i64 (y2 + 1)), y3), h14))))) else (((let h17 : H := H.reserve h11 0
(bif !(decide (y2 = ((a0.len : Nat) : Int))) then (guardO (0 ≤ y3 ∧ y3 < ((a1.len : Nat) : Int)) (guardO (V.nn ((V.add a1.a (Int.toNat y3 * 2)) : V) = true) ((rdT (.leaf (.int .i64)) h17 (V.add (V.add a1.a (Int.toNat y3 * 2)) 0)).bind fun x18 =>
(guardO (0 ≤ y2 ∧ y2 < ((a0.len : Nat) : Int)) (guardO (V.nn ((V.add a0.a (Int.toNat y2 * 2)) : V) = true) ((rdT (.leaf (.int .i64)) h17 (V.add (V.add a0.a (Int.toNat y2 * 2)) 0)).bind fun x19 =>
(some ((decide (x18 < x19)), h17)))))))) else (some (true, h17))))).bind fun (y20, h21) =>
((bif y20 then (guardO (0 ≤ y3 ∧ y3 < ((a1.len : Nat) : Int)) ((rdT (.agg [.int .i64, .int .i64]) h21 (V.add a1.a (Int.toNat y3 * 2))).bind fun (x22_0, x22_1) =>
((appendS h21 none 2 16 y1 [.int .i64 x22_0, .int .i64 x22_1] 1).bind fun (s25, h24) =>
(some (.next (s25, (IntKind.wrap .i64 (y3 + 1)), y2), h24))))) else (let h27 : H := H.reserve h21 0
(guardO (0 ≤ y2 ∧ y2 < ((a0.len : Nat) : Int)) (guardO (V.nn ((V.add a0.a (Int.toNat y2 * 2)) : V) = true) ((rdT (.leaf (.int .i64)) h27 (V.add (V.add a0.a (Int.toNat y2 * 2)) 0)).bind fun x28 =>
(guardO (0 ≤ y2 ∧ y2 < ((a0.len : Nat) : Int)) (guardO (V.nn ((V.add a0.a (Int.toNat y2 * 2)) : V) = true) ((rdT (.leaf (.int .i64)) h27 (V.add (V.add a0.a (Int.toNat y2 * 2)) 1)).bind fun x29 =>
(guardO (0 ≤ y3 ∧ y3 < ((a1.len : Nat) : Int)) (guardO (V.nn ((V.add a1.a (Int.toNat y3 * 2)) : V) = true) ((rdT (.leaf (.int .i64)) h27 (V.add (V.add a1.a (Int.toNat y3 * 2)) 1)).bind fun x30 =>
((appendS h27 none 2 16 y1 [.int .i64 x28, .int .i64 (IntKind.wrap .i64 (x29 + x30))] 1).bind fun (s33, h32) =>
(some (.next (s33, (IntKind.wrap .i64 (y3 + 1)), (IntKind.wrap .i64 (y2 + 1))), h32))))))))))))) : Option (Flow (SV × Int × Int) (SV) × H)).bind fun (fl36, h35) => match fl36 with
| .next (y37, y38, y39) =>
(some (.next (y37, y39, y38), h35))
| .ret rr40 => (some (.ret rr40, h35))
| .ex0 _ => none
| .ex1 _ => none)) : Option (Flow (SV × Int × Int) (SV) × H)).bind fun (fl42, h41) => match fl42 with
| .next (y43, y44, y45) =>
(some (.more ((y43, y44, y45), h41)))
| .ret rr46 => (some (.done (.ret rr46, h41)))
| .ex0 _ => none
| .ex1 _ => none)) else (some (.done (.ex0 y1, h6)))))
noncomputable def spileref23_join (a0 : SV) (a1 : SV) (h : H) : Option ((SV) × H) :=
((iter FUEL (spileref23_join.loop1 a0 a1) ((⟨.lp true ([]) 0, 0, 0, false⟩, 0, 0), h)).bind fun (fl48, h47) => match fl48 with
| .next _ => none
| .ret rr49 => (some (rr49, h47))
| .ex0 y50 =>
(some (y50, h47))
| .ex1 _ => none)
def spileref23_join.A : Ann := { lits := [], conds := [(41, [5, 6, 7], [.leaf .slice, .leaf (.int .i64), .leaf (.int .i64)], none, none), (67, [5, 7, 6], [.leaf .slice, .leaf (.int .i64), .leaf (.int .i64)], none, none)], loops := [(3, [5, 6, 7], [.leaf .slice, .leaf (.int .i64), .leaf (.int .i64)], [5], [.leaf .slice], some 0, none)], regs := [(3, [18], [.leaf .bool]), (4, [41], [.leaf .bool]), (7, [67], [.leaf .bool])] }
theorem spileref23_join.eq : ∀ (x : TT [.leaf .slice, .leaf .slice]) (h : H), evalFn Try.prog (spileref23_join.tb) spileref23_join.A Try.f46 (.one (.leaf .slice)) (TT.un [.leaf .slice, .leaf .slice] x) h = spileref23_join x.1 x.2 h := by
  intro x h
  kernel_rfl
noncomputable def spileref23_join.e : Entry := mkX [.leaf .slice, .leaf .slice] (.one (.leaf .slice)) fun x h => spileref23_join x.1 x.2 h
theorem spileref23_join.ok : EntryOK Try.prog 46 (spileref23_join.e) := mkX_ok (spileref23_join.tbok) Try.mixed Try.func46 (by kernel_rfl) (spileref23_join.eq)
noncomputable def spileref23_joinP (a0 : (List (Int × Int))) (a1 : (List (Int × Int))) : Option ((List (Int × Int))) := (spileref23_join (rowSV false [.int .i64, .int .i64] a0) (rowSV false [.int .i64, .int .i64] a1) H.empty).bind fun p => rdRes false p.2 (.one (.leaf (.row [.int .i64, .int .i64]))) (Res.un (.one (.leaf .slice)) p.1)
theorem spileref23_joinP.eq : ∀ x : TT [.leaf (.row [.int .i64, .int .i64]), .leaf (.row [.int .i64, .int .i64])], ((evalFn Try.prog (spileref23_join.tb) spileref23_join.A Try.f46 (.one (.leaf .slice)) (TT.lo false [.leaf (.row [.int .i64, .int .i64]), .leaf (.row [.int .i64, .int .i64])] x) H.empty).bind fun p => rdRes false p.2 (.one (.leaf (.row [.int .i64, .int .i64]))) (Res.un (.one (.leaf .slice)) p.1)) = spileref23_joinP x.1 x.2 := by
  intro x
  rw [show TT.lo false [.leaf (.row [.int .i64, .int .i64]), .leaf (.row [.int .i64, .int .i64])] x = TT.un [.leaf .slice, .leaf .slice] ((rowSV false [.int .i64, .int .i64] x.1), (rowSV false [.int .i64, .int .i64] x.2)) from rfl, spileref23_join.eq]
  rfl
noncomputable def spileref23_joinP.e : Entry := mkP [.leaf (.row [.int .i64, .int .i64]), .leaf (.row [.int .i64, .int .i64])] (.one (.leaf (.row [.int .i64, .int .i64]))) fun x => spileref23_joinP x.1 x.2
theorem spileref23_joinP.ok : EntryOK Try.prog 46 (spileref23_joinP.e) := mkP_ok (spileref23_join.tbok) Try.mixed Try.func46 (by kernel_rfl) spileref23_joinP.eq
end Go.Proofs.Ytbcpdecgfdlaaaa
