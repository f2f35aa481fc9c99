/- The functions of the program as Lean functions, each with the equation by which the evaluator is that function. Written by a program of this session (evdrive.py). Conditions: none. -/
import Derived.Test.YtfkabibbaajfhaaProg
import Derived.Test.YtfkabibbaajfhaaEvSpec
import Derived.Test.YtfkabibbaajfhaaFn6
namespace Go.Proofs.Ytfkabibbaajfhaa
open Go Go.Proofs.Ytfkabibbaajfhaa.Ev
set_option maxRecDepth 100000
set_option linter.unusedVariables false
/-! ### spile/spileref29.total: function 44 -/
noncomputable def spileref29_total.tb : Table := tab [] [] Table.nil
theorem spileref29_total.tbok : TabOK Try.prog (spileref29_total.tb) := TabOK.tab (TabOK.nil Try.prog) (all_nil _) (all_nil _)
noncomputable def spileref29_total.loop1 (a0 : SV) : (Int × Int) × H → Option (Stp ((Int × Int) × H) (Flow (Int) (Int) × H)) := fun ((y1, y2), h3) =>
(bif (decide (y2 < ((a0.len : Nat) : Int))) then (guardO (0 ≤ y2 ∧ y2 < ((a0.len : Nat) : Int)) ((rdT (.leaf (.int .i64)) h3 (V.add a0.a (Int.toNat y2 * 1))).bind fun x4 =>
(some (.more (((IntKind.wrap .i64 (y1 + x4)), (IntKind.wrap .i64 (y2 + 1))), h3))))) else (some (.done (.ex0 y1, h3))))
noncomputable def spileref29_total (a0 : SV) (h : H) : Option ((Int) × H) :=
((iter FUEL (spileref29_total.loop1 a0) ((0, 0), h)).bind fun (fl6, h5) => match fl6 with
| .next _ => none
| .ret rr7 => (some (rr7, h5))
| .ex0 y8 =>
(some (y8, h5))
| .ex1 _ => none)
def spileref29_total.A : Ann := { lits := [], conds := [], loops := [(3, [3, 4], [.leaf (.int .i64), .leaf (.int .i64)], [3], [.leaf (.int .i64)], some 0, none)], regs := [] }
theorem spileref29_total.eq : ∀ (x : TT [.leaf .slice]) (h : H), evalFn Try.prog (spileref29_total.tb) spileref29_total.A Try.f44 (.one (.leaf (.int .i64))) (TT.un [.leaf .slice] x) h = spileref29_total x h := by
  intro x h
  kernel_rfl
noncomputable def spileref29_total.e : Entry := mkX [.leaf .slice] (.one (.leaf (.int .i64))) fun x h => spileref29_total x h
theorem spileref29_total.ok : EntryOK Try.prog 44 (spileref29_total.e) := mkX_ok (spileref29_total.tbok) Try.mixed Try.func44 (by kernel_rfl) (spileref29_total.eq)
noncomputable def spileref29_totalP (a0 : (List (Int))) : Option (Int) := (spileref29_total (rowSV false [.int .i64] a0) H.empty).bind fun p => rdRes false p.2 (.one (.leaf (.int .i64))) (Res.un (.one (.leaf (.int .i64))) p.1)
theorem spileref29_totalP.eq : ∀ x : TT [.leaf (.row [.int .i64])], ((evalFn Try.prog (spileref29_total.tb) spileref29_total.A Try.f44 (.one (.leaf (.int .i64))) (TT.lo false [.leaf (.row [.int .i64])] x) H.empty).bind fun p => rdRes false p.2 (.one (.leaf (.int .i64))) (Res.un (.one (.leaf (.int .i64))) p.1)) = spileref29_totalP x := by
  intro x
  rw [show TT.lo false [.leaf (.row [.int .i64])] x = TT.un [.leaf .slice] ((rowSV false [.int .i64] x)) from rfl, spileref29_total.eq]
  rfl
noncomputable def spileref29_totalP.e : Entry := mkP [.leaf (.row [.int .i64])] (.one (.leaf (.int .i64))) fun x => spileref29_totalP x
theorem spileref29_totalP.ok : EntryOK Try.prog 44 (spileref29_totalP.e) := mkP_ok (spileref29_total.tbok) Try.mixed Try.func44 (by kernel_rfl) spileref29_totalP.eq

/-! ### spile/spileref21.Plus: function 78 -/
noncomputable def spileref21_Plus.tb : Table := tab [] [] Table.nil
theorem spileref21_Plus.tbok : TabOK Try.prog (spileref21_Plus.tb) := TabOK.tab (TabOK.nil Try.prog) (all_nil _) (all_nil _)
noncomputable def spileref21_Plus (a0 : (Int × Int)) (a1 : (Int × Int)) (h : H) : Option (((Int × Int)) × H) :=
(match a0 with
| (a0_0, a0_1) =>
(match a1 with
| (a1_0, a1_1) =>
(let h1 : H := H.new h [.int .i64 a0_0, .int .i64 a0_1] 2
(let h2 : H := H.new h1 [.int .i64 a1_0, .int .i64 a1_1] 2
(let h3 : H := H.new h2 [.int .i64 0, .int .i64 0] 2
((rdT (.leaf (.int .i64)) h3 (.hp h.next 2 0)).bind fun x4 =>
((rdT (.leaf (.int .i64)) h3 (.hp h1.next 2 0)).bind fun x5 =>
((rdT (.leaf (.int .i64)) h3 (.hp h.next 2 1)).bind fun x6 =>
((rdT (.leaf (.int .i64)) h3 (.hp h1.next 2 1)).bind fun x7 =>
((H.wrs h3 (.hp h2.next 2 0) [.int .i64 (IntKind.wrap .i64 (x4 + x5)), .int .i64 (IntKind.wrap .i64 (x6 + x7))]).bind fun h8 =>
((rdT (.agg [.int .i64, .int .i64]) h8 (.hp h2.next 2 0 : V)).bind fun (x9_0, x9_1) =>
(some ((x9_0, x9_1), h8)))))))))))))
def spileref21_Plus.A : Ann := { lits := [], conds := [], loops := [], regs := [] }
theorem spileref21_Plus.eq : ∀ (x : TT [.agg [.int .i64, .int .i64], .agg [.int .i64, .int .i64]]) (h : H), evalFn Try.prog (spileref21_Plus.tb) spileref21_Plus.A Try.f78 (.one (.agg [.int .i64, .int .i64])) (TT.un [.agg [.int .i64, .int .i64], .agg [.int .i64, .int .i64]] x) h = spileref21_Plus x.1 x.2 h := by
  intro x h
  kernel_rfl
noncomputable def spileref21_Plus.e : Entry := mkX [.agg [.int .i64, .int .i64], .agg [.int .i64, .int .i64]] (.one (.agg [.int .i64, .int .i64])) fun x h => spileref21_Plus x.1 x.2 h
theorem spileref21_Plus.ok : EntryOK Try.prog 78 (spileref21_Plus.e) := mkX_ok (spileref21_Plus.tbok) Try.mixed Try.func78 (by kernel_rfl) (spileref21_Plus.eq)
noncomputable def spileref21_PlusP (a0 : (Int × Int)) (a1 : (Int × Int)) : Option ((Int × Int)) := (spileref21_Plus a0 a1 H.empty).bind fun p => rdRes false p.2 (.one (.agg [.int .i64, .int .i64])) (Res.un (.one (.agg [.int .i64, .int .i64])) p.1)
theorem spileref21_PlusP.eq : ∀ x : TT [.agg [.int .i64, .int .i64], .agg [.int .i64, .int .i64]], ((evalFn Try.prog (spileref21_Plus.tb) spileref21_Plus.A Try.f78 (.one (.agg [.int .i64, .int .i64])) (TT.lo false [.agg [.int .i64, .int .i64], .agg [.int .i64, .int .i64]] x) H.empty).bind fun p => rdRes false p.2 (.one (.agg [.int .i64, .int .i64])) (Res.un (.one (.agg [.int .i64, .int .i64])) p.1)) = spileref21_PlusP x.1 x.2 := by
  intro x
  rw [show TT.lo false [.agg [.int .i64, .int .i64], .agg [.int .i64, .int .i64]] x = TT.un [.agg [.int .i64, .int .i64], .agg [.int .i64, .int .i64]] (x.1, x.2) from rfl, spileref21_Plus.eq]
  rfl
noncomputable def spileref21_PlusP.e : Entry := mkP [.agg [.int .i64, .int .i64], .agg [.int .i64, .int .i64]] (.one (.agg [.int .i64, .int .i64])) fun x => spileref21_PlusP x.1 x.2
theorem spileref21_PlusP.ok : EntryOK Try.prog 78 (spileref21_PlusP.e) := mkP_ok (spileref21_Plus.tbok) Try.mixed Try.func78 (by kernel_rfl) spileref21_PlusP.eq

/-! ### spile/spileref29.blend: function 54 -/
noncomputable def spileref29_blend.tb : Table := tab [(78, spileref21_PlusP.e)] [] Table.nil
theorem spileref29_blend.tbok : TabOK Try.prog (spileref29_blend.tb) := TabOK.tab (TabOK.nil Try.prog) (all_cons spileref21_PlusP.ok (all_nil _)) (all_nil _)
noncomputable def spileref29_blend.loop1 (h : H) (a1 : SV) (h2 : H) : (Int) × H → Option (Stp ((Int) × H) (Flow (Unit) ((Int × Int)) × H)) := fun (y5, h6) =>
(bif (decide (y5 < ((a1.len : Nat) : Int))) then (let h7 : H := H.reserve h6 0
((rdT (.agg [.int .i64, .int .i64]) h7 (.hp h2.next 2 0)).bind fun (x8_0, x8_1) =>
(guardO (0 ≤ y5 ∧ y5 < ((a1.len : Nat) : Int)) ((rdT (.leaf (.int .i64)) h7 (V.add a1.a (Int.toNat y5 * 1))).bind fun x9 =>
((rdT (.leaf .slice) h7 (.hp h.next 6 0)).bind fun x10 =>
(guardO (0 ≤ y5 ∧ y5 < ((x10.len : Nat) : Int)) (guardO (V.nn ((V.add x10.a (Int.toNat y5 * 2)) : V) = true) ((rdT (.leaf (.int .i64)) h7 (V.add (V.add x10.a (Int.toNat y5 * 2)) 0)).bind fun x11 =>
(guardO (0 ≤ y5 ∧ y5 < ((a1.len : Nat) : Int)) ((rdT (.leaf (.int .i64)) h7 (V.add a1.a (Int.toNat y5 * 1))).bind fun x12 =>
((rdT (.leaf .slice) h7 (.hp h.next 6 0)).bind fun x13 =>
(guardO (0 ≤ y5 ∧ y5 < ((x13.len : Nat) : Int)) (guardO (V.nn ((V.add x13.a (Int.toNat y5 * 2)) : V) = true) ((rdT (.leaf (.int .i64)) h7 (V.add (V.add x13.a (Int.toNat y5 * 2)) 1)).bind fun x14 =>
((spileref21_PlusP (x8_0, x8_1) ((IntKind.wrap .i64 (x9 * x11)), (IntKind.wrap .i64 (x12 * x14)))).bind fun (r15_0, r15_1) =>
((H.wrs h7 (.hp h2.next 2 0) [.int .i64 r15_0, .int .i64 r15_1]).bind fun h16 =>
(some (.more ((IntKind.wrap .i64 (y5 + 1)), h16))))))))))))))))))) else (some (.done (.ex0 (), h6))))
noncomputable def spileref29_blend (a0 : (SV × SV × SV × Int × Int × Int)) (a1 : SV) (h : H) : Option (((Int × Int)) × H) :=
(match a0 with
| (a0_0, a0_1, a0_2, a0_3, a0_4, a0_5) =>
(let h1 : H := H.new h [.slice a0_0.a a0_0.len a0_0.cap a0_0.tail, .slice a0_1.a a0_1.len a0_1.cap a0_1.tail, .slice a0_2.a a0_2.len a0_2.cap a0_2.tail, .int .i64 a0_3, .int .i64 a0_4, .int .i64 a0_5] 6
(let h2 : H := H.new h1 [.int .i64 0, .int .i64 0] 2
(let h3 : H := H.new h2 [.int .i64 0, .int .i64 0] 2
((H.wrs h3 (.hp h2.next 2 0) [.int .i64 0, .int .i64 0]).bind fun h4 =>
((iter FUEL (spileref29_blend.loop1 h a1 h2) (0, h4)).bind fun (fl18, h17) => match fl18 with
| .next _ => none
| .ret rr19 => (some (rr19, h17))
| .ex0 _ =>
((rdT (.agg [.int .i64, .int .i64]) h17 (.hp h2.next 2 0)).bind fun (x20_0, x20_1) =>
((H.wrs h17 (.hp h1.next 2 0) [.int .i64 x20_0, .int .i64 x20_1]).bind fun h21 =>
((rdT (.agg [.int .i64, .int .i64]) h21 (.hp h1.next 2 0 : V)).bind fun (x22_0, x22_1) =>
(some ((x22_0, x22_1), h21)))))
| .ex1 _ => none))))))
def spileref29_blend.A : Ann := { lits := [], conds := [], loops := [(3, [6], [.leaf (.int .i64)], [], [], some 0, none)], regs := [] }
theorem spileref29_blend.eq : ∀ (x : TT [.agg [.slice, .slice, .slice, .int .i64, .int .i64, .int .i64], .leaf .slice]) (h : H), evalFn Try.prog (spileref29_blend.tb) spileref29_blend.A Try.f54 (.one (.agg [.int .i64, .int .i64])) (TT.un [.agg [.slice, .slice, .slice, .int .i64, .int .i64, .int .i64], .leaf .slice] x) h = spileref29_blend x.1 x.2 h := by
  intro x h
  kernel_rfl
noncomputable def spileref29_blend.e : Entry := mkX [.agg [.slice, .slice, .slice, .int .i64, .int .i64, .int .i64], .leaf .slice] (.one (.agg [.int .i64, .int .i64])) fun x h => spileref29_blend x.1 x.2 h
theorem spileref29_blend.ok : EntryOK Try.prog 54 (spileref29_blend.e) := mkX_ok (spileref29_blend.tbok) Try.mixed Try.func54 (by kernel_rfl) (spileref29_blend.eq)
noncomputable def spileref29_blendP (a0 : ((List (Int × Int)) × (List (Int)) × (List (Int)) × Int × Int × Int)) (a1 : (List (Int))) : Option ((Int × Int)) := (spileref29_blend (rowSV false [.int .i64, .int .i64] a0.1, rowSV false [.int .i64] a0.2.1, rowSV false [.int .i64] a0.2.2.1, a0.2.2.2.1, a0.2.2.2.2.1, a0.2.2.2.2.2) (rowSV false [.int .i64] a1) H.empty).bind fun p => rdRes false p.2 (.one (.agg [.int .i64, .int .i64])) (Res.un (.one (.agg [.int .i64, .int .i64])) p.1)
theorem spileref29_blendP.eq : ∀ x : TT [.agg [.row [.int .i64, .int .i64], .row [.int .i64], .row [.int .i64], .int .i64, .int .i64, .int .i64], .leaf (.row [.int .i64])], ((evalFn Try.prog (spileref29_blend.tb) spileref29_blend.A Try.f54 (.one (.agg [.int .i64, .int .i64])) (TT.lo false [.agg [.row [.int .i64, .int .i64], .row [.int .i64], .row [.int .i64], .int .i64, .int .i64, .int .i64], .leaf (.row [.int .i64])] x) H.empty).bind fun p => rdRes false p.2 (.one (.agg [.int .i64, .int .i64])) (Res.un (.one (.agg [.int .i64, .int .i64])) p.1)) = spileref29_blendP x.1 x.2 := by
  intro x
  rw [show TT.lo false [.agg [.row [.int .i64, .int .i64], .row [.int .i64], .row [.int .i64], .int .i64, .int .i64, .int .i64], .leaf (.row [.int .i64])] x = TT.un [.agg [.slice, .slice, .slice, .int .i64, .int .i64, .int .i64], .leaf .slice] ((rowSV false [.int .i64, .int .i64] x.1.1, rowSV false [.int .i64] x.1.2.1, rowSV false [.int .i64] x.1.2.2.1, x.1.2.2.2.1, x.1.2.2.2.2.1, x.1.2.2.2.2.2), (rowSV false [.int .i64] x.2)) from rfl, spileref29_blend.eq]
  rfl
noncomputable def spileref29_blendP.e : Entry := mkP [.agg [.row [.int .i64, .int .i64], .row [.int .i64], .row [.int .i64], .int .i64, .int .i64, .int .i64], .leaf (.row [.int .i64])] (.one (.agg [.int .i64, .int .i64])) fun x => spileref29_blendP x.1 x.2
theorem spileref29_blendP.ok : EntryOK Try.prog 54 (spileref29_blendP.e) := mkP_ok (spileref29_blend.tbok) Try.mixed Try.func54 (by kernel_rfl) spileref29_blendP.eq

/-! ### spile/spileref20.Grade: function 72 -/
noncomputable def spileref20_Grade.tb : Table := tab [(81, spileref18_AtP.e)] [] Table.nil
theorem spileref20_Grade.tbok : TabOK Try.prog (spileref20_Grade.tb) := TabOK.tab (TabOK.nil Try.prog) (all_cons spileref18_AtP.ok (all_nil _)) (all_nil _)
noncomputable def spileref20_Grade.loop1 (h : H) (a0 : SV) : (Int × Int) × H → Option (Stp ((Int × Int) × H) (Flow (Int) (Int) × H)) := fun ((y3, y4), h5) =>
(bif (decide (y3 < y4)) then (let h6 : H := H.reserve h5 0
((rdT (.leaf (.int .i64)) h6 (.hp h.next 2 0)).bind fun x7 =>
((rdRow true h6 [.int .i64, .int .i64] a0).bind fun s9 =>
((spileref18_AtP s9 (IntKind.wrap .i64 (Int.tdiv (IntKind.wrap .i64 ((IntKind.wrap .i64 (y3 + y4)) + 1)) 2))).bind fun r8 =>
((rdT (.leaf (.int .i64)) h6 (.hp h.next 2 1)).bind fun x10 =>
((bif (decide ((IntKind.wrap .i64 (x10 * (IntKind.wrap .i64 (Int.tdiv (IntKind.wrap .i64 ((IntKind.wrap .i64 (y3 + y4)) + 1)) 2)))) ≤ (IntKind.wrap .i64 (x7 * r8)))) then (some (.next ((IntKind.wrap .i64 (Int.tdiv (IntKind.wrap .i64 ((IntKind.wrap .i64 (y3 + y4)) + 1)) 2)), y4), h6)) else (some (.next (y3, (IntKind.wrap .i64 ((IntKind.wrap .i64 (Int.tdiv (IntKind.wrap .i64 ((IntKind.wrap .i64 (y3 + y4)) + 1)) 2)) - 1))), h6)) : Option (Flow (Int × Int) (Int) × H)).bind fun (fl12, h11) => match fl12 with
| .next (y13, y14) =>
(some (.more ((y13, y14), h11)))
| .ret rr15 => (some (.done (.ret rr15, h11)))
| .ex0 _ => none
| .ex1 _ => none)))))) else (some (.done (.ex0 y3, h5))))
noncomputable def spileref20_Grade (a0 : SV) (a1 : (Int × Int)) (h : H) : Option ((Int) × H) :=
(match a1 with
| (a1_0, a1_1) =>
(let h1 : H := H.new h [.int .i64 a1_0, .int .i64 a1_1] 2
((rdT (.leaf (.int .i64)) h1 (.hp h.next 2 1)).bind fun x2 =>
(bif (decide (x2 = 0)) then (some (0, h1)) else ((iter FUEL (spileref20_Grade.loop1 h a0) ((0, 10000), h1)).bind fun (fl17, h16) => match fl17 with
| .next _ => none
| .ret rr18 => (some (rr18, h16))
| .ex0 y19 =>
(some (y19, h16))
| .ex1 _ => none)))))
def spileref20_Grade.A : Ann := { lits := [], conds := [(29, [5, 6], [.leaf (.int .i64), .leaf (.int .i64)], none, none)], loops := [(4, [5, 6], [.leaf (.int .i64), .leaf (.int .i64)], [5], [.leaf (.int .i64)], some 0, none)], regs := [] }
theorem spileref20_Grade.eq : ∀ (x : TT [.leaf .slice, .agg [.int .i64, .int .i64]]) (h : H), evalFn Try.prog (spileref20_Grade.tb) spileref20_Grade.A Try.f72 (.one (.leaf (.int .i64))) (TT.un [.leaf .slice, .agg [.int .i64, .int .i64]] x) h = spileref20_Grade x.1 x.2 h := by
  intro x h
  kernel_rfl
noncomputable def spileref20_Grade.e : Entry := mkX [.leaf .slice, .agg [.int .i64, .int .i64]] (.one (.leaf (.int .i64))) fun x h => spileref20_Grade x.1 x.2 h
theorem spileref20_Grade.ok : EntryOK Try.prog 72 (spileref20_Grade.e) := mkX_ok (spileref20_Grade.tbok) Try.mixed Try.func72 (by kernel_rfl) (spileref20_Grade.eq)
noncomputable def spileref20_GradeP (a0 : (List (Int × Int))) (a1 : (Int × Int)) : Option (Int) := (spileref20_Grade (rowSV false [.int .i64, .int .i64] a0) a1 H.empty).bind fun p => rdRes false p.2 (.one (.leaf (.int .i64))) (Res.un (.one (.leaf (.int .i64))) p.1)
theorem spileref20_GradeP.eq : ∀ x : TT [.leaf (.row [.int .i64, .int .i64]), .agg [.int .i64, .int .i64]], ((evalFn Try.prog (spileref20_Grade.tb) spileref20_Grade.A Try.f72 (.one (.leaf (.int .i64))) (TT.lo false [.leaf (.row [.int .i64, .int .i64]), .agg [.int .i64, .int .i64]] x) H.empty).bind fun p => rdRes false p.2 (.one (.leaf (.int .i64))) (Res.un (.one (.leaf (.int .i64))) p.1)) = spileref20_GradeP x.1 x.2 := by
  intro x
  rw [show TT.lo false [.leaf (.row [.int .i64, .int .i64]), .agg [.int .i64, .int .i64]] x = TT.un [.leaf .slice, .agg [.int .i64, .int .i64]] ((rowSV false [.int .i64, .int .i64] x.1), x.2) from rfl, spileref20_Grade.eq]
  rfl
noncomputable def spileref20_GradeP.e : Entry := mkP [.leaf (.row [.int .i64, .int .i64]), .agg [.int .i64, .int .i64]] (.one (.leaf (.int .i64))) fun x => spileref20_GradeP x.1 x.2
theorem spileref20_GradeP.ok : EntryOK Try.prog 72 (spileref20_GradeP.e) := mkP_ok (spileref20_Grade.tbok) Try.mixed Try.func72 (by kernel_rfl) spileref20_GradeP.eq

/-! ### spile/spileref29.keeps: function 39 -/
noncomputable def spileref29_keeps.tb : Table := tab [(44, spileref29_totalP.e), (54, spileref29_blendP.e), (72, spileref20_GradeP.e)] [] Table.nil
theorem spileref29_keeps.tbok : TabOK Try.prog (spileref29_keeps.tb) := TabOK.tab (TabOK.nil Try.prog) (all_cons spileref29_totalP.ok (all_cons spileref29_blendP.ok (all_cons spileref20_GradeP.ok (all_nil _)))) (all_nil _)
noncomputable def spileref29_keeps (a0 : SV) (a1 : (SV × SV × SV × Int × Int × Int)) (a2 : SV) (h : H) : Option ((Bool) × H) :=
(match a1 with
| (a1_0, a1_1, a1_2, a1_3, a1_4, a1_5) =>
(let h1 : H := H.new h [.slice a1_0.a a1_0.len a1_0.cap a1_0.tail, .slice a1_1.a a1_1.len a1_1.cap a1_1.tail, .slice a1_2.a a1_2.len a1_2.cap a1_2.tail, .int .i64 a1_3, .int .i64 a1_4, .int .i64 a1_5] 6
(let h2 : H := H.reserve h1 0
((rdRow true h2 [.int .i64] a2).bind fun s4 =>
((spileref29_totalP s4).bind fun r3 =>
((rdT (.leaf (.int .i64)) h2 (.hp h.next 6 5)).bind fun x5 =>
(bif (decide (r3 < x5)) then (some (false, h2)) else ((rdT (.agg [.slice, .slice, .slice, .int .i64, .int .i64, .int .i64]) h2 (.hp h.next 6 0)).bind fun (x6_0, x6_1, x6_2, x6_3, x6_4, x6_5) =>
((rdRow true h2 [.int .i64, .int .i64] x6_0).bind fun s8 =>
((rdRow true h2 [.int .i64] x6_1).bind fun s9 =>
((rdRow true h2 [.int .i64] x6_2).bind fun s10 =>
((rdRow true h2 [.int .i64] a2).bind fun s11 =>
((spileref29_blendP (s8, s9, s10, x6_3, x6_4, x6_5) s11).bind fun (r7_0, r7_1) =>
((rdRow true h2 [.int .i64, .int .i64] a0).bind fun s13 =>
((spileref20_GradeP s13 (r7_0, r7_1)).bind fun r12 =>
((((rdT (.leaf (.int .i64)) h2 (.hp h.next 6 3)).bind fun x14 =>
(bif (decide (x14 ≤ r12)) then ((rdT (.leaf (.int .i64)) h2 (.hp h.next 6 4)).bind fun x15 =>
(some ((decide (r12 ≤ x15)), h2))) else (some (false, h2))))).bind fun (y16, h17) =>
(some (y16, h17))))))))))))))))))
def spileref29_keeps.A : Ann := { lits := [], conds := [], loops := [], regs := [(4, [6], [.leaf .bool])] }
theorem spileref29_keeps.eq : ∀ (x : TT [.leaf .slice, .agg [.slice, .slice, .slice, .int .i64, .int .i64, .int .i64], .leaf .slice]) (h : H), evalFn Try.prog (spileref29_keeps.tb) spileref29_keeps.A Try.f39 (.one (.leaf .bool)) (TT.un [.leaf .slice, .agg [.slice, .slice, .slice, .int .i64, .int .i64, .int .i64], .leaf .slice] x) h = spileref29_keeps x.1 x.2.1 x.2.2 h := by
  intro x h
  kernel_rfl
noncomputable def spileref29_keeps.e : Entry := mkX [.leaf .slice, .agg [.slice, .slice, .slice, .int .i64, .int .i64, .int .i64], .leaf .slice] (.one (.leaf .bool)) fun x h => spileref29_keeps x.1 x.2.1 x.2.2 h
theorem spileref29_keeps.ok : EntryOK Try.prog 39 (spileref29_keeps.e) := mkX_ok (spileref29_keeps.tbok) Try.mixed Try.func39 (by kernel_rfl) (spileref29_keeps.eq)
noncomputable def spileref29_keepsP (a0 : (List (Int × Int))) (a1 : ((List (Int × Int)) × (List (Int)) × (List (Int)) × Int × Int × Int)) (a2 : (List (Int))) : Option (Bool) := (spileref29_keeps (rowSV false [.int .i64, .int .i64] a0) (rowSV false [.int .i64, .int .i64] a1.1, rowSV false [.int .i64] a1.2.1, rowSV false [.int .i64] a1.2.2.1, a1.2.2.2.1, a1.2.2.2.2.1, a1.2.2.2.2.2) (rowSV false [.int .i64] a2) H.empty).bind fun p => rdRes false p.2 (.one (.leaf .bool)) (Res.un (.one (.leaf .bool)) p.1)
theorem spileref29_keepsP.eq : ∀ x : TT [.leaf (.row [.int .i64, .int .i64]), .agg [.row [.int .i64, .int .i64], .row [.int .i64], .row [.int .i64], .int .i64, .int .i64, .int .i64], .leaf (.row [.int .i64])], ((evalFn Try.prog (spileref29_keeps.tb) spileref29_keeps.A Try.f39 (.one (.leaf .bool)) (TT.lo false [.leaf (.row [.int .i64, .int .i64]), .agg [.row [.int .i64, .int .i64], .row [.int .i64], .row [.int .i64], .int .i64, .int .i64, .int .i64], .leaf (.row [.int .i64])] x) H.empty).bind fun p => rdRes false p.2 (.one (.leaf .bool)) (Res.un (.one (.leaf .bool)) p.1)) = spileref29_keepsP x.1 x.2.1 x.2.2 := by
  intro x
  rw [show TT.lo false [.leaf (.row [.int .i64, .int .i64]), .agg [.row [.int .i64, .int .i64], .row [.int .i64], .row [.int .i64], .int .i64, .int .i64, .int .i64], .leaf (.row [.int .i64])] x = TT.un [.leaf .slice, .agg [.slice, .slice, .slice, .int .i64, .int .i64, .int .i64], .leaf .slice] ((rowSV false [.int .i64, .int .i64] x.1), (rowSV false [.int .i64, .int .i64] x.2.1.1, rowSV false [.int .i64] x.2.1.2.1, rowSV false [.int .i64] x.2.1.2.2.1, x.2.1.2.2.2.1, x.2.1.2.2.2.2.1, x.2.1.2.2.2.2.2), (rowSV false [.int .i64] x.2.2)) from rfl, spileref29_keeps.eq]
  rfl
noncomputable def spileref29_keepsP.e : Entry := mkP [.leaf (.row [.int .i64, .int .i64]), .agg [.row [.int .i64, .int .i64], .row [.int .i64], .row [.int .i64], .int .i64, .int .i64, .int .i64], .leaf (.row [.int .i64])] (.one (.leaf .bool)) fun x => spileref29_keepsP x.1 x.2.1 x.2.2
theorem spileref29_keepsP.ok : EntryOK Try.prog 39 (spileref29_keepsP.e) := mkP_ok (spileref29_keeps.tbok) Try.mixed Try.func39 (by kernel_rfl) spileref29_keepsP.eq

/-! ### spile/spileref29.next: function 40 -/
noncomputable def spileref29_next.tb : Table := tab [] [] Table.nil
theorem spileref29_next.tbok : TabOK Try.prog (spileref29_next.tb) := TabOK.tab (TabOK.nil Try.prog) (all_nil _) (all_nil _)
noncomputable def spileref29_next.loop1 (h : H) (s4 : SV) : (Int) × H → Option (Stp ((Int) × H) (Flow (Unit) (SV × Bool) × H)) := fun (y7, h8) =>
(bif (decide ((0 : Int) ≤ y7)) then (let h9 : H := H.reserve h8 0
(guardO (0 ≤ y7 ∧ y7 < ((s4.len : Nat) : Int)) ((rdT (.leaf (.int .i64)) h9 (V.add s4.a (Int.toNat y7 * 1))).bind fun x10 =>
((rdT (.leaf .slice) h9 (.hp h.next 6 1)).bind fun x11 =>
(guardO (0 ≤ y7 ∧ y7 < ((x11.len : Nat) : Int)) ((rdT (.leaf (.int .i64)) h9 (V.add x11.a (Int.toNat y7 * 1))).bind fun x12 =>
(bif (decide (x10 < x12)) then (guardO (0 ≤ y7 ∧ y7 < ((s4.len : Nat) : Int)) ((rdT (.leaf (.int .i64)) h9 (V.add s4.a (Int.toNat y7 * 1))).bind fun x13 =>
(guardO (0 ≤ y7 ∧ y7 < ((s4.len : Nat) : Int)) ((H.wrs h9 (V.add s4.a (Int.toNat y7 * 1)) [.int .i64 (IntKind.wrap .i64 (x13 + 1))]).bind fun h14 =>
(some (.done (.ret (s4, true), h14))))))) else (guardO (0 ≤ y7 ∧ y7 < ((s4.len : Nat) : Int)) ((H.wrs h9 (V.add s4.a (Int.toNat y7 * 1)) [.int .i64 0]).bind fun h15 =>
(some (.more ((IntKind.wrap .i64 (y7 - 1)), h15)))))))))))) else (some (.done (.ex0 (), h8))))
noncomputable def spileref29_next (a0 : (SV × SV × SV × Int × Int × Int)) (a1 : SV) (h : H) : Option ((SV × Bool) × H) :=
(match a0 with
| (a0_0, a0_1, a0_2, a0_3, a0_4, a0_5) =>
(let h1 : H := H.new h [.slice a0_0.a a0_0.len a0_0.cap a0_0.tail, .slice a0_1.a a0_1.len a0_1.cap a0_1.tail, .slice a0_2.a a0_2.len a0_2.cap a0_2.tail, .int .i64 a0_3, .int .i64 a0_4, .int .i64 a0_5] 6
((cellsOf h1 (.slice a1.a a1.len a1.cap a1.tail : V) 1).bind fun (n4, cs4) =>
((appendS h1 none 1 8 (⟨.lp true ([]) 0, 0, 0, false⟩) cs4 n4).bind fun (s4, h3) =>
((iter FUEL (spileref29_next.loop1 h s4) ((IntKind.wrap .i64 (((s4.len : Nat) : Int) - 1)), h3)).bind fun (fl17, h16) => match fl17 with
| .next _ => none
| .ret rr18 => (some (rr18, h16))
| .ex0 _ =>
(some ((⟨.nil, 0, 0, false⟩, false), h16))
| .ex1 _ => none)))))
def spileref29_next.A : Ann := { lits := [], conds := [], loops := [(3, [7], [.leaf (.int .i64)], [], [], some 0, none)], regs := [] }
theorem spileref29_next.eq : ∀ (x : TT [.agg [.slice, .slice, .slice, .int .i64, .int .i64, .int .i64], .leaf .slice]) (h : H), evalFn Try.prog (spileref29_next.tb) spileref29_next.A Try.f40 (.many [.leaf .slice, .leaf .bool]) (TT.un [.agg [.slice, .slice, .slice, .int .i64, .int .i64, .int .i64], .leaf .slice] x) h = spileref29_next x.1 x.2 h := by
  intro x h
  kernel_rfl
noncomputable def spileref29_next.e : Entry := mkX [.agg [.slice, .slice, .slice, .int .i64, .int .i64, .int .i64], .leaf .slice] (.many [.leaf .slice, .leaf .bool]) fun x h => spileref29_next x.1 x.2 h
theorem spileref29_next.ok : EntryOK Try.prog 40 (spileref29_next.e) := mkX_ok (spileref29_next.tbok) Try.mixed Try.func40 (by kernel_rfl) (spileref29_next.eq)
noncomputable def spileref29_nextP (a0 : ((List (Int × Int)) × (List (Int)) × (List (Int)) × Int × Int × Int)) (a1 : (List (Int))) : Option ((List (Int)) × Bool) := (spileref29_next (rowSV false [.int .i64, .int .i64] a0.1, rowSV false [.int .i64] a0.2.1, rowSV false [.int .i64] a0.2.2.1, a0.2.2.2.1, a0.2.2.2.2.1, a0.2.2.2.2.2) (rowSV false [.int .i64] a1) H.empty).bind fun p => rdRes false p.2 (.many [.leaf (.row [.int .i64]), .leaf .bool]) (Res.un (.many [.leaf .slice, .leaf .bool]) p.1)
theorem spileref29_nextP.eq : ∀ x : TT [.agg [.row [.int .i64, .int .i64], .row [.int .i64], .row [.int .i64], .int .i64, .int .i64, .int .i64], .leaf (.row [.int .i64])], ((evalFn Try.prog (spileref29_next.tb) spileref29_next.A Try.f40 (.many [.leaf .slice, .leaf .bool]) (TT.lo false [.agg [.row [.int .i64, .int .i64], .row [.int .i64], .row [.int .i64], .int .i64, .int .i64, .int .i64], .leaf (.row [.int .i64])] x) H.empty).bind fun p => rdRes false p.2 (.many [.leaf (.row [.int .i64]), .leaf .bool]) (Res.un (.many [.leaf .slice, .leaf .bool]) p.1)) = spileref29_nextP x.1 x.2 := by
  intro x
  rw [show TT.lo false [.agg [.row [.int .i64, .int .i64], .row [.int .i64], .row [.int .i64], .int .i64, .int .i64, .int .i64], .leaf (.row [.int .i64])] x = TT.un [.agg [.slice, .slice, .slice, .int .i64, .int .i64, .int .i64], .leaf .slice] ((rowSV false [.int .i64, .int .i64] x.1.1, rowSV false [.int .i64] x.1.2.1, rowSV false [.int .i64] x.1.2.2.1, x.1.2.2.2.1, x.1.2.2.2.2.1, x.1.2.2.2.2.2), (rowSV false [.int .i64] x.2)) from rfl, spileref29_next.eq]
  rfl
noncomputable def spileref29_nextP.e : Entry := mkP [.agg [.row [.int .i64, .int .i64], .row [.int .i64], .row [.int .i64], .int .i64, .int .i64, .int .i64], .leaf (.row [.int .i64])] (.many [.leaf (.row [.int .i64]), .leaf .bool]) fun x => spileref29_nextP x.1 x.2
theorem spileref29_nextP.ok : EntryOK Try.prog 40 (spileref29_nextP.e) := mkP_ok (spileref29_next.tbok) Try.mixed Try.func40 (by kernel_rfl) spileref29_nextP.eq

/-! ### spile/spileref29.Best: function 15 -/
noncomputable def spileref29_Best.tb : Table := tab [(25, spileref29_CheckP.e), (38, spileref29_costP.e), (39, spileref29_keepsP.e), (40, spileref29_nextP.e)] [] Table.nil
theorem spileref29_Best.tbok : TabOK Try.prog (spileref29_Best.tb) := TabOK.tab (TabOK.nil Try.prog) (all_cons spileref29_CheckP.ok (all_cons spileref29_costP.ok (all_cons spileref29_keepsP.ok (all_cons spileref29_nextP.ok (all_nil _))))) (all_nil _)
noncomputable def spileref29_Best.loop1 (h : H) (a0 : SV) : (SV × Int × SV × Bool) × H → Option (Stp ((SV × Int × SV × Bool) × H) (Flow (SV × Int) (SV × Int × Int) × H)) := fun ((y10, y11, y12, y13), h14) =>
(bif y13 then ((rdT (.agg [.slice, .slice, .slice, .int .i64, .int .i64, .int .i64]) h14 (.hp h.next 6 0)).bind fun (x15_0, x15_1, x15_2, x15_3, x15_4, x15_5) =>
((rdRow true h14 [.int .i64, .int .i64] x15_0).bind fun s17 =>
((rdRow true h14 [.int .i64] x15_1).bind fun s18 =>
((rdRow true h14 [.int .i64] x15_2).bind fun s19 =>
((rdRow true h14 [.int .i64] y12).bind fun s20 =>
((spileref29_costP (s17, s18, s19, x15_3, x15_4, x15_5) s20).bind fun r16 =>
(((bif !(decide (y11 < 0)) then (bif (decide (r16 < y11)) then ((rdT (.agg [.slice, .slice, .slice, .int .i64, .int .i64, .int .i64]) h14 (.hp h.next 6 0)).bind fun (x21_0, x21_1, x21_2, x21_3, x21_4, x21_5) =>
((rdRow true h14 [.int .i64, .int .i64] a0).bind fun s23 =>
((rdRow true h14 [.int .i64, .int .i64] x21_0).bind fun s24 =>
((rdRow true h14 [.int .i64] x21_1).bind fun s25 =>
((rdRow true h14 [.int .i64] x21_2).bind fun s26 =>
((rdRow true h14 [.int .i64] y12).bind fun s27 =>
((spileref29_keepsP s23 (s24, s25, s26, x21_3, x21_4, x21_5) s27).bind fun r22 =>
(some (r22, h14))))))))) else (some (false, h14))) else ((rdT (.agg [.slice, .slice, .slice, .int .i64, .int .i64, .int .i64]) h14 (.hp h.next 6 0)).bind fun (x28_0, x28_1, x28_2, x28_3, x28_4, x28_5) =>
((rdRow true h14 [.int .i64, .int .i64] a0).bind fun s30 =>
((rdRow true h14 [.int .i64, .int .i64] x28_0).bind fun s31 =>
((rdRow true h14 [.int .i64] x28_1).bind fun s32 =>
((rdRow true h14 [.int .i64] x28_2).bind fun s33 =>
((rdRow true h14 [.int .i64] y12).bind fun s34 =>
((spileref29_keepsP s30 (s31, s32, s33, x28_3, x28_4, x28_5) s34).bind fun r29 =>
(some (r29, h14))))))))))).bind fun (y35, h36) =>
((bif y35 then (some (.next (y12, r16), h36)) else (some (.next (y10, y11), h36)) : Option (Flow (SV × Int) (SV × Int × Int) × H)).bind fun (fl38, h37) => match fl38 with
| .next (y39, y40) =>
((rdT (.agg [.slice, .slice, .slice, .int .i64, .int .i64, .int .i64]) h37 (.hp h.next 6 0)).bind fun (x41_0, x41_1, x41_2, x41_3, x41_4, x41_5) =>
((rdRow true h37 [.int .i64, .int .i64] x41_0).bind fun s44 =>
((rdRow true h37 [.int .i64] x41_1).bind fun s45 =>
((rdRow true h37 [.int .i64] x41_2).bind fun s46 =>
((rdRow true h37 [.int .i64] y12).bind fun s47 =>
((spileref29_nextP (s44, s45, s46, x41_3, x41_4, x41_5) s47).bind fun (r42, r43) =>
(some (.more ((y39, y40, (rowSV true [.int .i64] r42), r43), h37)))))))))
| .ret rr48 => (some (.done (.ret rr48, h37)))
| .ex0 _ => none
| .ex1 _ => none)))))))) else (some (.done (.ex0 (y10, y11), h14))))
noncomputable def spileref29_Best (a0 : SV) (a1 : (SV × SV × SV × Int × Int × Int)) (h : H) : Option ((SV × Int × Int) × H) :=
(match a1 with
| (a1_0, a1_1, a1_2, a1_3, a1_4, a1_5) =>
(let h1 : H := H.new h [.slice a1_0.a a1_0.len a1_0.cap a1_0.tail, .slice a1_1.a a1_1.len a1_1.cap a1_1.tail, .slice a1_2.a a1_2.len a1_2.cap a1_2.tail, .int .i64 a1_3, .int .i64 a1_4, .int .i64 a1_5] 6
((rdT (.agg [.slice, .slice, .slice, .int .i64, .int .i64, .int .i64]) h1 (.hp h.next 6 0)).bind fun (x2_0, x2_1, x2_2, x2_3, x2_4, x2_5) =>
((rdRow true h1 [.int .i64, .int .i64] a0).bind fun s4 =>
((rdRow true h1 [.int .i64, .int .i64] x2_0).bind fun s5 =>
((rdRow true h1 [.int .i64] x2_1).bind fun s6 =>
((rdRow true h1 [.int .i64] x2_2).bind fun s7 =>
((spileref29_CheckP s4 (s5, s6, s7, x2_3, x2_4, x2_5)).bind fun r3 =>
(bif (!(decide (r3 = 0))) then (some ((⟨.nil, 0, 0, false⟩, 0, 1), h1)) else ((rdT (.leaf .slice) h1 (.hp h.next 6 0)).bind fun x8 =>
(guardO (0 ≤ ((x8.len : Nat) : Int) ∧ ((x8.len : Nat) : Int) ≤ ((x8.len : Nat) : Int) ∧ ((x8.len : Nat) : Int) ≤ roomCells ∧ 8 ≤ 2 ^ 11 ∧ 1 = 1) (let h9 : H := H.new h1 (repeatCells [.int .i64 0] (Int.toNat ((x8.len : Nat) : Int))) 1
((iter FUEL (spileref29_Best.loop1 h a0) ((⟨.lp true ([]) 0, 0, 0, false⟩, (-1), ⟨.hp h1.next (Int.toNat ((x8.len : Nat) : Int) * 1) 0, (Int.toNat ((x8.len : Nat) : Int)), (Int.toNat ((x8.len : Nat) : Int)), true⟩, true), h9)).bind fun (fl50, h49) => match fl50 with
| .next _ => none
| .ret rr51 => (some (rr51, h49))
| .ex0 (y52, y53) =>
(bif (decide (y53 < 0)) then (some ((⟨.nil, 0, 0, false⟩, 0, 20), h49)) else (some ((y52, y53, 0), h49)))
| .ex1 _ => none)))))))))))))
def spileref29_Best.A : Ann := { lits := [], conds := [(37, [7, 8], [.leaf .slice, .leaf (.int .i64)], none, none)], loops := [(5, [7, 8, 9, 10], [.leaf .slice, .leaf (.int .i64), .leaf .slice, .leaf .bool], [7, 8], [.leaf .slice, .leaf (.int .i64)], some 0, none)], regs := [(7, [37], [.leaf .bool])] }
theorem spileref29_Best.eq : ∀ (x : TT [.leaf .slice, .agg [.slice, .slice, .slice, .int .i64, .int .i64, .int .i64]]) (h : H), evalFn Try.prog (spileref29_Best.tb) spileref29_Best.A Try.f15 (.many [.leaf .slice, .leaf (.int .i64), .leaf (.int .i64)]) (TT.un [.leaf .slice, .agg [.slice, .slice, .slice, .int .i64, .int .i64, .int .i64]] x) h = spileref29_Best x.1 x.2 h := by
  intro x h
  kernel_rfl
noncomputable def spileref29_Best.e : Entry := mkX [.leaf .slice, .agg [.slice, .slice, .slice, .int .i64, .int .i64, .int .i64]] (.many [.leaf .slice, .leaf (.int .i64), .leaf (.int .i64)]) fun x h => spileref29_Best x.1 x.2 h
theorem spileref29_Best.ok : EntryOK Try.prog 15 (spileref29_Best.e) := mkX_ok (spileref29_Best.tbok) Try.mixed Try.func15 (by kernel_rfl) (spileref29_Best.eq)
noncomputable def spileref29_BestP (a0 : (List (Int × Int))) (a1 : ((List (Int × Int)) × (List (Int)) × (List (Int)) × Int × Int × Int)) : Option ((List (Int)) × Int × Int) := (spileref29_Best (rowSV false [.int .i64, .int .i64] a0) (rowSV false [.int .i64, .int .i64] a1.1, rowSV false [.int .i64] a1.2.1, rowSV false [.int .i64] a1.2.2.1, a1.2.2.2.1, a1.2.2.2.2.1, a1.2.2.2.2.2) H.empty).bind fun p => rdRes false p.2 (.many [.leaf (.row [.int .i64]), .leaf (.int .i64), .leaf (.int .i64)]) (Res.un (.many [.leaf .slice, .leaf (.int .i64), .leaf (.int .i64)]) p.1)
theorem spileref29_BestP.eq : ∀ x : TT [.leaf (.row [.int .i64, .int .i64]), .agg [.row [.int .i64, .int .i64], .row [.int .i64], .row [.int .i64], .int .i64, .int .i64, .int .i64]], ((evalFn Try.prog (spileref29_Best.tb) spileref29_Best.A Try.f15 (.many [.leaf .slice, .leaf (.int .i64), .leaf (.int .i64)]) (TT.lo false [.leaf (.row [.int .i64, .int .i64]), .agg [.row [.int .i64, .int .i64], .row [.int .i64], .row [.int .i64], .int .i64, .int .i64, .int .i64]] x) H.empty).bind fun p => rdRes false p.2 (.many [.leaf (.row [.int .i64]), .leaf (.int .i64), .leaf (.int .i64)]) (Res.un (.many [.leaf .slice, .leaf (.int .i64), .leaf (.int .i64)]) p.1)) = spileref29_BestP x.1 x.2 := by
  intro x
  rw [show TT.lo false [.leaf (.row [.int .i64, .int .i64]), .agg [.row [.int .i64, .int .i64], .row [.int .i64], .row [.int .i64], .int .i64, .int .i64, .int .i64]] x = TT.un [.leaf .slice, .agg [.slice, .slice, .slice, .int .i64, .int .i64, .int .i64]] ((rowSV false [.int .i64, .int .i64] x.1), (rowSV false [.int .i64, .int .i64] x.2.1, rowSV false [.int .i64] x.2.2.1, rowSV false [.int .i64] x.2.2.2.1, x.2.2.2.2.1, x.2.2.2.2.2.1, x.2.2.2.2.2.2)) from rfl, spileref29_Best.eq]
  rfl
noncomputable def spileref29_BestP.e : Entry := mkP [.leaf (.row [.int .i64, .int .i64]), .agg [.row [.int .i64, .int .i64], .row [.int .i64], .row [.int .i64], .int .i64, .int .i64, .int .i64]] (.many [.leaf (.row [.int .i64]), .leaf (.int .i64), .leaf (.int .i64)]) fun x => spileref29_BestP x.1 x.2
theorem spileref29_BestP.ok : EntryOK Try.prog 15 (spileref29_BestP.e) := mkP_ok (spileref29_Best.tbok) Try.mixed Try.func15 (by kernel_rfl) spileref29_BestP.eq

/-! ### spile/spileref29.Bound: function 17 -/
noncomputable def spileref29_Bound.tb : Table := tab [(25, spileref29_CheckP.e), (44, spileref29_totalP.e)] [] Table.nil
theorem spileref29_Bound.tbok : TabOK Try.prog (spileref29_Bound.tb) := TabOK.tab (TabOK.nil Try.prog) (all_cons spileref29_CheckP.ok (all_cons spileref29_totalP.ok (all_nil _))) (all_nil _)
noncomputable def spileref29_Bound.loop1 (h : H) (s16 : SV) : (Int × Int) × H → Option (Stp ((Int × Int) × H) (Flow (Int) (Int × Int) × H)) := fun ((y23, y24), h25) =>
(bif (decide (y24 < ((s16.len : Nat) : Int))) then (((let h26 : H := H.reserve h25 0
(guardO (0 ≤ y24 ∧ y24 < ((s16.len : Nat) : Int)) ((rdT (.leaf (.int .i64)) h26 (V.add s16.a (Int.toNat y24 * 1))).bind fun x27 =>
(bif (decide ((0 : Int) < x27)) then (bif !(decide (y23 < 0)) then ((rdT (.leaf .slice) h26 (.hp h.next 6 2)).bind fun x28 =>
(guardO (0 ≤ y24 ∧ y24 < ((x28.len : Nat) : Int)) ((rdT (.leaf (.int .i64)) h26 (V.add x28.a (Int.toNat y24 * 1))).bind fun x29 =>
((rdT (.leaf .slice) h26 (.hp h.next 6 2)).bind fun x30 =>
(guardO (0 ≤ y23 ∧ y23 < ((x30.len : Nat) : Int)) ((rdT (.leaf (.int .i64)) h26 (V.add x30.a (Int.toNat y23 * 1))).bind fun x31 =>
(some ((decide (x29 < x31)), h26)))))))) else (some (true, h26))) else (some (false, h26))))))).bind fun (y32, h33) =>
((bif y32 then (some (.next y24, h33)) else (some (.next y23, h33)) : Option (Flow (Int) (Int × Int) × H)).bind fun (fl35, h34) => match fl35 with
| .next y36 =>
(some (.more ((y36, (IntKind.wrap .i64 (y24 + 1))), h34)))
| .ret rr37 => (some (.done (.ret rr37, h34)))
| .ex0 _ => none
| .ex1 _ => none)) else (some (.done (.ex0 y23, h25))))
noncomputable def spileref29_Bound.loop2 (h : H) (s16 : SV) : (Int × Int) × H → Option (Stp ((Int × Int) × H) (Flow (Int) (Int × Int) × H)) := fun ((y19, y20), h21) =>
((rdT (.leaf (.int .i64)) h21 (.hp h.next 6 5)).bind fun x22 =>
(bif (decide (y20 < x22)) then ((iter FUEL (spileref29_Bound.loop1 h s16) (((-1), 0), h21)).bind fun (fl39, h38) => match fl39 with
| .next _ => none
| .ret rr40 => (some (.done (.ret rr40, h38)))
| .ex0 y41 =>
(guardO (0 ≤ y41 ∧ y41 < ((s16.len : Nat) : Int)) ((rdT (.leaf (.int .i64)) h38 (V.add s16.a (Int.toNat y41 * 1))).bind fun x42 =>
(guardO (0 ≤ y41 ∧ y41 < ((s16.len : Nat) : Int)) ((H.wrs h38 (V.add s16.a (Int.toNat y41 * 1)) [.int .i64 (IntKind.wrap .i64 (x42 - 1))]).bind fun h43 =>
((rdT (.leaf .slice) h43 (.hp h.next 6 2)).bind fun x44 =>
(guardO (0 ≤ y41 ∧ y41 < ((x44.len : Nat) : Int)) ((rdT (.leaf (.int .i64)) h43 (V.add x44.a (Int.toNat y41 * 1))).bind fun x45 =>
(some (.more (((IntKind.wrap .i64 (y19 + x45)), (IntKind.wrap .i64 (y20 + 1))), h43))))))))))
| .ex1 _ => none) else (some (.done (.ex0 y19, h21)))))
noncomputable def spileref29_Bound (a0 : SV) (a1 : (SV × SV × SV × Int × Int × Int)) (h : H) : Option ((Int × Int) × H) :=
(match a1 with
| (a1_0, a1_1, a1_2, a1_3, a1_4, a1_5) =>
(let h1 : H := H.new h [.slice a1_0.a a1_0.len a1_0.cap a1_0.tail, .slice a1_1.a a1_1.len a1_1.cap a1_1.tail, .slice a1_2.a a1_2.len a1_2.cap a1_2.tail, .int .i64 a1_3, .int .i64 a1_4, .int .i64 a1_5] 6
((rdT (.agg [.slice, .slice, .slice, .int .i64, .int .i64, .int .i64]) h1 (.hp h.next 6 0)).bind fun (x2_0, x2_1, x2_2, x2_3, x2_4, x2_5) =>
((rdRow true h1 [.int .i64, .int .i64] a0).bind fun s4 =>
((rdRow true h1 [.int .i64, .int .i64] x2_0).bind fun s5 =>
((rdRow true h1 [.int .i64] x2_1).bind fun s6 =>
((rdRow true h1 [.int .i64] x2_2).bind fun s7 =>
((spileref29_CheckP s4 (s5, s6, s7, x2_3, x2_4, x2_5)).bind fun r3 =>
(bif (!(decide (r3 = 0))) then (some ((0, 1), h1)) else (let h8 : H := H.reserve h1 0
((rdT (.leaf .slice) h8 (.hp h.next 6 1)).bind fun x9 =>
((rdRow true h8 [.int .i64] x9).bind fun s11 =>
((spileref29_totalP s11).bind fun r10 =>
((rdT (.leaf (.int .i64)) h8 (.hp h.next 6 5)).bind fun x12 =>
(bif (decide (r10 < x12)) then (some ((0, 20), h8)) else ((rdT (.leaf .slice) h8 (.hp h.next 6 1)).bind fun x13 =>
((cellsOf h8 (.slice x13.a x13.len x13.cap x13.tail : V) 1).bind fun (n16, cs16) =>
((appendS h8 none 1 8 (⟨.lp true ([]) 0, 0, 0, false⟩) cs16 n16).bind fun (s16, h15) =>
((iter FUEL (spileref29_Bound.loop2 h s16) ((0, 0), h15)).bind fun (fl47, h46) => match fl47 with
| .next _ => none
| .ret rr48 => (some (rr48, h46))
| .ex0 y49 =>
(some ((y49, 0), h46))
| .ex1 _ => none)))))))))))))))))))
def spileref29_Bound.A : Ann := { lits := [], conds := [(58, [9], [.leaf (.int .i64)], none, none)], loops := [(11, [9, 10], [.leaf (.int .i64), .leaf (.int .i64)], [9], [.leaf (.int .i64)], some 2, none), (7, [7, 8], [.leaf (.int .i64), .leaf (.int .i64)], [7], [.leaf (.int .i64)], some 0, none)], regs := [(13, [58], [.leaf .bool])] }
theorem spileref29_Bound.eq : ∀ (x : TT [.leaf .slice, .agg [.slice, .slice, .slice, .int .i64, .int .i64, .int .i64]]) (h : H), evalFn Try.prog (spileref29_Bound.tb) spileref29_Bound.A Try.f17 (.many [.leaf (.int .i64), .leaf (.int .i64)]) (TT.un [.leaf .slice, .agg [.slice, .slice, .slice, .int .i64, .int .i64, .int .i64]] x) h = spileref29_Bound x.1 x.2 h := by
  intro x h
  kernel_rfl
noncomputable def spileref29_Bound.e : Entry := mkX [.leaf .slice, .agg [.slice, .slice, .slice, .int .i64, .int .i64, .int .i64]] (.many [.leaf (.int .i64), .leaf (.int .i64)]) fun x h => spileref29_Bound x.1 x.2 h
theorem spileref29_Bound.ok : EntryOK Try.prog 17 (spileref29_Bound.e) := mkX_ok (spileref29_Bound.tbok) Try.mixed Try.func17 (by kernel_rfl) (spileref29_Bound.eq)
noncomputable def spileref29_BoundP (a0 : (List (Int × Int))) (a1 : ((List (Int × Int)) × (List (Int)) × (List (Int)) × Int × Int × Int)) : Option (Int × Int) := (spileref29_Bound (rowSV false [.int .i64, .int .i64] a0) (rowSV false [.int .i64, .int .i64] a1.1, rowSV false [.int .i64] a1.2.1, rowSV false [.int .i64] a1.2.2.1, a1.2.2.2.1, a1.2.2.2.2.1, a1.2.2.2.2.2) H.empty).bind fun p => rdRes false p.2 (.many [.leaf (.int .i64), .leaf (.int .i64)]) (Res.un (.many [.leaf (.int .i64), .leaf (.int .i64)]) p.1)
theorem spileref29_BoundP.eq : ∀ x : TT [.leaf (.row [.int .i64, .int .i64]), .agg [.row [.int .i64, .int .i64], .row [.int .i64], .row [.int .i64], .int .i64, .int .i64, .int .i64]], ((evalFn Try.prog (spileref29_Bound.tb) spileref29_Bound.A Try.f17 (.many [.leaf (.int .i64), .leaf (.int .i64)]) (TT.lo false [.leaf (.row [.int .i64, .int .i64]), .agg [.row [.int .i64, .int .i64], .row [.int .i64], .row [.int .i64], .int .i64, .int .i64, .int .i64]] x) H.empty).bind fun p => rdRes false p.2 (.many [.leaf (.int .i64), .leaf (.int .i64)]) (Res.un (.many [.leaf (.int .i64), .leaf (.int .i64)]) p.1)) = spileref29_BoundP x.1 x.2 := by
  intro x
  rw [show TT.lo false [.leaf (.row [.int .i64, .int .i64]), .agg [.row [.int .i64, .int .i64], .row [.int .i64], .row [.int .i64], .int .i64, .int .i64, .int .i64]] x = TT.un [.leaf .slice, .agg [.slice, .slice, .slice, .int .i64, .int .i64, .int .i64]] ((rowSV false [.int .i64, .int .i64] x.1), (rowSV false [.int .i64, .int .i64] x.2.1, rowSV false [.int .i64] x.2.2.1, rowSV false [.int .i64] x.2.2.2.1, x.2.2.2.2.1, x.2.2.2.2.2.1, x.2.2.2.2.2.2)) from rfl, spileref29_Bound.eq]
  rfl
noncomputable def spileref29_BoundP.e : Entry := mkP [.leaf (.row [.int .i64, .int .i64]), .agg [.row [.int .i64, .int .i64], .row [.int .i64], .row [.int .i64], .int .i64, .int .i64, .int .i64]] (.many [.leaf (.int .i64), .leaf (.int .i64)]) fun x => spileref29_BoundP x.1 x.2
theorem spileref29_BoundP.ok : EntryOK Try.prog 17 (spileref29_BoundP.e) := mkP_ok (spileref29_Bound.tbok) Try.mixed Try.func17 (by kernel_rfl) spileref29_BoundP.eq

/-! ### spile/blend.Most$1: function 45 -/
noncomputable def blend_Most_1.tb : Table := tab [(41, blend_sumP.e)] [] Table.nil
theorem blend_Most_1.tbok : TabOK Try.prog (blend_Most_1.tb) := TabOK.tab (TabOK.nil Try.prog) (all_cons blend_sumP.ok (all_nil _)) (all_nil _)
noncomputable def blend_Most_1 (a0 : SV) (h : H) : Option ((Int) × H) :=
((rdRow true h [.int .i64] a0).bind fun s2 =>
((blend_sumP s2).bind fun r1 =>
(some ((IntKind.wrap .i64 (0 - r1)), h))))
def blend_Most_1.A : Ann := { lits := [], conds := [], loops := [], regs := [] }
theorem blend_Most_1.eq : ∀ (x : TT [.leaf .slice]) (h : H), evalFn Try.prog (blend_Most_1.tb) blend_Most_1.A Try.f45 (.one (.leaf (.int .i64))) (TT.un [.leaf .slice] x) h = blend_Most_1 x h := by
  intro x h
  kernel_rfl
noncomputable def blend_Most_1.r (a0 : SV) (h : H) : Option (Int) := (blend_Most_1 a0 h).bind fun p => some p.1
theorem blend_Most_1.eqr : ∀ (x : TT [.leaf .slice]) (h : H), evalFn Try.prog (blend_Most_1.tb) blend_Most_1.A Try.f45 (.one (.leaf (.int .i64))) (TT.un [.leaf .slice] x) h = (blend_Most_1.r x h).bind fun p => some (p, h) := by
  intro x h
  rw [blend_Most_1.eq]
  simp only [blend_Most_1, blend_Most_1.r, Option.bind_assoc, Option.bind_some, guardO_bind]
noncomputable def blend_Most_1.e : Entry := mkR [.leaf .slice] (.one (.leaf (.int .i64))) fun x h => blend_Most_1.r x h
theorem blend_Most_1.ok : EntryOK Try.prog 45 (blend_Most_1.e) := mkR_ok (blend_Most_1.tbok) Try.mixed Try.func45 (by kernel_rfl) (blend_Most_1.eqr)

/-! ### spile/blend.Most: function 18 -/
noncomputable def blend_Most.tb : Table := tab [] [(45, blend_Most_1.e)] Table.nil
theorem blend_Most.tbok : TabOK Try.prog (blend_Most.tb) := TabOK.tab (TabOK.nil Try.prog) (all_nil _) (all_cons blend_Most_1.ok (all_nil _))
noncomputable def blend_Most (a0 : SV) (a1 : (SV × SV × SV × Int × Int × Int)) (h : H) : Option ((SV × Int × Int) × H) :=
(match a1 with
| (a1_0, a1_1, a1_2, a1_3, a1_4, a1_5) =>
(let h1 : H := H.new h [.slice a1_0.a a1_0.len a1_0.cap a1_0.tail, .slice a1_1.a a1_1.len a1_1.cap a1_1.tail, .slice a1_2.a a1_2.len a1_2.cap a1_2.tail, .int .i64 a1_3, .int .i64 a1_4, .int .i64 a1_5] 6
((rdT (.agg [.slice, .slice, .slice, .int .i64, .int .i64, .int .i64]) h1 (.hp h.next 6 0)).bind fun (x2_0, x2_1, x2_2, x2_3, x2_4, x2_5) =>
((blend_first blend_Most.tb a0 (x2_0, x2_1, x2_2, x2_3, x2_4, x2_5) (.func 45 [] : V) h1).bind fun ((r3, r4, r5), h6) =>
(some ((r3, (IntKind.wrap .i64 (0 - r4)), r5), h6))))))
def blend_Most.A : Ann := { lits := [], conds := [], loops := [], regs := [] }
noncomputable def blend_Most.tc : Table := tab [(33, blend_first.e (blend_Most.tb))] [] (blend_Most.tb)
theorem blend_Most.tcok : TabOK Try.prog (blend_Most.tc) := TabOK.tab (blend_Most.tbok) (all_cons (blend_first.ok _ (blend_Most.tbok)) (all_nil _)) (all_nil _)
theorem blend_Most.eq : ∀ (x : TT [.leaf .slice, .agg [.slice, .slice, .slice, .int .i64, .int .i64, .int .i64]]) (h : H), evalFn Try.prog (blend_Most.tc) blend_Most.A Try.f18 (.many [.leaf .slice, .leaf (.int .i64), .leaf (.int .i64)]) (TT.un [.leaf .slice, .agg [.slice, .slice, .slice, .int .i64, .int .i64, .int .i64]] x) h = blend_Most x.1 x.2 h := by
  intro x h
  kernel_rfl
noncomputable def blend_Most.e : Entry := mkX [.leaf .slice, .agg [.slice, .slice, .slice, .int .i64, .int .i64, .int .i64]] (.many [.leaf .slice, .leaf (.int .i64), .leaf (.int .i64)]) fun x h => blend_Most x.1 x.2 h
theorem blend_Most.ok : EntryOK Try.prog 18 (blend_Most.e) := mkX_ok (blend_Most.tcok) Try.mixed Try.func18 (by kernel_rfl) (blend_Most.eq)
noncomputable def blend_MostP (a0 : (List (Int × Int))) (a1 : ((List (Int × Int)) × (List (Int)) × (List (Int)) × Int × Int × Int)) : Option ((List (Int)) × Int × Int) := (blend_Most (rowSV false [.int .i64, .int .i64] a0) (rowSV false [.int .i64, .int .i64] a1.1, rowSV false [.int .i64] a1.2.1, rowSV false [.int .i64] a1.2.2.1, a1.2.2.2.1, a1.2.2.2.2.1, a1.2.2.2.2.2) H.empty).bind fun p => rdRes false p.2 (.many [.leaf (.row [.int .i64]), .leaf (.int .i64), .leaf (.int .i64)]) (Res.un (.many [.leaf .slice, .leaf (.int .i64), .leaf (.int .i64)]) p.1)
theorem blend_MostP.eq : ∀ x : TT [.leaf (.row [.int .i64, .int .i64]), .agg [.row [.int .i64, .int .i64], .row [.int .i64], .row [.int .i64], .int .i64, .int .i64, .int .i64]], ((evalFn Try.prog (blend_Most.tc) blend_Most.A Try.f18 (.many [.leaf .slice, .leaf (.int .i64), .leaf (.int .i64)]) (TT.lo false [.leaf (.row [.int .i64, .int .i64]), .agg [.row [.int .i64, .int .i64], .row [.int .i64], .row [.int .i64], .int .i64, .int .i64, .int .i64]] x) H.empty).bind fun p => rdRes false p.2 (.many [.leaf (.row [.int .i64]), .leaf (.int .i64), .leaf (.int .i64)]) (Res.un (.many [.leaf .slice, .leaf (.int .i64), .leaf (.int .i64)]) p.1)) = blend_MostP x.1 x.2 := by
  intro x
  rw [show TT.lo false [.leaf (.row [.int .i64, .int .i64]), .agg [.row [.int .i64, .int .i64], .row [.int .i64], .row [.int .i64], .int .i64, .int .i64, .int .i64]] x = TT.un [.leaf .slice, .agg [.slice, .slice, .slice, .int .i64, .int .i64, .int .i64]] ((rowSV false [.int .i64, .int .i64] x.1), (rowSV false [.int .i64, .int .i64] x.2.1, rowSV false [.int .i64] x.2.2.1, rowSV false [.int .i64] x.2.2.2.1, x.2.2.2.2.1, x.2.2.2.2.2.1, x.2.2.2.2.2.2)) from rfl, blend_Most.eq]
  rfl
noncomputable def blend_MostP.e : Entry := mkP [.leaf (.row [.int .i64, .int .i64]), .agg [.row [.int .i64, .int .i64], .row [.int .i64], .row [.int .i64], .int .i64, .int .i64, .int .i64]] (.many [.leaf (.row [.int .i64]), .leaf (.int .i64), .leaf (.int .i64)]) fun x => blend_MostP x.1 x.2
theorem blend_MostP.ok : EntryOK Try.prog 18 (blend_MostP.e) := mkP_ok (blend_Most.tcok) Try.mixed Try.func18 (by kernel_rfl) blend_MostP.eq
end Go.Proofs.Ytfkabibbaajfhaa
