/- What the functions of this seat compute, and the evaluator: some texts in one. Conditions: those of each law. -/
import Derived.Test.YtjkjcnadgpndoaaGreatProg
import Derived.Test.YtjkjcnadgpndoaaGreatEvSpec
import Derived.Test.YtjkjcnadgpndoaaGreatEvSort
import Derived.Shelf.SlSortCmp.WholeK
import Derived.Shelf.SlSortCmp.NoneTotal
import Derived.Test.YtjkjcnadgpndoaaGreatMgA0
/- The functions of the program as Lean functions, each with the equation by which the evaluator is that function. Written by a program of this session (evdrive.py). Conditions: none. -/
namespace Go.Proofs.YtjkjcnadgpndoaaGreat
open Go Go.Proofs.YtjkjcnadgpndoaaGreat.Ev
set_option maxRecDepth 100000
set_option linter.unusedVariables false
/-! ### spile/spileref53.printable: function 105 -/
noncomputable def spileref53_printable.tb : Table := tab [] [] Table.nil
theorem spileref53_printable.tbok : TabOK Tryz.prog (spileref53_printable.tb) := TabOK.tab (TabOK.nil Tryz.prog) (all_nil _) (all_nil _)
noncomputable def spileref53_printable.loop1 (a0 : ByteArray) : (Int) × H → Option (Stp ((Int) × H) (Flow (Unit) (Bool) × H)) := fun (y1, h2) =>
(bif (decide (y1 < ((ByteArray.size a0 : Nat) : Int))) then (((guardO (0 ≤ y1 ∧ y1 < ((ByteArray.size a0 : Nat) : Int)) (bif !(decide ((((((ByteArray.data a0)[Int.toNat y1]?).map UInt8.toNat).getD 0 : Nat) : Int) < 32)) then (guardO (0 ≤ y1 ∧ y1 < ((ByteArray.size a0 : Nat) : Int)) (some ((decide ((126 : Int) < (((((ByteArray.data a0)[Int.toNat y1]?).map UInt8.toNat).getD 0 : Nat) : Int))), h2))) else (some (true, h2))))).bind fun (y3, h4) =>
(bif y3 then (some (.done (.ret false, h4))) else (some (.more ((IntKind.wrap .i64 (y1 + 1)), h4))))) else (some (.done (.ex0 (), h2))))
noncomputable def spileref53_printable (a0 : ByteArray) (h : H) : Option ((Bool) × H) :=
((iter FUEL (spileref53_printable.loop1 a0) (0, h)).bind fun (fl6, h5) => match fl6 with
| .next _ => none
| .ret rr7 => (some (rr7, h5))
| .ex0 _ =>
(some (true, h5))
| .ex1 _ => none)
def spileref53_printable.A : Ann := { lits := [], conds := [], loops := [(2, [3], [.leaf (.int .i64)], [], [], some 0, none)], regs := [(4, [19], [.leaf .bool])] }
theorem spileref53_printable.eq : ∀ (x : TT [.leaf .str]) (h : H), evalFn Tryz.prog (spileref53_printable.tb) spileref53_printable.A Tryz.f105 (.one (.leaf .bool)) (TT.un [.leaf .str] x) h = spileref53_printable x h := by
  intro x h
  kernel_rfl
noncomputable def spileref53_printableP (a0 : ByteArray) : Option (Bool) := (spileref53_printable a0 H.empty).bind fun p => rdRes false p.2 (.one (.leaf .bool)) (Res.un (.one (.leaf .bool)) p.1)
theorem spileref53_printableP.eq : ∀ x : TT [.leaf .str], ((evalFn Tryz.prog (spileref53_printable.tb) spileref53_printable.A Tryz.f105 (.one (.leaf .bool)) (TT.lo false [.leaf .str] x) H.empty).bind fun p => rdRes false p.2 (.one (.leaf .bool)) (Res.un (.one (.leaf .bool)) p.1)) = spileref53_printableP x := by
  intro x
  rw [show TT.lo false [.leaf .str] x = TT.un [.leaf .str] (x) from rfl, spileref53_printable.eq]
  rfl
noncomputable def spileref53_printableP.e : Entry := mkP [.leaf .str] (.one (.leaf .bool)) fun x => spileref53_printableP x
theorem spileref53_printableP.ok : EntryOK Tryz.prog 105 (spileref53_printableP.e) := mkP_ok (spileref53_printable.tbok) Tryz.mixed Tryz.func105 (by kernel_rfl) spileref53_printableP.eq
/-! ### spile/spileref53.Check: function 71 -/
noncomputable def spileref53_Check.tb : Table := tab [(104, spileref53_betweenP.e), (105, spileref53_printableP.e)] [] Table.nil
theorem spileref53_Check.tbok : TabOK Tryz.prog (spileref53_Check.tb) := TabOK.tab (TabOK.nil Tryz.prog) (all_cons spileref53_betweenP.ok (all_cons spileref53_printableP.ok (all_nil _))) (all_nil _)
noncomputable def spileref53_Check.loop1 (h : H) : (Int) × H → Option (Stp ((Int) × H) (Flow (Unit) (Int) × H)) := fun (y16, h17) =>
((rdT (.leaf .slice) h17 (.hp h.next 6 4)).bind fun x18 =>
(bif (decide (y16 < ((x18.len : Nat) : Int))) then ((rdT (.leaf .slice) h17 (.hp h.next 6 4)).bind fun x19 =>
(guardO (0 ≤ y16 ∧ y16 < ((x19.len : Nat) : Int)) ((rdT (.leaf (.int .i64)) h17 (V.add x19.a (Int.toNat y16 * 1))).bind fun x20 =>
((spileref53_betweenP x20 (-1125899906842624) 1125899906842624).bind fun r21 =>
(bif (!r21) then (some (.done (.ret 2, h17))) else (some (.more ((IntKind.wrap .i64 (y16 + 1)), h17)))))))) else (some (.done (.ex0 (), h17)))))
noncomputable def spileref53_Check.loop2 (h : H) : (Int) × H → Option (Stp ((Int) × H) (Flow (Unit) (Int) × H)) := fun (y25, h26) =>
((rdT (.leaf .slice) h26 (.hp h.next 6 5)).bind fun x27 =>
(bif (decide (y25 < ((x27.len : Nat) : Int))) then ((((rdT (.leaf .slice) h26 (.hp h.next 6 5)).bind fun x28 =>
(guardO (0 ≤ y25 ∧ y25 < ((x28.len : Nat) : Int)) ((rdT (.leaf .str) h26 (V.add x28.a (Int.toNat y25 * 1))).bind fun x29 =>
(bif !(decide ((64 : Int) < ((ByteArray.size x29 : Nat) : Int))) then ((rdT (.leaf .slice) h26 (.hp h.next 6 5)).bind fun x30 =>
(guardO (0 ≤ y25 ∧ y25 < ((x30.len : Nat) : Int)) ((rdT (.leaf .str) h26 (V.add x30.a (Int.toNat y25 * 1))).bind fun x31 =>
((spileref53_printableP x31).bind fun r32 =>
(some ((!r32), h26)))))) else (some (true, h26))))))).bind fun (y33, h34) =>
(bif y33 then (some (.done (.ret 4, h34))) else (some (.more ((IntKind.wrap .i64 (y25 + 1)), h34))))) else (some (.done (.ex0 (), h26)))))
noncomputable def spileref53_Check (a0 : Fsv) (h : H) : Option ((Int) × H) :=
(match a0 with
| (a0_0, a0_1, a0_2, a0_3, a0_4, a0_5) =>
(let h1 : H := H.new h [.int .i64 a0_0, .int .i64 a0_1, .int .i64 a0_2, .int .i64 a0_3, .slice a0_4.a a0_4.len a0_4.cap a0_4.tail, .slice a0_5.a a0_5.len a0_5.cap a0_5.tail] 6
((((rdT (.leaf .slice) h1 (.hp h.next 6 4)).bind fun x2 =>
(bif !(decide ((16 : Int) < ((x2.len : Nat) : Int))) then ((rdT (.leaf .slice) h1 (.hp h.next 6 5)).bind fun x3 =>
(some ((decide ((8 : Int) < ((x3.len : Nat) : Int))), h1))) else (some (true, h1))))).bind fun (y4, h5) =>
(bif y4 then (some (8, h5)) else ((((rdT (.leaf (.int .i64)) h5 (.hp h.next 6 0)).bind fun x6 =>
((spileref53_betweenP x6 0 100000).bind fun r7 =>
(bif !(!r7) then ((rdT (.leaf (.int .i64)) h5 (.hp h.next 6 1)).bind fun x8 =>
((spileref53_betweenP x8 1 1048576).bind fun r9 =>
(bif !(!r9) then ((rdT (.leaf (.int .i64)) h5 (.hp h.next 6 2)).bind fun x10 =>
((spileref53_betweenP x10 1 1073741824).bind fun r11 =>
(bif !(!r11) then ((rdT (.leaf (.int .i64)) h5 (.hp h.next 6 3)).bind fun x12 =>
((spileref53_betweenP x12 1 99).bind fun r13 =>
(some ((!r13), h5)))) else (some (true, h5))))) else (some (true, h5))))) else (some (true, h5)))))).bind fun (y14, h15) =>
(bif y14 then (some (2, h15)) else ((iter FUEL (spileref53_Check.loop1 h) (0, h15)).bind fun (fl23, h22) => match fl23 with
| .next _ => none
| .ret rr24 => (some (rr24, h22))
| .ex0 _ =>
((iter FUEL (spileref53_Check.loop2 h) (0, h22)).bind fun (fl36, h35) => match fl36 with
| .next _ => none
| .ret rr37 => (some (rr37, h35))
| .ex0 _ =>
(some (0, h35))
| .ex1 _ => none)
| .ex1 _ => none)))))))
def spileref53_Check.A : Ann := { lits := [], conds := [], loops := [(6, [3], [.leaf (.int .i64)], [], [], some 0, none), (11, [4], [.leaf (.int .i64)], [], [], some 2, none)], regs := [(1, [14], [.leaf .bool]), (3, [39], [.leaf .bool]), (13, [76], [.leaf .bool])] }
theorem spileref53_Check.eq : ∀ (x : TT [.agg FS]) (h : H), evalFn Tryz.prog (spileref53_Check.tb) spileref53_Check.A Tryz.f71 (.one (.leaf (.int .i64))) (TT.un [.agg FS] x) h = spileref53_Check x h := by
  intro x h
  kernel_rfl
noncomputable def spileref53_CheckP (a0 : Fct) : Option (Int) := (spileref53_Check (a0.1, a0.2.1, a0.2.2.1, a0.2.2.2.1, rowSV false [.int .i64] a0.2.2.2.2.1, rowSV false [.str] a0.2.2.2.2.2) H.empty).bind fun p => rdRes false p.2 (.one (.leaf (.int .i64))) (Res.un (.one (.leaf (.int .i64))) p.1)
theorem spileref53_CheckP.eq : ∀ x : TT [.agg FC], ((evalFn Tryz.prog (spileref53_Check.tb) spileref53_Check.A Tryz.f71 (.one (.leaf (.int .i64))) (TT.lo false [.agg FC] x) H.empty).bind fun p => rdRes false p.2 (.one (.leaf (.int .i64))) (Res.un (.one (.leaf (.int .i64))) p.1)) = spileref53_CheckP x := by
  intro x
  rw [show TT.lo false [.agg FC] x = TT.un [.agg FS] ((x.1, x.2.1, x.2.2.1, x.2.2.2.1, rowSV false [.int .i64] x.2.2.2.2.1, rowSV false [.str] x.2.2.2.2.2)) from rfl, spileref53_Check.eq]
  rfl
noncomputable def spileref53_CheckP.e : Entry := mkP [.agg FC] (.one (.leaf (.int .i64))) fun x => spileref53_CheckP x
theorem spileref53_CheckP.ok : EntryOK Tryz.prog 71 (spileref53_CheckP.e) := mkP_ok (spileref53_Check.tbok) Tryz.mixed Tryz.func71 (by kernel_rfl) spileref53_CheckP.eq
/-! ### spile/spileref54.Check: function 60 -/
noncomputable def spileref54_Check.tb : Table := tab [(71, spileref53_CheckP.e)] [] Table.nil
theorem spileref54_Check.tbok : TabOK Tryz.prog (spileref54_Check.tb) := TabOK.tab (TabOK.nil Tryz.prog) (all_cons spileref53_CheckP.ok (all_nil _)) (all_nil _)
noncomputable def spileref54_Check.loop1 (a0 : SV) : (Int) × H → Option (Stp ((Int) × H) (Flow (Unit) (Int) × H)) := fun (y1, h2) =>
(bif (decide (y1 < ((a0.len : Nat) : Int))) then (guardO (0 ≤ y1 ∧ y1 < ((a0.len : Nat) : Int)) ((rdT (.agg FS) h2 (V.add a0.a (Int.toNat y1 * 6))).bind fun (x3_0, x3_1, x3_2, x3_3, x3_4, x3_5) =>
((rdRow true h2 [.int .i64] x3_4).bind fun s5 =>
((rdRow true h2 [.str] x3_5).bind fun s6 =>
((spileref53_CheckP (x3_0, x3_1, x3_2, x3_3, s5, s6)).bind fun r4 =>
(bif (!(decide (r4 = 0))) then (some (.done (.ret 1, h2))) else (some (.more ((IntKind.wrap .i64 (y1 + 1)), h2))))))))) else (some (.done (.ex0 (), h2))))
noncomputable def spileref54_Check (a0 : SV) (h : H) : Option ((Int) × H) :=
(bif (decide ((1024 : Int) < ((a0.len : Nat) : Int))) then (some (8, h)) else ((iter FUEL (spileref54_Check.loop1 a0) (0, h)).bind fun (fl8, h7) => match fl8 with
| .next _ => none
| .ret rr9 => (some (rr9, h7))
| .ex0 _ =>
(some (0, h7))
| .ex1 _ => none))
def spileref54_Check.A : Ann := { lits := [], conds := [], loops := [(4, [3], [.leaf (.int .i64)], [], [], some 0, none)], regs := [] }
theorem spileref54_Check.eq : ∀ (x : TT [.leaf .slice]) (h : H), evalFn Tryz.prog (spileref54_Check.tb) spileref54_Check.A Tryz.f60 (.one (.leaf (.int .i64))) (TT.un [.leaf .slice] x) h = spileref54_Check x h := by
  intro x h
  kernel_rfl
noncomputable def spileref54_CheckP (a0 : (List Fct)) : Option (Int) := (spileref54_Check (rowSV false FC a0) H.empty).bind fun p => rdRes false p.2 (.one (.leaf (.int .i64))) (Res.un (.one (.leaf (.int .i64))) p.1)
theorem spileref54_CheckP.eq : ∀ x : TT [.leaf (.row FC)], ((evalFn Tryz.prog (spileref54_Check.tb) spileref54_Check.A Tryz.f60 (.one (.leaf (.int .i64))) (TT.lo false [.leaf (.row FC)] x) H.empty).bind fun p => rdRes false p.2 (.one (.leaf (.int .i64))) (Res.un (.one (.leaf (.int .i64))) p.1)) = spileref54_CheckP x := by
  intro x
  rw [show TT.lo false [.leaf (.row FC)] x = TT.un [.leaf .slice] ((rowSV false FC x)) from rfl, spileref54_Check.eq]
  rfl
noncomputable def spileref54_CheckP.e : Entry := mkP [.leaf (.row FC)] (.one (.leaf (.int .i64))) fun x => spileref54_CheckP x
theorem spileref54_CheckP.ok : EntryOK Tryz.prog 60 (spileref54_CheckP.e) := mkP_ok (spileref54_Check.tbok) Tryz.mixed Tryz.func60 (by kernel_rfl) spileref54_CheckP.eq
/-! ### spile/spileref53.Sort: function 106 -/
noncomputable def spileref53_Sort.tb : Table := tab [(21, spileref53_CopyP.e), (30, spileref53_CompareP.e)] [] Table.nil
theorem spileref53_Sort.tbok : TabOK Tryz.prog (spileref53_Sort.tb) := TabOK.tab (TabOK.nil Tryz.prog) (all_cons spileref53_CopyP.ok (all_cons spileref53_CompareP.ok (all_nil _))) (all_nil _)
noncomputable def spileref53_Sort.loop1 (a0 : SV) (y1 : SV) (y2 : Int) : (Int) × H → Option (Stp ((Int) × H) (Flow (Int) (SV) × H)) := fun (y4, h5) =>
(((let h6 : H := H.reserve h5 0
(bif (decide ((0 : Int) < y4)) then (guardO (0 ≤ (IntKind.wrap .i64 (y4 - 1)) ∧ (IntKind.wrap .i64 (y4 - 1)) < ((y1.len : Nat) : Int)) ((rdT (.agg FS) h6 (V.add y1.a (Int.toNat (IntKind.wrap .i64 (y4 - 1)) * 6))).bind fun (x7_0, x7_1, x7_2, x7_3, x7_4, x7_5) =>
(guardO (0 ≤ y2 ∧ y2 < ((a0.len : Nat) : Int)) ((rdT (.agg FS) h6 (V.add a0.a (Int.toNat y2 * 6))).bind fun (x8_0, x8_1, x8_2, x8_3, x8_4, x8_5) =>
((rdRow true h6 [.int .i64] x7_4).bind fun s10 =>
((rdRow true h6 [.str] x7_5).bind fun s11 =>
((rdRow true h6 [.int .i64] x8_4).bind fun s12 =>
((rdRow true h6 [.str] x8_5).bind fun s13 =>
((spileref53_CompareP (x7_0, x7_1, x7_2, x7_3, s10, s11) (x8_0, x8_1, x8_2, x8_3, s12, s13)).bind fun r9 =>
(some ((decide ((0 : Int) < r9)), h6))))))))))) else (some (false, h6))))).bind fun (y14, h15) =>
(bif y14 then (some (.more ((IntKind.wrap .i64 (y4 - 1)), h15))) else (some (.done (.ex0 y4, h15)))))
noncomputable def spileref53_Sort.loop2 (a0 : SV) : (SV × Int) × H → Option (Stp ((SV × Int) × H) (Flow (SV) (SV) × H)) := fun ((y1, y2), h3) =>
(bif (decide (y2 < ((a0.len : Nat) : Int))) then ((iter FUEL (spileref53_Sort.loop1 a0 y1 y2) (((y1.len : Nat) : Int), h3)).bind fun (fl17, h16) => match fl17 with
| .next _ => none
| .ret rr18 => (some (.done (.ret rr18, h16)))
| .ex0 y19 =>
(let h20 : H := H.reserve h16 0
(guardO (0 ≤ y2 ∧ y2 < ((a0.len : Nat) : Int)) ((rdT (.agg FS) h20 (V.add a0.a (Int.toNat y2 * 6))).bind fun (x21_0, x21_1, x21_2, x21_3, x21_4, x21_5) =>
((rdRow true h20 [.int .i64] x21_4).bind fun s23 =>
((rdRow true h20 [.str] x21_5).bind fun s24 =>
((spileref53_CopyP (x21_0, x21_1, x21_2, x21_3, s23, s24)).bind fun (r22_0, r22_1, r22_2, r22_3, r22_4, r22_5) =>
(guardO ((0 : Int) ≤ y19 ∧ y19 ≤ ((y1.len : Nat) : Int) ∧ ((y1.len : Nat) : Int) ≤ ((y1.cap : Nat) : Int)) ((cellsOf h20 (.slice (V.add y1.a ((Int.toNat y19) * 6)) ((Int.toNat ((y1.len : Nat) : Int)) - (Int.toNat y19)) (y1.cap - (Int.toNat y19)) y1.tail : V) 6).bind fun (n27, cs27) =>
((appendS h20 none 6 80 (⟨.lp true ([.int .i64 r22_0, .int .i64 r22_1, .int .i64 r22_2, .int .i64 r22_3, .slice ((rowSV true [.int .i64] r22_4).a) r22_4.length r22_4.length true, .slice ((rowSV true [.str] r22_5).a) r22_5.length r22_5.length true]) 0, 1, 1, false⟩) cs27 n27).bind fun (s27, h26) =>
(guardO ((0 : Int) ≤ 0 ∧ (0 : Int) ≤ y19 ∧ y19 ≤ y19 ∧ y19 ≤ ((y1.cap : Nat) : Int)) ((cellsOf h26 (.slice s27.a s27.len s27.cap s27.tail : V) 6).bind fun (n32, cs32) =>
((appendS h26 none 6 80 (⟨(V.add y1.a 0), ((Int.toNat y19) - Int.toNat 0), ((Int.toNat y19) - Int.toNat 0), false⟩) cs32 n32).bind fun (s32, h31) =>
(some (.more ((s32, (IntKind.wrap .i64 (y2 + 1))), h31)))))))))))))))
| .ex1 _ => none) else (some (.done (.ex0 y1, h3))))
noncomputable def spileref53_Sort (a0 : SV) (h : H) : Option ((SV) × H) :=
((iter FUEL (spileref53_Sort.loop2 a0) ((⟨.nil, 0, 0, false⟩, 0), h)).bind fun (fl36, h35) => match fl36 with
| .next _ => none
| .ret rr37 => (some (rr37, h35))
| .ex0 y38 =>
(some (y38, h35))
| .ex1 _ => none)
def spileref53_Sort.A : Ann := { lits := [], conds := [], loops := [(6, [5], [.leaf (.int .i64)], [5], [.leaf (.int .i64)], some 2, none), (3, [3, 4], [.leaf .slice, .leaf (.int .i64)], [3], [.leaf .slice], some 0, none)], regs := [(6, [29], [.leaf .bool])] }
theorem spileref53_Sort.eq : ∀ (x : TT [.leaf .slice]) (h : H), evalFn Tryz.prog (spileref53_Sort.tb) spileref53_Sort.A Tryz.f106 (.one (.leaf .slice)) (TT.un [.leaf .slice] x) h = spileref53_Sort x h := by
  intro x h
  kernel_rfl
noncomputable def spileref53_SortP (a0 : (List Fct)) : Option ((List Fct)) := (spileref53_Sort (rowSV false FC a0) H.empty).bind fun p => rdRes false p.2 (.one (.leaf (.row FC))) (Res.un (.one (.leaf .slice)) p.1)
theorem spileref53_SortP.eq : ∀ x : TT [.leaf (.row FC)], ((evalFn Tryz.prog (spileref53_Sort.tb) spileref53_Sort.A Tryz.f106 (.one (.leaf .slice)) (TT.lo false [.leaf (.row FC)] x) H.empty).bind fun p => rdRes false p.2 (.one (.leaf (.row FC))) (Res.un (.one (.leaf .slice)) p.1)) = spileref53_SortP x := by
  intro x
  rw [show TT.lo false [.leaf (.row FC)] x = TT.un [.leaf .slice] ((rowSV false FC x)) from rfl, spileref53_Sort.eq]
  rfl
noncomputable def spileref53_SortP.e : Entry := mkP [.leaf (.row FC)] (.one (.leaf (.row FC))) fun x => spileref53_SortP x
theorem spileref53_SortP.ok : EntryOK Tryz.prog 106 (spileref53_SortP.e) := mkP_ok (spileref53_Sort.tbok) Tryz.mixed Tryz.func106 (by kernel_rfl) spileref53_SortP.eq
/-! ### spile/spileref54.Once: function 72 -/
noncomputable def spileref54_Once.tb : Table := tab [(30, spileref53_CompareP.e), (106, spileref53_SortP.e)] [] Table.nil
theorem spileref54_Once.tbok : TabOK Tryz.prog (spileref54_Once.tb) := TabOK.tab (TabOK.nil Tryz.prog) (all_cons spileref53_CompareP.ok (all_cons spileref53_SortP.ok (all_nil _))) (all_nil _)
noncomputable def spileref54_Once.loop1 (r1 : List Fct) : (SV × Int) × H → Option (Stp ((SV × Int) × H) (Flow (SV) (SV) × H)) := fun ((y3, y4), h5) =>
(bif (decide (y4 < ((r1.length : Nat) : Int))) then (((let h6 : H := H.reserve h5 0
(bif !(decide (y4 = 0)) then (guardO (0 ≤ (IntKind.wrap .i64 (y4 - 1)) ∧ (IntKind.wrap .i64 (y4 - 1)) < ((r1.length : Nat) : Int)) ((rdT (.agg FS) h6 (V.add ((rowSV true FC r1).a) (Int.toNat (IntKind.wrap .i64 (y4 - 1)) * 6))).bind fun (x7_0, x7_1, x7_2, x7_3, x7_4, x7_5) =>
(guardO (0 ≤ y4 ∧ y4 < ((r1.length : Nat) : Int)) ((rdT (.agg FS) h6 (V.add ((rowSV true FC r1).a) (Int.toNat y4 * 6))).bind fun (x8_0, x8_1, x8_2, x8_3, x8_4, x8_5) =>
((rdRow true h6 [.int .i64] x7_4).bind fun s10 =>
((rdRow true h6 [.str] x7_5).bind fun s11 =>
((rdRow true h6 [.int .i64] x8_4).bind fun s12 =>
((rdRow true h6 [.str] x8_5).bind fun s13 =>
((spileref53_CompareP (x7_0, x7_1, x7_2, x7_3, s10, s11) (x8_0, x8_1, x8_2, x8_3, s12, s13)).bind fun r9 =>
(some ((!(decide (r9 = 0))), h6))))))))))) else (some (true, h6))))).bind fun (y14, h15) =>
((bif y14 then (guardO (0 ≤ y4 ∧ y4 < ((r1.length : Nat) : Int)) ((rdT (.agg FS) h15 (V.add ((rowSV true FC r1).a) (Int.toNat y4 * 6))).bind fun (x16_0, x16_1, x16_2, x16_3, x16_4, x16_5) =>
((appendS h15 none 6 80 y3 [.int .i64 x16_0, .int .i64 x16_1, .int .i64 x16_2, .int .i64 x16_3, .slice x16_4.a x16_4.len x16_4.cap x16_4.tail, .slice x16_5.a x16_5.len x16_5.cap x16_5.tail] 1).bind fun (s19, h18) =>
(some (.next s19, h18))))) else (some (.next y3, h15)) : Option (Flow (SV) (SV) × H)).bind fun (fl22, h21) => match fl22 with
| .next y23 =>
(some (.more ((y23, (IntKind.wrap .i64 (y4 + 1))), h21)))
| .ret rr24 => (some (.done (.ret rr24, h21)))
| .ex0 _ => none
| .ex1 _ => none)) else (some (.done (.ex0 y3, h5))))
noncomputable def spileref54_Once (a0 : SV) (h : H) : Option ((SV) × H) :=
((rdRow true h FC a0).bind fun s2 =>
((spileref53_SortP s2).bind fun r1 =>
((iter FUEL (spileref54_Once.loop1 r1) ((⟨.nil, 0, 0, false⟩, 0), h)).bind fun (fl26, h25) => match fl26 with
| .next _ => none
| .ret rr27 => (some (rr27, h25))
| .ex0 y28 =>
(some (y28, h25))
| .ex1 _ => none)))
def spileref54_Once.A : Ann := { lits := [], conds := [(28, [4], [.leaf .slice], none, none)], loops := [(4, [4, 5], [.leaf .slice, .leaf (.int .i64)], [4], [.leaf .slice], some 0, none)], regs := [(6, [28], [.leaf .bool])] }
theorem spileref54_Once.eq : ∀ (x : TT [.leaf .slice]) (h : H), evalFn Tryz.prog (spileref54_Once.tb) spileref54_Once.A Tryz.f72 (.one (.leaf .slice)) (TT.un [.leaf .slice] x) h = spileref54_Once x h := by
  intro x h
  kernel_rfl
noncomputable def spileref54_OnceP (a0 : (List Fct)) : Option ((List Fct)) := (spileref54_Once (rowSV false FC a0) H.empty).bind fun p => rdRes false p.2 (.one (.leaf (.row FC))) (Res.un (.one (.leaf .slice)) p.1)
theorem spileref54_OnceP.eq : ∀ x : TT [.leaf (.row FC)], ((evalFn Tryz.prog (spileref54_Once.tb) spileref54_Once.A Tryz.f72 (.one (.leaf .slice)) (TT.lo false [.leaf (.row FC)] x) H.empty).bind fun p => rdRes false p.2 (.one (.leaf (.row FC))) (Res.un (.one (.leaf .slice)) p.1)) = spileref54_OnceP x := by
  intro x
  rw [show TT.lo false [.leaf (.row FC)] x = TT.un [.leaf .slice] ((rowSV false FC x)) from rfl, spileref54_Once.eq]
  rfl
noncomputable def spileref54_OnceP.e : Entry := mkP [.leaf (.row FC)] (.one (.leaf (.row FC))) fun x => spileref54_OnceP x
theorem spileref54_OnceP.ok : EntryOK Tryz.prog 72 (spileref54_OnceP.e) := mkP_ok (spileref54_Once.tbok) Tryz.mixed Tryz.func72 (by kernel_rfl) spileref54_OnceP.eq
/-! ### spile/spileref54.counting: function 62 -/
noncomputable def spileref54_counting.tb : Table := tab [(72, spileref54_OnceP.e)] [] Table.nil
theorem spileref54_counting.tbok : TabOK Tryz.prog (spileref54_counting.tb) := TabOK.tab (TabOK.nil Tryz.prog) (all_cons spileref54_OnceP.ok (all_nil _)) (all_nil _)
noncomputable def spileref54_counting.loop1 (r1 : List Fct) : (SV × SV × Int) × H → Option (Stp ((SV × SV × Int) × H) (Flow (SV × SV) (SV × SV) × H)) := fun ((y3, y4, y5), h6) =>
(bif (decide (y5 < ((r1.length : Nat) : Int))) then (((let h7 : H := H.reserve h6 0
(bif (decide ((0 : Int) < y5)) then (guardO (0 ≤ (IntKind.wrap .i64 (y5 - 1)) ∧ (IntKind.wrap .i64 (y5 - 1)) < ((r1.length : Nat) : Int)) (guardO (V.nn ((V.add ((rowSV true FC r1).a) (Int.toNat (IntKind.wrap .i64 (y5 - 1)) * 6)) : V) = true) ((rdT (.agg KC) h7 (V.add (V.add ((rowSV true FC r1).a) (Int.toNat (IntKind.wrap .i64 (y5 - 1)) * 6)) 0)).bind fun (x8_0, x8_1, x8_2) =>
(guardO (0 ≤ y5 ∧ y5 < ((r1.length : Nat) : Int)) (guardO (V.nn ((V.add ((rowSV true FC r1).a) (Int.toNat y5 * 6)) : V) = true) ((rdT (.agg KC) h7 (V.add (V.add ((rowSV true FC r1).a) (Int.toNat y5 * 6)) 0)).bind fun (x9_0, x9_1, x9_2) =>
(some ((decide (x8_0 = x9_0) && (decide (x8_1 = x9_1) && (decide (x8_2 = x9_2)))), h7)))))))) else (some (false, h7))))).bind fun (y10, h11) =>
(((let h12 : H := H.reserve h11 0
(bif (decide ((IntKind.wrap .i64 (y5 + 1)) < ((r1.length : Nat) : Int))) then (guardO (0 ≤ (IntKind.wrap .i64 (y5 + 1)) ∧ (IntKind.wrap .i64 (y5 + 1)) < ((r1.length : Nat) : Int)) (guardO (V.nn ((V.add ((rowSV true FC r1).a) (Int.toNat (IntKind.wrap .i64 (y5 + 1)) * 6)) : V) = true) ((rdT (.agg KC) h12 (V.add (V.add ((rowSV true FC r1).a) (Int.toNat (IntKind.wrap .i64 (y5 + 1)) * 6)) 0)).bind fun (x13_0, x13_1, x13_2) =>
(guardO (0 ≤ y5 ∧ y5 < ((r1.length : Nat) : Int)) (guardO (V.nn ((V.add ((rowSV true FC r1).a) (Int.toNat y5 * 6)) : V) = true) ((rdT (.agg KC) h12 (V.add (V.add ((rowSV true FC r1).a) (Int.toNat y5 * 6)) 0)).bind fun (x14_0, x14_1, x14_2) =>
(some ((decide (x13_0 = x14_0) && (decide (x13_1 = x14_1) && (decide (x13_2 = x14_2)))), h12)))))))) else (some (false, h12))))).bind fun (y15, h16) =>
(((bif (!y10) then (some ((!y15), h16)) else (some (false, h16)))).bind fun (y17, h18) =>
((bif y17 then (guardO (0 ≤ y5 ∧ y5 < ((r1.length : Nat) : Int)) ((rdT (.agg FS) h18 (V.add ((rowSV true FC r1).a) (Int.toNat y5 * 6))).bind fun (x19_0, x19_1, x19_2, x19_3, x19_4, x19_5) =>
((appendS h18 none 6 80 y3 [.int .i64 x19_0, .int .i64 x19_1, .int .i64 x19_2, .int .i64 x19_3, .slice x19_4.a x19_4.len x19_4.cap x19_4.tail, .slice x19_5.a x19_5.len x19_5.cap x19_5.tail] 1).bind fun (s22, h21) =>
(some (.next s22, h21))))) else (some (.next y3, h18)) : Option (Flow (SV) (SV × SV) × H)).bind fun (fl25, h24) => match fl25 with
| .next y26 =>
(((bif (!y10) then (some (y15, h24)) else (some (false, h24)))).bind fun (y27, h28) =>
((bif y27 then (guardO (0 ≤ y5 ∧ y5 < ((r1.length : Nat) : Int)) (guardO (V.nn ((V.add ((rowSV true FC r1).a) (Int.toNat y5 * 6)) : V) = true) ((rdT (.agg KC) h28 (V.add (V.add ((rowSV true FC r1).a) (Int.toNat y5 * 6)) 0)).bind fun (x29_0, x29_1, x29_2) =>
((appendS h28 none 3 24 y4 [.int .i64 x29_0, .int .i64 x29_1, .int .i64 x29_2] 1).bind fun (s32, h31) =>
(some (.next s32, h31)))))) else (some (.next y4, h28)) : Option (Flow (SV) (SV × SV) × H)).bind fun (fl35, h34) => match fl35 with
| .next y36 =>
(some (.more ((y26, y36, (IntKind.wrap .i64 (y5 + 1))), h34)))
| .ret rr37 => (some (.done (.ret rr37, h34)))
| .ex0 _ => none
| .ex1 _ => none))
| .ret rr38 => (some (.done (.ret rr38, h24)))
| .ex0 _ => none
| .ex1 _ => none)))) else (some (.done (.ex0 (y3, y4), h6))))
noncomputable def spileref54_counting (a0 : SV) (h : H) : Option ((SV × SV) × H) :=
((rdRow true h FC a0).bind fun s2 =>
((spileref54_OnceP s2).bind fun r1 =>
((iter FUEL (spileref54_counting.loop1 r1) ((⟨.nil, 0, 0, false⟩, ⟨.nil, 0, 0, false⟩, 0), h)).bind fun (fl40, h39) => match fl40 with
| .next _ => none
| .ret rr41 => (some (rr41, h39))
| .ex0 (y42, y43) =>
(some ((y42, y43), h39))
| .ex1 _ => none)))
def spileref54_counting.A : Ann := { lits := [], conds := [(58, [5], [.leaf .slice], none, none), (70, [6], [.leaf .slice], none, none)], loops := [(5, [5, 6, 7], [.leaf .slice, .leaf .slice, .leaf (.int .i64)], [5, 6], [.leaf .slice, .leaf .slice], some 0, none)], regs := [(7, [8], [.leaf .bool]), (8, [9], [.leaf .bool]), (9, [58], [.leaf .bool]), (11, [70], [.leaf .bool])] }
theorem spileref54_counting.eq : ∀ (x : TT [.leaf .slice]) (h : H), evalFn Tryz.prog (spileref54_counting.tb) spileref54_counting.A Tryz.f62 (.many [.leaf .slice, .leaf .slice]) (TT.un [.leaf .slice] x) h = spileref54_counting x h := by
  intro x h
  kernel_rfl
noncomputable def spileref54_countingP (a0 : (List Fct)) : Option ((List Fct) × (List Ky)) := (spileref54_counting (rowSV false FC a0) H.empty).bind fun p => rdRes false p.2 (.many [.leaf (.row FC), .leaf (.row KC)]) (Res.un (.many [.leaf .slice, .leaf .slice]) p.1)
theorem spileref54_countingP.eq : ∀ x : TT [.leaf (.row FC)], ((evalFn Tryz.prog (spileref54_counting.tb) spileref54_counting.A Tryz.f62 (.many [.leaf .slice, .leaf .slice]) (TT.lo false [.leaf (.row FC)] x) H.empty).bind fun p => rdRes false p.2 (.many [.leaf (.row FC), .leaf (.row KC)]) (Res.un (.many [.leaf .slice, .leaf .slice]) p.1)) = spileref54_countingP x := by
  intro x
  rw [show TT.lo false [.leaf (.row FC)] x = TT.un [.leaf .slice] ((rowSV false FC x)) from rfl, spileref54_counting.eq]
  rfl
noncomputable def spileref54_countingP.e : Entry := mkP [.leaf (.row FC)] (.many [.leaf (.row FC), .leaf (.row KC)]) fun x => spileref54_countingP x
theorem spileref54_countingP.ok : EntryOK Tryz.prog 62 (spileref54_countingP.e) := mkP_ok (spileref54_counting.tbok) Tryz.mixed Tryz.func62 (by kernel_rfl) spileref54_countingP.eq
/-! ### spile/spileref54.Corrects: function 63 -/
noncomputable def spileref54_Corrects.tb : Table := tab [] [] Table.nil
theorem spileref54_Corrects.tbok : TabOK Tryz.prog (spileref54_Corrects.tb) := TabOK.tab (TabOK.nil Tryz.prog) (all_nil _) (all_nil _)
noncomputable def spileref54_Corrects (a0 : Fsv) (h : H) : Option ((Bool) × H) :=
(match a0 with
| (a0_0, a0_1, a0_2, a0_3, a0_4, a0_5) =>
(let h1 : H := H.new h [.int .i64 a0_0, .int .i64 a0_1, .int .i64 a0_2, .int .i64 a0_3, .slice a0_4.a a0_4.len a0_4.cap a0_4.tail, .slice a0_5.a a0_5.len a0_5.cap a0_5.tail] 6
((((rdT (.leaf (.int .i64)) h1 (.hp h.next 6 3)).bind fun x2 =>
(bif !(decide (x2 = 90)) then ((rdT (.leaf (.int .i64)) h1 (.hp h.next 6 3)).bind fun x3 =>
(some ((decide (x3 = 91)), h1))) else (some (true, h1))))).bind fun (y4, h5) =>
(some (y4, h5)))))
def spileref54_Corrects.A : Ann := { lits := [], conds := [], loops := [], regs := [(1, [2], [.leaf .bool])] }
theorem spileref54_Corrects.eq : ∀ (x : TT [.agg FS]) (h : H), evalFn Tryz.prog (spileref54_Corrects.tb) spileref54_Corrects.A Tryz.f63 (.one (.leaf .bool)) (TT.un [.agg FS] x) h = spileref54_Corrects x h := by
  intro x h
  kernel_rfl
noncomputable def spileref54_CorrectsP (a0 : Fct) : Option (Bool) := (spileref54_Corrects (a0.1, a0.2.1, a0.2.2.1, a0.2.2.2.1, rowSV false [.int .i64] a0.2.2.2.2.1, rowSV false [.str] a0.2.2.2.2.2) H.empty).bind fun p => rdRes false p.2 (.one (.leaf .bool)) (Res.un (.one (.leaf .bool)) p.1)
theorem spileref54_CorrectsP.eq : ∀ x : TT [.agg FC], ((evalFn Tryz.prog (spileref54_Corrects.tb) spileref54_Corrects.A Tryz.f63 (.one (.leaf .bool)) (TT.lo false [.agg FC] x) H.empty).bind fun p => rdRes false p.2 (.one (.leaf .bool)) (Res.un (.one (.leaf .bool)) p.1)) = spileref54_CorrectsP x := by
  intro x
  rw [show TT.lo false [.agg FC] x = TT.un [.agg FS] ((x.1, x.2.1, x.2.2.1, x.2.2.2.1, rowSV false [.int .i64] x.2.2.2.2.1, rowSV false [.str] x.2.2.2.2.2)) from rfl, spileref54_Corrects.eq]
  rfl
noncomputable def spileref54_CorrectsP.e : Entry := mkP [.agg FC] (.one (.leaf .bool)) fun x => spileref54_CorrectsP x
theorem spileref54_CorrectsP.ok : EntryOK Tryz.prog 63 (spileref54_CorrectsP.e) := mkP_ok (spileref54_Corrects.tbok) Tryz.mixed Tryz.func63 (by kernel_rfl) spileref54_CorrectsP.eq
/-! ### spile/spileref54.Target: function 65 -/
noncomputable def spileref54_Target.tb : Table := tab [(63, spileref54_CorrectsP.e), (71, spileref53_CheckP.e)] [] Table.nil
theorem spileref54_Target.tbok : TabOK Tryz.prog (spileref54_Target.tb) := TabOK.tab (TabOK.nil Tryz.prog) (all_cons spileref54_CorrectsP.ok (all_cons spileref53_CheckP.ok (all_nil _))) (all_nil _)
noncomputable def spileref54_Target (a0 : Fsv) (h : H) : Option ((Fsv × Bool) × H) :=
(match a0 with
| (a0_0, a0_1, a0_2, a0_3, a0_4, a0_5) =>
(let h1 : H := H.new h [.int .i64 a0_0, .int .i64 a0_1, .int .i64 a0_2, .int .i64 a0_3, .slice a0_4.a a0_4.len a0_4.cap a0_4.tail, .slice a0_5.a a0_5.len a0_5.cap a0_5.tail] 6
(let h2 : H := H.new h1 [.int .i64 0, .int .i64 0, .int .i64 0, .int .i64 0, .slice .nil 0 0 false, .slice .nil 0 0 false] 6
((rdT (.leaf .slice) h2 (.hp h.next 6 4)).bind fun x3 =>
((((rdT (.leaf (.int .i64)) h2 (.hp h.next 6 3)).bind fun x4 =>
(bif (decide (x4 = 90)) then (bif !(decide (((x3.len : Nat) : Int) < 4)) then ((rdT (.leaf (.int .i64)) h2 (.hp h.next 6 3)).bind fun x5 =>
(bif (decide (x5 = 91)) then (bif !(!(decide (((x3.len : Nat) : Int) = 3))) then ((rdT (.leaf .slice) h2 (.hp h.next 6 5)).bind fun x6 =>
(some ((decide ((0 : Int) < ((x6.len : Nat) : Int))), h2))) else (some (true, h2))) else (some (false, h2)))) else (some (true, h2))) else ((rdT (.leaf (.int .i64)) h2 (.hp h.next 6 3)).bind fun x7 =>
(bif (decide (x7 = 91)) then (bif !(!(decide (((x3.len : Nat) : Int) = 3))) then ((rdT (.leaf .slice) h2 (.hp h.next 6 5)).bind fun x8 =>
(some ((decide ((0 : Int) < ((x8.len : Nat) : Int))), h2))) else (some (true, h2))) else (some (false, h2))))))).bind fun (y9, h10) =>
(bif y9 then ((H.wrs h10 (.hp h1.next 6 0) [.int .i64 0, .int .i64 0, .int .i64 0, .int .i64 0, .slice .nil 0 0 false, .slice .nil 0 0 false]).bind fun h11 =>
((rdT (.agg FS) h11 (.hp h1.next 6 0 : V)).bind fun (x12_0, x12_1, x12_2, x12_3, x12_4, x12_5) =>
(some (((x12_0, x12_1, x12_2, x12_3, x12_4, x12_5), false), h11)))) else (let h13 : H := H.reserve h10 1
((rdT (.leaf .slice) h13 (.hp h.next 6 4)).bind fun x14 =>
(guardO (0 ≤ (0 : Int) ∧ 0 < ((x14.len : Nat) : Int)) ((rdT (.leaf (.int .i64)) h13 (V.add x14.a 0)).bind fun x15 =>
((rdT (.leaf .slice) h13 (.hp h.next 6 4)).bind fun x16 =>
(guardO (0 ≤ (1 : Int) ∧ 1 < ((x16.len : Nat) : Int)) ((rdT (.leaf (.int .i64)) h13 (V.add x16.a 1)).bind fun x17 =>
((rdT (.leaf .slice) h13 (.hp h.next 6 4)).bind fun x18 =>
(guardO (0 ≤ (2 : Int) ∧ 2 < ((x18.len : Nat) : Int)) ((rdT (.leaf (.int .i64)) h13 (V.add x18.a 2)).bind fun x19 =>
(let h20 : H := H.put h13 h10.next (.own [.int .i64 0, .int .i64 0, .int .i64 0, .int .i64 0, .slice .nil 0 0 false, .slice .nil 0 0 false] 6)
((H.wrs h20 (.hp h10.next 6 0) [.int .i64 x15, .int .i64 x17, .int .i64 x19, .int .i64 1, .slice .nil 0 0 false, .slice .nil 0 0 false]).bind fun h21 =>
(guardO (apartA (.hp h.next 6 4 : V) (.hp h10.next 0 0 : V) = true) (guardO (apartA ((V.add x14.a 0) : V) (.hp h10.next 0 0 : V) = true) (guardO (apartA (.hp h.next 6 4 : V) (.hp h10.next 0 0 : V) = true) (guardO (apartA ((V.add x16.a 1) : V) (.hp h10.next 0 0 : V) = true) (guardO (apartA (.hp h.next 6 4 : V) (.hp h10.next 0 0 : V) = true) (guardO (apartA ((V.add x18.a 2) : V) (.hp h10.next 0 0 : V) = true) ((rdT (.leaf (.int .i64)) h21 (.hp h.next 6 3)).bind fun x22 =>
((bif (decide (x22 = 90)) then ((rdT (.leaf .slice) h21 (.hp h.next 6 4)).bind fun x23 =>
(guardO (0 ≤ (3 : Int) ∧ 3 < ((x23.len : Nat) : Int)) ((rdT (.leaf (.int .i64)) h21 (V.add x23.a 3)).bind fun x24 =>
((H.wrs h21 (.hp h10.next 6 3) [.int .i64 x24]).bind fun h25 =>
(let h26 : H := H.reserve h25 0
((rdT (.leaf .slice) h26 (.hp h10.next 6 4)).bind fun x27 =>
((rdT (.leaf .slice) h26 (.hp h.next 6 4)).bind fun x28 =>
(guardO ((0 : Int) ≤ 4 ∧ (4 : Int) ≤ ((x28.len : Nat) : Int) ∧ ((x28.len : Nat) : Int) ≤ ((x28.cap : Nat) : Int)) ((cellsOf h26 (.slice (V.add x28.a ((Int.toNat 4) * 1)) ((Int.toNat ((x28.len : Nat) : Int)) - (Int.toNat 4)) (x28.cap - (Int.toNat 4)) x28.tail : V) 1).bind fun (n31, cs31) =>
((appendS h26 none 1 8 x27 cs31 n31).bind fun (s31, h30) =>
((H.wrs h30 (.hp h10.next 6 4) [.slice s31.a s31.len s31.cap s31.tail]).bind fun h34 =>
((rdT (.leaf .slice) h34 (.hp h10.next 6 5)).bind fun x35 =>
((rdT (.leaf .slice) h34 (.hp h.next 6 5)).bind fun x36 =>
((cellsOf h34 (.slice x36.a x36.len x36.cap x36.tail : V) 1).bind fun (n39, cs39) =>
((appendS h34 none 1 16 x35 cs39 n39).bind fun (s39, h38) =>
((H.wrs h38 (.hp h10.next 6 5) [.slice s39.a s39.len s39.cap s39.tail]).bind fun h42 =>
(some (.next (), h42)))))))))))))))))) else (some (.next (), h21)) : Option (Flow (Unit) (Fsv × Bool) × H)).bind fun (fl44, h43) => match fl44 with
| .next _ =>
(((let h45 : H := H.reserve h43 0
((rdT (.agg FS) h45 (.hp h10.next 6 0)).bind fun (x46_0, x46_1, x46_2, x46_3, x46_4, x46_5) =>
((rdT (.agg FS) h45 (.hp h10.next 6 0)).bind fun (x47_0, x47_1, x47_2, x47_3, x47_4, x47_5) =>
((rdRow true h45 [.int .i64] x47_4).bind fun s49 =>
((rdRow true h45 [.str] x47_5).bind fun s50 =>
((spileref53_CheckP (x47_0, x47_1, x47_2, x47_3, s49, s50)).bind fun r48 =>
(bif (decide (r48 = 0)) then ((rdT (.agg FS) h45 (.hp h10.next 6 0)).bind fun (x51_0, x51_1, x51_2, x51_3, x51_4, x51_5) =>
((rdRow true h45 [.int .i64] x51_4).bind fun s53 =>
((rdRow true h45 [.str] x51_5).bind fun s54 =>
((spileref54_CorrectsP (x51_0, x51_1, x51_2, x51_3, s53, s54)).bind fun r52 =>
((H.wrs h45 (.hp h1.next 6 0) [.int .i64 x46_0, .int .i64 x46_1, .int .i64 x46_2, .int .i64 x46_3, .slice x46_4.a x46_4.len x46_4.cap x46_4.tail, .slice x46_5.a x46_5.len x46_5.cap x46_5.tail]).bind fun h55 =>
(some ((!r52), h55))))))) else ((H.wrs h45 (.hp h1.next 6 0) [.int .i64 x46_0, .int .i64 x46_1, .int .i64 x46_2, .int .i64 x46_3, .slice x46_4.a x46_4.len x46_4.cap x46_4.tail, .slice x46_5.a x46_5.len x46_5.cap x46_5.tail]).bind fun h56 =>
(some (false, h56))))))))))).bind fun (y57, h58) =>
((rdT (.agg FS) h58 (.hp h1.next 6 0 : V)).bind fun (x59_0, x59_1, x59_2, x59_3, x59_4, x59_5) =>
(some (((x59_0, x59_1, x59_2, x59_3, x59_4, x59_5), y57), h58))))
| .ret rr60 => (some (rr60, h43))
| .ex0 _ => none
| .ex1 _ => none))))))))))))))))))))))))))
def spileref54_Target.A : Ann := { lits := [], conds := [(48, [], [], none, none)], loops := [], regs := [(2, [30], [.leaf .bool]), (9, [3], [.leaf .bool])] }
theorem spileref54_Target.eq : ∀ (x : TT [.agg FS]) (h : H), evalFn Tryz.prog (spileref54_Target.tb) spileref54_Target.A Tryz.f65 (.many [.agg FS, .leaf .bool]) (TT.un [.agg FS] x) h = spileref54_Target x h := by
  intro x h
  kernel_rfl
noncomputable def spileref54_TargetP (a0 : Fct) : Option (Fct × Bool) := (spileref54_Target (a0.1, a0.2.1, a0.2.2.1, a0.2.2.2.1, rowSV false [.int .i64] a0.2.2.2.2.1, rowSV false [.str] a0.2.2.2.2.2) H.empty).bind fun p => rdRes false p.2 (.many [.agg FC, .leaf .bool]) (Res.un (.many [.agg FS, .leaf .bool]) p.1)
theorem spileref54_TargetP.eq : ∀ x : TT [.agg FC], ((evalFn Tryz.prog (spileref54_Target.tb) spileref54_Target.A Tryz.f65 (.many [.agg FS, .leaf .bool]) (TT.lo false [.agg FC] x) H.empty).bind fun p => rdRes false p.2 (.many [.agg FC, .leaf .bool]) (Res.un (.many [.agg FS, .leaf .bool]) p.1)) = spileref54_TargetP x := by
  intro x
  rw [show TT.lo false [.agg FC] x = TT.un [.agg FS] ((x.1, x.2.1, x.2.2.1, x.2.2.2.1, rowSV false [.int .i64] x.2.2.2.2.1, rowSV false [.str] x.2.2.2.2.2)) from rfl, spileref54_Target.eq]
  rfl
noncomputable def spileref54_TargetP.e : Entry := mkP [.agg FC] (.many [.agg FC, .leaf .bool]) fun x => spileref54_TargetP x
theorem spileref54_TargetP.ok : EntryOK Tryz.prog 65 (spileref54_TargetP.e) := mkP_ok (spileref54_Target.tbok) Tryz.mixed Tryz.func65 (by kernel_rfl) spileref54_TargetP.eq
/-! ### spile/spileref54.find: function 95 -/
noncomputable def spileref54_find.tb : Table := tab [] [] Table.nil
theorem spileref54_find.tbok : TabOK Tryz.prog (spileref54_find.tb) := TabOK.tab (TabOK.nil Tryz.prog) (all_nil _) (all_nil _)
noncomputable def spileref54_find.loop1 (h : H) (a0 : SV) : (Int) × H → Option (Stp ((Int) × H) (Flow (Unit) (Int) × H)) := fun (y2, h3) =>
(bif (decide (y2 < ((a0.len : Nat) : Int))) then (let h4 : H := H.reserve h3 0
(guardO (0 ≤ y2 ∧ y2 < ((a0.len : Nat) : Int)) (guardO (V.nn ((V.add a0.a (Int.toNat y2 * 6)) : V) = true) ((rdT (.agg KC) h4 (V.add (V.add a0.a (Int.toNat y2 * 6)) 0)).bind fun (x5_0, x5_1, x5_2) =>
((rdT (.agg KC) h4 (.hp h.next 3 0)).bind fun (x6_0, x6_1, x6_2) =>
(bif (decide (x5_0 = x6_0) && (decide (x5_1 = x6_1) && (decide (x5_2 = x6_2)))) then (some (.done (.ret y2, h4))) else (some (.more ((IntKind.wrap .i64 (y2 + 1)), h4))))))))) else (some (.done (.ex0 (), h3))))
noncomputable def spileref54_find (a0 : SV) (a1 : Ky) (h : H) : Option ((Int) × H) :=
(match a1 with
| (a1_0, a1_1, a1_2) =>
(let h1 : H := H.new h [.int .i64 a1_0, .int .i64 a1_1, .int .i64 a1_2] 3
((iter FUEL (spileref54_find.loop1 h a0) (0, h1)).bind fun (fl8, h7) => match fl8 with
| .next _ => none
| .ret rr9 => (some (rr9, h7))
| .ex0 _ =>
(some ((-1), h7))
| .ex1 _ => none)))
def spileref54_find.A : Ann := { lits := [], conds := [], loops := [(2, [5], [.leaf (.int .i64)], [], [], some 0, none)], regs := [] }
theorem spileref54_find.eq : ∀ (x : TT [.leaf .slice, .agg KC]) (h : H), evalFn Tryz.prog (spileref54_find.tb) spileref54_find.A Tryz.f95 (.one (.leaf (.int .i64))) (TT.un [.leaf .slice, .agg KC] x) h = spileref54_find x.1 x.2 h := by
  intro x h
  kernel_rfl
noncomputable def spileref54_findP (a0 : (List Fct)) (a1 : Ky) : Option (Int) := (spileref54_find (rowSV false FC a0) a1 H.empty).bind fun p => rdRes false p.2 (.one (.leaf (.int .i64))) (Res.un (.one (.leaf (.int .i64))) p.1)
theorem spileref54_findP.eq : ∀ x : TT [.leaf (.row FC), .agg KC], ((evalFn Tryz.prog (spileref54_find.tb) spileref54_find.A Tryz.f95 (.one (.leaf (.int .i64))) (TT.lo false [.leaf (.row FC), .agg KC] x) H.empty).bind fun p => rdRes false p.2 (.one (.leaf (.int .i64))) (Res.un (.one (.leaf (.int .i64))) p.1)) = spileref54_findP x.1 x.2 := by
  intro x
  rw [show TT.lo false [.leaf (.row FC), .agg KC] x = TT.un [.leaf .slice, .agg KC] ((rowSV false FC x.1), x.2) from rfl, spileref54_find.eq]
  rfl
noncomputable def spileref54_findP.e : Entry := mkP [.leaf (.row FC), .agg KC] (.one (.leaf (.int .i64))) fun x => spileref54_findP x.1 x.2
theorem spileref54_findP.ok : EntryOK Tryz.prog 95 (spileref54_findP.e) := mkP_ok (spileref54_find.tbok) Tryz.mixed Tryz.func95 (by kernel_rfl) spileref54_findP.eq
/-! ### spile/spileref54.refused: function 64 -/
noncomputable def spileref54_refused.tb : Table := tab [(63, spileref54_CorrectsP.e), (65, spileref54_TargetP.e), (95, spileref54_findP.e)] [] Table.nil
theorem spileref54_refused.tbok : TabOK Tryz.prog (spileref54_refused.tb) := TabOK.tab (TabOK.nil Tryz.prog) (all_cons spileref54_CorrectsP.ok (all_cons spileref54_TargetP.ok (all_cons spileref54_findP.ok (all_nil _)))) (all_nil _)
noncomputable def spileref54_refused (a0 : SV) (a1 : Fsv) (h : H) : Option ((Bool) × H) :=
(match a1 with
| (a1_0, a1_1, a1_2, a1_3, a1_4, a1_5) =>
(let h1 : H := H.new h [.int .i64 a1_0, .int .i64 a1_1, .int .i64 a1_2, .int .i64 a1_3, .slice a1_4.a a1_4.len a1_4.cap a1_4.tail, .slice a1_5.a a1_5.len a1_5.cap a1_5.tail] 6
((rdT (.agg FS) h1 (.hp h.next 6 0)).bind fun (x2_0, x2_1, x2_2, x2_3, x2_4, x2_5) =>
((rdRow true h1 [.int .i64] x2_4).bind fun s5 =>
((rdRow true h1 [.str] x2_5).bind fun s6 =>
((spileref54_TargetP (x2_0, x2_1, x2_2, x2_3, s5, s6)).bind fun ((r3_0, r3_1, r3_2, r3_3, r3_4, r3_5), r4) =>
(let h7 : H := H.new h1 [.int .i64 0, .int .i64 0, .int .i64 0, .int .i64 0, .slice .nil 0 0 false, .slice .nil 0 0 false] 6
((H.wrs h7 (.hp h1.next 6 0) [.int .i64 r3_0, .int .i64 r3_1, .int .i64 r3_2, .int .i64 r3_3, .slice ((rowSV true [.int .i64] r3_4).a) r3_4.length r3_4.length true, .slice ((rowSV true [.str] r3_5).a) r3_5.length r3_5.length true]).bind fun h8 =>
(bif (!r4) then (some (true, h8)) else ((rdT (.agg KC) h8 (.hp h1.next 6 0)).bind fun (x9_0, x9_1, x9_2) =>
((rdRow true h8 FC a0).bind fun s11 =>
((spileref54_findP s11 (x9_0, x9_1, x9_2)).bind fun r10 =>
(((bif (decide ((0 : Int) ≤ r10)) then (guardO (0 ≤ r10 ∧ r10 < ((a0.len : Nat) : Int)) ((rdT (.agg FS) h8 (V.add a0.a (Int.toNat r10 * 6))).bind fun (x12_0, x12_1, x12_2, x12_3, x12_4, x12_5) =>
((rdRow true h8 [.int .i64] x12_4).bind fun s14 =>
((rdRow true h8 [.str] x12_5).bind fun s15 =>
((spileref54_CorrectsP (x12_0, x12_1, x12_2, x12_3, s14, s15)).bind fun r13 =>
(some (r13, h8))))))) else (some (false, h8)))).bind fun (y16, h17) =>
(some (y16, h17)))))))))))))))
def spileref54_refused.A : Ann := { lits := [], conds := [], loops := [], regs := [(5, [4], [.leaf .bool])] }
theorem spileref54_refused.eq : ∀ (x : TT [.leaf .slice, .agg FS]) (h : H), evalFn Tryz.prog (spileref54_refused.tb) spileref54_refused.A Tryz.f64 (.one (.leaf .bool)) (TT.un [.leaf .slice, .agg FS] x) h = spileref54_refused x.1 x.2 h := by
  intro x h
  kernel_rfl
noncomputable def spileref54_refusedP (a0 : (List Fct)) (a1 : Fct) : Option (Bool) := (spileref54_refused (rowSV false FC a0) (a1.1, a1.2.1, a1.2.2.1, a1.2.2.2.1, rowSV false [.int .i64] a1.2.2.2.2.1, rowSV false [.str] a1.2.2.2.2.2) H.empty).bind fun p => rdRes false p.2 (.one (.leaf .bool)) (Res.un (.one (.leaf .bool)) p.1)
theorem spileref54_refusedP.eq : ∀ x : TT [.leaf (.row FC), .agg FC], ((evalFn Tryz.prog (spileref54_refused.tb) spileref54_refused.A Tryz.f64 (.one (.leaf .bool)) (TT.lo false [.leaf (.row FC), .agg FC] x) H.empty).bind fun p => rdRes false p.2 (.one (.leaf .bool)) (Res.un (.one (.leaf .bool)) p.1)) = spileref54_refusedP x.1 x.2 := by
  intro x
  rw [show TT.lo false [.leaf (.row FC), .agg FC] x = TT.un [.leaf .slice, .agg FS] ((rowSV false FC x.1), (x.2.1, x.2.2.1, x.2.2.2.1, x.2.2.2.2.1, rowSV false [.int .i64] x.2.2.2.2.2.1, rowSV false [.str] x.2.2.2.2.2.2)) from rfl, spileref54_refused.eq]
  rfl
noncomputable def spileref54_refusedP.e : Entry := mkP [.leaf (.row FC), .agg FC] (.one (.leaf .bool)) fun x => spileref54_refusedP x.1 x.2
theorem spileref54_refusedP.ok : EntryOK Tryz.prog 64 (spileref54_refusedP.e) := mkP_ok (spileref54_refused.tbok) Tryz.mixed Tryz.func64 (by kernel_rfl) spileref54_refusedP.eq
end Go.Proofs.YtjkjcnadgpndoaaGreat
/- The functions of the program as Lean functions, each with the equation by which the evaluator is that function. Written by a program of this session (evdrive.py). Conditions: none. -/
namespace Go.Proofs.YtjkjcnadgpndoaaGreat
open Go Go.Proofs.YtjkjcnadgpndoaaGreat.Ev
set_option maxRecDepth 100000
set_option linter.unusedVariables false
/-! ### spile/spileref54.effect: function 94 -/
noncomputable def spileref54_effect.tb : Table := tab [(63, spileref54_CorrectsP.e), (64, spileref54_refusedP.e), (65, spileref54_TargetP.e)] [] Table.nil
theorem spileref54_effect.tbok : TabOK Tryz.prog (spileref54_effect.tb) := TabOK.tab (TabOK.nil Tryz.prog) (all_cons spileref54_CorrectsP.ok (all_cons spileref54_refusedP.ok (all_cons spileref54_TargetP.ok (all_nil _)))) (all_nil _)
noncomputable def spileref54_effect.loop1 (h : H) (a0 : SV) (h2 : H) : (Bool × Int) × H → Option (Stp ((Bool × Int) × H) (Flow (Bool) (Fsv × Bool) × H)) := fun ((y6, y7), h8) =>
(bif (decide (y7 < ((a0.len : Nat) : Int))) then (((guardO (0 ≤ y7 ∧ y7 < ((a0.len : Nat) : Int)) ((rdT (.agg FS) h8 (V.add a0.a (Int.toNat y7 * 6))).bind fun (x9_0, x9_1, x9_2, x9_3, x9_4, x9_5) =>
((rdRow true h8 [.int .i64] x9_4).bind fun s11 =>
((rdRow true h8 [.str] x9_5).bind fun s12 =>
((spileref54_CorrectsP (x9_0, x9_1, x9_2, x9_3, s11, s12)).bind fun r10 =>
(bif !(!r10) then (guardO (0 ≤ y7 ∧ y7 < ((a0.len : Nat) : Int)) ((rdT (.agg FS) h8 (V.add a0.a (Int.toNat y7 * 6))).bind fun (x13_0, x13_1, x13_2, x13_3, x13_4, x13_5) =>
((rdRow true h8 FC a0).bind fun s15 =>
((rdRow true h8 [.int .i64] x13_4).bind fun s16 =>
((rdRow true h8 [.str] x13_5).bind fun s17 =>
((spileref54_refusedP s15 (x13_0, x13_1, x13_2, x13_3, s16, s17)).bind fun r14 =>
(some (r14, h8)))))))) else (some (true, h8))))))))).bind fun (y18, h19) =>
(bif y18 then (some (.more ((y6, (IntKind.wrap .i64 (y7 + 1))), h19))) else (guardO (0 ≤ y7 ∧ y7 < ((a0.len : Nat) : Int)) ((rdT (.agg FS) h19 (V.add a0.a (Int.toNat y7 * 6))).bind fun (x20_0, x20_1, x20_2, x20_3, x20_4, x20_5) =>
((rdRow true h19 [.int .i64] x20_4).bind fun s23 =>
((rdRow true h19 [.str] x20_5).bind fun s24 =>
((spileref54_TargetP (x20_0, x20_1, x20_2, x20_3, s23, s24)).bind fun ((r21_0, r21_1, r21_2, r21_3, r21_4, r21_5), r22) =>
(let h25 : H := H.new h19 [.int .i64 0, .int .i64 0, .int .i64 0, .int .i64 0, .slice .nil 0 0 false, .slice .nil 0 0 false] 6
((H.wrs h25 (.hp h19.next 6 0) [.int .i64 r21_0, .int .i64 r21_1, .int .i64 r21_2, .int .i64 r21_3, .slice ((rowSV true [.int .i64] r21_4).a) r21_4.length r21_4.length true, .slice ((rowSV true [.str] r21_5).a) r21_5.length r21_5.length true]).bind fun h26 =>
((rdT (.agg KC) h26 (.hp h19.next 6 0)).bind fun (x27_0, x27_1, x27_2) =>
((rdT (.agg KC) h26 (.hp h.next 6 0)).bind fun (x28_0, x28_1, x28_2) =>
((bif (decide (x27_0 = x28_0) && (decide (x27_1 = x28_1) && (decide (x27_2 = x28_2)))) then (let h29 : H := H.reserve h26 0
((rdT (.agg FS) h29 (.hp h19.next 6 0)).bind fun (x30_0, x30_1, x30_2, x30_3, x30_4, x30_5) =>
(guardO (0 ≤ y7 ∧ y7 < ((a0.len : Nat) : Int)) (guardO (V.nn ((V.add a0.a (Int.toNat y7 * 6)) : V) = true) ((rdT (.leaf (.int .i64)) h29 (V.add (V.add a0.a (Int.toNat y7 * 6)) 3)).bind fun x31 =>
((H.wrs h29 (.hp h2.next 6 0) [.int .i64 x30_0, .int .i64 x30_1, .int .i64 x30_2, .int .i64 x30_3, .slice x30_4.a x30_4.len x30_4.cap x30_4.tail, .slice x30_5.a x30_5.len x30_5.cap x30_5.tail]).bind fun h32 =>
(guardO (apartA ((V.add (V.add a0.a (Int.toNat y7 * 6)) 3) : V) (.hp h2.next 6 0 : V) = true) (some (.next (decide (x31 = 90)), h32))))))))) else (some (.next y6, h26)) : Option (Flow (Bool) (Fsv × Bool) × H)).bind fun (fl34, h33) => match fl34 with
| .next y35 =>
(some (.more ((y35, (IntKind.wrap .i64 (y7 + 1))), h33)))
| .ret rr36 => (some (.done (.ret rr36, h33)))
| .ex0 _ => none
| .ex1 _ => none)))))))))))) else (some (.done (.ex0 y6, h8))))
noncomputable def spileref54_effect (a0 : SV) (a1 : Fsv) (h : H) : Option ((Fsv × Bool) × H) :=
(match a1 with
| (a1_0, a1_1, a1_2, a1_3, a1_4, a1_5) =>
(let h1 : H := H.new h [.int .i64 a1_0, .int .i64 a1_1, .int .i64 a1_2, .int .i64 a1_3, .slice a1_4.a a1_4.len a1_4.cap a1_4.tail, .slice a1_5.a a1_5.len a1_5.cap a1_5.tail] 6
(let h2 : H := H.new h1 [.int .i64 0, .int .i64 0, .int .i64 0, .int .i64 0, .slice .nil 0 0 false, .slice .nil 0 0 false] 6
((rdT (.agg FS) h2 (.hp h.next 6 0)).bind fun (x3_0, x3_1, x3_2, x3_3, x3_4, x3_5) =>
(let h4 : H := H.new h2 [.int .i64 0, .int .i64 0, .int .i64 0, .int .i64 0, .slice .nil 0 0 false, .slice .nil 0 0 false] 6
((H.wrs h4 (.hp h2.next 6 0) [.int .i64 x3_0, .int .i64 x3_1, .int .i64 x3_2, .int .i64 x3_3, .slice x3_4.a x3_4.len x3_4.cap x3_4.tail, .slice x3_5.a x3_5.len x3_5.cap x3_5.tail]).bind fun h5 =>
((iter FUEL (spileref54_effect.loop1 h a0 h2) ((true, 0), h5)).bind fun (fl38, h37) => match fl38 with
| .next _ => none
| .ret rr39 => (some (rr39, h37))
| .ex0 y40 =>
((rdT (.agg FS) h37 (.hp h2.next 6 0)).bind fun (x41_0, x41_1, x41_2, x41_3, x41_4, x41_5) =>
((H.wrs h37 (.hp h1.next 6 0) [.int .i64 x41_0, .int .i64 x41_1, .int .i64 x41_2, .int .i64 x41_3, .slice x41_4.a x41_4.len x41_4.cap x41_4.tail, .slice x41_5.a x41_5.len x41_5.cap x41_5.tail]).bind fun h42 =>
((rdT (.agg FS) h42 (.hp h1.next 6 0 : V)).bind fun (x43_0, x43_1, x43_2, x43_3, x43_4, x43_5) =>
(some (((x43_0, x43_1, x43_2, x43_3, x43_4, x43_5), y40), h42)))))
| .ex1 _ => none)))))))
def spileref54_effect.A : Ann := { lits := [], conds := [(44, [7], [.leaf .bool], none, none)], loops := [(3, [7, 8], [.leaf .bool, .leaf (.int .i64)], [7], [.leaf .bool], some 0, none)], regs := [(5, [31], [.leaf .bool])] }
theorem spileref54_effect.eq : ∀ (x : TT [.leaf .slice, .agg FS]) (h : H), evalFn Tryz.prog (spileref54_effect.tb) spileref54_effect.A Tryz.f94 (.many [.agg FS, .leaf .bool]) (TT.un [.leaf .slice, .agg FS] x) h = spileref54_effect x.1 x.2 h := by
  intro x h
  kernel_rfl
noncomputable def spileref54_effect.e : Entry := mkX [.leaf .slice, .agg FS] (.many [.agg FS, .leaf .bool]) fun x h => spileref54_effect x.1 x.2 h
theorem spileref54_effect.ok : EntryOK Tryz.prog 94 (spileref54_effect.e) := mkX_ok (spileref54_effect.tbok) Tryz.mixed Tryz.func94 (by kernel_rfl) (spileref54_effect.eq)
/-! ### spile/spileref54.Means: function 61 -/
noncomputable def spileref54_Means.tb : Table := tab [(62, spileref54_countingP.e), (63, spileref54_CorrectsP.e), (64, spileref54_refusedP.e), (65, spileref54_TargetP.e), (94, spileref54_effect.e), (95, spileref54_findP.e)] [] Table.nil
theorem spileref54_Means.tbok : TabOK Tryz.prog (spileref54_Means.tb) := TabOK.tab (TabOK.nil Tryz.prog) (all_cons spileref54_countingP.ok (all_cons spileref54_CorrectsP.ok (all_cons spileref54_refusedP.ok (all_cons spileref54_TargetP.ok (all_cons spileref54_effect.ok (all_cons spileref54_findP.ok (all_nil _))))))) (all_nil _)
noncomputable def spileref54_Means.loop1 (h1 : H) (r3 : List Fct) : (Int) × H → Option (Stp ((Int) × H) (Flow (Unit) ((SV × SV × SV × SV)) × H)) := fun (y7, h8) =>
(bif (decide (y7 < ((r3.length : Nat) : Int))) then (guardO (0 ≤ y7 ∧ y7 < ((r3.length : Nat) : Int)) ((rdT (.agg FS) h8 (V.add ((rowSV true FC r3).a) (Int.toNat y7 * 6))).bind fun (x9_0, x9_1, x9_2, x9_3, x9_4, x9_5) =>
((rdRow true h8 [.int .i64] x9_4).bind fun s11 =>
((rdRow true h8 [.str] x9_5).bind fun s12 =>
((spileref54_CorrectsP (x9_0, x9_1, x9_2, x9_3, s11, s12)).bind fun r10 =>
(bif (!r10) then (guardO (0 ≤ y7 ∧ y7 < ((r3.length : Nat) : Int)) ((rdT (.agg FS) h8 (V.add ((rowSV true FC r3).a) (Int.toNat y7 * 6))).bind fun (x13_0, x13_1, x13_2, x13_3, x13_4, x13_5) =>
((spileref54_effect (rowSV true FC r3) (x13_0, x13_1, x13_2, x13_3, x13_4, x13_5) h8).bind fun (((r14_0, r14_1, r14_2, r14_3, r14_4, r14_5), r15), h16) =>
(let h17 : H := H.new h16 [.int .i64 0, .int .i64 0, .int .i64 0, .int .i64 0, .slice .nil 0 0 false, .slice .nil 0 0 false] 6
((H.wrs h17 (.hp h16.next 6 0) [.int .i64 r14_0, .int .i64 r14_1, .int .i64 r14_2, .int .i64 r14_3, .slice r14_4.a r14_4.len r14_4.cap r14_4.tail, .slice r14_5.a r14_5.len r14_5.cap r14_5.tail]).bind fun h18 =>
((bif r15 then ((rdT (.leaf .slice) h18 (.hp h1.next 4 0)).bind fun x19 =>
((rdT (.agg FS) h18 (.hp h16.next 6 0)).bind fun (x20_0, x20_1, x20_2, x20_3, x20_4, x20_5) =>
((appendS h18 none 6 80 x19 [.int .i64 x20_0, .int .i64 x20_1, .int .i64 x20_2, .int .i64 x20_3, .slice x20_4.a x20_4.len x20_4.cap x20_4.tail, .slice x20_5.a x20_5.len x20_5.cap x20_5.tail] 1).bind fun (s23, h22) =>
((H.wrs h22 (.hp h1.next 4 0) [.slice s23.a s23.len s23.cap s23.tail]).bind fun h25 =>
(some (.next (), h25)))))) else (some (.next (), h18)) : Option (Flow (Unit) ((SV × SV × SV × SV)) × H)).bind fun (fl27, h26) => match fl27 with
| .next _ =>
(some (.more ((IntKind.wrap .i64 (y7 + 1)), h26)))
| .ret rr28 => (some (.done (.ret rr28, h26)))
| .ex0 _ => none
| .ex1 _ => none)))))) else (guardO (0 ≤ y7 ∧ y7 < ((r3.length : Nat) : Int)) ((rdT (.agg FS) h8 (V.add ((rowSV true FC r3).a) (Int.toNat y7 * 6))).bind fun (x29_0, x29_1, x29_2, x29_3, x29_4, x29_5) =>
((rdRow true h8 FC (rowSV true FC r3)).bind fun s31 =>
((rdRow true h8 [.int .i64] x29_4).bind fun s32 =>
((rdRow true h8 [.str] x29_5).bind fun s33 =>
((spileref54_refusedP s31 (x29_0, x29_1, x29_2, x29_3, s32, s33)).bind fun r30 =>
(bif r30 then (let h34 : H := H.reserve h8 0
((rdT (.leaf .slice) h34 (.hp h1.next 4 3)).bind fun x35 =>
(guardO (0 ≤ y7 ∧ y7 < ((r3.length : Nat) : Int)) (guardO (V.nn ((V.add ((rowSV true FC r3).a) (Int.toNat y7 * 6)) : V) = true) ((rdT (.agg KC) h34 (V.add (V.add ((rowSV true FC r3).a) (Int.toNat y7 * 6)) 0)).bind fun (x36_0, x36_1, x36_2) =>
((appendS h34 none 3 24 x35 [.int .i64 x36_0, .int .i64 x36_1, .int .i64 x36_2] 1).bind fun (s39, h38) =>
((H.wrs h38 (.hp h1.next 4 3) [.slice s39.a s39.len s39.cap s39.tail]).bind fun h41 =>
(some (.more ((IntKind.wrap .i64 (y7 + 1)), h41)))))))))) else (guardO (0 ≤ y7 ∧ y7 < ((r3.length : Nat) : Int)) ((rdT (.agg FS) h8 (V.add ((rowSV true FC r3).a) (Int.toNat y7 * 6))).bind fun (x42_0, x42_1, x42_2, x42_3, x42_4, x42_5) =>
((rdRow true h8 [.int .i64] x42_4).bind fun s45 =>
((rdRow true h8 [.str] x42_5).bind fun s46 =>
((spileref54_TargetP (x42_0, x42_1, x42_2, x42_3, s45, s46)).bind fun ((r43_0, r43_1, r43_2, r43_3, r43_4, r43_5), r44) =>
(let h47 : H := H.new h8 [.int .i64 0, .int .i64 0, .int .i64 0, .int .i64 0, .slice .nil 0 0 false, .slice .nil 0 0 false] 6
((H.wrs h47 (.hp h8.next 6 0) [.int .i64 r43_0, .int .i64 r43_1, .int .i64 r43_2, .int .i64 r43_3, .slice ((rowSV true [.int .i64] r43_4).a) r43_4.length r43_4.length true, .slice ((rowSV true [.str] r43_5).a) r43_5.length r43_5.length true]).bind fun h48 =>
((rdT (.agg KC) h48 (.hp h8.next 6 0)).bind fun (x49_0, x49_1, x49_2) =>
((rdRow true h48 FC (rowSV true FC r3)).bind fun s51 =>
((spileref54_findP s51 (x49_0, x49_1, x49_2)).bind fun r50 =>
((bif (decide (r50 < 0)) then (let h52 : H := H.reserve h48 0
((rdT (.leaf .slice) h52 (.hp h1.next 4 2)).bind fun x53 =>
(guardO (0 ≤ y7 ∧ y7 < ((r3.length : Nat) : Int)) (guardO (V.nn ((V.add ((rowSV true FC r3).a) (Int.toNat y7 * 6)) : V) = true) ((rdT (.agg KC) h52 (V.add (V.add ((rowSV true FC r3).a) (Int.toNat y7 * 6)) 0)).bind fun (x54_0, x54_1, x54_2) =>
((appendS h52 none 3 24 x53 [.int .i64 x54_0, .int .i64 x54_1, .int .i64 x54_2] 1).bind fun (s57, h56) =>
((H.wrs h56 (.hp h1.next 4 2) [.slice s57.a s57.len s57.cap s57.tail]).bind fun h59 =>
(some (.next (), h59))))))))) else (some (.next (), h48)) : Option (Flow (Unit) ((SV × SV × SV × SV)) × H)).bind fun (fl61, h60) => match fl61 with
| .next _ =>
(some (.more ((IntKind.wrap .i64 (y7 + 1)), h60)))
| .ret rr62 => (some (.done (.ret rr62, h60)))
| .ex0 _ => none
| .ex1 _ => none)))))))))))))))))))))))) else (some (.done (.ex0 (), h8))))
noncomputable def spileref54_Means (a0 : SV) (h : H) : Option (((SV × SV × SV × SV)) × H) :=
(let h1 : H := H.new h [.slice .nil 0 0 false, .slice .nil 0 0 false, .slice .nil 0 0 false, .slice .nil 0 0 false] 4
(let h2 : H := H.new h1 [.slice .nil 0 0 false, .slice .nil 0 0 false, .slice .nil 0 0 false, .slice .nil 0 0 false] 4
((rdRow true h2 FC a0).bind fun s5 =>
((spileref54_countingP s5).bind fun (r3, r4) =>
((H.wrs h2 (.hp h1.next 4 1) [.slice ((rowSV true KC r4).a) r4.length r4.length true]).bind fun h6 =>
((iter FUEL (spileref54_Means.loop1 h1 r3) (0, h6)).bind fun (fl64, h63) => match fl64 with
| .next _ => none
| .ret rr65 => (some (rr65, h63))
| .ex0 _ =>
((rdT (.agg [.slice, .slice, .slice, .slice]) h63 (.hp h1.next 4 0)).bind fun (x66_0, x66_1, x66_2, x66_3) =>
((H.wrs h63 (.hp h.next 4 0) [.slice x66_0.a x66_0.len x66_0.cap x66_0.tail, .slice x66_1.a x66_1.len x66_1.cap x66_1.tail, .slice x66_2.a x66_2.len x66_2.cap x66_2.tail, .slice x66_3.a x66_3.len x66_3.cap x66_3.tail]).bind fun h67 =>
((rdT (.agg [.slice, .slice, .slice, .slice]) h67 (.hp h.next 4 0 : V)).bind fun (x68_0, x68_1, x68_2, x68_3) =>
(some ((x68_0, x68_1, x68_2, x68_3), h67)))))
| .ex1 _ => none))))))
def spileref54_Means.A : Ann := { lits := [], conds := [(39, [], [], none, none), (74, [], [], none, none)], loops := [(5, [6], [.leaf (.int .i64)], [], [], some 0, none)], regs := [] }
theorem spileref54_Means.eq : ∀ (x : TT [.leaf .slice]) (h : H), evalFn Tryz.prog (spileref54_Means.tb) spileref54_Means.A Tryz.f61 (.one (.agg [.slice, .slice, .slice, .slice])) (TT.un [.leaf .slice] x) h = spileref54_Means x h := by
  intro x h
  kernel_rfl
noncomputable def spileref54_MeansP (a0 : (List Fct)) : Option (((List Fct) × (List Ky) × (List Ky) × (List Ky))) := (spileref54_Means (rowSV false FC a0) H.empty).bind fun p => rdRes false p.2 (.one (.agg [.row FC, .row KC, .row KC, .row KC])) (Res.un (.one (.agg [.slice, .slice, .slice, .slice])) p.1)
theorem spileref54_MeansP.eq : ∀ x : TT [.leaf (.row FC)], ((evalFn Tryz.prog (spileref54_Means.tb) spileref54_Means.A Tryz.f61 (.one (.agg [.slice, .slice, .slice, .slice])) (TT.lo false [.leaf (.row FC)] x) H.empty).bind fun p => rdRes false p.2 (.one (.agg [.row FC, .row KC, .row KC, .row KC])) (Res.un (.one (.agg [.slice, .slice, .slice, .slice])) p.1)) = spileref54_MeansP x := by
  intro x
  rw [show TT.lo false [.leaf (.row FC)] x = TT.un [.leaf .slice] ((rowSV false FC x)) from rfl, spileref54_Means.eq]
  rfl
noncomputable def spileref54_MeansP.e : Entry := mkP [.leaf (.row FC)] (.one (.agg [.row FC, .row KC, .row KC, .row KC])) fun x => spileref54_MeansP x
theorem spileref54_MeansP.ok : EntryOK Tryz.prog 61 (spileref54_MeansP.e) := mkP_ok (spileref54_Means.tbok) Tryz.mixed Tryz.func61 (by kernel_rfl) spileref54_MeansP.eq
/-! ### spile/spileref54.Merge: function 14 -/
noncomputable def spileref54_Merge.tb : Table := tab [(60, spileref54_CheckP.e), (61, spileref54_MeansP.e)] [] Table.nil
theorem spileref54_Merge.tbok : TabOK Tryz.prog (spileref54_Merge.tb) := TabOK.tab (TabOK.nil Tryz.prog) (all_cons spileref54_CheckP.ok (all_cons spileref54_MeansP.ok (all_nil _))) (all_nil _)
noncomputable def spileref54_Merge (a0 : SV) (h : H) : Option (((SV × SV × SV × SV) × Int) × H) :=
(let h1 : H := H.new h [.slice .nil 0 0 false, .slice .nil 0 0 false, .slice .nil 0 0 false, .slice .nil 0 0 false] 4
((rdRow true h1 FC a0).bind fun s3 =>
((spileref54_CheckP s3).bind fun r2 =>
(bif (!(decide (r2 = 0))) then ((H.wrs h1 (.hp h.next 4 0) [.slice .nil 0 0 false, .slice .nil 0 0 false, .slice .nil 0 0 false, .slice .nil 0 0 false]).bind fun h4 =>
((rdT (.agg [.slice, .slice, .slice, .slice]) h4 (.hp h.next 4 0 : V)).bind fun (x5_0, x5_1, x5_2, x5_3) =>
(some (((x5_0, x5_1, x5_2, x5_3), r2), h4)))) else ((rdRow true h1 FC a0).bind fun s7 =>
((spileref54_MeansP s7).bind fun (r6_0, r6_1, r6_2, r6_3) =>
((H.wrs h1 (.hp h.next 4 0) [.slice ((rowSV true FC r6_0).a) r6_0.length r6_0.length true, .slice ((rowSV true KC r6_1).a) r6_1.length r6_1.length true, .slice ((rowSV true KC r6_2).a) r6_2.length r6_2.length true, .slice ((rowSV true KC r6_3).a) r6_3.length r6_3.length true]).bind fun h8 =>
((rdT (.agg [.slice, .slice, .slice, .slice]) h8 (.hp h.next 4 0 : V)).bind fun (x9_0, x9_1, x9_2, x9_3) =>
(some (((x9_0, x9_1, x9_2, x9_3), 0), h8))))))))))
def spileref54_Merge.A : Ann := { lits := [], conds := [], loops := [], regs := [] }
theorem spileref54_Merge.eq : ∀ (x : TT [.leaf .slice]) (h : H), evalFn Tryz.prog (spileref54_Merge.tb) spileref54_Merge.A Tryz.f14 (.many [.agg [.slice, .slice, .slice, .slice], .leaf (.int .i64)]) (TT.un [.leaf .slice] x) h = spileref54_Merge x h := by
  intro x h
  kernel_rfl
noncomputable def spileref54_MergeP (a0 : (List Fct)) : Option (((List Fct) × (List Ky) × (List Ky) × (List Ky)) × Int) := (spileref54_Merge (rowSV false FC a0) H.empty).bind fun p => rdRes false p.2 (.many [.agg [.row FC, .row KC, .row KC, .row KC], .leaf (.int .i64)]) (Res.un (.many [.agg [.slice, .slice, .slice, .slice], .leaf (.int .i64)]) p.1)
theorem spileref54_MergeP.eq : ∀ x : TT [.leaf (.row FC)], ((evalFn Tryz.prog (spileref54_Merge.tb) spileref54_Merge.A Tryz.f14 (.many [.agg [.slice, .slice, .slice, .slice], .leaf (.int .i64)]) (TT.lo false [.leaf (.row FC)] x) H.empty).bind fun p => rdRes false p.2 (.many [.agg [.row FC, .row KC, .row KC, .row KC], .leaf (.int .i64)]) (Res.un (.many [.agg [.slice, .slice, .slice, .slice], .leaf (.int .i64)]) p.1)) = spileref54_MergeP x := by
  intro x
  rw [show TT.lo false [.leaf (.row FC)] x = TT.un [.leaf .slice] ((rowSV false FC x)) from rfl, spileref54_Merge.eq]
  rfl
noncomputable def spileref54_MergeP.e : Entry := mkP [.leaf (.row FC)] (.many [.agg [.row FC, .row KC, .row KC, .row KC], .leaf (.int .i64)]) fun x => spileref54_MergeP x
theorem spileref54_MergeP.ok : EntryOK Tryz.prog 14 (spileref54_MergeP.e) := mkP_ok (spileref54_Merge.tbok) Tryz.mixed Tryz.func14 (by kernel_rfl) spileref54_MergeP.eq
/-! ### spile/spileref54.Trace: function 16 -/
noncomputable def spileref54_Trace.tb : Table := tab [(60, spileref54_CheckP.e), (62, spileref54_countingP.e), (63, spileref54_CorrectsP.e), (64, spileref54_refusedP.e), (65, spileref54_TargetP.e)] [] Table.nil
theorem spileref54_Trace.tbok : TabOK Tryz.prog (spileref54_Trace.tb) := TabOK.tab (TabOK.nil Tryz.prog) (all_cons spileref54_CheckP.ok (all_cons spileref54_countingP.ok (all_cons spileref54_CorrectsP.ok (all_cons spileref54_refusedP.ok (all_cons spileref54_TargetP.ok (all_nil _)))))) (all_nil _)
noncomputable def spileref54_Trace.loop1 (h : H) (r4 : List Fct) : (SV × Int) × H → Option (Stp ((SV × Int) × H) (Flow (SV) (SV × Int) × H)) := fun ((y7, y8), h9) =>
(bif (decide (y8 < ((r4.length : Nat) : Int))) then (((guardO (0 ≤ y8 ∧ y8 < ((r4.length : Nat) : Int)) ((rdT (.agg FS) h9 (V.add ((rowSV true FC r4).a) (Int.toNat y8 * 6))).bind fun (x10_0, x10_1, x10_2, x10_3, x10_4, x10_5) =>
((rdRow true h9 [.int .i64] x10_4).bind fun s12 =>
((rdRow true h9 [.str] x10_5).bind fun s13 =>
((spileref54_CorrectsP (x10_0, x10_1, x10_2, x10_3, s12, s13)).bind fun r11 =>
(bif !(!r11) then (guardO (0 ≤ y8 ∧ y8 < ((r4.length : Nat) : Int)) ((rdT (.agg FS) h9 (V.add ((rowSV true FC r4).a) (Int.toNat y8 * 6))).bind fun (x14_0, x14_1, x14_2, x14_3, x14_4, x14_5) =>
((rdRow true h9 FC (rowSV true FC r4)).bind fun s16 =>
((rdRow true h9 [.int .i64] x14_4).bind fun s17 =>
((rdRow true h9 [.str] x14_5).bind fun s18 =>
((spileref54_refusedP s16 (x14_0, x14_1, x14_2, x14_3, s17, s18)).bind fun r15 =>
(some (r15, h9)))))))) else (some (true, h9))))))))).bind fun (y19, h20) =>
(bif y19 then (some (.more ((y7, (IntKind.wrap .i64 (y8 + 1))), h20))) else (guardO (0 ≤ y8 ∧ y8 < ((r4.length : Nat) : Int)) ((rdT (.agg FS) h20 (V.add ((rowSV true FC r4).a) (Int.toNat y8 * 6))).bind fun (x21_0, x21_1, x21_2, x21_3, x21_4, x21_5) =>
((rdRow true h20 [.int .i64] x21_4).bind fun s24 =>
((rdRow true h20 [.str] x21_5).bind fun s25 =>
((spileref54_TargetP (x21_0, x21_1, x21_2, x21_3, s24, s25)).bind fun ((r22_0, r22_1, r22_2, r22_3, r22_4, r22_5), r23) =>
(let h26 : H := H.new h20 [.int .i64 0, .int .i64 0, .int .i64 0, .int .i64 0, .slice .nil 0 0 false, .slice .nil 0 0 false] 6
((H.wrs h26 (.hp h20.next 6 0) [.int .i64 r22_0, .int .i64 r22_1, .int .i64 r22_2, .int .i64 r22_3, .slice ((rowSV true [.int .i64] r22_4).a) r22_4.length r22_4.length true, .slice ((rowSV true [.str] r22_5).a) r22_5.length r22_5.length true]).bind fun h27 =>
((rdT (.agg KC) h27 (.hp h20.next 6 0)).bind fun (x28_0, x28_1, x28_2) =>
((rdT (.agg KC) h27 (.hp h.next 3 0)).bind fun (x29_0, x29_1, x29_2) =>
((bif (decide (x28_0 = x29_0) && (decide (x28_1 = x29_1) && (decide (x28_2 = x29_2)))) then (guardO (0 ≤ y8 ∧ y8 < ((r4.length : Nat) : Int)) (guardO (V.nn ((V.add ((rowSV true FC r4).a) (Int.toNat y8 * 6)) : V) = true) ((rdT (.agg KC) h27 (V.add (V.add ((rowSV true FC r4).a) (Int.toNat y8 * 6)) 0)).bind fun (x30_0, x30_1, x30_2) =>
((appendS h27 none 3 24 y7 [.int .i64 x30_0, .int .i64 x30_1, .int .i64 x30_2] 1).bind fun (s33, h32) =>
(some (.next s33, h32)))))) else (some (.next y7, h27)) : Option (Flow (SV) (SV × Int) × H)).bind fun (fl36, h35) => match fl36 with
| .next y37 =>
(some (.more ((y37, (IntKind.wrap .i64 (y8 + 1))), h35)))
| .ret rr38 => (some (.done (.ret rr38, h35)))
| .ex0 _ => none
| .ex1 _ => none)))))))))))) else (some (.done (.ex0 y7, h9))))
noncomputable def spileref54_Trace (a0 : SV) (a1 : Ky) (h : H) : Option ((SV × Int) × H) :=
(match a1 with
| (a1_0, a1_1, a1_2) =>
(let h1 : H := H.new h [.int .i64 a1_0, .int .i64 a1_1, .int .i64 a1_2] 3
((rdRow true h1 FC a0).bind fun s3 =>
((spileref54_CheckP s3).bind fun r2 =>
(bif (!(decide (r2 = 0))) then (some ((⟨.nil, 0, 0, false⟩, r2), h1)) else ((rdRow true h1 FC a0).bind fun s6 =>
((spileref54_countingP s6).bind fun (r4, r5) =>
((iter FUEL (spileref54_Trace.loop1 h r4) ((⟨.nil, 0, 0, false⟩, 0), h1)).bind fun (fl40, h39) => match fl40 with
| .next _ => none
| .ret rr41 => (some (rr41, h39))
| .ex0 y42 =>
(some ((y42, 0), h39))
| .ex1 _ => none))))))))
def spileref54_Trace.A : Ann := { lits := [], conds := [(54, [9], [.leaf .slice], none, none)], loops := [(7, [9, 10], [.leaf .slice, .leaf (.int .i64)], [9], [.leaf .slice], some 0, none)], regs := [(9, [42], [.leaf .bool])] }
theorem spileref54_Trace.eq : ∀ (x : TT [.leaf .slice, .agg KC]) (h : H), evalFn Tryz.prog (spileref54_Trace.tb) spileref54_Trace.A Tryz.f16 (.many [.leaf .slice, .leaf (.int .i64)]) (TT.un [.leaf .slice, .agg KC] x) h = spileref54_Trace x.1 x.2 h := by
  intro x h
  kernel_rfl
noncomputable def spileref54_TraceP (a0 : (List Fct)) (a1 : Ky) : Option ((List Ky) × Int) := (spileref54_Trace (rowSV false FC a0) a1 H.empty).bind fun p => rdRes false p.2 (.many [.leaf (.row KC), .leaf (.int .i64)]) (Res.un (.many [.leaf .slice, .leaf (.int .i64)]) p.1)
theorem spileref54_TraceP.eq : ∀ x : TT [.leaf (.row FC), .agg KC], ((evalFn Tryz.prog (spileref54_Trace.tb) spileref54_Trace.A Tryz.f16 (.many [.leaf .slice, .leaf (.int .i64)]) (TT.lo false [.leaf (.row FC), .agg KC] x) H.empty).bind fun p => rdRes false p.2 (.many [.leaf (.row KC), .leaf (.int .i64)]) (Res.un (.many [.leaf .slice, .leaf (.int .i64)]) p.1)) = spileref54_TraceP x.1 x.2 := by
  intro x
  rw [show TT.lo false [.leaf (.row FC), .agg KC] x = TT.un [.leaf .slice, .agg KC] ((rowSV false FC x.1), x.2) from rfl, spileref54_Trace.eq]
  rfl
noncomputable def spileref54_TraceP.e : Entry := mkP [.leaf (.row FC), .agg KC] (.many [.leaf (.row KC), .leaf (.int .i64)]) fun x => spileref54_TraceP x.1 x.2
theorem spileref54_TraceP.ok : EntryOK Tryz.prog 16 (spileref54_TraceP.e) := mkP_ok (spileref54_Trace.tbok) Tryz.mixed Tryz.func16 (by kernel_rfl) spileref54_TraceP.eq
/-! ### spile/spileref54.SameKeys: function 66 -/
noncomputable def spileref54_SameKeys.tb : Table := tab [] [] Table.nil
theorem spileref54_SameKeys.tbok : TabOK Tryz.prog (spileref54_SameKeys.tb) := TabOK.tab (TabOK.nil Tryz.prog) (all_nil _) (all_nil _)
noncomputable def spileref54_SameKeys.loop1 (a0 : SV) (a1 : SV) : (Int) × H → Option (Stp ((Int) × H) (Flow (Unit) (Bool) × H)) := fun (y1, h2) =>
(bif (decide (y1 < ((a0.len : Nat) : Int))) then (let h3 : H := H.reserve h2 0
(guardO (0 ≤ y1 ∧ y1 < ((a0.len : Nat) : Int)) ((rdT (.agg KC) h3 (V.add a0.a (Int.toNat y1 * 3))).bind fun (x4_0, x4_1, x4_2) =>
(guardO (0 ≤ y1 ∧ y1 < ((a1.len : Nat) : Int)) ((rdT (.agg KC) h3 (V.add a1.a (Int.toNat y1 * 3))).bind fun (x5_0, x5_1, x5_2) =>
(bif (!(decide (x4_0 = x5_0) && (decide (x4_1 = x5_1) && (decide (x4_2 = x5_2))))) then (some (.done (.ret false, h3))) else (some (.more ((IntKind.wrap .i64 (y1 + 1)), h3))))))))) else (some (.done (.ex0 (), h2))))
noncomputable def spileref54_SameKeys (a0 : SV) (a1 : SV) (h : H) : Option ((Bool) × H) :=
(bif (!(decide (((a0.len : Nat) : Int) = ((a1.len : Nat) : Int)))) then (some (false, h)) else ((iter FUEL (spileref54_SameKeys.loop1 a0 a1) (0, h)).bind fun (fl7, h6) => match fl7 with
| .next _ => none
| .ret rr8 => (some (rr8, h6))
| .ex0 _ =>
(some (true, h6))
| .ex1 _ => none))
def spileref54_SameKeys.A : Ann := { lits := [], conds := [], loops := [(4, [5], [.leaf (.int .i64)], [], [], some 0, none)], regs := [] }
theorem spileref54_SameKeys.eq : ∀ (x : TT [.leaf .slice, .leaf .slice]) (h : H), evalFn Tryz.prog (spileref54_SameKeys.tb) spileref54_SameKeys.A Tryz.f66 (.one (.leaf .bool)) (TT.un [.leaf .slice, .leaf .slice] x) h = spileref54_SameKeys x.1 x.2 h := by
  intro x h
  kernel_rfl
noncomputable def spileref54_SameKeysP (a0 : (List Ky)) (a1 : (List Ky)) : Option (Bool) := (spileref54_SameKeys (rowSV false KC a0) (rowSV false KC a1) H.empty).bind fun p => rdRes false p.2 (.one (.leaf .bool)) (Res.un (.one (.leaf .bool)) p.1)
theorem spileref54_SameKeysP.eq : ∀ x : TT [.leaf (.row KC), .leaf (.row KC)], ((evalFn Tryz.prog (spileref54_SameKeys.tb) spileref54_SameKeys.A Tryz.f66 (.one (.leaf .bool)) (TT.lo false [.leaf (.row KC), .leaf (.row KC)] x) H.empty).bind fun p => rdRes false p.2 (.one (.leaf .bool)) (Res.un (.one (.leaf .bool)) p.1)) = spileref54_SameKeysP x.1 x.2 := by
  intro x
  rw [show TT.lo false [.leaf (.row KC), .leaf (.row KC)] x = TT.un [.leaf .slice, .leaf .slice] ((rowSV false KC x.1), (rowSV false KC x.2)) from rfl, spileref54_SameKeys.eq]
  rfl
noncomputable def spileref54_SameKeysP.e : Entry := mkP [.leaf (.row KC), .leaf (.row KC)] (.one (.leaf .bool)) fun x => spileref54_SameKeysP x.1 x.2
theorem spileref54_SameKeysP.ok : EntryOK Tryz.prog 66 (spileref54_SameKeysP.e) := mkP_ok (spileref54_SameKeys.tbok) Tryz.mixed Tryz.func66 (by kernel_rfl) spileref54_SameKeysP.eq
/-! ### spile/spileref54.Same: function 17 -/
noncomputable def spileref54_Same.tb : Table := tab [(25, spileref53_SameP.e), (66, spileref54_SameKeysP.e)] [] Table.nil
theorem spileref54_Same.tbok : TabOK Tryz.prog (spileref54_Same.tb) := TabOK.tab (TabOK.nil Tryz.prog) (all_cons spileref53_SameP.ok (all_cons spileref54_SameKeysP.ok (all_nil _))) (all_nil _)
noncomputable def spileref54_Same (a0 : (SV × SV × SV × SV)) (a1 : (SV × SV × SV × SV)) (h : H) : Option ((Bool) × H) :=
(match a0 with
| (a0_0, a0_1, a0_2, a0_3) =>
(match a1 with
| (a1_0, a1_1, a1_2, a1_3) =>
(let h1 : H := H.new h [.slice a0_0.a a0_0.len a0_0.cap a0_0.tail, .slice a0_1.a a0_1.len a0_1.cap a0_1.tail, .slice a0_2.a a0_2.len a0_2.cap a0_2.tail, .slice a0_3.a a0_3.len a0_3.cap a0_3.tail] 4
(let h2 : H := H.new h1 [.slice a1_0.a a1_0.len a1_0.cap a1_0.tail, .slice a1_1.a a1_1.len a1_1.cap a1_1.tail, .slice a1_2.a a1_2.len a1_2.cap a1_2.tail, .slice a1_3.a a1_3.len a1_3.cap a1_3.tail] 4
((((rdT (.leaf .slice) h2 (.hp h.next 4 0)).bind fun x3 =>
((rdT (.leaf .slice) h2 (.hp h1.next 4 0)).bind fun x4 =>
((rdRow true h2 FC x3).bind fun s6 =>
((rdRow true h2 FC x4).bind fun s7 =>
((spileref53_SameP s6 s7).bind fun r5 =>
(bif r5 then ((rdT (.leaf .slice) h2 (.hp h.next 4 1)).bind fun x8 =>
((rdT (.leaf .slice) h2 (.hp h1.next 4 1)).bind fun x9 =>
((rdRow true h2 KC x8).bind fun s11 =>
((rdRow true h2 KC x9).bind fun s12 =>
((spileref54_SameKeysP s11 s12).bind fun r10 =>
(bif r10 then ((rdT (.leaf .slice) h2 (.hp h.next 4 2)).bind fun x13 =>
((rdT (.leaf .slice) h2 (.hp h1.next 4 2)).bind fun x14 =>
((rdRow true h2 KC x13).bind fun s16 =>
((rdRow true h2 KC x14).bind fun s17 =>
((spileref54_SameKeysP s16 s17).bind fun r15 =>
(bif r15 then ((rdT (.leaf .slice) h2 (.hp h.next 4 3)).bind fun x18 =>
((rdT (.leaf .slice) h2 (.hp h1.next 4 3)).bind fun x19 =>
((rdRow true h2 KC x18).bind fun s21 =>
((rdRow true h2 KC x19).bind fun s22 =>
((spileref54_SameKeysP s21 s22).bind fun r20 =>
(some (r20, h2))))))) else (some (false, h2)))))))) else (some (false, h2)))))))) else (some (false, h2))))))))).bind fun (y23, h24) =>
(some (y23, h24)))))))
def spileref54_Same.A : Ann := { lits := [], conds := [], loops := [], regs := [(1, [4], [.leaf .bool])] }
theorem spileref54_Same.eq : ∀ (x : TT [.agg [.slice, .slice, .slice, .slice], .agg [.slice, .slice, .slice, .slice]]) (h : H), evalFn Tryz.prog (spileref54_Same.tb) spileref54_Same.A Tryz.f17 (.one (.leaf .bool)) (TT.un [.agg [.slice, .slice, .slice, .slice], .agg [.slice, .slice, .slice, .slice]] x) h = spileref54_Same x.1 x.2 h := by
  intro x h
  kernel_rfl
noncomputable def spileref54_SameP (a0 : ((List Fct) × (List Ky) × (List Ky) × (List Ky))) (a1 : ((List Fct) × (List Ky) × (List Ky) × (List Ky))) : Option (Bool) := (spileref54_Same (rowSV false FC a0.1, rowSV false KC a0.2.1, rowSV false KC a0.2.2.1, rowSV false KC a0.2.2.2) (rowSV false FC a1.1, rowSV false KC a1.2.1, rowSV false KC a1.2.2.1, rowSV false KC a1.2.2.2) H.empty).bind fun p => rdRes false p.2 (.one (.leaf .bool)) (Res.un (.one (.leaf .bool)) p.1)
theorem spileref54_SameP.eq : ∀ x : TT [.agg [.row FC, .row KC, .row KC, .row KC], .agg [.row FC, .row KC, .row KC, .row KC]], ((evalFn Tryz.prog (spileref54_Same.tb) spileref54_Same.A Tryz.f17 (.one (.leaf .bool)) (TT.lo false [.agg [.row FC, .row KC, .row KC, .row KC], .agg [.row FC, .row KC, .row KC, .row KC]] x) H.empty).bind fun p => rdRes false p.2 (.one (.leaf .bool)) (Res.un (.one (.leaf .bool)) p.1)) = spileref54_SameP x.1 x.2 := by
  intro x
  rw [show TT.lo false [.agg [.row FC, .row KC, .row KC, .row KC], .agg [.row FC, .row KC, .row KC, .row KC]] x = TT.un [.agg [.slice, .slice, .slice, .slice], .agg [.slice, .slice, .slice, .slice]] ((rowSV false FC x.1.1, rowSV false KC x.1.2.1, rowSV false KC x.1.2.2.1, rowSV false KC x.1.2.2.2), (rowSV false FC x.2.1, rowSV false KC x.2.2.1, rowSV false KC x.2.2.2.1, rowSV false KC x.2.2.2.2)) from rfl, spileref54_Same.eq]
  rfl
noncomputable def spileref54_SameP.e : Entry := mkP [.agg [.row FC, .row KC, .row KC, .row KC], .agg [.row FC, .row KC, .row KC, .row KC]] (.one (.leaf .bool)) fun x => spileref54_SameP x.1 x.2
theorem spileref54_SameP.ok : EntryOK Tryz.prog 17 (spileref54_SameP.e) := mkP_ok (spileref54_Same.tbok) Tryz.mixed Tryz.func17 (by kernel_rfl) spileref54_SameP.eq
/-! ### spile/spileref54.Add: function 22 -/
/-! ### spile/spileref54.without: function 74 -/
/-! ### spile/spileref54.Differ: function 24 -/
/-! ### spile/spileref54.form: function 76 -/
noncomputable def spileref54_form.tb : Table := tab [(65, spileref54_TargetP.e), (71, spileref53_CheckP.e)] [] Table.nil
theorem spileref54_form.tbok : TabOK Tryz.prog (spileref54_form.tb) := TabOK.tab (TabOK.nil Tryz.prog) (all_cons spileref54_TargetP.ok (all_cons spileref53_CheckP.ok (all_nil _))) (all_nil _)
noncomputable def spileref54_form (a0 : Fsv) (h : H) : Option ((Fsv × Int) × H) :=
(match a0 with
| (a0_0, a0_1, a0_2, a0_3, a0_4, a0_5) =>
(let h1 : H := H.new h [.int .i64 a0_0, .int .i64 a0_1, .int .i64 a0_2, .int .i64 a0_3, .slice a0_4.a a0_4.len a0_4.cap a0_4.tail, .slice a0_5.a a0_5.len a0_5.cap a0_5.tail] 6
(let h2 : H := H.new h1 [.int .i64 0, .int .i64 0, .int .i64 0, .int .i64 0, .slice .nil 0 0 false, .slice .nil 0 0 false] 6
((rdT (.agg FS) h2 (.hp h.next 6 0)).bind fun (x3_0, x3_1, x3_2, x3_3, x3_4, x3_5) =>
((rdRow true h2 [.int .i64] x3_4).bind fun s5 =>
((rdRow true h2 [.str] x3_5).bind fun s6 =>
((spileref53_CheckP (x3_0, x3_1, x3_2, x3_3, s5, s6)).bind fun r4 =>
(bif (!(decide (r4 = 0))) then ((H.wrs h2 (.hp h1.next 6 0) [.int .i64 0, .int .i64 0, .int .i64 0, .int .i64 0, .slice .nil 0 0 false, .slice .nil 0 0 false]).bind fun h7 =>
((rdT (.agg FS) h7 (.hp h1.next 6 0 : V)).bind fun (x8_0, x8_1, x8_2, x8_3, x8_4, x8_5) =>
(some (((x8_0, x8_1, x8_2, x8_3, x8_4, x8_5), 1), h7)))) else ((rdT (.agg FS) h2 (.hp h.next 6 0)).bind fun (x9_0, x9_1, x9_2, x9_3, x9_4, x9_5) =>
((rdRow true h2 [.int .i64] x9_4).bind fun s12 =>
((rdRow true h2 [.str] x9_5).bind fun s13 =>
((spileref54_TargetP (x9_0, x9_1, x9_2, x9_3, s12, s13)).bind fun ((r10_0, r10_1, r10_2, r10_3, r10_4, r10_5), r11) =>
(let h14 : H := H.new h2 [.int .i64 0, .int .i64 0, .int .i64 0, .int .i64 0, .slice .nil 0 0 false, .slice .nil 0 0 false] 6
((H.wrs h14 (.hp h2.next 6 0) [.int .i64 r10_0, .int .i64 r10_1, .int .i64 r10_2, .int .i64 r10_3, .slice ((rowSV true [.int .i64] r10_4).a) r10_4.length r10_4.length true, .slice ((rowSV true [.str] r10_5).a) r10_5.length r10_5.length true]).bind fun h15 =>
(bif (!r11) then ((H.wrs h15 (.hp h1.next 6 0) [.int .i64 0, .int .i64 0, .int .i64 0, .int .i64 0, .slice .nil 0 0 false, .slice .nil 0 0 false]).bind fun h16 =>
((rdT (.agg FS) h16 (.hp h1.next 6 0 : V)).bind fun (x17_0, x17_1, x17_2, x17_3, x17_4, x17_5) =>
(some (((x17_0, x17_1, x17_2, x17_3, x17_4, x17_5), 1), h16)))) else ((rdT (.agg FS) h15 (.hp h.next 6 0)).bind fun (x18_0, x18_1, x18_2, x18_3, x18_4, x18_5) =>
((H.wrs h15 (.hp h1.next 6 0) [.int .i64 x18_0, .int .i64 x18_1, .int .i64 x18_2, .int .i64 x18_3, .slice x18_4.a x18_4.len x18_4.cap x18_4.tail, .slice x18_5.a x18_5.len x18_5.cap x18_5.tail]).bind fun h19 =>
((rdT (.agg FS) h19 (.hp h1.next 6 0 : V)).bind fun (x20_0, x20_1, x20_2, x20_3, x20_4, x20_5) =>
(some (((x20_0, x20_1, x20_2, x20_3, x20_4, x20_5), 0), h19))))))))))))))))))))
def spileref54_form.A : Ann := { lits := [], conds := [], loops := [], regs := [] }
theorem spileref54_form.eq : ∀ (x : TT [.agg FS]) (h : H), evalFn Tryz.prog (spileref54_form.tb) spileref54_form.A Tryz.f76 (.many [.agg FS, .leaf (.int .i64)]) (TT.un [.agg FS] x) h = spileref54_form x h := by
  intro x h
  kernel_rfl
noncomputable def spileref54_form.e : Entry := mkX [.agg FS] (.many [.agg FS, .leaf (.int .i64)]) fun x h => spileref54_form x h
theorem spileref54_form.ok : EntryOK Tryz.prog 76 (spileref54_form.e) := mkX_ok (spileref54_form.tbok) Tryz.mixed Tryz.func76 (by kernel_rfl) (spileref54_form.eq)
end Go.Proofs.YtjkjcnadgpndoaaGreat
/- The functions of the program as Lean functions, each with the equation by which the evaluator is that function. Written by a program of this session (evdrive.py). Conditions: none. -/
namespace Go.Proofs.YtjkjcnadgpndoaaGreat
open Go Go.Proofs.YtjkjcnadgpndoaaGreat.Ev
set_option maxRecDepth 100000
set_option linter.unusedVariables false
/-! ### spile/spileref54.Undo: function 29 -/
/-! ### spile/spilelaw54.ArrivalArrives$1: function 32 -/
/-! ### slices.DeleteFunc[[]spile/api.Fact,spile/api.Fact]: function 34 -/
/-! ### slices.Reverse[[]spile/api.Fact,spile/api.Fact]: function 41 -/
/-! ### slices.Grow[[]spile/api.Fact,spile/api.Fact]: function 86 -/
/-! ### slices.Concat[[]spile/api.Fact,spile/api.Fact]: function 42 -/
/-! ### spile/spilelaw54.ArrivalLast$1: function 44 -/
/-! ### slices.Delete[[]spile/api.Fact,spile/api.Fact]: function 45 -/
/-! ### spile/spilelaw54.ArrivalLast$2: function 48 -/
/-! ### slices.Index[[]spile/api.Key,spile/api.Key]: function 87 -/
end Go.Proofs.YtjkjcnadgpndoaaGreat
/- The functions of the program as Lean functions, each with the equation by which the evaluator is that function. Written by a program of this session (evdrive.py). Conditions: none. -/
namespace Go.Proofs.YtjkjcnadgpndoaaGreat
open Go Go.Proofs.YtjkjcnadgpndoaaGreat.Ev
set_option maxRecDepth 100000
set_option linter.unusedVariables false
/-! ### slices.Contains[[]spile/api.Key,spile/api.Key]: function 49 -/
/-! ### spile/spilelaw54.ArrivalLast$3: function 50 -/
end Go.Proofs.YtjkjcnadgpndoaaGreat
/- The order of keys and of facts, in plain numbers; what cmp.Compare, cmp.Or, slices.Compare, fact.Keys and fact.Compare compute. Conditions: those of each law. -/
namespace Go.Proofs.YtjkjcnadgpndoaaGreat
open Go Go.Proofs.YtjkjcnadgpndoaaGreat.Ev
set_option linter.unusedVariables false
set_option linter.unusedSimpArgs false
set_option maxRecDepth 100000
set_option maxHeartbeats 4000000
def keyF (f : Fct) : Ky := (f.1, f.2.1, f.2.2.1)
def cmpI (a b : Int) : Int := if a < b then -1 else if b < a then 1 else 0
def cmpT (a b : ByteArray) : Int := if Op.bytesLess a.toList b.toList = true then -1 else if a = b then 0 else 1
def cmpL {α : Type} (c : α → α → Int) : List α → List α → Int
  | [], [] => 0
  | [], _ :: _ => -1
  | _ :: _, [] => 1
  | x :: xs, y :: ys => if c x y ≠ 0 then c x y else cmpL c xs ys
def orI (a b : Int) : Int := if a ≠ 0 then a else b
def cmpK (a b : Ky) : Int := orI (cmpI a.1 b.1) (orI (cmpI a.2.1 b.2.1) (cmpI a.2.2 b.2.2))
def cmpF (a b : Fct) : Int := orI (cmpK (keyF a) (keyF b)) (orI (cmpI a.2.2.2.1 b.2.2.2.1) (orI (cmpL cmpI a.2.2.2.2.1 b.2.2.2.2.1) (cmpL cmpT a.2.2.2.2.2 b.2.2.2.2.2)))
/-- A total order by a number's sign. -/
structure TO {α : Type} (c : α → α → Int) : Prop where
  refl : ∀ x, c x x = 0
  zero : ∀ x y, c x y = 0 → x = y
  anti : ∀ x y, c x y < 0 ↔ 0 < c y x
  trans : ∀ x y z, c x y < 0 → c y z < 0 → c x z < 0
theorem TO.ord {α : Type} {c : α → α → Int} (t : TO c) : Ord3 c :=
  ⟨t.refl, t.anti, t.trans, fun x y z h k => by rw [t.zero x y h]; exact k, fun x y z h k => by rw [← t.zero y z k]; exact h⟩
theorem TO.iff {α : Type} {c : α → α → Int} (t : TO c) {x y : α} : c x y = 0 ↔ x = y := ⟨t.zero x y, fun h => by rw [h]; exact t.refl y⟩
theorem cmpI_to : TO cmpI := by
  refine ⟨fun x => ?_, fun x y h => ?_, fun x y => ?_, fun x y z h k => ?_⟩ <;> unfold cmpI at * <;> (repeat' split at *) <;> omega
theorem lt_bytes (x y : ByteArray) : Op.bytesLess x.toList y.toList = decide (x.toList < y.toList) := Proofs.bytesLess_eq _ _
theorem toList_inj {x y : ByteArray} (h : x.toList = y.toList) : x = y := by
  rw [ByteArray.toList_eq, ByteArray.toList_eq] at h
  cases x; cases y
  simp only at h
  congr 1
  exact Array.toList_inj.1 h
theorem cmpT_to : TO cmpT := by
  have tri : ∀ x y : ByteArray, ¬ x.toList < y.toList → ¬ y.toList < x.toList → x = y := fun x y h1 h2 => toList_inj (by
    have h1' := List.not_lt.1 h1
    have h2' := List.not_lt.1 h2
    exact List.le_antisymm h2' h1')
  refine ⟨fun x => ?_, fun x y h => ?_, fun x y => ?_, fun x y z h k => ?_⟩ <;> unfold cmpT at * <;> simp only [lt_bytes, decide_eq_true_eq] at *
  · rw [if_neg (List.lt_irrefl _)]; rfl
  · split at h
    · omega
    · split at h
      · assumption
      · omega
  · by_cases h1 : x.toList < y.toList
    · have h2 : ¬ y.toList < x.toList := List.lt_asymm h1
      have h3 : ¬ y = x := fun e => by rw [e] at h1; exact List.lt_irrefl _ h1
      simp [h1, h2, h3]
    · by_cases h2 : y.toList < x.toList
      · have h3 : ¬ x = y := fun e => by rw [e] at h2; exact List.lt_irrefl _ h2
        simp [h1, h2, h3]
      · have := tri x y h1 h2
        subst this
        simp [h1]
  · have h1 : x.toList < y.toList := by
      split at h
      · assumption
      · split at h <;> omega
    have h2 : y.toList < z.toList := by
      split at k
      · assumption
      · split at k <;> omega
    rw [if_pos (List.lt_trans h1 h2)]
    omega
theorem lex_to {α β : Type} {c : α → α → Int} {d : β → β → Int} (h : TO c) (k : TO d) : TO fun x y : α × β => orI (c x.1 y.1) (d x.2 y.2) := by
  refine ⟨fun x => ?_, fun x y e => ?_, fun x y => ?_, fun x y z e1 e2 => ?_⟩ <;> unfold orI at *
  · simp [h.refl, k.refl]
  · by_cases h1 : c x.1 y.1 = 0
    · simp only [h1, ne_eq, not_true_eq_false, if_false] at e
      exact Prod.ext (h.zero _ _ h1) (k.zero _ _ e)
    · simp only [ne_eq, h1, not_false_eq_true, if_true] at e
  · by_cases h1 : x.1 = y.1
    · rw [h1, h.refl]; simpa using k.anti x.2 y.2
    · have h2 : c x.1 y.1 ≠ 0 := fun e => h1 (h.zero _ _ e)
      have h3 : c y.1 x.1 ≠ 0 := fun e => h1 (h.zero _ _ e).symm
      simpa [h2, h3] using h.anti x.1 y.1
  · by_cases h1 : x.1 = y.1
    · simp only [h1, h.refl, ne_eq, not_true_eq_false, if_false] at e1
      by_cases h2 : y.1 = z.1
      · simp only [h2, h.refl, ne_eq, not_true_eq_false, if_false] at e2
        rw [h1, h2, h.refl]
        simpa using k.trans _ _ _ e1 e2
      · have h3 : c y.1 z.1 ≠ 0 := fun e => h2 (h.zero _ _ e)
        simp only [ne_eq, h3, not_false_eq_true, if_true] at e2
        rw [h1]
        simpa [h3] using e2
    · have h3 : c x.1 y.1 ≠ 0 := fun e => h1 (h.zero _ _ e)
      simp only [ne_eq, h3, not_false_eq_true, if_true] at e1
      have e3 : c x.1 z.1 < 0 := by
        by_cases h2 : y.1 = z.1
        · rw [← h2]; exact e1
        · have h4 : c y.1 z.1 ≠ 0 := fun e => h2 (h.zero _ _ e)
          simp only [ne_eq, h4, not_false_eq_true, if_true] at e2
          exact h.trans _ _ _ e1 e2
      rw [if_pos (show c x.1 z.1 ≠ 0 by omega)]
      exact e3
theorem comap_to {α β : Type} {c : β → β → Int} (h : TO c) (f : α → β) (hf : ∀ x y, f x = f y → x = y) : TO fun x y => c (f x) (f y) :=
  ⟨fun x => h.refl _, fun x y e => hf _ _ (h.zero _ _ e), fun x y => h.anti _ _, fun x y z => h.trans _ _ _⟩
theorem list_to {α : Type} {c : α → α → Int} (h : TO c) : TO (cmpL c) := by
  refine ⟨fun x => ?_, fun x => ?_, fun x => ?_, fun x => ?_⟩
  · induction x with
    | nil => rfl
    | cons a x ih => simp [cmpL, h.refl, ih]
  · induction x with
    | nil => intro y; cases y <;> simp [cmpL]
    | cons a x ih =>
      intro y
      cases y with
      | nil => simp [cmpL]
      | cons b y =>
        simp only [cmpL]
        by_cases e : c a b = 0
        · rw [if_neg (by simpa using e)]
          intro k
          rw [h.zero _ _ e, ih y k]
        · rw [if_pos e]
          intro k
          exact absurd k e
  · induction x with
    | nil => intro y; cases y <;> simp [cmpL]
    | cons a x ih =>
      intro y
      cases y with
      | nil => simp [cmpL]
      | cons b y =>
        simp only [cmpL]
        by_cases e : a = b
        · subst e; rw [h.refl]; simpa using ih y
        · have h1 : c a b ≠ 0 := fun k => e (h.zero _ _ k)
          have h2 : c b a ≠ 0 := fun k => e (h.zero _ _ k).symm
          rw [if_pos h1, if_pos h2]
          exact h.anti a b
  · induction x with
    | nil =>
      intro y z h1 h2
      cases y with
      | nil => simp [cmpL] at h1
      | cons b y => cases z <;> simp [cmpL] at *
    | cons a x ih =>
      intro y z h1 h2
      cases y with
      | nil => simp [cmpL] at h1
      | cons b y =>
        cases z with
        | nil => simp [cmpL] at h2
        | cons d z =>
          simp only [cmpL] at *
          by_cases e1 : a = b
          · subst e1
            rw [if_neg (by simp [h.refl])] at h1
            by_cases e2 : a = d
            · subst e2
              rw [if_neg (by simp [h.refl])] at h2
              rw [if_neg (by simp [h.refl])]
              exact ih _ _ h1 h2
            · have k2 : c a d ≠ 0 := fun k => e2 (h.zero _ _ k)
              rw [if_pos k2] at h2 ⊢
              exact h2
          · have k1 : c a b ≠ 0 := fun k => e1 (h.zero _ _ k)
            rw [if_pos k1] at h1
            have e3 : c a d < 0 := by
              by_cases e2 : b = d
              · rw [← e2]; exact h1
              · have k2 : c b d ≠ 0 := fun k => e2 (h.zero _ _ k)
                rw [if_pos k2] at h2
                exact h.trans _ _ _ h1 h2
            rw [if_pos (show c a d ≠ 0 by omega)]
            exact e3
theorem cmpK_to : TO cmpK := lex_to cmpI_to (lex_to cmpI_to cmpI_to)
theorem cmpF_to : TO cmpF :=
  comap_to (lex_to cmpK_to (lex_to cmpI_to (lex_to (list_to cmpI_to) (list_to cmpT_to)))) (fun f : Fct => (keyF f, f.2.2.2.1, f.2.2.2.2.1, f.2.2.2.2.2)) fun x y h => by
    obtain ⟨a, b, c, d, e, f⟩ := x
    obtain ⟨a', b', c', d', e', f'⟩ := y
    simp only [keyF, Prod.mk.injEq] at h ⊢
    obtain ⟨⟨h1, h2, h3⟩, h4, h5, h6⟩ := h
    exact ⟨h1, h2, h3, h4, h5, h6⟩
/-! ### What the functions compute -/
theorem CompareI_ok (a b : Int) : cmp_Compare_intP a b = some (cmpI a b) := by
  unfold cmp_Compare_intP cmp_Compare_int cmp_isNaN_intP cmp_isNaN_int cmpI
  try simp -implicitDefEqProofs only [evs, reduceIte, rdRes, rdTT, rdTy, rdLT, Res.un, TT.un, Ty.un, LT.un, Leaf.un, Leaf.plain, LT.plain, decide_true, Bool.not_true, cond_false, Option.bind_some]
  by_cases h : a < b
  · rw [decide_eq_true h, if_pos h]; rfl
  · rw [decide_eq_false h, if_neg h]
    by_cases k : b < a
    · rw [decide_eq_true k, if_pos k]; rfl
    · rw [decide_eq_false k, if_neg k]; rfl
theorem CompareT_ok (a b : ByteArray) : cmp_Compare_stringP a b = some (cmpT a b) := by
  unfold cmp_Compare_stringP cmp_Compare_string cmp_isNaN_stringP cmp_isNaN_string cmpT
  try simp -implicitDefEqProofs only [evs, reduceIte, rdRes, rdTT, rdTy, rdLT, Res.un, TT.un, Ty.un, LT.un, Leaf.un, Leaf.plain, LT.plain, decide_true, Bool.not_true, cond_false, Option.bind_some]
  cases h : Op.bytesLess a.toList b.toList
  · rw [if_neg (by simp)]
    by_cases k : a = b
    · rw [decide_eq_true k, if_pos k]; rfl
    · rw [decide_eq_false k, if_neg k]; rfl
  · rw [if_pos rfl]; rfl
/-- The first that is not nothing. -/
def orL : List Int → Int
  | [] => 0
  | x :: l => orI x (orL l)
theorem orL_find : ∀ l : List Int, ((l.findIdx? fun x => !decide (x = 0)).bind fun i => l[i]?).getD 0 = orL l
  | [] => rfl
  | x :: l => by
    have ih := orL_find l
    simp only [List.findIdx?_cons, orL, orI]
    by_cases h : x = 0
    · subst h
      simp only [decide_true, Bool.not_true, Bool.false_eq_true, if_false, ne_eq, not_true_eq_false]
      rw [← ih]
      cases l.findIdx? (fun x => !decide (x = 0)) <;> simp
    · simp [h]
theorem Or_ok (l : List Int) (hl : l.length < 2 ^ 62) : cmp_Or_intP l = some (orL l) := by
  unfold cmp_Or_intP cmp_Or_int
  rw [iter_find l (fun x => !decide (x = 0)) (fun i => l.getD i 0) (by omega) (fun i x hx => by
    have hi := (List.getElem?_eq_some_iff.1 hx).1
    unfold cmp_Or_int.loop1
    try simp -implicitDefEqProofs only [rowSV_len, Int.toNat_natCast]
    rw [decide_eq_true (by omega), cond_true, guardO_pos (by omega), rd_row0 (ls := [.int .i64]) (w := 1) rfl (by omega), hx]
    try simp -implicitDefEqProofs only [Option.bind_some, LT.lo, Leaf.lo, List.getElem?_cons_zero, Leaf.pack, reduceIte]
    rw [i64_succ (by omega), show l.getD i 0 = x by rw [List.getD_eq_getElem?_getD, hx]; rfl]
    cases decide (x = 0) <;> rfl) (by
    unfold cmp_Or_int.loop1
    try simp -implicitDefEqProofs only [rowSV_len]
    rw [decide_eq_false (by omega), cond_false]), ← orL_find]
  cases h : l.findIdx? fun x => !decide (x = 0) with
  | none => rfl
  | some i =>
    simp only [Option.bind_some]
    rw [List.getD_eq_getElem?_getD]
    rfl
def cmpR {α : Type} (c : α → α → Int) : List α → List α → Flow Unit Int
  | [], _ => .ex0 ()
  | _ :: _, [] => .ret 1
  | x :: xs, y :: ys => if c x y ≠ 0 then .ret (c x y) else cmpR c xs ys
theorem cmpR_L {α : Type} (c : α → α → Int) : ∀ (a b : List α), (∃ r, cmpR c a b = .ret r ∧ cmpL c a b = r) ∨ (cmpR c a b = .ex0 () ∧ a.length ≤ b.length ∧ cmpL c a b = if a.length < b.length then -1 else 0)
  | [], [] => .inr ⟨rfl, Nat.le_refl _, rfl⟩
  | [], _ :: _ => .inr ⟨rfl, Nat.zero_le _, by simp [cmpL]⟩
  | _ :: _, [] => .inl ⟨1, rfl, rfl⟩
  | x :: xs, y :: ys => by
    simp only [cmpR, cmpL]
    by_cases h : c x y ≠ 0
    · rw [if_pos h, if_pos h]; exact .inl ⟨_, rfl, rfl⟩
    · rw [if_neg h, if_neg h]
      rcases cmpR_L c xs ys with ⟨r, h1, h2⟩ | ⟨h1, h2, h3⟩
      · exact .inl ⟨r, h1, h2⟩
      · exact .inr ⟨h1, by simp only [List.length_cons]; omega, by rw [h3]; simp⟩
theorem iter_cmp {α : Type} {h : H} {f : Int × H → Option (Stp (Int × H) (Flow Unit Int × H))} (c : α → α → Int) : ∀ (a b : List α) (k n : Nat),
    (∀ (i : Nat) x, a[i]? = some x → f (((k + i : Nat) : Int), h) = some (match b[i]? with | none => .done (.ret 1, h) | some y => bif !decide (c x y = 0) then .done (.ret (c x y), h) else .more (((k + i + 1 : Nat) : Int), h))) →
    f (((k + a.length : Nat) : Int), h) = some (.done (.ex0 (), h)) → a.length < n → iter n f (((k : Nat) : Int), h) = some (cmpR c a b, h)
  | [], b, k, 0, _, _, hn => by simp at hn
  | _ :: _, b, k, 0, _, _, hn => by simp at hn
  | [], b, k, n + 1, hs, hd, hn => by
    simp only [List.length_nil, Nat.add_zero] at hd
    simp only [iter]
    rw [hd]
    simp [cmpR]
  | x :: xs, b, k, n + 1, hs, hd, hn => by
    have h0 := hs 0 x rfl
    simp only [Nat.add_zero] at h0
    simp only [iter]
    rw [h0]
    cases b with
    | nil => rfl
    | cons y ys =>
      simp only [List.getElem?_cons_zero, cmpR]
      by_cases e : c x y = 0
      · rw [if_neg (by simpa using e), decide_eq_true e]
        simp only [Bool.not_true, cond_false, Option.bind_some]
        refine iter_cmp c xs ys (k + 1) n (fun i z hz => ?_) ?_ (by simpa using hn)
        · have := hs (i + 1) z (by simpa using hz)
          rw [show k + (i + 1) = k + 1 + i by omega] at this
          simpa using this
        · rw [← hd]
          congr 3
          simp only [List.length_cons]
          omega
      · rw [if_pos e, decide_eq_false e]
        rfl
theorem SCompareI_ok (a b : List Int) (ha : a.length < 2 ^ 62) : slices_Compare_int_intP a b = some (cmpL cmpI a b) := by
  unfold slices_Compare_int_intP slices_Compare_int_int
  rw [show (0 : Int) = ((0 : Nat) : Int) from rfl, iter_cmp (h := H.empty) cmpI a b 0 FUEL (fun i x hx => by
    have hi := (List.getElem?_eq_some_iff.1 hx).1
    unfold slices_Compare_int_int.loop1
    try simp -implicitDefEqProofs only [rowSV_len, Int.toNat_natCast, Nat.zero_add]
    rw [decide_eq_true (by omega), cond_true, guardO_pos (by omega), rd_row0 (ls := [.int .i64]) (w := 1) rfl (by omega), hx]
    try simp -implicitDefEqProofs only [Option.bind_some, LT.lo, Leaf.lo, List.getElem?_cons_zero, Leaf.pack, reduceIte]
    by_cases hb : b.length ≤ i
    · rw [decide_eq_true (by omega), cond_true, List.getElem?_eq_none hb]
    · have hy : b[i]? = some b[i] := List.getElem?_eq_getElem (by omega)
      rw [decide_eq_false (by omega), cond_false, guardO_pos (by omega), rd_row0 (ls := [.int .i64]) (w := 1) rfl (by omega), hy]
      try simp -implicitDefEqProofs only [Option.bind_some, LT.lo, Leaf.lo, List.getElem?_cons_zero, Leaf.pack, reduceIte, CompareI_ok]
      rw [i64_succ (by omega)]
      cases decide (cmpI x b[i] = 0) <;> rfl) (by
    unfold slices_Compare_int_int.loop1
    try simp -implicitDefEqProofs only [rowSV_len, Nat.zero_add]
    rw [decide_eq_false (by omega), cond_false]) (fuel_gt (by omega))]
  try simp -implicitDefEqProofs only [Option.bind_some]
  rcases cmpR_L cmpI a b with ⟨r, h1, h2⟩ | ⟨h1, h2, h3⟩
  · rw [h1, h2]; rfl
  · rw [h1, h3]
    try simp -implicitDefEqProofs only [rowSV_len]
    by_cases hl : a.length < b.length
    · rw [decide_eq_true (by omega), if_pos hl]; rfl
    · rw [decide_eq_false (by omega), if_neg hl]; rfl
theorem SCompareT_ok (a b : List ByteArray) (ha : a.length < 2 ^ 62) : slices_Compare_string_stringP a b = some (cmpL cmpT a b) := by
  unfold slices_Compare_string_stringP slices_Compare_string_string
  rw [show (0 : Int) = ((0 : Nat) : Int) from rfl, iter_cmp (h := H.empty) cmpT a b 0 FUEL (fun i x hx => by
    have hi := (List.getElem?_eq_some_iff.1 hx).1
    unfold slices_Compare_string_string.loop1
    try simp -implicitDefEqProofs only [rowSV_len, Int.toNat_natCast, Nat.zero_add]
    rw [decide_eq_true (by omega), cond_true, guardO_pos (by omega), rd_row0 (ls := [.str]) (w := 1) rfl (by omega), hx]
    try simp -implicitDefEqProofs only [Option.bind_some, LT.lo, Leaf.lo, List.getElem?_cons_zero, Leaf.pack, reduceIte]
    by_cases hb : b.length ≤ i
    · rw [decide_eq_true (by omega), cond_true, List.getElem?_eq_none hb]
    · have hy : b[i]? = some b[i] := List.getElem?_eq_getElem (by omega)
      rw [decide_eq_false (by omega), cond_false, guardO_pos (by omega), rd_row0 (ls := [.str]) (w := 1) rfl (by omega), hy]
      try simp -implicitDefEqProofs only [Option.bind_some, LT.lo, Leaf.lo, List.getElem?_cons_zero, Leaf.pack, reduceIte, CompareT_ok]
      rw [i64_succ (by omega)]
      cases decide (cmpT x b[i] = 0) <;> rfl) (by
    unfold slices_Compare_string_string.loop1
    try simp -implicitDefEqProofs only [rowSV_len, Nat.zero_add]
    rw [decide_eq_false (by omega), cond_false]) (fuel_gt (by omega))]
  try simp -implicitDefEqProofs only [Option.bind_some]
  rcases cmpR_L cmpT a b with ⟨r, h1, h2⟩ | ⟨h1, h2, h3⟩
  · rw [h1, h2]; rfl
  · rw [h1, h3]
    try simp -implicitDefEqProofs only [rowSV_len]
    by_cases hl : a.length < b.length
    · rw [decide_eq_true (by omega), if_pos hl]; rfl
    · rw [decide_eq_false (by omega), if_neg hl]; rfl
theorem orI_zero (a : Int) : orI a 0 = a := by unfold orI; split <;> simp_all
theorem Keys_ok (a b : Ky) : fact_KeysP a b = some (cmpK a b) := by
  obtain ⟨a0, a1, a2⟩ := a
  obtain ⟨b0, b1, b2⟩ := b
  unfold fact_KeysP fact_Keys
  try simp -implicitDefEqProofs only [evs, reduceIte, rdRes, rdTT, rdTy, rdLT, Res.un, TT.un, Ty.un, LT.un, Leaf.un, Leaf.plain, LT.plain, evh, List.replicate, splice, LT.pack, Leaf.pack, Nat.reduceAdd, Nat.reduceSub, Nat.reduceLeDiff, Nat.reduceLT, Nat.reduceEqDiff, LT.lo, Leaf.lo, CompareI_ok]
  rw [Or_ok _ (by simp only [List.length_cons, List.length_nil]; omega)]
  try simp -implicitDefEqProofs only [Option.bind_some, orL, orI_zero]
  rfl
/-- Facts whose lists are not without end. -/
def okF (f : Fct) : Bool := decide (f.2.2.2.2.1.length < 2 ^ 40) && decide (f.2.2.2.2.2.length < 2 ^ 40)
theorem Compare_ok (a b : Fct) (ha : okF a = true) : fact_CompareP a b = some (cmpF a b) := by
  obtain ⟨a0, a1, a2, a3, a4, a5⟩ := a
  obtain ⟨b0, b1, b2, b3, b4, b5⟩ := b
  simp only [okF, Bool.and_eq_true, decide_eq_true_eq] at ha
  unfold fact_CompareP fact_Compare
  have r4 : ∀ h, rdRow true h [.int .i64] ⟨(rowSV false [.int .i64] a4).a, a4.length, a4.length, true⟩ = some a4 := fun h => rdRow_args (f := false) rfl
  have r5 : ∀ h, rdRow true h [.str] ⟨(rowSV false [.str] a5).a, a5.length, a5.length, true⟩ = some a5 := fun h => rdRow_args (f := false) rfl
  have s4 : ∀ h, rdRow true h [.int .i64] ⟨(rowSV false [.int .i64] b4).a, b4.length, b4.length, true⟩ = some b4 := fun h => rdRow_args (f := false) rfl
  have s5 : ∀ h, rdRow true h [.str] ⟨(rowSV false [.str] b5).a, b5.length, b5.length, true⟩ = some b5 := fun h => rdRow_args (f := false) rfl
  try simp -implicitDefEqProofs only [evs, reduceIte, rdRes, rdTT, rdTy, rdLT, Res.un, TT.un, Ty.un, LT.un, Leaf.un, Leaf.plain, LT.plain, evh, List.replicate, splice, LT.pack, Leaf.pack, Nat.reduceAdd, Nat.reduceSub, Nat.reduceLeDiff, Nat.reduceLT, Nat.reduceEqDiff, LT.lo, Leaf.lo, CompareI_ok, Keys_ok, r4, r5, s4, s5]
  rw [SCompareI_ok _ _ (by omega), Option.bind_some, SCompareT_ok _ _ (by omega), Option.bind_some]
  rw [Or_ok _ (by simp only [List.length_cons, List.length_nil]; omega)]
  try simp -implicitDefEqProofs only [Option.bind_some, orL, orI_zero]
  rfl
end Go.Proofs.YtjkjcnadgpndoaaGreat
/-
  DERIVED: THE SHELF's CONTRACTS AT THIS DUMP, IN PLAIN WORDS (tools/lay-plain.mjs out of 'TryzSorts.lean', which tools/lay-shelf.mjs wrote): THE SAME DECLARATIONS UNDER THE SAME YtjkjcnadgpndoaaGreatS: 'import', 'namespace', 'open', 'def', 'theorem' AND NOTHING ELSE: no command of the shelf's: FOR A HAND-IN. Each laying: the table of numbers ('.._ren') and one theorem, a field a fact of the dump's own or the kernel's comparison; each contract: ONE APPLICATION.
-/
namespace Go.Proofs
open Go.Shelf
def Tryz.sortK_ren : Go.Shelf.Ren := ⟨fun | 6 => 57 | 15 => 92 | 14 => 93 | 28 => 120 | 29 => 121 | 20 => 122 | 21 => 123 | 22 => 124 | 23 => 125 | 24 => 126 | 25 => 127 | 26 => 128 | 27 => 129 | 46 => 142 | 47 => 138 | 48 => 139 | 49 => 143 | 50 => 144 | 57 => 147 | n => n, fun | 22 => 27 | 24 => 24 | 25 => 81 | 3 => 3 | 39 => 106 | 0 => 0 | 53 => 127 | 55 => 129 | 4 => 4 | 46 => 121 | 45 => 120 | 50 => 116 | 5 => 5 | 9 => 9 | 66 => 138 | 70 => 142 | 76 => 147 | 77 => 148 | n => n, fun | n => n⟩
theorem Tryz.sortK : Go.Proofs.SlLaysF0.n6 Tryz.prog Tryz.sortK_ren := {
  mixed := by kernel_rfl
  f6 := ⟨Tryz.f57.name, by decide, Tryz.func57.trans (congrArg some (by kernel_rfl))⟩
  f14 := ⟨Tryz.f93.name, by decide, Tryz.func93.trans (congrArg some (by kernel_rfl))⟩
  f15 := Tryz.func92.trans (congrArg some (by kernel_rfl))
  f20 := ⟨Tryz.f122.name, by decide, Tryz.func122.trans (congrArg some (by kernel_rfl))⟩
  f21 := ⟨Tryz.f123.name, by decide, Tryz.func123.trans (congrArg some (by kernel_rfl))⟩
  f22 := ⟨Tryz.f124.name, by decide, Tryz.func124.trans (congrArg some (by kernel_rfl))⟩
  f23 := ⟨Tryz.f125.name, by decide, Tryz.func125.trans (congrArg some (by kernel_rfl))⟩
  f24 := ⟨Tryz.f126.name, by decide, Tryz.func126.trans (congrArg some (by kernel_rfl))⟩
  f25 := ⟨Tryz.f127.name, by decide, Tryz.func127.trans (congrArg some (by kernel_rfl))⟩
  f26 := ⟨Tryz.f128.name, by decide, Tryz.func128.trans (congrArg some (by kernel_rfl))⟩
  f27 := ⟨Tryz.f129.name, by decide, Tryz.func129.trans (congrArg some (by kernel_rfl))⟩
  f28 := Tryz.func120.trans (congrArg some (by kernel_rfl))
  f29 := Tryz.func121.trans (congrArg some (by kernel_rfl))
  f46 := ⟨Tryz.f142.name, by decide, Tryz.func142.trans (congrArg some (by kernel_rfl))⟩
  f47 := Tryz.func138.trans (congrArg some (by kernel_rfl))
  f48 := Tryz.func139.trans (congrArg some (by kernel_rfl))
  f49 := ⟨Tryz.f143.name, by decide, Tryz.func143.trans (congrArg some (by kernel_rfl))⟩
  f50 := ⟨Tryz.f144.name, by decide, Tryz.func144.trans (congrArg some (by kernel_rfl))⟩
  f57 := ⟨Tryz.f147.name, by decide, Tryz.func147.trans (congrArg some (by kernel_rfl))⟩
  t0 := Tryz.underlying0
  a0 := Tryz.isAgg0
  z0 := Tryz.sizeOf0
  v0 := Tryz.zeroValue0
  t3 := Tryz.underlying3
  a3 := Tryz.isAgg3
  z3 := Tryz.sizeOf3
  v3 := Tryz.zeroValue3
  t4 := Tryz.underlying4
  a4 := Tryz.isAgg4
  z4 := Tryz.sizeOf4
  v4 := Tryz.zeroValue4
  t5 := Tryz.underlying5
  a5 := Tryz.isAgg5
  z5 := Tryz.sizeOf5
  v5 := Tryz.zeroValue5
  t9 := Tryz.underlying9
  a9 := Tryz.isAgg9
  z9 := Tryz.sizeOf9
  v9 := Tryz.zeroValue9
  t22 := Tryz.underlying27
  a22 := Tryz.isAgg27
  z22 := Tryz.sizeOf27
  v22 := Tryz.zeroValue27
  t25 := Tryz.underlying81
  a25 := Tryz.isAgg81
  z25 := Tryz.sizeOf81
  v25 := Tryz.zeroValue81
  t39 := Tryz.underlying106
  a39 := Tryz.isAgg106
  z39 := Tryz.sizeOf106
  v39 := Tryz.zeroValue106
  t45 := Tryz.underlying120
  a45 := Tryz.isAgg120
  z45 := Tryz.sizeOf120
  v45 := Tryz.zeroValue120
  t46 := Tryz.underlying121
  a46 := Tryz.isAgg121
  z46 := Tryz.sizeOf121
  v46 := Tryz.zeroValue121
  t50 := Tryz.underlying116
  a50 := Tryz.isAgg116
  z50 := Tryz.sizeOf116
  v50 := Tryz.zeroValue116
  t53 := Tryz.underlying127
  a53 := Tryz.isAgg127
  z53 := Tryz.sizeOf127
  v53 := Tryz.zeroValue127
  t55 := Tryz.underlying129
  a55 := Tryz.isAgg129
  z55 := Tryz.sizeOf129
  v55 := Tryz.zeroValue129
  t66 := Tryz.underlying138
  a66 := Tryz.isAgg138
  z66 := Tryz.sizeOf138
  v66 := Tryz.zeroValue138
  t70 := Tryz.underlying142
  a70 := Tryz.isAgg142
  z70 := Tryz.sizeOf142
  v70 := Tryz.zeroValue142
  t76 := Tryz.underlying147
  a76 := Tryz.isAgg147
  z76 := Tryz.sizeOf147
  v76 := Tryz.zeroValue147
  t77 := Tryz.underlying148
  a77 := Tryz.isAgg148
  z77 := Tryz.sizeOf148
  v77 := Tryz.zeroValue148 }
def Tryz.sortF_ren : Go.Shelf.Ren := ⟨fun | 6 => 56 | 15 => 92 | 14 => 91 | 28 => 120 | 29 => 121 | 20 => 112 | 21 => 113 | 22 => 114 | 23 => 115 | 24 => 116 | 25 => 117 | 26 => 118 | 27 => 119 | 46 => 137 | 47 => 138 | 48 => 139 | 49 => 140 | 50 => 141 | 57 => 146 | n => n, fun | 22 => 22 | 24 => 42 | 25 => 54 | 3 => 3 | 39 => 106 | 0 => 0 | 53 => 127 | 55 => 129 | 4 => 4 | 46 => 121 | 45 => 120 | 50 => 116 | 5 => 5 | 9 => 9 | 66 => 138 | 70 => 142 | 76 => 147 | 77 => 148 | n => n, fun | n => n⟩
theorem Tryz.sortF : Go.Proofs.SlLaysF0.n6 Tryz.prog Tryz.sortF_ren := {
  mixed := by kernel_rfl
  f6 := ⟨Tryz.f56.name, by decide, Tryz.func56.trans (congrArg some (by kernel_rfl))⟩
  f14 := ⟨Tryz.f91.name, by decide, Tryz.func91.trans (congrArg some (by kernel_rfl))⟩
  f15 := Tryz.func92.trans (congrArg some (by kernel_rfl))
  f20 := ⟨Tryz.f112.name, by decide, Tryz.func112.trans (congrArg some (by kernel_rfl))⟩
  f21 := ⟨Tryz.f113.name, by decide, Tryz.func113.trans (congrArg some (by kernel_rfl))⟩
  f22 := ⟨Tryz.f114.name, by decide, Tryz.func114.trans (congrArg some (by kernel_rfl))⟩
  f23 := ⟨Tryz.f115.name, by decide, Tryz.func115.trans (congrArg some (by kernel_rfl))⟩
  f24 := ⟨Tryz.f116.name, by decide, Tryz.func116.trans (congrArg some (by kernel_rfl))⟩
  f25 := ⟨Tryz.f117.name, by decide, Tryz.func117.trans (congrArg some (by kernel_rfl))⟩
  f26 := ⟨Tryz.f118.name, by decide, Tryz.func118.trans (congrArg some (by kernel_rfl))⟩
  f27 := ⟨Tryz.f119.name, by decide, Tryz.func119.trans (congrArg some (by kernel_rfl))⟩
  f28 := Tryz.func120.trans (congrArg some (by kernel_rfl))
  f29 := Tryz.func121.trans (congrArg some (by kernel_rfl))
  f46 := ⟨Tryz.f137.name, by decide, Tryz.func137.trans (congrArg some (by kernel_rfl))⟩
  f47 := Tryz.func138.trans (congrArg some (by kernel_rfl))
  f48 := Tryz.func139.trans (congrArg some (by kernel_rfl))
  f49 := ⟨Tryz.f140.name, by decide, Tryz.func140.trans (congrArg some (by kernel_rfl))⟩
  f50 := ⟨Tryz.f141.name, by decide, Tryz.func141.trans (congrArg some (by kernel_rfl))⟩
  f57 := ⟨Tryz.f146.name, by decide, Tryz.func146.trans (congrArg some (by kernel_rfl))⟩
  t0 := Tryz.underlying0
  a0 := Tryz.isAgg0
  z0 := Tryz.sizeOf0
  v0 := Tryz.zeroValue0
  t3 := Tryz.underlying3
  a3 := Tryz.isAgg3
  z3 := Tryz.sizeOf3
  v3 := Tryz.zeroValue3
  t4 := Tryz.underlying4
  a4 := Tryz.isAgg4
  z4 := Tryz.sizeOf4
  v4 := Tryz.zeroValue4
  t5 := Tryz.underlying5
  a5 := Tryz.isAgg5
  z5 := Tryz.sizeOf5
  v5 := Tryz.zeroValue5
  t9 := Tryz.underlying9
  a9 := Tryz.isAgg9
  z9 := Tryz.sizeOf9
  v9 := Tryz.zeroValue9
  t22 := Tryz.underlying22
  a22 := Tryz.isAgg22
  z22 := Tryz.sizeOf22
  v22 := Tryz.zeroValue22
  t25 := Tryz.underlying54
  a25 := Tryz.isAgg54
  z25 := Tryz.sizeOf54
  v25 := Tryz.zeroValue54
  t39 := Tryz.underlying106
  a39 := Tryz.isAgg106
  z39 := Tryz.sizeOf106
  v39 := Tryz.zeroValue106
  t45 := Tryz.underlying120
  a45 := Tryz.isAgg120
  z45 := Tryz.sizeOf120
  v45 := Tryz.zeroValue120
  t46 := Tryz.underlying121
  a46 := Tryz.isAgg121
  z46 := Tryz.sizeOf121
  v46 := Tryz.zeroValue121
  t50 := Tryz.underlying116
  a50 := Tryz.isAgg116
  z50 := Tryz.sizeOf116
  v50 := Tryz.zeroValue116
  t53 := Tryz.underlying127
  a53 := Tryz.isAgg127
  z53 := Tryz.sizeOf127
  v53 := Tryz.zeroValue127
  t55 := Tryz.underlying129
  a55 := Tryz.isAgg129
  z55 := Tryz.sizeOf129
  v55 := Tryz.zeroValue129
  t66 := Tryz.underlying138
  a66 := Tryz.isAgg138
  z66 := Tryz.sizeOf138
  v66 := Tryz.zeroValue138
  t70 := Tryz.underlying142
  a70 := Tryz.isAgg142
  z70 := Tryz.sizeOf142
  v70 := Tryz.zeroValue142
  t76 := Tryz.underlying147
  a76 := Tryz.isAgg147
  z76 := Tryz.sizeOf147
  v76 := Tryz.zeroValue147
  t77 := Tryz.underlying148
  a77 := Tryz.isAgg148
  z77 := Tryz.sizeOf148
  v77 := Tryz.zeroValue148 }
end Go.Proofs
/- slices.Collect of maps.Keys: the keys of a map in some order. The range over a function (slices.AppendSeq, maps.Keys$1), by the evaluator; the two calls above it, walked. Conditions: those of each law. -/
namespace Go.Proofs.YtjkjcnadgpndoaaGreat
open Go Go.Proofs.YtjkjcnadgpndoaaGreat.Ev
set_option linter.unusedVariables false
set_option linter.unusedSimpArgs false
set_option maxRecDepth 100000
set_option maxHeartbeats 4000000
abbrev KeyT : Ty := .agg [.int .i64, .int .i64, .int .i64]
abbrev FactT : Ty := .agg [.int .i64, .int .i64, .int .i64, .int .i64, .slice, .slice]
def itA : Ann := { lits := [], conds := [], loops := [(1, [], [], [], [], some 0, none)], regs := [], ents := [(8, KeyT, .leaf .slice)] }
def apA : Ann := { lits := [], conds := [], loops := [], regs := [], rnds := [(7, [KeyT])] }
noncomputable def itE (Y : Entry) : Entry := { quiet := false, cps := fun args h _ k => evalFnK Tryz.prog (withY Table.nil Y) itA Tryz.f111 (.many []) args h fun r h' => k (Res.un (.many []) r) h' }
theorem itE.ok : ItOK Tryz.prog 111 itE := by
  intro Y hY base ρ0 hyok args h α k res hv ρ w us hle hr hrl
  have := fn_callsK ((TabW.nil _).withY hY) Tryz.mixed Tryz.func111 hv rfl
  exact ⟨run_callFunc Tryz.func111 this.1 (by kernel_rfl) _ w, Calls.mono (this.2 base ρ w us (hyok.mono hle) hr hrl) fun e w' ⟨r, h', h1, h2⟩ => ⟨_, _, h1, h2⟩⟩
/-! ### The equations -/
noncomputable def itLoop (l : Nat) (f : Ky → H → Option H) (h0 : H) : Unit × H → Option (Stp (Unit × H) (Flow Unit Unit × H)) := fun (_, h2) =>
  (curG h2 (.hp h0.next 0 0 : V) KeyT (.leaf .slice)).bind fun ((k0, k1, k2), v) =>
  (let h3 : H := H.new h2 [.int .i64 0, .int .i64 0, .int .i64 0] 3
  ((H.wrs h3 (.hp h2.next 3 0) [.int .i64 k0, .int .i64 k1, .int .i64 k2]).bind fun h4 =>
  ((rdT KeyT h4 (.hp h2.next 3 0)).bind fun (x0, x1, x2) =>
  (bif Nat.beq l l then ((f (x0, x1, x2) h4).bind fun h5 => some (.more ((), h5))) else none))))
noncomputable def itLoopE : Unit × H → Option (Stp (Unit × H) (Flow Unit Unit × H)) := fun (_, h2) => some (.done (.ex0 (), h2))
noncomputable def itK (l : Nat) (f : Ky → H → Option H) (p : V) (h : H) {R : Type} (k : V → H → Option R) : Option R :=
  (rdT (.leaf .map) h p).bind fun x4 => ((x4 : Option Nat).bind fun r => ((H.gmap h r KeyT (.leaf .slice)).bind fun es =>
  (let h1 : H := H.newS h (.miter r es.length [])
  ((iterAt h1 (.hp h.next 0 0 : V)).bind fun q => agreeN q.2.2 fun π =>
  ((mrounds q.1 q.2.1 q.2.2 (itLoop l f h) itLoopE [] π ((), h1)).bind fun (fl, h5) => match fl with
  | .next _ => none
  | .ret rr => k (Res.un (.many []) rr) h5
  | .ex0 _ => k (Res.un (.many []) ()) h5
  | .ex1 _ => none)))))
theorem itE_eq (l : Nat) (f : TT [KeyT] → H → Option H) (p : V) (h : H) (R : Type) (k : V → H → Option R) : (itE (mkY [KeyT] l f)).cps [.yld l, p] h k = itK l f p h k := by
  kernel_rfl
noncomputable def apRound (l : Nat) (box : V) (x : Ky) (h1 : H) : Option H :=
  (h1.begin l).bind fun _ =>
  (let h4 : H := H.new h1 [.int .i64 0, .int .i64 0, .int .i64 0] 3
  ((H.wrs h4 (.hp h1.next 3 0) [.int .i64 x.1, .int .i64 x.2.1, .int .i64 x.2.2]).bind fun h5 =>
  ((h5.begin l).bind fun h6 =>
  ((rdT (.leaf .slice) h6 box).bind fun s8 =>
  ((rdT KeyT h6 (.hp h1.next 3 0)).bind fun (y0, y1, y2) =>
  ((appendS h6 none 3 24 s8 [.int .i64 y0, .int .i64 y1, .int .i64 y2] 1).bind fun (s11, h7) =>
  ((H.wrs h7 box [.slice s11.a s11.len s11.cap s11.tail]).bind fun h8 => h8.endR l)))))))
noncomputable def apK (p : V) (h : H) {R : Type} (k : SV → H → Option R) : Option R :=
  (let h1 : H := H.new h [.slice .nil 0 0 false] 1
  (itE (mkY [KeyT] h1.next fun x h2 => apRound h1.next (.hp h.next 1 0) x h2)).cps [.yld h1.next, p] (h1.newS (.loop .ready)) fun _ h2 =>
  ((h2.endL h1.next).bind fun h3 => ((rdT (.leaf .slice) h3 (.hp h.next 1 0)).bind fun s => k s h3)))
noncomputable def apT : Table := tabI [(111, itE)] Table.nil
theorem apK_eq (p : V) (h : H) (R : Type) (k : SV → H → Option R) : evalFnK Tryz.prog apT apA Tryz.f136 (.one (.leaf .slice)) [.slice .nil 0 0 false, .func 111 [p]] h k = apK p h k := by
  kernel_rfl
/-! ### The rounds -/
theorem hL_newS {l : List Slot} {s : Slot} : H.newS (hL l) s = hL (l ++ [s]) := by
  refine H.ext' (by simp [H.newS, hL]) fun i => ?_
  simp only [H.newS, hL]
  by_cases hi : i = l.length
  · subst hi; simp
  · rw [beq_ne hi, cond_false]
    rcases Nat.lt_or_ge i l.length with h | h
    · rw [List.getElem?_append_left h]
    · rw [List.getElem?_eq_none h, List.getElem?_eq_none (by simp; omega)]
mutual
theorem V.beq_refl : ∀ v : V, V.beq v v = true
  | .undef => rfl
  | .nil => rfl
  | .nilFunc => rfl
  | .nilIface => rfl
  | .bool b => by simp [V.beq]
  | .int k n => by simp [V.beq]
  | .str s => by simp [V.beq]
  | .hp id g o => by simp [V.beq]
  | .lp f cs o => by simp [V.beq, V.beqs_refl cs]
  | .slice a l c t => by simp [V.beq, V.beq_refl a]
  | .map r => by simp [V.beq]
  | .func f cs => by simp [V.beq, V.beqs_refl cs]
  | .agg cs => by simp [V.beq, V.beqs_refl cs]
  | .tuple cs => by simp [V.beq, V.beqs_refl cs]
  | .yld id => by simp [V.beq]
theorem V.beqs_refl : ∀ l : List V, V.beqs l l = true
  | [] => rfl
  | a :: l => by simp [V.beqs, V.beq_refl a, V.beqs_refl l]
end
theorem agreeN_of {R : Type} {n : Nat} {F : List Nat → Option R} {r : R} (h : ∀ π : List Nat, π.Perm (List.range n) → F π = some r) : agreeN n F = some r := by
  unfold agreeN
  rw [dif_pos ⟨r, h⟩]
  have h1 := Classical.choose_spec (⟨r, h⟩ : ∃ r, ∀ π : List Nat, π.Perm (List.range n) → F π = some r)
  have h2 := h1 _ (List.Perm.refl _)
  rw [h _ (List.Perm.refl _)] at h2
  simp only [Option.some.injEq] at h2
  rw [← h2]
/-- Between two rounds: what was there is there; the row of the keys so far. -/
structure CInv (sl : List Slot) (id n : Nat) (seen : List Nat) (ks : List Ky) (sl' : List Slot) : Prop where
  old : ∀ j, j < sl.length → sl'[j]? = sl[j]?
  lp : sl'[sl.length + 1]? = some (.loop .ready)
  it : sl'[sl.length + 2]? = some (.miter id n seen)
  lo : sl.length + 3 ≤ sl'.length
  hi : sl'.length ≤ sl.length + 3 + 3 * ks.length
  box : ∃ s o, sl'[sl.length]? = some (.own [.slice s.a s.len s.cap s.tail] 1) ∧ Acc sl' KC ks s o ∧ (o = none → sl'.length = sl.length + 3) ∧ ∀ j, o = some j → j = sl.length + 5
theorem set_app {sl : List Slot} {i : Nat} {s : Slot} {t : List Slot} (h : i < sl.length) : (sl ++ t).set i s = sl.set i s ++ t := List.set_append_left _ _ h
theorem get_app {sl : List Slot} {i : Nat} {t : List Slot} (h : i < sl.length) : (sl ++ t)[i]? = sl[i]? := List.getElem?_append_left h
theorem slice_box (s : SV) {sl : List Slot} {i e : Nat} (h : sl[i]? = some (.own [.slice s.a s.len s.cap s.tail] e)) : rdT (.leaf .slice) (hL sl) (.hp i 1 0) = some s := by
  rw [rd_own (g := 1) h rfl]
  rfl
theorem key_box {sl : List Slot} {i e : Nat} {a b c : Int} (h : sl[i]? = some (.own [.int .i64 a, .int .i64 b, .int .i64 c] e)) : rdT KeyT (hL sl) (.hp i 3 0) = some (a, b, c) := by
  rw [rds_hp (by simp), hL_m, h]
  rfl
theorem wr_all {sl : List Slot} {i e g : Nat} {cs vs : List V} (h : sl[i]? = some (.own cs e)) (hg : cs.length = g) (hl : vs.length = g) : H.wrs (hL sl) (.hp i g 0) vs = some (hL (sl.set i (.own vs e))) := by
  rw [wrs_own h hg (by omega)]
  have : splice cs 0 vs = vs := by simp [splice, List.drop_eq_nil_of_le (show cs.length ≤ vs.length by omega)]
  rw [this]
theorem set_new {sl : List Slot} {i : Nat} {s s' : Slot} (h : i = sl.length) : (sl ++ [s]).set i s' = sl ++ [s'] := by
  subst h
  simp
theorem wr_new {sl : List Slot} {e g i : Nat} {cs vs : List V} (hi : i = sl.length) (hg : cs.length = g) (hl : vs.length = g) : H.wrs (hL (sl ++ [.own cs e])) (.hp i g 0) vs = some (hL (sl ++ [.own vs e])) := by
  subst hi
  rw [wr_all (e := e) (cs := cs) (by simp) hg hl, set_new rfl]
theorem key_new {sl : List Slot} {e : Nat} {a b c : Int} : rdT KeyT (hL (sl ++ [.own [.int .i64 a, .int .i64 b, .int .i64 c] e])) (.hp sl.length 3 0) = some (a, b, c) := key_box (e := e) (by simp)
theorem acc_append' {sl : List Slot} {ls : List Leaf} {xs : List (LT ls)} {s : SV} {o : Option Nat} {w b : Nat} {x : LT ls} {vs : List V} (h : Acc sl ls xs s o) (hw : ls.length = w) (hpos : 0 < w) (hl : xs.length + 1 ≤ 2 ^ 36) (hb : b ≤ 2 ^ 11) (hv : vs = LT.lo true ls x) :
    ∃ s' sl' id, appendS (hL sl) none w b s vs 1 = some (s', hL sl') ∧ Acc sl' ls (xs ++ [x]) s' (some id) ∧ (o = some id ∨ o = none ∧ id = sl.length) ∧ sl.length ≤ sl'.length ∧ (∀ j, o ≠ some j → j < sl.length → sl'[j]? = sl[j]?) ∧ sl'.length ≤ sl.length + 1 := by
  subst hw
  cases o with
  | none =>
    obtain ⟨rfl, hs⟩ := h
    refine ⟨ownSV sl.length ls [x].length, sl ++ [.own (cellsL ls [x]) ls.length], sl.length, ?_, ⟨by simp, rfl, ?_⟩, .inr ⟨rfl, rfl⟩, ?_, fun j _ hj => ?_, ?_⟩
    · have h1 := append_nil (ls := ls) (sl := sl) (x := x) (w := ls.length) (b := b) rfl hb hv
      rcases hs with rfl | rfl
      · exact h1
      · rw [← h1]
        simp only [appendS, appendV, nilSV]
        rw [if_neg (show ¬ (1 = 0) by omega), if_neg (show ¬ (1 = 0) by omega)]
        rw [if_pos ⟨trivial, trivial, trivial⟩, if_pos ⟨trivial, trivial, trivial⟩]
    · simp
    · simp
    · exact List.getElem?_append_left hj
    · simp
  | some id =>
    obtain ⟨h1, rfl, h3⟩ := h
    have hid := (List.getElem?_eq_some_iff.1 h3).1
    refine ⟨ownSV id ls (xs ++ [x]).length, sl.set id (.own (cellsL ls (xs ++ [x])) ls.length), id, append_own h3 rfl hpos h1 hl hb hv, ⟨by simp, rfl, ?_⟩, .inl rfl, by simp, fun j hj hlt => ?_, by simp⟩
    · rw [List.getElem?_set_self hid]
    · rw [List.getElem?_set_ne (fun e => hj (by rw [e]))]
/-- One round of 'append'. -/
theorem round_ok {sl sl1 : List Slot} {id n : Nat} {seen : List Nat} {ks : List Ky} {x : Ky} (c : CInv sl id n seen ks sl1) (hk : ks.length < 2 ^ 30) :
    ∃ sl2, apRound (sl.length + 1) (.hp sl.length 1 0) x (hL (sl1 ++ [.own [.int .i64 x.1, .int .i64 x.2.1, .int .i64 x.2.2] 3])) = some (hL sl2) ∧ CInv sl id n seen (ks ++ [x]) sl2 := by
  obtain ⟨old, lp, it, lo, hi, s, o, hb, acc, ho1, ho2⟩ := c
  obtain ⟨x0, x1, x2⟩ := x
  have e1 : (hL (sl1 ++ [.own [.int .i64 x0, .int .i64 x1, .int .i64 x2] 3])).begin (sl.length + 1) = some ((hL (sl1 ++ [.own [.int .i64 x0, .int .i64 x1, .int .i64 x2] 3])).put (sl.length + 1) (.loop .busy)) := by
    simp only [H.begin, hL_m, get_app (sl := sl1) (i := sl.length + 1) (by omega), lp, Option.getD_some]
  -- the heap with both copies of the key
  obtain ⟨sl3, h3⟩ : ∃ sl3, sl3 = (sl1 ++ [.own [.int .i64 x0, .int .i64 x1, .int .i64 x2] 3]) ++ [.own [.int .i64 x0, .int .i64 x1, .int .i64 x2] 3] := ⟨_, rfl⟩
  have l3 : sl3.length = sl1.length + 2 := by rw [h3]; simp
  have g3 : ∀ j, j < sl1.length → sl3[j]? = sl1[j]? := fun j hj => by rw [h3, get_app (by simp; omega), get_app hj]
  have n3 : sl3[sl1.length + 1]? = some (.own [.int .i64 x0, .int .i64 x1, .int .i64 x2] 3) := by rw [h3]; simp
  obtain ⟨sl4, h4⟩ : ∃ sl4, sl4 = sl3.set (sl.length + 1) (.loop .busy) := ⟨_, rfl⟩
  have l4 : sl4.length = sl1.length + 2 := by rw [h4, List.length_set, l3]
  have g4 : ∀ j, j ≠ sl.length + 1 → sl4[j]? = sl3[j]? := fun j hj => by rw [h4, List.getElem?_set_ne (by omega)]
  have b4 : sl4[sl.length + 1]? = some (.loop .busy) := by rw [h4, List.getElem?_set_self (by omega)]
  have acc4 : Acc sl4 KC ks s o := acc.frame fun j hj => by
    have := ho2 j hj
    have := (show j < sl1.length by subst hj; exact acc.lt)
    rw [g4 j (by omega), g3 j this]
  obtain ⟨s', sl5, id', k1, k2, k3, k4, k5, k6⟩ := acc_append' acc4 (w := 3) (x := (x0, x1, x2)) (b := 24) (vs := [.int .i64 x0, .int .i64 x1, .int .i64 x2]) rfl (by decide) (by omega) (by omega) rfl
  have hne : ∀ j, j < sl.length + 3 → o ≠ some j := fun j hj e => by have := ho2 j e; omega
  have g5 : ∀ j, j < sl.length + 3 → sl5[j]? = sl4[j]? := fun j hj => k5 j (hne j hj) (by omega)
  have hb5 : sl5[sl.length]? = some (.own [.slice s.a s.len s.cap s.tail] 1) := by rw [g5 _ (by omega), g4 _ (by omega), g3 _ (by omega), hb]
  have id5 : id' = sl.length + 5 := by
    rcases k3 with k3 | ⟨k3, k3'⟩
    · exact ho2 _ k3
    · rw [k3', l4, ho1 k3]
  obtain ⟨sl6, h6⟩ : ∃ sl6, sl6 = sl5.set sl.length (.own [.slice s'.a s'.len s'.cap s'.tail] 1) := ⟨_, rfl⟩
  have g6 : ∀ j, j ≠ sl.length → sl6[j]? = sl5[j]? := fun j hj => by rw [h6, List.getElem?_set_ne (by omega)]
  have l6 : sl6.length = sl5.length := by rw [h6, List.length_set]
  have b6 : sl6[sl.length + 1]? = some (.loop .busy) := by rw [g6 _ (by omega), g5 _ (by omega), b4]
  obtain ⟨sl7, h7⟩ : ∃ sl7, sl7 = sl6.set (sl.length + 1) (.loop .ready) := ⟨_, rfl⟩
  have g7 : ∀ j, j ≠ sl.length + 1 → sl7[j]? = sl6[j]? := fun j hj => by rw [h7, List.getElem?_set_ne (by omega)]
  have l7 : sl7.length = sl5.length := by rw [h7, List.length_set, l6]
  refine ⟨sl7, ?_, ⟨fun j hj => ?_, ?_, ?_, by omega, by rw [List.length_append, List.length_singleton]; omega, s', some id', ?_, ?_, (fun e => by cases e), (fun j e => by cases e; exact id5)⟩⟩
  · unfold apRound
    rw [e1, Option.bind_some]
    simp only [hL_next]
    rw [hL_new, wr_new (g := 3) rfl rfl rfl, ← h3, Option.bind_some]
    have e2 : (hL sl3).begin (sl.length + 1) = some (hL sl4) := by
      simp only [H.begin, hL_m, g3 (sl.length + 1) (by omega), lp, Option.getD_some]
      rw [hL_put (by omega), ← h4]
    rw [e2, Option.bind_some, slice_box s (e := 1) (by rw [g4 _ (by omega), g3 _ (by omega), hb]), Option.bind_some]
    rw [show (sl1 ++ [Slot.own [.int .i64 x0, .int .i64 x1, .int .i64 x2] 3]).length = sl1.length + 1 by simp, key_box (e := 3) (by rw [g4 _ (by omega), n3]), Option.bind_some]
    simp only
    rw [k1, Option.bind_some]
    simp only
    rw [wr_all (g := 1) hb5 rfl rfl, ← h6, Option.bind_some]
    simp only [H.endR, hL_m, b6, Option.getD_some]
    rw [hL_put (by omega), ← h7]
  · rw [g7 _ (by omega), g6 _ (by omega), g5 _ (by omega), g4 _ (by omega), g3 _ (by omega), old j hj]
  · rw [h7, List.getElem?_set_self (by omega)]
  · rw [g7 _ (by omega), g6 _ (by omega), g5 _ (by omega), g4 _ (by omega), g3 _ (by omega), it]
  · rw [g7 _ (by omega), h6, List.getElem?_set_self (by omega)]
  · refine k2.frame fun j e => ?_
    cases e
    rw [g7 _ (by omega), g6 _ (by omega)]
/-- One round of the range over the map. -/
theorem itLoop_ok {sl sl1 : List Slot} {id n i : Nat} {seen : List Nat} {ks : List Ky} {es : List (V × V)} {l : List (Ky × SV)} (c : CInv sl id n seen ks sl1) (hk : ks.length < 2 ^ 30) (hid : sl[id]? = some (.gmap es)) (hun : unG KeyT (.leaf .slice) es = some l) (hn : l.length = n) {x : Ky} {v : SV} (hx : l[i]? = some (x, v)) {h0 : H} (h0n : h0.next = sl.length + 2) :
    ∃ sl2, itLoop (sl.length + 1) (fun x h2 => apRound (sl.length + 1) (.hp sl.length 1 0) x h2) h0 ((), (hL sl1).put (sl.length + 2) (.miter id n (seen ++ [i]))) = some (.more ((), hL sl2)) ∧
      rangeOK ((hL sl1).put (sl.length + 2) (.miter id n (seen ++ [i]))) (hL sl2) (sl.length + 2) id n (seen ++ [i]) = true ∧ CInv sl id n (seen ++ [i]) (ks ++ [x]) sl2 := by
  have lo := c.lo
  have hidl := (List.getElem?_eq_some_iff.1 hid).1
  obtain ⟨sl3, h3⟩ : ∃ sl3, sl3 = sl1.set (sl.length + 2) (.miter id n (seen ++ [i])) := ⟨_, rfl⟩
  have l3 : sl3.length = sl1.length := by rw [h3, List.length_set]
  have g3 : ∀ j, j ≠ sl.length + 2 → sl3[j]? = sl1[j]? := fun j hj => by rw [h3, List.getElem?_set_ne (by omega)]
  have c3 : CInv sl id n (seen ++ [i]) ks sl3 := by
    obtain ⟨old, lp, it, lo, hi, s, o, hb, acc, ho1, ho2⟩ := c
    refine ⟨fun j hj => by rw [g3 j (by omega)]; exact old j hj, by rw [g3 _ (by omega)]; exact lp, by rw [h3, List.getElem?_set_self (by omega)], by omega, by omega, s, o, by rw [g3 _ (by omega)]; exact hb, acc.frame fun j e => ?_, by rw [l3]; exact ho1, ho2⟩
    have := ho2 j e
    rw [g3 j (by omega)]
  obtain ⟨sl2, r1, r2⟩ := round_ok (x := x) c3 hk
  refine ⟨sl2, ?_, ?_, r2⟩
  · rw [hL_put (by omega), ← h3]
    unfold itLoop
    have hcur : curG (hL sl3) (.hp h0.next 0 0 : V) KeyT (.leaf .slice) = some (x, v) := by
      simp only [curG, h0n, hL_m, c3.it, Option.getD_some, List.getLast?_append, List.getLast?_singleton, Option.or_some, Option.some_or, Option.bind_some, H.gmap, g3 id (by omega), c.old id hidl, hid, hun]
      rw [guardO_pos hn, hx]
    simp only
    rw [hcur]
    obtain ⟨x0, x1, x2⟩ := x
    simp only [Option.bind_some, hL_next]
    rw [hL_new, wr_new (g := 3) rfl rfl rfl, Option.bind_some, key_new, Option.bind_some]
    simp only [Nat.beq_refl, cond_true]
    rw [r1]
    rfl
  · rw [hL_put (by omega), ← h3]
    simp only [rangeOK, hL_m, g3 id (by omega), c.old id hidl, r2.old id hidl, hid, r2.it, Option.getD_some, V.beqs_refl, decide_true, Bool.and_self]
theorem itLoops_ok {sl : List Slot} {id n : Nat} {es : List (V × V)} {l : List (Ky × SV)} (hid : sl[id]? = some (.gmap es)) (hun : unG KeyT (.leaf .slice) es = some l) (hn : l.length = n) {h0 : H} (h0n : h0.next = sl.length + 2) : ∀ (π seen : List Nat) (ks : List Ky) (sl1 : List Slot),
    CInv sl id n seen ks sl1 → ks.length + π.length ≤ 2 ^ 30 → (∀ i ∈ π, i < n) →
    ∃ sl2, mrounds (sl.length + 2) id n (itLoop (sl.length + 1) (fun x h2 => apRound (sl.length + 1) (.hp sl.length 1 0) x h2) h0) itLoopE seen π ((), hL sl1) = some (.ex0 (), hL sl2) ∧ CInv sl id n (seen ++ π) (ks ++ π.filterMap fun i => (l[i]?).map (·.1)) sl2
  | [], seen, ks, sl1, c, _, _ => ⟨sl1, by simp [mrounds, itLoopE], by simpa using c⟩
  | i :: π, seen, ks, sl1, c, hk, hlt => by
    have hi : i < l.length := by rw [hn]; exact hlt i (by simp)
    have hx : l[i]? = some (l[i].1, l[i].2) := List.getElem?_eq_getElem hi
    simp only [List.length_cons] at hk
    obtain ⟨sl2, r1, r2, r3⟩ := itLoop_ok c (by omega) hid hun hn hx h0n
    obtain ⟨sl3, q1, q2⟩ := itLoops_ok hid hun hn h0n π (seen ++ [i]) (ks ++ [l[i].1]) sl2 r3 (by simp; omega) fun j hj => hlt j (by simp [hj])
    refine ⟨sl3, ?_, ?_⟩
    · simp only [mrounds]
      rw [r1, Option.bind_some]
      simp only
      rw [r2, cond_true, q1]
    · simp only [List.append_assoc, List.singleton_append] at q2
      rw [List.filterMap_cons, hx]
      exact q2
/-- What the walk says: the row of the keys, in some order; all else as it was. -/
def Got (sl : List Slot) (l : List (Ky × SV)) (s : SV) (h' : H) : Prop :=
  ∃ ks : List Ky, ks.Perm (l.map (·.1)) ∧ (∀ j, j < sl.length → h'.m j = (hL sl).m j) ∧ h'.next ≤ sl.length + 3 + 3 * l.length ∧ (∀ j, h'.next ≤ j → h'.m j = .fresh) ∧
    ((ks = [] ∧ (s = nilSV ∨ s = ⟨.lp true [] 0, 0, 0, false⟩)) ∨ (ks ≠ [] ∧ s = ownSV (sl.length + 5) KC ks.length ∧ h'.m (sl.length + 5) = .own (cellsL KC ks) 3))
noncomputable def kGot (sl : List Slot) (l : List (Ky × SV)) (s : SV) (h' : H) : Option Unit :=
  open Classical in if Got sl l s h' then some () else none
theorem rd_more {l : Leaf} {sl t : List Slot} {p : V} {x : l.C} (h : rdT (.leaf l) (hL sl) p = some x) : rdT (.leaf l) (hL (sl ++ t)) p = some x := by
  cases p <;> try exact h
  rename_i id g o
  rw [rd_hp] at h ⊢
  rcases Nat.lt_or_ge id sl.length with hlt | hge
  · rw [hL_m, get_app hlt]
    exact h
  · rw [hL_m, List.getElem?_eq_none hge] at h
    cases h
theorem apK_ok {sl : List Slot} {id : Nat} {es : List (V × V)} {l : List (Ky × SV)} {p : V} (hp : rdT (.leaf .map) (hL sl) p = some (some id)) (hid : sl[id]? = some (.gmap es)) (hun : unG KeyT (.leaf .slice) es = some l) (hn : l.length ≤ 2000) :
    apK p (hL sl) (kGot sl l) = some () := by
  have hidl := (List.getElem?_eq_some_iff.1 hid).1
  have hes : es.length = l.length := by
    have : ∀ (es : List (V × V)) (l : List (Ky × SV)), unG KeyT (.leaf .slice) es = some l → es.length = l.length := fun es => by
      induction es with
      | nil => intro l h; simp only [unG, Option.some.injEq] at h; subst h; rfl
      | cons e es ih =>
        intro l h
        obtain ⟨a, b⟩ := e
        simp only [unG, Option.bind_eq_some_iff, Option.some.injEq] at h
        obtain ⟨x, _, y, _, l', h3, rfl⟩ := h
        simp only [List.length_cons, ih l' h3]
    exact this es l hun
  unfold apK
  simp only [hL_next]
  rw [hL_new]
  simp only [hL_next]
  rw [hL_newS, itE_eq]
  unfold itK
  have e1 : (sl ++ [Slot.own [.slice .nil 0 0 false] 1]).length = sl.length + 1 := by simp
  have e2 : (sl ++ [Slot.own [.slice .nil 0 0 false] 1] ++ [Slot.loop .ready]).length = sl.length + 2 := by simp
  simp only [hL_next, e1, e2]
  rw [List.append_assoc, rd_more hp]
  simp only [Option.bind_some]
  have hg : (hL (sl ++ ([Slot.own [.slice .nil 0 0 false] 1] ++ [Slot.loop .ready]))).gmap id KeyT (.leaf .slice) = some l := by
    simp only [H.gmap, hL_m, get_app hidl, hid, Option.getD_some, hun]
  rw [hg]
  simp only [Option.bind_some]
  rw [hL_newS]
  obtain ⟨sl1, h1⟩ : ∃ sl1, sl1 = sl ++ ([Slot.own [.slice .nil 0 0 false] 1] ++ [Slot.loop .ready]) ++ [Slot.miter id l.length []] := ⟨_, rfl⟩
  rw [← h1]
  have b1 : sl1[sl.length]? = some (.own [.slice .nil 0 0 false] 1) := by rw [h1]; simp
  have b2 : sl1[sl.length + 1]? = some (.loop .ready) := by rw [h1]; simp
  have b3 : sl1[sl.length + 2]? = some (.miter id l.length []) := by rw [h1]; simp
  have b0 : ∀ j, j < sl.length → sl1[j]? = sl[j]? := fun j hj => by rw [h1, get_app (by simp; omega), get_app hj]
  have hit : iterAt (hL sl1) (.hp (sl.length + 2) 0 0) = some (sl.length + 2, id, l.length) := by
    simp only [iterAt, hL_m, b3, Option.getD_some, b0 id hidl, hid]
    rw [guardO_pos ⟨hes, by omega⟩]
  rw [hit]
  simp only [Option.bind_some]
  have c1 : CInv sl id l.length [] [] sl1 := ⟨b0, b2, b3, by rw [h1]; simp, by rw [h1]; simp, ⟨.nil, 0, 0, false⟩, none, b1, Acc.nil, fun _ => by rw [h1]; simp, fun j e => by cases e⟩
  refine agreeN_of fun π hπ => ?_
  obtain ⟨sl2, q1, q2⟩ := itLoops_ok (h0 := hL (sl ++ ([Slot.own [.slice .nil 0 0 false] 1] ++ [Slot.loop .ready]))) hid hun rfl (by simp [hL_next]) π [] [] sl1 c1 (by rw [hπ.length_eq, List.length_range]; simp; omega) fun i hi => by simpa using (hπ.mem_iff.1 hi)
  rw [q1]
  simp only [Option.bind_some]
  have lo := q2.lo
  have hend : (hL sl2).endL (sl.length + 1) = some (hL (sl2.set (sl.length + 1) (.loop .exhausted))) := by
    simp only [H.endL, hL_m, q2.lp, Option.getD_some]
    rw [hL_put (by omega)]
  rw [hend]
  simp only [Option.bind_some]
  obtain ⟨s, o, hb, acc, ho1, ho2⟩ := q2.box
  rw [slice_box s (e := 1) (by rw [List.getElem?_set_ne (by omega)]; exact hb)]
  simp only [Option.bind_some, kGot]
  obtain ⟨ks, hks⟩ : ∃ ks, ks = [] ++ π.filterMap fun i => (l[i]?).map (·.1) := ⟨_, rfl⟩
  rw [← hks] at acc q2
  have hperm : ks.Perm (l.map (·.1)) := by
    rw [hks, List.nil_append]
    have := hπ.filterMap fun i => (l[i]?).map (·.1)
    refine this.trans ?_
    have : ∀ (l : List (Ky × SV)), (List.range l.length).filterMap (fun i => (l[i]?).map (·.1)) = l.map (·.1) := fun l => by
      induction l with
      | nil => rfl
      | cons a l ih =>
        rw [List.length_cons, List.range_succ_eq_map, List.filterMap_cons]
        simp only [List.getElem?_cons_zero, Option.map_some, List.filterMap_map, List.map_cons]
        congr 1
    rw [this]
  rw [if_pos]
  refine ⟨ks, hperm, fun j hj => ?_, ?_, fun j hj => ?_, ?_⟩
  · simp only [hL_m]
    rw [List.getElem?_set_ne (by omega), q2.old j hj]
  · have := q2.hi
    have := hperm.length_eq
    simp only [hL_next, List.length_set, List.length_map] at *
    omega
  · simp only [hL_next, List.length_set] at hj
    simp only [hL_m]
    rw [List.getElem?_eq_none (by rw [List.length_set]; exact hj)]
    rfl
  · cases o with
    | none =>
      obtain ⟨e, hs⟩ := acc
      exact .inl ⟨e, hs⟩
    | some j =>
      have hj := ho2 j rfl
      subst hj
      obtain ⟨a1, a2, a3⟩ := acc
      refine .inr ⟨fun e => by rw [e] at a1; simp at a1, a2, ?_⟩
      simp only [hL_m]
      rw [List.getElem?_set_ne (by omega), a3]
      rfl
/-! ### The two calls above -/
section walks
open Go.RowKit Go.Shelf
theorem ready136 (args : Array Value) (w : World) : (callFunc 136 args).run Tryz.prog w = .ok (.enter 136 args) w := run_callFunc Tryz.func136 rfl (by kernel_rfl) args w
theorem ready110 (args : Array Value) (w : World) : (callFunc 110 args).run Tryz.prog w = .ok (.enter 110 args) w := run_callFunc Tryz.func110 rfl (by kernel_rfl) args w
theorem ready57 (args : Array Value) (w : World) : (callFunc 57 args).run Tryz.prog w = .ok (.enter 57 args) w := run_callFunc Tryz.func57 rfl (by kernel_rfl) args w
theorem collect_walk {v : Value} {w : World} {Post : Value → World → Prop} (h : Calls Tryz.prog 136 #[.slice none 0 0, v] w fun e w' => ∃ r, e = .returned r ∧ Post r w') :
    Calls Tryz.prog 110 #[v] w fun e w' => ∃ r, e = .returned r ∧ Post r w' := by
  have r136 := ready136
  have mixed := Tryz.mixed
  go_enter Tryz.func110, Tryz.ntmps110
  go_wp2_with (go_at_call 136; refine h.mono ?_; rintro e w' ⟨r, rfl, hp⟩)
  go_ret
  exact ⟨r, rfl, hp⟩
theorem sorted_walk {v v2 : Value} {w : World} {Post : Value → World → Prop} {Post2 : Value → World → Prop} (h : Calls Tryz.prog 110 #[v] w fun e w' => ∃ r, e = .returned r ∧ Post r w')
    (hs : ∀ r w', Post r w' → Calls Tryz.prog 57 #[r, v2] w' fun e w'' => (∃ q, e = .returned q) ∧ Post2 r w'') : Calls Tryz.prog 89 #[v, v2] w fun e w' => ∃ r, e = .returned r ∧ Post2 r w' := by
  have r110 := ready110
  have r57 := ready57
  have mixed := Tryz.mixed
  go_enter Tryz.func89, Tryz.ntmps89
  go_wp2_with (first | (go_at_call 110; refine h.mono ?_; rintro e w' ⟨r, rfl, hp⟩) | (go_at_call 57; refine (hs _ _ hp).mono ?_; rintro e w'' ⟨⟨q, rfl⟩, hp2⟩))
  go_ret
  exact ⟨r, rfl, hp2⟩
end walks
end Go.Proofs.YtjkjcnadgpndoaaGreat
/- What fact.Check, arrival.check and their references compute. Conditions: those of each law. -/
namespace Go.Proofs.YtjkjcnadgpndoaaGreat
open Go Go.Proofs.YtjkjcnadgpndoaaGreat.Ev
set_option linter.unusedVariables false
set_option linter.unusedSimpArgs false
set_option maxRecDepth 100000
set_option maxHeartbeats 4000000
abbrev j1 : List Leaf := [.int .i64]
abbrev t1 : List Leaf := [.str]
/-- A fact, its lists as slices. -/
def low (f : Bool) (x : Fct) : LT FS := (x.1, x.2.1, x.2.2.1, x.2.2.2.1, rowSV f j1 x.2.2.2.2.1, rowSV f t1 x.2.2.2.2.2)
theorem rd_fact {f : Bool} {h : H} {xs : List Fct} {i : Nat} : rdT (.agg FS) h ((rowSV f FC xs).a.add (i * 6)) = (xs[i]?).map (low f) := by
  rw [rds_row (ls := FC) (w := 6) rfl rfl (by omega)]
  cases xs[i]? <;> rfl
theorem row_ints {f : Bool} {h : H} {l : List Int} : rdRow true h j1 ⟨(rowSV f j1 l).a, l.length, l.length, true⟩ = some l := rdRow_args (f := f) rfl
theorem row_texts {f : Bool} {h : H} {l : List ByteArray} : rdRow true h t1 ⟨(rowSV f t1 l).a, l.length, l.length, true⟩ = some l := rdRow_args (f := f) rfl
theorem row_ints' {f : Bool} {h : H} {l : List Int} : rdRow true h j1 (rowSV f j1 l) = some l := rdRow_args rfl
theorem row_texts' {f : Bool} {h : H} {l : List ByteArray} : rdRow true h t1 (rowSV f t1 l) = some l := rdRow_args rfl
theorem res_ints {h : H} {l : List Int} : rdRow false h j1 ⟨(rowSV true j1 l).a, l.length, l.length, true⟩ = some l := rdRow_res (lp := false) rfl
theorem res_texts {h : H} {l : List ByteArray} : rdRow false h t1 ⟨(rowSV true t1 l).a, l.length, l.length, true⟩ = some l := rdRow_res (lp := false) rfl
theorem i64_suc {i : Nat} (h : i < 2 ^ 62) : IntKind.i64.wrap ((i : Int) + 1) = ((i + 1 : Nat) : Int) := i64_succ (by omega)
/-! ### Searches whose function leaves the heap as it is -/
theorem IndexI_ok {T : Table} {v : V} {h : H} {f : Bool} {xs : List Int} (p : Int → Bool) (hn : xs.length < 2 ^ 62) (hc : ∀ x ∈ xs, ∀ {R : Type} (k : V → H → Option R), callV T.dy v [.int .i64 x] h k = k (.bool (p x)) h) :
    slices_IndexFunc_int_int T (rowSV f j1 xs) v h = some (idxOf p xs, h) := by
  unfold slices_IndexFunc_int_int
  rw [iter_find xs p (fun i => (i : Int)) (by omega) (fun i x hx => by
    have hi := (List.getElem?_eq_some_iff.1 hx).1
    unfold slices_IndexFunc_int_int.loop1
    try simp -implicitDefEqProofs only [rowSV_len, Int.toNat_natCast]
    rw [decide_eq_true (by omega), cond_true, guardO_pos (by omega), rd_row0 (ls := j1) (w := 1) rfl (by omega), hx]
    try simp -implicitDefEqProofs only [Option.bind_some, LT.lo, Leaf.lo, List.getElem?_cons_zero, Leaf.pack, reduceIte]
    rw [hc x (List.mem_of_getElem? hx), i64_suc (by omega)]
    try simp -implicitDefEqProofs only [Res.pack, Ty.pack, Leaf.pack, Option.bind_some]
    cases p x <;> rfl) (by
    unfold slices_IndexFunc_int_int.loop1
    try simp -implicitDefEqProofs only [rowSV_len]
    rw [decide_eq_false (by omega), cond_false])]
  unfold idxOf
  cases xs.findIdx? p <;> rfl
theorem IndexT_ok {T : Table} {v : V} {h : H} {f : Bool} {xs : List ByteArray} (p : ByteArray → Bool) (hn : xs.length < 2 ^ 62) (hc : ∀ x ∈ xs, ∀ {R : Type} (k : V → H → Option R), callV T.dy v [.str x] h k = k (.bool (p x)) h) :
    slices_IndexFunc_string_string T (rowSV f t1 xs) v h = some (idxOf p xs, h) := by
  unfold slices_IndexFunc_string_string
  rw [iter_find xs p (fun i => (i : Int)) (by omega) (fun i x hx => by
    have hi := (List.getElem?_eq_some_iff.1 hx).1
    unfold slices_IndexFunc_string_string.loop1
    try simp -implicitDefEqProofs only [rowSV_len, Int.toNat_natCast]
    rw [decide_eq_true (by omega), cond_true, guardO_pos (by omega), rd_row0 (ls := t1) (w := 1) rfl (by omega), hx]
    try simp -implicitDefEqProofs only [Option.bind_some, LT.lo, Leaf.lo, List.getElem?_cons_zero, Leaf.pack, reduceIte]
    rw [hc x (List.mem_of_getElem? hx), i64_suc (by omega)]
    try simp -implicitDefEqProofs only [Res.pack, Ty.pack, Leaf.pack, Option.bind_some]
    cases p x <;> rfl) (by
    unfold slices_IndexFunc_string_string.loop1
    try simp -implicitDefEqProofs only [rowSV_len]
    rw [decide_eq_false (by omega), cond_false])]
  unfold idxOf
  cases xs.findIdx? p <;> rfl
/-- The cells of a fact, as an argument. -/
abbrev argF (f : Bool) (x : Fct) : V := .agg [.int .i64 x.1, .int .i64 x.2.1, .int .i64 x.2.2.1, .int .i64 x.2.2.2.1, .slice (rowSV f j1 x.2.2.2.2.1).a x.2.2.2.2.1.length x.2.2.2.2.1.length true, .slice (rowSV f t1 x.2.2.2.2.2).a x.2.2.2.2.2.length x.2.2.2.2.2.length true]
theorem IndexF_ok {T : Table} {v : V} {h : H} {f : Bool} {xs : List Fct} (p : Fct → Bool) (hn : xs.length < 2 ^ 62) (hc : ∀ x ∈ xs, ∀ {R : Type} (k : V → H → Option R), callV T.dy v [argF f x] h k = k (.bool (p x)) h) :
    slices_IndexFunc_api_Fact_api_Fact T (rowSV f FC xs) v h = some (idxOf p xs, h) := by
  unfold slices_IndexFunc_api_Fact_api_Fact
  rw [iter_find xs p (fun i => (i : Int)) (by omega) (fun i x hx => by
    have hi := (List.getElem?_eq_some_iff.1 hx).1
    unfold slices_IndexFunc_api_Fact_api_Fact.loop1
    try simp -implicitDefEqProofs only [rowSV_len, Int.toNat_natCast]
    rw [decide_eq_true (by omega), cond_true, guardO_pos (by omega), rd_fact, hx]
    try simp -implicitDefEqProofs only [Option.bind_some, Option.map_some, low, rowSV_len, rowSV_cap, rowSV_tail]
    rw [hc x (List.mem_of_getElem? hx), i64_suc (by omega)]
    try simp -implicitDefEqProofs only [Res.pack, Ty.pack, Leaf.pack, Option.bind_some]
    cases p x <;> rfl) (by
    unfold slices_IndexFunc_api_Fact_api_Fact.loop1
    try simp -implicitDefEqProofs only [rowSV_len]
    rw [decide_eq_false (by omega), cond_false])]
  unfold idxOf
  cases xs.findIdx? p <;> rfl
theorem ContainsI_ok {T : Table} {v : V} {h : H} {f : Bool} {xs : List Int} (p : Int → Bool) (hn : xs.length < 2 ^ 62) (hc : ∀ x ∈ xs, ∀ {R : Type} (k : V → H → Option R), callV T.dy v [.int .i64 x] h k = k (.bool (p x)) h) :
    slices_ContainsFunc_int_int T (rowSV f j1 xs) v h = some (xs.any p, h) := by
  unfold slices_ContainsFunc_int_int
  rw [IndexI_ok (T := slices_ContainsFunc_int_int.tb T) p hn hc]
  simp only [Option.bind_some, idxOf_nonneg]
theorem ContainsT_ok {T : Table} {v : V} {h : H} {f : Bool} {xs : List ByteArray} (p : ByteArray → Bool) (hn : xs.length < 2 ^ 62) (hc : ∀ x ∈ xs, ∀ {R : Type} (k : V → H → Option R), callV T.dy v [.str x] h k = k (.bool (p x)) h) :
    slices_ContainsFunc_string_string T (rowSV f t1 xs) v h = some (xs.any p, h) := by
  unfold slices_ContainsFunc_string_string
  rw [IndexT_ok (T := slices_ContainsFunc_string_string.tb T) p hn hc]
  simp only [Option.bind_some, idxOf_nonneg]
theorem ContainsF_ok {T : Table} {v : V} {h : H} {f : Bool} {xs : List Fct} (p : Fct → Bool) (hn : xs.length < 2 ^ 62) (hc : ∀ x ∈ xs, ∀ {R : Type} (k : V → H → Option R), callV T.dy v [argF f x] h k = k (.bool (p x)) h) :
    slices_ContainsFunc_api_Fact_api_Fact T (rowSV f FC xs) v h = some (xs.any p, h) := by
  unfold slices_ContainsFunc_api_Fact_api_Fact
  rw [IndexF_ok (T := slices_ContainsFunc_api_Fact_api_Fact.tb T) p hn hc]
  simp only [Option.bind_some, idxOf_nonneg]
/-! ### Texts -/
def goodB (b : UInt8) : Bool := !(decide ((b.toNat : Int) < 32)) && !(decide ((126 : Int) < (b.toNat : Int)))
def goodS (s : ByteArray) : Bool := s.data.toList.all goodB
def goodT (s : ByteArray) : Bool := !(decide ((64 : Int) < ((ByteArray.size s : Nat) : Int))) && goodS s
theorem byte_at {s : ByteArray} {i : Nat} {b : UInt8} (h : s.data.toList[i]? = some b) : ((((ByteArray.data s)[i]?).map UInt8.toNat).getD 0 : Nat) = b.toNat := by
  rw [Array.getElem?_toList] at h
  rw [h]; rfl
theorem Printable_ok (s : ByteArray) (hs : s.size ≤ 64) : fact_printableP s = some (goodS s) := by
  have hl : s.data.toList.length = s.size := by rw [Array.length_toList]; rfl
  unfold fact_printableP fact_printable
  rw [iter_find s.data.toList (fun b => !goodB b) (fun _ => false) (by omega) (fun i b hb => by
    have hi := (List.getElem?_eq_some_iff.1 hb).1
    unfold fact_printable.loop1
    try simp -implicitDefEqProofs only [Int.toNat_natCast]
    rw [decide_eq_true (by omega), cond_true, guardO_pos (by omega), guardO_pos (by omega), i64_suc (by omega), byte_at hb]
    unfold goodB
    cases decide ((b.toNat : Int) < 32) <;> cases decide ((126 : Int) < (b.toNat : Int)) <;> rfl) (by
    unfold fact_printable.loop1
    try simp -implicitDefEqProofs only []
    rw [hl, decide_eq_false (by omega), cond_false])]
  unfold goodS
  rw [all_find]
  cases s.data.toList.findIdx? fun b => !goodB b <;> rfl
theorem RPrintable_ok (s : ByteArray) (hs : s.size ≤ 64) : spileref53_printableP s = some (goodS s) := by
  have hl : s.data.toList.length = s.size := by rw [Array.length_toList]; rfl
  unfold spileref53_printableP spileref53_printable
  rw [iter_find s.data.toList (fun b => !goodB b) (fun _ => false) (by omega) (fun i b hb => by
    have hi := (List.getElem?_eq_some_iff.1 hb).1
    unfold spileref53_printable.loop1
    try simp -implicitDefEqProofs only [Int.toNat_natCast]
    rw [decide_eq_true (by omega), cond_true, guardO_pos (by omega), guardO_pos (by omega), i64_suc (by omega), byte_at hb]
    unfold goodB
    cases decide ((b.toNat : Int) < 32) <;> cases decide ((126 : Int) < (b.toNat : Int)) <;> rfl) (by
    unfold spileref53_printable.loop1
    try simp -implicitDefEqProofs only []
    rw [hl, decide_eq_false (by omega), cond_false])]
  unfold goodS
  rw [all_find]
  cases s.data.toList.findIdx? fun b => !goodB b <;> rfl
/-! ### fact.Check -/
def betw (n a b : Int) : Bool := decide (a ≤ n) && decide (n ≤ b)
def goodN (n : Int) : Bool := betw n (-1125899906842624) 1125899906842624
def checkF (f : Fct) : Int :=
  if (decide ((16 : Int) < ((f.2.2.2.2.1.length : Nat) : Int)) || decide ((8 : Int) < ((f.2.2.2.2.2.length : Nat) : Int))) = true then 8
  else if (betw f.1 0 100000 && (betw f.2.1 1 1048576 && (betw f.2.2.1 1 1073741824 && betw f.2.2.2.1 1 99))) = false then 2
  else if (f.2.2.2.2.1.any fun n => !goodN n) = true then 2 else if (f.2.2.2.2.2.any fun s => !goodT s) = true then 4 else 0
theorem Within_ok (n a b : Int) : fact_withinP n a b = some (betw n a b) := by
  unfold fact_withinP fact_within betw
  cases decide (a ≤ n) <;> rfl
theorem Check1_ok (n : Int) : fact_Check_1P n = some (!goodN n) := by
  unfold fact_Check_1P fact_Check_1
  rw [Within_ok]; rfl
theorem Check2_ok (s : ByteArray) : fact_Check_2P s = some (!goodT s) := by
  unfold fact_Check_2P fact_Check_2 goodT
  by_cases h : (64 : Int) < ((ByteArray.size s : Nat) : Int)
  · rw [decide_eq_true h]; rfl
  · rw [decide_eq_false h, Printable_ok s (by omega)]; rfl
theorem Check_ok (x : Fct) : fact_CheckP x = some (checkF x) := by
  obtain ⟨a, b, c, d, e, g⟩ := x
  unfold fact_CheckP fact_Check checkF
  try simp -implicitDefEqProofs only [evs, reduceIte, rdRes, rdTT, rdTy, rdLT, Res.un, TT.un, Ty.un, LT.un, Leaf.un, Leaf.plain, LT.plain, evh, List.replicate, splice, LT.pack, Leaf.pack, Nat.reduceAdd, Nat.reduceSub, Nat.reduceLeDiff, Nat.reduceLT, Nat.reduceEqDiff, LT.lo, Leaf.lo, Within_ok, Option.bind_some]
  by_cases h1 : (16 : Int) < (e.length : Int)
  · simp -implicitDefEqProofs only [decide_eq_true h1, evs, reduceIte, rdRes, rdTT, rdTy, rdLT, Res.un, TT.un, Ty.un, LT.un, Leaf.un, Leaf.plain, LT.plain, evh, List.replicate, splice, LT.pack, Leaf.pack, Nat.reduceAdd, Nat.reduceSub, Nat.reduceLeDiff, Nat.reduceLT, Nat.reduceEqDiff, LT.lo, Leaf.lo, Bool.not_true, cond_false, cond_true, Bool.true_or, reduceIte, Option.bind_some]
  by_cases h2 : (8 : Int) < (g.length : Int)
  · simp -implicitDefEqProofs only [decide_eq_false h1, decide_eq_true h2, evs, reduceIte, rdRes, rdTT, rdTy, rdLT, Res.un, TT.un, Ty.un, LT.un, Leaf.un, Leaf.plain, LT.plain, evh, List.replicate, splice, LT.pack, Leaf.pack, Nat.reduceAdd, Nat.reduceSub, Nat.reduceLeDiff, Nat.reduceLT, Nat.reduceEqDiff, LT.lo, Leaf.lo, Bool.not_false, cond_true, Bool.or_true, reduceIte, Option.bind_some]
  cases hb1 : betw a 0 100000
  · simp -implicitDefEqProofs only [decide_eq_false h1, decide_eq_false h2, hb1, evs, reduceIte, rdRes, rdTT, rdTy, rdLT, Res.un, TT.un, Ty.un, LT.un, Leaf.un, Leaf.plain, LT.plain, evh, List.replicate, splice, LT.pack, Leaf.pack, Nat.reduceAdd, Nat.reduceSub, Nat.reduceLeDiff, Nat.reduceLT, Nat.reduceEqDiff, LT.lo, Leaf.lo, Bool.not_false, Bool.not_true, cond_true, cond_false, Bool.or_false, Option.bind_some, Bool.false_and, Bool.false_eq_true, reduceIte]
  cases hb2 : betw b 1 1048576
  · simp -implicitDefEqProofs only [decide_eq_false h1, decide_eq_false h2, hb1, hb2, evs, reduceIte, rdRes, rdTT, rdTy, rdLT, Res.un, TT.un, Ty.un, LT.un, Leaf.un, Leaf.plain, LT.plain, evh, List.replicate, splice, LT.pack, Leaf.pack, Nat.reduceAdd, Nat.reduceSub, Nat.reduceLeDiff, Nat.reduceLT, Nat.reduceEqDiff, LT.lo, Leaf.lo, Bool.not_false, Bool.not_true, cond_true, cond_false, Bool.or_false, Option.bind_some, Bool.false_and, Bool.and_false, Bool.false_eq_true, reduceIte]
  cases hb3 : betw c 1 1073741824
  · simp -implicitDefEqProofs only [decide_eq_false h1, decide_eq_false h2, hb1, hb2, hb3, evs, reduceIte, rdRes, rdTT, rdTy, rdLT, Res.un, TT.un, Ty.un, LT.un, Leaf.un, Leaf.plain, LT.plain, evh, List.replicate, splice, LT.pack, Leaf.pack, Nat.reduceAdd, Nat.reduceSub, Nat.reduceLeDiff, Nat.reduceLT, Nat.reduceEqDiff, LT.lo, Leaf.lo, Bool.not_false, Bool.not_true, cond_true, cond_false, Bool.or_false, Option.bind_some, Bool.false_and, Bool.and_false, Bool.false_eq_true, reduceIte]
  cases hb4 : betw d 1 99
  · simp -implicitDefEqProofs only [decide_eq_false h1, decide_eq_false h2, hb1, hb2, hb3, hb4, evs, reduceIte, rdRes, rdTT, rdTy, rdLT, Res.un, TT.un, Ty.un, LT.un, Leaf.un, Leaf.plain, LT.plain, evh, List.replicate, splice, LT.pack, Leaf.pack, Nat.reduceAdd, Nat.reduceSub, Nat.reduceLeDiff, Nat.reduceLT, Nat.reduceEqDiff, LT.lo, Leaf.lo, Bool.not_false, Bool.not_true, cond_true, cond_false, Bool.or_false, Option.bind_some, Bool.false_and, Bool.and_false, Bool.false_eq_true, reduceIte]
  try simp -implicitDefEqProofs only [decide_eq_false h1, decide_eq_false h2, hb1, hb2, hb3, hb4, evs, reduceIte, rdRes, rdTT, rdTy, rdLT, Res.un, TT.un, Ty.un, LT.un, Leaf.un, Leaf.plain, LT.plain, evh, List.replicate, splice, LT.pack, Leaf.pack, Nat.reduceAdd, Nat.reduceSub, Nat.reduceLeDiff, Nat.reduceLT, Nat.reduceEqDiff, LT.lo, Leaf.lo, Bool.not_false, Bool.not_true, cond_true, cond_false, Bool.or_false, Option.bind_some, Bool.and_self, Bool.true_eq_false, Bool.false_eq_true, reduceIte]
  have k1 : ∀ h, slices_ContainsFunc_int_int fact_Check.tb ⟨(rowSV false j1 e).a, e.length, e.length, true⟩ (.func 100 []) h = some (e.any (fun n => !goodN n), h) := fun h =>
    ContainsI_ok (f := false) (fun n => !goodN n) (by omega) fun x _ R k => by
      show (fact_Check_1P x).bind (fun r => k ((Res.one (.leaf .bool)).lo true r) _) = _
      rw [Check1_ok]; rfl
  have k2 : ∀ h, slices_ContainsFunc_string_string fact_Check.tb ⟨(rowSV false t1 g).a, g.length, g.length, true⟩ (.func 102 []) h = some (g.any (fun n => !goodT n), h) := fun h =>
    ContainsT_ok (f := false) (fun n => !goodT n) (by omega) fun x _ R k => by
      show (fact_Check_2P x).bind (fun r => k ((Res.one (.leaf .bool)).lo true r) _) = _
      rw [Check2_ok]; rfl
  rw [k1, Option.bind_some]
  cases e.any fun n => !goodN n
  · simp -implicitDefEqProofs only [evs, reduceIte, rdRes, rdTT, rdTy, rdLT, Res.un, TT.un, Ty.un, LT.un, Leaf.un, Leaf.plain, LT.plain, evh, List.replicate, splice, LT.pack, Leaf.pack, Nat.reduceAdd, Nat.reduceSub, Nat.reduceLeDiff, Nat.reduceLT, Nat.reduceEqDiff, LT.lo, Leaf.lo, cond_false, k2, Option.bind_some, Bool.false_eq_true, reduceIte]
    cases g.any fun n => !goodT n <;> rfl
  · rfl
theorem Check88_ok (x : Fct) : arrival_check_1P x = some (!(decide (checkF x = 0))) := by
  obtain ⟨a, b, c, d, e, g⟩ := x
  unfold arrival_check_1P arrival_check_1
  try simp -implicitDefEqProofs only [evs, reduceIte, rdRes, rdTT, rdTy, rdLT, Res.un, TT.un, Ty.un, LT.un, Leaf.un, Leaf.plain, LT.plain, evh, List.replicate, splice, LT.pack, Leaf.pack, Nat.reduceAdd, Nat.reduceSub, Nat.reduceLeDiff, Nat.reduceLT, Nat.reduceEqDiff, LT.lo, Leaf.lo, row_ints, row_texts, Check_ok, Option.bind_some]
def checkL (l : List Fct) : Int := if (1024 : Int) < (l.length : Int) then 8 else if (l.any fun f => !(decide (checkF f = 0))) = true then 1 else 0
theorem checkP_ok (l : List Fct) : arrival_checkP l = some (checkL l) := by
  unfold arrival_checkP arrival_check checkL
  try simp -implicitDefEqProofs only [evs, reduceIte, rdRes, rdTT, rdTy, rdLT, Res.un, TT.un, Ty.un, LT.un, Leaf.un, Leaf.plain, LT.plain, rowSV_len]
  by_cases h1 : (1024 : Int) < (l.length : Int)
  · rw [decide_eq_true h1, if_pos h1]; rfl
  · rw [decide_eq_false h1, if_neg h1, cond_false]
    have k1 : slices_ContainsFunc_api_Fact_api_Fact arrival_check.tb (rowSV false FC l) (.func 88 []) H.empty = some (l.any (fun f => !(decide (checkF f = 0))), H.empty) :=
      ContainsF_ok (fun f => !(decide (checkF f = 0))) (by omega) fun x _ R k => by
        show (rdTTK true H.empty [.agg FC] [argF false x] fun y => (arrival_check_1P y).bind fun r => k ((Res.one (.leaf .bool)).lo true r) H.empty) = _
        rw [rdTTK_bind]
        have : rdTT true H.empty [.agg FC] [argF false x] = some x := rdLT_lo (lp := true) (f := false) (h := H.empty) rfl FC x rfl
        rw [this, Option.bind_some, Check88_ok]
        rfl
    rw [k1, Option.bind_some]
    simp only
    cases l.any fun f => !(decide (checkF f = 0)) <;> rfl
end Go.Proofs.YtjkjcnadgpndoaaGreat
/- What the references' Check compute: the same. Conditions: none. -/
namespace Go.Proofs.YtjkjcnadgpndoaaGreat
open Go Go.Proofs.YtjkjcnadgpndoaaGreat.Ev
set_option linter.unusedVariables false
set_option linter.unusedSimpArgs false
set_option maxRecDepth 100000
set_option maxHeartbeats 4000000
theorem Between_ok (n a b : Int) : spileref53_betweenP n a b = some (betw n a b) := by
  unfold spileref53_betweenP spileref53_between spileref47_BetweenP spileref47_Between betw
  cases decide (a ≤ n) <;> rfl
/-- A fact in a block. -/
abbrev cFt (f : Bool) (x : Fct) : Slot := .own [.int .i64 x.1, .int .i64 x.2.1, .int .i64 x.2.2.1, .int .i64 x.2.2.2.1, .slice (rowSV f j1 x.2.2.2.2.1).a x.2.2.2.2.1.length x.2.2.2.2.1.length true, .slice (rowSV f t1 x.2.2.2.2.2).a x.2.2.2.2.2.length x.2.2.2.2.2.length true] 6
theorem rd_cFt {f : Bool} {sl : List Slot} {id : Nat} {x : Fct} (h : sl[id]? = some (cFt f x)) :
    rdT (.leaf (.int .i64)) (hL sl) (.hp id 6 0) = some x.1 ∧ rdT (.leaf (.int .i64)) (hL sl) (.hp id 6 1) = some x.2.1 ∧ rdT (.leaf (.int .i64)) (hL sl) (.hp id 6 2) = some x.2.2.1 ∧ rdT (.leaf (.int .i64)) (hL sl) (.hp id 6 3) = some x.2.2.2.1 ∧
    rdT (.leaf .slice) (hL sl) (.hp id 6 4) = some (rowSV f j1 x.2.2.2.2.1) ∧ rdT (.leaf .slice) (hL sl) (.hp id 6 5) = some (rowSV f t1 x.2.2.2.2.2) := by
  refine ⟨?_, ?_, ?_, ?_, ?_, ?_⟩ <;> (rw [rd_own (g := 6) h rfl]; rfl)
theorem rds_cFt {f : Bool} {sl : List Slot} {id : Nat} {x : Fct} (h : sl[id]? = some (cFt f x)) :
    rdT (.agg FS) (hL sl) (.hp id 6 0) = some (low f x) ∧ rdT (.agg [.int .i64, .int .i64, .int .i64]) (hL sl) (.hp id 6 0) = some (keyF x) := by
  constructor <;> (rw [rds_hp (by simp), hL_m, h]; rfl)
theorem RCheck1_ok {sl : List Slot} {x : Fct} {f : Bool} (h : sl[0]? = some (cFt f x)) (hn : x.2.2.2.2.1.length < 2 ^ 62) :
    iter FUEL (spileref53_Check.loop1 (hL [])) (0, hL sl) = some (if (x.2.2.2.2.1.any fun n => !goodN n) = true then (.ret 2, hL sl) else (.ex0 (), hL sl)) := by
  obtain ⟨_, _, _, _, q4, _⟩ := rd_cFt h
  rw [iter_find x.2.2.2.2.1 (fun n => !goodN n) (fun _ => (2 : Int)) (by omega) (fun i y hy => by
    have hi := (List.getElem?_eq_some_iff.1 hy).1
    unfold spileref53_Check.loop1
    simp only [show (hL []).next = 0 from rfl]
    rw [q4]
    try simp -implicitDefEqProofs only [Option.bind_some, rowSV_len, Int.toNat_natCast]
    rw [decide_eq_true (by omega), cond_true, guardO_pos (by omega), rd_row0 (ls := j1) (w := 1) rfl (by omega), hy]
    try simp -implicitDefEqProofs only [Option.bind_some, LT.lo, Leaf.lo, List.getElem?_cons_zero, Leaf.pack, reduceIte, Between_ok]
    rw [i64_suc (by omega)]
    unfold goodN
    cases betw y (-1125899906842624) 1125899906842624 <;> rfl) (by
    unfold spileref53_Check.loop1
    simp only [show (hL []).next = 0 from rfl]
    rw [q4]
    try simp -implicitDefEqProofs only [Option.bind_some, rowSV_len]
    rw [decide_eq_false (by omega), cond_false])]
  have hall := all_find (fun n => goodN n) x.2.2.2.2.1
  cases hx : x.2.2.2.2.1.findIdx? fun n => !goodN n with
  | none =>
    rw [List.findIdx?_eq_none_iff] at hx
    rw [if_neg (by rw [Bool.not_eq_true, List.any_eq_false]; intro y hy; simp [hx y hy])]
  | some m =>
    rw [List.findIdx?_eq_some_iff_getElem] at hx
    obtain ⟨hm, hp, _⟩ := hx
    rw [if_pos (List.any_eq_true.2 ⟨_, List.getElem_mem hm, hp⟩)]
theorem RCheck2_ok {sl : List Slot} {x : Fct} {f : Bool} (h : sl[0]? = some (cFt f x)) (hn : x.2.2.2.2.2.length < 2 ^ 62) :
    iter FUEL (spileref53_Check.loop2 (hL [])) (0, hL sl) = some (if (x.2.2.2.2.2.any fun n => !goodT n) = true then (.ret 4, hL sl) else (.ex0 (), hL sl)) := by
  obtain ⟨_, _, _, _, _, q5⟩ := rd_cFt h
  rw [iter_find x.2.2.2.2.2 (fun n => !goodT n) (fun _ => (4 : Int)) (by omega) (fun i y hy => by
    have hi := (List.getElem?_eq_some_iff.1 hy).1
    unfold spileref53_Check.loop2
    simp only [show (hL []).next = 0 from rfl]
    rw [q5]
    try simp -implicitDefEqProofs only [Option.bind_some, rowSV_len, Int.toNat_natCast]
    rw [decide_eq_true (by omega), cond_true, guardO_pos (by omega), rd_row0 (ls := t1) (w := 1) rfl (by omega), hy]
    try simp -implicitDefEqProofs only [Option.bind_some, LT.lo, Leaf.lo, List.getElem?_cons_zero, Leaf.pack, reduceIte]
    rw [i64_suc (by omega)]
    unfold goodT
    by_cases hs : (64 : Int) < ((ByteArray.size y : Nat) : Int)
    · rw [decide_eq_true hs]; rfl
    · rw [decide_eq_false hs, guardO_pos (by omega), RPrintable_ok y (by omega)]
      cases goodS y <;> rfl) (by
    unfold spileref53_Check.loop2
    simp only [show (hL []).next = 0 from rfl]
    rw [q5]
    try simp -implicitDefEqProofs only [Option.bind_some, rowSV_len]
    rw [decide_eq_false (by omega), cond_false])]
  cases hx : x.2.2.2.2.2.findIdx? fun n => !goodT n with
  | none =>
    rw [List.findIdx?_eq_none_iff] at hx
    rw [if_neg (by rw [Bool.not_eq_true, List.any_eq_false]; intro y hy; simp [hx y hy])]
  | some m =>
    rw [List.findIdx?_eq_some_iff_getElem] at hx
    obtain ⟨hm, hp, _⟩ := hx
    rw [if_pos (List.any_eq_true.2 ⟨_, List.getElem_mem hm, hp⟩)]
theorem RCheck_ok (x : Fct) : spileref53_CheckP x = some (checkF x) := by
  have L1 := fun (h1 : x.2.2.2.2.1.length < 2 ^ 62) => RCheck1_ok (sl := [cFt false x]) (f := false) (x := x) rfl h1
  have L2 := fun (h1 : x.2.2.2.2.2.length < 2 ^ 62) => RCheck2_ok (sl := [cFt false x]) (f := false) (x := x) rfl h1
  obtain ⟨a, b, c, d, e, g⟩ := x
  simp only at L1 L2
  unfold spileref53_CheckP spileref53_Check checkF
  try simp -implicitDefEqProofs only [evs, reduceIte, rdRes, rdTT, rdTy, rdLT, Res.un, TT.un, Ty.un, LT.un, Leaf.un, Leaf.plain, LT.plain, evh, List.replicate, splice, LT.pack, Leaf.pack, Nat.reduceAdd, Nat.reduceSub, Nat.reduceLeDiff, Nat.reduceLT, Nat.reduceEqDiff, LT.lo, Leaf.lo, Between_ok, Option.bind_some]
  by_cases h1 : (16 : Int) < (e.length : Int)
  · simp -implicitDefEqProofs only [decide_eq_true h1, evs, reduceIte, rdRes, rdTT, rdTy, rdLT, Res.un, TT.un, Ty.un, LT.un, Leaf.un, Leaf.plain, LT.plain, evh, List.replicate, splice, LT.pack, Leaf.pack, Nat.reduceAdd, Nat.reduceSub, Nat.reduceLeDiff, Nat.reduceLT, Nat.reduceEqDiff, LT.lo, Leaf.lo, Bool.not_true, cond_false, cond_true, Bool.true_or, reduceIte, Option.bind_some]
  by_cases h2 : (8 : Int) < (g.length : Int)
  · simp -implicitDefEqProofs only [decide_eq_false h1, decide_eq_true h2, evs, reduceIte, rdRes, rdTT, rdTy, rdLT, Res.un, TT.un, Ty.un, LT.un, Leaf.un, Leaf.plain, LT.plain, evh, List.replicate, splice, LT.pack, Leaf.pack, Nat.reduceAdd, Nat.reduceSub, Nat.reduceLeDiff, Nat.reduceLT, Nat.reduceEqDiff, LT.lo, Leaf.lo, Bool.not_false, cond_true, Bool.or_true, reduceIte, Option.bind_some]
  cases hb1 : betw a 0 100000
  · simp -implicitDefEqProofs only [decide_eq_false h1, decide_eq_false h2, hb1, evs, reduceIte, rdRes, rdTT, rdTy, rdLT, Res.un, TT.un, Ty.un, LT.un, Leaf.un, Leaf.plain, LT.plain, evh, List.replicate, splice, LT.pack, Leaf.pack, Nat.reduceAdd, Nat.reduceSub, Nat.reduceLeDiff, Nat.reduceLT, Nat.reduceEqDiff, LT.lo, Leaf.lo, Bool.not_false, Bool.not_true, cond_true, cond_false, Bool.or_false, Option.bind_some, Bool.false_and, Bool.false_eq_true, reduceIte]
  cases hb2 : betw b 1 1048576
  · simp -implicitDefEqProofs only [decide_eq_false h1, decide_eq_false h2, hb1, hb2, evs, reduceIte, rdRes, rdTT, rdTy, rdLT, Res.un, TT.un, Ty.un, LT.un, Leaf.un, Leaf.plain, LT.plain, evh, List.replicate, splice, LT.pack, Leaf.pack, Nat.reduceAdd, Nat.reduceSub, Nat.reduceLeDiff, Nat.reduceLT, Nat.reduceEqDiff, LT.lo, Leaf.lo, Bool.not_false, Bool.not_true, cond_true, cond_false, Bool.or_false, Option.bind_some, Bool.false_and, Bool.and_false, Bool.false_eq_true, reduceIte]
  cases hb3 : betw c 1 1073741824
  · simp -implicitDefEqProofs only [decide_eq_false h1, decide_eq_false h2, hb1, hb2, hb3, evs, reduceIte, rdRes, rdTT, rdTy, rdLT, Res.un, TT.un, Ty.un, LT.un, Leaf.un, Leaf.plain, LT.plain, evh, List.replicate, splice, LT.pack, Leaf.pack, Nat.reduceAdd, Nat.reduceSub, Nat.reduceLeDiff, Nat.reduceLT, Nat.reduceEqDiff, LT.lo, Leaf.lo, Bool.not_false, Bool.not_true, cond_true, cond_false, Bool.or_false, Option.bind_some, Bool.false_and, Bool.and_false, Bool.false_eq_true, reduceIte]
  cases hb4 : betw d 1 99
  · simp -implicitDefEqProofs only [decide_eq_false h1, decide_eq_false h2, hb1, hb2, hb3, hb4, evs, reduceIte, rdRes, rdTT, rdTy, rdLT, Res.un, TT.un, Ty.un, LT.un, Leaf.un, Leaf.plain, LT.plain, evh, List.replicate, splice, LT.pack, Leaf.pack, Nat.reduceAdd, Nat.reduceSub, Nat.reduceLeDiff, Nat.reduceLT, Nat.reduceEqDiff, LT.lo, Leaf.lo, Bool.not_false, Bool.not_true, cond_true, cond_false, Bool.or_false, Option.bind_some, Bool.false_and, Bool.and_false, Bool.false_eq_true, reduceIte]
  try simp -implicitDefEqProofs only [decide_eq_false h1, decide_eq_false h2, hb1, hb2, hb3, hb4, evs, reduceIte, rdRes, rdTT, rdTy, rdLT, Res.un, TT.un, Ty.un, LT.un, Leaf.un, Leaf.plain, LT.plain, evh, List.replicate, splice, LT.pack, Leaf.pack, Nat.reduceAdd, Nat.reduceSub, Nat.reduceLeDiff, Nat.reduceLT, Nat.reduceEqDiff, LT.lo, Leaf.lo, Bool.not_false, Bool.not_true, cond_true, cond_false, Bool.or_false, Option.bind_some, Bool.and_self, Bool.true_eq_false, Bool.false_eq_true, reduceIte]
  have M1 := L1 (by omega)
  have M2 := L2 (by omega)
  simp only [cFt] at M1 M2
  rw [M1]
  cases e.any fun n => !goodN n
  · rw [if_neg (by simp), Option.bind_some]
    simp only
    rw [M2]
    cases g.any fun n => !goodT n <;> rfl
  · rfl
theorem RcheckL_ok (l : List Fct) : spileref54_CheckP l = some (checkL l) := by
  unfold spileref54_CheckP spileref54_Check checkL
  try simp -implicitDefEqProofs only [evs, reduceIte, rdRes, rdTT, rdTy, rdLT, Res.un, TT.un, Ty.un, LT.un, Leaf.un, Leaf.plain, LT.plain, rowSV_len]
  by_cases h1 : (1024 : Int) < (l.length : Int)
  · rw [decide_eq_true h1, if_pos h1]; rfl
  · rw [decide_eq_false h1, if_neg h1, cond_false]
    rw [iter_find l (fun f => !(decide (checkF f = 0))) (fun _ => (1 : Int)) (by omega) (fun i x hx => by
      have hi := (List.getElem?_eq_some_iff.1 hx).1
      unfold spileref54_Check.loop1
      try simp -implicitDefEqProofs only [rowSV_len, Int.toNat_natCast]
      rw [decide_eq_true (by omega), cond_true, guardO_pos (by omega), rd_fact, hx]
      try simp -implicitDefEqProofs only [Option.bind_some, Option.map_some, low, row_ints', row_texts', RCheck_ok]
      rw [i64_suc (by omega)]
      cases decide (checkF x = 0) <;> rfl) (by
      unfold spileref54_Check.loop1
      try simp -implicitDefEqProofs only [rowSV_len]
      rw [decide_eq_false (by omega), cond_false])]
    cases hx : l.findIdx? fun f => !(decide (checkF f = 0)) with
    | none =>
      rw [List.findIdx?_eq_none_iff] at hx
      rw [if_neg (by rw [Bool.not_eq_true, List.any_eq_false]; intro y hy; simp [hx y hy])]
      rfl
    | some m =>
      rw [List.findIdx?_eq_some_iff_getElem] at hx
      obtain ⟨hm, hp, _⟩ := hx
      rw [if_pos (List.any_eq_true.2 ⟨_, List.getElem_mem hm, hp⟩)]
      rfl
end Go.Proofs.YtjkjcnadgpndoaaGreat
/- Corrections and their targets: what corrects, target and their references compute. Conditions: those of each law. -/
namespace Go.Proofs.YtjkjcnadgpndoaaGreat
open Go Go.Proofs.YtjkjcnadgpndoaaGreat.Ev
set_option linter.unusedVariables false
set_option linter.unusedSimpArgs false
set_option maxRecDepth 100000
set_option maxHeartbeats 4000000
theorem rdRow_sub {lp f : Bool} {h : H} {ls : List Leaf} {xs : List (LT ls)} {i n w c : Nat} {t : Bool} (hw : ls.length = w) (hp : Leaf.plain (.row ls) = true) (hb : (lp || f) = true) (hin : i + n ≤ xs.length) :
    rdRow lp h ls ⟨(rowSV f ls xs).a.add (i * w), n, c, t⟩ = some ((xs.drop i).take n) := by
  subst hw
  have key := rdLeaf_lo (lp := lp) (f := f) (h := h) hb (.row ls) ((xs.drop i).take n) hp
  have hlen : ((xs.drop i).take n).length = n := by rw [List.length_take, List.length_drop]; omega
  by_cases hn : n = 0
  · subst hn
    rw [List.take_zero]
    exact rdRow_nil
  · rw [← key]
    unfold rdRow
    simp only [Leaf.lo, rdLeaf, hlen, if_neg hn]
    have h1 : h.rds ((rowSV f ls xs).a.add (i * ls.length)) (n * ls.length) = h.rds (.lp f (((xs.drop i).take n).flatMap fun x => LT.lo f ls x) 0) (n * ls.length) := by
      have h2 : ∀ (cs : List V), h.from (.lp f cs 0) = some cs := fun cs => by simp only [H.from, List.drop_zero]
      have hfl : (((xs.drop i).take n).flatMap fun x => LT.lo f ls x) = ((xs.drop i).flatMap fun x => LT.lo f ls x).take (n * ls.length) := by
        have h2 := congrArg (fun l => l.flatMap fun x => LT.lo f ls x) (List.take_append_drop n (xs.drop i))
        simp only [List.flatMap_append] at h2
        rw [← h2, List.take_left']
        rw [flat_length, hlen]
      unfold H.rds
      rw [from_row, h2]
      simp only [Option.bind_some, flat_drop]
      have l1 := flat_length (f := f) (xs.drop i)
      have l2 := flat_length (f := f) ((xs.drop i).take n)
      rw [hlen] at l2
      rw [l1, l2, List.take_of_length_le (l := ((xs.drop i).take n).flatMap fun x => LT.lo f ls x) (by rw [l2]; exact Nat.le_refl _), hfl]
      have hle : n * ls.length ≤ (xs.drop i).length * ls.length := Nat.mul_le_mul_right _ (by rw [List.length_drop]; omega)
      by_cases h0 : n * ls.length ≠ 0
      · rw [if_pos ⟨hle, h0⟩, if_pos ⟨Nat.le_refl _, h0⟩]
      · rw [if_neg (fun h => h0 h.2), if_neg (fun h => h0 h.2)]
    rw [h1]
    rfl
theorem sub_ints {f t : Bool} {h : H} {l : List Int} {c : Nat} (k : Nat) (hk : k ≤ l.length) : rdRow true h j1 ⟨V.add (rowSV f j1 l).a (k * 1), l.length - k, c, t⟩ = some (l.drop k) := by
  rw [rdRow_sub (w := 1) rfl rfl rfl (by omega), List.take_of_length_le (by rw [List.length_drop]; exact Nat.le_refl _)]
theorem int_at {f : Bool} {h : H} {l : List Int} {i : Nat} : rdT (.leaf (.int .i64)) h (V.add (rowSV f j1 l).a i) = l[i]? := by
  have := rd_row0 (f := f) (h := h) (ls := j1) (xs := l) (l := .int .i64) (i := i) (w := 1) rfl (by omega)
  rw [Nat.mul_one] at this
  rw [this]
  cases l[i]? <;> rfl
theorem apart_row {f : Bool} {ls : List Leaf} {xs : List (LT ls)} {n i g o : Nat} : apartA (V.add (rowSV f ls xs).a n) (.hp i g o) = true := rfl
theorem apart_hp {g g' o o' : Nat} : apartA (.hp 0 g o) (.hp 2 g' o') = true := rfl
theorem V_add0 (a : V) : V.add a 0 = a := by cases a <;> rfl
def corrects (x : Fct) : Bool := decide (x.2.2.2.1 = 90) || decide (x.2.2.2.1 = 91)
theorem Corrects_ok (x : Fct) : arrival_correctsP x = some (corrects x) := by
  obtain ⟨a, b, c, d, e, g⟩ := x
  unfold arrival_correctsP arrival_corrects corrects
  try simp -implicitDefEqProofs only [evs, reduceIte, rdRes, rdTT, rdTy, rdLT, Res.un, TT.un, Ty.un, LT.un, Leaf.un, Leaf.plain, LT.plain, evh, List.replicate, splice, LT.pack, Leaf.pack, Nat.reduceAdd, Nat.reduceSub, Nat.reduceLeDiff, Nat.reduceLT, Nat.reduceEqDiff, LT.lo, Leaf.lo, Option.bind_some]
  cases decide (d = 90)
  · simp -implicitDefEqProofs only [evs, reduceIte, rdRes, rdTT, rdTy, rdLT, Res.un, TT.un, Ty.un, LT.un, Leaf.un, Leaf.plain, LT.plain, evh, List.replicate, splice, LT.pack, Leaf.pack, Nat.reduceAdd, Nat.reduceSub, Nat.reduceLeDiff, Nat.reduceLT, Nat.reduceEqDiff, LT.lo, Leaf.lo, Bool.not_false, cond_true, Option.bind_some, Bool.false_or]
  · rfl
theorem RCorrects_ok (x : Fct) : spileref54_CorrectsP x = some (corrects x) := by
  obtain ⟨a, b, c, d, e, g⟩ := x
  unfold spileref54_CorrectsP spileref54_Corrects corrects
  try simp -implicitDefEqProofs only [evs, reduceIte, rdRes, rdTT, rdTy, rdLT, Res.un, TT.un, Ty.un, LT.un, Leaf.un, Leaf.plain, LT.plain, evh, List.replicate, splice, LT.pack, Leaf.pack, Nat.reduceAdd, Nat.reduceSub, Nat.reduceLeDiff, Nat.reduceLT, Nat.reduceEqDiff, LT.lo, Leaf.lo, Option.bind_some]
  cases decide (d = 90)
  · simp -implicitDefEqProofs only [evs, reduceIte, rdRes, rdTT, rdTy, rdLT, Res.un, TT.un, Ty.un, LT.un, Leaf.un, Leaf.plain, LT.plain, evh, List.replicate, splice, LT.pack, Leaf.pack, Nat.reduceAdd, Nat.reduceSub, Nat.reduceLeDiff, Nat.reduceLT, Nat.reduceEqDiff, LT.lo, Leaf.lo, Bool.not_false, cond_true, Option.bind_some, Bool.false_or]
  · rfl
def zeroF : Fct := (0, 0, 0, 0, [], [])
/-- The fact that a correction puts in the place of its target. -/
def outF (x : Fct) : Fct :=
  if x.2.2.2.1 = 91 then (x.2.2.2.2.1.getD 0 0, x.2.2.2.2.1.getD 1 0, x.2.2.2.2.1.getD 2 0, 1, [], [])
  else (x.2.2.2.2.1.getD 0 0, x.2.2.2.2.1.getD 1 0, x.2.2.2.2.1.getD 2 0, x.2.2.2.2.1.getD 3 0, x.2.2.2.2.1.drop 4, x.2.2.2.2.2)
def formed (x : Fct) : Bool := if x.2.2.2.1 = 91 then decide ((x.2.2.2.2.1.length : Int) = 3) && !decide ((0 : Int) < (x.2.2.2.2.2.length : Int)) else !decide ((x.2.2.2.2.1.length : Int) < 4)
def targetF (x : Fct) : Fct × Bool := if formed x = true then (outF x, decide (checkF (outF x) = 0) && !corrects (outF x)) else (zeroF, false)
theorem Target_ok (x : Fct) (he : x.2.2.2.2.1.length ≤ 2 ^ 20) (hg : x.2.2.2.2.2.length ≤ 2 ^ 20) : arrival_targetP x = some (targetF x) := by
  obtain ⟨a, b, c, d, e, g⟩ := x
  simp only at he hg
  unfold arrival_targetP arrival_target targetF formed
  try simp -implicitDefEqProofs only [evs, reduceIte, rdRes, rdTT, rdTy, rdLT, Res.un, TT.un, Ty.un, LT.un, Leaf.un, Leaf.plain, LT.plain, evh, List.replicate, splice, LT.pack, Leaf.pack, Nat.reduceAdd, Nat.reduceSub, Nat.reduceLeDiff, Nat.reduceLT, Nat.reduceEqDiff, LT.lo, Leaf.lo, Option.bind_some]
  by_cases h91 : d = 91
  · subst h91
    by_cases h3 : (e.length : Int) = 3
    · by_cases h0 : (0 : Int) < (g.length : Int)
      · simp -implicitDefEqProofs only [evs, reduceIte, rdRes, rdTT, rdTy, rdLT, Res.un, TT.un, Ty.un, LT.un, Leaf.un, Leaf.plain, LT.plain, evh, List.replicate, splice, LT.pack, Leaf.pack, Nat.reduceAdd, Nat.reduceSub, Nat.reduceLeDiff, Nat.reduceLT, Nat.reduceEqDiff, LT.lo, Leaf.lo, decide_true, decide_eq_true h3, decide_eq_true h0, Bool.not_true, Bool.not_false, cond_true, cond_false, Option.bind_some, Bool.and_false, Bool.and_true, Bool.false_eq_true, reduceIte, rdRow_nil, zeroF]
      · match e, h3 with
        | [n0, n1, n2], _ =>
          have hg0 : g = [] := List.eq_nil_of_length_eq_zero (by omega)
          subst hg0
          have C := Check_ok (n0, n1, n2, 1, [], [])
          have K := Corrects_ok (n0, n1, n2, 1, [], [])
          try simp -implicitDefEqProofs only [evs, reduceIte, rdRes, rdTT, rdTy, rdLT, Res.un, TT.un, Ty.un, LT.un, Leaf.un, Leaf.plain, LT.plain, evh, List.replicate, splice, LT.pack, Leaf.pack, Nat.reduceAdd, Nat.reduceSub, Nat.reduceLeDiff, Nat.reduceLT, Nat.reduceEqDiff, LT.lo, Leaf.lo, decide_true, List.length_cons, List.length_nil, Int.cast_ofNat_Int, Int.reduceLT, Int.reduceLE, Int.reduceEq, decide_true, decide_false, true_and, and_self, guardO_true, Bool.not_true, Bool.not_false, Bool.and_self, cond_true, cond_false, Option.bind_some, int_at, apart_row, rdRow_nil, eq_self, C, K]
          try simp -implicitDefEqProofs only [outF, List.getD_cons_zero, List.getD_cons_succ]
          cases hc : decide (checkF (n0, n1, n2, 1, [], []) = 0) <;> simp -implicitDefEqProofs only [evs, reduceIte, rdRes, rdTT, rdTy, rdLT, Res.un, TT.un, Ty.un, LT.un, Leaf.un, Leaf.plain, LT.plain, evh, List.replicate, splice, LT.pack, Leaf.pack, Nat.reduceAdd, Nat.reduceSub, Nat.reduceLeDiff, Nat.reduceLT, Nat.reduceEqDiff, LT.lo, Leaf.lo, cond_true, cond_false, Option.bind_some, rdRow_nil, Bool.false_and, Bool.true_and, hc, C, K]
        | [], h => simp at h
        | [_], h => simp at h
        | [_, _], h => simp at h
        | _ :: _ :: _ :: _ :: _, h => simp at h; omega
    · simp -implicitDefEqProofs only [evs, reduceIte, rdRes, rdTT, rdTy, rdLT, Res.un, TT.un, Ty.un, LT.un, Leaf.un, Leaf.plain, LT.plain, evh, List.replicate, splice, LT.pack, Leaf.pack, Nat.reduceAdd, Nat.reduceSub, Nat.reduceLeDiff, Nat.reduceLT, Nat.reduceEqDiff, LT.lo, Leaf.lo, decide_true, decide_eq_false h3, Bool.not_true, Bool.not_false, cond_true, cond_false, Option.bind_some, Bool.false_and, Bool.false_eq_true, reduceIte, rdRow_nil, zeroF]
  · by_cases h4 : (e.length : Int) < 4
    · simp -implicitDefEqProofs only [evs, reduceIte, rdRes, rdTT, rdTy, rdLT, Res.un, TT.un, Ty.un, LT.un, Leaf.un, Leaf.plain, LT.plain, evh, List.replicate, splice, LT.pack, Leaf.pack, Nat.reduceAdd, Nat.reduceSub, Nat.reduceLeDiff, Nat.reduceLT, Nat.reduceEqDiff, LT.lo, Leaf.lo, decide_eq_false h91, decide_eq_true h4, if_neg h91, Bool.not_true, Bool.not_false, cond_true, cond_false, Option.bind_some, Bool.and_false, Bool.and_true, Bool.false_eq_true, reduceIte, rdRow_nil, zeroF]
    · match e, h4 with
      | n0 :: n1 :: n2 :: n3 :: r, _ =>
        simp only [List.length_cons] at he
        have C := Check_ok (n0, n1, n2, n3, r, g)
        have K := Corrects_ok (n0, n1, n2, n3, r, g)
        have S : ∀ h, rdRow true h j1 ⟨V.add (rowSV false j1 (n0 :: n1 :: n2 :: n3 :: r)).a (4 * 1), r.length + 1 + 1 + 1 + 1 - 4, r.length + 1 + 1 + 1 + 1 - 4, true⟩ = some r := fun h => sub_ints (l := n0 :: n1 :: n2 :: n3 :: r) 4 (by simp)
        have c1 : cloneP 8 r = some r := by unfold cloneP; rw [guardO_pos ⟨by unfold roomCells; omega, by omega⟩]
        have c2 : cloneP 16 g = some g := by unfold cloneP; rw [guardO_pos ⟨by unfold roomCells; omega, by omega⟩]
        have b0 : (0 : Int) < ((r.length + 1 + 1 + 1 + 1 : Nat) : Int) := by omega
        have b1 : (1 : Int) < ((r.length + 1 + 1 + 1 + 1 : Nat) : Int) := by omega
        have b2 : (2 : Int) < ((r.length + 1 + 1 + 1 + 1 : Nat) : Int) := by omega
        have b3 : (3 : Int) < ((r.length + 1 + 1 + 1 + 1 : Nat) : Int) := by omega
        have b4 : (4 : Int) ≤ ((r.length + 1 + 1 + 1 + 1 : Nat) : Int) := by omega
        have b5 : ¬ ((r.length + 1 + 1 + 1 + 1 : Nat) : Int) < 4 := by omega
        have t4 : Int.toNat 4 = 4 := rfl
        try simp -implicitDefEqProofs only [evs, reduceIte, rdRes, rdTT, rdTy, rdLT, Res.un, TT.un, Ty.un, LT.un, Leaf.un, Leaf.plain, LT.plain, evh, List.replicate, splice, LT.pack, Leaf.pack, Nat.reduceAdd, Nat.reduceSub, Nat.reduceLeDiff, Nat.reduceLT, Nat.reduceEqDiff, LT.lo, Leaf.lo, List.length_cons, decide_eq_false h91, decide_eq_false b5, if_neg h91, b0, b1, b2, b3, b4, t4, Int.toNat_natCast, Int.cast_ofNat_Int, Int.reduceLT, Int.reduceLE, Int.reduceEq, decide_true, decide_false, true_and, and_self, guardO_true, Int.le_refl, Bool.not_true, Bool.not_false, Bool.and_self, cond_true, cond_false, Option.bind_some, int_at, apart_row, rdRow_nil, eq_self, row_ints, row_texts, S, c1, c2, C, K]
        try simp -implicitDefEqProofs only [outF, if_neg h91, List.getD_cons_zero, List.getD_cons_succ, List.drop_succ_cons, List.drop_zero]
        cases hc : decide (checkF (n0, n1, n2, n3, r, g) = 0) <;> simp -implicitDefEqProofs only [evs, reduceIte, rdRes, rdTT, rdTy, rdLT, Res.un, TT.un, Ty.un, LT.un, Leaf.un, Leaf.plain, LT.plain, evh, List.replicate, splice, LT.pack, Leaf.pack, Nat.reduceAdd, Nat.reduceSub, Nat.reduceLeDiff, Nat.reduceLT, Nat.reduceEqDiff, LT.lo, Leaf.lo, cond_true, cond_false, Option.bind_some, row_ints, row_texts, res_ints, res_texts, Bool.false_and, Bool.true_and, hc, C, K]
      | [], h => simp at h
      | [_], h => simp at h
      | [_, _], h => simp at h
      | [_, _, _], h => simp at h
/-! ### The reference -/
/-- A row that is made by one append, where it is not empty. -/
def accT (ls : List Leaf) (xs : List (LT ls)) : List Slot := if xs.length = 0 then [] else [.own (cellsL ls xs) ls.length]
theorem app_row {ls : List Leaf} {xs : List (LT ls)} {sl : List Slot} {w b : Nat} (hw : ls.length = w) (hl : xs.length ≤ 2 ^ 36) (hb : b ≤ 2 ^ 11) :
    appendS (hL sl) none w b ⟨.nil, 0, 0, false⟩ (cellsL ls xs) xs.length = some (accS sl.length ls xs, hL (sl ++ accT ls xs)) := by
  subst hw
  unfold accS accT
  by_cases h : xs.length = 0
  · rw [if_pos h, if_pos h, List.append_nil]
    simp only [appendS, appendV]
    rw [if_pos h]
    rfl
  · rw [if_neg h, if_neg h]
    simp only [appendS, appendV, newAt]
    rw [if_neg h, guardO_pos ⟨by unfold roomCells; omega, hb⟩, if_pos ⟨trivial, trivial, trivial⟩, hL_new]
    rfl
theorem acc_at {lp : Bool} {ls : List Leaf} {xs : List (LT ls)} {pre post : List Slot} (hp : Leaf.plain (.row ls) = true) : rdRow lp (hL (pre ++ accT ls xs ++ post)) ls (accS pre.length ls xs) = some xs := by
  unfold accS accT
  by_cases h : xs.length = 0
  · have : xs = [] := List.eq_nil_of_length_eq_zero h
    subst this
    exact rdRow_nil
  · rw [if_neg h, if_neg h]
    exact rdRow_own (e := ls.length) (by simp) rfl hp
theorem cellsOf_sub {f t : Bool} {h : H} {ls : List Leaf} {xs : List (LT ls)} {k w c : Nat} (hw : ls.length = w) (hpos : 0 < w) (hf : LT.flat ls = true) (hk : k ≤ xs.length) : cellsOf h (.slice (V.add (rowSV f ls xs).a (k * w)) (xs.length - k) c t) w = some (xs.length - k, cellsL ls (xs.drop k)) := by
  subst hw
  unfold cellsOf
  simp only
  by_cases h0 : xs.length - k = 0
  · have : xs.drop k = [] := List.drop_eq_nil_of_le (by omega)
    rw [if_pos h0, this, h0]
    rfl
  · rw [if_neg h0]
    simp only [H.rds, from_row, flat_drop, Option.bind_some]
    have hl : ((xs.drop k).flatMap fun x => LT.lo f ls x).length = (xs.length - k) * ls.length := by rw [flat_length, List.length_drop]
    rw [if_pos ⟨by rw [hl]; exact Nat.le_refl _, Nat.ne_of_gt (Nat.mul_pos (by omega) hpos)⟩, List.take_of_length_le (by rw [hl]; exact Nat.le_refl _)]
    simp only [Option.map_some, Option.some.injEq, Prod.mk.injEq, true_and, cellsL]
    congr 1
    funext x
    exact flat_flag ls x hf
theorem cellsOf_all {f t : Bool} {h : H} {ls : List Leaf} {xs : List (LT ls)} {w c : Nat} (hw : ls.length = w) (hpos : 0 < w) (hf : LT.flat ls = true) : cellsOf h (.slice (rowSV f ls xs).a xs.length c t) w = some (xs.length, cellsL ls xs) := by
  have := cellsOf_sub (f := f) (t := t) (h := h) (xs := xs) (k := 0) (c := c) hw hpos hf (Nat.zero_le _)
  rw [Nat.zero_mul, V_add0, Nat.sub_zero, List.drop_zero] at this
  exact this
theorem put2 {s0 s1 s2 s : Slot} {t : List Slot} : H.put (hL (s0 :: s1 :: s2 :: t)) 2 s = hL (s0 :: s1 :: s :: t) := by rw [hL_put (by simp only [List.length_cons]; omega)]; rfl
theorem put1 {s0 s1 s : Slot} {t : List Slot} : H.put (hL (s0 :: s1 :: t)) 1 s = hL (s0 :: s :: t) := by rw [hL_put (by simp only [List.length_cons]; omega)]; rfl
theorem RTarget_ok (x : Fct) (hc : corrects x = true) (he : x.2.2.2.2.1.length ≤ 2 ^ 20) (hg : x.2.2.2.2.2.length ≤ 2 ^ 20) : spileref54_TargetP x = some (targetF x) := by
  obtain ⟨a, b, c, d, e, g⟩ := x
  simp only at he hg
  unfold spileref54_TargetP spileref54_Target targetF formed
  try simp -implicitDefEqProofs only [evs, reduceIte, rdRes, rdTT, rdTy, rdLT, Res.un, TT.un, Ty.un, LT.un, Leaf.un, Leaf.plain, LT.plain, evh, List.replicate, splice, LT.pack, Leaf.pack, Nat.reduceAdd, Nat.reduceSub, Nat.reduceLeDiff, Nat.reduceLT, Nat.reduceEqDiff, LT.lo, Leaf.lo, Option.bind_some]
  by_cases h91 : d = 91
  · subst h91
    have n90 : decide ((91 : Int) = 90) = false := rfl
    by_cases h3 : (e.length : Int) = 3
    · by_cases h0 : (0 : Int) < (g.length : Int)
      · simp -implicitDefEqProofs only [evs, reduceIte, rdRes, rdTT, rdTy, rdLT, Res.un, TT.un, Ty.un, LT.un, Leaf.un, Leaf.plain, LT.plain, evh, List.replicate, splice, LT.pack, Leaf.pack, Nat.reduceAdd, Nat.reduceSub, Nat.reduceLeDiff, Nat.reduceLT, Nat.reduceEqDiff, LT.lo, Leaf.lo, n90, decide_true, decide_eq_true h3, decide_eq_true h0, Bool.not_true, Bool.not_false, cond_true, cond_false, Option.bind_some, Bool.and_false, Bool.and_true, Bool.false_eq_true, reduceIte, rdRow_nil, zeroF]
      · match e, h3 with
        | [n0, n1, n2], _ =>
          have hg0 : g = [] := List.eq_nil_of_length_eq_zero (by omega)
          subst hg0
          have C := RCheck_ok (n0, n1, n2, 1, [], [])
          have K := RCorrects_ok (n0, n1, n2, 1, [], [])
          try simp -implicitDefEqProofs only [evs, reduceIte, rdRes, rdTT, rdTy, rdLT, Res.un, TT.un, Ty.un, LT.un, Leaf.un, Leaf.plain, LT.plain, evh, List.replicate, splice, LT.pack, Leaf.pack, Nat.reduceAdd, Nat.reduceSub, Nat.reduceLeDiff, Nat.reduceLT, Nat.reduceEqDiff, LT.lo, Leaf.lo, n90, decide_true, List.length_cons, List.length_nil, Int.cast_ofNat_Int, Int.reduceLT, Int.reduceLE, Int.reduceEq, decide_true, decide_false, true_and, and_self, guardO_true, Bool.not_true, Bool.not_false, Bool.and_self, cond_true, cond_false, Option.bind_some, int_at, apart_row, apart_hp, rdRow_nil, eq_self, C, K]
          try simp -implicitDefEqProofs only [outF, List.getD_cons_zero, List.getD_cons_succ]
          cases hc : decide (checkF (n0, n1, n2, 1, [], []) = 0) <;> simp -implicitDefEqProofs only [evs, reduceIte, rdRes, rdTT, rdTy, rdLT, Res.un, TT.un, Ty.un, LT.un, Leaf.un, Leaf.plain, LT.plain, evh, List.replicate, splice, LT.pack, Leaf.pack, Nat.reduceAdd, Nat.reduceSub, Nat.reduceLeDiff, Nat.reduceLT, Nat.reduceEqDiff, LT.lo, Leaf.lo, cond_true, cond_false, Option.bind_some, rdRow_nil, Bool.false_and, Bool.true_and, hc, C, K]
        | [], h => simp at h
        | [_], h => simp at h
        | [_, _], h => simp at h
        | _ :: _ :: _ :: _ :: _, h => simp at h; omega
    · simp -implicitDefEqProofs only [evs, reduceIte, rdRes, rdTT, rdTy, rdLT, Res.un, TT.un, Ty.un, LT.un, Leaf.un, Leaf.plain, LT.plain, evh, List.replicate, splice, LT.pack, Leaf.pack, Nat.reduceAdd, Nat.reduceSub, Nat.reduceLeDiff, Nat.reduceLT, Nat.reduceEqDiff, LT.lo, Leaf.lo, n90, decide_true, decide_eq_false h3, Bool.not_true, Bool.not_false, cond_true, cond_false, Option.bind_some, Bool.false_and, Bool.false_eq_true, reduceIte, rdRow_nil, zeroF]
  · have h90 : d = 90 := by simpa [corrects, h91] using hc
    subst h90
    have n91 : decide ((90 : Int) = 91) = false := rfl
    by_cases h4 : (e.length : Int) < 4
    · simp -implicitDefEqProofs only [evs, reduceIte, rdRes, rdTT, rdTy, rdLT, Res.un, TT.un, Ty.un, LT.un, Leaf.un, Leaf.plain, LT.plain, evh, List.replicate, splice, LT.pack, Leaf.pack, Nat.reduceAdd, Nat.reduceSub, Nat.reduceLeDiff, Nat.reduceLT, Nat.reduceEqDiff, LT.lo, Leaf.lo, n91, decide_true, decide_eq_true h4, if_neg h91, Bool.not_true, Bool.not_false, cond_true, cond_false, Option.bind_some, Bool.and_false, Bool.and_true, Bool.false_eq_true, reduceIte, rdRow_nil, zeroF]
    · match e, h4 with
      | n0 :: n1 :: n2 :: n3 :: r, _ =>
        simp only [List.length_cons] at he
        have C := RCheck_ok (n0, n1, n2, n3, r, g)
        have K := RCorrects_ok (n0, n1, n2, n3, r, g)
        have S : ∀ h, cellsOf h (.slice (V.add (rowSV false j1 (n0 :: n1 :: n2 :: n3 :: r)).a (4 * 1)) (r.length + 1 + 1 + 1 + 1 - 4) (r.length + 1 + 1 + 1 + 1 - 4) true) 1 = some (r.length, cellsL j1 r) := fun h => cellsOf_sub (xs := n0 :: n1 :: n2 :: n3 :: r) (k := 4) (ls := j1) (w := 1) rfl (by omega) rfl (by simp)
        have S2 : ∀ h, cellsOf h (.slice (rowSV false t1 g).a g.length g.length true) 1 = some (g.length, cellsL t1 g) := fun h => cellsOf_all (ls := t1) (w := 1) rfl (by omega) rfl
        have A1 : ∀ sl, appendS (hL sl) none 1 8 ⟨.nil, 0, 0, false⟩ (cellsL j1 r) r.length = some (accS sl.length j1 r, hL (sl ++ accT j1 r)) := fun sl => app_row (w := 1) rfl (by omega) (by omega)
        have A2 : ∀ sl, appendS (hL sl) none 1 16 ⟨.nil, 0, 0, false⟩ (cellsL t1 g) g.length = some (accS sl.length t1 g, hL (sl ++ accT t1 g)) := fun sl => app_row (w := 1) rfl (by omega) (by omega)
        have R1 : ∀ lp s0 s1 s2, rdRow lp (hL (s0 :: s1 :: s2 :: (accT j1 r ++ accT t1 g))) j1 ⟨(accS 3 j1 r).a, (accS 3 j1 r).len, (accS 3 j1 r).cap, (accS 3 j1 r).tail⟩ = some r := fun lp s0 s1 s2 => acc_at (pre := [s0, s1, s2]) (post := accT t1 g) rfl
        have R2 : ∀ lp s0 s1 s2, rdRow lp (hL (s0 :: s1 :: s2 :: (accT j1 r ++ accT t1 g))) t1 ⟨(accS ((accT j1 r).length + 1 + 1 + 1) t1 g).a, (accS ((accT j1 r).length + 1 + 1 + 1) t1 g).len, (accS ((accT j1 r).length + 1 + 1 + 1) t1 g).cap, (accS ((accT j1 r).length + 1 + 1 + 1) t1 g).tail⟩ = some g := fun lp s0 s1 s2 => by
          have := acc_at (lp := lp) (ls := t1) (xs := g) (pre := s0 :: s1 :: s2 :: accT j1 r) (post := []) rfl
          rw [List.append_nil] at this
          exact this
        have b0 : (0 : Int) < ((r.length + 1 + 1 + 1 + 1 : Nat) : Int) := by omega
        have b1 : (1 : Int) < ((r.length + 1 + 1 + 1 + 1 : Nat) : Int) := by omega
        have b2 : (2 : Int) < ((r.length + 1 + 1 + 1 + 1 : Nat) : Int) := by omega
        have b3 : (3 : Int) < ((r.length + 1 + 1 + 1 + 1 : Nat) : Int) := by omega
        have b4 : (4 : Int) ≤ ((r.length + 1 + 1 + 1 + 1 : Nat) : Int) := by omega
        have b5 : ¬ ((r.length + 1 + 1 + 1 + 1 : Nat) : Int) < 4 := by omega
        have t4 : Int.toNat 4 = 4 := rfl
        try simp -implicitDefEqProofs only [evs, reduceIte, rdRes, rdTT, rdTy, rdLT, Res.un, TT.un, Ty.un, LT.un, Leaf.un, Leaf.plain, LT.plain, evh, List.replicate, splice, LT.pack, Leaf.pack, Nat.reduceAdd, Nat.reduceSub, Nat.reduceLeDiff, Nat.reduceLT, Nat.reduceEqDiff, LT.lo, Leaf.lo, n91, List.length_cons, decide_eq_false b5, if_neg h91, b0, b1, b2, b3, b4, t4, Int.toNat_natCast, Int.cast_ofNat_Int, Int.reduceLT, Int.reduceLE, Int.reduceEq, decide_true, decide_false, true_and, and_self, guardO_true, Int.le_refl, Bool.not_true, Bool.not_false, Bool.and_self, cond_true, cond_false, Option.bind_some, int_at, apart_row, apart_hp, rdRow_nil, eq_self, S, S2, A1, A2, R1, R2, put1, put2, List.append_assoc, C, K]
        try simp -implicitDefEqProofs only [outF, if_neg h91, List.getD_cons_zero, List.getD_cons_succ, List.drop_succ_cons, List.drop_zero]
        cases hc : decide (checkF (n0, n1, n2, n3, r, g) = 0) <;> simp -implicitDefEqProofs only [evs, reduceIte, rdRes, rdTT, rdTy, rdLT, Res.un, TT.un, Ty.un, LT.un, Leaf.un, Leaf.plain, LT.plain, evh, List.replicate, splice, LT.pack, Leaf.pack, Nat.reduceAdd, Nat.reduceSub, Nat.reduceLeDiff, Nat.reduceLT, Nat.reduceEqDiff, LT.lo, Leaf.lo, cond_true, cond_false, Option.bind_some, R1, R2, put1, put2, Bool.false_and, Bool.true_and, hc, C, K]
      | [], h => simp at h
      | [_], h => simp at h
      | [_, _], h => simp at h
      | [_, _, _], h => simp at h
end Go.Proofs.YtjkjcnadgpndoaaGreat
