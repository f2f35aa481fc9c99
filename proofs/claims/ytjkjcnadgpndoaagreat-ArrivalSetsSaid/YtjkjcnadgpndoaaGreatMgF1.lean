/- What the functions of this seat compute, and the evaluator: some texts in one. Conditions: those of each law. -/
import Derived.Test.YtjkjcnadgpndoaaGreatProg
import Derived.Test.YtjkjcnadgpndoaaGreatEvSpec
import Derived.Test.YtjkjcnadgpndoaaGreatEvSort
import Derived.Shelf.SlSortCmp.WholeK
import Derived.Shelf.SlSortCmp.NoneTotal
import Derived.Test.YtjkjcnadgpndoaaGreatMgF0
namespace Go.Proofs.YtjkjcnadgpndoaaGreat
open Go Go.Proofs.YtjkjcnadgpndoaaGreat.Ev
set_option linter.unusedVariables false
set_option linter.unusedSimpArgs false
set_option maxRecDepth 100000
set_option maxHeartbeats 4000000
noncomputable def r53_printable.tb : Table := tab [] [] Table.nil
theorem r53_printable.tbok : TabOK Tryz.prog (r53_printable.tb) := TabOK.tab (TabOK.nil Tryz.prog) (all_nil _) (all_nil _)
noncomputable def r53_printable.loop1 (a0 : ByteArray) : (Int) × H → Option (Stp ((Int) × H) (Flow (Unit) (Bool) × H)) := fun (y1, h2) =>
(bif (decide (y1 < ((ByteArray.size a0 : Nat) : Int))) then (((guardO (0 ≤ y1 ∧ y1 < ((ByteArray.size a0 : Nat) : Int)) (bif !(decide ((((((ByteArray.data a0)[Int.toNat y1]?).map UInt8.toNat).getD 0 : Nat) : Int) < 32)) then (guardO (0 ≤ y1 ∧ y1 < ((ByteArray.size a0 : Nat) : Int)) (some ((decide ((126 : Int) < (((((ByteArray.data a0)[Int.toNat y1]?).map UInt8.toNat).getD 0 : Nat) : Int))), h2))) else (some (true, h2))))).bind fun (y3, h4) =>
(bif y3 then (some (.done (.ret false, h4))) else (some (.more ((IntKind.wrap .i64 (y1 + 1)), h4))))) else (some (.done (.ex0 (), h2))))
noncomputable def r53_printable (a0 : ByteArray) (h : H) : Option ((Bool) × H) :=
((iter FUEL (r53_printable.loop1 a0) (0, h)).bind fun (fl6, h5) => match fl6 with
| .next _ => none
| .ret rr7 => (some (rr7, h5))
| .ex0 _ =>
(some (true, h5))
| .ex1 _ => none)
def r53_printable.A : Ann := { lits := [], conds := [], loops := [(2, [3], [.leaf (.int .i64)], [], [], some 0, none)], regs := [(4, [19], [.leaf .bool])] }
theorem r53_printable.eq : ∀ (x : TT [.leaf .str]) (h : H), evalFn Tryz.prog (r53_printable.tb) r53_printable.A Tryz.f105 (.one (.leaf .bool)) (TT.un [.leaf .str] x) h = r53_printable x h := by
  intro x h
  kernel_rfl
noncomputable def r53_printableP (a0 : ByteArray) : Option (Bool) := (r53_printable a0 H.empty).bind fun p => rdRes false p.2 (.one (.leaf .bool)) (Res.un (.one (.leaf .bool)) p.1)
theorem r53_printableP.eq : ∀ x : TT [.leaf .str], ((evalFn Tryz.prog (r53_printable.tb) r53_printable.A Tryz.f105 (.one (.leaf .bool)) (TT.lo false [.leaf .str] x) H.empty).bind fun p => rdRes false p.2 (.one (.leaf .bool)) (Res.un (.one (.leaf .bool)) p.1)) = r53_printableP x := by
  intro x
  rw [show TT.lo false [.leaf .str] x = TT.un [.leaf .str] (x) from rfl, r53_printable.eq]
  rfl
noncomputable def r53_printableP.e : Entry := mkP [.leaf .str] (.one (.leaf .bool)) fun x => r53_printableP x
theorem r53_printableP.ok : EntryOK Tryz.prog 105 (r53_printableP.e) := mkP_ok (r53_printable.tbok) Tryz.mixed Tryz.func105 (by kernel_rfl) r53_printableP.eq
noncomputable def r53_Check.tb : Table := tab [(104, r53_betweenP.e), (105, r53_printableP.e)] [] Table.nil
theorem r53_Check.tbok : TabOK Tryz.prog (r53_Check.tb) := TabOK.tab (TabOK.nil Tryz.prog) (all_cons r53_betweenP.ok (all_cons r53_printableP.ok (all_nil _))) (all_nil _)
noncomputable def r53_Check.loop1 (h : H) : (Int) × H → Option (Stp ((Int) × H) (Flow (Unit) (Int) × H)) := fun (y16, h17) =>
((rdT (.leaf .slice) h17 (.hp h.next 6 4)).bind fun x18 =>
(bif (decide (y16 < ((x18.len : Nat) : Int))) then ((rdT (.leaf .slice) h17 (.hp h.next 6 4)).bind fun x19 =>
(guardO (0 ≤ y16 ∧ y16 < ((x19.len : Nat) : Int)) ((rdT (.leaf (.int .i64)) h17 (V.add x19.a (Int.toNat y16 * 1))).bind fun x20 =>
((r53_betweenP x20 (-1125899906842624) 1125899906842624).bind fun r21 =>
(bif (!r21) then (some (.done (.ret 2, h17))) else (some (.more ((IntKind.wrap .i64 (y16 + 1)), h17)))))))) else (some (.done (.ex0 (), h17)))))
noncomputable def r53_Check.loop2 (h : H) : (Int) × H → Option (Stp ((Int) × H) (Flow (Unit) (Int) × H)) := fun (y25, h26) =>
((rdT (.leaf .slice) h26 (.hp h.next 6 5)).bind fun x27 =>
(bif (decide (y25 < ((x27.len : Nat) : Int))) then ((((rdT (.leaf .slice) h26 (.hp h.next 6 5)).bind fun x28 =>
(guardO (0 ≤ y25 ∧ y25 < ((x28.len : Nat) : Int)) ((rdT (.leaf .str) h26 (V.add x28.a (Int.toNat y25 * 1))).bind fun x29 =>
(bif !(decide ((64 : Int) < ((ByteArray.size x29 : Nat) : Int))) then ((rdT (.leaf .slice) h26 (.hp h.next 6 5)).bind fun x30 =>
(guardO (0 ≤ y25 ∧ y25 < ((x30.len : Nat) : Int)) ((rdT (.leaf .str) h26 (V.add x30.a (Int.toNat y25 * 1))).bind fun x31 =>
((r53_printableP x31).bind fun r32 =>
(some ((!r32), h26)))))) else (some (true, h26))))))).bind fun (y33, h34) =>
(bif y33 then (some (.done (.ret 4, h34))) else (some (.more ((IntKind.wrap .i64 (y25 + 1)), h34))))) else (some (.done (.ex0 (), h26)))))
noncomputable def r53_Check (a0 : Fsv) (h : H) : Option ((Int) × H) :=
(match a0 with
| (a0_0, a0_1, a0_2, a0_3, a0_4, a0_5) =>
(let h1 : H := H.new h [.int .i64 a0_0, .int .i64 a0_1, .int .i64 a0_2, .int .i64 a0_3, .slice a0_4.a a0_4.len a0_4.cap a0_4.tail, .slice a0_5.a a0_5.len a0_5.cap a0_5.tail] 6
((((rdT (.leaf .slice) h1 (.hp h.next 6 4)).bind fun x2 =>
(bif !(decide ((16 : Int) < ((x2.len : Nat) : Int))) then ((rdT (.leaf .slice) h1 (.hp h.next 6 5)).bind fun x3 =>
(some ((decide ((8 : Int) < ((x3.len : Nat) : Int))), h1))) else (some (true, h1))))).bind fun (y4, h5) =>
(bif y4 then (some (8, h5)) else ((((rdT (.leaf (.int .i64)) h5 (.hp h.next 6 0)).bind fun x6 =>
((r53_betweenP x6 0 100000).bind fun r7 =>
(bif !(!r7) then ((rdT (.leaf (.int .i64)) h5 (.hp h.next 6 1)).bind fun x8 =>
((r53_betweenP x8 1 1048576).bind fun r9 =>
(bif !(!r9) then ((rdT (.leaf (.int .i64)) h5 (.hp h.next 6 2)).bind fun x10 =>
((r53_betweenP x10 1 1073741824).bind fun r11 =>
(bif !(!r11) then ((rdT (.leaf (.int .i64)) h5 (.hp h.next 6 3)).bind fun x12 =>
((r53_betweenP x12 1 99).bind fun r13 =>
(some ((!r13), h5)))) else (some (true, h5))))) else (some (true, h5))))) else (some (true, h5)))))).bind fun (y14, h15) =>
(bif y14 then (some (2, h15)) else ((iter FUEL (r53_Check.loop1 h) (0, h15)).bind fun (fl23, h22) => match fl23 with
| .next _ => none
| .ret rr24 => (some (rr24, h22))
| .ex0 _ =>
((iter FUEL (r53_Check.loop2 h) (0, h22)).bind fun (fl36, h35) => match fl36 with
| .next _ => none
| .ret rr37 => (some (rr37, h35))
| .ex0 _ =>
(some (0, h35))
| .ex1 _ => none)
| .ex1 _ => none)))))))
def r53_Check.A : Ann := { lits := [], conds := [], loops := [(6, [3], [.leaf (.int .i64)], [], [], some 0, none), (11, [4], [.leaf (.int .i64)], [], [], some 2, none)], regs := [(1, [14], [.leaf .bool]), (3, [39], [.leaf .bool]), (13, [76], [.leaf .bool])] }
theorem r53_Check.eq : ∀ (x : TT [.agg FS]) (h : H), evalFn Tryz.prog (r53_Check.tb) r53_Check.A Tryz.f71 (.one (.leaf (.int .i64))) (TT.un [.agg FS] x) h = r53_Check x h := by
  intro x h
  kernel_rfl
noncomputable def r53_CheckP (a0 : Fct) : Option (Int) := (r53_Check (a0.1, a0.2.1, a0.2.2.1, a0.2.2.2.1, rowSV false [.int .i64] a0.2.2.2.2.1, rowSV false [.str] a0.2.2.2.2.2) H.empty).bind fun p => rdRes false p.2 (.one (.leaf (.int .i64))) (Res.un (.one (.leaf (.int .i64))) p.1)
theorem r53_CheckP.eq : ∀ x : TT [.agg FC], ((evalFn Tryz.prog (r53_Check.tb) r53_Check.A Tryz.f71 (.one (.leaf (.int .i64))) (TT.lo false [.agg FC] x) H.empty).bind fun p => rdRes false p.2 (.one (.leaf (.int .i64))) (Res.un (.one (.leaf (.int .i64))) p.1)) = r53_CheckP x := by
  intro x
  rw [show TT.lo false [.agg FC] x = TT.un [.agg FS] ((x.1, x.2.1, x.2.2.1, x.2.2.2.1, rowSV false [.int .i64] x.2.2.2.2.1, rowSV false [.str] x.2.2.2.2.2)) from rfl, r53_Check.eq]
  rfl
noncomputable def r53_CheckP.e : Entry := mkP [.agg FC] (.one (.leaf (.int .i64))) fun x => r53_CheckP x
theorem r53_CheckP.ok : EntryOK Tryz.prog 71 (r53_CheckP.e) := mkP_ok (r53_Check.tbok) Tryz.mixed Tryz.func71 (by kernel_rfl) r53_CheckP.eq
noncomputable def r54_Check.tb : Table := tab [(71, r53_CheckP.e)] [] Table.nil
theorem r54_Check.tbok : TabOK Tryz.prog (r54_Check.tb) := TabOK.tab (TabOK.nil Tryz.prog) (all_cons r53_CheckP.ok (all_nil _)) (all_nil _)
noncomputable def r54_Check.loop1 (a0 : SV) : (Int) × H → Option (Stp ((Int) × H) (Flow (Unit) (Int) × H)) := fun (y1, h2) =>
(bif (decide (y1 < ((a0.len : Nat) : Int))) then (guardO (0 ≤ y1 ∧ y1 < ((a0.len : Nat) : Int)) ((rdT (.agg FS) h2 (V.add a0.a (Int.toNat y1 * 6))).bind fun (x3_0, x3_1, x3_2, x3_3, x3_4, x3_5) =>
((rdRow true h2 [.int .i64] x3_4).bind fun s5 =>
((rdRow true h2 [.str] x3_5).bind fun s6 =>
((r53_CheckP (x3_0, x3_1, x3_2, x3_3, s5, s6)).bind fun r4 =>
(bif (!(decide (r4 = 0))) then (some (.done (.ret 1, h2))) else (some (.more ((IntKind.wrap .i64 (y1 + 1)), h2))))))))) else (some (.done (.ex0 (), h2))))
noncomputable def r54_Check (a0 : SV) (h : H) : Option ((Int) × H) :=
(bif (decide ((1024 : Int) < ((a0.len : Nat) : Int))) then (some (8, h)) else ((iter FUEL (r54_Check.loop1 a0) (0, h)).bind fun (fl8, h7) => match fl8 with
| .next _ => none
| .ret rr9 => (some (rr9, h7))
| .ex0 _ =>
(some (0, h7))
| .ex1 _ => none))
def r54_Check.A : Ann := { lits := [], conds := [], loops := [(4, [3], [.leaf (.int .i64)], [], [], some 0, none)], regs := [] }
theorem r54_Check.eq : ∀ (x : TT [.leaf .slice]) (h : H), evalFn Tryz.prog (r54_Check.tb) r54_Check.A Tryz.f60 (.one (.leaf (.int .i64))) (TT.un [.leaf .slice] x) h = r54_Check x h := by
  intro x h
  kernel_rfl
noncomputable def r54_CheckP (a0 : (List Fct)) : Option (Int) := (r54_Check (rowSV false FC a0) H.empty).bind fun p => rdRes false p.2 (.one (.leaf (.int .i64))) (Res.un (.one (.leaf (.int .i64))) p.1)
theorem r54_CheckP.eq : ∀ x : TT [.leaf (.row FC)], ((evalFn Tryz.prog (r54_Check.tb) r54_Check.A Tryz.f60 (.one (.leaf (.int .i64))) (TT.lo false [.leaf (.row FC)] x) H.empty).bind fun p => rdRes false p.2 (.one (.leaf (.int .i64))) (Res.un (.one (.leaf (.int .i64))) p.1)) = r54_CheckP x := by
  intro x
  rw [show TT.lo false [.leaf (.row FC)] x = TT.un [.leaf .slice] ((rowSV false FC x)) from rfl, r54_Check.eq]
  rfl
noncomputable def r54_CheckP.e : Entry := mkP [.leaf (.row FC)] (.one (.leaf (.int .i64))) fun x => r54_CheckP x
theorem r54_CheckP.ok : EntryOK Tryz.prog 60 (r54_CheckP.e) := mkP_ok (r54_Check.tbok) Tryz.mixed Tryz.func60 (by kernel_rfl) r54_CheckP.eq
noncomputable def r53_Sort.tb : Table := tab [(21, r53_CopyP.e), (30, r53_CompareP.e)] [] Table.nil
theorem r53_Sort.tbok : TabOK Tryz.prog (r53_Sort.tb) := TabOK.tab (TabOK.nil Tryz.prog) (all_cons r53_CopyP.ok (all_cons r53_CompareP.ok (all_nil _))) (all_nil _)
noncomputable def r53_Sort.loop1 (a0 : SV) (y1 : SV) (y2 : Int) : (Int) × H → Option (Stp ((Int) × H) (Flow (Int) (SV) × H)) := fun (y4, h5) =>
(((let h6 : H := H.reserve h5 0
(bif (decide ((0 : Int) < y4)) then (guardO (0 ≤ (IntKind.wrap .i64 (y4 - 1)) ∧ (IntKind.wrap .i64 (y4 - 1)) < ((y1.len : Nat) : Int)) ((rdT (.agg FS) h6 (V.add y1.a (Int.toNat (IntKind.wrap .i64 (y4 - 1)) * 6))).bind fun (x7_0, x7_1, x7_2, x7_3, x7_4, x7_5) =>
(guardO (0 ≤ y2 ∧ y2 < ((a0.len : Nat) : Int)) ((rdT (.agg FS) h6 (V.add a0.a (Int.toNat y2 * 6))).bind fun (x8_0, x8_1, x8_2, x8_3, x8_4, x8_5) =>
((rdRow true h6 [.int .i64] x7_4).bind fun s10 =>
((rdRow true h6 [.str] x7_5).bind fun s11 =>
((rdRow true h6 [.int .i64] x8_4).bind fun s12 =>
((rdRow true h6 [.str] x8_5).bind fun s13 =>
((r53_CompareP (x7_0, x7_1, x7_2, x7_3, s10, s11) (x8_0, x8_1, x8_2, x8_3, s12, s13)).bind fun r9 =>
(some ((decide ((0 : Int) < r9)), h6))))))))))) else (some (false, h6))))).bind fun (y14, h15) =>
(bif y14 then (some (.more ((IntKind.wrap .i64 (y4 - 1)), h15))) else (some (.done (.ex0 y4, h15)))))
noncomputable def r53_Sort.loop2 (a0 : SV) : (SV × Int) × H → Option (Stp ((SV × Int) × H) (Flow (SV) (SV) × H)) := fun ((y1, y2), h3) =>
(bif (decide (y2 < ((a0.len : Nat) : Int))) then ((iter FUEL (r53_Sort.loop1 a0 y1 y2) (((y1.len : Nat) : Int), h3)).bind fun (fl17, h16) => match fl17 with
| .next _ => none
| .ret rr18 => (some (.done (.ret rr18, h16)))
| .ex0 y19 =>
(let h20 : H := H.reserve h16 0
(guardO (0 ≤ y2 ∧ y2 < ((a0.len : Nat) : Int)) ((rdT (.agg FS) h20 (V.add a0.a (Int.toNat y2 * 6))).bind fun (x21_0, x21_1, x21_2, x21_3, x21_4, x21_5) =>
((rdRow true h20 [.int .i64] x21_4).bind fun s23 =>
((rdRow true h20 [.str] x21_5).bind fun s24 =>
((r53_CopyP (x21_0, x21_1, x21_2, x21_3, s23, s24)).bind fun (r22_0, r22_1, r22_2, r22_3, r22_4, r22_5) =>
(guardO ((0 : Int) ≤ y19 ∧ y19 ≤ ((y1.len : Nat) : Int) ∧ ((y1.len : Nat) : Int) ≤ ((y1.cap : Nat) : Int)) ((cellsOf h20 (.slice (V.add y1.a ((Int.toNat y19) * 6)) ((Int.toNat ((y1.len : Nat) : Int)) - (Int.toNat y19)) (y1.cap - (Int.toNat y19)) y1.tail : V) 6).bind fun (n27, cs27) =>
((appendS h20 none 6 80 (⟨.lp true ([.int .i64 r22_0, .int .i64 r22_1, .int .i64 r22_2, .int .i64 r22_3, .slice ((rowSV true [.int .i64] r22_4).a) r22_4.length r22_4.length true, .slice ((rowSV true [.str] r22_5).a) r22_5.length r22_5.length true]) 0, 1, 1, false⟩) cs27 n27).bind fun (s27, h26) =>
(guardO ((0 : Int) ≤ 0 ∧ (0 : Int) ≤ y19 ∧ y19 ≤ y19 ∧ y19 ≤ ((y1.cap : Nat) : Int)) ((cellsOf h26 (.slice s27.a s27.len s27.cap s27.tail : V) 6).bind fun (n32, cs32) =>
((appendS h26 none 6 80 (⟨(V.add y1.a 0), ((Int.toNat y19) - Int.toNat 0), ((Int.toNat y19) - Int.toNat 0), false⟩) cs32 n32).bind fun (s32, h31) =>
(some (.more ((s32, (IntKind.wrap .i64 (y2 + 1))), h31)))))))))))))))
| .ex1 _ => none) else (some (.done (.ex0 y1, h3))))
noncomputable def r53_Sort (a0 : SV) (h : H) : Option ((SV) × H) :=
((iter FUEL (r53_Sort.loop2 a0) ((⟨.nil, 0, 0, false⟩, 0), h)).bind fun (fl36, h35) => match fl36 with
| .next _ => none
| .ret rr37 => (some (rr37, h35))
| .ex0 y38 =>
(some (y38, h35))
| .ex1 _ => none)
def r53_Sort.A : Ann := { lits := [], conds := [], loops := [(6, [5], [.leaf (.int .i64)], [5], [.leaf (.int .i64)], some 2, none), (3, [3, 4], [.leaf .slice, .leaf (.int .i64)], [3], [.leaf .slice], some 0, none)], regs := [(6, [29], [.leaf .bool])] }
theorem r53_Sort.eq : ∀ (x : TT [.leaf .slice]) (h : H), evalFn Tryz.prog (r53_Sort.tb) r53_Sort.A Tryz.f106 (.one (.leaf .slice)) (TT.un [.leaf .slice] x) h = r53_Sort x h := by
  intro x h
  kernel_rfl
noncomputable def r53_SortP (a0 : (List Fct)) : Option ((List Fct)) := (r53_Sort (rowSV false FC a0) H.empty).bind fun p => rdRes false p.2 (.one (.leaf (.row FC))) (Res.un (.one (.leaf .slice)) p.1)
theorem r53_SortP.eq : ∀ x : TT [.leaf (.row FC)], ((evalFn Tryz.prog (r53_Sort.tb) r53_Sort.A Tryz.f106 (.one (.leaf .slice)) (TT.lo false [.leaf (.row FC)] x) H.empty).bind fun p => rdRes false p.2 (.one (.leaf (.row FC))) (Res.un (.one (.leaf .slice)) p.1)) = r53_SortP x := by
  intro x
  rw [show TT.lo false [.leaf (.row FC)] x = TT.un [.leaf .slice] ((rowSV false FC x)) from rfl, r53_Sort.eq]
  rfl
noncomputable def r53_SortP.e : Entry := mkP [.leaf (.row FC)] (.one (.leaf (.row FC))) fun x => r53_SortP x
theorem r53_SortP.ok : EntryOK Tryz.prog 106 (r53_SortP.e) := mkP_ok (r53_Sort.tbok) Tryz.mixed Tryz.func106 (by kernel_rfl) r53_SortP.eq
noncomputable def r54_Once.tb : Table := tab [(30, r53_CompareP.e), (106, r53_SortP.e)] [] Table.nil
theorem r54_Once.tbok : TabOK Tryz.prog (r54_Once.tb) := TabOK.tab (TabOK.nil Tryz.prog) (all_cons r53_CompareP.ok (all_cons r53_SortP.ok (all_nil _))) (all_nil _)
noncomputable def r54_Once.loop1 (r1 : List Fct) : (SV × Int) × H → Option (Stp ((SV × Int) × H) (Flow (SV) (SV) × H)) := fun ((y3, y4), h5) =>
(bif (decide (y4 < ((r1.length : Nat) : Int))) then (((let h6 : H := H.reserve h5 0
(bif !(decide (y4 = 0)) then (guardO (0 ≤ (IntKind.wrap .i64 (y4 - 1)) ∧ (IntKind.wrap .i64 (y4 - 1)) < ((r1.length : Nat) : Int)) ((rdT (.agg FS) h6 (V.add ((rowSV true FC r1).a) (Int.toNat (IntKind.wrap .i64 (y4 - 1)) * 6))).bind fun (x7_0, x7_1, x7_2, x7_3, x7_4, x7_5) =>
(guardO (0 ≤ y4 ∧ y4 < ((r1.length : Nat) : Int)) ((rdT (.agg FS) h6 (V.add ((rowSV true FC r1).a) (Int.toNat y4 * 6))).bind fun (x8_0, x8_1, x8_2, x8_3, x8_4, x8_5) =>
((rdRow true h6 [.int .i64] x7_4).bind fun s10 =>
((rdRow true h6 [.str] x7_5).bind fun s11 =>
((rdRow true h6 [.int .i64] x8_4).bind fun s12 =>
((rdRow true h6 [.str] x8_5).bind fun s13 =>
((r53_CompareP (x7_0, x7_1, x7_2, x7_3, s10, s11) (x8_0, x8_1, x8_2, x8_3, s12, s13)).bind fun r9 =>
(some ((!(decide (r9 = 0))), h6))))))))))) else (some (true, h6))))).bind fun (y14, h15) =>
((bif y14 then (guardO (0 ≤ y4 ∧ y4 < ((r1.length : Nat) : Int)) ((rdT (.agg FS) h15 (V.add ((rowSV true FC r1).a) (Int.toNat y4 * 6))).bind fun (x16_0, x16_1, x16_2, x16_3, x16_4, x16_5) =>
((appendS h15 none 6 80 y3 [.int .i64 x16_0, .int .i64 x16_1, .int .i64 x16_2, .int .i64 x16_3, .slice x16_4.a x16_4.len x16_4.cap x16_4.tail, .slice x16_5.a x16_5.len x16_5.cap x16_5.tail] 1).bind fun (s19, h18) =>
(some (.next s19, h18))))) else (some (.next y3, h15)) : Option (Flow (SV) (SV) × H)).bind fun (fl22, h21) => match fl22 with
| .next y23 =>
(some (.more ((y23, (IntKind.wrap .i64 (y4 + 1))), h21)))
| .ret rr24 => (some (.done (.ret rr24, h21)))
| .ex0 _ => none
| .ex1 _ => none)) else (some (.done (.ex0 y3, h5))))
noncomputable def r54_Once (a0 : SV) (h : H) : Option ((SV) × H) :=
((rdRow true h FC a0).bind fun s2 =>
((r53_SortP s2).bind fun r1 =>
((iter FUEL (r54_Once.loop1 r1) ((⟨.nil, 0, 0, false⟩, 0), h)).bind fun (fl26, h25) => match fl26 with
| .next _ => none
| .ret rr27 => (some (rr27, h25))
| .ex0 y28 =>
(some (y28, h25))
| .ex1 _ => none)))
def r54_Once.A : Ann := { lits := [], conds := [(28, [4], [.leaf .slice], none, none)], loops := [(4, [4, 5], [.leaf .slice, .leaf (.int .i64)], [4], [.leaf .slice], some 0, none)], regs := [(6, [28], [.leaf .bool])] }
theorem r54_Once.eq : ∀ (x : TT [.leaf .slice]) (h : H), evalFn Tryz.prog (r54_Once.tb) r54_Once.A Tryz.f72 (.one (.leaf .slice)) (TT.un [.leaf .slice] x) h = r54_Once x h := by
  intro x h
  kernel_rfl
noncomputable def r54_OnceP (a0 : (List Fct)) : Option ((List Fct)) := (r54_Once (rowSV false FC a0) H.empty).bind fun p => rdRes false p.2 (.one (.leaf (.row FC))) (Res.un (.one (.leaf .slice)) p.1)
theorem r54_OnceP.eq : ∀ x : TT [.leaf (.row FC)], ((evalFn Tryz.prog (r54_Once.tb) r54_Once.A Tryz.f72 (.one (.leaf .slice)) (TT.lo false [.leaf (.row FC)] x) H.empty).bind fun p => rdRes false p.2 (.one (.leaf (.row FC))) (Res.un (.one (.leaf .slice)) p.1)) = r54_OnceP x := by
  intro x
  rw [show TT.lo false [.leaf (.row FC)] x = TT.un [.leaf .slice] ((rowSV false FC x)) from rfl, r54_Once.eq]
  rfl
noncomputable def r54_OnceP.e : Entry := mkP [.leaf (.row FC)] (.one (.leaf (.row FC))) fun x => r54_OnceP x
theorem r54_OnceP.ok : EntryOK Tryz.prog 72 (r54_OnceP.e) := mkP_ok (r54_Once.tbok) Tryz.mixed Tryz.func72 (by kernel_rfl) r54_OnceP.eq
noncomputable def r54_Corrects.tb : Table := tab [] [] Table.nil
theorem r54_Corrects.tbok : TabOK Tryz.prog (r54_Corrects.tb) := TabOK.tab (TabOK.nil Tryz.prog) (all_nil _) (all_nil _)
noncomputable def r54_Corrects (a0 : Fsv) (h : H) : Option ((Bool) × H) :=
(match a0 with
| (a0_0, a0_1, a0_2, a0_3, a0_4, a0_5) =>
(let h1 : H := H.new h [.int .i64 a0_0, .int .i64 a0_1, .int .i64 a0_2, .int .i64 a0_3, .slice a0_4.a a0_4.len a0_4.cap a0_4.tail, .slice a0_5.a a0_5.len a0_5.cap a0_5.tail] 6
((((rdT (.leaf (.int .i64)) h1 (.hp h.next 6 3)).bind fun x2 =>
(bif !(decide (x2 = 90)) then ((rdT (.leaf (.int .i64)) h1 (.hp h.next 6 3)).bind fun x3 =>
(some ((decide (x3 = 91)), h1))) else (some (true, h1))))).bind fun (y4, h5) =>
(some (y4, h5)))))
def r54_Corrects.A : Ann := { lits := [], conds := [], loops := [], regs := [(1, [2], [.leaf .bool])] }
theorem r54_Corrects.eq : ∀ (x : TT [.agg FS]) (h : H), evalFn Tryz.prog (r54_Corrects.tb) r54_Corrects.A Tryz.f63 (.one (.leaf .bool)) (TT.un [.agg FS] x) h = r54_Corrects x h := by
  intro x h
  kernel_rfl
noncomputable def r54_CorrectsP (a0 : Fct) : Option (Bool) := (r54_Corrects (a0.1, a0.2.1, a0.2.2.1, a0.2.2.2.1, rowSV false [.int .i64] a0.2.2.2.2.1, rowSV false [.str] a0.2.2.2.2.2) H.empty).bind fun p => rdRes false p.2 (.one (.leaf .bool)) (Res.un (.one (.leaf .bool)) p.1)
theorem r54_CorrectsP.eq : ∀ x : TT [.agg FC], ((evalFn Tryz.prog (r54_Corrects.tb) r54_Corrects.A Tryz.f63 (.one (.leaf .bool)) (TT.lo false [.agg FC] x) H.empty).bind fun p => rdRes false p.2 (.one (.leaf .bool)) (Res.un (.one (.leaf .bool)) p.1)) = r54_CorrectsP x := by
  intro x
  rw [show TT.lo false [.agg FC] x = TT.un [.agg FS] ((x.1, x.2.1, x.2.2.1, x.2.2.2.1, rowSV false [.int .i64] x.2.2.2.2.1, rowSV false [.str] x.2.2.2.2.2)) from rfl, r54_Corrects.eq]
  rfl
noncomputable def r54_CorrectsP.e : Entry := mkP [.agg FC] (.one (.leaf .bool)) fun x => r54_CorrectsP x
theorem r54_CorrectsP.ok : EntryOK Tryz.prog 63 (r54_CorrectsP.e) := mkP_ok (r54_Corrects.tbok) Tryz.mixed Tryz.func63 (by kernel_rfl) r54_CorrectsP.eq
noncomputable def r54_Target.tb : Table := tab [(63, r54_CorrectsP.e), (71, r53_CheckP.e)] [] Table.nil
theorem r54_Target.tbok : TabOK Tryz.prog (r54_Target.tb) := TabOK.tab (TabOK.nil Tryz.prog) (all_cons r54_CorrectsP.ok (all_cons r53_CheckP.ok (all_nil _))) (all_nil _)
noncomputable def r54_Target (a0 : Fsv) (h : H) : Option ((Fsv × Bool) × H) :=
(match a0 with
| (a0_0, a0_1, a0_2, a0_3, a0_4, a0_5) =>
(let h1 : H := H.new h [.int .i64 a0_0, .int .i64 a0_1, .int .i64 a0_2, .int .i64 a0_3, .slice a0_4.a a0_4.len a0_4.cap a0_4.tail, .slice a0_5.a a0_5.len a0_5.cap a0_5.tail] 6
(let h2 : H := H.new h1 [.int .i64 0, .int .i64 0, .int .i64 0, .int .i64 0, .slice .nil 0 0 false, .slice .nil 0 0 false] 6
((rdT (.leaf .slice) h2 (.hp h.next 6 4)).bind fun x3 =>
((((rdT (.leaf (.int .i64)) h2 (.hp h.next 6 3)).bind fun x4 =>
(bif (decide (x4 = 90)) then (bif !(decide (((x3.len : Nat) : Int) < 4)) then ((rdT (.leaf (.int .i64)) h2 (.hp h.next 6 3)).bind fun x5 =>
(bif (decide (x5 = 91)) then (bif !(!(decide (((x3.len : Nat) : Int) = 3))) then ((rdT (.leaf .slice) h2 (.hp h.next 6 5)).bind fun x6 =>
(some ((decide ((0 : Int) < ((x6.len : Nat) : Int))), h2))) else (some (true, h2))) else (some (false, h2)))) else (some (true, h2))) else ((rdT (.leaf (.int .i64)) h2 (.hp h.next 6 3)).bind fun x7 =>
(bif (decide (x7 = 91)) then (bif !(!(decide (((x3.len : Nat) : Int) = 3))) then ((rdT (.leaf .slice) h2 (.hp h.next 6 5)).bind fun x8 =>
(some ((decide ((0 : Int) < ((x8.len : Nat) : Int))), h2))) else (some (true, h2))) else (some (false, h2))))))).bind fun (y9, h10) =>
(bif y9 then ((H.wrs h10 (.hp h1.next 6 0) [.int .i64 0, .int .i64 0, .int .i64 0, .int .i64 0, .slice .nil 0 0 false, .slice .nil 0 0 false]).bind fun h11 =>
((rdT (.agg FS) h11 (.hp h1.next 6 0 : V)).bind fun (x12_0, x12_1, x12_2, x12_3, x12_4, x12_5) =>
(some (((x12_0, x12_1, x12_2, x12_3, x12_4, x12_5), false), h11)))) else (let h13 : H := H.reserve h10 1
((rdT (.leaf .slice) h13 (.hp h.next 6 4)).bind fun x14 =>
(guardO (0 ≤ (0 : Int) ∧ 0 < ((x14.len : Nat) : Int)) ((rdT (.leaf (.int .i64)) h13 (V.add x14.a 0)).bind fun x15 =>
((rdT (.leaf .slice) h13 (.hp h.next 6 4)).bind fun x16 =>
(guardO (0 ≤ (1 : Int) ∧ 1 < ((x16.len : Nat) : Int)) ((rdT (.leaf (.int .i64)) h13 (V.add x16.a 1)).bind fun x17 =>
((rdT (.leaf .slice) h13 (.hp h.next 6 4)).bind fun x18 =>
(guardO (0 ≤ (2 : Int) ∧ 2 < ((x18.len : Nat) : Int)) ((rdT (.leaf (.int .i64)) h13 (V.add x18.a 2)).bind fun x19 =>
(let h20 : H := H.put h13 h10.next (.own [.int .i64 0, .int .i64 0, .int .i64 0, .int .i64 0, .slice .nil 0 0 false, .slice .nil 0 0 false] 6)
((H.wrs h20 (.hp h10.next 6 0) [.int .i64 x15, .int .i64 x17, .int .i64 x19, .int .i64 1, .slice .nil 0 0 false, .slice .nil 0 0 false]).bind fun h21 =>
(guardO (apartA (.hp h.next 6 4 : V) (.hp h10.next 0 0 : V) = true) (guardO (apartA ((V.add x14.a 0) : V) (.hp h10.next 0 0 : V) = true) (guardO (apartA (.hp h.next 6 4 : V) (.hp h10.next 0 0 : V) = true) (guardO (apartA ((V.add x16.a 1) : V) (.hp h10.next 0 0 : V) = true) (guardO (apartA (.hp h.next 6 4 : V) (.hp h10.next 0 0 : V) = true) (guardO (apartA ((V.add x18.a 2) : V) (.hp h10.next 0 0 : V) = true) ((rdT (.leaf (.int .i64)) h21 (.hp h.next 6 3)).bind fun x22 =>
((bif (decide (x22 = 90)) then ((rdT (.leaf .slice) h21 (.hp h.next 6 4)).bind fun x23 =>
(guardO (0 ≤ (3 : Int) ∧ 3 < ((x23.len : Nat) : Int)) ((rdT (.leaf (.int .i64)) h21 (V.add x23.a 3)).bind fun x24 =>
((H.wrs h21 (.hp h10.next 6 3) [.int .i64 x24]).bind fun h25 =>
(let h26 : H := H.reserve h25 0
((rdT (.leaf .slice) h26 (.hp h10.next 6 4)).bind fun x27 =>
((rdT (.leaf .slice) h26 (.hp h.next 6 4)).bind fun x28 =>
(guardO ((0 : Int) ≤ 4 ∧ (4 : Int) ≤ ((x28.len : Nat) : Int) ∧ ((x28.len : Nat) : Int) ≤ ((x28.cap : Nat) : Int)) ((cellsOf h26 (.slice (V.add x28.a ((Int.toNat 4) * 1)) ((Int.toNat ((x28.len : Nat) : Int)) - (Int.toNat 4)) (x28.cap - (Int.toNat 4)) x28.tail : V) 1).bind fun (n31, cs31) =>
((appendS h26 none 1 8 x27 cs31 n31).bind fun (s31, h30) =>
((H.wrs h30 (.hp h10.next 6 4) [.slice s31.a s31.len s31.cap s31.tail]).bind fun h34 =>
((rdT (.leaf .slice) h34 (.hp h10.next 6 5)).bind fun x35 =>
((rdT (.leaf .slice) h34 (.hp h.next 6 5)).bind fun x36 =>
((cellsOf h34 (.slice x36.a x36.len x36.cap x36.tail : V) 1).bind fun (n39, cs39) =>
((appendS h34 none 1 16 x35 cs39 n39).bind fun (s39, h38) =>
((H.wrs h38 (.hp h10.next 6 5) [.slice s39.a s39.len s39.cap s39.tail]).bind fun h42 =>
(some (.next (), h42)))))))))))))))))) else (some (.next (), h21)) : Option (Flow (Unit) (Fsv × Bool) × H)).bind fun (fl44, h43) => match fl44 with
| .next _ =>
(((let h45 : H := H.reserve h43 0
((rdT (.agg FS) h45 (.hp h10.next 6 0)).bind fun (x46_0, x46_1, x46_2, x46_3, x46_4, x46_5) =>
((rdT (.agg FS) h45 (.hp h10.next 6 0)).bind fun (x47_0, x47_1, x47_2, x47_3, x47_4, x47_5) =>
((rdRow true h45 [.int .i64] x47_4).bind fun s49 =>
((rdRow true h45 [.str] x47_5).bind fun s50 =>
((r53_CheckP (x47_0, x47_1, x47_2, x47_3, s49, s50)).bind fun r48 =>
(bif (decide (r48 = 0)) then ((rdT (.agg FS) h45 (.hp h10.next 6 0)).bind fun (x51_0, x51_1, x51_2, x51_3, x51_4, x51_5) =>
((rdRow true h45 [.int .i64] x51_4).bind fun s53 =>
((rdRow true h45 [.str] x51_5).bind fun s54 =>
((r54_CorrectsP (x51_0, x51_1, x51_2, x51_3, s53, s54)).bind fun r52 =>
((H.wrs h45 (.hp h1.next 6 0) [.int .i64 x46_0, .int .i64 x46_1, .int .i64 x46_2, .int .i64 x46_3, .slice x46_4.a x46_4.len x46_4.cap x46_4.tail, .slice x46_5.a x46_5.len x46_5.cap x46_5.tail]).bind fun h55 =>
(some ((!r52), h55))))))) else ((H.wrs h45 (.hp h1.next 6 0) [.int .i64 x46_0, .int .i64 x46_1, .int .i64 x46_2, .int .i64 x46_3, .slice x46_4.a x46_4.len x46_4.cap x46_4.tail, .slice x46_5.a x46_5.len x46_5.cap x46_5.tail]).bind fun h56 =>
(some (false, h56))))))))))).bind fun (y57, h58) =>
((rdT (.agg FS) h58 (.hp h1.next 6 0 : V)).bind fun (x59_0, x59_1, x59_2, x59_3, x59_4, x59_5) =>
(some (((x59_0, x59_1, x59_2, x59_3, x59_4, x59_5), y57), h58))))
| .ret rr60 => (some (rr60, h43))
| .ex0 _ => none
| .ex1 _ => none))))))))))))))))))))))))))
def r54_Target.A : Ann := { lits := [], conds := [(48, [], [], none, none)], loops := [], regs := [(2, [30], [.leaf .bool]), (9, [3], [.leaf .bool])] }
theorem r54_Target.eq : ∀ (x : TT [.agg FS]) (h : H), evalFn Tryz.prog (r54_Target.tb) r54_Target.A Tryz.f65 (.many [.agg FS, .leaf .bool]) (TT.un [.agg FS] x) h = r54_Target x h := by
  intro x h
  kernel_rfl
noncomputable def r54_TargetP (a0 : Fct) : Option (Fct × Bool) := (r54_Target (a0.1, a0.2.1, a0.2.2.1, a0.2.2.2.1, rowSV false [.int .i64] a0.2.2.2.2.1, rowSV false [.str] a0.2.2.2.2.2) H.empty).bind fun p => rdRes false p.2 (.many [.agg FC, .leaf .bool]) (Res.un (.many [.agg FS, .leaf .bool]) p.1)
theorem r54_TargetP.eq : ∀ x : TT [.agg FC], ((evalFn Tryz.prog (r54_Target.tb) r54_Target.A Tryz.f65 (.many [.agg FS, .leaf .bool]) (TT.lo false [.agg FC] x) H.empty).bind fun p => rdRes false p.2 (.many [.agg FC, .leaf .bool]) (Res.un (.many [.agg FS, .leaf .bool]) p.1)) = r54_TargetP x := by
  intro x
  rw [show TT.lo false [.agg FC] x = TT.un [.agg FS] ((x.1, x.2.1, x.2.2.1, x.2.2.2.1, rowSV false [.int .i64] x.2.2.2.2.1, rowSV false [.str] x.2.2.2.2.2)) from rfl, r54_Target.eq]
  rfl
noncomputable def r54_TargetP.e : Entry := mkP [.agg FC] (.many [.agg FC, .leaf .bool]) fun x => r54_TargetP x
theorem r54_TargetP.ok : EntryOK Tryz.prog 65 (r54_TargetP.e) := mkP_ok (r54_Target.tbok) Tryz.mixed Tryz.func65 (by kernel_rfl) r54_TargetP.eq
noncomputable def r54_Add.tb : Table := tab [(60, r54_CheckP.e), (71, r53_CheckP.e), (72, r54_OnceP.e)] [] Table.nil
theorem r54_Add.tbok : TabOK Tryz.prog (r54_Add.tb) := TabOK.tab (TabOK.nil Tryz.prog) (all_cons r54_CheckP.ok (all_cons r53_CheckP.ok (all_cons r54_OnceP.ok (all_nil _)))) (all_nil _)
noncomputable def r54_Add (a0 : SV) (a1 : Fsv) (h : H) : Option ((SV × Bool × Int) × H) :=
(match a1 with
| (a1_0, a1_1, a1_2, a1_3, a1_4, a1_5) =>
(let h1 : H := H.new h [.int .i64 a1_0, .int .i64 a1_1, .int .i64 a1_2, .int .i64 a1_3, .slice a1_4.a a1_4.len a1_4.cap a1_4.tail, .slice a1_5.a a1_5.len a1_5.cap a1_5.tail] 6
((rdRow true h1 FC a0).bind fun s3 =>
((r54_CheckP s3).bind fun r2 =>
(bif (!(decide (r2 = 0))) then (some ((⟨.nil, 0, 0, false⟩, false, r2), h1)) else ((rdT (.agg FS) h1 (.hp h.next 6 0)).bind fun (x4_0, x4_1, x4_2, x4_3, x4_4, x4_5) =>
((rdRow true h1 [.int .i64] x4_4).bind fun s6 =>
((rdRow true h1 [.str] x4_5).bind fun s7 =>
((r53_CheckP (x4_0, x4_1, x4_2, x4_3, s6, s7)).bind fun r5 =>
(bif (!(decide (r5 = 0))) then (some ((⟨.nil, 0, 0, false⟩, false, 1), h1)) else ((rdRow true h1 FC a0).bind fun s9 =>
((r54_OnceP s9).bind fun r8 =>
(let h10 : H := H.reserve h1 2
((cellsOf h10 (.slice a0.a a0.len a0.cap a0.tail : V) 6).bind fun (n13, cs13) =>
((appendS h10 (some h1.next) 6 80 (⟨.lp true ([]) 0, 0, 0, false⟩) cs13 n13).bind fun (s13, h12) =>
((rdT (.agg FS) h12 (.hp h.next 6 0)).bind fun (x16_0, x16_1, x16_2, x16_3, x16_4, x16_5) =>
((appendS h12 (some (h1.next + 1)) 6 80 s13 [.int .i64 x16_0, .int .i64 x16_1, .int .i64 x16_2, .int .i64 x16_3, .slice x16_4.a x16_4.len x16_4.cap x16_4.tail, .slice x16_5.a x16_5.len x16_5.cap x16_5.tail] 1).bind fun (s19, h18) =>
((rdRow true h18 FC s19).bind fun s22 =>
((r54_OnceP s22).bind fun r21 =>
(guardO (apartA ((appAddr (.slice (.lp true ([]) 0) 0 0 false : V) (.slice a0.a a0.len a0.cap a0.tail : V) (some h1.next)) : V) (.hp h.next 6 0 : V) = true) (bif (decide ((1024 : Int) < ((r21.length : Nat) : Int))) then (some ((⟨.nil, 0, 0, false⟩, false, 12), h18)) else (some (((rowSV true FC r21), (decide (((r8.length : Nat) : Int) < ((r21.length : Nat) : Int))), 0), h18)))))))))))))))))))))))
def r54_Add.A : Ann := { lits := [], conds := [], loops := [], regs := [], apps := [22, 25] }
theorem r54_Add.eq : ∀ (x : TT [.leaf .slice, .agg FS]) (h : H), evalFn Tryz.prog (r54_Add.tb) r54_Add.A Tryz.f22 (.many [.leaf .slice, .leaf .bool, .leaf (.int .i64)]) (TT.un [.leaf .slice, .agg FS] x) h = r54_Add x.1 x.2 h := by
  intro x h
  kernel_rfl
noncomputable def r54_AddP (a0 : (List Fct)) (a1 : Fct) : Option ((List Fct) × Bool × Int) := (r54_Add (rowSV false FC a0) (a1.1, a1.2.1, a1.2.2.1, a1.2.2.2.1, rowSV false [.int .i64] a1.2.2.2.2.1, rowSV false [.str] a1.2.2.2.2.2) H.empty).bind fun p => rdRes false p.2 (.many [.leaf (.row FC), .leaf .bool, .leaf (.int .i64)]) (Res.un (.many [.leaf .slice, .leaf .bool, .leaf (.int .i64)]) p.1)
theorem r54_AddP.eq : ∀ x : TT [.leaf (.row FC), .agg FC], ((evalFn Tryz.prog (r54_Add.tb) r54_Add.A Tryz.f22 (.many [.leaf .slice, .leaf .bool, .leaf (.int .i64)]) (TT.lo false [.leaf (.row FC), .agg FC] x) H.empty).bind fun p => rdRes false p.2 (.many [.leaf (.row FC), .leaf .bool, .leaf (.int .i64)]) (Res.un (.many [.leaf .slice, .leaf .bool, .leaf (.int .i64)]) p.1)) = r54_AddP x.1 x.2 := by
  intro x
  rw [show TT.lo false [.leaf (.row FC), .agg FC] x = TT.un [.leaf .slice, .agg FS] ((rowSV false FC x.1), (x.2.1, x.2.2.1, x.2.2.2.1, x.2.2.2.2.1, rowSV false [.int .i64] x.2.2.2.2.2.1, rowSV false [.str] x.2.2.2.2.2.2)) from rfl, r54_Add.eq]
  rfl
noncomputable def r54_AddP.e : Entry := mkP [.leaf (.row FC), .agg FC] (.many [.leaf (.row FC), .leaf .bool, .leaf (.int .i64)]) fun x => r54_AddP x.1 x.2
theorem r54_AddP.ok : EntryOK Tryz.prog 22 (r54_AddP.e) := mkP_ok (r54_Add.tbok) Tryz.mixed Tryz.func22 (by kernel_rfl) r54_AddP.eq
noncomputable def r54_without.tb : Table := tab [(30, r53_CompareP.e)] [] Table.nil
theorem r54_without.tbok : TabOK Tryz.prog (r54_without.tb) := TabOK.tab (TabOK.nil Tryz.prog) (all_cons r53_CompareP.ok (all_nil _)) (all_nil _)
noncomputable def r54_without.loop1 (a0 : SV) (a1 : SV) (y2 : Int) : (Bool × Int) × H → Option (Stp ((Bool × Int) × H) (Flow (Bool) (SV) × H)) := fun ((y4, y5), h6) =>
(bif (decide (y5 < ((a1.len : Nat) : Int))) then (((let h7 : H := H.reserve h6 0
(bif !y4 then (guardO (0 ≤ y2 ∧ y2 < ((a0.len : Nat) : Int)) ((rdT (.agg FS) h7 (V.add a0.a (Int.toNat y2 * 6))).bind fun (x8_0, x8_1, x8_2, x8_3, x8_4, x8_5) =>
(guardO (0 ≤ y5 ∧ y5 < ((a1.len : Nat) : Int)) ((rdT (.agg FS) h7 (V.add a1.a (Int.toNat y5 * 6))).bind fun (x9_0, x9_1, x9_2, x9_3, x9_4, x9_5) =>
((rdRow true h7 [.int .i64] x8_4).bind fun s11 =>
((rdRow true h7 [.str] x8_5).bind fun s12 =>
((rdRow true h7 [.int .i64] x9_4).bind fun s13 =>
((rdRow true h7 [.str] x9_5).bind fun s14 =>
((r53_CompareP (x8_0, x8_1, x8_2, x8_3, s11, s12) (x9_0, x9_1, x9_2, x9_3, s13, s14)).bind fun r10 =>
(some ((decide (r10 = 0)), h7))))))))))) else (some (true, h7))))).bind fun (y15, h16) =>
(some (.more ((y15, (IntKind.wrap .i64 (y5 + 1))), h16)))) else (some (.done (.ex0 y4, h6))))
noncomputable def r54_without.loop2 (a0 : SV) (a1 : SV) : (SV × Int) × H → Option (Stp ((SV × Int) × H) (Flow (SV) (SV) × H)) := fun ((y1, y2), h3) =>
(bif (decide (y2 < ((a0.len : Nat) : Int))) then ((iter FUEL (r54_without.loop1 a0 a1 y2) ((false, 0), h3)).bind fun (fl18, h17) => match fl18 with
| .next _ => none
| .ret rr19 => (some (.done (.ret rr19, h17)))
| .ex0 y20 =>
((bif (!y20) then (guardO (0 ≤ y2 ∧ y2 < ((a0.len : Nat) : Int)) ((rdT (.agg FS) h17 (V.add a0.a (Int.toNat y2 * 6))).bind fun (x21_0, x21_1, x21_2, x21_3, x21_4, x21_5) =>
((appendS h17 none 6 80 y1 [.int .i64 x21_0, .int .i64 x21_1, .int .i64 x21_2, .int .i64 x21_3, .slice x21_4.a x21_4.len x21_4.cap x21_4.tail, .slice x21_5.a x21_5.len x21_5.cap x21_5.tail] 1).bind fun (s24, h23) =>
(some (.next s24, h23))))) else (some (.next y1, h17)) : Option (Flow (SV) (SV) × H)).bind fun (fl27, h26) => match fl27 with
| .next y28 =>
(some (.more ((y28, (IntKind.wrap .i64 (y2 + 1))), h26)))
| .ret rr29 => (some (.done (.ret rr29, h26)))
| .ex0 _ => none
| .ex1 _ => none)
| .ex1 _ => none) else (some (.done (.ex0 y1, h3))))
noncomputable def r54_without (a0 : SV) (a1 : SV) (h : H) : Option ((SV) × H) :=
((iter FUEL (r54_without.loop2 a0 a1) ((⟨.nil, 0, 0, false⟩, 0), h)).bind fun (fl31, h30) => match fl31 with
| .next _ => none
| .ret rr32 => (some (rr32, h30))
| .ex0 y33 =>
(some (y33, h30))
| .ex1 _ => none)
def r54_without.A : Ann := { lits := [], conds := [(35, [5], [.leaf .slice], none, none)], loops := [(7, [7, 8], [.leaf .bool, .leaf (.int .i64)], [7], [.leaf .bool], some 2, none), (3, [5, 6], [.leaf .slice, .leaf (.int .i64)], [5], [.leaf .slice], some 0, none)], regs := [(9, [7], [.leaf .bool])] }
theorem r54_without.eq : ∀ (x : TT [.leaf .slice, .leaf .slice]) (h : H), evalFn Tryz.prog (r54_without.tb) r54_without.A Tryz.f74 (.one (.leaf .slice)) (TT.un [.leaf .slice, .leaf .slice] x) h = r54_without x.1 x.2 h := by
  intro x h
  kernel_rfl
noncomputable def r54_without.e : Entry := mkX [.leaf .slice, .leaf .slice] (.one (.leaf .slice)) fun x h => r54_without x.1 x.2 h
theorem r54_without.ok : EntryOK Tryz.prog 74 (r54_without.e) := mkX_ok (r54_without.tbok) Tryz.mixed Tryz.func74 (by kernel_rfl) (r54_without.eq)
noncomputable def r54_Differ.tb : Table := tab [(60, r54_CheckP.e), (72, r54_OnceP.e), (74, r54_without.e)] [] Table.nil
theorem r54_Differ.tbok : TabOK Tryz.prog (r54_Differ.tb) := TabOK.tab (TabOK.nil Tryz.prog) (all_cons r54_CheckP.ok (all_cons r54_OnceP.ok (all_cons r54_without.ok (all_nil _)))) (all_nil _)
noncomputable def r54_Differ (a0 : SV) (a1 : SV) (h : H) : Option ((SV × SV × Int) × H) :=
(((bif !(decide ((1024 : Int) < ((a0.len : Nat) : Int))) then (some ((decide ((1024 : Int) < ((a1.len : Nat) : Int))), h)) else (some (true, h)))).bind fun (y1, h2) =>
(bif y1 then (some ((⟨.nil, 0, 0, false⟩, ⟨.nil, 0, 0, false⟩, 8), h2)) else ((((rdRow true h2 FC a0).bind fun s4 =>
((r54_CheckP s4).bind fun r3 =>
(bif !(!(decide (r3 = 0))) then ((rdRow true h2 FC a1).bind fun s6 =>
((r54_CheckP s6).bind fun r5 =>
(some ((!(decide (r5 = 0))), h2)))) else (some (true, h2)))))).bind fun (y7, h8) =>
(bif y7 then (some ((⟨.nil, 0, 0, false⟩, ⟨.nil, 0, 0, false⟩, 1), h8)) else ((rdRow true h8 FC a0).bind fun s10 =>
((r54_OnceP s10).bind fun r9 =>
((rdRow true h8 FC a1).bind fun s12 =>
((r54_OnceP s12).bind fun r11 =>
((r54_without (rowSV true FC r9) (rowSV true FC r11) h8).bind fun (r13, h14) =>
((r54_without (rowSV true FC r11) (rowSV true FC r9) h14).bind fun (r15, h16) =>
(some ((r13, r15, 0), h16))))))))))))
def r54_Differ.A : Ann := { lits := [], conds := [], loops := [], regs := [(1, [16], [.leaf .bool]), (3, [24], [.leaf .bool])] }
theorem r54_Differ.eq : ∀ (x : TT [.leaf .slice, .leaf .slice]) (h : H), evalFn Tryz.prog (r54_Differ.tb) r54_Differ.A Tryz.f24 (.many [.leaf .slice, .leaf .slice, .leaf (.int .i64)]) (TT.un [.leaf .slice, .leaf .slice] x) h = r54_Differ x.1 x.2 h := by
  intro x h
  kernel_rfl
noncomputable def r54_DifferP (a0 : (List Fct)) (a1 : (List Fct)) : Option ((List Fct) × (List Fct) × Int) := (r54_Differ (rowSV false FC a0) (rowSV false FC a1) H.empty).bind fun p => rdRes false p.2 (.many [.leaf (.row FC), .leaf (.row FC), .leaf (.int .i64)]) (Res.un (.many [.leaf .slice, .leaf .slice, .leaf (.int .i64)]) p.1)
theorem r54_DifferP.eq : ∀ x : TT [.leaf (.row FC), .leaf (.row FC)], ((evalFn Tryz.prog (r54_Differ.tb) r54_Differ.A Tryz.f24 (.many [.leaf .slice, .leaf .slice, .leaf (.int .i64)]) (TT.lo false [.leaf (.row FC), .leaf (.row FC)] x) H.empty).bind fun p => rdRes false p.2 (.many [.leaf (.row FC), .leaf (.row FC), .leaf (.int .i64)]) (Res.un (.many [.leaf .slice, .leaf .slice, .leaf (.int .i64)]) p.1)) = r54_DifferP x.1 x.2 := by
  intro x
  rw [show TT.lo false [.leaf (.row FC), .leaf (.row FC)] x = TT.un [.leaf .slice, .leaf .slice] ((rowSV false FC x.1), (rowSV false FC x.2)) from rfl, r54_Differ.eq]
  rfl
noncomputable def r54_DifferP.e : Entry := mkP [.leaf (.row FC), .leaf (.row FC)] (.many [.leaf (.row FC), .leaf (.row FC), .leaf (.int .i64)]) fun x => r54_DifferP x.1 x.2
theorem r54_DifferP.ok : EntryOK Tryz.prog 24 (r54_DifferP.e) := mkP_ok (r54_Differ.tbok) Tryz.mixed Tryz.func24 (by kernel_rfl) r54_DifferP.eq
noncomputable def r54_form.tb : Table := tab [(65, r54_TargetP.e), (71, r53_CheckP.e)] [] Table.nil
theorem r54_form.tbok : TabOK Tryz.prog (r54_form.tb) := TabOK.tab (TabOK.nil Tryz.prog) (all_cons r54_TargetP.ok (all_cons r53_CheckP.ok (all_nil _))) (all_nil _)
noncomputable def r54_form (a0 : Fsv) (h : H) : Option ((Fsv × Int) × H) :=
(match a0 with
| (a0_0, a0_1, a0_2, a0_3, a0_4, a0_5) =>
(let h1 : H := H.new h [.int .i64 a0_0, .int .i64 a0_1, .int .i64 a0_2, .int .i64 a0_3, .slice a0_4.a a0_4.len a0_4.cap a0_4.tail, .slice a0_5.a a0_5.len a0_5.cap a0_5.tail] 6
(let h2 : H := H.new h1 [.int .i64 0, .int .i64 0, .int .i64 0, .int .i64 0, .slice .nil 0 0 false, .slice .nil 0 0 false] 6
((rdT (.agg FS) h2 (.hp h.next 6 0)).bind fun (x3_0, x3_1, x3_2, x3_3, x3_4, x3_5) =>
((rdRow true h2 [.int .i64] x3_4).bind fun s5 =>
((rdRow true h2 [.str] x3_5).bind fun s6 =>
((r53_CheckP (x3_0, x3_1, x3_2, x3_3, s5, s6)).bind fun r4 =>
(bif (!(decide (r4 = 0))) then ((H.wrs h2 (.hp h1.next 6 0) [.int .i64 0, .int .i64 0, .int .i64 0, .int .i64 0, .slice .nil 0 0 false, .slice .nil 0 0 false]).bind fun h7 =>
((rdT (.agg FS) h7 (.hp h1.next 6 0 : V)).bind fun (x8_0, x8_1, x8_2, x8_3, x8_4, x8_5) =>
(some (((x8_0, x8_1, x8_2, x8_3, x8_4, x8_5), 1), h7)))) else ((rdT (.agg FS) h2 (.hp h.next 6 0)).bind fun (x9_0, x9_1, x9_2, x9_3, x9_4, x9_5) =>
((rdRow true h2 [.int .i64] x9_4).bind fun s12 =>
((rdRow true h2 [.str] x9_5).bind fun s13 =>
((r54_TargetP (x9_0, x9_1, x9_2, x9_3, s12, s13)).bind fun ((r10_0, r10_1, r10_2, r10_3, r10_4, r10_5), r11) =>
(let h14 : H := H.new h2 [.int .i64 0, .int .i64 0, .int .i64 0, .int .i64 0, .slice .nil 0 0 false, .slice .nil 0 0 false] 6
((H.wrs h14 (.hp h2.next 6 0) [.int .i64 r10_0, .int .i64 r10_1, .int .i64 r10_2, .int .i64 r10_3, .slice ((rowSV true [.int .i64] r10_4).a) r10_4.length r10_4.length true, .slice ((rowSV true [.str] r10_5).a) r10_5.length r10_5.length true]).bind fun h15 =>
(bif (!r11) then ((H.wrs h15 (.hp h1.next 6 0) [.int .i64 0, .int .i64 0, .int .i64 0, .int .i64 0, .slice .nil 0 0 false, .slice .nil 0 0 false]).bind fun h16 =>
((rdT (.agg FS) h16 (.hp h1.next 6 0 : V)).bind fun (x17_0, x17_1, x17_2, x17_3, x17_4, x17_5) =>
(some (((x17_0, x17_1, x17_2, x17_3, x17_4, x17_5), 1), h16)))) else ((rdT (.agg FS) h15 (.hp h.next 6 0)).bind fun (x18_0, x18_1, x18_2, x18_3, x18_4, x18_5) =>
((H.wrs h15 (.hp h1.next 6 0) [.int .i64 x18_0, .int .i64 x18_1, .int .i64 x18_2, .int .i64 x18_3, .slice x18_4.a x18_4.len x18_4.cap x18_4.tail, .slice x18_5.a x18_5.len x18_5.cap x18_5.tail]).bind fun h19 =>
((rdT (.agg FS) h19 (.hp h1.next 6 0 : V)).bind fun (x20_0, x20_1, x20_2, x20_3, x20_4, x20_5) =>
(some (((x20_0, x20_1, x20_2, x20_3, x20_4, x20_5), 0), h19))))))))))))))))))))
def r54_form.A : Ann := { lits := [], conds := [], loops := [], regs := [] }
theorem r54_form.eq : ∀ (x : TT [.agg FS]) (h : H), evalFn Tryz.prog (r54_form.tb) r54_form.A Tryz.f76 (.many [.agg FS, .leaf (.int .i64)]) (TT.un [.agg FS] x) h = r54_form x h := by
  intro x h
  kernel_rfl
noncomputable def r54_form.e : Entry := mkX [.agg FS] (.many [.agg FS, .leaf (.int .i64)]) fun x h => r54_form x h
theorem r54_form.ok : EntryOK Tryz.prog 76 (r54_form.e) := mkX_ok (r54_form.tbok) Tryz.mixed Tryz.func76 (by kernel_rfl) (r54_form.eq)
noncomputable def slices_DeleteFunc_F2.tb (T : Table) : Table := tab [] [] T
theorem slices_DeleteFunc_F2.tbok (T : Table) (hT : TabOK Tryz.prog T) : TabOK Tryz.prog (slices_DeleteFunc_F2.tb T) := TabOK.tab (hT) (all_nil _) (all_nil _)
noncomputable def slices_DeleteFunc_F2.loop1 (T : Table) (a0 : SV) (a1 : V) : (Int × Int) × H → Option (Stp ((Int × Int) × H) (Flow (Int) (SV) × H)) := fun ((y3, y4), h5) =>
(bif (decide (y4 < ((a0.len : Nat) : Int))) then (guardO (0 ≤ y4 ∧ y4 < ((a0.len : Nat) : Int)) ((rdT (.agg FS) h5 (V.add a0.a (Int.toNat y4 * 6))).bind fun (x6_0, x6_1, x6_2, x6_3, x6_4, x6_5) =>
(let h7 : H := H.new h5 [.int .i64 0, .int .i64 0, .int .i64 0, .int .i64 0, .slice .nil 0 0 false, .slice .nil 0 0 false] 6
((H.wrs h7 (.hp h5.next 6 0) [.int .i64 x6_0, .int .i64 x6_1, .int .i64 x6_2, .int .i64 x6_3, .slice x6_4.a x6_4.len x6_4.cap x6_4.tail, .slice x6_5.a x6_5.len x6_5.cap x6_5.tail]).bind fun h8 =>
((rdT (.agg FS) h8 (.hp h5.next 6 0)).bind fun (x9_0, x9_1, x9_2, x9_3, x9_4, x9_5) =>
(callV T.dy a1 [.agg [.int .i64 x9_0, .int .i64 x9_1, .int .i64 x9_2, .int .i64 x9_3, .slice x9_4.a x9_4.len x9_4.cap x9_4.tail, .slice x9_5.a x9_5.len x9_5.cap x9_5.tail]] h8 fun v10 h11 =>
(Res.pack (.one (.leaf .bool)) v10).bind fun r12 =>
((bif (!r12) then ((rdT (.agg FS) h11 (.hp h5.next 6 0)).bind fun (x13_0, x13_1, x13_2, x13_3, x13_4, x13_5) =>
(guardO (0 ≤ y3 ∧ y3 < ((a0.len : Nat) : Int)) ((H.wrs h11 (V.add a0.a (Int.toNat y3 * 6)) [.int .i64 x13_0, .int .i64 x13_1, .int .i64 x13_2, .int .i64 x13_3, .slice x13_4.a x13_4.len x13_4.cap x13_4.tail, .slice x13_5.a x13_5.len x13_5.cap x13_5.tail]).bind fun h14 =>
(some (.next (IntKind.wrap .i64 (y3 + 1)), h14))))) else (some (.next y3, h11)) : Option (Flow (Int) (SV) × H)).bind fun (fl16, h15) => match fl16 with
| .next y17 =>
(some (.more ((y17, (IntKind.wrap .i64 (y4 + 1))), h15)))
| .ret rr18 => (some (.done (.ret rr18, h15)))
| .ex0 _ => none
| .ex1 _ => none))))))) else (some (.done (.ex0 y3, h5))))
noncomputable def slices_DeleteFunc_F2 (T : Table) (a0 : SV) (a1 : V) (h : H) : Option ((SV) × H) :=
((slices_IndexFunc_F2 (slices_DeleteFunc_F2.tb T) a0 a1 h).bind fun (r1, h2) =>
(bif (decide (r1 = (-1))) then (some (a0, h2)) else ((iter FUEL (slices_DeleteFunc_F2.loop1 T a0 a1) ((r1, (IntKind.wrap .i64 (r1 + 1))), h2)).bind fun (fl20, h19) => match fl20 with
| .next _ => none
| .ret rr21 => (some (rr21, h19))
| .ex0 y22 =>
(guardO ((0 : Int) ≤ y22 ∧ y22 ≤ ((a0.len : Nat) : Int) ∧ ((a0.len : Nat) : Int) ≤ ((a0.cap : Nat) : Int)) ((clearH h19 ((V.add a0.a ((Int.toNat y22) * 6)) : V) [.int .i64 0, .int .i64 0, .int .i64 0, .int .i64 0, .slice .nil 0 0 false, .slice .nil 0 0 false] ((Int.toNat ((a0.len : Nat) : Int)) - (Int.toNat y22))).bind fun h23 =>
(guardO ((0 : Int) ≤ 0 ∧ (0 : Int) ≤ y22 ∧ y22 ≤ ((a0.cap : Nat) : Int)) (some (⟨(V.add a0.a 0), ((Int.toNat y22) - Int.toNat 0), (a0.cap - Int.toNat 0), a0.tail⟩, h23)))))
| .ex1 _ => none)))
def slices_DeleteFunc_F2.A : Ann := { lits := [], conds := [(29, [5], [.leaf (.int .i64)], none, none)], loops := [(5, [5, 6], [.leaf (.int .i64), .leaf (.int .i64)], [5], [.leaf (.int .i64)], some 0, none)], regs := [] }
noncomputable def slices_DeleteFunc_F2.tc (T : Table) : Table := tab [(80, slices_IndexFunc_F2.e (slices_DeleteFunc_F2.tb T))] [] (slices_DeleteFunc_F2.tb T)
theorem slices_DeleteFunc_F2.tcok (T : Table) (hT : TabOK Tryz.prog T) : TabOK Tryz.prog (slices_DeleteFunc_F2.tc T) := TabOK.tab (slices_DeleteFunc_F2.tbok T hT) (all_cons (slices_IndexFunc_F2.ok _ (slices_DeleteFunc_F2.tbok T hT)) (all_nil _)) (all_nil _)
theorem slices_DeleteFunc_F2.eq (T : Table) : ∀ (x : TT [.leaf .slice, .leaf .dyn]) (h : H), evalFn Tryz.prog (slices_DeleteFunc_F2.tc T) slices_DeleteFunc_F2.A Tryz.f34 (.one (.leaf .slice)) (TT.un [.leaf .slice, .leaf .dyn] x) h = slices_DeleteFunc_F2 T x.1 x.2 h := by
  intro x h
  kernel_rfl
noncomputable def slices_DeleteFunc_F2.e (T : Table) : Entry := mkX [.leaf .slice, .leaf .dyn] (.one (.leaf .slice)) fun x h => slices_DeleteFunc_F2 T x.1 x.2 h
theorem slices_DeleteFunc_F2.ok (T : Table) (hT : TabOK Tryz.prog T) : EntryOK Tryz.prog 34 (slices_DeleteFunc_F2.e T) := mkX_ok (slices_DeleteFunc_F2.tcok T hT) Tryz.mixed Tryz.func34 (by kernel_rfl) (slices_DeleteFunc_F2.eq T)
noncomputable def law_ArrivalApart_3_1.tb : Table := tab [] [] Table.nil
theorem law_ArrivalApart_3_1.tbok : TabOK Tryz.prog (law_ArrivalApart_3_1.tb) := TabOK.tab (TabOK.nil Tryz.prog) (all_nil _) (all_nil _)
noncomputable def law_ArrivalApart_3_1 (a0 : Fsv) (a1 : V) (h : H) : Option ((Bool) × H) :=
(match a0 with
| (a0_0, a0_1, a0_2, a0_3, a0_4, a0_5) =>
(let h1 : H := H.new h [.int .i64 a0_0, .int .i64 a0_1, .int .i64 a0_2, .int .i64 a0_3, .slice a0_4.a a0_4.len a0_4.cap a0_4.tail, .slice a0_5.a a0_5.len a0_5.cap a0_5.tail] 6
((rdT (.agg KC) h1 (.hp h.next 6 0)).bind fun (x2_0, x2_1, x2_2) =>
((rdT (.agg KC) h1 a1).bind fun (x3_0, x3_1, x3_2) =>
(some ((!(decide (x2_0 = x3_0) && (decide (x2_1 = x3_1) && (decide (x2_2 = x3_2))))), h1))))))
def law_ArrivalApart_3_1.A : Ann := { lits := [], conds := [], loops := [], regs := [] }
theorem law_ArrivalApart_3_1.eq : ∀ (x : TT [.agg FS, .leaf .ptr]) (h : H), evalFn Tryz.prog (law_ArrivalApart_3_1.tb) law_ArrivalApart_3_1.A Tryz.f40 (.one (.leaf .bool)) (TT.un [.agg FS, .leaf .ptr] x) h = law_ArrivalApart_3_1 x.1 x.2 h := by
  intro x h
  kernel_rfl
noncomputable def law_ArrivalApart_3_1.e : Entry := mkX [.agg FS, .leaf .ptr] (.one (.leaf .bool)) fun x h => law_ArrivalApart_3_1 x.1 x.2 h
theorem law_ArrivalApart_3_1.ok : EntryOK Tryz.prog 40 (law_ArrivalApart_3_1.e) := mkX_ok (law_ArrivalApart_3_1.tbok) Tryz.mixed Tryz.func40 (by kernel_rfl) (law_ArrivalApart_3_1.eq)
noncomputable def law_ArrivalApart_3.tb : Table := tab [(13, law_cp.e)] [(40, law_ArrivalApart_3_1.e)] Table.nil
theorem law_ArrivalApart_3.tbok : TabOK Tryz.prog (law_ArrivalApart_3.tb) := TabOK.tab (TabOK.nil Tryz.prog) (all_cons law_cp.ok (all_nil _)) (all_cons law_ArrivalApart_3_1.ok (all_nil _))
noncomputable def law_ArrivalApart_3 (a0 : (SV × SV × SV × SV)) (a1 : V) (h : H) : Option ((SV) × H) :=
(match a0 with
| (a0_0, a0_1, a0_2, a0_3) =>
(let h1 : H := H.new h [.slice a0_0.a a0_0.len a0_0.cap a0_0.tail, .slice a0_1.a a0_1.len a0_1.cap a0_1.tail, .slice a0_2.a a0_2.len a0_2.cap a0_2.tail, .slice a0_3.a a0_3.len a0_3.cap a0_3.tail] 4
((rdT (.leaf .slice) h1 (.hp h.next 4 0)).bind fun x2 =>
((law_cp x2 h1).bind fun (r3, h4) =>
((slices_DeleteFunc_F2 law_ArrivalApart_3.tb r3 (.func 40 [a1] : V) h4).bind fun (r5, h6) =>
(some (r5, h6)))))))
def law_ArrivalApart_3.A : Ann := { lits := [], conds := [], loops := [], regs := [] }
noncomputable def law_ArrivalApart_3.tc : Table := tab [(34, slices_DeleteFunc_F2.e (law_ArrivalApart_3.tb))] [] (law_ArrivalApart_3.tb)
theorem law_ArrivalApart_3.tcok : TabOK Tryz.prog (law_ArrivalApart_3.tc) := TabOK.tab (law_ArrivalApart_3.tbok) (all_cons (slices_DeleteFunc_F2.ok _ (law_ArrivalApart_3.tbok)) (all_nil _)) (all_nil _)
theorem law_ArrivalApart_3.eq : ∀ (x : TT [.agg [.slice, .slice, .slice, .slice], .leaf .ptr]) (h : H), evalFn Tryz.prog (law_ArrivalApart_3.tc) law_ArrivalApart_3.A Tryz.f39 (.one (.leaf .slice)) (TT.un [.agg [.slice, .slice, .slice, .slice], .leaf .ptr] x) h = law_ArrivalApart_3 x.1 x.2 h := by
  intro x h
  kernel_rfl
noncomputable def law_ArrivalApart_3.e : Entry := mkX [.agg [.slice, .slice, .slice, .slice], .leaf .ptr] (.one (.leaf .slice)) fun x h => law_ArrivalApart_3 x.1 x.2 h
theorem law_ArrivalApart_3.ok : EntryOK Tryz.prog 39 (law_ArrivalApart_3.e) := mkX_ok (law_ArrivalApart_3.tcok) Tryz.mixed Tryz.func39 (by kernel_rfl) (law_ArrivalApart_3.eq)
noncomputable def slices_Delete_F2.tb : Table := tab [] [] Table.nil
theorem slices_Delete_F2.tbok : TabOK Tryz.prog (slices_Delete_F2.tb) := TabOK.tab (TabOK.nil Tryz.prog) (all_nil _) (all_nil _)
noncomputable def slices_Delete_F2 (a0 : SV) (a1 : Int) (a2 : Int) (h : H) : Option ((SV) × H) :=
(guardO ((0 : Int) ≤ a1 ∧ a1 ≤ a2 ∧ a2 ≤ ((a0.len : Nat) : Int) ∧ ((a0.len : Nat) : Int) ≤ ((a0.cap : Nat) : Int)) (bif (decide (a1 = a2)) then (some (a0, h)) else (let h1 : H := H.reserve h 0
(guardO ((0 : Int) ≤ 0 ∧ (0 : Int) ≤ a1 ∧ a1 ≤ ((a0.cap : Nat) : Int)) (guardO ((0 : Int) ≤ a2 ∧ a2 ≤ ((a0.len : Nat) : Int) ∧ ((a0.len : Nat) : Int) ≤ ((a0.cap : Nat) : Int)) ((cellsOf h1 (.slice (V.add a0.a ((Int.toNat a2) * 6)) ((Int.toNat ((a0.len : Nat) : Int)) - (Int.toNat a2)) (a0.cap - (Int.toNat a2)) a0.tail : V) 6).bind fun (n4, cs4) =>
((appendS h1 none 6 80 (⟨(V.add a0.a 0), ((Int.toNat a1) - Int.toNat 0), (a0.cap - Int.toNat 0), a0.tail⟩) cs4 n4).bind fun (s4, h3) =>
(guardO ((0 : Int) ≤ ((s4.len : Nat) : Int) ∧ ((s4.len : Nat) : Int) ≤ ((a0.len : Nat) : Int) ∧ ((a0.len : Nat) : Int) ≤ ((s4.cap : Nat) : Int)) ((clearH h3 ((V.add s4.a ((Int.toNat ((s4.len : Nat) : Int)) * 6)) : V) [.int .i64 0, .int .i64 0, .int .i64 0, .int .i64 0, .slice .nil 0 0 false, .slice .nil 0 0 false] ((Int.toNat ((a0.len : Nat) : Int)) - (Int.toNat ((s4.len : Nat) : Int)))).bind fun h7 =>
(some (s4, h7)))))))))))
def slices_Delete_F2.A : Ann := { lits := [], conds := [], loops := [], regs := [] }
theorem slices_Delete_F2.eq : ∀ (x : TT [.leaf .slice, .leaf (.int .i64), .leaf (.int .i64)]) (h : H), evalFn Tryz.prog (slices_Delete_F2.tb) slices_Delete_F2.A Tryz.f45 (.one (.leaf .slice)) (TT.un [.leaf .slice, .leaf (.int .i64), .leaf (.int .i64)] x) h = slices_Delete_F2 x.1 x.2.1 x.2.2 h := by
  intro x h
  kernel_rfl
noncomputable def slices_Delete_F2.e : Entry := mkX [.leaf .slice, .leaf (.int .i64), .leaf (.int .i64)] (.one (.leaf .slice)) fun x h => slices_Delete_F2 x.1 x.2.1 x.2.2 h
theorem slices_Delete_F2.ok : EntryOK Tryz.prog 45 (slices_Delete_F2.e) := mkX_ok (slices_Delete_F2.tbok) Tryz.mixed Tryz.func45 (by kernel_rfl) (slices_Delete_F2.eq)
def keyF (f : Fct) : Ky := (f.1, f.2.1, f.2.2.1)
def cmpI (a b : Int) : Int := if a < b then -1 else if b < a then 1 else 0
def cmpT (a b : ByteArray) : Int := if Op.bytesLess a.toList b.toList = true then -1 else if a = b then 0 else 1
def cmpL {α : Type} (c : α → α → Int) : List α → List α → Int
  | [], [] => 0
  | [], _ :: _ => -1
  | _ :: _, [] => 1
  | x :: xs, y :: ys => if c x y ≠ 0 then c x y else cmpL c xs ys
def orI (a b : Int) : Int := if a ≠ 0 then a else b
def cmpK (a b : Ky) : Int := orI (cmpI a.1 b.1) (orI (cmpI a.2.1 b.2.1) (cmpI a.2.2 b.2.2))
def cmpF (a b : Fct) : Int := orI (cmpK (keyF a) (keyF b)) (orI (cmpI a.2.2.2.1 b.2.2.2.1) (orI (cmpL cmpI a.2.2.2.2.1 b.2.2.2.2.1) (cmpL cmpT a.2.2.2.2.2 b.2.2.2.2.2)))
structure TO {α : Type} (c : α → α → Int) : Prop where
  refl : ∀ x, c x x = 0
  zero : ∀ x y, c x y = 0 → x = y
  anti : ∀ x y, c x y < 0 ↔ 0 < c y x
  trans : ∀ x y z, c x y < 0 → c y z < 0 → c x z < 0
theorem TO.ord {α : Type} {c : α → α → Int} (t : TO c) : Ord3 c :=
  ⟨t.refl, t.anti, t.trans, fun x y z h k => by rw [t.zero x y h]; exact k, fun x y z h k => by rw [← t.zero y z k]; exact h⟩
theorem TO.iff {α : Type} {c : α → α → Int} (t : TO c) {x y : α} : c x y = 0 ↔ x = y := ⟨t.zero x y, fun h => by rw [h]; exact t.refl y⟩
theorem cmpI_to : TO cmpI := by
  refine ⟨fun x => ?_, fun x y h => ?_, fun x y => ?_, fun x y z h k => ?_⟩ <;> unfold cmpI at * <;> (repeat' split at *) <;> omega
theorem lt_bytes (x y : ByteArray) : Op.bytesLess x.toList y.toList = decide (x.toList < y.toList) := Proofs.bytesLess_eq _ _
theorem toList_inj {x y : ByteArray} (h : x.toList = y.toList) : x = y := by
  rw [ByteArray.toList_eq, ByteArray.toList_eq] at h
  cases x; cases y
  simp only at h
  congr 1
  exact Array.toList_inj.1 h
theorem cmpT_to : TO cmpT := by
  have tri : ∀ x y : ByteArray, ¬ x.toList < y.toList → ¬ y.toList < x.toList → x = y := fun x y h1 h2 => toList_inj (by
    have h1' := List.not_lt.1 h1
    have h2' := List.not_lt.1 h2
    exact List.le_antisymm h2' h1')
  refine ⟨fun x => ?_, fun x y h => ?_, fun x y => ?_, fun x y z h k => ?_⟩ <;> unfold cmpT at * <;> simp only [lt_bytes, decide_eq_true_eq] at *
  · rw [if_neg (List.lt_irrefl _)]; rfl
  · split at h
    · omega
    · split at h
      · assumption
      · omega
  · by_cases h1 : x.toList < y.toList
    · have h2 : ¬ y.toList < x.toList := List.lt_asymm h1
      have h3 : ¬ y = x := fun e => by rw [e] at h1; exact List.lt_irrefl _ h1
      simp [h1, h2, h3]
    · by_cases h2 : y.toList < x.toList
      · have h3 : ¬ x = y := fun e => by rw [e] at h2; exact List.lt_irrefl _ h2
        simp [h1, h2, h3]
      · have := tri x y h1 h2
        subst this
        simp [h1]
  · have h1 : x.toList < y.toList := by
      split at h
      · assumption
      · split at h <;> omega
    have h2 : y.toList < z.toList := by
      split at k
      · assumption
      · split at k <;> omega
    rw [if_pos (List.lt_trans h1 h2)]
    omega
theorem lex_to {α β : Type} {c : α → α → Int} {d : β → β → Int} (h : TO c) (k : TO d) : TO fun x y : α × β => orI (c x.1 y.1) (d x.2 y.2) := by
  refine ⟨fun x => ?_, fun x y e => ?_, fun x y => ?_, fun x y z e1 e2 => ?_⟩ <;> unfold orI at *
  · simp [h.refl, k.refl]
  · by_cases h1 : c x.1 y.1 = 0
    · simp only [h1, ne_eq, not_true_eq_false, if_false] at e
      exact Prod.ext (h.zero _ _ h1) (k.zero _ _ e)
    · simp only [ne_eq, h1, not_false_eq_true, if_true] at e
  · by_cases h1 : x.1 = y.1
    · rw [h1, h.refl]; simpa using k.anti x.2 y.2
    · have h2 : c x.1 y.1 ≠ 0 := fun e => h1 (h.zero _ _ e)
      have h3 : c y.1 x.1 ≠ 0 := fun e => h1 (h.zero _ _ e).symm
      simpa [h2, h3] using h.anti x.1 y.1
  · by_cases h1 : x.1 = y.1
    · simp only [h1, h.refl, ne_eq, not_true_eq_false, if_false] at e1
      by_cases h2 : y.1 = z.1
      · simp only [h2, h.refl, ne_eq, not_true_eq_false, if_false] at e2
        rw [h1, h2, h.refl]
        simpa using k.trans _ _ _ e1 e2
      · have h3 : c y.1 z.1 ≠ 0 := fun e => h2 (h.zero _ _ e)
        simp only [ne_eq, h3, not_false_eq_true, if_true] at e2
        rw [h1]
        simpa [h3] using e2
    · have h3 : c x.1 y.1 ≠ 0 := fun e => h1 (h.zero _ _ e)
      simp only [ne_eq, h3, not_false_eq_true, if_true] at e1
      have e3 : c x.1 z.1 < 0 := by
        by_cases h2 : y.1 = z.1
        · rw [← h2]; exact e1
        · have h4 : c y.1 z.1 ≠ 0 := fun e => h2 (h.zero _ _ e)
          simp only [ne_eq, h4, not_false_eq_true, if_true] at e2
          exact h.trans _ _ _ e1 e2
      rw [if_pos (show c x.1 z.1 ≠ 0 by omega)]
      exact e3
theorem comap_to {α β : Type} {c : β → β → Int} (h : TO c) (f : α → β) (hf : ∀ x y, f x = f y → x = y) : TO fun x y => c (f x) (f y) :=
  ⟨fun x => h.refl _, fun x y e => hf _ _ (h.zero _ _ e), fun x y => h.anti _ _, fun x y z => h.trans _ _ _⟩
theorem list_to {α : Type} {c : α → α → Int} (h : TO c) : TO (cmpL c) := by
  refine ⟨fun x => ?_, fun x => ?_, fun x => ?_, fun x => ?_⟩
  · induction x with
    | nil => rfl
    | cons a x ih => simp [cmpL, h.refl, ih]
  · induction x with
    | nil => intro y; cases y <;> simp [cmpL]
    | cons a x ih =>
      intro y
      cases y with
      | nil => simp [cmpL]
      | cons b y =>
        simp only [cmpL]
        by_cases e : c a b = 0
        · rw [if_neg (by simpa using e)]
          intro k
          rw [h.zero _ _ e, ih y k]
        · rw [if_pos e]
          intro k
          exact absurd k e
  · induction x with
    | nil => intro y; cases y <;> simp [cmpL]
    | cons a x ih =>
      intro y
      cases y with
      | nil => simp [cmpL]
      | cons b y =>
        simp only [cmpL]
        by_cases e : a = b
        · subst e; rw [h.refl]; simpa using ih y
        · have h1 : c a b ≠ 0 := fun k => e (h.zero _ _ k)
          have h2 : c b a ≠ 0 := fun k => e (h.zero _ _ k).symm
          rw [if_pos h1, if_pos h2]
          exact h.anti a b
  · induction x with
    | nil =>
      intro y z h1 h2
      cases y with
      | nil => simp [cmpL] at h1
      | cons b y => cases z <;> simp [cmpL] at *
    | cons a x ih =>
      intro y z h1 h2
      cases y with
      | nil => simp [cmpL] at h1
      | cons b y =>
        cases z with
        | nil => simp [cmpL] at h2
        | cons d z =>
          simp only [cmpL] at *
          by_cases e1 : a = b
          · subst e1
            rw [if_neg (by simp [h.refl])] at h1
            by_cases e2 : a = d
            · subst e2
              rw [if_neg (by simp [h.refl])] at h2
              rw [if_neg (by simp [h.refl])]
              exact ih _ _ h1 h2
            · have k2 : c a d ≠ 0 := fun k => e2 (h.zero _ _ k)
              rw [if_pos k2] at h2 ⊢
              exact h2
          · have k1 : c a b ≠ 0 := fun k => e1 (h.zero _ _ k)
            rw [if_pos k1] at h1
            have e3 : c a d < 0 := by
              by_cases e2 : b = d
              · rw [← e2]; exact h1
              · have k2 : c b d ≠ 0 := fun k => e2 (h.zero _ _ k)
                rw [if_pos k2] at h2
                exact h.trans _ _ _ h1 h2
            rw [if_pos (show c a d ≠ 0 by omega)]
            exact e3
theorem cmpK_to : TO cmpK := lex_to cmpI_to (lex_to cmpI_to cmpI_to)
theorem cmpF_to : TO cmpF :=
  comap_to (lex_to cmpK_to (lex_to cmpI_to (lex_to (list_to cmpI_to) (list_to cmpT_to)))) (fun f : Fct => (keyF f, f.2.2.2.1, f.2.2.2.2.1, f.2.2.2.2.2)) fun x y h => by
    obtain ⟨a, b, c, d, e, f⟩ := x
    obtain ⟨a', b', c', d', e', f'⟩ := y
    simp only [keyF, Prod.mk.injEq] at h ⊢
    obtain ⟨⟨h1, h2, h3⟩, h4, h5, h6⟩ := h
    exact ⟨h1, h2, h3, h4, h5, h6⟩
theorem CompareI_ok (a b : Int) : cmp_Compare_intP a b = some (cmpI a b) := by
  unfold cmp_Compare_intP cmp_Compare_int cmp_isNaN_intP cmp_isNaN_int cmpI
  try simp -implicitDefEqProofs only [evs, reduceIte, rdRes, rdTT, rdTy, rdLT, Res.un, TT.un, Ty.un, LT.un, Leaf.un, Leaf.plain, LT.plain, decide_true, Bool.not_true, cond_false, Option.bind_some]
  by_cases h : a < b
  · rw [decide_eq_true h, if_pos h]; rfl
  · rw [decide_eq_false h, if_neg h]
    by_cases k : b < a
    · rw [decide_eq_true k, if_pos k]; rfl
    · rw [decide_eq_false k, if_neg k]; rfl
theorem CompareT_ok (a b : ByteArray) : cmp_Compare_stringP a b = some (cmpT a b) := by
  unfold cmp_Compare_stringP cmp_Compare_string cmp_isNaN_stringP cmp_isNaN_string cmpT
  try simp -implicitDefEqProofs only [evs, reduceIte, rdRes, rdTT, rdTy, rdLT, Res.un, TT.un, Ty.un, LT.un, Leaf.un, Leaf.plain, LT.plain, decide_true, Bool.not_true, cond_false, Option.bind_some]
  cases h : Op.bytesLess a.toList b.toList
  · rw [if_neg (by simp)]
    by_cases k : a = b
    · rw [decide_eq_true k, if_pos k]; rfl
    · rw [decide_eq_false k, if_neg k]; rfl
  · rw [if_pos rfl]; rfl
def orL : List Int → Int
  | [] => 0
  | x :: l => orI x (orL l)
theorem orL_find : ∀ l : List Int, ((l.findIdx? fun x => !decide (x = 0)).bind fun i => l[i]?).getD 0 = orL l
  | [] => rfl
  | x :: l => by
    have ih := orL_find l
    simp only [List.findIdx?_cons, orL, orI]
    by_cases h : x = 0
    · subst h
      simp only [decide_true, Bool.not_true, Bool.false_eq_true, if_false, ne_eq, not_true_eq_false]
      rw [← ih]
      cases l.findIdx? (fun x => !decide (x = 0)) <;> simp
    · simp [h]
theorem Or_ok (l : List Int) (hl : l.length < 2 ^ 62) : cmp_Or_intP l = some (orL l) := by
  unfold cmp_Or_intP cmp_Or_int
  rw [iter_find l (fun x => !decide (x = 0)) (fun i => l.getD i 0) (by omega) (fun i x hx => by
    have hi := (List.getElem?_eq_some_iff.1 hx).1
    unfold cmp_Or_int.loop1
    try simp -implicitDefEqProofs only [rowSV_len, Int.toNat_natCast]
    rw [decide_eq_true (by omega), cond_true, guardO_pos (by omega), rd_row0 (ls := [.int .i64]) (w := 1) rfl (by omega), hx]
    try simp -implicitDefEqProofs only [Option.bind_some, LT.lo, Leaf.lo, List.getElem?_cons_zero, Leaf.pack, reduceIte]
    rw [i64_succ (by omega), show l.getD i 0 = x by rw [List.getD_eq_getElem?_getD, hx]; rfl]
    cases decide (x = 0) <;> rfl) (by
    unfold cmp_Or_int.loop1
    try simp -implicitDefEqProofs only [rowSV_len]
    rw [decide_eq_false (by omega), cond_false]), ← orL_find]
  cases h : l.findIdx? fun x => !decide (x = 0) with
  | none => rfl
  | some i =>
    simp only [Option.bind_some]
    rw [List.getD_eq_getElem?_getD]
    rfl
def cmpR {α : Type} (c : α → α → Int) : List α → List α → Flow Unit Int
  | [], _ => .ex0 ()
  | _ :: _, [] => .ret 1
  | x :: xs, y :: ys => if c x y ≠ 0 then .ret (c x y) else cmpR c xs ys
theorem cmpR_L {α : Type} (c : α → α → Int) : ∀ (a b : List α), (∃ r, cmpR c a b = .ret r ∧ cmpL c a b = r) ∨ (cmpR c a b = .ex0 () ∧ a.length ≤ b.length ∧ cmpL c a b = if a.length < b.length then -1 else 0)
  | [], [] => .inr ⟨rfl, Nat.le_refl _, rfl⟩
  | [], _ :: _ => .inr ⟨rfl, Nat.zero_le _, by simp [cmpL]⟩
  | _ :: _, [] => .inl ⟨1, rfl, rfl⟩
  | x :: xs, y :: ys => by
    simp only [cmpR, cmpL]
    by_cases h : c x y ≠ 0
    · rw [if_pos h, if_pos h]; exact .inl ⟨_, rfl, rfl⟩
    · rw [if_neg h, if_neg h]
      rcases cmpR_L c xs ys with ⟨r, h1, h2⟩ | ⟨h1, h2, h3⟩
      · exact .inl ⟨r, h1, h2⟩
      · exact .inr ⟨h1, by simp only [List.length_cons]; omega, by rw [h3]; simp⟩
theorem iter_cmp {α : Type} {h : H} {f : Int × H → Option (Stp (Int × H) (Flow Unit Int × H))} (c : α → α → Int) : ∀ (a b : List α) (k n : Nat),
    (∀ (i : Nat) x, a[i]? = some x → f (((k + i : Nat) : Int), h) = some (match b[i]? with | none => .done (.ret 1, h) | some y => bif !decide (c x y = 0) then .done (.ret (c x y), h) else .more (((k + i + 1 : Nat) : Int), h))) →
    f (((k + a.length : Nat) : Int), h) = some (.done (.ex0 (), h)) → a.length < n → iter n f (((k : Nat) : Int), h) = some (cmpR c a b, h)
  | [], b, k, 0, _, _, hn => by simp at hn
  | _ :: _, b, k, 0, _, _, hn => by simp at hn
  | [], b, k, n + 1, hs, hd, hn => by
    simp only [List.length_nil, Nat.add_zero] at hd
    simp only [iter]
    rw [hd]
    simp [cmpR]
  | x :: xs, b, k, n + 1, hs, hd, hn => by
    have h0 := hs 0 x rfl
    simp only [Nat.add_zero] at h0
    simp only [iter]
    rw [h0]
    cases b with
    | nil => rfl
    | cons y ys =>
      simp only [List.getElem?_cons_zero, cmpR]
      by_cases e : c x y = 0
      · rw [if_neg (by simpa using e), decide_eq_true e]
        simp only [Bool.not_true, cond_false, Option.bind_some]
        refine iter_cmp c xs ys (k + 1) n (fun i z hz => ?_) ?_ (by simpa using hn)
        · have := hs (i + 1) z (by simpa using hz)
          rw [show k + (i + 1) = k + 1 + i by omega] at this
          simpa using this
        · rw [← hd]
          congr 3
          simp only [List.length_cons]
          omega
      · rw [if_pos e, decide_eq_false e]
        rfl
theorem SCompareI_ok (a b : List Int) (ha : a.length < 2 ^ 62) : slices_Compare_int_intP a b = some (cmpL cmpI a b) := by
  unfold slices_Compare_int_intP slices_Compare_int_int
  rw [show (0 : Int) = ((0 : Nat) : Int) from rfl, iter_cmp (h := H.empty) cmpI a b 0 FUEL (fun i x hx => by
    have hi := (List.getElem?_eq_some_iff.1 hx).1
    unfold slices_Compare_int_int.loop1
    try simp -implicitDefEqProofs only [rowSV_len, Int.toNat_natCast, Nat.zero_add]
    rw [decide_eq_true (by omega), cond_true, guardO_pos (by omega), rd_row0 (ls := [.int .i64]) (w := 1) rfl (by omega), hx]
    try simp -implicitDefEqProofs only [Option.bind_some, LT.lo, Leaf.lo, List.getElem?_cons_zero, Leaf.pack, reduceIte]
    by_cases hb : b.length ≤ i
    · rw [decide_eq_true (by omega), cond_true, List.getElem?_eq_none hb]
    · have hy : b[i]? = some b[i] := List.getElem?_eq_getElem (by omega)
      rw [decide_eq_false (by omega), cond_false, guardO_pos (by omega), rd_row0 (ls := [.int .i64]) (w := 1) rfl (by omega), hy]
      try simp -implicitDefEqProofs only [Option.bind_some, LT.lo, Leaf.lo, List.getElem?_cons_zero, Leaf.pack, reduceIte, CompareI_ok]
      rw [i64_succ (by omega)]
      cases decide (cmpI x b[i] = 0) <;> rfl) (by
    unfold slices_Compare_int_int.loop1
    try simp -implicitDefEqProofs only [rowSV_len, Nat.zero_add]
    rw [decide_eq_false (by omega), cond_false]) (fuel_gt (by omega))]
  try simp -implicitDefEqProofs only [Option.bind_some]
  rcases cmpR_L cmpI a b with ⟨r, h1, h2⟩ | ⟨h1, h2, h3⟩
  · rw [h1, h2]; rfl
  · rw [h1, h3]
    try simp -implicitDefEqProofs only [rowSV_len]
    by_cases hl : a.length < b.length
    · rw [decide_eq_true (by omega), if_pos hl]; rfl
    · rw [decide_eq_false (by omega), if_neg hl]; rfl
theorem SCompareT_ok (a b : List ByteArray) (ha : a.length < 2 ^ 62) : slices_Compare_string_stringP a b = some (cmpL cmpT a b) := by
  unfold slices_Compare_string_stringP slices_Compare_string_string
  rw [show (0 : Int) = ((0 : Nat) : Int) from rfl, iter_cmp (h := H.empty) cmpT a b 0 FUEL (fun i x hx => by
    have hi := (List.getElem?_eq_some_iff.1 hx).1
    unfold slices_Compare_string_string.loop1
    try simp -implicitDefEqProofs only [rowSV_len, Int.toNat_natCast, Nat.zero_add]
    rw [decide_eq_true (by omega), cond_true, guardO_pos (by omega), rd_row0 (ls := [.str]) (w := 1) rfl (by omega), hx]
    try simp -implicitDefEqProofs only [Option.bind_some, LT.lo, Leaf.lo, List.getElem?_cons_zero, Leaf.pack, reduceIte]
    by_cases hb : b.length ≤ i
    · rw [decide_eq_true (by omega), cond_true, List.getElem?_eq_none hb]
    · have hy : b[i]? = some b[i] := List.getElem?_eq_getElem (by omega)
      rw [decide_eq_false (by omega), cond_false, guardO_pos (by omega), rd_row0 (ls := [.str]) (w := 1) rfl (by omega), hy]
      try simp -implicitDefEqProofs only [Option.bind_some, LT.lo, Leaf.lo, List.getElem?_cons_zero, Leaf.pack, reduceIte, CompareT_ok]
      rw [i64_succ (by omega)]
      cases decide (cmpT x b[i] = 0) <;> rfl) (by
    unfold slices_Compare_string_string.loop1
    try simp -implicitDefEqProofs only [rowSV_len, Nat.zero_add]
    rw [decide_eq_false (by omega), cond_false]) (fuel_gt (by omega))]
  try simp -implicitDefEqProofs only [Option.bind_some]
  rcases cmpR_L cmpT a b with ⟨r, h1, h2⟩ | ⟨h1, h2, h3⟩
  · rw [h1, h2]; rfl
  · rw [h1, h3]
    try simp -implicitDefEqProofs only [rowSV_len]
    by_cases hl : a.length < b.length
    · rw [decide_eq_true (by omega), if_pos hl]; rfl
    · rw [decide_eq_false (by omega), if_neg hl]; rfl
theorem orI_zero (a : Int) : orI a 0 = a := by unfold orI; split <;> simp_all
theorem Keys_ok (a b : Ky) : fact_KeysP a b = some (cmpK a b) := by
  obtain ⟨a0, a1, a2⟩ := a
  obtain ⟨b0, b1, b2⟩ := b
  unfold fact_KeysP fact_Keys
  try simp -implicitDefEqProofs only [evs, reduceIte, rdRes, rdTT, rdTy, rdLT, Res.un, TT.un, Ty.un, LT.un, Leaf.un, Leaf.plain, LT.plain, evh, List.replicate, splice, LT.pack, Leaf.pack, Nat.reduceAdd, Nat.reduceSub, Nat.reduceLeDiff, Nat.reduceLT, Nat.reduceEqDiff, LT.lo, Leaf.lo, CompareI_ok]
  rw [Or_ok _ (by simp only [List.length_cons, List.length_nil]; omega)]
  try simp -implicitDefEqProofs only [Option.bind_some, orL, orI_zero]
  rfl
def okF (f : Fct) : Bool := decide (f.2.2.2.2.1.length < 2 ^ 40) && decide (f.2.2.2.2.2.length < 2 ^ 40)
theorem Compare_ok (a b : Fct) (ha : okF a = true) : fact_CompareP a b = some (cmpF a b) := by
  obtain ⟨a0, a1, a2, a3, a4, a5⟩ := a
  obtain ⟨b0, b1, b2, b3, b4, b5⟩ := b
  simp only [okF, Bool.and_eq_true, decide_eq_true_eq] at ha
  unfold fact_CompareP fact_Compare
  have r4 : ∀ h, rdRow true h [.int .i64] ⟨(rowSV false [.int .i64] a4).a, a4.length, a4.length, true⟩ = some a4 := fun h => rdRow_args (f := false) rfl
  have r5 : ∀ h, rdRow true h [.str] ⟨(rowSV false [.str] a5).a, a5.length, a5.length, true⟩ = some a5 := fun h => rdRow_args (f := false) rfl
  have s4 : ∀ h, rdRow true h [.int .i64] ⟨(rowSV false [.int .i64] b4).a, b4.length, b4.length, true⟩ = some b4 := fun h => rdRow_args (f := false) rfl
  have s5 : ∀ h, rdRow true h [.str] ⟨(rowSV false [.str] b5).a, b5.length, b5.length, true⟩ = some b5 := fun h => rdRow_args (f := false) rfl
  try simp -implicitDefEqProofs only [evs, reduceIte, rdRes, rdTT, rdTy, rdLT, Res.un, TT.un, Ty.un, LT.un, Leaf.un, Leaf.plain, LT.plain, evh, List.replicate, splice, LT.pack, Leaf.pack, Nat.reduceAdd, Nat.reduceSub, Nat.reduceLeDiff, Nat.reduceLT, Nat.reduceEqDiff, LT.lo, Leaf.lo, CompareI_ok, Keys_ok, r4, r5, s4, s5]
  rw [SCompareI_ok _ _ (by omega), Option.bind_some, SCompareT_ok _ _ (by omega), Option.bind_some]
  rw [Or_ok _ (by simp only [List.length_cons, List.length_nil]; omega)]
  try simp -implicitDefEqProofs only [Option.bind_some, orL, orI_zero]
  rfl
/-
  DERIVED: THE SHELF's CONTRACTS AT THIS DUMP, IN PLAIN WORDS (tools/lay-plain.mjs out of 'TryzSorts.lean', which tools/lay-shelf.mjs wrote): THE SAME DECLARATIONS UNDER THE SAME YtjkjcnadgpndoaaGreatS: 'import', 'namespace', 'open', 'def', 'theorem' AND NOTHING ELSE: no command of the shelf's: FOR A HAND-IN. Each laying: the table of numbers ('.._ren') and one theorem, a field a fact of the dump's own or the kernel's comparison; each contract: ONE APPLICATION.
-/
end Go.Proofs.YtjkjcnadgpndoaaGreat
namespace Go.Proofs
open Go.Shelf
def Tryz.sortK_ren : Go.Shelf.Ren := ⟨fun | 6 => 57 | 15 => 92 | 14 => 93 | 28 => 120 | 29 => 121 | 20 => 122 | 21 => 123 | 22 => 124 | 23 => 125 | 24 => 126 | 25 => 127 | 26 => 128 | 27 => 129 | 46 => 142 | 47 => 138 | 48 => 139 | 49 => 143 | 50 => 144 | 57 => 147 | n => n, fun | 22 => 27 | 24 => 24 | 25 => 81 | 3 => 3 | 39 => 106 | 0 => 0 | 53 => 127 | 55 => 129 | 4 => 4 | 46 => 121 | 45 => 120 | 50 => 116 | 5 => 5 | 9 => 9 | 66 => 138 | 70 => 142 | 76 => 147 | 77 => 148 | n => n, fun | n => n⟩
theorem Tryz.sortK : Go.Proofs.SlLaysF0.n6 Tryz.prog Tryz.sortK_ren := {
  mixed := by kernel_rfl
  f6 := ⟨Tryz.f57.name, by decide, Tryz.func57.trans (congrArg some (by kernel_rfl))⟩
  f14 := ⟨Tryz.f93.name, by decide, Tryz.func93.trans (congrArg some (by kernel_rfl))⟩
  f15 := Tryz.func92.trans (congrArg some (by kernel_rfl))
  f20 := ⟨Tryz.f122.name, by decide, Tryz.func122.trans (congrArg some (by kernel_rfl))⟩
  f21 := ⟨Tryz.f123.name, by decide, Tryz.func123.trans (congrArg some (by kernel_rfl))⟩
  f22 := ⟨Tryz.f124.name, by decide, Tryz.func124.trans (congrArg some (by kernel_rfl))⟩
  f23 := ⟨Tryz.f125.name, by decide, Tryz.func125.trans (congrArg some (by kernel_rfl))⟩
  f24 := ⟨Tryz.f126.name, by decide, Tryz.func126.trans (congrArg some (by kernel_rfl))⟩
  f25 := ⟨Tryz.f127.name, by decide, Tryz.func127.trans (congrArg some (by kernel_rfl))⟩
  f26 := ⟨Tryz.f128.name, by decide, Tryz.func128.trans (congrArg some (by kernel_rfl))⟩
  f27 := ⟨Tryz.f129.name, by decide, Tryz.func129.trans (congrArg some (by kernel_rfl))⟩
  f28 := Tryz.func120.trans (congrArg some (by kernel_rfl))
  f29 := Tryz.func121.trans (congrArg some (by kernel_rfl))
  f46 := ⟨Tryz.f142.name, by decide, Tryz.func142.trans (congrArg some (by kernel_rfl))⟩
  f47 := Tryz.func138.trans (congrArg some (by kernel_rfl))
  f48 := Tryz.func139.trans (congrArg some (by kernel_rfl))
  f49 := ⟨Tryz.f143.name, by decide, Tryz.func143.trans (congrArg some (by kernel_rfl))⟩
  f50 := ⟨Tryz.f144.name, by decide, Tryz.func144.trans (congrArg some (by kernel_rfl))⟩
  f57 := ⟨Tryz.f147.name, by decide, Tryz.func147.trans (congrArg some (by kernel_rfl))⟩
  t0 := Tryz.underlying0
  a0 := Tryz.isAgg0
  z0 := Tryz.sizeOf0
  v0 := Tryz.zeroValue0
  t3 := Tryz.underlying3
  a3 := Tryz.isAgg3
  z3 := Tryz.sizeOf3
  v3 := Tryz.zeroValue3
  t4 := Tryz.underlying4
  a4 := Tryz.isAgg4
  z4 := Tryz.sizeOf4
  v4 := Tryz.zeroValue4
  t5 := Tryz.underlying5
  a5 := Tryz.isAgg5
  z5 := Tryz.sizeOf5
  v5 := Tryz.zeroValue5
  t9 := Tryz.underlying9
  a9 := Tryz.isAgg9
  z9 := Tryz.sizeOf9
  v9 := Tryz.zeroValue9
  t22 := Tryz.underlying27
  a22 := Tryz.isAgg27
  z22 := Tryz.sizeOf27
  v22 := Tryz.zeroValue27
  t25 := Tryz.underlying81
  a25 := Tryz.isAgg81
  z25 := Tryz.sizeOf81
  v25 := Tryz.zeroValue81
  t39 := Tryz.underlying106
  a39 := Tryz.isAgg106
  z39 := Tryz.sizeOf106
  v39 := Tryz.zeroValue106
  t45 := Tryz.underlying120
  a45 := Tryz.isAgg120
  z45 := Tryz.sizeOf120
  v45 := Tryz.zeroValue120
  t46 := Tryz.underlying121
  a46 := Tryz.isAgg121
  z46 := Tryz.sizeOf121
  v46 := Tryz.zeroValue121
  t50 := Tryz.underlying116
  a50 := Tryz.isAgg116
  z50 := Tryz.sizeOf116
  v50 := Tryz.zeroValue116
  t53 := Tryz.underlying127
  a53 := Tryz.isAgg127
  z53 := Tryz.sizeOf127
  v53 := Tryz.zeroValue127
  t55 := Tryz.underlying129
  a55 := Tryz.isAgg129
  z55 := Tryz.sizeOf129
  v55 := Tryz.zeroValue129
  t66 := Tryz.underlying138
  a66 := Tryz.isAgg138
  z66 := Tryz.sizeOf138
  v66 := Tryz.zeroValue138
  t70 := Tryz.underlying142
  a70 := Tryz.isAgg142
  z70 := Tryz.sizeOf142
  v70 := Tryz.zeroValue142
  t76 := Tryz.underlying147
  a76 := Tryz.isAgg147
  z76 := Tryz.sizeOf147
  v76 := Tryz.zeroValue147
  t77 := Tryz.underlying148
  a77 := Tryz.isAgg148
  z77 := Tryz.sizeOf148
  v77 := Tryz.zeroValue148 }
def Tryz.sortF_ren : Go.Shelf.Ren := ⟨fun | 6 => 56 | 15 => 92 | 14 => 91 | 28 => 120 | 29 => 121 | 20 => 112 | 21 => 113 | 22 => 114 | 23 => 115 | 24 => 116 | 25 => 117 | 26 => 118 | 27 => 119 | 46 => 137 | 47 => 138 | 48 => 139 | 49 => 140 | 50 => 141 | 57 => 146 | n => n, fun | 22 => 22 | 24 => 42 | 25 => 54 | 3 => 3 | 39 => 106 | 0 => 0 | 53 => 127 | 55 => 129 | 4 => 4 | 46 => 121 | 45 => 120 | 50 => 116 | 5 => 5 | 9 => 9 | 66 => 138 | 70 => 142 | 76 => 147 | 77 => 148 | n => n, fun | n => n⟩
theorem Tryz.sortF : Go.Proofs.SlLaysF0.n6 Tryz.prog Tryz.sortF_ren := {
  mixed := by kernel_rfl
  f6 := ⟨Tryz.f56.name, by decide, Tryz.func56.trans (congrArg some (by kernel_rfl))⟩
  f14 := ⟨Tryz.f91.name, by decide, Tryz.func91.trans (congrArg some (by kernel_rfl))⟩
  f15 := Tryz.func92.trans (congrArg some (by kernel_rfl))
  f20 := ⟨Tryz.f112.name, by decide, Tryz.func112.trans (congrArg some (by kernel_rfl))⟩
  f21 := ⟨Tryz.f113.name, by decide, Tryz.func113.trans (congrArg some (by kernel_rfl))⟩
  f22 := ⟨Tryz.f114.name, by decide, Tryz.func114.trans (congrArg some (by kernel_rfl))⟩
  f23 := ⟨Tryz.f115.name, by decide, Tryz.func115.trans (congrArg some (by kernel_rfl))⟩
  f24 := ⟨Tryz.f116.name, by decide, Tryz.func116.trans (congrArg some (by kernel_rfl))⟩
  f25 := ⟨Tryz.f117.name, by decide, Tryz.func117.trans (congrArg some (by kernel_rfl))⟩
  f26 := ⟨Tryz.f118.name, by decide, Tryz.func118.trans (congrArg some (by kernel_rfl))⟩
  f27 := ⟨Tryz.f119.name, by decide, Tryz.func119.trans (congrArg some (by kernel_rfl))⟩
  f28 := Tryz.func120.trans (congrArg some (by kernel_rfl))
  f29 := Tryz.func121.trans (congrArg some (by kernel_rfl))
  f46 := ⟨Tryz.f137.name, by decide, Tryz.func137.trans (congrArg some (by kernel_rfl))⟩
  f47 := Tryz.func138.trans (congrArg some (by kernel_rfl))
  f48 := Tryz.func139.trans (congrArg some (by kernel_rfl))
  f49 := ⟨Tryz.f140.name, by decide, Tryz.func140.trans (congrArg some (by kernel_rfl))⟩
  f50 := ⟨Tryz.f141.name, by decide, Tryz.func141.trans (congrArg some (by kernel_rfl))⟩
  f57 := ⟨Tryz.f146.name, by decide, Tryz.func146.trans (congrArg some (by kernel_rfl))⟩
  t0 := Tryz.underlying0
  a0 := Tryz.isAgg0
  z0 := Tryz.sizeOf0
  v0 := Tryz.zeroValue0
  t3 := Tryz.underlying3
  a3 := Tryz.isAgg3
  z3 := Tryz.sizeOf3
  v3 := Tryz.zeroValue3
  t4 := Tryz.underlying4
  a4 := Tryz.isAgg4
  z4 := Tryz.sizeOf4
  v4 := Tryz.zeroValue4
  t5 := Tryz.underlying5
  a5 := Tryz.isAgg5
  z5 := Tryz.sizeOf5
  v5 := Tryz.zeroValue5
  t9 := Tryz.underlying9
  a9 := Tryz.isAgg9
  z9 := Tryz.sizeOf9
  v9 := Tryz.zeroValue9
  t22 := Tryz.underlying22
  a22 := Tryz.isAgg22
  z22 := Tryz.sizeOf22
  v22 := Tryz.zeroValue22
  t25 := Tryz.underlying54
  a25 := Tryz.isAgg54
  z25 := Tryz.sizeOf54
  v25 := Tryz.zeroValue54
  t39 := Tryz.underlying106
  a39 := Tryz.isAgg106
  z39 := Tryz.sizeOf106
  v39 := Tryz.zeroValue106
  t45 := Tryz.underlying120
  a45 := Tryz.isAgg120
  z45 := Tryz.sizeOf120
  v45 := Tryz.zeroValue120
  t46 := Tryz.underlying121
  a46 := Tryz.isAgg121
  z46 := Tryz.sizeOf121
  v46 := Tryz.zeroValue121
  t50 := Tryz.underlying116
  a50 := Tryz.isAgg116
  z50 := Tryz.sizeOf116
  v50 := Tryz.zeroValue116
  t53 := Tryz.underlying127
  a53 := Tryz.isAgg127
  z53 := Tryz.sizeOf127
  v53 := Tryz.zeroValue127
  t55 := Tryz.underlying129
  a55 := Tryz.isAgg129
  z55 := Tryz.sizeOf129
  v55 := Tryz.zeroValue129
  t66 := Tryz.underlying138
  a66 := Tryz.isAgg138
  z66 := Tryz.sizeOf138
  v66 := Tryz.zeroValue138
  t70 := Tryz.underlying142
  a70 := Tryz.isAgg142
  z70 := Tryz.sizeOf142
  v70 := Tryz.zeroValue142
  t76 := Tryz.underlying147
  a76 := Tryz.isAgg147
  z76 := Tryz.sizeOf147
  v76 := Tryz.zeroValue147
  t77 := Tryz.underlying148
  a77 := Tryz.isAgg148
  z77 := Tryz.sizeOf148
  v77 := Tryz.zeroValue148 }
end Go.Proofs
namespace Go.Proofs.YtjkjcnadgpndoaaGreat
open Go Go.Proofs.YtjkjcnadgpndoaaGreat.Ev
set_option linter.unusedVariables false
set_option linter.unusedSimpArgs false
set_option maxRecDepth 100000
set_option maxHeartbeats 4000000
abbrev KeyT : Ty := .agg [.int .i64, .int .i64, .int .i64]
abbrev FactT : Ty := .agg FS
def itA : Ann := { lits := [], conds := [], loops := [(1, [], [], [], [], some 0, none)], regs := [], ents := [(8, KeyT, .leaf .slice)] }
def apA : Ann := { lits := [], conds := [], loops := [], regs := [], rnds := [(7, [KeyT])] }
noncomputable def itE (Y : Entry) : Entry := { quiet := false, cps := fun args h _ k => evalFnK Tryz.prog (withY Table.nil Y) itA Tryz.f111 (.many []) args h fun r h' => k (Res.un (.many []) r) h' }
theorem itE.ok : ItOK Tryz.prog 111 itE := by
  intro Y hY base ρ0 hyok args h α k res hv ρ w us hle hr hrl
  have := fn_callsK ((TabW.nil _).withY hY) Tryz.mixed Tryz.func111 hv rfl
  exact ⟨run_callFunc Tryz.func111 this.1 (by kernel_rfl) _ w, Calls.mono (this.2 base ρ w us (hyok.mono hle) hr hrl) fun e w' ⟨r, h', h1, h2⟩ => ⟨_, _, h1, h2⟩⟩
noncomputable def itLoop (l : Nat) (f : Ky → H → Option H) (h0 : H) : Unit × H → Option (Stp (Unit × H) (Flow Unit Unit × H)) := fun (_, h2) =>
  (curG h2 (.hp h0.next 0 0 : V) KeyT (.leaf .slice)).bind fun ((k0, k1, k2), v) =>
  (let h3 : H := H.new h2 [.int .i64 0, .int .i64 0, .int .i64 0] 3
  ((H.wrs h3 (.hp h2.next 3 0) [.int .i64 k0, .int .i64 k1, .int .i64 k2]).bind fun h4 =>
  ((rdT KeyT h4 (.hp h2.next 3 0)).bind fun (x0, x1, x2) =>
  (bif Nat.beq l l then ((f (x0, x1, x2) h4).bind fun h5 => some (.more ((), h5))) else none))))
noncomputable def itLoopE : Unit × H → Option (Stp (Unit × H) (Flow Unit Unit × H)) := fun (_, h2) => some (.done (.ex0 (), h2))
noncomputable def itK (l : Nat) (f : Ky → H → Option H) (p : V) (h : H) {R : Type} (k : V → H → Option R) : Option R :=
  (rdT (.leaf .map) h p).bind fun x4 => ((x4 : Option Nat).bind fun r => ((H.gmap h r KeyT (.leaf .slice)).bind fun es =>
  (let h1 : H := H.newS h (.miter r es.length [])
  ((iterAt h1 (.hp h.next 0 0 : V)).bind fun q => agreeN q.2.2 fun π =>
  ((mrounds q.1 q.2.1 q.2.2 (itLoop l f h) itLoopE [] π ((), h1)).bind fun (fl, h5) => match fl with
  | .next _ => none
  | .ret rr => k (Res.un (.many []) rr) h5
  | .ex0 _ => k (Res.un (.many []) ()) h5
  | .ex1 _ => none)))))
theorem itE_eq (l : Nat) (f : TT [KeyT] → H → Option H) (p : V) (h : H) (R : Type) (k : V → H → Option R) : (itE (mkY [KeyT] l f)).cps [.yld l, p] h k = itK l f p h k := by
  kernel_rfl
noncomputable def apRound (l : Nat) (box : V) (x : Ky) (h1 : H) : Option H :=
  (h1.begin l).bind fun _ =>
  (let h4 : H := H.new h1 [.int .i64 0, .int .i64 0, .int .i64 0] 3
  ((H.wrs h4 (.hp h1.next 3 0) [.int .i64 x.1, .int .i64 x.2.1, .int .i64 x.2.2]).bind fun h5 =>
  ((h5.begin l).bind fun h6 =>
  ((rdT (.leaf .slice) h6 box).bind fun s8 =>
  ((rdT KeyT h6 (.hp h1.next 3 0)).bind fun (y0, y1, y2) =>
  ((appendS h6 none 3 24 s8 [.int .i64 y0, .int .i64 y1, .int .i64 y2] 1).bind fun (s11, h7) =>
  ((H.wrs h7 box [.slice s11.a s11.len s11.cap s11.tail]).bind fun h8 => h8.endR l)))))))
noncomputable def apK (p : V) (h : H) {R : Type} (k : SV → H → Option R) : Option R :=
  (let h1 : H := H.new h [.slice .nil 0 0 false] 1
  (itE (mkY [KeyT] h1.next fun x h2 => apRound h1.next (.hp h.next 1 0) x h2)).cps [.yld h1.next, p] (h1.newS (.loop .ready)) fun _ h2 =>
  ((h2.endL h1.next).bind fun h3 => ((rdT (.leaf .slice) h3 (.hp h.next 1 0)).bind fun s => k s h3)))
noncomputable def apT : Table := tabI [(111, itE)] Table.nil
theorem apK_eq (p : V) (h : H) (R : Type) (k : SV → H → Option R) : evalFnK Tryz.prog apT apA Tryz.f136 (.one (.leaf .slice)) [.slice .nil 0 0 false, .func 111 [p]] h k = apK p h k := by
  kernel_rfl
theorem hL_newS {l : List Slot} {s : Slot} : H.newS (hL l) s = hL (l ++ [s]) := by
  refine H.ext' (by simp [H.newS, hL]) fun i => ?_
  simp only [H.newS, hL]
  by_cases hi : i = l.length
  · subst hi; simp
  · rw [beq_ne hi, cond_false]
    rcases Nat.lt_or_ge i l.length with h | h
    · rw [List.getElem?_append_left h]
    · rw [List.getElem?_eq_none h, List.getElem?_eq_none (by simp; omega)]
mutual
theorem V.beq_refl : ∀ v : V, V.beq v v = true
  | .undef => rfl
  | .nil => rfl
  | .nilFunc => rfl
  | .nilIface => rfl
  | .bool b => by simp [V.beq]
  | .int k n => by simp [V.beq]
  | .str s => by simp [V.beq]
  | .hp id g o => by simp [V.beq]
  | .lp f cs o => by simp [V.beq, V.beqs_refl cs]
  | .slice a l c t => by simp [V.beq, V.beq_refl a]
  | .map r => by simp [V.beq]
  | .func f cs => by simp [V.beq, V.beqs_refl cs]
  | .agg cs => by simp [V.beq, V.beqs_refl cs]
  | .tuple cs => by simp [V.beq, V.beqs_refl cs]
  | .yld id => by simp [V.beq]
theorem V.beqs_refl : ∀ l : List V, V.beqs l l = true
  | [] => rfl
  | a :: l => by simp [V.beqs, V.beq_refl a, V.beqs_refl l]
end
theorem agreeN_of {R : Type} {n : Nat} {F : List Nat → Option R} {r : R} (h : ∀ π : List Nat, π.Perm (List.range n) → F π = some r) : agreeN n F = some r := by
  unfold agreeN
  rw [dif_pos ⟨r, h⟩]
  have h1 := Classical.choose_spec (⟨r, h⟩ : ∃ r, ∀ π : List Nat, π.Perm (List.range n) → F π = some r)
  have h2 := h1 _ (List.Perm.refl _)
  rw [h _ (List.Perm.refl _)] at h2
  simp only [Option.some.injEq] at h2
  rw [← h2]
structure CInv (sl : List Slot) (id n : Nat) (seen : List Nat) (ks : List Ky) (sl' : List Slot) : Prop where
  old : ∀ j, j < sl.length → sl'[j]? = sl[j]?
  lp : sl'[sl.length + 1]? = some (.loop .ready)
  it : sl'[sl.length + 2]? = some (.miter id n seen)
  lo : sl.length + 3 ≤ sl'.length
  hi : sl'.length ≤ sl.length + 3 + 3 * ks.length
  box : ∃ s o, sl'[sl.length]? = some (.own [.slice s.a s.len s.cap s.tail] 1) ∧ Acc sl' KC ks s o ∧ (o = none → sl'.length = sl.length + 3) ∧ ∀ j, o = some j → j = sl.length + 5
theorem set_app {sl : List Slot} {i : Nat} {s : Slot} {t : List Slot} (h : i < sl.length) : (sl ++ t).set i s = sl.set i s ++ t := List.set_append_left _ _ h
theorem get_app {sl : List Slot} {i : Nat} {t : List Slot} (h : i < sl.length) : (sl ++ t)[i]? = sl[i]? := List.getElem?_append_left h
theorem slice_box (s : SV) {sl : List Slot} {i e : Nat} (h : sl[i]? = some (.own [.slice s.a s.len s.cap s.tail] e)) : rdT (.leaf .slice) (hL sl) (.hp i 1 0) = some s := by
  rw [rd_own (g := 1) h rfl]
  rfl
theorem key_box {sl : List Slot} {i e : Nat} {a b c : Int} (h : sl[i]? = some (.own [.int .i64 a, .int .i64 b, .int .i64 c] e)) : rdT KeyT (hL sl) (.hp i 3 0) = some (a, b, c) := by
  rw [rds_hp (by simp), hL_m, h]
  rfl
theorem wr_all {sl : List Slot} {i e g : Nat} {cs vs : List V} (h : sl[i]? = some (.own cs e)) (hg : cs.length = g) (hl : vs.length = g) : H.wrs (hL sl) (.hp i g 0) vs = some (hL (sl.set i (.own vs e))) := by
  rw [wrs_own h hg (by omega)]
  have : splice cs 0 vs = vs := by simp [splice, List.drop_eq_nil_of_le (show cs.length ≤ vs.length by omega)]
  rw [this]
theorem set_new {sl : List Slot} {i : Nat} {s s' : Slot} (h : i = sl.length) : (sl ++ [s]).set i s' = sl ++ [s'] := by
  subst h
  simp
theorem wr_new {sl : List Slot} {e g i : Nat} {cs vs : List V} (hi : i = sl.length) (hg : cs.length = g) (hl : vs.length = g) : H.wrs (hL (sl ++ [.own cs e])) (.hp i g 0) vs = some (hL (sl ++ [.own vs e])) := by
  subst hi
  rw [wr_all (e := e) (cs := cs) (by simp) hg hl, set_new rfl]
theorem key_new {sl : List Slot} {e : Nat} {a b c : Int} : rdT KeyT (hL (sl ++ [.own [.int .i64 a, .int .i64 b, .int .i64 c] e])) (.hp sl.length 3 0) = some (a, b, c) := key_box (e := e) (by simp)
theorem acc_append' {sl : List Slot} {ls : List Leaf} {xs : List (LT ls)} {s : SV} {o : Option Nat} {w b : Nat} {x : LT ls} {vs : List V} (h : Acc sl ls xs s o) (hw : ls.length = w) (hpos : 0 < w) (hl : xs.length + 1 ≤ 2 ^ 36) (hb : b ≤ 2 ^ 11) (hv : vs = LT.lo true ls x) :
    ∃ s' sl' id, appendS (hL sl) none w b s vs 1 = some (s', hL sl') ∧ Acc sl' ls (xs ++ [x]) s' (some id) ∧ (o = some id ∨ o = none ∧ id = sl.length) ∧ sl.length ≤ sl'.length ∧ (∀ j, o ≠ some j → j < sl.length → sl'[j]? = sl[j]?) ∧ sl'.length ≤ sl.length + 1 := by
  subst hw
  cases o with
  | none =>
    obtain ⟨rfl, hs⟩ := h
    refine ⟨ownSV sl.length ls [x].length, sl ++ [.own (cellsL ls [x]) ls.length], sl.length, ?_, ⟨by simp, rfl, ?_⟩, .inr ⟨rfl, rfl⟩, ?_, fun j _ hj => ?_, ?_⟩
    · have h1 := append_nil (ls := ls) (sl := sl) (x := x) (w := ls.length) (b := b) rfl hb hv
      rcases hs with rfl | rfl
      · exact h1
      · rw [← h1]
        simp only [appendS, appendV, nilSV]
        rw [if_neg (show ¬ (1 = 0) by omega), if_neg (show ¬ (1 = 0) by omega)]
        rw [if_pos ⟨trivial, trivial, trivial⟩, if_pos ⟨trivial, trivial, trivial⟩]
    · simp
    · simp
    · exact List.getElem?_append_left hj
    · simp
  | some id =>
    obtain ⟨h1, rfl, h3⟩ := h
    have hid := (List.getElem?_eq_some_iff.1 h3).1
    refine ⟨ownSV id ls (xs ++ [x]).length, sl.set id (.own (cellsL ls (xs ++ [x])) ls.length), id, append_own h3 rfl hpos h1 hl hb hv, ⟨by simp, rfl, ?_⟩, .inl rfl, by simp, fun j hj hlt => ?_, by simp⟩
    · rw [List.getElem?_set_self hid]
    · rw [List.getElem?_set_ne (fun e => hj (by rw [e]))]
theorem round_ok {sl sl1 : List Slot} {id n : Nat} {seen : List Nat} {ks : List Ky} {x : Ky} (c : CInv sl id n seen ks sl1) (hk : ks.length < 2 ^ 30) :
    ∃ sl2, apRound (sl.length + 1) (.hp sl.length 1 0) x (hL (sl1 ++ [.own [.int .i64 x.1, .int .i64 x.2.1, .int .i64 x.2.2] 3])) = some (hL sl2) ∧ CInv sl id n seen (ks ++ [x]) sl2 := by
  obtain ⟨old, lp, it, lo, hi, s, o, hb, acc, ho1, ho2⟩ := c
  obtain ⟨x0, x1, x2⟩ := x
  have e1 : (hL (sl1 ++ [.own [.int .i64 x0, .int .i64 x1, .int .i64 x2] 3])).begin (sl.length + 1) = some ((hL (sl1 ++ [.own [.int .i64 x0, .int .i64 x1, .int .i64 x2] 3])).put (sl.length + 1) (.loop .busy)) := by
    simp only [H.begin, hL_m, get_app (sl := sl1) (i := sl.length + 1) (by omega), lp, Option.getD_some]
  -- the heap with both copies of the key
  obtain ⟨sl3, h3⟩ : ∃ sl3, sl3 = (sl1 ++ [.own [.int .i64 x0, .int .i64 x1, .int .i64 x2] 3]) ++ [.own [.int .i64 x0, .int .i64 x1, .int .i64 x2] 3] := ⟨_, rfl⟩
  have l3 : sl3.length = sl1.length + 2 := by rw [h3]; simp
  have g3 : ∀ j, j < sl1.length → sl3[j]? = sl1[j]? := fun j hj => by rw [h3, get_app (by simp; omega), get_app hj]
  have n3 : sl3[sl1.length + 1]? = some (.own [.int .i64 x0, .int .i64 x1, .int .i64 x2] 3) := by rw [h3]; simp
  obtain ⟨sl4, h4⟩ : ∃ sl4, sl4 = sl3.set (sl.length + 1) (.loop .busy) := ⟨_, rfl⟩
  have l4 : sl4.length = sl1.length + 2 := by rw [h4, List.length_set, l3]
  have g4 : ∀ j, j ≠ sl.length + 1 → sl4[j]? = sl3[j]? := fun j hj => by rw [h4, List.getElem?_set_ne (by omega)]
  have b4 : sl4[sl.length + 1]? = some (.loop .busy) := by rw [h4, List.getElem?_set_self (by omega)]
  have acc4 : Acc sl4 KC ks s o := acc.frame fun j hj => by
    have := ho2 j hj
    have := (show j < sl1.length by subst hj; exact acc.lt)
    rw [g4 j (by omega), g3 j this]
  obtain ⟨s', sl5, id', k1, k2, k3, k4, k5, k6⟩ := acc_append' acc4 (w := 3) (x := (x0, x1, x2)) (b := 24) (vs := [.int .i64 x0, .int .i64 x1, .int .i64 x2]) rfl (by decide) (by omega) (by omega) rfl
  have hne : ∀ j, j < sl.length + 3 → o ≠ some j := fun j hj e => by have := ho2 j e; omega
  have g5 : ∀ j, j < sl.length + 3 → sl5[j]? = sl4[j]? := fun j hj => k5 j (hne j hj) (by omega)
  have hb5 : sl5[sl.length]? = some (.own [.slice s.a s.len s.cap s.tail] 1) := by rw [g5 _ (by omega), g4 _ (by omega), g3 _ (by omega), hb]
  have id5 : id' = sl.length + 5 := by
    rcases k3 with k3 | ⟨k3, k3'⟩
    · exact ho2 _ k3
    · rw [k3', l4, ho1 k3]
  obtain ⟨sl6, h6⟩ : ∃ sl6, sl6 = sl5.set sl.length (.own [.slice s'.a s'.len s'.cap s'.tail] 1) := ⟨_, rfl⟩
  have g6 : ∀ j, j ≠ sl.length → sl6[j]? = sl5[j]? := fun j hj => by rw [h6, List.getElem?_set_ne (by omega)]
  have l6 : sl6.length = sl5.length := by rw [h6, List.length_set]
  have b6 : sl6[sl.length + 1]? = some (.loop .busy) := by rw [g6 _ (by omega), g5 _ (by omega), b4]
  obtain ⟨sl7, h7⟩ : ∃ sl7, sl7 = sl6.set (sl.length + 1) (.loop .ready) := ⟨_, rfl⟩
  have g7 : ∀ j, j ≠ sl.length + 1 → sl7[j]? = sl6[j]? := fun j hj => by rw [h7, List.getElem?_set_ne (by omega)]
  have l7 : sl7.length = sl5.length := by rw [h7, List.length_set, l6]
  refine ⟨sl7, ?_, ⟨fun j hj => ?_, ?_, ?_, by omega, by rw [List.length_append, List.length_singleton]; omega, s', some id', ?_, ?_, (fun e => by cases e), (fun j e => by cases e; exact id5)⟩⟩
  · unfold apRound
    rw [e1, Option.bind_some]
    simp only [hL_next]
    rw [hL_new, wr_new (g := 3) rfl rfl rfl, ← h3, Option.bind_some]
    have e2 : (hL sl3).begin (sl.length + 1) = some (hL sl4) := by
      simp only [H.begin, hL_m, g3 (sl.length + 1) (by omega), lp, Option.getD_some]
      rw [hL_put (by omega), ← h4]
    rw [e2, Option.bind_some, slice_box s (e := 1) (by rw [g4 _ (by omega), g3 _ (by omega), hb]), Option.bind_some]
    rw [show (sl1 ++ [Slot.own [.int .i64 x0, .int .i64 x1, .int .i64 x2] 3]).length = sl1.length + 1 by simp, key_box (e := 3) (by rw [g4 _ (by omega), n3]), Option.bind_some]
    simp only
    rw [k1, Option.bind_some]
    simp only
    rw [wr_all (g := 1) hb5 rfl rfl, ← h6, Option.bind_some]
    simp only [H.endR, hL_m, b6, Option.getD_some]
    rw [hL_put (by omega), ← h7]
  · rw [g7 _ (by omega), g6 _ (by omega), g5 _ (by omega), g4 _ (by omega), g3 _ (by omega), old j hj]
  · rw [h7, List.getElem?_set_self (by omega)]
  · rw [g7 _ (by omega), g6 _ (by omega), g5 _ (by omega), g4 _ (by omega), g3 _ (by omega), it]
  · rw [g7 _ (by omega), h6, List.getElem?_set_self (by omega)]
  · refine k2.frame fun j e => ?_
    cases e
    rw [g7 _ (by omega), g6 _ (by omega)]
theorem itLoop_ok {sl sl1 : List Slot} {id n i : Nat} {seen : List Nat} {ks : List Ky} {es : List (V × V)} {l : List (Ky × SV)} (c : CInv sl id n seen ks sl1) (hk : ks.length < 2 ^ 30) (hid : sl[id]? = some (.gmap es)) (hun : unG KeyT (.leaf .slice) es = some l) (hn : l.length = n) {x : Ky} {v : SV} (hx : l[i]? = some (x, v)) {h0 : H} (h0n : h0.next = sl.length + 2) :
    ∃ sl2, itLoop (sl.length + 1) (fun x h2 => apRound (sl.length + 1) (.hp sl.length 1 0) x h2) h0 ((), (hL sl1).put (sl.length + 2) (.miter id n (seen ++ [i]))) = some (.more ((), hL sl2)) ∧
      rangeOK ((hL sl1).put (sl.length + 2) (.miter id n (seen ++ [i]))) (hL sl2) (sl.length + 2) id n (seen ++ [i]) = true ∧ CInv sl id n (seen ++ [i]) (ks ++ [x]) sl2 := by
  have lo := c.lo
  have hidl := (List.getElem?_eq_some_iff.1 hid).1
  obtain ⟨sl3, h3⟩ : ∃ sl3, sl3 = sl1.set (sl.length + 2) (.miter id n (seen ++ [i])) := ⟨_, rfl⟩
  have l3 : sl3.length = sl1.length := by rw [h3, List.length_set]
  have g3 : ∀ j, j ≠ sl.length + 2 → sl3[j]? = sl1[j]? := fun j hj => by rw [h3, List.getElem?_set_ne (by omega)]
  have c3 : CInv sl id n (seen ++ [i]) ks sl3 := by
    obtain ⟨old, lp, it, lo, hi, s, o, hb, acc, ho1, ho2⟩ := c
    refine ⟨fun j hj => by rw [g3 j (by omega)]; exact old j hj, by rw [g3 _ (by omega)]; exact lp, by rw [h3, List.getElem?_set_self (by omega)], by omega, by omega, s, o, by rw [g3 _ (by omega)]; exact hb, acc.frame fun j e => ?_, by rw [l3]; exact ho1, ho2⟩
    have := ho2 j e
    rw [g3 j (by omega)]
  obtain ⟨sl2, r1, r2⟩ := round_ok (x := x) c3 hk
  refine ⟨sl2, ?_, ?_, r2⟩
  · rw [hL_put (by omega), ← h3]
    unfold itLoop
    have hcur : curG (hL sl3) (.hp h0.next 0 0 : V) KeyT (.leaf .slice) = some (x, v) := by
      simp only [curG, h0n, hL_m, c3.it, Option.getD_some, List.getLast?_append, List.getLast?_singleton, Option.or_some, Option.some_or, Option.bind_some, H.gmap, g3 id (by omega), c.old id hidl, hid, hun]
      rw [guardO_pos hn, hx]
    simp only
    rw [hcur]
    obtain ⟨x0, x1, x2⟩ := x
    simp only [Option.bind_some, hL_next]
    rw [hL_new, wr_new (g := 3) rfl rfl rfl, Option.bind_some, key_new, Option.bind_some]
    simp only [Nat.beq_refl, cond_true]
    rw [r1]
    rfl
  · rw [hL_put (by omega), ← h3]
    simp only [rangeOK, hL_m, g3 id (by omega), c.old id hidl, r2.old id hidl, hid, r2.it, Option.getD_some, V.beqs_refl, decide_true, Bool.and_self]
theorem itLoops_ok {sl : List Slot} {id n : Nat} {es : List (V × V)} {l : List (Ky × SV)} (hid : sl[id]? = some (.gmap es)) (hun : unG KeyT (.leaf .slice) es = some l) (hn : l.length = n) {h0 : H} (h0n : h0.next = sl.length + 2) : ∀ (π seen : List Nat) (ks : List Ky) (sl1 : List Slot),
    CInv sl id n seen ks sl1 → ks.length + π.length ≤ 2 ^ 30 → (∀ i ∈ π, i < n) →
    ∃ sl2, mrounds (sl.length + 2) id n (itLoop (sl.length + 1) (fun x h2 => apRound (sl.length + 1) (.hp sl.length 1 0) x h2) h0) itLoopE seen π ((), hL sl1) = some (.ex0 (), hL sl2) ∧ CInv sl id n (seen ++ π) (ks ++ π.filterMap fun i => (l[i]?).map (·.1)) sl2
  | [], seen, ks, sl1, c, _, _ => ⟨sl1, by simp [mrounds, itLoopE], by simpa using c⟩
  | i :: π, seen, ks, sl1, c, hk, hlt => by
    have hi : i < l.length := by rw [hn]; exact hlt i (by simp)
    have hx : l[i]? = some (l[i].1, l[i].2) := List.getElem?_eq_getElem hi
    simp only [List.length_cons] at hk
    obtain ⟨sl2, r1, r2, r3⟩ := itLoop_ok c (by omega) hid hun hn hx h0n
    obtain ⟨sl3, q1, q2⟩ := itLoops_ok hid hun hn h0n π (seen ++ [i]) (ks ++ [l[i].1]) sl2 r3 (by simp; omega) fun j hj => hlt j (by simp [hj])
    refine ⟨sl3, ?_, ?_⟩
    · simp only [mrounds]
      rw [r1, Option.bind_some]
      simp only
      rw [r2, cond_true, q1]
    · simp only [List.append_assoc, List.singleton_append] at q2
      rw [List.filterMap_cons, hx]
      exact q2
def Got (sl : List Slot) (l : List (Ky × SV)) (s : SV) (h' : H) : Prop :=
  ∃ ks : List Ky, ks.Perm (l.map (·.1)) ∧ (∀ j, j < sl.length → h'.m j = (hL sl).m j) ∧ h'.next ≤ sl.length + 3 + 3 * l.length ∧ (∀ j, h'.next ≤ j → h'.m j = .fresh) ∧
    ((ks = [] ∧ (s = nilSV ∨ s = ⟨.lp true [] 0, 0, 0, false⟩)) ∨ (ks ≠ [] ∧ s = ownSV (sl.length + 5) KC ks.length ∧ h'.m (sl.length + 5) = .own (cellsL KC ks) 3))
noncomputable def kGot (sl : List Slot) (l : List (Ky × SV)) (s : SV) (h' : H) : Option Unit :=
  open Classical in if Got sl l s h' then some () else none
theorem rd_more {l : Leaf} {sl t : List Slot} {p : V} {x : l.C} (h : rdT (.leaf l) (hL sl) p = some x) : rdT (.leaf l) (hL (sl ++ t)) p = some x := by
  cases p <;> try exact h
  rename_i id g o
  rw [rd_hp] at h ⊢
  rcases Nat.lt_or_ge id sl.length with hlt | hge
  · rw [hL_m, get_app hlt]
    exact h
  · rw [hL_m, List.getElem?_eq_none hge] at h
    cases h
theorem apK_ok {sl : List Slot} {id : Nat} {es : List (V × V)} {l : List (Ky × SV)} {p : V} (hp : rdT (.leaf .map) (hL sl) p = some (some id)) (hid : sl[id]? = some (.gmap es)) (hun : unG KeyT (.leaf .slice) es = some l) (hn : l.length ≤ 2000) :
    apK p (hL sl) (kGot sl l) = some () := by
  have hidl := (List.getElem?_eq_some_iff.1 hid).1
  have hes : es.length = l.length := by
    have : ∀ (es : List (V × V)) (l : List (Ky × SV)), unG KeyT (.leaf .slice) es = some l → es.length = l.length := fun es => by
      induction es with
      | nil => intro l h; simp only [unG, Option.some.injEq] at h; subst h; rfl
      | cons e es ih =>
        intro l h
        obtain ⟨a, b⟩ := e
        simp only [unG, Option.bind_eq_some_iff, Option.some.injEq] at h
        obtain ⟨x, _, y, _, l', h3, rfl⟩ := h
        simp only [List.length_cons, ih l' h3]
    exact this es l hun
  unfold apK
  simp only [hL_next]
  rw [hL_new]
  simp only [hL_next]
  rw [hL_newS, itE_eq]
  unfold itK
  have e1 : (sl ++ [Slot.own [.slice .nil 0 0 false] 1]).length = sl.length + 1 := by simp
  have e2 : (sl ++ [Slot.own [.slice .nil 0 0 false] 1] ++ [Slot.loop .ready]).length = sl.length + 2 := by simp
  simp only [hL_next, e1, e2]
  rw [List.append_assoc, rd_more hp]
  simp only [Option.bind_some]
  have hg : (hL (sl ++ ([Slot.own [.slice .nil 0 0 false] 1] ++ [Slot.loop .ready]))).gmap id KeyT (.leaf .slice) = some l := by
    simp only [H.gmap, hL_m, get_app hidl, hid, Option.getD_some, hun]
  rw [hg]
  simp only [Option.bind_some]
  rw [hL_newS]
  obtain ⟨sl1, h1⟩ : ∃ sl1, sl1 = sl ++ ([Slot.own [.slice .nil 0 0 false] 1] ++ [Slot.loop .ready]) ++ [Slot.miter id l.length []] := ⟨_, rfl⟩
  rw [← h1]
  have b1 : sl1[sl.length]? = some (.own [.slice .nil 0 0 false] 1) := by rw [h1]; simp
  have b2 : sl1[sl.length + 1]? = some (.loop .ready) := by rw [h1]; simp
  have b3 : sl1[sl.length + 2]? = some (.miter id l.length []) := by rw [h1]; simp
  have b0 : ∀ j, j < sl.length → sl1[j]? = sl[j]? := fun j hj => by rw [h1, get_app (by simp; omega), get_app hj]
  have hit : iterAt (hL sl1) (.hp (sl.length + 2) 0 0) = some (sl.length + 2, id, l.length) := by
    simp only [iterAt, hL_m, b3, Option.getD_some, b0 id hidl, hid]
    rw [guardO_pos ⟨hes, by omega⟩]
  rw [hit]
  simp only [Option.bind_some]
  have c1 : CInv sl id l.length [] [] sl1 := ⟨b0, b2, b3, by rw [h1]; simp, by rw [h1]; simp, ⟨.nil, 0, 0, false⟩, none, b1, Acc.nil, fun _ => by rw [h1]; simp, fun j e => by cases e⟩
  refine agreeN_of fun π hπ => ?_
  obtain ⟨sl2, q1, q2⟩ := itLoops_ok (h0 := hL (sl ++ ([Slot.own [.slice .nil 0 0 false] 1] ++ [Slot.loop .ready]))) hid hun rfl (by simp [hL_next]) π [] [] sl1 c1 (by rw [hπ.length_eq, List.length_range]; simp; omega) fun i hi => by simpa using (hπ.mem_iff.1 hi)
  rw [q1]
  simp only [Option.bind_some]
  have lo := q2.lo
  have hend : (hL sl2).endL (sl.length + 1) = some (hL (sl2.set (sl.length + 1) (.loop .exhausted))) := by
    simp only [H.endL, hL_m, q2.lp, Option.getD_some]
    rw [hL_put (by omega)]
  rw [hend]
  simp only [Option.bind_some]
  obtain ⟨s, o, hb, acc, ho1, ho2⟩ := q2.box
  rw [slice_box s (e := 1) (by rw [List.getElem?_set_ne (by omega)]; exact hb)]
  simp only [Option.bind_some, kGot]
  obtain ⟨ks, hks⟩ : ∃ ks, ks = [] ++ π.filterMap fun i => (l[i]?).map (·.1) := ⟨_, rfl⟩
  rw [← hks] at acc q2
  have hperm : ks.Perm (l.map (·.1)) := by
    rw [hks, List.nil_append]
    have := hπ.filterMap fun i => (l[i]?).map (·.1)
    refine this.trans ?_
    have : ∀ (l : List (Ky × SV)), (List.range l.length).filterMap (fun i => (l[i]?).map (·.1)) = l.map (·.1) := fun l => by
      induction l with
      | nil => rfl
      | cons a l ih =>
        rw [List.length_cons, List.range_succ_eq_map, List.filterMap_cons]
        simp only [List.getElem?_cons_zero, Option.map_some, List.filterMap_map, List.map_cons]
        congr 1
    rw [this]
  rw [if_pos]
  refine ⟨ks, hperm, fun j hj => ?_, ?_, fun j hj => ?_, ?_⟩
  · simp only [hL_m]
    rw [List.getElem?_set_ne (by omega), q2.old j hj]
  · have := q2.hi
    have := hperm.length_eq
    simp only [hL_next, List.length_set, List.length_map] at *
    omega
  · simp only [hL_next, List.length_set] at hj
    simp only [hL_m]
    rw [List.getElem?_eq_none (by rw [List.length_set]; exact hj)]
    rfl
  · cases o with
    | none =>
      obtain ⟨e, hs⟩ := acc
      exact .inl ⟨e, hs⟩
    | some j =>
      have hj := ho2 j rfl
      subst hj
      obtain ⟨a1, a2, a3⟩ := acc
      refine .inr ⟨fun e => by rw [e] at a1; simp at a1, a2, ?_⟩
      simp only [hL_m]
      rw [List.getElem?_set_ne (by omega), a3]
      rfl
section walks
open Go.RowKit Go.Shelf
theorem ready136 (args : Array Value) (w : World) : (callFunc 136 args).run Tryz.prog w = .ok (.enter 136 args) w := run_callFunc Tryz.func136 rfl (by kernel_rfl) args w
theorem ready110 (args : Array Value) (w : World) : (callFunc 110 args).run Tryz.prog w = .ok (.enter 110 args) w := run_callFunc Tryz.func110 rfl (by kernel_rfl) args w
theorem ready57 (args : Array Value) (w : World) : (callFunc 57 args).run Tryz.prog w = .ok (.enter 57 args) w := run_callFunc Tryz.func57 rfl (by kernel_rfl) args w
theorem collect_walk {v : Value} {w : World} {Post : Value → World → Prop} (h : Calls Tryz.prog 136 #[.slice none 0 0, v] w fun e w' => ∃ r, e = .returned r ∧ Post r w') :
    Calls Tryz.prog 110 #[v] w fun e w' => ∃ r, e = .returned r ∧ Post r w' := by
  have r136 := ready136
  have mixed := Tryz.mixed
  go_enter Tryz.func110, Tryz.ntmps110
  go_wp2_with (go_at_call 136; refine h.mono ?_; rintro e w' ⟨r, rfl, hp⟩)
  go_ret
  exact ⟨r, rfl, hp⟩
theorem sorted_walk {v v2 : Value} {w : World} {Post : Value → World → Prop} {Post2 : Value → World → Prop} (h : Calls Tryz.prog 110 #[v] w fun e w' => ∃ r, e = .returned r ∧ Post r w')
    (hs : ∀ r w', Post r w' → Calls Tryz.prog 57 #[r, v2] w' fun e w'' => (∃ q, e = .returned q) ∧ Post2 r w'') : Calls Tryz.prog 89 #[v, v2] w fun e w' => ∃ r, e = .returned r ∧ Post2 r w' := by
  have r110 := ready110
  have r57 := ready57
  have mixed := Tryz.mixed
  go_enter Tryz.func89, Tryz.ntmps89
  go_wp2_with (first | (go_at_call 110; refine h.mono ?_; rintro e w' ⟨r, rfl, hp⟩) | (go_at_call 57; refine (hs _ _ hp).mono ?_; rintro e w'' ⟨⟨q, rfl⟩, hp2⟩))
  go_ret
  exact ⟨r, rfl, hp2⟩
end walks
abbrev j1 : List Leaf := [.int .i64]
abbrev t1 : List Leaf := [.str]
def low (f : Bool) (x : Fct) : LT FS := (x.1, x.2.1, x.2.2.1, x.2.2.2.1, rowSV f j1 x.2.2.2.2.1, rowSV f t1 x.2.2.2.2.2)
theorem rd_fact {f : Bool} {h : H} {xs : List Fct} {i : Nat} : rdT (.agg FS) h ((rowSV f FC xs).a.add (i * 6)) = (xs[i]?).map (low f) := by
  rw [rds_row (ls := FC) (w := 6) rfl rfl (by omega)]
  cases xs[i]? <;> rfl
theorem row_ints {f : Bool} {h : H} {l : List Int} : rdRow true h j1 ⟨(rowSV f j1 l).a, l.length, l.length, true⟩ = some l := rdRow_args (f := f) rfl
theorem row_texts {f : Bool} {h : H} {l : List ByteArray} : rdRow true h t1 ⟨(rowSV f t1 l).a, l.length, l.length, true⟩ = some l := rdRow_args (f := f) rfl
theorem row_ints' {f : Bool} {h : H} {l : List Int} : rdRow true h j1 (rowSV f j1 l) = some l := rdRow_args rfl
theorem row_texts' {f : Bool} {h : H} {l : List ByteArray} : rdRow true h t1 (rowSV f t1 l) = some l := rdRow_args rfl
theorem res_ints {h : H} {l : List Int} : rdRow false h j1 ⟨(rowSV true j1 l).a, l.length, l.length, true⟩ = some l := rdRow_res (lp := false) rfl
theorem res_texts {h : H} {l : List ByteArray} : rdRow false h t1 ⟨(rowSV true t1 l).a, l.length, l.length, true⟩ = some l := rdRow_res (lp := false) rfl
theorem i64_suc {i : Nat} (h : i < 2 ^ 62) : IntKind.i64.wrap ((i : Int) + 1) = ((i + 1 : Nat) : Int) := i64_succ (by omega)
theorem IndexI_ok {T : Table} {v : V} {h : H} {f : Bool} {xs : List Int} (p : Int → Bool) (hn : xs.length < 2 ^ 62) (hc : ∀ x ∈ xs, ∀ {R : Type} (k : V → H → Option R), callV T.dy v [.int .i64 x] h k = k (.bool (p x)) h) :
    slices_IndexFunc_int_int T (rowSV f j1 xs) v h = some (idxOf p xs, h) := by
  unfold slices_IndexFunc_int_int
  rw [iter_find xs p (fun i => (i : Int)) (by omega) (fun i x hx => by
    have hi := (List.getElem?_eq_some_iff.1 hx).1
    unfold slices_IndexFunc_int_int.loop1
    try simp -implicitDefEqProofs only [rowSV_len, Int.toNat_natCast]
    rw [decide_eq_true (by omega), cond_true, guardO_pos (by omega), rd_row0 (ls := j1) (w := 1) rfl (by omega), hx]
    try simp -implicitDefEqProofs only [Option.bind_some, LT.lo, Leaf.lo, List.getElem?_cons_zero, Leaf.pack, reduceIte]
    rw [hc x (List.mem_of_getElem? hx), i64_suc (by omega)]
    try simp -implicitDefEqProofs only [Res.pack, Ty.pack, Leaf.pack, Option.bind_some]
    cases p x <;> rfl) (by
    unfold slices_IndexFunc_int_int.loop1
    try simp -implicitDefEqProofs only [rowSV_len]
    rw [decide_eq_false (by omega), cond_false])]
  unfold idxOf
  cases xs.findIdx? p <;> rfl
theorem IndexT_ok {T : Table} {v : V} {h : H} {f : Bool} {xs : List ByteArray} (p : ByteArray → Bool) (hn : xs.length < 2 ^ 62) (hc : ∀ x ∈ xs, ∀ {R : Type} (k : V → H → Option R), callV T.dy v [.str x] h k = k (.bool (p x)) h) :
    slices_IndexFunc_string_string T (rowSV f t1 xs) v h = some (idxOf p xs, h) := by
  unfold slices_IndexFunc_string_string
  rw [iter_find xs p (fun i => (i : Int)) (by omega) (fun i x hx => by
    have hi := (List.getElem?_eq_some_iff.1 hx).1
    unfold slices_IndexFunc_string_string.loop1
    try simp -implicitDefEqProofs only [rowSV_len, Int.toNat_natCast]
    rw [decide_eq_true (by omega), cond_true, guardO_pos (by omega), rd_row0 (ls := t1) (w := 1) rfl (by omega), hx]
    try simp -implicitDefEqProofs only [Option.bind_some, LT.lo, Leaf.lo, List.getElem?_cons_zero, Leaf.pack, reduceIte]
    rw [hc x (List.mem_of_getElem? hx), i64_suc (by omega)]
    try simp -implicitDefEqProofs only [Res.pack, Ty.pack, Leaf.pack, Option.bind_some]
    cases p x <;> rfl) (by
    unfold slices_IndexFunc_string_string.loop1
    try simp -implicitDefEqProofs only [rowSV_len]
    rw [decide_eq_false (by omega), cond_false])]
  unfold idxOf
  cases xs.findIdx? p <;> rfl
abbrev argF (f : Bool) (x : Fct) : V := .agg [.int .i64 x.1, .int .i64 x.2.1, .int .i64 x.2.2.1, .int .i64 x.2.2.2.1, .slice (rowSV f j1 x.2.2.2.2.1).a x.2.2.2.2.1.length x.2.2.2.2.1.length true, .slice (rowSV f t1 x.2.2.2.2.2).a x.2.2.2.2.2.length x.2.2.2.2.2.length true]
theorem IndexF_ok {T : Table} {v : V} {h : H} {f : Bool} {xs : List Fct} (p : Fct → Bool) (hn : xs.length < 2 ^ 62) (hc : ∀ x ∈ xs, ∀ {R : Type} (k : V → H → Option R), callV T.dy v [argF f x] h k = k (.bool (p x)) h) :
    slices_IndexFunc_F2 T (rowSV f FC xs) v h = some (idxOf p xs, h) := by
  unfold slices_IndexFunc_F2
  rw [iter_find xs p (fun i => (i : Int)) (by omega) (fun i x hx => by
    have hi := (List.getElem?_eq_some_iff.1 hx).1
    unfold slices_IndexFunc_F2.loop1
    try simp -implicitDefEqProofs only [rowSV_len, Int.toNat_natCast]
    rw [decide_eq_true (by omega), cond_true, guardO_pos (by omega), rd_fact, hx]
    try simp -implicitDefEqProofs only [Option.bind_some, Option.map_some, low, rowSV_len, rowSV_cap, rowSV_tail]
    rw [hc x (List.mem_of_getElem? hx), i64_suc (by omega)]
    try simp -implicitDefEqProofs only [Res.pack, Ty.pack, Leaf.pack, Option.bind_some]
    cases p x <;> rfl) (by
    unfold slices_IndexFunc_F2.loop1
    try simp -implicitDefEqProofs only [rowSV_len]
    rw [decide_eq_false (by omega), cond_false])]
  unfold idxOf
  cases xs.findIdx? p <;> rfl
theorem ContainsI_ok {T : Table} {v : V} {h : H} {f : Bool} {xs : List Int} (p : Int → Bool) (hn : xs.length < 2 ^ 62) (hc : ∀ x ∈ xs, ∀ {R : Type} (k : V → H → Option R), callV T.dy v [.int .i64 x] h k = k (.bool (p x)) h) :
    slices_ContainsFunc_int_int T (rowSV f j1 xs) v h = some (xs.any p, h) := by
  unfold slices_ContainsFunc_int_int
  rw [IndexI_ok (T := slices_ContainsFunc_int_int.tb T) p hn hc]
  simp only [Option.bind_some, idxOf_nonneg]
theorem ContainsT_ok {T : Table} {v : V} {h : H} {f : Bool} {xs : List ByteArray} (p : ByteArray → Bool) (hn : xs.length < 2 ^ 62) (hc : ∀ x ∈ xs, ∀ {R : Type} (k : V → H → Option R), callV T.dy v [.str x] h k = k (.bool (p x)) h) :
    slices_ContainsFunc_string_string T (rowSV f t1 xs) v h = some (xs.any p, h) := by
  unfold slices_ContainsFunc_string_string
  rw [IndexT_ok (T := slices_ContainsFunc_string_string.tb T) p hn hc]
  simp only [Option.bind_some, idxOf_nonneg]
theorem ContainsF_ok {T : Table} {v : V} {h : H} {f : Bool} {xs : List Fct} (p : Fct → Bool) (hn : xs.length < 2 ^ 62) (hc : ∀ x ∈ xs, ∀ {R : Type} (k : V → H → Option R), callV T.dy v [argF f x] h k = k (.bool (p x)) h) :
    slices_ContainsFunc_F2 T (rowSV f FC xs) v h = some (xs.any p, h) := by
  unfold slices_ContainsFunc_F2
  rw [IndexF_ok (T := slices_ContainsFunc_F2.tb T) p hn hc]
  simp only [Option.bind_some, idxOf_nonneg]
def goodB (b : UInt8) : Bool := !(decide ((b.toNat : Int) < 32)) && !(decide ((126 : Int) < (b.toNat : Int)))
def goodS (s : ByteArray) : Bool := s.data.toList.all goodB
def goodT (s : ByteArray) : Bool := !(decide ((64 : Int) < ((ByteArray.size s : Nat) : Int))) && goodS s
theorem byte_at {s : ByteArray} {i : Nat} {b : UInt8} (h : s.data.toList[i]? = some b) : ((((ByteArray.data s)[i]?).map UInt8.toNat).getD 0 : Nat) = b.toNat := by
  rw [Array.getElem?_toList] at h
  rw [h]; rfl
theorem Printable_ok (s : ByteArray) (hs : s.size ≤ 64) : fact_printableP s = some (goodS s) := by
  have hl : s.data.toList.length = s.size := by rw [Array.length_toList]; rfl
  unfold fact_printableP fact_printable
  rw [iter_find s.data.toList (fun b => !goodB b) (fun _ => false) (by omega) (fun i b hb => by
    have hi := (List.getElem?_eq_some_iff.1 hb).1
    unfold fact_printable.loop1
    try simp -implicitDefEqProofs only [Int.toNat_natCast]
    rw [decide_eq_true (by omega), cond_true, guardO_pos (by omega), guardO_pos (by omega), i64_suc (by omega), byte_at hb]
    unfold goodB
    cases decide ((b.toNat : Int) < 32) <;> cases decide ((126 : Int) < (b.toNat : Int)) <;> rfl) (by
    unfold fact_printable.loop1
    try simp -implicitDefEqProofs only []
    rw [hl, decide_eq_false (by omega), cond_false])]
  unfold goodS
  rw [all_find]
  cases s.data.toList.findIdx? fun b => !goodB b <;> rfl
theorem RPrintable_ok (s : ByteArray) (hs : s.size ≤ 64) : r53_printableP s = some (goodS s) := by
  have hl : s.data.toList.length = s.size := by rw [Array.length_toList]; rfl
  unfold r53_printableP r53_printable
  rw [iter_find s.data.toList (fun b => !goodB b) (fun _ => false) (by omega) (fun i b hb => by
    have hi := (List.getElem?_eq_some_iff.1 hb).1
    unfold r53_printable.loop1
    try simp -implicitDefEqProofs only [Int.toNat_natCast]
    rw [decide_eq_true (by omega), cond_true, guardO_pos (by omega), guardO_pos (by omega), i64_suc (by omega), byte_at hb]
    unfold goodB
    cases decide ((b.toNat : Int) < 32) <;> cases decide ((126 : Int) < (b.toNat : Int)) <;> rfl) (by
    unfold r53_printable.loop1
    try simp -implicitDefEqProofs only []
    rw [hl, decide_eq_false (by omega), cond_false])]
  unfold goodS
  rw [all_find]
  cases s.data.toList.findIdx? fun b => !goodB b <;> rfl
def betw (n a b : Int) : Bool := decide (a ≤ n) && decide (n ≤ b)
def goodN (n : Int) : Bool := betw n (-1125899906842624) 1125899906842624
def checkF (f : Fct) : Int :=
  if (decide ((16 : Int) < ((f.2.2.2.2.1.length : Nat) : Int)) || decide ((8 : Int) < ((f.2.2.2.2.2.length : Nat) : Int))) = true then 8
  else if (betw f.1 0 100000 && (betw f.2.1 1 1048576 && (betw f.2.2.1 1 1073741824 && betw f.2.2.2.1 1 99))) = false then 2
  else if (f.2.2.2.2.1.any fun n => !goodN n) = true then 2 else if (f.2.2.2.2.2.any fun s => !goodT s) = true then 4 else 0
theorem Within_ok (n a b : Int) : fact_withinP n a b = some (betw n a b) := by
  unfold fact_withinP fact_within betw
  cases decide (a ≤ n) <;> rfl
theorem Check1_ok (n : Int) : fact_Check_1P n = some (!goodN n) := by
  unfold fact_Check_1P fact_Check_1
  rw [Within_ok]; rfl
theorem Check2_ok (s : ByteArray) : fact_Check_2P s = some (!goodT s) := by
  unfold fact_Check_2P fact_Check_2 goodT
  by_cases h : (64 : Int) < ((ByteArray.size s : Nat) : Int)
  · rw [decide_eq_true h]; rfl
  · rw [decide_eq_false h, Printable_ok s (by omega)]; rfl
theorem Check_ok (x : Fct) : fact_CheckP x = some (checkF x) := by
  obtain ⟨a, b, c, d, e, g⟩ := x
  unfold fact_CheckP fact_Check checkF
  try simp -implicitDefEqProofs only [evs, reduceIte, rdRes, rdTT, rdTy, rdLT, Res.un, TT.un, Ty.un, LT.un, Leaf.un, Leaf.plain, LT.plain, evh, List.replicate, splice, LT.pack, Leaf.pack, Nat.reduceAdd, Nat.reduceSub, Nat.reduceLeDiff, Nat.reduceLT, Nat.reduceEqDiff, LT.lo, Leaf.lo, Within_ok, Option.bind_some]
  by_cases h1 : (16 : Int) < (e.length : Int)
  · simp -implicitDefEqProofs only [decide_eq_true h1, evs, reduceIte, rdRes, rdTT, rdTy, rdLT, Res.un, TT.un, Ty.un, LT.un, Leaf.un, Leaf.plain, LT.plain, evh, List.replicate, splice, LT.pack, Leaf.pack, Nat.reduceAdd, Nat.reduceSub, Nat.reduceLeDiff, Nat.reduceLT, Nat.reduceEqDiff, LT.lo, Leaf.lo, Bool.not_true, cond_false, cond_true, Bool.true_or, reduceIte, Option.bind_some]
  by_cases h2 : (8 : Int) < (g.length : Int)
  · simp -implicitDefEqProofs only [decide_eq_false h1, decide_eq_true h2, evs, reduceIte, rdRes, rdTT, rdTy, rdLT, Res.un, TT.un, Ty.un, LT.un, Leaf.un, Leaf.plain, LT.plain, evh, List.replicate, splice, LT.pack, Leaf.pack, Nat.reduceAdd, Nat.reduceSub, Nat.reduceLeDiff, Nat.reduceLT, Nat.reduceEqDiff, LT.lo, Leaf.lo, Bool.not_false, cond_true, Bool.or_true, reduceIte, Option.bind_some]
  cases hb1 : betw a 0 100000
  · simp -implicitDefEqProofs only [decide_eq_false h1, decide_eq_false h2, hb1, evs, reduceIte, rdRes, rdTT, rdTy, rdLT, Res.un, TT.un, Ty.un, LT.un, Leaf.un, Leaf.plain, LT.plain, evh, List.replicate, splice, LT.pack, Leaf.pack, Nat.reduceAdd, Nat.reduceSub, Nat.reduceLeDiff, Nat.reduceLT, Nat.reduceEqDiff, LT.lo, Leaf.lo, Bool.not_false, Bool.not_true, cond_true, cond_false, Bool.or_false, Option.bind_some, Bool.false_and, Bool.false_eq_true, reduceIte]
  cases hb2 : betw b 1 1048576
  · simp -implicitDefEqProofs only [decide_eq_false h1, decide_eq_false h2, hb1, hb2, evs, reduceIte, rdRes, rdTT, rdTy, rdLT, Res.un, TT.un, Ty.un, LT.un, Leaf.un, Leaf.plain, LT.plain, evh, List.replicate, splice, LT.pack, Leaf.pack, Nat.reduceAdd, Nat.reduceSub, Nat.reduceLeDiff, Nat.reduceLT, Nat.reduceEqDiff, LT.lo, Leaf.lo, Bool.not_false, Bool.not_true, cond_true, cond_false, Bool.or_false, Option.bind_some, Bool.false_and, Bool.and_false, Bool.false_eq_true, reduceIte]
  cases hb3 : betw c 1 1073741824
  · simp -implicitDefEqProofs only [decide_eq_false h1, decide_eq_false h2, hb1, hb2, hb3, evs, reduceIte, rdRes, rdTT, rdTy, rdLT, Res.un, TT.un, Ty.un, LT.un, Leaf.un, Leaf.plain, LT.plain, evh, List.replicate, splice, LT.pack, Leaf.pack, Nat.reduceAdd, Nat.reduceSub, Nat.reduceLeDiff, Nat.reduceLT, Nat.reduceEqDiff, LT.lo, Leaf.lo, Bool.not_false, Bool.not_true, cond_true, cond_false, Bool.or_false, Option.bind_some, Bool.false_and, Bool.and_false, Bool.false_eq_true, reduceIte]
  cases hb4 : betw d 1 99
  · simp -implicitDefEqProofs only [decide_eq_false h1, decide_eq_false h2, hb1, hb2, hb3, hb4, evs, reduceIte, rdRes, rdTT, rdTy, rdLT, Res.un, TT.un, Ty.un, LT.un, Leaf.un, Leaf.plain, LT.plain, evh, List.replicate, splice, LT.pack, Leaf.pack, Nat.reduceAdd, Nat.reduceSub, Nat.reduceLeDiff, Nat.reduceLT, Nat.reduceEqDiff, LT.lo, Leaf.lo, Bool.not_false, Bool.not_true, cond_true, cond_false, Bool.or_false, Option.bind_some, Bool.false_and, Bool.and_false, Bool.false_eq_true, reduceIte]
  try simp -implicitDefEqProofs only [decide_eq_false h1, decide_eq_false h2, hb1, hb2, hb3, hb4, evs, reduceIte, rdRes, rdTT, rdTy, rdLT, Res.un, TT.un, Ty.un, LT.un, Leaf.un, Leaf.plain, LT.plain, evh, List.replicate, splice, LT.pack, Leaf.pack, Nat.reduceAdd, Nat.reduceSub, Nat.reduceLeDiff, Nat.reduceLT, Nat.reduceEqDiff, LT.lo, Leaf.lo, Bool.not_false, Bool.not_true, cond_true, cond_false, Bool.or_false, Option.bind_some, Bool.and_self, Bool.true_eq_false, Bool.false_eq_true, reduceIte]
  have k1 : ∀ h, slices_ContainsFunc_int_int fact_Check.tb ⟨(rowSV false j1 e).a, e.length, e.length, true⟩ (.func 100 []) h = some (e.any (fun n => !goodN n), h) := fun h =>
    ContainsI_ok (f := false) (fun n => !goodN n) (by omega) fun x _ R k => by
      show (fact_Check_1P x).bind (fun r => k ((Res.one (.leaf .bool)).lo true r) _) = _
      rw [Check1_ok]; rfl
  have k2 : ∀ h, slices_ContainsFunc_string_string fact_Check.tb ⟨(rowSV false t1 g).a, g.length, g.length, true⟩ (.func 102 []) h = some (g.any (fun n => !goodT n), h) := fun h =>
    ContainsT_ok (f := false) (fun n => !goodT n) (by omega) fun x _ R k => by
      show (fact_Check_2P x).bind (fun r => k ((Res.one (.leaf .bool)).lo true r) _) = _
      rw [Check2_ok]; rfl
  rw [k1, Option.bind_some]
  cases e.any fun n => !goodN n
  · simp -implicitDefEqProofs only [evs, reduceIte, rdRes, rdTT, rdTy, rdLT, Res.un, TT.un, Ty.un, LT.un, Leaf.un, Leaf.plain, LT.plain, evh, List.replicate, splice, LT.pack, Leaf.pack, Nat.reduceAdd, Nat.reduceSub, Nat.reduceLeDiff, Nat.reduceLT, Nat.reduceEqDiff, LT.lo, Leaf.lo, cond_false, k2, Option.bind_some, Bool.false_eq_true, reduceIte]
    cases g.any fun n => !goodT n <;> rfl
  · rfl
theorem Check88_ok (x : Fct) : arrival_check_1P x = some (!(decide (checkF x = 0))) := by
  obtain ⟨a, b, c, d, e, g⟩ := x
  unfold arrival_check_1P arrival_check_1
  try simp -implicitDefEqProofs only [evs, reduceIte, rdRes, rdTT, rdTy, rdLT, Res.un, TT.un, Ty.un, LT.un, Leaf.un, Leaf.plain, LT.plain, evh, List.replicate, splice, LT.pack, Leaf.pack, Nat.reduceAdd, Nat.reduceSub, Nat.reduceLeDiff, Nat.reduceLT, Nat.reduceEqDiff, LT.lo, Leaf.lo, row_ints, row_texts, Check_ok, Option.bind_some]
def checkL (l : List Fct) : Int := if (1024 : Int) < (l.length : Int) then 8 else if (l.any fun f => !(decide (checkF f = 0))) = true then 1 else 0
theorem checkP_ok (l : List Fct) : arrival_checkP l = some (checkL l) := by
  unfold arrival_checkP arrival_check checkL
  try simp -implicitDefEqProofs only [evs, reduceIte, rdRes, rdTT, rdTy, rdLT, Res.un, TT.un, Ty.un, LT.un, Leaf.un, Leaf.plain, LT.plain, rowSV_len]
  by_cases h1 : (1024 : Int) < (l.length : Int)
  · rw [decide_eq_true h1, if_pos h1]; rfl
  · rw [decide_eq_false h1, if_neg h1, cond_false]
    have k1 : slices_ContainsFunc_F2 arrival_check.tb (rowSV false FC l) (.func 88 []) H.empty = some (l.any (fun f => !(decide (checkF f = 0))), H.empty) :=
      ContainsF_ok (fun f => !(decide (checkF f = 0))) (by omega) fun x _ R k => by
        show (rdTTK true H.empty [.agg FC] [argF false x] fun y => (arrival_check_1P y).bind fun r => k ((Res.one (.leaf .bool)).lo true r) H.empty) = _
        rw [rdTTK_bind]
        have : rdTT true H.empty [.agg FC] [argF false x] = some x := rdLT_lo (lp := true) (f := false) (h := H.empty) rfl FC x rfl
        rw [this, Option.bind_some, Check88_ok]
        rfl
    rw [k1, Option.bind_some]
    simp only
    cases l.any fun f => !(decide (checkF f = 0)) <;> rfl
theorem Between_ok (n a b : Int) : r53_betweenP n a b = some (betw n a b) := by
  unfold r53_betweenP r53_between spileref47_BetweenP spileref47_Between betw
  cases decide (a ≤ n) <;> rfl
abbrev cFt (f : Bool) (x : Fct) : Slot := .own [.int .i64 x.1, .int .i64 x.2.1, .int .i64 x.2.2.1, .int .i64 x.2.2.2.1, .slice (rowSV f j1 x.2.2.2.2.1).a x.2.2.2.2.1.length x.2.2.2.2.1.length true, .slice (rowSV f t1 x.2.2.2.2.2).a x.2.2.2.2.2.length x.2.2.2.2.2.length true] 6
theorem rd_cFt {f : Bool} {sl : List Slot} {id : Nat} {x : Fct} (h : sl[id]? = some (cFt f x)) :
    rdT (.leaf (.int .i64)) (hL sl) (.hp id 6 0) = some x.1 ∧ rdT (.leaf (.int .i64)) (hL sl) (.hp id 6 1) = some x.2.1 ∧ rdT (.leaf (.int .i64)) (hL sl) (.hp id 6 2) = some x.2.2.1 ∧ rdT (.leaf (.int .i64)) (hL sl) (.hp id 6 3) = some x.2.2.2.1 ∧
    rdT (.leaf .slice) (hL sl) (.hp id 6 4) = some (rowSV f j1 x.2.2.2.2.1) ∧ rdT (.leaf .slice) (hL sl) (.hp id 6 5) = some (rowSV f t1 x.2.2.2.2.2) := by
  refine ⟨?_, ?_, ?_, ?_, ?_, ?_⟩ <;> (rw [rd_own (g := 6) h rfl]; rfl)
theorem rds_cFt {f : Bool} {sl : List Slot} {id : Nat} {x : Fct} (h : sl[id]? = some (cFt f x)) :
    rdT (.agg FS) (hL sl) (.hp id 6 0) = some (low f x) ∧ rdT (.agg [.int .i64, .int .i64, .int .i64]) (hL sl) (.hp id 6 0) = some (keyF x) := by
  constructor <;> (rw [rds_hp (by simp), hL_m, h]; rfl)
theorem RCheck1_ok {sl : List Slot} {x : Fct} {f : Bool} (h : sl[0]? = some (cFt f x)) (hn : x.2.2.2.2.1.length < 2 ^ 62) :
    iter FUEL (r53_Check.loop1 (hL [])) (0, hL sl) = some (if (x.2.2.2.2.1.any fun n => !goodN n) = true then (.ret 2, hL sl) else (.ex0 (), hL sl)) := by
  obtain ⟨_, _, _, _, q4, _⟩ := rd_cFt h
  rw [iter_find x.2.2.2.2.1 (fun n => !goodN n) (fun _ => (2 : Int)) (by omega) (fun i y hy => by
    have hi := (List.getElem?_eq_some_iff.1 hy).1
    unfold r53_Check.loop1
    simp only [show (hL []).next = 0 from rfl]
    rw [q4]
    try simp -implicitDefEqProofs only [Option.bind_some, rowSV_len, Int.toNat_natCast]
    rw [decide_eq_true (by omega), cond_true, guardO_pos (by omega), rd_row0 (ls := j1) (w := 1) rfl (by omega), hy]
    try simp -implicitDefEqProofs only [Option.bind_some, LT.lo, Leaf.lo, List.getElem?_cons_zero, Leaf.pack, reduceIte, Between_ok]
    rw [i64_suc (by omega)]
    unfold goodN
    cases betw y (-1125899906842624) 1125899906842624 <;> rfl) (by
    unfold r53_Check.loop1
    simp only [show (hL []).next = 0 from rfl]
    rw [q4]
    try simp -implicitDefEqProofs only [Option.bind_some, rowSV_len]
    rw [decide_eq_false (by omega), cond_false])]
  have hall := all_find (fun n => goodN n) x.2.2.2.2.1
  cases hx : x.2.2.2.2.1.findIdx? fun n => !goodN n with
  | none =>
    rw [List.findIdx?_eq_none_iff] at hx
    rw [if_neg (by rw [Bool.not_eq_true, List.any_eq_false]; intro y hy; simp [hx y hy])]
  | some m =>
    rw [List.findIdx?_eq_some_iff_getElem] at hx
    obtain ⟨hm, hp, _⟩ := hx
    rw [if_pos (List.any_eq_true.2 ⟨_, List.getElem_mem hm, hp⟩)]
theorem RCheck2_ok {sl : List Slot} {x : Fct} {f : Bool} (h : sl[0]? = some (cFt f x)) (hn : x.2.2.2.2.2.length < 2 ^ 62) :
    iter FUEL (r53_Check.loop2 (hL [])) (0, hL sl) = some (if (x.2.2.2.2.2.any fun n => !goodT n) = true then (.ret 4, hL sl) else (.ex0 (), hL sl)) := by
  obtain ⟨_, _, _, _, _, q5⟩ := rd_cFt h
  rw [iter_find x.2.2.2.2.2 (fun n => !goodT n) (fun _ => (4 : Int)) (by omega) (fun i y hy => by
    have hi := (List.getElem?_eq_some_iff.1 hy).1
    unfold r53_Check.loop2
    simp only [show (hL []).next = 0 from rfl]
    rw [q5]
    try simp -implicitDefEqProofs only [Option.bind_some, rowSV_len, Int.toNat_natCast]
    rw [decide_eq_true (by omega), cond_true, guardO_pos (by omega), rd_row0 (ls := t1) (w := 1) rfl (by omega), hy]
    try simp -implicitDefEqProofs only [Option.bind_some, LT.lo, Leaf.lo, List.getElem?_cons_zero, Leaf.pack, reduceIte]
    rw [i64_suc (by omega)]
    unfold goodT
    by_cases hs : (64 : Int) < ((ByteArray.size y : Nat) : Int)
    · rw [decide_eq_true hs]; rfl
    · rw [decide_eq_false hs, guardO_pos (by omega), RPrintable_ok y (by omega)]
      cases goodS y <;> rfl) (by
    unfold r53_Check.loop2
    simp only [show (hL []).next = 0 from rfl]
    rw [q5]
    try simp -implicitDefEqProofs only [Option.bind_some, rowSV_len]
    rw [decide_eq_false (by omega), cond_false])]
  cases hx : x.2.2.2.2.2.findIdx? fun n => !goodT n with
  | none =>
    rw [List.findIdx?_eq_none_iff] at hx
    rw [if_neg (by rw [Bool.not_eq_true, List.any_eq_false]; intro y hy; simp [hx y hy])]
  | some m =>
    rw [List.findIdx?_eq_some_iff_getElem] at hx
    obtain ⟨hm, hp, _⟩ := hx
    rw [if_pos (List.any_eq_true.2 ⟨_, List.getElem_mem hm, hp⟩)]
theorem RCheck_ok (x : Fct) : r53_CheckP x = some (checkF x) := by
  have L1 := fun (h1 : x.2.2.2.2.1.length < 2 ^ 62) => RCheck1_ok (sl := [cFt false x]) (f := false) (x := x) rfl h1
  have L2 := fun (h1 : x.2.2.2.2.2.length < 2 ^ 62) => RCheck2_ok (sl := [cFt false x]) (f := false) (x := x) rfl h1
  obtain ⟨a, b, c, d, e, g⟩ := x
  simp only at L1 L2
  unfold r53_CheckP r53_Check checkF
  try simp -implicitDefEqProofs only [evs, reduceIte, rdRes, rdTT, rdTy, rdLT, Res.un, TT.un, Ty.un, LT.un, Leaf.un, Leaf.plain, LT.plain, evh, List.replicate, splice, LT.pack, Leaf.pack, Nat.reduceAdd, Nat.reduceSub, Nat.reduceLeDiff, Nat.reduceLT, Nat.reduceEqDiff, LT.lo, Leaf.lo, Between_ok, Option.bind_some]
  by_cases h1 : (16 : Int) < (e.length : Int)
  · simp -implicitDefEqProofs only [decide_eq_true h1, evs, reduceIte, rdRes, rdTT, rdTy, rdLT, Res.un, TT.un, Ty.un, LT.un, Leaf.un, Leaf.plain, LT.plain, evh, List.replicate, splice, LT.pack, Leaf.pack, Nat.reduceAdd, Nat.reduceSub, Nat.reduceLeDiff, Nat.reduceLT, Nat.reduceEqDiff, LT.lo, Leaf.lo, Bool.not_true, cond_false, cond_true, Bool.true_or, reduceIte, Option.bind_some]
  by_cases h2 : (8 : Int) < (g.length : Int)
  · simp -implicitDefEqProofs only [decide_eq_false h1, decide_eq_true h2, evs, reduceIte, rdRes, rdTT, rdTy, rdLT, Res.un, TT.un, Ty.un, LT.un, Leaf.un, Leaf.plain, LT.plain, evh, List.replicate, splice, LT.pack, Leaf.pack, Nat.reduceAdd, Nat.reduceSub, Nat.reduceLeDiff, Nat.reduceLT, Nat.reduceEqDiff, LT.lo, Leaf.lo, Bool.not_false, cond_true, Bool.or_true, reduceIte, Option.bind_some]
  cases hb1 : betw a 0 100000
  · simp -implicitDefEqProofs only [decide_eq_false h1, decide_eq_false h2, hb1, evs, reduceIte, rdRes, rdTT, rdTy, rdLT, Res.un, TT.un, Ty.un, LT.un, Leaf.un, Leaf.plain, LT.plain, evh, List.replicate, splice, LT.pack, Leaf.pack, Nat.reduceAdd, Nat.reduceSub, Nat.reduceLeDiff, Nat.reduceLT, Nat.reduceEqDiff, LT.lo, Leaf.lo, Bool.not_false, Bool.not_true, cond_true, cond_false, Bool.or_false, Option.bind_some, Bool.false_and, Bool.false_eq_true, reduceIte]
  cases hb2 : betw b 1 1048576
  · simp -implicitDefEqProofs only [decide_eq_false h1, decide_eq_false h2, hb1, hb2, evs, reduceIte, rdRes, rdTT, rdTy, rdLT, Res.un, TT.un, Ty.un, LT.un, Leaf.un, Leaf.plain, LT.plain, evh, List.replicate, splice, LT.pack, Leaf.pack, Nat.reduceAdd, Nat.reduceSub, Nat.reduceLeDiff, Nat.reduceLT, Nat.reduceEqDiff, LT.lo, Leaf.lo, Bool.not_false, Bool.not_true, cond_true, cond_false, Bool.or_false, Option.bind_some, Bool.false_and, Bool.and_false, Bool.false_eq_true, reduceIte]
  cases hb3 : betw c 1 1073741824
  · simp -implicitDefEqProofs only [decide_eq_false h1, decide_eq_false h2, hb1, hb2, hb3, evs, reduceIte, rdRes, rdTT, rdTy, rdLT, Res.un, TT.un, Ty.un, LT.un, Leaf.un, Leaf.plain, LT.plain, evh, List.replicate, splice, LT.pack, Leaf.pack, Nat.reduceAdd, Nat.reduceSub, Nat.reduceLeDiff, Nat.reduceLT, Nat.reduceEqDiff, LT.lo, Leaf.lo, Bool.not_false, Bool.not_true, cond_true, cond_false, Bool.or_false, Option.bind_some, Bool.false_and, Bool.and_false, Bool.false_eq_true, reduceIte]
  cases hb4 : betw d 1 99
  · simp -implicitDefEqProofs only [decide_eq_false h1, decide_eq_false h2, hb1, hb2, hb3, hb4, evs, reduceIte, rdRes, rdTT, rdTy, rdLT, Res.un, TT.un, Ty.un, LT.un, Leaf.un, Leaf.plain, LT.plain, evh, List.replicate, splice, LT.pack, Leaf.pack, Nat.reduceAdd, Nat.reduceSub, Nat.reduceLeDiff, Nat.reduceLT, Nat.reduceEqDiff, LT.lo, Leaf.lo, Bool.not_false, Bool.not_true, cond_true, cond_false, Bool.or_false, Option.bind_some, Bool.false_and, Bool.and_false, Bool.false_eq_true, reduceIte]
  try simp -implicitDefEqProofs only [decide_eq_false h1, decide_eq_false h2, hb1, hb2, hb3, hb4, evs, reduceIte, rdRes, rdTT, rdTy, rdLT, Res.un, TT.un, Ty.un, LT.un, Leaf.un, Leaf.plain, LT.plain, evh, List.replicate, splice, LT.pack, Leaf.pack, Nat.reduceAdd, Nat.reduceSub, Nat.reduceLeDiff, Nat.reduceLT, Nat.reduceEqDiff, LT.lo, Leaf.lo, Bool.not_false, Bool.not_true, cond_true, cond_false, Bool.or_false, Option.bind_some, Bool.and_self, Bool.true_eq_false, Bool.false_eq_true, reduceIte]
  have M1 := L1 (by omega)
  have M2 := L2 (by omega)
  simp only [cFt] at M1 M2
  rw [M1]
  cases e.any fun n => !goodN n
  · rw [if_neg (by simp), Option.bind_some]
    simp only
    rw [M2]
    cases g.any fun n => !goodT n <;> rfl
  · rfl
theorem RcheckL_ok (l : List Fct) : r54_CheckP l = some (checkL l) := by
  unfold r54_CheckP r54_Check checkL
  try simp -implicitDefEqProofs only [evs, reduceIte, rdRes, rdTT, rdTy, rdLT, Res.un, TT.un, Ty.un, LT.un, Leaf.un, Leaf.plain, LT.plain, rowSV_len]
  by_cases h1 : (1024 : Int) < (l.length : Int)
  · rw [decide_eq_true h1, if_pos h1]; rfl
  · rw [decide_eq_false h1, if_neg h1, cond_false]
    rw [iter_find l (fun f => !(decide (checkF f = 0))) (fun _ => (1 : Int)) (by omega) (fun i x hx => by
      have hi := (List.getElem?_eq_some_iff.1 hx).1
      unfold r54_Check.loop1
      try simp -implicitDefEqProofs only [rowSV_len, Int.toNat_natCast]
      rw [decide_eq_true (by omega), cond_true, guardO_pos (by omega), rd_fact, hx]
      try simp -implicitDefEqProofs only [Option.bind_some, Option.map_some, low, row_ints', row_texts', RCheck_ok]
      rw [i64_suc (by omega)]
      cases decide (checkF x = 0) <;> rfl) (by
      unfold r54_Check.loop1
      try simp -implicitDefEqProofs only [rowSV_len]
      rw [decide_eq_false (by omega), cond_false])]
    cases hx : l.findIdx? fun f => !(decide (checkF f = 0)) with
    | none =>
      rw [List.findIdx?_eq_none_iff] at hx
      rw [if_neg (by rw [Bool.not_eq_true, List.any_eq_false]; intro y hy; simp [hx y hy])]
      rfl
    | some m =>
      rw [List.findIdx?_eq_some_iff_getElem] at hx
      obtain ⟨hm, hp, _⟩ := hx
      rw [if_pos (List.any_eq_true.2 ⟨_, List.getElem_mem hm, hp⟩)]
      rfl
theorem rdRow_sub {lp f : Bool} {h : H} {ls : List Leaf} {xs : List (LT ls)} {i n w c : Nat} {t : Bool} (hw : ls.length = w) (hp : Leaf.plain (.row ls) = true) (hb : (lp || f) = true) (hin : i + n ≤ xs.length) :
    rdRow lp h ls ⟨(rowSV f ls xs).a.add (i * w), n, c, t⟩ = some ((xs.drop i).take n) := by
  subst hw
  have key := rdLeaf_lo (lp := lp) (f := f) (h := h) hb (.row ls) ((xs.drop i).take n) hp
  have hlen : ((xs.drop i).take n).length = n := by rw [List.length_take, List.length_drop]; omega
  by_cases hn : n = 0
  · subst hn
    rw [List.take_zero]
    exact rdRow_nil
  · rw [← key]
    unfold rdRow
    simp only [Leaf.lo, rdLeaf, hlen, if_neg hn]
    have h1 : h.rds ((rowSV f ls xs).a.add (i * ls.length)) (n * ls.length) = h.rds (.lp f (((xs.drop i).take n).flatMap fun x => LT.lo f ls x) 0) (n * ls.length) := by
      have h2 : ∀ (cs : List V), h.from (.lp f cs 0) = some cs := fun cs => by simp only [H.from, List.drop_zero]
      have hfl : (((xs.drop i).take n).flatMap fun x => LT.lo f ls x) = ((xs.drop i).flatMap fun x => LT.lo f ls x).take (n * ls.length) := by
        have h2 := congrArg (fun l => l.flatMap fun x => LT.lo f ls x) (List.take_append_drop n (xs.drop i))
        simp only [List.flatMap_append] at h2
        rw [← h2, List.take_left']
        rw [flat_length, hlen]
      unfold H.rds
      rw [from_row, h2]
      simp only [Option.bind_some, flat_drop]
      have l1 := flat_length (f := f) (xs.drop i)
      have l2 := flat_length (f := f) ((xs.drop i).take n)
      rw [hlen] at l2
      rw [l1, l2, List.take_of_length_le (l := ((xs.drop i).take n).flatMap fun x => LT.lo f ls x) (by rw [l2]; exact Nat.le_refl _), hfl]
      have hle : n * ls.length ≤ (xs.drop i).length * ls.length := Nat.mul_le_mul_right _ (by rw [List.length_drop]; omega)
      by_cases h0 : n * ls.length ≠ 0
      · rw [if_pos ⟨hle, h0⟩, if_pos ⟨Nat.le_refl _, h0⟩]
      · rw [if_neg (fun h => h0 h.2), if_neg (fun h => h0 h.2)]
    rw [h1]
    rfl
theorem sub_ints {f t : Bool} {h : H} {l : List Int} {c : Nat} (k : Nat) (hk : k ≤ l.length) : rdRow true h j1 ⟨V.add (rowSV f j1 l).a (k * 1), l.length - k, c, t⟩ = some (l.drop k) := by
  rw [rdRow_sub (w := 1) rfl rfl rfl (by omega), List.take_of_length_le (by rw [List.length_drop]; exact Nat.le_refl _)]
theorem int_at {f : Bool} {h : H} {l : List Int} {i : Nat} : rdT (.leaf (.int .i64)) h (V.add (rowSV f j1 l).a i) = l[i]? := by
  have := rd_row0 (f := f) (h := h) (ls := j1) (xs := l) (l := .int .i64) (i := i) (w := 1) rfl (by omega)
  rw [Nat.mul_one] at this
  rw [this]
  cases l[i]? <;> rfl
theorem apart_row {f : Bool} {ls : List Leaf} {xs : List (LT ls)} {n i g o : Nat} : apartA (V.add (rowSV f ls xs).a n) (.hp i g o) = true := rfl
theorem apart_hp {g g' o o' : Nat} : apartA (.hp 0 g o) (.hp 2 g' o') = true := rfl
theorem V_add0 (a : V) : V.add a 0 = a := by cases a <;> rfl
def corrects (x : Fct) : Bool := decide (x.2.2.2.1 = 90) || decide (x.2.2.2.1 = 91)
theorem Corrects_ok (x : Fct) : arrival_correctsP x = some (corrects x) := by
  obtain ⟨a, b, c, d, e, g⟩ := x
  unfold arrival_correctsP arrival_corrects corrects
  try simp -implicitDefEqProofs only [evs, reduceIte, rdRes, rdTT, rdTy, rdLT, Res.un, TT.un, Ty.un, LT.un, Leaf.un, Leaf.plain, LT.plain, evh, List.replicate, splice, LT.pack, Leaf.pack, Nat.reduceAdd, Nat.reduceSub, Nat.reduceLeDiff, Nat.reduceLT, Nat.reduceEqDiff, LT.lo, Leaf.lo, Option.bind_some]
  cases decide (d = 90)
  · simp -implicitDefEqProofs only [evs, reduceIte, rdRes, rdTT, rdTy, rdLT, Res.un, TT.un, Ty.un, LT.un, Leaf.un, Leaf.plain, LT.plain, evh, List.replicate, splice, LT.pack, Leaf.pack, Nat.reduceAdd, Nat.reduceSub, Nat.reduceLeDiff, Nat.reduceLT, Nat.reduceEqDiff, LT.lo, Leaf.lo, Bool.not_false, cond_true, Option.bind_some, Bool.false_or]
  · rfl
theorem RCorrects_ok (x : Fct) : r54_CorrectsP x = some (corrects x) := by
  obtain ⟨a, b, c, d, e, g⟩ := x
  unfold r54_CorrectsP r54_Corrects corrects
  try simp -implicitDefEqProofs only [evs, reduceIte, rdRes, rdTT, rdTy, rdLT, Res.un, TT.un, Ty.un, LT.un, Leaf.un, Leaf.plain, LT.plain, evh, List.replicate, splice, LT.pack, Leaf.pack, Nat.reduceAdd, Nat.reduceSub, Nat.reduceLeDiff, Nat.reduceLT, Nat.reduceEqDiff, LT.lo, Leaf.lo, Option.bind_some]
  cases decide (d = 90)
  · simp -implicitDefEqProofs only [evs, reduceIte, rdRes, rdTT, rdTy, rdLT, Res.un, TT.un, Ty.un, LT.un, Leaf.un, Leaf.plain, LT.plain, evh, List.replicate, splice, LT.pack, Leaf.pack, Nat.reduceAdd, Nat.reduceSub, Nat.reduceLeDiff, Nat.reduceLT, Nat.reduceEqDiff, LT.lo, Leaf.lo, Bool.not_false, cond_true, Option.bind_some, Bool.false_or]
  · rfl
def zeroF : Fct := (0, 0, 0, 0, [], [])
def outF (x : Fct) : Fct :=
  if x.2.2.2.1 = 91 then (x.2.2.2.2.1.getD 0 0, x.2.2.2.2.1.getD 1 0, x.2.2.2.2.1.getD 2 0, 1, [], [])
  else (x.2.2.2.2.1.getD 0 0, x.2.2.2.2.1.getD 1 0, x.2.2.2.2.1.getD 2 0, x.2.2.2.2.1.getD 3 0, x.2.2.2.2.1.drop 4, x.2.2.2.2.2)
def formed (x : Fct) : Bool := if x.2.2.2.1 = 91 then decide ((x.2.2.2.2.1.length : Int) = 3) && !decide ((0 : Int) < (x.2.2.2.2.2.length : Int)) else !decide ((x.2.2.2.2.1.length : Int) < 4)
def targetF (x : Fct) : Fct × Bool := if formed x = true then (outF x, decide (checkF (outF x) = 0) && !corrects (outF x)) else (zeroF, false)
theorem Target_ok (x : Fct) (he : x.2.2.2.2.1.length ≤ 2 ^ 20) (hg : x.2.2.2.2.2.length ≤ 2 ^ 20) : arrival_targetP x = some (targetF x) := by
  obtain ⟨a, b, c, d, e, g⟩ := x
  simp only at he hg
  unfold arrival_targetP arrival_target targetF formed
  try simp -implicitDefEqProofs only [evs, reduceIte, rdRes, rdTT, rdTy, rdLT, Res.un, TT.un, Ty.un, LT.un, Leaf.un, Leaf.plain, LT.plain, evh, List.replicate, splice, LT.pack, Leaf.pack, Nat.reduceAdd, Nat.reduceSub, Nat.reduceLeDiff, Nat.reduceLT, Nat.reduceEqDiff, LT.lo, Leaf.lo, Option.bind_some]
  by_cases h91 : d = 91
  · subst h91
    by_cases h3 : (e.length : Int) = 3
    · by_cases h0 : (0 : Int) < (g.length : Int)
      · simp -implicitDefEqProofs only [evs, reduceIte, rdRes, rdTT, rdTy, rdLT, Res.un, TT.un, Ty.un, LT.un, Leaf.un, Leaf.plain, LT.plain, evh, List.replicate, splice, LT.pack, Leaf.pack, Nat.reduceAdd, Nat.reduceSub, Nat.reduceLeDiff, Nat.reduceLT, Nat.reduceEqDiff, LT.lo, Leaf.lo, decide_true, decide_eq_true h3, decide_eq_true h0, Bool.not_true, Bool.not_false, cond_true, cond_false, Option.bind_some, Bool.and_false, Bool.and_true, Bool.false_eq_true, reduceIte, rdRow_nil, zeroF]
      · match e, h3 with
        | [n0, n1, n2], _ =>
          have hg0 : g = [] := List.eq_nil_of_length_eq_zero (by omega)
          subst hg0
          have C := Check_ok (n0, n1, n2, 1, [], [])
          have K := Corrects_ok (n0, n1, n2, 1, [], [])
          try simp -implicitDefEqProofs only [evs, reduceIte, rdRes, rdTT, rdTy, rdLT, Res.un, TT.un, Ty.un, LT.un, Leaf.un, Leaf.plain, LT.plain, evh, List.replicate, splice, LT.pack, Leaf.pack, Nat.reduceAdd, Nat.reduceSub, Nat.reduceLeDiff, Nat.reduceLT, Nat.reduceEqDiff, LT.lo, Leaf.lo, decide_true, List.length_cons, List.length_nil, Int.cast_ofNat_Int, Int.reduceLT, Int.reduceLE, Int.reduceEq, decide_true, decide_false, true_and, and_self, guardO_true, Bool.not_true, Bool.not_false, Bool.and_self, cond_true, cond_false, Option.bind_some, int_at, apart_row, rdRow_nil, eq_self, C, K]
          try simp -implicitDefEqProofs only [outF, List.getD_cons_zero, List.getD_cons_succ]
          cases hc : decide (checkF (n0, n1, n2, 1, [], []) = 0) <;> simp -implicitDefEqProofs only [evs, reduceIte, rdRes, rdTT, rdTy, rdLT, Res.un, TT.un, Ty.un, LT.un, Leaf.un, Leaf.plain, LT.plain, evh, List.replicate, splice, LT.pack, Leaf.pack, Nat.reduceAdd, Nat.reduceSub, Nat.reduceLeDiff, Nat.reduceLT, Nat.reduceEqDiff, LT.lo, Leaf.lo, cond_true, cond_false, Option.bind_some, rdRow_nil, Bool.false_and, Bool.true_and, hc, C, K]
        | [], h => simp at h
        | [_], h => simp at h
        | [_, _], h => simp at h
        | _ :: _ :: _ :: _ :: _, h => simp at h; omega
    · simp -implicitDefEqProofs only [evs, reduceIte, rdRes, rdTT, rdTy, rdLT, Res.un, TT.un, Ty.un, LT.un, Leaf.un, Leaf.plain, LT.plain, evh, List.replicate, splice, LT.pack, Leaf.pack, Nat.reduceAdd, Nat.reduceSub, Nat.reduceLeDiff, Nat.reduceLT, Nat.reduceEqDiff, LT.lo, Leaf.lo, decide_true, decide_eq_false h3, Bool.not_true, Bool.not_false, cond_true, cond_false, Option.bind_some, Bool.false_and, Bool.false_eq_true, reduceIte, rdRow_nil, zeroF]
  · by_cases h4 : (e.length : Int) < 4
    · simp -implicitDefEqProofs only [evs, reduceIte, rdRes, rdTT, rdTy, rdLT, Res.un, TT.un, Ty.un, LT.un, Leaf.un, Leaf.plain, LT.plain, evh, List.replicate, splice, LT.pack, Leaf.pack, Nat.reduceAdd, Nat.reduceSub, Nat.reduceLeDiff, Nat.reduceLT, Nat.reduceEqDiff, LT.lo, Leaf.lo, decide_eq_false h91, decide_eq_true h4, if_neg h91, Bool.not_true, Bool.not_false, cond_true, cond_false, Option.bind_some, Bool.and_false, Bool.and_true, Bool.false_eq_true, reduceIte, rdRow_nil, zeroF]
    · match e, h4 with
      | n0 :: n1 :: n2 :: n3 :: r, _ =>
        simp only [List.length_cons] at he
        have C := Check_ok (n0, n1, n2, n3, r, g)
        have K := Corrects_ok (n0, n1, n2, n3, r, g)
        have S : ∀ h, rdRow true h j1 ⟨V.add (rowSV false j1 (n0 :: n1 :: n2 :: n3 :: r)).a (4 * 1), r.length + 1 + 1 + 1 + 1 - 4, r.length + 1 + 1 + 1 + 1 - 4, true⟩ = some r := fun h => sub_ints (l := n0 :: n1 :: n2 :: n3 :: r) 4 (by simp)
        have c1 : cloneP 8 r = some r := by unfold cloneP; rw [guardO_pos ⟨by unfold roomCells; omega, by omega⟩]
        have c2 : cloneP 16 g = some g := by unfold cloneP; rw [guardO_pos ⟨by unfold roomCells; omega, by omega⟩]
        have b0 : (0 : Int) < ((r.length + 1 + 1 + 1 + 1 : Nat) : Int) := by omega
        have b1 : (1 : Int) < ((r.length + 1 + 1 + 1 + 1 : Nat) : Int) := by omega
        have b2 : (2 : Int) < ((r.length + 1 + 1 + 1 + 1 : Nat) : Int) := by omega
        have b3 : (3 : Int) < ((r.length + 1 + 1 + 1 + 1 : Nat) : Int) := by omega
        have b4 : (4 : Int) ≤ ((r.length + 1 + 1 + 1 + 1 : Nat) : Int) := by omega
        have b5 : ¬ ((r.length + 1 + 1 + 1 + 1 : Nat) : Int) < 4 := by omega
        have t4 : Int.toNat 4 = 4 := rfl
        try simp -implicitDefEqProofs only [evs, reduceIte, rdRes, rdTT, rdTy, rdLT, Res.un, TT.un, Ty.un, LT.un, Leaf.un, Leaf.plain, LT.plain, evh, List.replicate, splice, LT.pack, Leaf.pack, Nat.reduceAdd, Nat.reduceSub, Nat.reduceLeDiff, Nat.reduceLT, Nat.reduceEqDiff, LT.lo, Leaf.lo, List.length_cons, decide_eq_false h91, decide_eq_false b5, if_neg h91, b0, b1, b2, b3, b4, t4, Int.toNat_natCast, Int.cast_ofNat_Int, Int.reduceLT, Int.reduceLE, Int.reduceEq, decide_true, decide_false, true_and, and_self, guardO_true, Int.le_refl, Bool.not_true, Bool.not_false, Bool.and_self, cond_true, cond_false, Option.bind_some, int_at, apart_row, rdRow_nil, eq_self, row_ints, row_texts, S, c1, c2, C, K]
        try simp -implicitDefEqProofs only [outF, if_neg h91, List.getD_cons_zero, List.getD_cons_succ, List.drop_succ_cons, List.drop_zero]
        cases hc : decide (checkF (n0, n1, n2, n3, r, g) = 0) <;> simp -implicitDefEqProofs only [evs, reduceIte, rdRes, rdTT, rdTy, rdLT, Res.un, TT.un, Ty.un, LT.un, Leaf.un, Leaf.plain, LT.plain, evh, List.replicate, splice, LT.pack, Leaf.pack, Nat.reduceAdd, Nat.reduceSub, Nat.reduceLeDiff, Nat.reduceLT, Nat.reduceEqDiff, LT.lo, Leaf.lo, cond_true, cond_false, Option.bind_some, row_ints, row_texts, res_ints, res_texts, Bool.false_and, Bool.true_and, hc, C, K]
      | [], h => simp at h
      | [_], h => simp at h
      | [_, _], h => simp at h
      | [_, _, _], h => simp at h
def accT (ls : List Leaf) (xs : List (LT ls)) : List Slot := if xs.length = 0 then [] else [.own (cellsL ls xs) ls.length]
theorem app_row {ls : List Leaf} {xs : List (LT ls)} {sl : List Slot} {w b : Nat} (hw : ls.length = w) (hl : xs.length ≤ 2 ^ 36) (hb : b ≤ 2 ^ 11) :
    appendS (hL sl) none w b ⟨.nil, 0, 0, false⟩ (cellsL ls xs) xs.length = some (accS sl.length ls xs, hL (sl ++ accT ls xs)) := by
  subst hw
  unfold accS accT
  by_cases h : xs.length = 0
  · rw [if_pos h, if_pos h, List.append_nil]
    simp only [appendS, appendV]
    rw [if_pos h]
    rfl
  · rw [if_neg h, if_neg h]
    simp only [appendS, appendV, newAt]
    rw [if_neg h, guardO_pos ⟨by unfold roomCells; omega, hb⟩, if_pos ⟨trivial, trivial, trivial⟩, hL_new]
    rfl
theorem acc_at {lp : Bool} {ls : List Leaf} {xs : List (LT ls)} {pre post : List Slot} (hp : Leaf.plain (.row ls) = true) : rdRow lp (hL (pre ++ accT ls xs ++ post)) ls (accS pre.length ls xs) = some xs := by
  unfold accS accT
  by_cases h : xs.length = 0
  · have : xs = [] := List.eq_nil_of_length_eq_zero h
    subst this
    exact rdRow_nil
  · rw [if_neg h, if_neg h]
    exact rdRow_own (e := ls.length) (by simp) rfl hp
theorem cellsOf_sub {f t : Bool} {h : H} {ls : List Leaf} {xs : List (LT ls)} {k w c : Nat} (hw : ls.length = w) (hpos : 0 < w) (hf : LT.flat ls = true) (hk : k ≤ xs.length) : cellsOf h (.slice (V.add (rowSV f ls xs).a (k * w)) (xs.length - k) c t) w = some (xs.length - k, cellsL ls (xs.drop k)) := by
  subst hw
  unfold cellsOf
  simp only
  by_cases h0 : xs.length - k = 0
  · have : xs.drop k = [] := List.drop_eq_nil_of_le (by omega)
    rw [if_pos h0, this, h0]
    rfl
  · rw [if_neg h0]
    simp only [H.rds, from_row, flat_drop, Option.bind_some]
    have hl : ((xs.drop k).flatMap fun x => LT.lo f ls x).length = (xs.length - k) * ls.length := by rw [flat_length, List.length_drop]
    rw [if_pos ⟨by rw [hl]; exact Nat.le_refl _, Nat.ne_of_gt (Nat.mul_pos (by omega) hpos)⟩, List.take_of_length_le (by rw [hl]; exact Nat.le_refl _)]
    simp only [Option.map_some, Option.some.injEq, Prod.mk.injEq, true_and, cellsL]
    congr 1
    funext x
    exact flat_flag ls x hf
theorem cellsOf_all {f t : Bool} {h : H} {ls : List Leaf} {xs : List (LT ls)} {w c : Nat} (hw : ls.length = w) (hpos : 0 < w) (hf : LT.flat ls = true) : cellsOf h (.slice (rowSV f ls xs).a xs.length c t) w = some (xs.length, cellsL ls xs) := by
  have := cellsOf_sub (f := f) (t := t) (h := h) (xs := xs) (k := 0) (c := c) hw hpos hf (Nat.zero_le _)
  rw [Nat.zero_mul, V_add0, Nat.sub_zero, List.drop_zero] at this
  exact this
theorem put2 {s0 s1 s2 s : Slot} {t : List Slot} : H.put (hL (s0 :: s1 :: s2 :: t)) 2 s = hL (s0 :: s1 :: s :: t) := by rw [hL_put (by simp only [List.length_cons]; omega)]; rfl
theorem put1 {s0 s1 s : Slot} {t : List Slot} : H.put (hL (s0 :: s1 :: t)) 1 s = hL (s0 :: s :: t) := by rw [hL_put (by simp only [List.length_cons]; omega)]; rfl
theorem RTarget_ok (x : Fct) (hc : corrects x = true) (he : x.2.2.2.2.1.length ≤ 2 ^ 20) (hg : x.2.2.2.2.2.length ≤ 2 ^ 20) : r54_TargetP x = some (targetF x) := by
  obtain ⟨a, b, c, d, e, g⟩ := x
  simp only at he hg
  unfold r54_TargetP r54_Target targetF formed
  try simp -implicitDefEqProofs only [evs, reduceIte, rdRes, rdTT, rdTy, rdLT, Res.un, TT.un, Ty.un, LT.un, Leaf.un, Leaf.plain, LT.plain, evh, List.replicate, splice, LT.pack, Leaf.pack, Nat.reduceAdd, Nat.reduceSub, Nat.reduceLeDiff, Nat.reduceLT, Nat.reduceEqDiff, LT.lo, Leaf.lo, Option.bind_some]
  by_cases h91 : d = 91
  · subst h91
    have n90 : decide ((91 : Int) = 90) = false := rfl
    by_cases h3 : (e.length : Int) = 3
    · by_cases h0 : (0 : Int) < (g.length : Int)
      · simp -implicitDefEqProofs only [evs, reduceIte, rdRes, rdTT, rdTy, rdLT, Res.un, TT.un, Ty.un, LT.un, Leaf.un, Leaf.plain, LT.plain, evh, List.replicate, splice, LT.pack, Leaf.pack, Nat.reduceAdd, Nat.reduceSub, Nat.reduceLeDiff, Nat.reduceLT, Nat.reduceEqDiff, LT.lo, Leaf.lo, n90, decide_true, decide_eq_true h3, decide_eq_true h0, Bool.not_true, Bool.not_false, cond_true, cond_false, Option.bind_some, Bool.and_false, Bool.and_true, Bool.false_eq_true, reduceIte, rdRow_nil, zeroF]
      · match e, h3 with
        | [n0, n1, n2], _ =>
          have hg0 : g = [] := List.eq_nil_of_length_eq_zero (by omega)
          subst hg0
          have C := RCheck_ok (n0, n1, n2, 1, [], [])
          have K := RCorrects_ok (n0, n1, n2, 1, [], [])
          try simp -implicitDefEqProofs only [evs, reduceIte, rdRes, rdTT, rdTy, rdLT, Res.un, TT.un, Ty.un, LT.un, Leaf.un, Leaf.plain, LT.plain, evh, List.replicate, splice, LT.pack, Leaf.pack, Nat.reduceAdd, Nat.reduceSub, Nat.reduceLeDiff, Nat.reduceLT, Nat.reduceEqDiff, LT.lo, Leaf.lo, n90, decide_true, List.length_cons, List.length_nil, Int.cast_ofNat_Int, Int.reduceLT, Int.reduceLE, Int.reduceEq, decide_true, decide_false, true_and, and_self, guardO_true, Bool.not_true, Bool.not_false, Bool.and_self, cond_true, cond_false, Option.bind_some, int_at, apart_row, apart_hp, rdRow_nil, eq_self, C, K]
          try simp -implicitDefEqProofs only [outF, List.getD_cons_zero, List.getD_cons_succ]
          cases hc : decide (checkF (n0, n1, n2, 1, [], []) = 0) <;> simp -implicitDefEqProofs only [evs, reduceIte, rdRes, rdTT, rdTy, rdLT, Res.un, TT.un, Ty.un, LT.un, Leaf.un, Leaf.plain, LT.plain, evh, List.replicate, splice, LT.pack, Leaf.pack, Nat.reduceAdd, Nat.reduceSub, Nat.reduceLeDiff, Nat.reduceLT, Nat.reduceEqDiff, LT.lo, Leaf.lo, cond_true, cond_false, Option.bind_some, rdRow_nil, Bool.false_and, Bool.true_and, hc, C, K]
        | [], h => simp at h
        | [_], h => simp at h
        | [_, _], h => simp at h
        | _ :: _ :: _ :: _ :: _, h => simp at h; omega
    · simp -implicitDefEqProofs only [evs, reduceIte, rdRes, rdTT, rdTy, rdLT, Res.un, TT.un, Ty.un, LT.un, Leaf.un, Leaf.plain, LT.plain, evh, List.replicate, splice, LT.pack, Leaf.pack, Nat.reduceAdd, Nat.reduceSub, Nat.reduceLeDiff, Nat.reduceLT, Nat.reduceEqDiff, LT.lo, Leaf.lo, n90, decide_true, decide_eq_false h3, Bool.not_true, Bool.not_false, cond_true, cond_false, Option.bind_some, Bool.false_and, Bool.false_eq_true, reduceIte, rdRow_nil, zeroF]
  · have h90 : d = 90 := by simpa [corrects, h91] using hc
    subst h90
    have n91 : decide ((90 : Int) = 91) = false := rfl
    by_cases h4 : (e.length : Int) < 4
    · simp -implicitDefEqProofs only [evs, reduceIte, rdRes, rdTT, rdTy, rdLT, Res.un, TT.un, Ty.un, LT.un, Leaf.un, Leaf.plain, LT.plain, evh, List.replicate, splice, LT.pack, Leaf.pack, Nat.reduceAdd, Nat.reduceSub, Nat.reduceLeDiff, Nat.reduceLT, Nat.reduceEqDiff, LT.lo, Leaf.lo, n91, decide_true, decide_eq_true h4, if_neg h91, Bool.not_true, Bool.not_false, cond_true, cond_false, Option.bind_some, Bool.and_false, Bool.and_true, Bool.false_eq_true, reduceIte, rdRow_nil, zeroF]
    · match e, h4 with
      | n0 :: n1 :: n2 :: n3 :: r, _ =>
        simp only [List.length_cons] at he
        have C := RCheck_ok (n0, n1, n2, n3, r, g)
        have K := RCorrects_ok (n0, n1, n2, n3, r, g)
        have S : ∀ h, cellsOf h (.slice (V.add (rowSV false j1 (n0 :: n1 :: n2 :: n3 :: r)).a (4 * 1)) (r.length + 1 + 1 + 1 + 1 - 4) (r.length + 1 + 1 + 1 + 1 - 4) true) 1 = some (r.length, cellsL j1 r) := fun h => cellsOf_sub (xs := n0 :: n1 :: n2 :: n3 :: r) (k := 4) (ls := j1) (w := 1) rfl (by omega) rfl (by simp)
        have S2 : ∀ h, cellsOf h (.slice (rowSV false t1 g).a g.length g.length true) 1 = some (g.length, cellsL t1 g) := fun h => cellsOf_all (ls := t1) (w := 1) rfl (by omega) rfl
        have A1 : ∀ sl, appendS (hL sl) none 1 8 ⟨.nil, 0, 0, false⟩ (cellsL j1 r) r.length = some (accS sl.length j1 r, hL (sl ++ accT j1 r)) := fun sl => app_row (w := 1) rfl (by omega) (by omega)
        have A2 : ∀ sl, appendS (hL sl) none 1 16 ⟨.nil, 0, 0, false⟩ (cellsL t1 g) g.length = some (accS sl.length t1 g, hL (sl ++ accT t1 g)) := fun sl => app_row (w := 1) rfl (by omega) (by omega)
        have R1 : ∀ lp s0 s1 s2, rdRow lp (hL (s0 :: s1 :: s2 :: (accT j1 r ++ accT t1 g))) j1 ⟨(accS 3 j1 r).a, (accS 3 j1 r).len, (accS 3 j1 r).cap, (accS 3 j1 r).tail⟩ = some r := fun lp s0 s1 s2 => acc_at (pre := [s0, s1, s2]) (post := accT t1 g) rfl
        have R2 : ∀ lp s0 s1 s2, rdRow lp (hL (s0 :: s1 :: s2 :: (accT j1 r ++ accT t1 g))) t1 ⟨(accS ((accT j1 r).length + 1 + 1 + 1) t1 g).a, (accS ((accT j1 r).length + 1 + 1 + 1) t1 g).len, (accS ((accT j1 r).length + 1 + 1 + 1) t1 g).cap, (accS ((accT j1 r).length + 1 + 1 + 1) t1 g).tail⟩ = some g := fun lp s0 s1 s2 => by
          have := acc_at (lp := lp) (ls := t1) (xs := g) (pre := s0 :: s1 :: s2 :: accT j1 r) (post := []) rfl
          rw [List.append_nil] at this
          exact this
        have b0 : (0 : Int) < ((r.length + 1 + 1 + 1 + 1 : Nat) : Int) := by omega
        have b1 : (1 : Int) < ((r.length + 1 + 1 + 1 + 1 : Nat) : Int) := by omega
        have b2 : (2 : Int) < ((r.length + 1 + 1 + 1 + 1 : Nat) : Int) := by omega
        have b3 : (3 : Int) < ((r.length + 1 + 1 + 1 + 1 : Nat) : Int) := by omega
        have b4 : (4 : Int) ≤ ((r.length + 1 + 1 + 1 + 1 : Nat) : Int) := by omega
        have b5 : ¬ ((r.length + 1 + 1 + 1 + 1 : Nat) : Int) < 4 := by omega
        have t4 : Int.toNat 4 = 4 := rfl
        try simp -implicitDefEqProofs only [evs, reduceIte, rdRes, rdTT, rdTy, rdLT, Res.un, TT.un, Ty.un, LT.un, Leaf.un, Leaf.plain, LT.plain, evh, List.replicate, splice, LT.pack, Leaf.pack, Nat.reduceAdd, Nat.reduceSub, Nat.reduceLeDiff, Nat.reduceLT, Nat.reduceEqDiff, LT.lo, Leaf.lo, n91, List.length_cons, decide_eq_false b5, if_neg h91, b0, b1, b2, b3, b4, t4, Int.toNat_natCast, Int.cast_ofNat_Int, Int.reduceLT, Int.reduceLE, Int.reduceEq, decide_true, decide_false, true_and, and_self, guardO_true, Int.le_refl, Bool.not_true, Bool.not_false, Bool.and_self, cond_true, cond_false, Option.bind_some, int_at, apart_row, apart_hp, rdRow_nil, eq_self, S, S2, A1, A2, R1, R2, put1, put2, List.append_assoc, C, K]
        try simp -implicitDefEqProofs only [outF, if_neg h91, List.getD_cons_zero, List.getD_cons_succ, List.drop_succ_cons, List.drop_zero]
        cases hc : decide (checkF (n0, n1, n2, n3, r, g) = 0) <;> simp -implicitDefEqProofs only [evs, reduceIte, rdRes, rdTT, rdTy, rdLT, Res.un, TT.un, Ty.un, LT.un, Leaf.un, Leaf.plain, LT.plain, evh, List.replicate, splice, LT.pack, Leaf.pack, Nat.reduceAdd, Nat.reduceSub, Nat.reduceLeDiff, Nat.reduceLT, Nat.reduceEqDiff, LT.lo, Leaf.lo, cond_true, cond_false, Option.bind_some, R1, R2, put1, put2, Bool.false_and, Bool.true_and, hc, C, K]
      | [], h => simp at h
      | [_], h => simp at h
      | [_, _], h => simp at h
      | [_, _, _], h => simp at h
def smallF (x : Fct) : Prop := x.2.2.2.2.1.length ≤ 2 ^ 20 ∧ x.2.2.2.2.2.length ≤ 2 ^ 20
theorem small_ok {x : Fct} (h : smallF x) : okF x = true := by
  obtain ⟨h1, h2⟩ := h
  simp only [okF, Bool.and_eq_true, decide_eq_true_eq]
  omega
theorem put0 {s0 s : Slot} {t : List Slot} : H.put (hL (s0 :: t)) 0 s = hL (s :: t) := by rw [hL_put (by simp only [List.length_cons]; omega)]; rfl
theorem Copy_ok (x : Fct) (h : smallF x) : r53_CopyP x = some x := by
  obtain ⟨a, b, c, d, e, g⟩ := x
  obtain ⟨he, hg⟩ := h
  simp only at he hg
  have S1 : ∀ h, cellsOf h (.slice (rowSV false j1 e).a e.length e.length true) 1 = some (e.length, cellsL j1 e) := fun h => cellsOf_all (ls := j1) (w := 1) rfl (by omega) rfl
  have S2 : ∀ h, cellsOf h (.slice (rowSV false t1 g).a g.length g.length true) 1 = some (g.length, cellsL t1 g) := fun h => cellsOf_all (ls := t1) (w := 1) rfl (by omega) rfl
  have A1 : ∀ sl, appendS (hL sl) none 1 8 ⟨.nil, 0, 0, false⟩ (cellsL j1 e) e.length = some (accS sl.length j1 e, hL (sl ++ accT j1 e)) := fun sl => app_row (w := 1) rfl (by omega) (by omega)
  have A2 : ∀ sl, appendS (hL sl) none 1 16 ⟨.nil, 0, 0, false⟩ (cellsL t1 g) g.length = some (accS sl.length t1 g, hL (sl ++ accT t1 g)) := fun sl => app_row (w := 1) rfl (by omega) (by omega)
  have R1 : ∀ lp s0 s1, rdRow lp (hL (s0 :: s1 :: (accT j1 e ++ accT t1 g))) j1 ⟨(accS 2 j1 e).a, (accS 2 j1 e).len, (accS 2 j1 e).cap, (accS 2 j1 e).tail⟩ = some e := fun lp s0 s1 => acc_at (pre := [s0, s1]) (post := accT t1 g) rfl
  have R2 : ∀ lp s0 s1, rdRow lp (hL (s0 :: s1 :: (accT j1 e ++ accT t1 g))) t1 ⟨(accS ((accT j1 e).length + 1 + 1) t1 g).a, (accS ((accT j1 e).length + 1 + 1) t1 g).len, (accS ((accT j1 e).length + 1 + 1) t1 g).cap, (accS ((accT j1 e).length + 1 + 1) t1 g).tail⟩ = some g := fun lp s0 s1 => by
    have := acc_at (lp := lp) (ls := t1) (xs := g) (pre := s0 :: s1 :: accT j1 e) (post := []) rfl
    rw [List.append_nil] at this
    exact this
  unfold r53_CopyP r53_Copy
  try simp -implicitDefEqProofs only [evs, reduceIte, rdRes, rdTT, rdTy, rdLT, Res.un, TT.un, Ty.un, LT.un, Leaf.un, Leaf.plain, LT.plain, evh, List.replicate, splice, LT.pack, Leaf.pack, Nat.reduceAdd, Nat.reduceSub, Nat.reduceLeDiff, Nat.reduceLT, Nat.reduceEqDiff, LT.lo, Leaf.lo, Option.bind_some, S1, S2, A1, A2, put0, put1, List.append_assoc, R1, R2]
theorem pack_low (f : Bool) (x : Fct) : LT.pack FS (LT.lo f FC x) = some (low f x) := rfl
theorem row_cells {f : Bool} {xs : List Fct} {h : H} : cellsOf h (.slice (rowSV f FC xs).a (rowSV f FC xs).len (rowSV f FC xs).cap (rowSV f FC xs).tail) 6 = some (xs.length, xs.flatMap fun x => LT.lo f FC x) := by
  have hfl := flat_length (f := f) (ls := FC) xs
  by_cases h0 : xs.length = 0
  · have : xs = [] := List.eq_nil_of_length_eq_zero h0
    subst this
    rfl
  · show cellsOf h (.slice (rowSV f FC xs).a xs.length (rowSV f FC xs).cap (rowSV f FC xs).tail) 6 = _
    simp only [cellsOf, if_neg h0, H.rds, rowSV, H.from, List.drop_zero, Option.bind_some]
    rw [if_pos ⟨by rw [hfl]; exact Nat.le_refl _, by omega⟩, List.take_of_length_le (by rw [hfl]; exact Nat.le_refl _)]
    rfl
theorem clone_facts {f : Bool} {xs : List Fct} {sl : List Slot} {a : SV} (ha : a.len = xs.length) (hc : cellsOf (hL sl) (.slice a.a a.len a.cap a.tail) 6 = some (xs.length, xs.flatMap fun x => LT.lo f FC x)) (hl : xs.length ≤ 2 ^ 20) (h0 : xs.length ≠ 0) :
    cloneX 6 80 a (hL sl) = some (ownSV sl.length FC xs.length, hL (sl ++ [.own (xs.flatMap fun x => LT.lo f FC x) 6])) := by
  unfold cloneX
  rw [if_neg (by rw [ha]; exact h0), hc]
  simp only [Option.bind_some, appendS, appendV, newAt]
  rw [if_neg h0, guardO_pos ⟨by unfold roomCells; omega, by decide⟩, if_pos ⟨trivial, trivial, trivial⟩, hL_new]
  rfl
theorem cp_cells {f : Bool} {xs : List Fct} {sl : List Slot} {a : SV} (ha : a.len = xs.length) (hc : cellsOf (hL sl) (.slice a.a a.len a.cap a.tail) 6 = some (xs.length, xs.flatMap fun x => LT.lo f FC x)) (hl : xs.length ≤ 2 ^ 20) (hs : ∀ x ∈ xs, smallF x) (h0 : xs.length ≠ 0) :
    law_cp a (hL sl) = some (ownSV sl.length FC xs.length, hL (sl ++ [.own (cellsL FC xs) 6])) := by
  unfold law_cp
  rw [clone_facts ha hc hl h0, Option.bind_some]
  simp only
  have hlen : (((ownSV sl.length FC xs.length).len : Nat) : Int) = (xs.length : Int) := rfl
  have loop : iter FUEL (law_cp.loop1 (ownSV sl.length FC xs.length)) (0, hL (sl ++ [.own (xs.flatMap fun x => LT.lo f FC x) 6])) = some (.ex0 (), hL (sl ++ [.own (cellsL FC xs) 6])) := by
    refine iter_from (fun i => ((i : Int), hL (sl ++ [.own ((xs.take i).flatMap (fun x => LT.lo true FC x) ++ (xs.drop i).flatMap (fun x => LT.lo f FC x)) 6]))) (by simp) xs.length FUEL (fun i hi => ?_) ?_ (fuel_gt (by omega))
    · have hx : xs[i]? = some xs[i] := List.getElem?_eq_getElem hi
      have hA : ((xs.take i).flatMap fun x => LT.lo true FC x).length = i * 6 := by rw [flat_length (ls := FC), List.length_take, Nat.min_eq_left (by omega)]; rfl
      have hd : xs.drop i = xs[i] :: xs.drop (i + 1) := List.drop_eq_getElem_cons hi
      have hB : ((xs.drop i).flatMap fun x => LT.lo f FC x) = LT.lo f FC xs[i] ++ (xs.drop (i + 1)).flatMap fun x => LT.lo f FC x := by rw [hd, List.flatMap_cons]
      have hl6 : (LT.lo f FC xs[i]).length = 6 := rfl
      have hR : ((xs.drop (i + 1)).flatMap fun x => LT.lo f FC x).length = (xs.length - (i + 1)) * 6 := by rw [flat_length (ls := FC), List.length_drop]; rfl
      have htot : ((xs.take i).flatMap (fun x => LT.lo true FC x) ++ (xs.drop i).flatMap (fun x => LT.lo f FC x)).length = xs.length * 6 := by
        rw [List.length_append, hA, hB, List.length_append, hl6, hR]; omega
      have rd : rdT (.agg FS) (hL (sl ++ [.own ((xs.take i).flatMap (fun x => LT.lo true FC x) ++ (xs.drop i).flatMap (fun x => LT.lo f FC x)) 6])) (V.add (ownSV sl.length FC xs.length).a (i * 6)) = some (low f xs[i]) := by
        rw [show V.add (ownSV sl.length FC xs.length).a (i * 6) = .hp sl.length (xs.length * 6) (i * 6) by simp [ownSV, V.add], rds_hp (by simp), hL_m, List.getElem?_append_right (Nat.le_refl _), Nat.sub_self]
        simp only [List.getElem?_cons_zero, Option.getD_some]
        rw [if_pos ⟨htot, by rw [htot]; show 6 ≤ _; omega⟩, List.drop_left' hA, hB]
        rw [show FS.length = 6 from rfl, List.take_left' hl6]
        exact pack_low f _
      have wr : H.wrs (hL (sl ++ [.own ((xs.take i).flatMap (fun x => LT.lo true FC x) ++ (xs.drop i).flatMap (fun x => LT.lo f FC x)) 6])) (V.add (ownSV sl.length FC xs.length).a (i * 6)) (LT.lo true FC xs[i]) = some (hL (sl ++ [.own ((xs.take (i + 1)).flatMap (fun x => LT.lo true FC x) ++ (xs.drop (i + 1)).flatMap (fun x => LT.lo f FC x)) 6])) := by
        rw [show V.add (ownSV sl.length FC xs.length).a (i * 6) = .hp sl.length (xs.length * 6) (i * 6) by simp [ownSV, V.add], wrs_own (cs := (xs.take i).flatMap (fun x => LT.lo true FC x) ++ (xs.drop i).flatMap (fun x => LT.lo f FC x)) (e := 6) (by simp) htot (by show i * 6 + 6 ≤ _; omega), set_new rfl]
        have : splice ((xs.take i).flatMap (fun x => LT.lo true FC x) ++ (xs.drop i).flatMap (fun x => LT.lo f FC x)) (i * 6) (LT.lo true FC xs[i]) = (xs.take (i + 1)).flatMap (fun x => LT.lo true FC x) ++ (xs.drop (i + 1)).flatMap (fun x => LT.lo f FC x) := by
          unfold splice
          rw [List.take_left' hA, List.take_add_one, hx, Option.toList_some, List.flatMap_append, hB]
          rw [show i * 6 + (LT.lo true FC xs[i]).length = i * 6 + 6 from rfl, ← List.drop_drop, List.drop_left' hA, List.drop_left' hl6]
          simp
        rw [this]
      unfold law_cp.loop1
      try simp -implicitDefEqProofs only [Int.toNat_natCast]
      rw [hlen, decide_eq_true (by omega), cond_true, guardO_pos (by omega), rd]
      try simp -implicitDefEqProofs only [Option.bind_some, low, row_ints', row_texts', Copy_ok _ (hs _ (List.getElem_mem hi))]
      rw [guardO_pos (by omega)]
      have wr' : H.wrs (hL (sl ++ [.own ((xs.take i).flatMap (fun x => LT.lo true FC x) ++ (xs.drop i).flatMap (fun x => LT.lo f FC x)) 6])) (V.add (ownSV sl.length FC xs.length).a (i * 6)) [.int .i64 xs[i].1, .int .i64 xs[i].2.1, .int .i64 xs[i].2.2.1, .int .i64 xs[i].2.2.2.1, .slice (rowSV true j1 xs[i].2.2.2.2.1).a xs[i].2.2.2.2.1.length xs[i].2.2.2.2.1.length true, .slice (rowSV true t1 xs[i].2.2.2.2.2).a xs[i].2.2.2.2.2.length xs[i].2.2.2.2.2.length true] = _ := wr
      rw [wr', Option.bind_some, i64_suc (by omega)]
    · unfold law_cp.loop1
      try simp -implicitDefEqProofs only []
      rw [hlen, decide_eq_false (by omega), cond_false, List.take_length, List.drop_length, List.flatMap_nil, List.append_nil]
  rw [loop]
  rfl
theorem cp_at {f : Bool} {xs : List Fct} {sl : List Slot} (hl : xs.length ≤ 2 ^ 20) (hs : ∀ x ∈ xs, smallF x) (h0 : xs.length ≠ 0) :
    law_cp (rowSV f FC xs) (hL sl) = some (ownSV sl.length FC xs.length, hL (sl ++ [.own (cellsL FC xs) 6])) := cp_cells rfl row_cells hl hs h0
theorem cp_empty {a : SV} {h : H} (ha : a.len = 0) : law_cp a h = some (⟨.lp true [] 0, 0, 0, false⟩, h) := by
  unfold law_cp cloneX
  rw [if_pos ha, Option.bind_some]
  simp only
  have : iter FUEL (law_cp.loop1 ⟨.lp true [] 0, 0, 0, false⟩) (0, h) = some (.ex0 (), h) := iter_run (fun _ => (0, h)) 0 FUEL (fun i hi => by omega) (by
    unfold law_cp.loop1
    try simp -implicitDefEqProofs only []
    rfl) (fuel_gt (by omega))
  rw [this]
  rfl
theorem cp_nil {f : Bool} {h : H} : law_cp (rowSV f FC []) h = some (⟨.lp true [] 0, 0, 0, false⟩, h) := cp_empty rfl
noncomputable def cpFree (a0 : SV) (h : H) : Option (SV × H) :=
  open Classical in
  match rdRow true H.empty FC a0, h.m h.next with
  | some xs, .fresh => if (∃ f, a0.len = xs.length ∧ ∀ h', cellsOf h' (.slice a0.a a0.len a0.cap a0.tail) 6 = some (xs.length, xs.flatMap fun x => LT.lo f FC x)) ∧ xs.length ≤ 2 ^ 20 ∧ (∀ x ∈ xs, smallF x) then (if xs.length = 0 then some (⟨.lp true [] 0, 0, 0, false⟩, h) else some (ownSV h.next FC xs.length, h.new (cellsL FC xs) 6)) else none
  | _, _ => none
theorem new_put {h : H} {i : Nat} {s : Slot} {cs : List V} {e : Nat} (hi : i < h.next) : H.new (h.put i s) cs e = (h.new cs e).put i s := by
  refine H.ext' rfl fun j => ?_
  simp only [H.new, H.put]
  by_cases hj : j = i
  · subst hj; rw [beq_ne (show j ≠ h.next by omega)]; rfl
  · rw [beq_ne hj]; rfl
theorem cpFree_is {a0 : SV} {h : H} {r : SV × H} (hr : cpFree a0 h = some r) : ∃ f xs, (a0.len = xs.length ∧ (∀ h', cellsOf h' (.slice a0.a a0.len a0.cap a0.tail) 6 = some (xs.length, xs.flatMap fun x => LT.lo f FC x)) ∧ rdRow true H.empty FC a0 = some xs) ∧ xs.length ≤ 2 ^ 20 ∧ (∀ x ∈ xs, smallF x) ∧ h.m h.next = .fresh ∧ r = if xs.length = 0 then (⟨.lp true [] 0, 0, 0, false⟩, h) else (ownSV h.next FC xs.length, h.new (cellsL FC xs) 6) := by
  unfold cpFree at hr
  split at hr
  · rename_i xs h1 h2
    split at hr
    · rename_i hc
      obtain ⟨⟨f, e1, e2⟩, c1, c2⟩ := hc
      refine ⟨f, xs, ⟨e1, e2, h1⟩, c1, c2, h2, ?_⟩
      split at hr
      · rename_i h0
        rw [if_pos h0]; cases hr; rfl
      · rename_i h0
        rw [if_neg h0]; cases hr; rfl
    · cases hr
  · cases hr
theorem mkX_call {ts : List Ty} {rs : Res} {f : TT ts → H → Option (rs.C × H)} {args : List V} {h : H} {v : V} {h' : H} (hv : (mkX ts rs f).cps args h (fun v h => some (v, h)) = some (v, h')) : ∃ x r, TT.pack ts args = some x ∧ f x h = some (r, h') ∧ v = rs.un r := by
  simp only [mkX, Option.bind_eq_some_iff, Option.some.injEq, Prod.mk.injEq] at hv
  obtain ⟨x, hx, ⟨r, h2⟩, hf, rfl, rfl⟩ := hv
  exact ⟨x, r, hx, hf, rfl⟩
theorem mkX_give {ts : List Ty} {rs : Res} {f : TT ts → H → Option (rs.C × H)} {args : List V} {h : H} {x : TT ts} {r : rs.C} {h' : H} (hx : TT.pack ts args = some x) (hf : f x h = some (r, h')) : (mkX ts rs f).cps args h (fun v h => some (v, h)) = some (rs.un r, h') := by
  simp only [mkX, hx, Option.bind_some, hf]
noncomputable def cpFree.e : Entry := { mkX [.leaf .slice] (.one (.leaf .slice)) cpFree with
  free := true
  hfree := fun _ args h v h' hv => by
    obtain ⟨x, r, hx, hf, rfl⟩ := mkX_call hv
    obtain ⟨f, xs, ⟨e1, e2, h1⟩, c1, c2, c4, hr⟩ := cpFree_is hf
    have fr : ∀ (i : Nat) (s : Slot), i < h.next → (h.put i s).m (h.put i s).next = .fresh := fun i s hi => by
      show (h.put i s).m h.next = .fresh
      simp only [H.put, beq_ne (show h.next ≠ i by omega), cond_false]
      exact c4
    by_cases h0 : xs.length = 0
    · rw [if_pos h0] at hr
      simp only [Prod.mk.injEq] at hr
      obtain ⟨rfl, rfl⟩ := hr
      refine ⟨Nat.le_refl _, fun j hj => rfl, fun i s hi hfr => ⟨hfr, ?_⟩⟩
      refine mkX_give hx ?_
      unfold cpFree
      rw [h1, fr i s hi]
      simp only
      rw [if_pos ⟨⟨f, e1, e2⟩, c1, c2⟩, if_pos h0]
    rw [if_neg h0] at hr
    simp only [Prod.mk.injEq] at hr
    obtain ⟨rfl, rfl⟩ := hr
    refine ⟨Nat.le_succ _, fun j hj => ?_, fun i s hi hfr => ⟨?_, ?_⟩⟩
    · have : j ≠ h.next := fun e => hj (by rw [e]; exact c4)
      simp only [H.new, beq_ne this, cond_false]
    · simp only [H.new, beq_ne (show i ≠ h.next by omega), cond_false]
      exact hfr
    · refine mkX_give hx ?_
      unfold cpFree
      rw [h1, fr i s hi]
      simp only
      rw [if_pos ⟨⟨f, e1, e2⟩, c1, c2⟩, if_neg h0, new_put hi]
      rfl }
theorem hL_of' {h : H} (ht : ∀ i, h.next ≤ i → h.m i = .fresh) : ∃ sl, h = hL sl ∧ sl.length = h.next := by
  refine ⟨(List.range h.next).map h.m, H.ext' (by simp [hL]) fun i => ?_, by simp⟩
  simp only [hL_m]
  rcases Nat.lt_or_ge i h.next with hi | hi
  · rw [List.getElem?_map, List.getElem?_range hi]; rfl
  · rw [List.getElem?_eq_none (by simpa using hi), ht i hi]; rfl
theorem mkX_sub {g : FuncId} {ts : List Ty} {rs : Res} {f f' : TT ts → H → Option (rs.C × H)} (ok : EntryOK Tryz.prog g (mkX ts rs f)) (hp : ∀ x, TT.pack ts (TT.un ts x) = some x) (hsub : ∀ x sl r, f' x (hL sl) = some r → f x (hL sl) = some r) : EntryOK Tryz.prog g (mkX ts rs f') :=
  mkX_of fun x h r h' hx base ρ w us hrel hrl => by
    obtain ⟨sl, rfl, _⟩ := hL_of' hrel.top
    exact ((ok (TT.un ts x) (hL sl)).2 _ _ (mkX_give (hp x) (hsub x sl _ hx))).2 base ρ w us hrel hrl
theorem cpFree.ok : EntryOK Tryz.prog 13 cpFree.e := by
  have := mkX_sub (f' := cpFree) law_cp.ok (fun _ => rfl) fun x sl r hr => by
    obtain ⟨f, xs, e, c1, c2, c4, hr⟩ := cpFree_is hr
    by_cases h0 : xs.length = 0
    · rw [hr, if_pos h0]
      exact cp_empty (by rw [e.1, h0])
    · rw [hr, if_neg h0, hL_new]
      exact cp_cells e.1 (e.2.1 _) c1 c2 h0
  exact this
abbrev cA (a : LT FS) : List V := [.int .i64 a.1, .int .i64 a.2.1, .int .i64 a.2.2.1, .int .i64 a.2.2.2.1, .slice a.2.2.2.2.1.a a.2.2.2.2.1.len a.2.2.2.2.1.cap a.2.2.2.2.1.tail, .slice a.2.2.2.2.2.a a.2.2.2.2.2.len a.2.2.2.2.2.cap a.2.2.2.2.2.tail]
abbrev zF0 : List V := [.int .i64 0, .int .i64 0, .int .i64 0, .int .i64 0, .slice .nil 0 0 false, .slice .nil 0 0 false]
abbrev cT (x : Fct) : List V := [.int .i64 x.1, .int .i64 x.2.1, .int .i64 x.2.2.1, .int .i64 x.2.2.2.1, .slice (rowSV true j1 x.2.2.2.2.1).a x.2.2.2.2.1.length x.2.2.2.2.1.length true, .slice (rowSV true t1 x.2.2.2.2.2).a x.2.2.2.2.2.length x.2.2.2.2.2.length true]
abbrev zL : LT FS := (0, 0, 0, 0, ⟨.nil, 0, 0, false⟩, ⟨.nil, 0, 0, false⟩)
def madeOut (a : LT FS) (x : Fct) : (LT FS × Int) × List (List V) :=
  if checkF x = 0 then (if (targetF x).2 = true then ((a, 0), [cA a, cA a, cT (targetF x).1]) else ((zL, 1), [cA a, zF0, cT (targetF x).1])) else ((zL, 1), [cA a, zF0])
def newsH (h : H) : List (List V) → H
  | [] => h
  | c :: l => newsH (h.new c 6) l
theorem newsH_hL (sl : List Slot) : ∀ L : List (List V), newsH (hL sl) L = hL (sl ++ L.map fun c => .own c 6)
  | [] => by simp [newsH]
  | c :: l => by
    show newsH ((hL sl).new c 6) l = _
    rw [hL_new, newsH_hL (sl ++ [Slot.own c 6]) l]
    simp
theorem newsH_next : ∀ (L : List (List V)) (h : H), h.next ≤ (newsH h L).next
  | [], h => Nat.le_refl _
  | c :: l, h => Nat.le_trans (Nat.le_succ _) (newsH_next l (h.new c 6))
theorem newsH_old : ∀ (L : List (List V)) (h : H) (j : Nat), j < h.next → (newsH h L).m j = h.m j
  | [], h, j, _ => rfl
  | c :: l, h, j, hj => by
    unfold newsH
    rw [newsH_old l (h.new c 6) j (Nat.lt_succ_of_lt hj)]
    simp only [H.new, beq_ne (show j ≠ h.next by omega), cond_false]
theorem newsH_put : ∀ (L : List (List V)) (h : H) (i : Nat) (s : Slot), i < h.next → newsH (h.put i s) L = (newsH h L).put i s
  | [], h, i, s, _ => rfl
  | c :: l, h, i, s, hi => by
    unfold newsH
    rw [new_put hi, newsH_put l (h.new c 6) i s (Nat.lt_succ_of_lt hi)]
abbrev fctOf (a : LT FS) (e : List Int) (g : List ByteArray) : Fct := (a.1, a.2.1, a.2.2.1, a.2.2.2.1, e, g)
noncomputable def freeM (ok : Fct → Bool) (a : LT FS) (h : H) : Option ((LT FS × Int) × H) :=
  open Classical in
  (rdRow true h j1 a.2.2.2.2.1).bind fun e => (rdRow true h t1 a.2.2.2.2.2).bind fun g =>
    if ok (fctOf a e g) = true ∧ ∀ j, h.next ≤ j → h.m j = .fresh then some ((madeOut a (fctOf a e g)).1, newsH h (madeOut a (fctOf a e g)).2) else none
theorem freeM_is {ok : Fct → Bool} {a : LT FS} {h : H} {r : (LT FS × Int) × H} (hr : freeM ok a h = some r) : ∃ e g, rdRow true h j1 a.2.2.2.2.1 = some e ∧ rdRow true h t1 a.2.2.2.2.2 = some g ∧ ok (fctOf a e g) = true ∧ (∀ j, h.next ≤ j → h.m j = .fresh) ∧ r = ((madeOut a (fctOf a e g)).1, newsH h (madeOut a (fctOf a e g)).2) := by
  unfold freeM at hr
  simp only [Option.bind_eq_some_iff] at hr
  obtain ⟨e, he, g, hg, hr⟩ := hr
  split at hr
  · rename_i hc
    simp only [Option.some.injEq] at hr
    exact ⟨e, g, he, hg, hc.1, hc.2, hr.symm⟩
  · cases hr
theorem freeM_ok {ok : Fct → Bool} {a : LT FS} {sl : List Slot} {e : List Int} {g : List ByteArray} (he : rdRow true (hL sl) j1 a.2.2.2.2.1 = some e) (hg : rdRow true (hL sl) t1 a.2.2.2.2.2 = some g) (hc : ok (fctOf a e g) = true) :
    freeM ok a (hL sl) = some ((madeOut a (fctOf a e g)).1, hL (sl ++ (madeOut a (fctOf a e g)).2.map fun c => .own c 6)) := by
  unfold freeM
  rw [he, hg]
  simp only [Option.bind_some]
  rw [if_pos ⟨hc, fun j hj => by rw [hL_m, List.getElem?_eq_none hj]; rfl⟩, newsH_hL]
theorem rdRow_put {ls : List Leaf} {h : H} {i : Nat} {s : Slot} {v : SV} {xs : List (LT ls)} (hf : h.m i = .fresh) (hr : rdRow true h ls v = some xs) : rdRow true (h.put i s) ls v = some xs :=
  rdLeaf_mono (fun cs e hh => by rw [hf] at hh; cases hh) (.row ls) _ _ hr
theorem from_m {n n' : Nat} {m : Nat → Slot} {a : V} : H.from ⟨n, m⟩ a = H.from ⟨n', m⟩ a := by cases a <;> rfl
theorem rds_m {n n' : Nat} {m : Nat → Slot} {a : V} {k : Nat} : H.rds ⟨n, m⟩ a k = H.rds ⟨n', m⟩ a k := by unfold H.rds; rw [from_m (n' := n')]
theorem lt_m {n n' : Nat} {m : Nat → Slot} {l : Leaf} (hl : l = .int .i64 ∨ l = .str := by first | exact .inl rfl | exact .inr rfl) : (fun c => rdLT true ⟨n, m⟩ [l] c) = fun c => rdLT true ⟨n', m⟩ [l] c := by
  funext c
  rcases hl with rfl | rfl <;> rcases c with _ | ⟨v, _ | ⟨w, c⟩⟩ <;> first | rfl | (cases v <;> rfl)
theorem rdRow_more1 {sl : List Slot} {s : Slot} {v : SV} {xs : List Int} (hr : rdRow true (hL sl) j1 v = some xs) : rdRow true (hL (sl ++ [s])) j1 v = some xs := by
  have h1 := rdRow_put (i := sl.length) (s := s) (by rw [hL_m, List.getElem?_eq_none (Nat.le_refl _)]; rfl) hr
  have h2 : (hL (sl ++ [s])).m = ((hL sl).put sl.length s).m := funext fun j => by
    simp only [H.put, hL_m]
    by_cases hj : j = sl.length
    · subst hj; simp
    · rw [beq_ne hj, cond_false]
      rcases Nat.lt_or_ge j sl.length with h | h
      · rw [List.getElem?_append_left h]
      · rw [List.getElem?_eq_none h, List.getElem?_eq_none (by simp; omega)]
  have h3 : ∀ (h h' : H), h.m = h'.m → rdRow true h j1 v = rdRow true h' j1 v := fun h h' e => by
    obtain ⟨n, m⟩ := h
    obtain ⟨n', m'⟩ := h'
    simp only at e
    subst e
    unfold rdRow
    simp only [rdLeaf]
    rw [rds_m (n' := n'), lt_m]
  rw [h3 _ _ h2]
  exact h1
theorem rdRow_more2 {sl : List Slot} {s : Slot} {v : SV} {xs : List ByteArray} (hr : rdRow true (hL sl) t1 v = some xs) : rdRow true (hL (sl ++ [s])) t1 v = some xs := by
  have h1 := rdRow_put (i := sl.length) (s := s) (by rw [hL_m, List.getElem?_eq_none (Nat.le_refl _)]; rfl) hr
  have h2 : (hL (sl ++ [s])).m = ((hL sl).put sl.length s).m := funext fun j => by
    simp only [H.put, hL_m]
    by_cases hj : j = sl.length
    · subst hj; simp
    · rw [beq_ne hj, cond_false]
      rcases Nat.lt_or_ge j sl.length with h | h
      · rw [List.getElem?_append_left h]
      · rw [List.getElem?_eq_none h, List.getElem?_eq_none (by simp; omega)]
  have h3 : ∀ (h h' : H), h.m = h'.m → rdRow true h t1 v = rdRow true h' t1 v := fun h h' e => by
    obtain ⟨n, m⟩ := h
    obtain ⟨n', m'⟩ := h'
    simp only at e
    subst e
    unfold rdRow
    simp only [rdLeaf]
    rw [rds_m (n' := n'), lt_m]
  rw [h3 _ _ h2]
  exact h1
theorem freeM_free {ok : Fct → Bool} : ∀ (args : List V) (h : H) (v : V) (h' : H), (mkX [.agg FS] (.many [.agg FS, .leaf (.int .i64)]) (freeM ok)).cps args h (fun v h => some (v, h)) = some (v, h') →
    h.next ≤ h'.next ∧ (∀ j, h.m j ≠ .fresh → h'.m j = h.m j) ∧ ∀ (i : Nat) (s : Slot), i < h.next → h.m i = .fresh → h'.m i = .fresh ∧ (mkX [.agg FS] (.many [.agg FS, .leaf (.int .i64)]) (freeM ok)).cps args (h.put i s) (fun v h => some (v, h)) = some (v, h'.put i s) := fun args h v h' hv => by
  obtain ⟨x, r, hx, hf, rfl⟩ := mkX_call hv
  obtain ⟨e, g, he, hg, hc, htop, hr⟩ := freeM_is hf
  simp only [Prod.mk.injEq] at hr
  obtain ⟨rfl, rfl⟩ := hr
  refine ⟨newsH_next _ _, fun j hj => newsH_old _ _ j (Nat.lt_of_not_le fun hle => hj (htop j hle)), fun i s hi hfr => ⟨by rw [newsH_old _ _ i hi]; exact hfr, mkX_give hx ?_⟩⟩
  unfold freeM
  rw [rdRow_put hfr he, rdRow_put hfr hg]
  simp only [Option.bind_some]
  rw [if_pos ⟨hc, fun j hj => by
    have hj' : h.next ≤ j := hj
    simp only [H.put, beq_ne (show j ≠ i by omega), cond_false]
    exact htop j hj'⟩, newsH_put _ _ _ _ hi]
def sm (x : Fct) : Bool := decide (x.2.2.2.2.1.length ≤ 2 ^ 20) && decide (x.2.2.2.2.2.length ≤ 2 ^ 20)
noncomputable def madeFree (a : LT FS) (h : H) : Option ((LT FS × Int) × H) := freeM sm a h
noncomputable def formFree (a : LT FS) (h : H) : Option ((LT FS × Int) × H) := freeM (fun x => sm x && corrects x) a h
noncomputable def madeFree.e : Entry := { mkX [.agg FS] (.many [.agg FS, .leaf (.int .i64)]) madeFree with
  free := true
  hfree := fun _ => freeM_free }
noncomputable def formFree.e : Entry := { mkX [.agg FS] (.many [.agg FS, .leaf (.int .i64)]) formFree with
  free := true
  hfree := fun _ => freeM_free }
section at_
variable {sl : List Slot} {a : LT FS}
theorem rd_cA {t : List Slot} : rdT (.agg FS) (hL (sl ++ [.own (cA a) 6] ++ t)) (.hp sl.length 6 0) = some a := by
  rw [rds_hp (by simp), hL_m, List.getElem?_append_left (by simp), List.getElem?_append_right (Nat.le_refl _), Nat.sub_self]
  rfl
theorem rd_cA' {s : Slot} {t : List Slot} : rdT (.agg FS) (hL (sl ++ [s] ++ [.own (cA a) 6] ++ t)) (.hp (sl ++ [s]).length 6 0) = some a := rd_cA
theorem wr_cA {s t : Slot} {cs : List V} {vs : List V} (hc : cs.length = 6) (hv : vs.length = 6) : H.wrs (hL (sl ++ [s] ++ [.own cs 6] ++ [t])) (.hp (sl ++ [s]).length 6 0) vs = some (hL (sl ++ [s] ++ [.own vs 6] ++ [t])) := by
  rw [wr_all (e := 6) (cs := cs) (g := 6) (by simp) hc hv, set_app (by simp), set_new rfl]
end at_
theorem made_heads {sl : List Slot} {a : LT FS} {e : List Int} {g : List ByteArray} (he : rdRow true (hL sl) j1 a.2.2.2.2.1 = some e) (hg : rdRow true (hL sl) t1 a.2.2.2.2.2 = some g) (t : LT FS) (y : Fct) :
    (∀ u, rdT (.agg FS) (hL (sl ++ [.own (cA a) 6] ++ u)) (.hp sl.length 6 0) = some a) ∧ (∀ u v, rdT (.agg FS) (hL (sl ++ [.own (cA a) 6] ++ u ++ v)) (.hp sl.length 6 0) = some a) ∧
    (∀ cs, cs.length = 6 → ∀ b, H.wrs (hL (sl ++ [.own (cA a) 6] ++ [.own cs 6])) (.hp (sl ++ [Slot.own (cA a) 6]).length 6 0) (cA b) = some (hL (sl ++ [.own (cA a) 6] ++ [.own (cA b) 6]))) ∧
    (∀ cs, cs.length = 6 → ∀ b s, H.wrs (hL (sl ++ [.own (cA a) 6] ++ [.own cs 6] ++ [s])) (.hp (sl ++ [Slot.own (cA a) 6]).length 6 0) (cA b) = some (hL (sl ++ [.own (cA a) 6] ++ [.own (cA b) 6] ++ [s]))) ∧
    (∀ b, rdT (.agg FS) (hL (sl ++ [.own (cA a) 6] ++ [.own (cA b) 6])) (.hp (sl ++ [Slot.own (cA a) 6]).length 6 0) = some b) ∧
    (∀ b s, rdT (.agg FS) (hL (sl ++ [.own (cA a) 6] ++ [.own (cA b) 6] ++ [s])) (.hp (sl ++ [Slot.own (cA a) 6]).length 6 0) = some b) ∧
    (∀ b : LT FS, rdRow true (hL (sl ++ [.own (cA a) 6] ++ [.own (cA b) 6])) j1 a.2.2.2.2.1 = some e ∧ rdRow true (hL (sl ++ [.own (cA a) 6] ++ [.own (cA b) 6])) t1 a.2.2.2.2.2 = some g) := by
  refine ⟨fun u => rd_cA, fun u v => by rw [List.append_assoc]; exact rd_cA, fun cs hc b => ?_, fun cs hc b s => wr_cA hc rfl, fun b => ?_, fun b s => rd_cA', fun b => ⟨rdRow_more1 (rdRow_more1 he), rdRow_more2 (rdRow_more2 hg)⟩⟩
  · rw [wr_all (e := 6) (cs := cs) (g := 6) (by simp) hc rfl, set_new rfl]
  · have := rd_cA (sl := sl ++ [.own (cA a) 6]) (a := b) (t := [])
    rw [List.append_nil] at this
    exact this
theorem made_at {sl : List Slot} {a : LT FS} {r : (LT FS × Int) × H} (hr : madeFree a (hL sl) = some r) : arrival_made a (hL sl) = some r := by
  obtain ⟨e, g, he, hg, hc, _, hr⟩ := freeM_is hr
  subst hr
  rw [newsH_hL]
  simp only [sm, Bool.and_eq_true, decide_eq_true_eq] at hc
  have C := Check_ok (fctOf a e g)
  have T := Target_ok (fctOf a e g) hc.1 hc.2
  obtain ⟨m1, m2, m3, m4, m5, m6, m7⟩ := made_heads he hg zL (fctOf a e g)
  have w3 : ∀ s1 s2 : Slot, H.wrs (hL (sl ++ [s1] ++ [s2] ++ [.own zF0 6])) (.hp (sl ++ [s1] ++ [s2]).length 6 0) (cT (targetF (fctOf a e g)).1) = some (hL (sl ++ [s1] ++ [s2] ++ [.own (cT (targetF (fctOf a e g)).1) 6])) := fun s1 s2 => wr_new (g := 6) (e := 6) (cs := zF0) rfl rfl rfl
  obtain ⟨a0, a1, a2, a3, a4, a5⟩ := a
  have m7' := m7 zL
  have m3' := m3 zF0 rfl zL
  have m5' := m5 zL
  have m4' := m4 zF0 rfl zL
  have m4'' := m4 zF0 rfl (a0, a1, a2, a3, a4, a5)
  have m6' := m6 zL
  have m6'' := m6 (a0, a1, a2, a3, a4, a5)
  simp only at m1 m2 m3' m4' m4'' m5' m6' m6'' m7' C T w3 he hg
  unfold arrival_made madeOut
  try simp -implicitDefEqProofs only [hL_new, hL_next, m1, m7', Option.bind_some, C]
  by_cases hC : checkF (fctOf (a0, a1, a2, a3, a4, a5) e g) = 0
  · rw [decide_eq_true hC, if_pos hC]
    try simp -implicitDefEqProofs only [Bool.not_true, cond_false, m1, m7', Option.bind_some, T, hL_new, hL_next, w3]
    by_cases hT : (targetF (fctOf (a0, a1, a2, a3, a4, a5) e g)).2 = true
    · rw [hT, if_pos rfl]
      try simp -implicitDefEqProofs only [Bool.not_true, cond_false, m2, Option.bind_some, m4'', m6'']
      simp
    · have hT' : (targetF (fctOf (a0, a1, a2, a3, a4, a5) e g)).2 = false := by simpa using hT
      rw [hT', if_neg (by simp)]
      try simp -implicitDefEqProofs only [Bool.not_false, cond_true, Option.bind_some, m4', m6']
      simp
  · rw [decide_eq_false hC, if_neg hC]
    try simp -implicitDefEqProofs only [Bool.not_false, cond_true, Option.bind_some, m3', m5']
    simp
theorem form_at {sl : List Slot} {a : LT FS} {r : (LT FS × Int) × H} (hr : formFree a (hL sl) = some r) : r54_form a (hL sl) = some r := by
  obtain ⟨e, g, he, hg, hc, _, hr⟩ := freeM_is hr
  subst hr
  rw [newsH_hL]
  simp only [sm, Bool.and_eq_true, decide_eq_true_eq] at hc
  have C := RCheck_ok (fctOf a e g)
  have T := RTarget_ok (fctOf a e g) hc.2 hc.1.1 hc.1.2
  obtain ⟨m1, m2, m3, m4, m5, m6, m7⟩ := made_heads he hg zL (fctOf a e g)
  have w3 : ∀ s1 s2 : Slot, H.wrs (hL (sl ++ [s1] ++ [s2] ++ [.own zF0 6])) (.hp (sl ++ [s1] ++ [s2]).length 6 0) (cT (targetF (fctOf a e g)).1) = some (hL (sl ++ [s1] ++ [s2] ++ [.own (cT (targetF (fctOf a e g)).1) 6])) := fun s1 s2 => wr_new (g := 6) (e := 6) (cs := zF0) rfl rfl rfl
  obtain ⟨a0, a1, a2, a3, a4, a5⟩ := a
  have m7' := m7 zL
  have m3' := m3 zF0 rfl zL
  have m5' := m5 zL
  have m4' := m4 zF0 rfl zL
  have m4'' := m4 zF0 rfl (a0, a1, a2, a3, a4, a5)
  have m6' := m6 zL
  have m6'' := m6 (a0, a1, a2, a3, a4, a5)
  simp only at m1 m2 m3' m4' m4'' m5' m6' m6'' m7' C T w3 he hg
  unfold r54_form madeOut
  try simp -implicitDefEqProofs only [hL_new, hL_next, m1, m7', Option.bind_some, C]
  by_cases hC : checkF (fctOf (a0, a1, a2, a3, a4, a5) e g) = 0
  · rw [decide_eq_true hC, if_pos hC]
    try simp -implicitDefEqProofs only [Bool.not_true, cond_false, m1, m7', Option.bind_some, T, hL_new, hL_next, w3]
    by_cases hT : (targetF (fctOf (a0, a1, a2, a3, a4, a5) e g)).2 = true
    · rw [hT, if_pos rfl]
      try simp -implicitDefEqProofs only [Bool.not_true, cond_false, m2, Option.bind_some, m4'', m6'']
      simp
    · have hT' : (targetF (fctOf (a0, a1, a2, a3, a4, a5) e g)).2 = false := by simpa using hT
      rw [hT', if_neg (by simp)]
      try simp -implicitDefEqProofs only [Bool.not_false, cond_true, Option.bind_some, m4', m6']
      simp
  · rw [decide_eq_false hC, if_neg hC]
    try simp -implicitDefEqProofs only [Bool.not_false, cond_true, Option.bind_some, m3', m5']
    simp
theorem madeFree.ok : EntryOK Tryz.prog 75 madeFree.e := by
  have := mkX_sub (f' := madeFree) arrival_made.ok (fun _ => rfl) fun x sl r hr => made_at hr
  exact this
theorem formFree.ok : EntryOK Tryz.prog 76 formFree.e := by
  have := mkX_sub (f' := formFree) r54_form.ok (fun _ => rfl) fun x sl r hr => form_at hr
  exact this

end Go.Proofs.YtjkjcnadgpndoaaGreat
