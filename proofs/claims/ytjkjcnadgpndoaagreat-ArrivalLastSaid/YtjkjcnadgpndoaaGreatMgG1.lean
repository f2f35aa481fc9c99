/- What the functions of this seat compute, and the evaluator: some texts in one. Conditions: those of each law. -/
import Derived.Test.YtjkjcnadgpndoaaGreatProg
import Derived.Test.YtjkjcnadgpndoaaGreatEvSpec
import Derived.Test.YtjkjcnadgpndoaaGreatEvSort
import Derived.Shelf.SlSortCmp.WholeK
import Derived.Shelf.SlSortCmp.NoneTotal
import Derived.Test.YtjkjcnadgpndoaaGreatMgG0
namespace Go.Proofs.YtjkjcnadgpndoaaGreat
open Go Go.Proofs.YtjkjcnadgpndoaaGreat.Ev
set_option linter.unusedVariables false
set_option linter.unusedSimpArgs false
set_option maxRecDepth 100000
set_option maxHeartbeats 4000000
/-! ### spile/spileref54.effect: function 94 -/
/-! ### spile/spileref54.Means: function 61 -/
/-! ### spile/spileref54.Merge: function 14 -/
/-! ### spile/spileref54.Trace: function 16 -/
/-! ### spile/spileref54.SameKeys: function 66 -/
/-! ### spile/spileref54.Same: function 17 -/
/-! ### spile/spileref54.Add: function 22 -/
/-! ### spile/spileref54.without: function 74 -/
/-! ### spile/spileref54.Differ: function 24 -/
/-! ### spile/spileref54.form: function 76 -/
noncomputable def r54_form.tb : Table := tab [(65, r54_TargetP.e), (71, r53_CheckP.e)] [] Table.nil
theorem r54_form.tbok : TabOK Tryz.prog (r54_form.tb) := TabOK.tab (TabOK.nil Tryz.prog) (all_cons r54_TargetP.ok (all_cons r53_CheckP.ok (all_nil _))) (all_nil _)
noncomputable def r54_form (a0 : Fsv) (h : H) : Option ((Fsv × Int) × H) :=
(match a0 with
| (a0_0, a0_1, a0_2, a0_3, a0_4, a0_5) =>
(let h1 : H := H.new h [.int .i64 a0_0, .int .i64 a0_1, .int .i64 a0_2, .int .i64 a0_3, .slice a0_4.a a0_4.len a0_4.cap a0_4.tail, .slice a0_5.a a0_5.len a0_5.cap a0_5.tail] 6
(let h2 : H := H.new h1 [.int .i64 0, .int .i64 0, .int .i64 0, .int .i64 0, .slice .nil 0 0 false, .slice .nil 0 0 false] 6
((rdT (.agg FS) h2 (.hp h.next 6 0)).bind fun (x3_0, x3_1, x3_2, x3_3, x3_4, x3_5) =>
((rdRow true h2 [.int .i64] x3_4).bind fun s5 =>
((rdRow true h2 [.str] x3_5).bind fun s6 =>
((r53_CheckP (x3_0, x3_1, x3_2, x3_3, s5, s6)).bind fun r4 =>
(bif (!(decide (r4 = 0))) then ((H.wrs h2 (.hp h1.next 6 0) [.int .i64 0, .int .i64 0, .int .i64 0, .int .i64 0, .slice .nil 0 0 false, .slice .nil 0 0 false]).bind fun h7 =>
((rdT (.agg FS) h7 (.hp h1.next 6 0 : V)).bind fun (x8_0, x8_1, x8_2, x8_3, x8_4, x8_5) =>
(some (((x8_0, x8_1, x8_2, x8_3, x8_4, x8_5), 1), h7)))) else ((rdT (.agg FS) h2 (.hp h.next 6 0)).bind fun (x9_0, x9_1, x9_2, x9_3, x9_4, x9_5) =>
((rdRow true h2 [.int .i64] x9_4).bind fun s12 =>
((rdRow true h2 [.str] x9_5).bind fun s13 =>
((r54_TargetP (x9_0, x9_1, x9_2, x9_3, s12, s13)).bind fun ((r10_0, r10_1, r10_2, r10_3, r10_4, r10_5), r11) =>
(let h14 : H := H.new h2 [.int .i64 0, .int .i64 0, .int .i64 0, .int .i64 0, .slice .nil 0 0 false, .slice .nil 0 0 false] 6
((H.wrs h14 (.hp h2.next 6 0) [.int .i64 r10_0, .int .i64 r10_1, .int .i64 r10_2, .int .i64 r10_3, .slice ((rowSV true [.int .i64] r10_4).a) r10_4.length r10_4.length true, .slice ((rowSV true [.str] r10_5).a) r10_5.length r10_5.length true]).bind fun h15 =>
(bif (!r11) then ((H.wrs h15 (.hp h1.next 6 0) [.int .i64 0, .int .i64 0, .int .i64 0, .int .i64 0, .slice .nil 0 0 false, .slice .nil 0 0 false]).bind fun h16 =>
((rdT (.agg FS) h16 (.hp h1.next 6 0 : V)).bind fun (x17_0, x17_1, x17_2, x17_3, x17_4, x17_5) =>
(some (((x17_0, x17_1, x17_2, x17_3, x17_4, x17_5), 1), h16)))) else ((rdT (.agg FS) h15 (.hp h.next 6 0)).bind fun (x18_0, x18_1, x18_2, x18_3, x18_4, x18_5) =>
((H.wrs h15 (.hp h1.next 6 0) [.int .i64 x18_0, .int .i64 x18_1, .int .i64 x18_2, .int .i64 x18_3, .slice x18_4.a x18_4.len x18_4.cap x18_4.tail, .slice x18_5.a x18_5.len x18_5.cap x18_5.tail]).bind fun h19 =>
((rdT (.agg FS) h19 (.hp h1.next 6 0 : V)).bind fun (x20_0, x20_1, x20_2, x20_3, x20_4, x20_5) =>
(some (((x20_0, x20_1, x20_2, x20_3, x20_4, x20_5), 0), h19))))))))))))))))))))
def r54_form.A : Ann := { lits := [], conds := [], loops := [], regs := [] }
theorem r54_form.eq : ∀ (x : TT [.agg FS]) (h : H), evalFn Tryz.prog (r54_form.tb) r54_form.A Tryz.f76 (.many [.agg FS, .leaf (.int .i64)]) (TT.un [.agg FS] x) h = r54_form x h := by
  intro x h
  kernel_rfl
noncomputable def r54_form.e : Entry := mkX [.agg FS] (.many [.agg FS, .leaf (.int .i64)]) fun x h => r54_form x h
theorem r54_form.ok : EntryOK Tryz.prog 76 (r54_form.e) := mkX_ok (r54_form.tbok) Tryz.mixed Tryz.func76 (by kernel_rfl) (r54_form.eq)
/-! ### spile/spileref54.Undo: function 29 -/
/-! ### spile/spilelaw54.ArrivalArrives$1: function 32 -/
/-! ### slices.DeleteFunc[[]spile/api.Fact,spile/api.Fact]: function 34 -/
noncomputable def slices_DeleteFunc_F2.tb (T : Table) : Table := tab [] [] T
theorem slices_DeleteFunc_F2.tbok (T : Table) (hT : TabOK Tryz.prog T) : TabOK Tryz.prog (slices_DeleteFunc_F2.tb T) := TabOK.tab (hT) (all_nil _) (all_nil _)
noncomputable def slices_DeleteFunc_F2.loop1 (T : Table) (a0 : SV) (a1 : V) : (Int × Int) × H → Option (Stp ((Int × Int) × H) (Flow (Int) (SV) × H)) := fun ((y3, y4), h5) =>
(bif (decide (y4 < ((a0.len : Nat) : Int))) then (guardO (0 ≤ y4 ∧ y4 < ((a0.len : Nat) : Int)) ((rdT (.agg FS) h5 (V.add a0.a (Int.toNat y4 * 6))).bind fun (x6_0, x6_1, x6_2, x6_3, x6_4, x6_5) =>
(let h7 : H := H.new h5 [.int .i64 0, .int .i64 0, .int .i64 0, .int .i64 0, .slice .nil 0 0 false, .slice .nil 0 0 false] 6
((H.wrs h7 (.hp h5.next 6 0) [.int .i64 x6_0, .int .i64 x6_1, .int .i64 x6_2, .int .i64 x6_3, .slice x6_4.a x6_4.len x6_4.cap x6_4.tail, .slice x6_5.a x6_5.len x6_5.cap x6_5.tail]).bind fun h8 =>
((rdT (.agg FS) h8 (.hp h5.next 6 0)).bind fun (x9_0, x9_1, x9_2, x9_3, x9_4, x9_5) =>
(callV T.dy a1 [.agg [.int .i64 x9_0, .int .i64 x9_1, .int .i64 x9_2, .int .i64 x9_3, .slice x9_4.a x9_4.len x9_4.cap x9_4.tail, .slice x9_5.a x9_5.len x9_5.cap x9_5.tail]] h8 fun v10 h11 =>
(Res.pack (.one (.leaf .bool)) v10).bind fun r12 =>
((bif (!r12) then ((rdT (.agg FS) h11 (.hp h5.next 6 0)).bind fun (x13_0, x13_1, x13_2, x13_3, x13_4, x13_5) =>
(guardO (0 ≤ y3 ∧ y3 < ((a0.len : Nat) : Int)) ((H.wrs h11 (V.add a0.a (Int.toNat y3 * 6)) [.int .i64 x13_0, .int .i64 x13_1, .int .i64 x13_2, .int .i64 x13_3, .slice x13_4.a x13_4.len x13_4.cap x13_4.tail, .slice x13_5.a x13_5.len x13_5.cap x13_5.tail]).bind fun h14 =>
(some (.next (IntKind.wrap .i64 (y3 + 1)), h14))))) else (some (.next y3, h11)) : Option (Flow (Int) (SV) × H)).bind fun (fl16, h15) => match fl16 with
| .next y17 =>
(some (.more ((y17, (IntKind.wrap .i64 (y4 + 1))), h15)))
| .ret rr18 => (some (.done (.ret rr18, h15)))
| .ex0 _ => none
| .ex1 _ => none))))))) else (some (.done (.ex0 y3, h5))))
noncomputable def slices_DeleteFunc_F2 (T : Table) (a0 : SV) (a1 : V) (h : H) : Option ((SV) × H) :=
((slices_IndexFunc_F2 (slices_DeleteFunc_F2.tb T) a0 a1 h).bind fun (r1, h2) =>
(bif (decide (r1 = (-1))) then (some (a0, h2)) else ((iter FUEL (slices_DeleteFunc_F2.loop1 T a0 a1) ((r1, (IntKind.wrap .i64 (r1 + 1))), h2)).bind fun (fl20, h19) => match fl20 with
| .next _ => none
| .ret rr21 => (some (rr21, h19))
| .ex0 y22 =>
(guardO ((0 : Int) ≤ y22 ∧ y22 ≤ ((a0.len : Nat) : Int) ∧ ((a0.len : Nat) : Int) ≤ ((a0.cap : Nat) : Int)) ((clearH h19 ((V.add a0.a ((Int.toNat y22) * 6)) : V) [.int .i64 0, .int .i64 0, .int .i64 0, .int .i64 0, .slice .nil 0 0 false, .slice .nil 0 0 false] ((Int.toNat ((a0.len : Nat) : Int)) - (Int.toNat y22))).bind fun h23 =>
(guardO ((0 : Int) ≤ 0 ∧ (0 : Int) ≤ y22 ∧ y22 ≤ ((a0.cap : Nat) : Int)) (some (⟨(V.add a0.a 0), ((Int.toNat y22) - Int.toNat 0), (a0.cap - Int.toNat 0), a0.tail⟩, h23)))))
| .ex1 _ => none)))
def slices_DeleteFunc_F2.A : Ann := { lits := [], conds := [(29, [5], [.leaf (.int .i64)], none, none)], loops := [(5, [5, 6], [.leaf (.int .i64), .leaf (.int .i64)], [5], [.leaf (.int .i64)], some 0, none)], regs := [] }
noncomputable def slices_DeleteFunc_F2.tc (T : Table) : Table := tab [(80, slices_IndexFunc_F2.e (slices_DeleteFunc_F2.tb T))] [] (slices_DeleteFunc_F2.tb T)
theorem slices_DeleteFunc_F2.tcok (T : Table) (hT : TabOK Tryz.prog T) : TabOK Tryz.prog (slices_DeleteFunc_F2.tc T) := TabOK.tab (slices_DeleteFunc_F2.tbok T hT) (all_cons (slices_IndexFunc_F2.ok _ (slices_DeleteFunc_F2.tbok T hT)) (all_nil _)) (all_nil _)
theorem slices_DeleteFunc_F2.eq (T : Table) : ∀ (x : TT [.leaf .slice, .leaf .dyn]) (h : H), evalFn Tryz.prog (slices_DeleteFunc_F2.tc T) slices_DeleteFunc_F2.A Tryz.f34 (.one (.leaf .slice)) (TT.un [.leaf .slice, .leaf .dyn] x) h = slices_DeleteFunc_F2 T x.1 x.2 h := by
  intro x h
  kernel_rfl
noncomputable def slices_DeleteFunc_F2.e (T : Table) : Entry := mkX [.leaf .slice, .leaf .dyn] (.one (.leaf .slice)) fun x h => slices_DeleteFunc_F2 T x.1 x.2 h
theorem slices_DeleteFunc_F2.ok (T : Table) (hT : TabOK Tryz.prog T) : EntryOK Tryz.prog 34 (slices_DeleteFunc_F2.e T) := mkX_ok (slices_DeleteFunc_F2.tcok T hT) Tryz.mixed Tryz.func34 (by kernel_rfl) (slices_DeleteFunc_F2.eq T)
/-! ### spile/spilelaw54.ArrivalApart$1: function 35 -/
/-! ### slices.IndexFunc[[]spile/api.Key,spile/api.Key]: function 85 -/
/-! ### slices.ContainsFunc[[]spile/api.Key,spile/api.Key]: function 36 -/
/-! ### spile/spilelaw54.ArrivalApart$2$1: function 38 -/
/-! ### spile/spilelaw54.ArrivalApart$2: function 37 -/
/-! ### spile/spilelaw54.ArrivalApart$3$1: function 40 -/
noncomputable def law_ArrivalApart_3_1.tb : Table := tab [] [] Table.nil
theorem law_ArrivalApart_3_1.tbok : TabOK Tryz.prog (law_ArrivalApart_3_1.tb) := TabOK.tab (TabOK.nil Tryz.prog) (all_nil _) (all_nil _)
noncomputable def law_ArrivalApart_3_1 (a0 : Fsv) (a1 : V) (h : H) : Option ((Bool) × H) :=
(match a0 with
| (a0_0, a0_1, a0_2, a0_3, a0_4, a0_5) =>
(let h1 : H := H.new h [.int .i64 a0_0, .int .i64 a0_1, .int .i64 a0_2, .int .i64 a0_3, .slice a0_4.a a0_4.len a0_4.cap a0_4.tail, .slice a0_5.a a0_5.len a0_5.cap a0_5.tail] 6
((rdT (.agg KC) h1 (.hp h.next 6 0)).bind fun (x2_0, x2_1, x2_2) =>
((rdT (.agg KC) h1 a1).bind fun (x3_0, x3_1, x3_2) =>
(some ((!(decide (x2_0 = x3_0) && (decide (x2_1 = x3_1) && (decide (x2_2 = x3_2))))), h1))))))
def law_ArrivalApart_3_1.A : Ann := { lits := [], conds := [], loops := [], regs := [] }
theorem law_ArrivalApart_3_1.eq : ∀ (x : TT [.agg FS, .leaf .ptr]) (h : H), evalFn Tryz.prog (law_ArrivalApart_3_1.tb) law_ArrivalApart_3_1.A Tryz.f40 (.one (.leaf .bool)) (TT.un [.agg FS, .leaf .ptr] x) h = law_ArrivalApart_3_1 x.1 x.2 h := by
  intro x h
  kernel_rfl
noncomputable def law_ArrivalApart_3_1.e : Entry := mkX [.agg FS, .leaf .ptr] (.one (.leaf .bool)) fun x h => law_ArrivalApart_3_1 x.1 x.2 h
theorem law_ArrivalApart_3_1.ok : EntryOK Tryz.prog 40 (law_ArrivalApart_3_1.e) := mkX_ok (law_ArrivalApart_3_1.tbok) Tryz.mixed Tryz.func40 (by kernel_rfl) (law_ArrivalApart_3_1.eq)
/-! ### spile/spilelaw54.ArrivalApart$3: function 39 -/
noncomputable def law_ArrivalApart_3.tb : Table := tab [(13, law_cp.e)] [(40, law_ArrivalApart_3_1.e)] Table.nil
theorem law_ArrivalApart_3.tbok : TabOK Tryz.prog (law_ArrivalApart_3.tb) := TabOK.tab (TabOK.nil Tryz.prog) (all_cons law_cp.ok (all_nil _)) (all_cons law_ArrivalApart_3_1.ok (all_nil _))
noncomputable def law_ArrivalApart_3 (a0 : (SV × SV × SV × SV)) (a1 : V) (h : H) : Option ((SV) × H) :=
(match a0 with
| (a0_0, a0_1, a0_2, a0_3) =>
(let h1 : H := H.new h [.slice a0_0.a a0_0.len a0_0.cap a0_0.tail, .slice a0_1.a a0_1.len a0_1.cap a0_1.tail, .slice a0_2.a a0_2.len a0_2.cap a0_2.tail, .slice a0_3.a a0_3.len a0_3.cap a0_3.tail] 4
((rdT (.leaf .slice) h1 (.hp h.next 4 0)).bind fun x2 =>
((law_cp x2 h1).bind fun (r3, h4) =>
((slices_DeleteFunc_F2 law_ArrivalApart_3.tb r3 (.func 40 [a1] : V) h4).bind fun (r5, h6) =>
(some (r5, h6)))))))
def law_ArrivalApart_3.A : Ann := { lits := [], conds := [], loops := [], regs := [] }
noncomputable def law_ArrivalApart_3.tc : Table := tab [(34, slices_DeleteFunc_F2.e (law_ArrivalApart_3.tb))] [] (law_ArrivalApart_3.tb)
theorem law_ArrivalApart_3.tcok : TabOK Tryz.prog (law_ArrivalApart_3.tc) := TabOK.tab (law_ArrivalApart_3.tbok) (all_cons (slices_DeleteFunc_F2.ok _ (law_ArrivalApart_3.tbok)) (all_nil _)) (all_nil _)
theorem law_ArrivalApart_3.eq : ∀ (x : TT [.agg [.slice, .slice, .slice, .slice], .leaf .ptr]) (h : H), evalFn Tryz.prog (law_ArrivalApart_3.tc) law_ArrivalApart_3.A Tryz.f39 (.one (.leaf .slice)) (TT.un [.agg [.slice, .slice, .slice, .slice], .leaf .ptr] x) h = law_ArrivalApart_3 x.1 x.2 h := by
  intro x h
  kernel_rfl
noncomputable def law_ArrivalApart_3.e : Entry := mkX [.agg [.slice, .slice, .slice, .slice], .leaf .ptr] (.one (.leaf .slice)) fun x h => law_ArrivalApart_3 x.1 x.2 h
theorem law_ArrivalApart_3.ok : EntryOK Tryz.prog 39 (law_ArrivalApart_3.e) := mkX_ok (law_ArrivalApart_3.tcok) Tryz.mixed Tryz.func39 (by kernel_rfl) (law_ArrivalApart_3.eq)
/-! ### slices.Reverse[[]spile/api.Fact,spile/api.Fact]: function 41 -/
/-! ### slices.Grow[[]spile/api.Fact,spile/api.Fact]: function 86 -/
/-! ### slices.Concat[[]spile/api.Fact,spile/api.Fact]: function 42 -/
/-! ### spile/spilelaw54.ArrivalLast$1: function 44 -/
noncomputable def law_ArrivalLast_1.tb : Table := tab [] [] Table.nil
theorem law_ArrivalLast_1.tbok : TabOK Tryz.prog (law_ArrivalLast_1.tb) := TabOK.tab (TabOK.nil Tryz.prog) (all_nil _) (all_nil _)
noncomputable def law_ArrivalLast_1 (a0 : Fsv) (a1 : V) (h : H) : Option ((Bool) × H) :=
(match a0 with
| (a0_0, a0_1, a0_2, a0_3, a0_4, a0_5) =>
(let h1 : H := H.new h [.int .i64 a0_0, .int .i64 a0_1, .int .i64 a0_2, .int .i64 a0_3, .slice a0_4.a a0_4.len a0_4.cap a0_4.tail, .slice a0_5.a a0_5.len a0_5.cap a0_5.tail] 6
((rdT (.agg KC) h1 (.hp h.next 6 0)).bind fun (x2_0, x2_1, x2_2) =>
((rdT (.agg KC) h1 a1).bind fun (x3_0, x3_1, x3_2) =>
(some ((decide (x2_0 = x3_0) && (decide (x2_1 = x3_1) && (decide (x2_2 = x3_2)))), h1))))))
def law_ArrivalLast_1.A : Ann := { lits := [], conds := [], loops := [], regs := [] }
theorem law_ArrivalLast_1.eq : ∀ (x : TT [.agg FS, .leaf .ptr]) (h : H), evalFn Tryz.prog (law_ArrivalLast_1.tb) law_ArrivalLast_1.A Tryz.f44 (.one (.leaf .bool)) (TT.un [.agg FS, .leaf .ptr] x) h = law_ArrivalLast_1 x.1 x.2 h := by
  intro x h
  kernel_rfl
noncomputable def law_ArrivalLast_1.e : Entry := mkX [.agg FS, .leaf .ptr] (.one (.leaf .bool)) fun x h => law_ArrivalLast_1 x.1 x.2 h
theorem law_ArrivalLast_1.ok : EntryOK Tryz.prog 44 (law_ArrivalLast_1.e) := mkX_ok (law_ArrivalLast_1.tbok) Tryz.mixed Tryz.func44 (by kernel_rfl) (law_ArrivalLast_1.eq)
/-! ### slices.Delete[[]spile/api.Fact,spile/api.Fact]: function 45 -/
noncomputable def slices_Delete_F2.tb : Table := tab [] [] Table.nil
theorem slices_Delete_F2.tbok : TabOK Tryz.prog (slices_Delete_F2.tb) := TabOK.tab (TabOK.nil Tryz.prog) (all_nil _) (all_nil _)
noncomputable def slices_Delete_F2 (a0 : SV) (a1 : Int) (a2 : Int) (h : H) : Option ((SV) × H) :=
(guardO ((0 : Int) ≤ a1 ∧ a1 ≤ a2 ∧ a2 ≤ ((a0.len : Nat) : Int) ∧ ((a0.len : Nat) : Int) ≤ ((a0.cap : Nat) : Int)) (bif (decide (a1 = a2)) then (some (a0, h)) else (let h1 : H := H.reserve h 0
(guardO ((0 : Int) ≤ 0 ∧ (0 : Int) ≤ a1 ∧ a1 ≤ ((a0.cap : Nat) : Int)) (guardO ((0 : Int) ≤ a2 ∧ a2 ≤ ((a0.len : Nat) : Int) ∧ ((a0.len : Nat) : Int) ≤ ((a0.cap : Nat) : Int)) ((cellsOf h1 (.slice (V.add a0.a ((Int.toNat a2) * 6)) ((Int.toNat ((a0.len : Nat) : Int)) - (Int.toNat a2)) (a0.cap - (Int.toNat a2)) a0.tail : V) 6).bind fun (n4, cs4) =>
((appendS h1 none 6 80 (⟨(V.add a0.a 0), ((Int.toNat a1) - Int.toNat 0), (a0.cap - Int.toNat 0), a0.tail⟩) cs4 n4).bind fun (s4, h3) =>
(guardO ((0 : Int) ≤ ((s4.len : Nat) : Int) ∧ ((s4.len : Nat) : Int) ≤ ((a0.len : Nat) : Int) ∧ ((a0.len : Nat) : Int) ≤ ((s4.cap : Nat) : Int)) ((clearH h3 ((V.add s4.a ((Int.toNat ((s4.len : Nat) : Int)) * 6)) : V) [.int .i64 0, .int .i64 0, .int .i64 0, .int .i64 0, .slice .nil 0 0 false, .slice .nil 0 0 false] ((Int.toNat ((a0.len : Nat) : Int)) - (Int.toNat ((s4.len : Nat) : Int)))).bind fun h7 =>
(some (s4, h7)))))))))))
def slices_Delete_F2.A : Ann := { lits := [], conds := [], loops := [], regs := [] }
theorem slices_Delete_F2.eq : ∀ (x : TT [.leaf .slice, .leaf (.int .i64), .leaf (.int .i64)]) (h : H), evalFn Tryz.prog (slices_Delete_F2.tb) slices_Delete_F2.A Tryz.f45 (.one (.leaf .slice)) (TT.un [.leaf .slice, .leaf (.int .i64), .leaf (.int .i64)] x) h = slices_Delete_F2 x.1 x.2.1 x.2.2 h := by
  intro x h
  kernel_rfl
noncomputable def slices_Delete_F2.e : Entry := mkX [.leaf .slice, .leaf (.int .i64), .leaf (.int .i64)] (.one (.leaf .slice)) fun x h => slices_Delete_F2 x.1 x.2.1 x.2.2 h
theorem slices_Delete_F2.ok : EntryOK Tryz.prog 45 (slices_Delete_F2.e) := mkX_ok (slices_Delete_F2.tbok) Tryz.mixed Tryz.func45 (by kernel_rfl) (slices_Delete_F2.eq)
/-! ### spile/spilelaw54.ArrivalLast$2: function 48 -/
noncomputable def law_ArrivalLast_2.tb : Table := tab [] [] Table.nil
theorem law_ArrivalLast_2.tbok : TabOK Tryz.prog (law_ArrivalLast_2.tb) := TabOK.tab (TabOK.nil Tryz.prog) (all_nil _) (all_nil _)
noncomputable def law_ArrivalLast_2 (a0 : Fsv) (a1 : V) (h : H) : Option ((Bool) × H) :=
(match a0 with
| (a0_0, a0_1, a0_2, a0_3, a0_4, a0_5) =>
(let h1 : H := H.new h [.int .i64 a0_0, .int .i64 a0_1, .int .i64 a0_2, .int .i64 a0_3, .slice a0_4.a a0_4.len a0_4.cap a0_4.tail, .slice a0_5.a a0_5.len a0_5.cap a0_5.tail] 6
((rdT (.agg KC) h1 (.hp h.next 6 0)).bind fun (x2_0, x2_1, x2_2) =>
((rdT (.agg KC) h1 a1).bind fun (x3_0, x3_1, x3_2) =>
(some ((decide (x2_0 = x3_0) && (decide (x2_1 = x3_1) && (decide (x2_2 = x3_2)))), h1))))))
def law_ArrivalLast_2.A : Ann := { lits := [], conds := [], loops := [], regs := [] }
theorem law_ArrivalLast_2.eq : ∀ (x : TT [.agg FS, .leaf .ptr]) (h : H), evalFn Tryz.prog (law_ArrivalLast_2.tb) law_ArrivalLast_2.A Tryz.f48 (.one (.leaf .bool)) (TT.un [.agg FS, .leaf .ptr] x) h = law_ArrivalLast_2 x.1 x.2 h := by
  intro x h
  kernel_rfl
noncomputable def law_ArrivalLast_2.e : Entry := mkX [.agg FS, .leaf .ptr] (.one (.leaf .bool)) fun x h => law_ArrivalLast_2 x.1 x.2 h
theorem law_ArrivalLast_2.ok : EntryOK Tryz.prog 48 (law_ArrivalLast_2.e) := mkX_ok (law_ArrivalLast_2.tbok) Tryz.mixed Tryz.func48 (by kernel_rfl) (law_ArrivalLast_2.eq)
/-! ### slices.Index[[]spile/api.Key,spile/api.Key]: function 87 -/
noncomputable def slices_Index_K2.tb : Table := tab [] [] Table.nil
theorem slices_Index_K2.tbok : TabOK Tryz.prog (slices_Index_K2.tb) := TabOK.tab (TabOK.nil Tryz.prog) (all_nil _) (all_nil _)
noncomputable def slices_Index_K2.loop1 (h : H) (a0 : SV) : (Int) × H → Option (Stp ((Int) × H) (Flow (Unit) (Int) × H)) := fun (y2, h3) =>
(bif (decide (y2 < ((a0.len : Nat) : Int))) then (let h4 : H := H.reserve h3 0
((rdT (.agg KC) h4 (.hp h.next 3 0)).bind fun (x5_0, x5_1, x5_2) =>
(guardO (0 ≤ y2 ∧ y2 < ((a0.len : Nat) : Int)) ((rdT (.agg KC) h4 (V.add a0.a (Int.toNat y2 * 3))).bind fun (x6_0, x6_1, x6_2) =>
(bif (decide (x5_0 = x6_0) && (decide (x5_1 = x6_1) && (decide (x5_2 = x6_2)))) then (some (.done (.ret y2, h4))) else (some (.more ((IntKind.wrap .i64 (y2 + 1)), h4)))))))) else (some (.done (.ex0 (), h3))))
noncomputable def slices_Index_K2 (a0 : SV) (a1 : Ky) (h : H) : Option ((Int) × H) :=
(match a1 with
| (a1_0, a1_1, a1_2) =>
(let h1 : H := H.new h [.int .i64 a1_0, .int .i64 a1_1, .int .i64 a1_2] 3
((iter FUEL (slices_Index_K2.loop1 h a0) (0, h1)).bind fun (fl8, h7) => match fl8 with
| .next _ => none
| .ret rr9 => (some (rr9, h7))
| .ex0 _ =>
(some ((-1), h7))
| .ex1 _ => none)))
def slices_Index_K2.A : Ann := { lits := [], conds := [], loops := [(2, [8], [.leaf (.int .i64)], [], [], some 0, none)], regs := [] }
theorem slices_Index_K2.eq : ∀ (x : TT [.leaf .slice, .agg KC]) (h : H), evalFn Tryz.prog (slices_Index_K2.tb) slices_Index_K2.A Tryz.f87 (.one (.leaf (.int .i64))) (TT.un [.leaf .slice, .agg KC] x) h = slices_Index_K2 x.1 x.2 h := by
  intro x h
  kernel_rfl
noncomputable def slices_Index_K2P (a0 : (List Ky)) (a1 : Ky) : Option (Int) := (slices_Index_K2 (rowSV false KC a0) a1 H.empty).bind fun p => rdRes false p.2 (.one (.leaf (.int .i64))) (Res.un (.one (.leaf (.int .i64))) p.1)
theorem slices_Index_K2P.eq : ∀ x : TT [.leaf (.row KC), .agg KC], ((evalFn Tryz.prog (slices_Index_K2.tb) slices_Index_K2.A Tryz.f87 (.one (.leaf (.int .i64))) (TT.lo false [.leaf (.row KC), .agg KC] x) H.empty).bind fun p => rdRes false p.2 (.one (.leaf (.int .i64))) (Res.un (.one (.leaf (.int .i64))) p.1)) = slices_Index_K2P x.1 x.2 := by
  intro x
  rw [show TT.lo false [.leaf (.row KC), .agg KC] x = TT.un [.leaf .slice, .agg KC] ((rowSV false KC x.1), x.2) from rfl, slices_Index_K2.eq]
  rfl
noncomputable def slices_Index_K2P.e : Entry := mkP [.leaf (.row KC), .agg KC] (.one (.leaf (.int .i64))) fun x => slices_Index_K2P x.1 x.2
theorem slices_Index_K2P.ok : EntryOK Tryz.prog 87 (slices_Index_K2P.e) := mkP_ok (slices_Index_K2.tbok) Tryz.mixed Tryz.func87 (by kernel_rfl) slices_Index_K2P.eq
/-! ### slices.Contains[[]spile/api.Key,spile/api.Key]: function 49 -/
noncomputable def slices_Contains_K2.tb : Table := tab [(87, slices_Index_K2P.e)] [] Table.nil
theorem slices_Contains_K2.tbok : TabOK Tryz.prog (slices_Contains_K2.tb) := TabOK.tab (TabOK.nil Tryz.prog) (all_cons slices_Index_K2P.ok (all_nil _)) (all_nil _)
noncomputable def slices_Contains_K2 (a0 : SV) (a1 : Ky) (h : H) : Option ((Bool) × H) :=
(match a1 with
| (a1_0, a1_1, a1_2) =>
(let h1 : H := H.new h [.int .i64 a1_0, .int .i64 a1_1, .int .i64 a1_2] 3
((rdT (.agg KC) h1 (.hp h.next 3 0)).bind fun (x2_0, x2_1, x2_2) =>
((rdRow true h1 KC a0).bind fun s4 =>
((slices_Index_K2P s4 (x2_0, x2_1, x2_2)).bind fun r3 =>
(some ((decide ((0 : Int) ≤ r3)), h1)))))))
def slices_Contains_K2.A : Ann := { lits := [], conds := [], loops := [], regs := [] }
theorem slices_Contains_K2.eq : ∀ (x : TT [.leaf .slice, .agg KC]) (h : H), evalFn Tryz.prog (slices_Contains_K2.tb) slices_Contains_K2.A Tryz.f49 (.one (.leaf .bool)) (TT.un [.leaf .slice, .agg KC] x) h = slices_Contains_K2 x.1 x.2 h := by
  intro x h
  kernel_rfl
noncomputable def slices_Contains_K2P (a0 : (List Ky)) (a1 : Ky) : Option (Bool) := (slices_Contains_K2 (rowSV false KC a0) a1 H.empty).bind fun p => rdRes false p.2 (.one (.leaf .bool)) (Res.un (.one (.leaf .bool)) p.1)
theorem slices_Contains_K2P.eq : ∀ x : TT [.leaf (.row KC), .agg KC], ((evalFn Tryz.prog (slices_Contains_K2.tb) slices_Contains_K2.A Tryz.f49 (.one (.leaf .bool)) (TT.lo false [.leaf (.row KC), .agg KC] x) H.empty).bind fun p => rdRes false p.2 (.one (.leaf .bool)) (Res.un (.one (.leaf .bool)) p.1)) = slices_Contains_K2P x.1 x.2 := by
  intro x
  rw [show TT.lo false [.leaf (.row KC), .agg KC] x = TT.un [.leaf .slice, .agg KC] ((rowSV false KC x.1), x.2) from rfl, slices_Contains_K2.eq]
  rfl
noncomputable def slices_Contains_K2P.e : Entry := mkP [.leaf (.row KC), .agg KC] (.one (.leaf .bool)) fun x => slices_Contains_K2P x.1 x.2
theorem slices_Contains_K2P.ok : EntryOK Tryz.prog 49 (slices_Contains_K2P.e) := mkP_ok (slices_Contains_K2.tbok) Tryz.mixed Tryz.func49 (by kernel_rfl) slices_Contains_K2P.eq
/-! ### spile/spilelaw54.ArrivalLast$3: function 50 -/
noncomputable def law_ArrivalLast_3.tb : Table := tab [] [] Table.nil
theorem law_ArrivalLast_3.tbok : TabOK Tryz.prog (law_ArrivalLast_3.tb) := TabOK.tab (TabOK.nil Tryz.prog) (all_nil _) (all_nil _)
noncomputable def law_ArrivalLast_3 (a0 : Fsv) (a1 : V) (h : H) : Option ((Bool) × H) :=
(match a0 with
| (a0_0, a0_1, a0_2, a0_3, a0_4, a0_5) =>
(let h1 : H := H.new h [.int .i64 a0_0, .int .i64 a0_1, .int .i64 a0_2, .int .i64 a0_3, .slice a0_4.a a0_4.len a0_4.cap a0_4.tail, .slice a0_5.a a0_5.len a0_5.cap a0_5.tail] 6
((rdT (.agg KC) h1 (.hp h.next 6 0)).bind fun (x2_0, x2_1, x2_2) =>
((rdT (.agg KC) h1 a1).bind fun (x3_0, x3_1, x3_2) =>
(some ((decide (x2_0 = x3_0) && (decide (x2_1 = x3_1) && (decide (x2_2 = x3_2)))), h1))))))
def law_ArrivalLast_3.A : Ann := { lits := [], conds := [], loops := [], regs := [] }
theorem law_ArrivalLast_3.eq : ∀ (x : TT [.agg FS, .leaf .ptr]) (h : H), evalFn Tryz.prog (law_ArrivalLast_3.tb) law_ArrivalLast_3.A Tryz.f50 (.one (.leaf .bool)) (TT.un [.agg FS, .leaf .ptr] x) h = law_ArrivalLast_3 x.1 x.2 h := by
  intro x h
  kernel_rfl
noncomputable def law_ArrivalLast_3.e : Entry := mkX [.agg FS, .leaf .ptr] (.one (.leaf .bool)) fun x h => law_ArrivalLast_3 x.1 x.2 h
theorem law_ArrivalLast_3.ok : EntryOK Tryz.prog 50 (law_ArrivalLast_3.e) := mkX_ok (law_ArrivalLast_3.tbok) Tryz.mixed Tryz.func50 (by kernel_rfl) (law_ArrivalLast_3.eq)
def keyF (f : Fct) : Ky := (f.1, f.2.1, f.2.2.1)
def cmpI (a b : Int) : Int := if a < b then -1 else if b < a then 1 else 0
def cmpT (a b : ByteArray) : Int := if Op.bytesLess a.toList b.toList = true then -1 else if a = b then 0 else 1
def cmpL {α : Type} (c : α → α → Int) : List α → List α → Int
  | [], [] => 0
  | [], _ :: _ => -1
  | _ :: _, [] => 1
  | x :: xs, y :: ys => if c x y ≠ 0 then c x y else cmpL c xs ys
def orI (a b : Int) : Int := if a ≠ 0 then a else b
def cmpK (a b : Ky) : Int := orI (cmpI a.1 b.1) (orI (cmpI a.2.1 b.2.1) (cmpI a.2.2 b.2.2))
def cmpF (a b : Fct) : Int := orI (cmpK (keyF a) (keyF b)) (orI (cmpI a.2.2.2.1 b.2.2.2.1) (orI (cmpL cmpI a.2.2.2.2.1 b.2.2.2.2.1) (cmpL cmpT a.2.2.2.2.2 b.2.2.2.2.2)))
/-- A total order by a number's sign. -/
structure TO {α : Type} (c : α → α → Int) : Prop where
  refl : ∀ x, c x x = 0
  zero : ∀ x y, c x y = 0 → x = y
  anti : ∀ x y, c x y < 0 ↔ 0 < c y x
  trans : ∀ x y z, c x y < 0 → c y z < 0 → c x z < 0
theorem TO.ord {α : Type} {c : α → α → Int} (t : TO c) : Ord3 c :=
  ⟨t.refl, t.anti, t.trans, fun x y z h k => by rw [t.zero x y h]; exact k, fun x y z h k => by rw [← t.zero y z k]; exact h⟩
theorem TO.iff {α : Type} {c : α → α → Int} (t : TO c) {x y : α} : c x y = 0 ↔ x = y := ⟨t.zero x y, fun h => by rw [h]; exact t.refl y⟩
theorem cmpI_to : TO cmpI := by
  refine ⟨fun x => ?_, fun x y h => ?_, fun x y => ?_, fun x y z h k => ?_⟩ <;> unfold cmpI at * <;> (repeat' split at *) <;> omega
theorem lt_bytes (x y : ByteArray) : Op.bytesLess x.toList y.toList = decide (x.toList < y.toList) := Proofs.bytesLess_eq _ _
theorem toList_inj {x y : ByteArray} (h : x.toList = y.toList) : x = y := by
  rw [ByteArray.toList_eq, ByteArray.toList_eq] at h
  cases x; cases y
  simp only at h
  congr 1
  exact Array.toList_inj.1 h
theorem cmpT_to : TO cmpT := by
  have tri : ∀ x y : ByteArray, ¬ x.toList < y.toList → ¬ y.toList < x.toList → x = y := fun x y h1 h2 => toList_inj (by
    have h1' := List.not_lt.1 h1
    have h2' := List.not_lt.1 h2
    exact List.le_antisymm h2' h1')
  refine ⟨fun x => ?_, fun x y h => ?_, fun x y => ?_, fun x y z h k => ?_⟩ <;> unfold cmpT at * <;> simp only [lt_bytes, decide_eq_true_eq] at *
  · rw [if_neg (List.lt_irrefl _)]; rfl
  · split at h
    · omega
    · split at h
      · assumption
      · omega
  · by_cases h1 : x.toList < y.toList
    · have h2 : ¬ y.toList < x.toList := List.lt_asymm h1
      have h3 : ¬ y = x := fun e => by rw [e] at h1; exact List.lt_irrefl _ h1
      simp [h1, h2, h3]
    · by_cases h2 : y.toList < x.toList
      · have h3 : ¬ x = y := fun e => by rw [e] at h2; exact List.lt_irrefl _ h2
        simp [h1, h2, h3]
      · have := tri x y h1 h2
        subst this
        simp [h1]
  · have h1 : x.toList < y.toList := by
      split at h
      · assumption
      · split at h <;> omega
    have h2 : y.toList < z.toList := by
      split at k
      · assumption
      · split at k <;> omega
    rw [if_pos (List.lt_trans h1 h2)]
    omega
theorem lex_to {α β : Type} {c : α → α → Int} {d : β → β → Int} (h : TO c) (k : TO d) : TO fun x y : α × β => orI (c x.1 y.1) (d x.2 y.2) := by
  refine ⟨fun x => ?_, fun x y e => ?_, fun x y => ?_, fun x y z e1 e2 => ?_⟩ <;> unfold orI at *
  · simp [h.refl, k.refl]
  · by_cases h1 : c x.1 y.1 = 0
    · simp only [h1, ne_eq, not_true_eq_false, if_false] at e
      exact Prod.ext (h.zero _ _ h1) (k.zero _ _ e)
    · simp only [ne_eq, h1, not_false_eq_true, if_true] at e
  · by_cases h1 : x.1 = y.1
    · rw [h1, h.refl]; simpa using k.anti x.2 y.2
    · have h2 : c x.1 y.1 ≠ 0 := fun e => h1 (h.zero _ _ e)
      have h3 : c y.1 x.1 ≠ 0 := fun e => h1 (h.zero _ _ e).symm
      simpa [h2, h3] using h.anti x.1 y.1
  · by_cases h1 : x.1 = y.1
    · simp only [h1, h.refl, ne_eq, not_true_eq_false, if_false] at e1
      by_cases h2 : y.1 = z.1
      · simp only [h2, h.refl, ne_eq, not_true_eq_false, if_false] at e2
        rw [h1, h2, h.refl]
        simpa using k.trans _ _ _ e1 e2
      · have h3 : c y.1 z.1 ≠ 0 := fun e => h2 (h.zero _ _ e)
        simp only [ne_eq, h3, not_false_eq_true, if_true] at e2
        rw [h1]
        simpa [h3] using e2
    · have h3 : c x.1 y.1 ≠ 0 := fun e => h1 (h.zero _ _ e)
      simp only [ne_eq, h3, not_false_eq_true, if_true] at e1
      have e3 : c x.1 z.1 < 0 := by
        by_cases h2 : y.1 = z.1
        · rw [← h2]; exact e1
        · have h4 : c y.1 z.1 ≠ 0 := fun e => h2 (h.zero _ _ e)
          simp only [ne_eq, h4, not_false_eq_true, if_true] at e2
          exact h.trans _ _ _ e1 e2
      rw [if_pos (show c x.1 z.1 ≠ 0 by omega)]
      exact e3
theorem comap_to {α β : Type} {c : β → β → Int} (h : TO c) (f : α → β) (hf : ∀ x y, f x = f y → x = y) : TO fun x y => c (f x) (f y) :=
  ⟨fun x => h.refl _, fun x y e => hf _ _ (h.zero _ _ e), fun x y => h.anti _ _, fun x y z => h.trans _ _ _⟩
theorem list_to {α : Type} {c : α → α → Int} (h : TO c) : TO (cmpL c) := by
  refine ⟨fun x => ?_, fun x => ?_, fun x => ?_, fun x => ?_⟩
  · induction x with
    | nil => rfl
    | cons a x ih => simp [cmpL, h.refl, ih]
  · induction x with
    | nil => intro y; cases y <;> simp [cmpL]
    | cons a x ih =>
      intro y
      cases y with
      | nil => simp [cmpL]
      | cons b y =>
        simp only [cmpL]
        by_cases e : c a b = 0
        · rw [if_neg (by simpa using e)]
          intro k
          rw [h.zero _ _ e, ih y k]
        · rw [if_pos e]
          intro k
          exact absurd k e
  · induction x with
    | nil => intro y; cases y <;> simp [cmpL]
    | cons a x ih =>
      intro y
      cases y with
      | nil => simp [cmpL]
      | cons b y =>
        simp only [cmpL]
        by_cases e : a = b
        · subst e; rw [h.refl]; simpa using ih y
        · have h1 : c a b ≠ 0 := fun k => e (h.zero _ _ k)
          have h2 : c b a ≠ 0 := fun k => e (h.zero _ _ k).symm
          rw [if_pos h1, if_pos h2]
          exact h.anti a b
  · induction x with
    | nil =>
      intro y z h1 h2
      cases y with
      | nil => simp [cmpL] at h1
      | cons b y => cases z <;> simp [cmpL] at *
    | cons a x ih =>
      intro y z h1 h2
      cases y with
      | nil => simp [cmpL] at h1
      | cons b y =>
        cases z with
        | nil => simp [cmpL] at h2
        | cons d z =>
          simp only [cmpL] at *
          by_cases e1 : a = b
          · subst e1
            rw [if_neg (by simp [h.refl])] at h1
            by_cases e2 : a = d
            · subst e2
              rw [if_neg (by simp [h.refl])] at h2
              rw [if_neg (by simp [h.refl])]
              exact ih _ _ h1 h2
            · have k2 : c a d ≠ 0 := fun k => e2 (h.zero _ _ k)
              rw [if_pos k2] at h2 ⊢
              exact h2
          · have k1 : c a b ≠ 0 := fun k => e1 (h.zero _ _ k)
            rw [if_pos k1] at h1
            have e3 : c a d < 0 := by
              by_cases e2 : b = d
              · rw [← e2]; exact h1
              · have k2 : c b d ≠ 0 := fun k => e2 (h.zero _ _ k)
                rw [if_pos k2] at h2
                exact h.trans _ _ _ h1 h2
            rw [if_pos (show c a d ≠ 0 by omega)]
            exact e3
theorem cmpK_to : TO cmpK := lex_to cmpI_to (lex_to cmpI_to cmpI_to)
theorem cmpF_to : TO cmpF :=
  comap_to (lex_to cmpK_to (lex_to cmpI_to (lex_to (list_to cmpI_to) (list_to cmpT_to)))) (fun f : Fct => (keyF f, f.2.2.2.1, f.2.2.2.2.1, f.2.2.2.2.2)) fun x y h => by
    obtain ⟨a, b, c, d, e, f⟩ := x
    obtain ⟨a', b', c', d', e', f'⟩ := y
    simp only [keyF, Prod.mk.injEq] at h ⊢
    obtain ⟨⟨h1, h2, h3⟩, h4, h5, h6⟩ := h
    exact ⟨h1, h2, h3, h4, h5, h6⟩
/-! ### What the functions compute -/
theorem CompareI_ok (a b : Int) : cmp_Compare_intP a b = some (cmpI a b) := by
  unfold cmp_Compare_intP cmp_Compare_int cmp_isNaN_intP cmp_isNaN_int cmpI
  try simp -implicitDefEqProofs only [evs, reduceIte, rdRes, rdTT, rdTy, rdLT, Res.un, TT.un, Ty.un, LT.un, Leaf.un, Leaf.plain, LT.plain, decide_true, Bool.not_true, cond_false, Option.bind_some]
  by_cases h : a < b
  · rw [decide_eq_true h, if_pos h]; rfl
  · rw [decide_eq_false h, if_neg h]
    by_cases k : b < a
    · rw [decide_eq_true k, if_pos k]; rfl
    · rw [decide_eq_false k, if_neg k]; rfl
theorem CompareT_ok (a b : ByteArray) : cmp_Compare_stringP a b = some (cmpT a b) := by
  unfold cmp_Compare_stringP cmp_Compare_string cmp_isNaN_stringP cmp_isNaN_string cmpT
  try simp -implicitDefEqProofs only [evs, reduceIte, rdRes, rdTT, rdTy, rdLT, Res.un, TT.un, Ty.un, LT.un, Leaf.un, Leaf.plain, LT.plain, decide_true, Bool.not_true, cond_false, Option.bind_some]
  cases h : Op.bytesLess a.toList b.toList
  · rw [if_neg (by simp)]
    by_cases k : a = b
    · rw [decide_eq_true k, if_pos k]; rfl
    · rw [decide_eq_false k, if_neg k]; rfl
  · rw [if_pos rfl]; rfl
/-- The first that is not nothing. -/
def orL : List Int → Int
  | [] => 0
  | x :: l => orI x (orL l)
theorem orL_find : ∀ l : List Int, ((l.findIdx? fun x => !decide (x = 0)).bind fun i => l[i]?).getD 0 = orL l
  | [] => rfl
  | x :: l => by
    have ih := orL_find l
    simp only [List.findIdx?_cons, orL, orI]
    by_cases h : x = 0
    · subst h
      simp only [decide_true, Bool.not_true, Bool.false_eq_true, if_false, ne_eq, not_true_eq_false]
      rw [← ih]
      cases l.findIdx? (fun x => !decide (x = 0)) <;> simp
    · simp [h]
theorem Or_ok (l : List Int) (hl : l.length < 2 ^ 62) : cmp_Or_intP l = some (orL l) := by
  unfold cmp_Or_intP cmp_Or_int
  rw [iter_find l (fun x => !decide (x = 0)) (fun i => l.getD i 0) (by omega) (fun i x hx => by
    have hi := (List.getElem?_eq_some_iff.1 hx).1
    unfold cmp_Or_int.loop1
    try simp -implicitDefEqProofs only [rowSV_len, Int.toNat_natCast]
    rw [decide_eq_true (by omega), cond_true, guardO_pos (by omega), rd_row0 (ls := [.int .i64]) (w := 1) rfl (by omega), hx]
    try simp -implicitDefEqProofs only [Option.bind_some, LT.lo, Leaf.lo, List.getElem?_cons_zero, Leaf.pack, reduceIte]
    rw [i64_succ (by omega), show l.getD i 0 = x by rw [List.getD_eq_getElem?_getD, hx]; rfl]
    cases decide (x = 0) <;> rfl) (by
    unfold cmp_Or_int.loop1
    try simp -implicitDefEqProofs only [rowSV_len]
    rw [decide_eq_false (by omega), cond_false]), ← orL_find]
  cases h : l.findIdx? fun x => !decide (x = 0) with
  | none => rfl
  | some i =>
    simp only [Option.bind_some]
    rw [List.getD_eq_getElem?_getD]
    rfl
def cmpR {α : Type} (c : α → α → Int) : List α → List α → Flow Unit Int
  | [], _ => .ex0 ()
  | _ :: _, [] => .ret 1
  | x :: xs, y :: ys => if c x y ≠ 0 then .ret (c x y) else cmpR c xs ys
theorem cmpR_L {α : Type} (c : α → α → Int) : ∀ (a b : List α), (∃ r, cmpR c a b = .ret r ∧ cmpL c a b = r) ∨ (cmpR c a b = .ex0 () ∧ a.length ≤ b.length ∧ cmpL c a b = if a.length < b.length then -1 else 0)
  | [], [] => .inr ⟨rfl, Nat.le_refl _, rfl⟩
  | [], _ :: _ => .inr ⟨rfl, Nat.zero_le _, by simp [cmpL]⟩
  | _ :: _, [] => .inl ⟨1, rfl, rfl⟩
  | x :: xs, y :: ys => by
    simp only [cmpR, cmpL]
    by_cases h : c x y ≠ 0
    · rw [if_pos h, if_pos h]; exact .inl ⟨_, rfl, rfl⟩
    · rw [if_neg h, if_neg h]
      rcases cmpR_L c xs ys with ⟨r, h1, h2⟩ | ⟨h1, h2, h3⟩
      · exact .inl ⟨r, h1, h2⟩
      · exact .inr ⟨h1, by simp only [List.length_cons]; omega, by rw [h3]; simp⟩
theorem iter_cmp {α : Type} {h : H} {f : Int × H → Option (Stp (Int × H) (Flow Unit Int × H))} (c : α → α → Int) : ∀ (a b : List α) (k n : Nat),
    (∀ (i : Nat) x, a[i]? = some x → f (((k + i : Nat) : Int), h) = some (match b[i]? with | none => .done (.ret 1, h) | some y => bif !decide (c x y = 0) then .done (.ret (c x y), h) else .more (((k + i + 1 : Nat) : Int), h))) →
    f (((k + a.length : Nat) : Int), h) = some (.done (.ex0 (), h)) → a.length < n → iter n f (((k : Nat) : Int), h) = some (cmpR c a b, h)
  | [], b, k, 0, _, _, hn => by simp at hn
  | _ :: _, b, k, 0, _, _, hn => by simp at hn
  | [], b, k, n + 1, hs, hd, hn => by
    simp only [List.length_nil, Nat.add_zero] at hd
    simp only [iter]
    rw [hd]
    simp [cmpR]
  | x :: xs, b, k, n + 1, hs, hd, hn => by
    have h0 := hs 0 x rfl
    simp only [Nat.add_zero] at h0
    simp only [iter]
    rw [h0]
    cases b with
    | nil => rfl
    | cons y ys =>
      simp only [List.getElem?_cons_zero, cmpR]
      by_cases e : c x y = 0
      · rw [if_neg (by simpa using e), decide_eq_true e]
        simp only [Bool.not_true, cond_false, Option.bind_some]
        refine iter_cmp c xs ys (k + 1) n (fun i z hz => ?_) ?_ (by simpa using hn)
        · have := hs (i + 1) z (by simpa using hz)
          rw [show k + (i + 1) = k + 1 + i by omega] at this
          simpa using this
        · rw [← hd]
          congr 3
          simp only [List.length_cons]
          omega
      · rw [if_pos e, decide_eq_false e]
        rfl
theorem SCompareI_ok (a b : List Int) (ha : a.length < 2 ^ 62) : slices_Compare_int_intP a b = some (cmpL cmpI a b) := by
  unfold slices_Compare_int_intP slices_Compare_int_int
  rw [show (0 : Int) = ((0 : Nat) : Int) from rfl, iter_cmp (h := H.empty) cmpI a b 0 FUEL (fun i x hx => by
    have hi := (List.getElem?_eq_some_iff.1 hx).1
    unfold slices_Compare_int_int.loop1
    try simp -implicitDefEqProofs only [rowSV_len, Int.toNat_natCast, Nat.zero_add]
    rw [decide_eq_true (by omega), cond_true, guardO_pos (by omega), rd_row0 (ls := [.int .i64]) (w := 1) rfl (by omega), hx]
    try simp -implicitDefEqProofs only [Option.bind_some, LT.lo, Leaf.lo, List.getElem?_cons_zero, Leaf.pack, reduceIte]
    by_cases hb : b.length ≤ i
    · rw [decide_eq_true (by omega), cond_true, List.getElem?_eq_none hb]
    · have hy : b[i]? = some b[i] := List.getElem?_eq_getElem (by omega)
      rw [decide_eq_false (by omega), cond_false, guardO_pos (by omega), rd_row0 (ls := [.int .i64]) (w := 1) rfl (by omega), hy]
      try simp -implicitDefEqProofs only [Option.bind_some, LT.lo, Leaf.lo, List.getElem?_cons_zero, Leaf.pack, reduceIte, CompareI_ok]
      rw [i64_succ (by omega)]
      cases decide (cmpI x b[i] = 0) <;> rfl) (by
    unfold slices_Compare_int_int.loop1
    try simp -implicitDefEqProofs only [rowSV_len, Nat.zero_add]
    rw [decide_eq_false (by omega), cond_false]) (fuel_gt (by omega))]
  try simp -implicitDefEqProofs only [Option.bind_some]
  rcases cmpR_L cmpI a b with ⟨r, h1, h2⟩ | ⟨h1, h2, h3⟩
  · rw [h1, h2]; rfl
  · rw [h1, h3]
    try simp -implicitDefEqProofs only [rowSV_len]
    by_cases hl : a.length < b.length
    · rw [decide_eq_true (by omega), if_pos hl]; rfl
    · rw [decide_eq_false (by omega), if_neg hl]; rfl
theorem SCompareT_ok (a b : List ByteArray) (ha : a.length < 2 ^ 62) : slices_Compare_string_stringP a b = some (cmpL cmpT a b) := by
  unfold slices_Compare_string_stringP slices_Compare_string_string
  rw [show (0 : Int) = ((0 : Nat) : Int) from rfl, iter_cmp (h := H.empty) cmpT a b 0 FUEL (fun i x hx => by
    have hi := (List.getElem?_eq_some_iff.1 hx).1
    unfold slices_Compare_string_string.loop1
    try simp -implicitDefEqProofs only [rowSV_len, Int.toNat_natCast, Nat.zero_add]
    rw [decide_eq_true (by omega), cond_true, guardO_pos (by omega), rd_row0 (ls := [.str]) (w := 1) rfl (by omega), hx]
    try simp -implicitDefEqProofs only [Option.bind_some, LT.lo, Leaf.lo, List.getElem?_cons_zero, Leaf.pack, reduceIte]
    by_cases hb : b.length ≤ i
    · rw [decide_eq_true (by omega), cond_true, List.getElem?_eq_none hb]
    · have hy : b[i]? = some b[i] := List.getElem?_eq_getElem (by omega)
      rw [decide_eq_false (by omega), cond_false, guardO_pos (by omega), rd_row0 (ls := [.str]) (w := 1) rfl (by omega), hy]
      try simp -implicitDefEqProofs only [Option.bind_some, LT.lo, Leaf.lo, List.getElem?_cons_zero, Leaf.pack, reduceIte, CompareT_ok]
      rw [i64_succ (by omega)]
      cases decide (cmpT x b[i] = 0) <;> rfl) (by
    unfold slices_Compare_string_string.loop1
    try simp -implicitDefEqProofs only [rowSV_len, Nat.zero_add]
    rw [decide_eq_false (by omega), cond_false]) (fuel_gt (by omega))]
  try simp -implicitDefEqProofs only [Option.bind_some]
  rcases cmpR_L cmpT a b with ⟨r, h1, h2⟩ | ⟨h1, h2, h3⟩
  · rw [h1, h2]; rfl
  · rw [h1, h3]
    try simp -implicitDefEqProofs only [rowSV_len]
    by_cases hl : a.length < b.length
    · rw [decide_eq_true (by omega), if_pos hl]; rfl
    · rw [decide_eq_false (by omega), if_neg hl]; rfl
theorem orI_zero (a : Int) : orI a 0 = a := by unfold orI; split <;> simp_all
theorem Keys_ok (a b : Ky) : fact_KeysP a b = some (cmpK a b) := by
  obtain ⟨a0, a1, a2⟩ := a
  obtain ⟨b0, b1, b2⟩ := b
  unfold fact_KeysP fact_Keys
  try simp -implicitDefEqProofs only [evs, reduceIte, rdRes, rdTT, rdTy, rdLT, Res.un, TT.un, Ty.un, LT.un, Leaf.un, Leaf.plain, LT.plain, evh, List.replicate, splice, LT.pack, Leaf.pack, Nat.reduceAdd, Nat.reduceSub, Nat.reduceLeDiff, Nat.reduceLT, Nat.reduceEqDiff, LT.lo, Leaf.lo, CompareI_ok]
  rw [Or_ok _ (by simp only [List.length_cons, List.length_nil]; omega)]
  try simp -implicitDefEqProofs only [Option.bind_some, orL, orI_zero]
  rfl
/-- Facts whose lists are not without end. -/
def okF (f : Fct) : Bool := decide (f.2.2.2.2.1.length < 2 ^ 40) && decide (f.2.2.2.2.2.length < 2 ^ 40)
theorem Compare_ok (a b : Fct) (ha : okF a = true) : fact_CompareP a b = some (cmpF a b) := by
  obtain ⟨a0, a1, a2, a3, a4, a5⟩ := a
  obtain ⟨b0, b1, b2, b3, b4, b5⟩ := b
  simp only [okF, Bool.and_eq_true, decide_eq_true_eq] at ha
  unfold fact_CompareP fact_Compare
  have r4 : ∀ h, rdRow true h [.int .i64] ⟨(rowSV false [.int .i64] a4).a, a4.length, a4.length, true⟩ = some a4 := fun h => rdRow_args (f := false) rfl
  have r5 : ∀ h, rdRow true h [.str] ⟨(rowSV false [.str] a5).a, a5.length, a5.length, true⟩ = some a5 := fun h => rdRow_args (f := false) rfl
  have s4 : ∀ h, rdRow true h [.int .i64] ⟨(rowSV false [.int .i64] b4).a, b4.length, b4.length, true⟩ = some b4 := fun h => rdRow_args (f := false) rfl
  have s5 : ∀ h, rdRow true h [.str] ⟨(rowSV false [.str] b5).a, b5.length, b5.length, true⟩ = some b5 := fun h => rdRow_args (f := false) rfl
  try simp -implicitDefEqProofs only [evs, reduceIte, rdRes, rdTT, rdTy, rdLT, Res.un, TT.un, Ty.un, LT.un, Leaf.un, Leaf.plain, LT.plain, evh, List.replicate, splice, LT.pack, Leaf.pack, Nat.reduceAdd, Nat.reduceSub, Nat.reduceLeDiff, Nat.reduceLT, Nat.reduceEqDiff, LT.lo, Leaf.lo, CompareI_ok, Keys_ok, r4, r5, s4, s5]
  rw [SCompareI_ok _ _ (by omega), Option.bind_some, SCompareT_ok _ _ (by omega), Option.bind_some]
  rw [Or_ok _ (by simp only [List.length_cons, List.length_nil]; omega)]
  try simp -implicitDefEqProofs only [Option.bind_some, orL, orI_zero]
  rfl
/-
  DERIVED: THE SHELF's CONTRACTS AT THIS DUMP, IN PLAIN WORDS (tools/lay-plain.mjs out of 'TryzSorts.lean', which tools/lay-shelf.mjs wrote): THE SAME DECLARATIONS UNDER THE SAME YtjkjcnadgpndoaaGreatS: 'import', 'namespace', 'open', 'def', 'theorem' AND NOTHING ELSE: no command of the shelf's: FOR A HAND-IN. Each laying: the table of numbers ('.._ren') and one theorem, a field a fact of the dump's own or the kernel's comparison; each contract: ONE APPLICATION.
-/
end Go.Proofs.YtjkjcnadgpndoaaGreat
namespace Go.Proofs
open Go.Shelf
def Tryz.sortK_ren : Go.Shelf.Ren := ⟨fun | 6 => 57 | 15 => 92 | 14 => 93 | 28 => 120 | 29 => 121 | 20 => 122 | 21 => 123 | 22 => 124 | 23 => 125 | 24 => 126 | 25 => 127 | 26 => 128 | 27 => 129 | 46 => 142 | 47 => 138 | 48 => 139 | 49 => 143 | 50 => 144 | 57 => 147 | n => n, fun | 22 => 27 | 24 => 24 | 25 => 81 | 3 => 3 | 39 => 106 | 0 => 0 | 53 => 127 | 55 => 129 | 4 => 4 | 46 => 121 | 45 => 120 | 50 => 116 | 5 => 5 | 9 => 9 | 66 => 138 | 70 => 142 | 76 => 147 | 77 => 148 | n => n, fun | n => n⟩
theorem Tryz.sortK : Go.Proofs.SlLaysF0.n6 Tryz.prog Tryz.sortK_ren := {
  mixed := by kernel_rfl
  f6 := ⟨Tryz.f57.name, by decide, Tryz.func57.trans (congrArg some (by kernel_rfl))⟩
  f14 := ⟨Tryz.f93.name, by decide, Tryz.func93.trans (congrArg some (by kernel_rfl))⟩
  f15 := Tryz.func92.trans (congrArg some (by kernel_rfl))
  f20 := ⟨Tryz.f122.name, by decide, Tryz.func122.trans (congrArg some (by kernel_rfl))⟩
  f21 := ⟨Tryz.f123.name, by decide, Tryz.func123.trans (congrArg some (by kernel_rfl))⟩
  f22 := ⟨Tryz.f124.name, by decide, Tryz.func124.trans (congrArg some (by kernel_rfl))⟩
  f23 := ⟨Tryz.f125.name, by decide, Tryz.func125.trans (congrArg some (by kernel_rfl))⟩
  f24 := ⟨Tryz.f126.name, by decide, Tryz.func126.trans (congrArg some (by kernel_rfl))⟩
  f25 := ⟨Tryz.f127.name, by decide, Tryz.func127.trans (congrArg some (by kernel_rfl))⟩
  f26 := ⟨Tryz.f128.name, by decide, Tryz.func128.trans (congrArg some (by kernel_rfl))⟩
  f27 := ⟨Tryz.f129.name, by decide, Tryz.func129.trans (congrArg some (by kernel_rfl))⟩
  f28 := Tryz.func120.trans (congrArg some (by kernel_rfl))
  f29 := Tryz.func121.trans (congrArg some (by kernel_rfl))
  f46 := ⟨Tryz.f142.name, by decide, Tryz.func142.trans (congrArg some (by kernel_rfl))⟩
  f47 := Tryz.func138.trans (congrArg some (by kernel_rfl))
  f48 := Tryz.func139.trans (congrArg some (by kernel_rfl))
  f49 := ⟨Tryz.f143.name, by decide, Tryz.func143.trans (congrArg some (by kernel_rfl))⟩
  f50 := ⟨Tryz.f144.name, by decide, Tryz.func144.trans (congrArg some (by kernel_rfl))⟩
  f57 := ⟨Tryz.f147.name, by decide, Tryz.func147.trans (congrArg some (by kernel_rfl))⟩
  t0 := Tryz.underlying0
  a0 := Tryz.isAgg0
  z0 := Tryz.sizeOf0
  v0 := Tryz.zeroValue0
  t3 := Tryz.underlying3
  a3 := Tryz.isAgg3
  z3 := Tryz.sizeOf3
  v3 := Tryz.zeroValue3
  t4 := Tryz.underlying4
  a4 := Tryz.isAgg4
  z4 := Tryz.sizeOf4
  v4 := Tryz.zeroValue4
  t5 := Tryz.underlying5
  a5 := Tryz.isAgg5
  z5 := Tryz.sizeOf5
  v5 := Tryz.zeroValue5
  t9 := Tryz.underlying9
  a9 := Tryz.isAgg9
  z9 := Tryz.sizeOf9
  v9 := Tryz.zeroValue9
  t22 := Tryz.underlying27
  a22 := Tryz.isAgg27
  z22 := Tryz.sizeOf27
  v22 := Tryz.zeroValue27
  t25 := Tryz.underlying81
  a25 := Tryz.isAgg81
  z25 := Tryz.sizeOf81
  v25 := Tryz.zeroValue81
  t39 := Tryz.underlying106
  a39 := Tryz.isAgg106
  z39 := Tryz.sizeOf106
  v39 := Tryz.zeroValue106
  t45 := Tryz.underlying120
  a45 := Tryz.isAgg120
  z45 := Tryz.sizeOf120
  v45 := Tryz.zeroValue120
  t46 := Tryz.underlying121
  a46 := Tryz.isAgg121
  z46 := Tryz.sizeOf121
  v46 := Tryz.zeroValue121
  t50 := Tryz.underlying116
  a50 := Tryz.isAgg116
  z50 := Tryz.sizeOf116
  v50 := Tryz.zeroValue116
  t53 := Tryz.underlying127
  a53 := Tryz.isAgg127
  z53 := Tryz.sizeOf127
  v53 := Tryz.zeroValue127
  t55 := Tryz.underlying129
  a55 := Tryz.isAgg129
  z55 := Tryz.sizeOf129
  v55 := Tryz.zeroValue129
  t66 := Tryz.underlying138
  a66 := Tryz.isAgg138
  z66 := Tryz.sizeOf138
  v66 := Tryz.zeroValue138
  t70 := Tryz.underlying142
  a70 := Tryz.isAgg142
  z70 := Tryz.sizeOf142
  v70 := Tryz.zeroValue142
  t76 := Tryz.underlying147
  a76 := Tryz.isAgg147
  z76 := Tryz.sizeOf147
  v76 := Tryz.zeroValue147
  t77 := Tryz.underlying148
  a77 := Tryz.isAgg148
  z77 := Tryz.sizeOf148
  v77 := Tryz.zeroValue148 }
def Tryz.sortF_ren : Go.Shelf.Ren := ⟨fun | 6 => 56 | 15 => 92 | 14 => 91 | 28 => 120 | 29 => 121 | 20 => 112 | 21 => 113 | 22 => 114 | 23 => 115 | 24 => 116 | 25 => 117 | 26 => 118 | 27 => 119 | 46 => 137 | 47 => 138 | 48 => 139 | 49 => 140 | 50 => 141 | 57 => 146 | n => n, fun | 22 => 22 | 24 => 42 | 25 => 54 | 3 => 3 | 39 => 106 | 0 => 0 | 53 => 127 | 55 => 129 | 4 => 4 | 46 => 121 | 45 => 120 | 50 => 116 | 5 => 5 | 9 => 9 | 66 => 138 | 70 => 142 | 76 => 147 | 77 => 148 | n => n, fun | n => n⟩
theorem Tryz.sortF : Go.Proofs.SlLaysF0.n6 Tryz.prog Tryz.sortF_ren := {
  mixed := by kernel_rfl
  f6 := ⟨Tryz.f56.name, by decide, Tryz.func56.trans (congrArg some (by kernel_rfl))⟩
  f14 := ⟨Tryz.f91.name, by decide, Tryz.func91.trans (congrArg some (by kernel_rfl))⟩
  f15 := Tryz.func92.trans (congrArg some (by kernel_rfl))
  f20 := ⟨Tryz.f112.name, by decide, Tryz.func112.trans (congrArg some (by kernel_rfl))⟩
  f21 := ⟨Tryz.f113.name, by decide, Tryz.func113.trans (congrArg some (by kernel_rfl))⟩
  f22 := ⟨Tryz.f114.name, by decide, Tryz.func114.trans (congrArg some (by kernel_rfl))⟩
  f23 := ⟨Tryz.f115.name, by decide, Tryz.func115.trans (congrArg some (by kernel_rfl))⟩
  f24 := ⟨Tryz.f116.name, by decide, Tryz.func116.trans (congrArg some (by kernel_rfl))⟩
  f25 := ⟨Tryz.f117.name, by decide, Tryz.func117.trans (congrArg some (by kernel_rfl))⟩
  f26 := ⟨Tryz.f118.name, by decide, Tryz.func118.trans (congrArg some (by kernel_rfl))⟩
  f27 := ⟨Tryz.f119.name, by decide, Tryz.func119.trans (congrArg some (by kernel_rfl))⟩
  f28 := Tryz.func120.trans (congrArg some (by kernel_rfl))
  f29 := Tryz.func121.trans (congrArg some (by kernel_rfl))
  f46 := ⟨Tryz.f137.name, by decide, Tryz.func137.trans (congrArg some (by kernel_rfl))⟩
  f47 := Tryz.func138.trans (congrArg some (by kernel_rfl))
  f48 := Tryz.func139.trans (congrArg some (by kernel_rfl))
  f49 := ⟨Tryz.f140.name, by decide, Tryz.func140.trans (congrArg some (by kernel_rfl))⟩
  f50 := ⟨Tryz.f141.name, by decide, Tryz.func141.trans (congrArg some (by kernel_rfl))⟩
  f57 := ⟨Tryz.f146.name, by decide, Tryz.func146.trans (congrArg some (by kernel_rfl))⟩
  t0 := Tryz.underlying0
  a0 := Tryz.isAgg0
  z0 := Tryz.sizeOf0
  v0 := Tryz.zeroValue0
  t3 := Tryz.underlying3
  a3 := Tryz.isAgg3
  z3 := Tryz.sizeOf3
  v3 := Tryz.zeroValue3
  t4 := Tryz.underlying4
  a4 := Tryz.isAgg4
  z4 := Tryz.sizeOf4
  v4 := Tryz.zeroValue4
  t5 := Tryz.underlying5
  a5 := Tryz.isAgg5
  z5 := Tryz.sizeOf5
  v5 := Tryz.zeroValue5
  t9 := Tryz.underlying9
  a9 := Tryz.isAgg9
  z9 := Tryz.sizeOf9
  v9 := Tryz.zeroValue9
  t22 := Tryz.underlying22
  a22 := Tryz.isAgg22
  z22 := Tryz.sizeOf22
  v22 := Tryz.zeroValue22
  t25 := Tryz.underlying54
  a25 := Tryz.isAgg54
  z25 := Tryz.sizeOf54
  v25 := Tryz.zeroValue54
  t39 := Tryz.underlying106
  a39 := Tryz.isAgg106
  z39 := Tryz.sizeOf106
  v39 := Tryz.zeroValue106
  t45 := Tryz.underlying120
  a45 := Tryz.isAgg120
  z45 := Tryz.sizeOf120
  v45 := Tryz.zeroValue120
  t46 := Tryz.underlying121
  a46 := Tryz.isAgg121
  z46 := Tryz.sizeOf121
  v46 := Tryz.zeroValue121
  t50 := Tryz.underlying116
  a50 := Tryz.isAgg116
  z50 := Tryz.sizeOf116
  v50 := Tryz.zeroValue116
  t53 := Tryz.underlying127
  a53 := Tryz.isAgg127
  z53 := Tryz.sizeOf127
  v53 := Tryz.zeroValue127
  t55 := Tryz.underlying129
  a55 := Tryz.isAgg129
  z55 := Tryz.sizeOf129
  v55 := Tryz.zeroValue129
  t66 := Tryz.underlying138
  a66 := Tryz.isAgg138
  z66 := Tryz.sizeOf138
  v66 := Tryz.zeroValue138
  t70 := Tryz.underlying142
  a70 := Tryz.isAgg142
  z70 := Tryz.sizeOf142
  v70 := Tryz.zeroValue142
  t76 := Tryz.underlying147
  a76 := Tryz.isAgg147
  z76 := Tryz.sizeOf147
  v76 := Tryz.zeroValue147
  t77 := Tryz.underlying148
  a77 := Tryz.isAgg148
  z77 := Tryz.sizeOf148
  v77 := Tryz.zeroValue148 }
end Go.Proofs
namespace Go.Proofs.YtjkjcnadgpndoaaGreat
open Go Go.Proofs.YtjkjcnadgpndoaaGreat.Ev
set_option linter.unusedVariables false
set_option linter.unusedSimpArgs false
set_option maxRecDepth 100000
set_option maxHeartbeats 4000000
abbrev KeyT : Ty := .agg [.int .i64, .int .i64, .int .i64]
abbrev FactT : Ty := .agg FS
def itA : Ann := { lits := [], conds := [], loops := [(1, [], [], [], [], some 0, none)], regs := [], ents := [(8, KeyT, .leaf .slice)] }
def apA : Ann := { lits := [], conds := [], loops := [], regs := [], rnds := [(7, [KeyT])] }
noncomputable def itE (Y : Entry) : Entry := { quiet := false, cps := fun args h _ k => evalFnK Tryz.prog (withY Table.nil Y) itA Tryz.f111 (.many []) args h fun r h' => k (Res.un (.many []) r) h' }
theorem itE.ok : ItOK Tryz.prog 111 itE := by
  intro Y hY base ρ0 hyok args h α k res hv ρ w us hle hr hrl
  have := fn_callsK ((TabW.nil _).withY hY) Tryz.mixed Tryz.func111 hv rfl
  exact ⟨run_callFunc Tryz.func111 this.1 (by kernel_rfl) _ w, Calls.mono (this.2 base ρ w us (hyok.mono hle) hr hrl) fun e w' ⟨r, h', h1, h2⟩ => ⟨_, _, h1, h2⟩⟩
/-! ### The equations -/
noncomputable def itLoop (l : Nat) (f : Ky → H → Option H) (h0 : H) : Unit × H → Option (Stp (Unit × H) (Flow Unit Unit × H)) := fun (_, h2) =>
  (curG h2 (.hp h0.next 0 0 : V) KeyT (.leaf .slice)).bind fun ((k0, k1, k2), v) =>
  (let h3 : H := H.new h2 [.int .i64 0, .int .i64 0, .int .i64 0] 3
  ((H.wrs h3 (.hp h2.next 3 0) [.int .i64 k0, .int .i64 k1, .int .i64 k2]).bind fun h4 =>
  ((rdT KeyT h4 (.hp h2.next 3 0)).bind fun (x0, x1, x2) =>
  (bif Nat.beq l l then ((f (x0, x1, x2) h4).bind fun h5 => some (.more ((), h5))) else none))))
noncomputable def itLoopE : Unit × H → Option (Stp (Unit × H) (Flow Unit Unit × H)) := fun (_, h2) => some (.done (.ex0 (), h2))
noncomputable def itK (l : Nat) (f : Ky → H → Option H) (p : V) (h : H) {R : Type} (k : V → H → Option R) : Option R :=
  (rdT (.leaf .map) h p).bind fun x4 => ((x4 : Option Nat).bind fun r => ((H.gmap h r KeyT (.leaf .slice)).bind fun es =>
  (let h1 : H := H.newS h (.miter r es.length [])
  ((iterAt h1 (.hp h.next 0 0 : V)).bind fun q => agreeN q.2.2 fun π =>
  ((mrounds q.1 q.2.1 q.2.2 (itLoop l f h) itLoopE [] π ((), h1)).bind fun (fl, h5) => match fl with
  | .next _ => none
  | .ret rr => k (Res.un (.many []) rr) h5
  | .ex0 _ => k (Res.un (.many []) ()) h5
  | .ex1 _ => none)))))
theorem itE_eq (l : Nat) (f : TT [KeyT] → H → Option H) (p : V) (h : H) (R : Type) (k : V → H → Option R) : (itE (mkY [KeyT] l f)).cps [.yld l, p] h k = itK l f p h k := by
  kernel_rfl
noncomputable def apRound (l : Nat) (box : V) (x : Ky) (h1 : H) : Option H :=
  (h1.begin l).bind fun _ =>
  (let h4 : H := H.new h1 [.int .i64 0, .int .i64 0, .int .i64 0] 3
  ((H.wrs h4 (.hp h1.next 3 0) [.int .i64 x.1, .int .i64 x.2.1, .int .i64 x.2.2]).bind fun h5 =>
  ((h5.begin l).bind fun h6 =>
  ((rdT (.leaf .slice) h6 box).bind fun s8 =>
  ((rdT KeyT h6 (.hp h1.next 3 0)).bind fun (y0, y1, y2) =>
  ((appendS h6 none 3 24 s8 [.int .i64 y0, .int .i64 y1, .int .i64 y2] 1).bind fun (s11, h7) =>
  ((H.wrs h7 box [.slice s11.a s11.len s11.cap s11.tail]).bind fun h8 => h8.endR l)))))))
noncomputable def apK (p : V) (h : H) {R : Type} (k : SV → H → Option R) : Option R :=
  (let h1 : H := H.new h [.slice .nil 0 0 false] 1
  (itE (mkY [KeyT] h1.next fun x h2 => apRound h1.next (.hp h.next 1 0) x h2)).cps [.yld h1.next, p] (h1.newS (.loop .ready)) fun _ h2 =>
  ((h2.endL h1.next).bind fun h3 => ((rdT (.leaf .slice) h3 (.hp h.next 1 0)).bind fun s => k s h3)))
noncomputable def apT : Table := tabI [(111, itE)] Table.nil
theorem apK_eq (p : V) (h : H) (R : Type) (k : SV → H → Option R) : evalFnK Tryz.prog apT apA Tryz.f136 (.one (.leaf .slice)) [.slice .nil 0 0 false, .func 111 [p]] h k = apK p h k := by
  kernel_rfl
/-! ### The rounds -/
theorem hL_newS {l : List Slot} {s : Slot} : H.newS (hL l) s = hL (l ++ [s]) := by
  refine H.ext' (by simp [H.newS, hL]) fun i => ?_
  simp only [H.newS, hL]
  by_cases hi : i = l.length
  · subst hi; simp
  · rw [beq_ne hi, cond_false]
    rcases Nat.lt_or_ge i l.length with h | h
    · rw [List.getElem?_append_left h]
    · rw [List.getElem?_eq_none h, List.getElem?_eq_none (by simp; omega)]
mutual
theorem V.beq_refl : ∀ v : V, V.beq v v = true
  | .undef => rfl
  | .nil => rfl
  | .nilFunc => rfl
  | .nilIface => rfl
  | .bool b => by simp [V.beq]
  | .int k n => by simp [V.beq]
  | .str s => by simp [V.beq]
  | .hp id g o => by simp [V.beq]
  | .lp f cs o => by simp [V.beq, V.beqs_refl cs]
  | .slice a l c t => by simp [V.beq, V.beq_refl a]
  | .map r => by simp [V.beq]
  | .func f cs => by simp [V.beq, V.beqs_refl cs]
  | .agg cs => by simp [V.beq, V.beqs_refl cs]
  | .tuple cs => by simp [V.beq, V.beqs_refl cs]
  | .yld id => by simp [V.beq]
theorem V.beqs_refl : ∀ l : List V, V.beqs l l = true
  | [] => rfl
  | a :: l => by simp [V.beqs, V.beq_refl a, V.beqs_refl l]
end
theorem agreeN_of {R : Type} {n : Nat} {F : List Nat → Option R} {r : R} (h : ∀ π : List Nat, π.Perm (List.range n) → F π = some r) : agreeN n F = some r := by
  unfold agreeN
  rw [dif_pos ⟨r, h⟩]
  have h1 := Classical.choose_spec (⟨r, h⟩ : ∃ r, ∀ π : List Nat, π.Perm (List.range n) → F π = some r)
  have h2 := h1 _ (List.Perm.refl _)
  rw [h _ (List.Perm.refl _)] at h2
  simp only [Option.some.injEq] at h2
  rw [← h2]
/-- Between two rounds: what was there is there; the row of the keys so far. -/
structure CInv (sl : List Slot) (id n : Nat) (seen : List Nat) (ks : List Ky) (sl' : List Slot) : Prop where
  old : ∀ j, j < sl.length → sl'[j]? = sl[j]?
  lp : sl'[sl.length + 1]? = some (.loop .ready)
  it : sl'[sl.length + 2]? = some (.miter id n seen)
  lo : sl.length + 3 ≤ sl'.length
  hi : sl'.length ≤ sl.length + 3 + 3 * ks.length
  box : ∃ s o, sl'[sl.length]? = some (.own [.slice s.a s.len s.cap s.tail] 1) ∧ Acc sl' KC ks s o ∧ (o = none → sl'.length = sl.length + 3) ∧ ∀ j, o = some j → j = sl.length + 5
theorem set_app {sl : List Slot} {i : Nat} {s : Slot} {t : List Slot} (h : i < sl.length) : (sl ++ t).set i s = sl.set i s ++ t := List.set_append_left _ _ h
theorem get_app {sl : List Slot} {i : Nat} {t : List Slot} (h : i < sl.length) : (sl ++ t)[i]? = sl[i]? := List.getElem?_append_left h
theorem slice_box (s : SV) {sl : List Slot} {i e : Nat} (h : sl[i]? = some (.own [.slice s.a s.len s.cap s.tail] e)) : rdT (.leaf .slice) (hL sl) (.hp i 1 0) = some s := by
  rw [rd_own (g := 1) h rfl]
  rfl
theorem key_box {sl : List Slot} {i e : Nat} {a b c : Int} (h : sl[i]? = some (.own [.int .i64 a, .int .i64 b, .int .i64 c] e)) : rdT KeyT (hL sl) (.hp i 3 0) = some (a, b, c) := by
  rw [rds_hp (by simp), hL_m, h]
  rfl
theorem wr_all {sl : List Slot} {i e g : Nat} {cs vs : List V} (h : sl[i]? = some (.own cs e)) (hg : cs.length = g) (hl : vs.length = g) : H.wrs (hL sl) (.hp i g 0) vs = some (hL (sl.set i (.own vs e))) := by
  rw [wrs_own h hg (by omega)]
  have : splice cs 0 vs = vs := by simp [splice, List.drop_eq_nil_of_le (show cs.length ≤ vs.length by omega)]
  rw [this]
theorem set_new {sl : List Slot} {i : Nat} {s s' : Slot} (h : i = sl.length) : (sl ++ [s]).set i s' = sl ++ [s'] := by
  subst h
  simp
theorem wr_new {sl : List Slot} {e g i : Nat} {cs vs : List V} (hi : i = sl.length) (hg : cs.length = g) (hl : vs.length = g) : H.wrs (hL (sl ++ [.own cs e])) (.hp i g 0) vs = some (hL (sl ++ [.own vs e])) := by
  subst hi
  rw [wr_all (e := e) (cs := cs) (by simp) hg hl, set_new rfl]
theorem key_new {sl : List Slot} {e : Nat} {a b c : Int} : rdT KeyT (hL (sl ++ [.own [.int .i64 a, .int .i64 b, .int .i64 c] e])) (.hp sl.length 3 0) = some (a, b, c) := key_box (e := e) (by simp)
theorem acc_append' {sl : List Slot} {ls : List Leaf} {xs : List (LT ls)} {s : SV} {o : Option Nat} {w b : Nat} {x : LT ls} {vs : List V} (h : Acc sl ls xs s o) (hw : ls.length = w) (hpos : 0 < w) (hl : xs.length + 1 ≤ 2 ^ 36) (hb : b ≤ 2 ^ 11) (hv : vs = LT.lo true ls x) :
    ∃ s' sl' id, appendS (hL sl) none w b s vs 1 = some (s', hL sl') ∧ Acc sl' ls (xs ++ [x]) s' (some id) ∧ (o = some id ∨ o = none ∧ id = sl.length) ∧ sl.length ≤ sl'.length ∧ (∀ j, o ≠ some j → j < sl.length → sl'[j]? = sl[j]?) ∧ sl'.length ≤ sl.length + 1 := by
  subst hw
  cases o with
  | none =>
    obtain ⟨rfl, hs⟩ := h
    refine ⟨ownSV sl.length ls [x].length, sl ++ [.own (cellsL ls [x]) ls.length], sl.length, ?_, ⟨by simp, rfl, ?_⟩, .inr ⟨rfl, rfl⟩, ?_, fun j _ hj => ?_, ?_⟩
    · have h1 := append_nil (ls := ls) (sl := sl) (x := x) (w := ls.length) (b := b) rfl hb hv
      rcases hs with rfl | rfl
      · exact h1
      · rw [← h1]
        simp only [appendS, appendV, nilSV]
        rw [if_neg (show ¬ (1 = 0) by omega), if_neg (show ¬ (1 = 0) by omega)]
        rw [if_pos ⟨trivial, trivial, trivial⟩, if_pos ⟨trivial, trivial, trivial⟩]
    · simp
    · simp
    · exact List.getElem?_append_left hj
    · simp
  | some id =>
    obtain ⟨h1, rfl, h3⟩ := h
    have hid := (List.getElem?_eq_some_iff.1 h3).1
    refine ⟨ownSV id ls (xs ++ [x]).length, sl.set id (.own (cellsL ls (xs ++ [x])) ls.length), id, append_own h3 rfl hpos h1 hl hb hv, ⟨by simp, rfl, ?_⟩, .inl rfl, by simp, fun j hj hlt => ?_, by simp⟩
    · rw [List.getElem?_set_self hid]
    · rw [List.getElem?_set_ne (fun e => hj (by rw [e]))]
/-- One round of 'append'. -/
theorem round_ok {sl sl1 : List Slot} {id n : Nat} {seen : List Nat} {ks : List Ky} {x : Ky} (c : CInv sl id n seen ks sl1) (hk : ks.length < 2 ^ 30) :
    ∃ sl2, apRound (sl.length + 1) (.hp sl.length 1 0) x (hL (sl1 ++ [.own [.int .i64 x.1, .int .i64 x.2.1, .int .i64 x.2.2] 3])) = some (hL sl2) ∧ CInv sl id n seen (ks ++ [x]) sl2 := by
  obtain ⟨old, lp, it, lo, hi, s, o, hb, acc, ho1, ho2⟩ := c
  obtain ⟨x0, x1, x2⟩ := x
  have e1 : (hL (sl1 ++ [.own [.int .i64 x0, .int .i64 x1, .int .i64 x2] 3])).begin (sl.length + 1) = some ((hL (sl1 ++ [.own [.int .i64 x0, .int .i64 x1, .int .i64 x2] 3])).put (sl.length + 1) (.loop .busy)) := by
    simp only [H.begin, hL_m, get_app (sl := sl1) (i := sl.length + 1) (by omega), lp, Option.getD_some]
  -- the heap with both copies of the key
  obtain ⟨sl3, h3⟩ : ∃ sl3, sl3 = (sl1 ++ [.own [.int .i64 x0, .int .i64 x1, .int .i64 x2] 3]) ++ [.own [.int .i64 x0, .int .i64 x1, .int .i64 x2] 3] := ⟨_, rfl⟩
  have l3 : sl3.length = sl1.length + 2 := by rw [h3]; simp
  have g3 : ∀ j, j < sl1.length → sl3[j]? = sl1[j]? := fun j hj => by rw [h3, get_app (by simp; omega), get_app hj]
  have n3 : sl3[sl1.length + 1]? = some (.own [.int .i64 x0, .int .i64 x1, .int .i64 x2] 3) := by rw [h3]; simp
  obtain ⟨sl4, h4⟩ : ∃ sl4, sl4 = sl3.set (sl.length + 1) (.loop .busy) := ⟨_, rfl⟩
  have l4 : sl4.length = sl1.length + 2 := by rw [h4, List.length_set, l3]
  have g4 : ∀ j, j ≠ sl.length + 1 → sl4[j]? = sl3[j]? := fun j hj => by rw [h4, List.getElem?_set_ne (by omega)]
  have b4 : sl4[sl.length + 1]? = some (.loop .busy) := by rw [h4, List.getElem?_set_self (by omega)]
  have acc4 : Acc sl4 KC ks s o := acc.frame fun j hj => by
    have := ho2 j hj
    have := (show j < sl1.length by subst hj; exact acc.lt)
    rw [g4 j (by omega), g3 j this]
  obtain ⟨s', sl5, id', k1, k2, k3, k4, k5, k6⟩ := acc_append' acc4 (w := 3) (x := (x0, x1, x2)) (b := 24) (vs := [.int .i64 x0, .int .i64 x1, .int .i64 x2]) rfl (by decide) (by omega) (by omega) rfl
  have hne : ∀ j, j < sl.length + 3 → o ≠ some j := fun j hj e => by have := ho2 j e; omega
  have g5 : ∀ j, j < sl.length + 3 → sl5[j]? = sl4[j]? := fun j hj => k5 j (hne j hj) (by omega)
  have hb5 : sl5[sl.length]? = some (.own [.slice s.a s.len s.cap s.tail] 1) := by rw [g5 _ (by omega), g4 _ (by omega), g3 _ (by omega), hb]
  have id5 : id' = sl.length + 5 := by
    rcases k3 with k3 | ⟨k3, k3'⟩
    · exact ho2 _ k3
    · rw [k3', l4, ho1 k3]
  obtain ⟨sl6, h6⟩ : ∃ sl6, sl6 = sl5.set sl.length (.own [.slice s'.a s'.len s'.cap s'.tail] 1) := ⟨_, rfl⟩
  have g6 : ∀ j, j ≠ sl.length → sl6[j]? = sl5[j]? := fun j hj => by rw [h6, List.getElem?_set_ne (by omega)]
  have l6 : sl6.length = sl5.length := by rw [h6, List.length_set]
  have b6 : sl6[sl.length + 1]? = some (.loop .busy) := by rw [g6 _ (by omega), g5 _ (by omega), b4]
  obtain ⟨sl7, h7⟩ : ∃ sl7, sl7 = sl6.set (sl.length + 1) (.loop .ready) := ⟨_, rfl⟩
  have g7 : ∀ j, j ≠ sl.length + 1 → sl7[j]? = sl6[j]? := fun j hj => by rw [h7, List.getElem?_set_ne (by omega)]
  have l7 : sl7.length = sl5.length := by rw [h7, List.length_set, l6]
  refine ⟨sl7, ?_, ⟨fun j hj => ?_, ?_, ?_, by omega, by rw [List.length_append, List.length_singleton]; omega, s', some id', ?_, ?_, (fun e => by cases e), (fun j e => by cases e; exact id5)⟩⟩
  · unfold apRound
    rw [e1, Option.bind_some]
    simp only [hL_next]
    rw [hL_new, wr_new (g := 3) rfl rfl rfl, ← h3, Option.bind_some]
    have e2 : (hL sl3).begin (sl.length + 1) = some (hL sl4) := by
      simp only [H.begin, hL_m, g3 (sl.length + 1) (by omega), lp, Option.getD_some]
      rw [hL_put (by omega), ← h4]
    rw [e2, Option.bind_some, slice_box s (e := 1) (by rw [g4 _ (by omega), g3 _ (by omega), hb]), Option.bind_some]
    rw [show (sl1 ++ [Slot.own [.int .i64 x0, .int .i64 x1, .int .i64 x2] 3]).length = sl1.length + 1 by simp, key_box (e := 3) (by rw [g4 _ (by omega), n3]), Option.bind_some]
    simp only
    rw [k1, Option.bind_some]
    simp only
    rw [wr_all (g := 1) hb5 rfl rfl, ← h6, Option.bind_some]
    simp only [H.endR, hL_m, b6, Option.getD_some]
    rw [hL_put (by omega), ← h7]
  · rw [g7 _ (by omega), g6 _ (by omega), g5 _ (by omega), g4 _ (by omega), g3 _ (by omega), old j hj]
  · rw [h7, List.getElem?_set_self (by omega)]
  · rw [g7 _ (by omega), g6 _ (by omega), g5 _ (by omega), g4 _ (by omega), g3 _ (by omega), it]
  · rw [g7 _ (by omega), h6, List.getElem?_set_self (by omega)]
  · refine k2.frame fun j e => ?_
    cases e
    rw [g7 _ (by omega), g6 _ (by omega)]
/-- One round of the range over the map. -/
theorem itLoop_ok {sl sl1 : List Slot} {id n i : Nat} {seen : List Nat} {ks : List Ky} {es : List (V × V)} {l : List (Ky × SV)} (c : CInv sl id n seen ks sl1) (hk : ks.length < 2 ^ 30) (hid : sl[id]? = some (.gmap es)) (hun : unG KeyT (.leaf .slice) es = some l) (hn : l.length = n) {x : Ky} {v : SV} (hx : l[i]? = some (x, v)) {h0 : H} (h0n : h0.next = sl.length + 2) :
    ∃ sl2, itLoop (sl.length + 1) (fun x h2 => apRound (sl.length + 1) (.hp sl.length 1 0) x h2) h0 ((), (hL sl1).put (sl.length + 2) (.miter id n (seen ++ [i]))) = some (.more ((), hL sl2)) ∧
      rangeOK ((hL sl1).put (sl.length + 2) (.miter id n (seen ++ [i]))) (hL sl2) (sl.length + 2) id n (seen ++ [i]) = true ∧ CInv sl id n (seen ++ [i]) (ks ++ [x]) sl2 := by
  have lo := c.lo
  have hidl := (List.getElem?_eq_some_iff.1 hid).1
  obtain ⟨sl3, h3⟩ : ∃ sl3, sl3 = sl1.set (sl.length + 2) (.miter id n (seen ++ [i])) := ⟨_, rfl⟩
  have l3 : sl3.length = sl1.length := by rw [h3, List.length_set]
  have g3 : ∀ j, j ≠ sl.length + 2 → sl3[j]? = sl1[j]? := fun j hj => by rw [h3, List.getElem?_set_ne (by omega)]
  have c3 : CInv sl id n (seen ++ [i]) ks sl3 := by
    obtain ⟨old, lp, it, lo, hi, s, o, hb, acc, ho1, ho2⟩ := c
    refine ⟨fun j hj => by rw [g3 j (by omega)]; exact old j hj, by rw [g3 _ (by omega)]; exact lp, by rw [h3, List.getElem?_set_self (by omega)], by omega, by omega, s, o, by rw [g3 _ (by omega)]; exact hb, acc.frame fun j e => ?_, by rw [l3]; exact ho1, ho2⟩
    have := ho2 j e
    rw [g3 j (by omega)]
  obtain ⟨sl2, r1, r2⟩ := round_ok (x := x) c3 hk
  refine ⟨sl2, ?_, ?_, r2⟩
  · rw [hL_put (by omega), ← h3]
    unfold itLoop
    have hcur : curG (hL sl3) (.hp h0.next 0 0 : V) KeyT (.leaf .slice) = some (x, v) := by
      simp only [curG, h0n, hL_m, c3.it, Option.getD_some, List.getLast?_append, List.getLast?_singleton, Option.or_some, Option.some_or, Option.bind_some, H.gmap, g3 id (by omega), c.old id hidl, hid, hun]
      rw [guardO_pos hn, hx]
    simp only
    rw [hcur]
    obtain ⟨x0, x1, x2⟩ := x
    simp only [Option.bind_some, hL_next]
    rw [hL_new, wr_new (g := 3) rfl rfl rfl, Option.bind_some, key_new, Option.bind_some]
    simp only [Nat.beq_refl, cond_true]
    rw [r1]
    rfl
  · rw [hL_put (by omega), ← h3]
    simp only [rangeOK, hL_m, g3 id (by omega), c.old id hidl, r2.old id hidl, hid, r2.it, Option.getD_some, V.beqs_refl, decide_true, Bool.and_self]
theorem itLoops_ok {sl : List Slot} {id n : Nat} {es : List (V × V)} {l : List (Ky × SV)} (hid : sl[id]? = some (.gmap es)) (hun : unG KeyT (.leaf .slice) es = some l) (hn : l.length = n) {h0 : H} (h0n : h0.next = sl.length + 2) : ∀ (π seen : List Nat) (ks : List Ky) (sl1 : List Slot),
    CInv sl id n seen ks sl1 → ks.length + π.length ≤ 2 ^ 30 → (∀ i ∈ π, i < n) →
    ∃ sl2, mrounds (sl.length + 2) id n (itLoop (sl.length + 1) (fun x h2 => apRound (sl.length + 1) (.hp sl.length 1 0) x h2) h0) itLoopE seen π ((), hL sl1) = some (.ex0 (), hL sl2) ∧ CInv sl id n (seen ++ π) (ks ++ π.filterMap fun i => (l[i]?).map (·.1)) sl2
  | [], seen, ks, sl1, c, _, _ => ⟨sl1, by simp [mrounds, itLoopE], by simpa using c⟩
  | i :: π, seen, ks, sl1, c, hk, hlt => by
    have hi : i < l.length := by rw [hn]; exact hlt i (by simp)
    have hx : l[i]? = some (l[i].1, l[i].2) := List.getElem?_eq_getElem hi
    simp only [List.length_cons] at hk
    obtain ⟨sl2, r1, r2, r3⟩ := itLoop_ok c (by omega) hid hun hn hx h0n
    obtain ⟨sl3, q1, q2⟩ := itLoops_ok hid hun hn h0n π (seen ++ [i]) (ks ++ [l[i].1]) sl2 r3 (by simp; omega) fun j hj => hlt j (by simp [hj])
    refine ⟨sl3, ?_, ?_⟩
    · simp only [mrounds]
      rw [r1, Option.bind_some]
      simp only
      rw [r2, cond_true, q1]
    · simp only [List.append_assoc, List.singleton_append] at q2
      rw [List.filterMap_cons, hx]
      exact q2
/-- What the walk says: the row of the keys, in some order; all else as it was. -/
def Got (sl : List Slot) (l : List (Ky × SV)) (s : SV) (h' : H) : Prop :=
  ∃ ks : List Ky, ks.Perm (l.map (·.1)) ∧ (∀ j, j < sl.length → h'.m j = (hL sl).m j) ∧ h'.next ≤ sl.length + 3 + 3 * l.length ∧ (∀ j, h'.next ≤ j → h'.m j = .fresh) ∧
    ((ks = [] ∧ (s = nilSV ∨ s = ⟨.lp true [] 0, 0, 0, false⟩)) ∨ (ks ≠ [] ∧ s = ownSV (sl.length + 5) KC ks.length ∧ h'.m (sl.length + 5) = .own (cellsL KC ks) 3))
noncomputable def kGot (sl : List Slot) (l : List (Ky × SV)) (s : SV) (h' : H) : Option Unit :=
  open Classical in if Got sl l s h' then some () else none
theorem rd_more {l : Leaf} {sl t : List Slot} {p : V} {x : l.C} (h : rdT (.leaf l) (hL sl) p = some x) : rdT (.leaf l) (hL (sl ++ t)) p = some x := by
  cases p <;> try exact h
  rename_i id g o
  rw [rd_hp] at h ⊢
  rcases Nat.lt_or_ge id sl.length with hlt | hge
  · rw [hL_m, get_app hlt]
    exact h
  · rw [hL_m, List.getElem?_eq_none hge] at h
    cases h
theorem apK_ok {sl : List Slot} {id : Nat} {es : List (V × V)} {l : List (Ky × SV)} {p : V} (hp : rdT (.leaf .map) (hL sl) p = some (some id)) (hid : sl[id]? = some (.gmap es)) (hun : unG KeyT (.leaf .slice) es = some l) (hn : l.length ≤ 2000) :
    apK p (hL sl) (kGot sl l) = some () := by
  have hidl := (List.getElem?_eq_some_iff.1 hid).1
  have hes : es.length = l.length := by
    have : ∀ (es : List (V × V)) (l : List (Ky × SV)), unG KeyT (.leaf .slice) es = some l → es.length = l.length := fun es => by
      induction es with
      | nil => intro l h; simp only [unG, Option.some.injEq] at h; subst h; rfl
      | cons e es ih =>
        intro l h
        obtain ⟨a, b⟩ := e
        simp only [unG, Option.bind_eq_some_iff, Option.some.injEq] at h
        obtain ⟨x, _, y, _, l', h3, rfl⟩ := h
        simp only [List.length_cons, ih l' h3]
    exact this es l hun
  unfold apK
  simp only [hL_next]
  rw [hL_new]
  simp only [hL_next]
  rw [hL_newS, itE_eq]
  unfold itK
  have e1 : (sl ++ [Slot.own [.slice .nil 0 0 false] 1]).length = sl.length + 1 := by simp
  have e2 : (sl ++ [Slot.own [.slice .nil 0 0 false] 1] ++ [Slot.loop .ready]).length = sl.length + 2 := by simp
  simp only [hL_next, e1, e2]
  rw [List.append_assoc, rd_more hp]
  simp only [Option.bind_some]
  have hg : (hL (sl ++ ([Slot.own [.slice .nil 0 0 false] 1] ++ [Slot.loop .ready]))).gmap id KeyT (.leaf .slice) = some l := by
    simp only [H.gmap, hL_m, get_app hidl, hid, Option.getD_some, hun]
  rw [hg]
  simp only [Option.bind_some]
  rw [hL_newS]
  obtain ⟨sl1, h1⟩ : ∃ sl1, sl1 = sl ++ ([Slot.own [.slice .nil 0 0 false] 1] ++ [Slot.loop .ready]) ++ [Slot.miter id l.length []] := ⟨_, rfl⟩
  rw [← h1]
  have b1 : sl1[sl.length]? = some (.own [.slice .nil 0 0 false] 1) := by rw [h1]; simp
  have b2 : sl1[sl.length + 1]? = some (.loop .ready) := by rw [h1]; simp
  have b3 : sl1[sl.length + 2]? = some (.miter id l.length []) := by rw [h1]; simp
  have b0 : ∀ j, j < sl.length → sl1[j]? = sl[j]? := fun j hj => by rw [h1, get_app (by simp; omega), get_app hj]
  have hit : iterAt (hL sl1) (.hp (sl.length + 2) 0 0) = some (sl.length + 2, id, l.length) := by
    simp only [iterAt, hL_m, b3, Option.getD_some, b0 id hidl, hid]
    rw [guardO_pos ⟨hes, by omega⟩]
  rw [hit]
  simp only [Option.bind_some]
  have c1 : CInv sl id l.length [] [] sl1 := ⟨b0, b2, b3, by rw [h1]; simp, by rw [h1]; simp, ⟨.nil, 0, 0, false⟩, none, b1, Acc.nil, fun _ => by rw [h1]; simp, fun j e => by cases e⟩
  refine agreeN_of fun π hπ => ?_
  obtain ⟨sl2, q1, q2⟩ := itLoops_ok (h0 := hL (sl ++ ([Slot.own [.slice .nil 0 0 false] 1] ++ [Slot.loop .ready]))) hid hun rfl (by simp [hL_next]) π [] [] sl1 c1 (by rw [hπ.length_eq, List.length_range]; simp; omega) fun i hi => by simpa using (hπ.mem_iff.1 hi)
  rw [q1]
  simp only [Option.bind_some]
  have lo := q2.lo
  have hend : (hL sl2).endL (sl.length + 1) = some (hL (sl2.set (sl.length + 1) (.loop .exhausted))) := by
    simp only [H.endL, hL_m, q2.lp, Option.getD_some]
    rw [hL_put (by omega)]
  rw [hend]
  simp only [Option.bind_some]
  obtain ⟨s, o, hb, acc, ho1, ho2⟩ := q2.box
  rw [slice_box s (e := 1) (by rw [List.getElem?_set_ne (by omega)]; exact hb)]
  simp only [Option.bind_some, kGot]
  obtain ⟨ks, hks⟩ : ∃ ks, ks = [] ++ π.filterMap fun i => (l[i]?).map (·.1) := ⟨_, rfl⟩
  rw [← hks] at acc q2
  have hperm : ks.Perm (l.map (·.1)) := by
    rw [hks, List.nil_append]
    have := hπ.filterMap fun i => (l[i]?).map (·.1)
    refine this.trans ?_
    have : ∀ (l : List (Ky × SV)), (List.range l.length).filterMap (fun i => (l[i]?).map (·.1)) = l.map (·.1) := fun l => by
      induction l with
      | nil => rfl
      | cons a l ih =>
        rw [List.length_cons, List.range_succ_eq_map, List.filterMap_cons]
        simp only [List.getElem?_cons_zero, Option.map_some, List.filterMap_map, List.map_cons]
        congr 1
    rw [this]
  rw [if_pos]
  refine ⟨ks, hperm, fun j hj => ?_, ?_, fun j hj => ?_, ?_⟩
  · simp only [hL_m]
    rw [List.getElem?_set_ne (by omega), q2.old j hj]
  · have := q2.hi
    have := hperm.length_eq
    simp only [hL_next, List.length_set, List.length_map] at *
    omega
  · simp only [hL_next, List.length_set] at hj
    simp only [hL_m]
    rw [List.getElem?_eq_none (by rw [List.length_set]; exact hj)]
    rfl
  · cases o with
    | none =>
      obtain ⟨e, hs⟩ := acc
      exact .inl ⟨e, hs⟩
    | some j =>
      have hj := ho2 j rfl
      subst hj
      obtain ⟨a1, a2, a3⟩ := acc
      refine .inr ⟨fun e => by rw [e] at a1; simp at a1, a2, ?_⟩
      simp only [hL_m]
      rw [List.getElem?_set_ne (by omega), a3]
      rfl
/-! ### The two calls above -/
section walks
open Go.RowKit Go.Shelf
theorem ready136 (args : Array Value) (w : World) : (callFunc 136 args).run Tryz.prog w = .ok (.enter 136 args) w := run_callFunc Tryz.func136 rfl (by kernel_rfl) args w
theorem ready110 (args : Array Value) (w : World) : (callFunc 110 args).run Tryz.prog w = .ok (.enter 110 args) w := run_callFunc Tryz.func110 rfl (by kernel_rfl) args w
theorem ready57 (args : Array Value) (w : World) : (callFunc 57 args).run Tryz.prog w = .ok (.enter 57 args) w := run_callFunc Tryz.func57 rfl (by kernel_rfl) args w
theorem collect_walk {v : Value} {w : World} {Post : Value → World → Prop} (h : Calls Tryz.prog 136 #[.slice none 0 0, v] w fun e w' => ∃ r, e = .returned r ∧ Post r w') :
    Calls Tryz.prog 110 #[v] w fun e w' => ∃ r, e = .returned r ∧ Post r w' := by
  have r136 := ready136
  have mixed := Tryz.mixed
  go_enter Tryz.func110, Tryz.ntmps110
  go_wp2_with (go_at_call 136; refine h.mono ?_; rintro e w' ⟨r, rfl, hp⟩)
  go_ret
  exact ⟨r, rfl, hp⟩
theorem sorted_walk {v v2 : Value} {w : World} {Post : Value → World → Prop} {Post2 : Value → World → Prop} (h : Calls Tryz.prog 110 #[v] w fun e w' => ∃ r, e = .returned r ∧ Post r w')
    (hs : ∀ r w', Post r w' → Calls Tryz.prog 57 #[r, v2] w' fun e w'' => (∃ q, e = .returned q) ∧ Post2 r w'') : Calls Tryz.prog 89 #[v, v2] w fun e w' => ∃ r, e = .returned r ∧ Post2 r w' := by
  have r110 := ready110
  have r57 := ready57
  have mixed := Tryz.mixed
  go_enter Tryz.func89, Tryz.ntmps89
  go_wp2_with (first | (go_at_call 110; refine h.mono ?_; rintro e w' ⟨r, rfl, hp⟩) | (go_at_call 57; refine (hs _ _ hp).mono ?_; rintro e w'' ⟨⟨q, rfl⟩, hp2⟩))
  go_ret
  exact ⟨r, rfl, hp2⟩
end walks
abbrev j1 : List Leaf := [.int .i64]
abbrev t1 : List Leaf := [.str]
/-- A fact, its lists as slices. -/
def low (f : Bool) (x : Fct) : LT FS := (x.1, x.2.1, x.2.2.1, x.2.2.2.1, rowSV f j1 x.2.2.2.2.1, rowSV f t1 x.2.2.2.2.2)
theorem rd_fact {f : Bool} {h : H} {xs : List Fct} {i : Nat} : rdT (.agg FS) h ((rowSV f FC xs).a.add (i * 6)) = (xs[i]?).map (low f) := by
  rw [rds_row (ls := FC) (w := 6) rfl rfl (by omega)]
  cases xs[i]? <;> rfl
theorem row_ints {f : Bool} {h : H} {l : List Int} : rdRow true h j1 ⟨(rowSV f j1 l).a, l.length, l.length, true⟩ = some l := rdRow_args (f := f) rfl
theorem row_texts {f : Bool} {h : H} {l : List ByteArray} : rdRow true h t1 ⟨(rowSV f t1 l).a, l.length, l.length, true⟩ = some l := rdRow_args (f := f) rfl
theorem row_ints' {f : Bool} {h : H} {l : List Int} : rdRow true h j1 (rowSV f j1 l) = some l := rdRow_args rfl
theorem row_texts' {f : Bool} {h : H} {l : List ByteArray} : rdRow true h t1 (rowSV f t1 l) = some l := rdRow_args rfl
theorem res_ints {h : H} {l : List Int} : rdRow false h j1 ⟨(rowSV true j1 l).a, l.length, l.length, true⟩ = some l := rdRow_res (lp := false) rfl
theorem res_texts {h : H} {l : List ByteArray} : rdRow false h t1 ⟨(rowSV true t1 l).a, l.length, l.length, true⟩ = some l := rdRow_res (lp := false) rfl
theorem i64_suc {i : Nat} (h : i < 2 ^ 62) : IntKind.i64.wrap ((i : Int) + 1) = ((i + 1 : Nat) : Int) := i64_succ (by omega)
/-! ### Searches whose function leaves the heap as it is -/
theorem IndexI_ok {T : Table} {v : V} {h : H} {f : Bool} {xs : List Int} (p : Int → Bool) (hn : xs.length < 2 ^ 62) (hc : ∀ x ∈ xs, ∀ {R : Type} (k : V → H → Option R), callV T.dy v [.int .i64 x] h k = k (.bool (p x)) h) :
    slices_IndexFunc_int_int T (rowSV f j1 xs) v h = some (idxOf p xs, h) := by
  unfold slices_IndexFunc_int_int
  rw [iter_find xs p (fun i => (i : Int)) (by omega) (fun i x hx => by
    have hi := (List.getElem?_eq_some_iff.1 hx).1
    unfold slices_IndexFunc_int_int.loop1
    try simp -implicitDefEqProofs only [rowSV_len, Int.toNat_natCast]
    rw [decide_eq_true (by omega), cond_true, guardO_pos (by omega), rd_row0 (ls := j1) (w := 1) rfl (by omega), hx]
    try simp -implicitDefEqProofs only [Option.bind_some, LT.lo, Leaf.lo, List.getElem?_cons_zero, Leaf.pack, reduceIte]
    rw [hc x (List.mem_of_getElem? hx), i64_suc (by omega)]
    try simp -implicitDefEqProofs only [Res.pack, Ty.pack, Leaf.pack, Option.bind_some]
    cases p x <;> rfl) (by
    unfold slices_IndexFunc_int_int.loop1
    try simp -implicitDefEqProofs only [rowSV_len]
    rw [decide_eq_false (by omega), cond_false])]
  unfold idxOf
  cases xs.findIdx? p <;> rfl
theorem IndexT_ok {T : Table} {v : V} {h : H} {f : Bool} {xs : List ByteArray} (p : ByteArray → Bool) (hn : xs.length < 2 ^ 62) (hc : ∀ x ∈ xs, ∀ {R : Type} (k : V → H → Option R), callV T.dy v [.str x] h k = k (.bool (p x)) h) :
    slices_IndexFunc_string_string T (rowSV f t1 xs) v h = some (idxOf p xs, h) := by
  unfold slices_IndexFunc_string_string
  rw [iter_find xs p (fun i => (i : Int)) (by omega) (fun i x hx => by
    have hi := (List.getElem?_eq_some_iff.1 hx).1
    unfold slices_IndexFunc_string_string.loop1
    try simp -implicitDefEqProofs only [rowSV_len, Int.toNat_natCast]
    rw [decide_eq_true (by omega), cond_true, guardO_pos (by omega), rd_row0 (ls := t1) (w := 1) rfl (by omega), hx]
    try simp -implicitDefEqProofs only [Option.bind_some, LT.lo, Leaf.lo, List.getElem?_cons_zero, Leaf.pack, reduceIte]
    rw [hc x (List.mem_of_getElem? hx), i64_suc (by omega)]
    try simp -implicitDefEqProofs only [Res.pack, Ty.pack, Leaf.pack, Option.bind_some]
    cases p x <;> rfl) (by
    unfold slices_IndexFunc_string_string.loop1
    try simp -implicitDefEqProofs only [rowSV_len]
    rw [decide_eq_false (by omega), cond_false])]
  unfold idxOf
  cases xs.findIdx? p <;> rfl
/-- The cells of a fact, as an argument. -/
abbrev argF (f : Bool) (x : Fct) : V := .agg [.int .i64 x.1, .int .i64 x.2.1, .int .i64 x.2.2.1, .int .i64 x.2.2.2.1, .slice (rowSV f j1 x.2.2.2.2.1).a x.2.2.2.2.1.length x.2.2.2.2.1.length true, .slice (rowSV f t1 x.2.2.2.2.2).a x.2.2.2.2.2.length x.2.2.2.2.2.length true]
theorem IndexF_ok {T : Table} {v : V} {h : H} {f : Bool} {xs : List Fct} (p : Fct → Bool) (hn : xs.length < 2 ^ 62) (hc : ∀ x ∈ xs, ∀ {R : Type} (k : V → H → Option R), callV T.dy v [argF f x] h k = k (.bool (p x)) h) :
    slices_IndexFunc_F2 T (rowSV f FC xs) v h = some (idxOf p xs, h) := by
  unfold slices_IndexFunc_F2
  rw [iter_find xs p (fun i => (i : Int)) (by omega) (fun i x hx => by
    have hi := (List.getElem?_eq_some_iff.1 hx).1
    unfold slices_IndexFunc_F2.loop1
    try simp -implicitDefEqProofs only [rowSV_len, Int.toNat_natCast]
    rw [decide_eq_true (by omega), cond_true, guardO_pos (by omega), rd_fact, hx]
    try simp -implicitDefEqProofs only [Option.bind_some, Option.map_some, low, rowSV_len, rowSV_cap, rowSV_tail]
    rw [hc x (List.mem_of_getElem? hx), i64_suc (by omega)]
    try simp -implicitDefEqProofs only [Res.pack, Ty.pack, Leaf.pack, Option.bind_some]
    cases p x <;> rfl) (by
    unfold slices_IndexFunc_F2.loop1
    try simp -implicitDefEqProofs only [rowSV_len]
    rw [decide_eq_false (by omega), cond_false])]
  unfold idxOf
  cases xs.findIdx? p <;> rfl
theorem ContainsI_ok {T : Table} {v : V} {h : H} {f : Bool} {xs : List Int} (p : Int → Bool) (hn : xs.length < 2 ^ 62) (hc : ∀ x ∈ xs, ∀ {R : Type} (k : V → H → Option R), callV T.dy v [.int .i64 x] h k = k (.bool (p x)) h) :
    slices_ContainsFunc_int_int T (rowSV f j1 xs) v h = some (xs.any p, h) := by
  unfold slices_ContainsFunc_int_int
  rw [IndexI_ok (T := slices_ContainsFunc_int_int.tb T) p hn hc]
  simp only [Option.bind_some, idxOf_nonneg]
theorem ContainsT_ok {T : Table} {v : V} {h : H} {f : Bool} {xs : List ByteArray} (p : ByteArray → Bool) (hn : xs.length < 2 ^ 62) (hc : ∀ x ∈ xs, ∀ {R : Type} (k : V → H → Option R), callV T.dy v [.str x] h k = k (.bool (p x)) h) :
    slices_ContainsFunc_string_string T (rowSV f t1 xs) v h = some (xs.any p, h) := by
  unfold slices_ContainsFunc_string_string
  rw [IndexT_ok (T := slices_ContainsFunc_string_string.tb T) p hn hc]
  simp only [Option.bind_some, idxOf_nonneg]
theorem ContainsF_ok {T : Table} {v : V} {h : H} {f : Bool} {xs : List Fct} (p : Fct → Bool) (hn : xs.length < 2 ^ 62) (hc : ∀ x ∈ xs, ∀ {R : Type} (k : V → H → Option R), callV T.dy v [argF f x] h k = k (.bool (p x)) h) :
    slices_ContainsFunc_F2 T (rowSV f FC xs) v h = some (xs.any p, h) := by
  unfold slices_ContainsFunc_F2
  rw [IndexF_ok (T := slices_ContainsFunc_F2.tb T) p hn hc]
  simp only [Option.bind_some, idxOf_nonneg]
/-! ### Texts -/
def goodB (b : UInt8) : Bool := !(decide ((b.toNat : Int) < 32)) && !(decide ((126 : Int) < (b.toNat : Int)))
def goodS (s : ByteArray) : Bool := s.data.toList.all goodB
def goodT (s : ByteArray) : Bool := !(decide ((64 : Int) < ((ByteArray.size s : Nat) : Int))) && goodS s
theorem byte_at {s : ByteArray} {i : Nat} {b : UInt8} (h : s.data.toList[i]? = some b) : ((((ByteArray.data s)[i]?).map UInt8.toNat).getD 0 : Nat) = b.toNat := by
  rw [Array.getElem?_toList] at h
  rw [h]; rfl
theorem Printable_ok (s : ByteArray) (hs : s.size ≤ 64) : fact_printableP s = some (goodS s) := by
  have hl : s.data.toList.length = s.size := by rw [Array.length_toList]; rfl
  unfold fact_printableP fact_printable
  rw [iter_find s.data.toList (fun b => !goodB b) (fun _ => false) (by omega) (fun i b hb => by
    have hi := (List.getElem?_eq_some_iff.1 hb).1
    unfold fact_printable.loop1
    try simp -implicitDefEqProofs only [Int.toNat_natCast]
    rw [decide_eq_true (by omega), cond_true, guardO_pos (by omega), guardO_pos (by omega), i64_suc (by omega), byte_at hb]
    unfold goodB
    cases decide ((b.toNat : Int) < 32) <;> cases decide ((126 : Int) < (b.toNat : Int)) <;> rfl) (by
    unfold fact_printable.loop1
    try simp -implicitDefEqProofs only []
    rw [hl, decide_eq_false (by omega), cond_false])]
  unfold goodS
  rw [all_find]
  cases s.data.toList.findIdx? fun b => !goodB b <;> rfl
theorem RPrintable_ok (s : ByteArray) (hs : s.size ≤ 64) : r53_printableP s = some (goodS s) := by
  have hl : s.data.toList.length = s.size := by rw [Array.length_toList]; rfl
  unfold r53_printableP r53_printable
  rw [iter_find s.data.toList (fun b => !goodB b) (fun _ => false) (by omega) (fun i b hb => by
    have hi := (List.getElem?_eq_some_iff.1 hb).1
    unfold r53_printable.loop1
    try simp -implicitDefEqProofs only [Int.toNat_natCast]
    rw [decide_eq_true (by omega), cond_true, guardO_pos (by omega), guardO_pos (by omega), i64_suc (by omega), byte_at hb]
    unfold goodB
    cases decide ((b.toNat : Int) < 32) <;> cases decide ((126 : Int) < (b.toNat : Int)) <;> rfl) (by
    unfold r53_printable.loop1
    try simp -implicitDefEqProofs only []
    rw [hl, decide_eq_false (by omega), cond_false])]
  unfold goodS
  rw [all_find]
  cases s.data.toList.findIdx? fun b => !goodB b <;> rfl
/-! ### fact.Check -/
def betw (n a b : Int) : Bool := decide (a ≤ n) && decide (n ≤ b)
def goodN (n : Int) : Bool := betw n (-1125899906842624) 1125899906842624
def checkF (f : Fct) : Int :=
  if (decide ((16 : Int) < ((f.2.2.2.2.1.length : Nat) : Int)) || decide ((8 : Int) < ((f.2.2.2.2.2.length : Nat) : Int))) = true then 8
  else if (betw f.1 0 100000 && (betw f.2.1 1 1048576 && (betw f.2.2.1 1 1073741824 && betw f.2.2.2.1 1 99))) = false then 2
  else if (f.2.2.2.2.1.any fun n => !goodN n) = true then 2 else if (f.2.2.2.2.2.any fun s => !goodT s) = true then 4 else 0
theorem Within_ok (n a b : Int) : fact_withinP n a b = some (betw n a b) := by
  unfold fact_withinP fact_within betw
  cases decide (a ≤ n) <;> rfl
theorem Check1_ok (n : Int) : fact_Check_1P n = some (!goodN n) := by
  unfold fact_Check_1P fact_Check_1
  rw [Within_ok]; rfl
theorem Check2_ok (s : ByteArray) : fact_Check_2P s = some (!goodT s) := by
  unfold fact_Check_2P fact_Check_2 goodT
  by_cases h : (64 : Int) < ((ByteArray.size s : Nat) : Int)
  · rw [decide_eq_true h]; rfl
  · rw [decide_eq_false h, Printable_ok s (by omega)]; rfl
theorem Check_ok (x : Fct) : fact_CheckP x = some (checkF x) := by
  obtain ⟨a, b, c, d, e, g⟩ := x
  unfold fact_CheckP fact_Check checkF
  try simp -implicitDefEqProofs only [evs, reduceIte, rdRes, rdTT, rdTy, rdLT, Res.un, TT.un, Ty.un, LT.un, Leaf.un, Leaf.plain, LT.plain, evh, List.replicate, splice, LT.pack, Leaf.pack, Nat.reduceAdd, Nat.reduceSub, Nat.reduceLeDiff, Nat.reduceLT, Nat.reduceEqDiff, LT.lo, Leaf.lo, Within_ok, Option.bind_some]
  by_cases h1 : (16 : Int) < (e.length : Int)
  · simp -implicitDefEqProofs only [decide_eq_true h1, evs, reduceIte, rdRes, rdTT, rdTy, rdLT, Res.un, TT.un, Ty.un, LT.un, Leaf.un, Leaf.plain, LT.plain, evh, List.replicate, splice, LT.pack, Leaf.pack, Nat.reduceAdd, Nat.reduceSub, Nat.reduceLeDiff, Nat.reduceLT, Nat.reduceEqDiff, LT.lo, Leaf.lo, Bool.not_true, cond_false, cond_true, Bool.true_or, reduceIte, Option.bind_some]
  by_cases h2 : (8 : Int) < (g.length : Int)
  · simp -implicitDefEqProofs only [decide_eq_false h1, decide_eq_true h2, evs, reduceIte, rdRes, rdTT, rdTy, rdLT, Res.un, TT.un, Ty.un, LT.un, Leaf.un, Leaf.plain, LT.plain, evh, List.replicate, splice, LT.pack, Leaf.pack, Nat.reduceAdd, Nat.reduceSub, Nat.reduceLeDiff, Nat.reduceLT, Nat.reduceEqDiff, LT.lo, Leaf.lo, Bool.not_false, cond_true, Bool.or_true, reduceIte, Option.bind_some]
  cases hb1 : betw a 0 100000
  · simp -implicitDefEqProofs only [decide_eq_false h1, decide_eq_false h2, hb1, evs, reduceIte, rdRes, rdTT, rdTy, rdLT, Res.un, TT.un, Ty.un, LT.un, Leaf.un, Leaf.plain, LT.plain, evh, List.replicate, splice, LT.pack, Leaf.pack, Nat.reduceAdd, Nat.reduceSub, Nat.reduceLeDiff, Nat.reduceLT, Nat.reduceEqDiff, LT.lo, Leaf.lo, Bool.not_false, Bool.not_true, cond_true, cond_false, Bool.or_false, Option.bind_some, Bool.false_and, Bool.false_eq_true, reduceIte]
  cases hb2 : betw b 1 1048576
  · simp -implicitDefEqProofs only [decide_eq_false h1, decide_eq_false h2, hb1, hb2, evs, reduceIte, rdRes, rdTT, rdTy, rdLT, Res.un, TT.un, Ty.un, LT.un, Leaf.un, Leaf.plain, LT.plain, evh, List.replicate, splice, LT.pack, Leaf.pack, Nat.reduceAdd, Nat.reduceSub, Nat.reduceLeDiff, Nat.reduceLT, Nat.reduceEqDiff, LT.lo, Leaf.lo, Bool.not_false, Bool.not_true, cond_true, cond_false, Bool.or_false, Option.bind_some, Bool.false_and, Bool.and_false, Bool.false_eq_true, reduceIte]
  cases hb3 : betw c 1 1073741824
  · simp -implicitDefEqProofs only [decide_eq_false h1, decide_eq_false h2, hb1, hb2, hb3, evs, reduceIte, rdRes, rdTT, rdTy, rdLT, Res.un, TT.un, Ty.un, LT.un, Leaf.un, Leaf.plain, LT.plain, evh, List.replicate, splice, LT.pack, Leaf.pack, Nat.reduceAdd, Nat.reduceSub, Nat.reduceLeDiff, Nat.reduceLT, Nat.reduceEqDiff, LT.lo, Leaf.lo, Bool.not_false, Bool.not_true, cond_true, cond_false, Bool.or_false, Option.bind_some, Bool.false_and, Bool.and_false, Bool.false_eq_true, reduceIte]
  cases hb4 : betw d 1 99
  · simp -implicitDefEqProofs only [decide_eq_false h1, decide_eq_false h2, hb1, hb2, hb3, hb4, evs, reduceIte, rdRes, rdTT, rdTy, rdLT, Res.un, TT.un, Ty.un, LT.un, Leaf.un, Leaf.plain, LT.plain, evh, List.replicate, splice, LT.pack, Leaf.pack, Nat.reduceAdd, Nat.reduceSub, Nat.reduceLeDiff, Nat.reduceLT, Nat.reduceEqDiff, LT.lo, Leaf.lo, Bool.not_false, Bool.not_true, cond_true, cond_false, Bool.or_false, Option.bind_some, Bool.false_and, Bool.and_false, Bool.false_eq_true, reduceIte]
  try simp -implicitDefEqProofs only [decide_eq_false h1, decide_eq_false h2, hb1, hb2, hb3, hb4, evs, reduceIte, rdRes, rdTT, rdTy, rdLT, Res.un, TT.un, Ty.un, LT.un, Leaf.un, Leaf.plain, LT.plain, evh, List.replicate, splice, LT.pack, Leaf.pack, Nat.reduceAdd, Nat.reduceSub, Nat.reduceLeDiff, Nat.reduceLT, Nat.reduceEqDiff, LT.lo, Leaf.lo, Bool.not_false, Bool.not_true, cond_true, cond_false, Bool.or_false, Option.bind_some, Bool.and_self, Bool.true_eq_false, Bool.false_eq_true, reduceIte]
  have k1 : ∀ h, slices_ContainsFunc_int_int fact_Check.tb ⟨(rowSV false j1 e).a, e.length, e.length, true⟩ (.func 100 []) h = some (e.any (fun n => !goodN n), h) := fun h =>
    ContainsI_ok (f := false) (fun n => !goodN n) (by omega) fun x _ R k => by
      show (fact_Check_1P x).bind (fun r => k ((Res.one (.leaf .bool)).lo true r) _) = _
      rw [Check1_ok]; rfl
  have k2 : ∀ h, slices_ContainsFunc_string_string fact_Check.tb ⟨(rowSV false t1 g).a, g.length, g.length, true⟩ (.func 102 []) h = some (g.any (fun n => !goodT n), h) := fun h =>
    ContainsT_ok (f := false) (fun n => !goodT n) (by omega) fun x _ R k => by
      show (fact_Check_2P x).bind (fun r => k ((Res.one (.leaf .bool)).lo true r) _) = _
      rw [Check2_ok]; rfl
  rw [k1, Option.bind_some]
  cases e.any fun n => !goodN n
  · simp -implicitDefEqProofs only [evs, reduceIte, rdRes, rdTT, rdTy, rdLT, Res.un, TT.un, Ty.un, LT.un, Leaf.un, Leaf.plain, LT.plain, evh, List.replicate, splice, LT.pack, Leaf.pack, Nat.reduceAdd, Nat.reduceSub, Nat.reduceLeDiff, Nat.reduceLT, Nat.reduceEqDiff, LT.lo, Leaf.lo, cond_false, k2, Option.bind_some, Bool.false_eq_true, reduceIte]
    cases g.any fun n => !goodT n <;> rfl
  · rfl
theorem Check88_ok (x : Fct) : arrival_check_1P x = some (!(decide (checkF x = 0))) := by
  obtain ⟨a, b, c, d, e, g⟩ := x
  unfold arrival_check_1P arrival_check_1
  try simp -implicitDefEqProofs only [evs, reduceIte, rdRes, rdTT, rdTy, rdLT, Res.un, TT.un, Ty.un, LT.un, Leaf.un, Leaf.plain, LT.plain, evh, List.replicate, splice, LT.pack, Leaf.pack, Nat.reduceAdd, Nat.reduceSub, Nat.reduceLeDiff, Nat.reduceLT, Nat.reduceEqDiff, LT.lo, Leaf.lo, row_ints, row_texts, Check_ok, Option.bind_some]
def checkL (l : List Fct) : Int := if (1024 : Int) < (l.length : Int) then 8 else if (l.any fun f => !(decide (checkF f = 0))) = true then 1 else 0
theorem checkP_ok (l : List Fct) : arrival_checkP l = some (checkL l) := by
  unfold arrival_checkP arrival_check checkL
  try simp -implicitDefEqProofs only [evs, reduceIte, rdRes, rdTT, rdTy, rdLT, Res.un, TT.un, Ty.un, LT.un, Leaf.un, Leaf.plain, LT.plain, rowSV_len]
  by_cases h1 : (1024 : Int) < (l.length : Int)
  · rw [decide_eq_true h1, if_pos h1]; rfl
  · rw [decide_eq_false h1, if_neg h1, cond_false]
    have k1 : slices_ContainsFunc_F2 arrival_check.tb (rowSV false FC l) (.func 88 []) H.empty = some (l.any (fun f => !(decide (checkF f = 0))), H.empty) :=
      ContainsF_ok (fun f => !(decide (checkF f = 0))) (by omega) fun x _ R k => by
        show (rdTTK true H.empty [.agg FC] [argF false x] fun y => (arrival_check_1P y).bind fun r => k ((Res.one (.leaf .bool)).lo true r) H.empty) = _
        rw [rdTTK_bind]
        have : rdTT true H.empty [.agg FC] [argF false x] = some x := rdLT_lo (lp := true) (f := false) (h := H.empty) rfl FC x rfl
        rw [this, Option.bind_some, Check88_ok]
        rfl
    rw [k1, Option.bind_some]
    simp only
    cases l.any fun f => !(decide (checkF f = 0)) <;> rfl
theorem Between_ok (n a b : Int) : r53_betweenP n a b = some (betw n a b) := by
  unfold r53_betweenP r53_between spileref47_BetweenP spileref47_Between betw
  cases decide (a ≤ n) <;> rfl
/-- A fact in a block. -/
abbrev cFt (f : Bool) (x : Fct) : Slot := .own [.int .i64 x.1, .int .i64 x.2.1, .int .i64 x.2.2.1, .int .i64 x.2.2.2.1, .slice (rowSV f j1 x.2.2.2.2.1).a x.2.2.2.2.1.length x.2.2.2.2.1.length true, .slice (rowSV f t1 x.2.2.2.2.2).a x.2.2.2.2.2.length x.2.2.2.2.2.length true] 6
theorem rd_cFt {f : Bool} {sl : List Slot} {id : Nat} {x : Fct} (h : sl[id]? = some (cFt f x)) :
    rdT (.leaf (.int .i64)) (hL sl) (.hp id 6 0) = some x.1 ∧ rdT (.leaf (.int .i64)) (hL sl) (.hp id 6 1) = some x.2.1 ∧ rdT (.leaf (.int .i64)) (hL sl) (.hp id 6 2) = some x.2.2.1 ∧ rdT (.leaf (.int .i64)) (hL sl) (.hp id 6 3) = some x.2.2.2.1 ∧
    rdT (.leaf .slice) (hL sl) (.hp id 6 4) = some (rowSV f j1 x.2.2.2.2.1) ∧ rdT (.leaf .slice) (hL sl) (.hp id 6 5) = some (rowSV f t1 x.2.2.2.2.2) := by
  refine ⟨?_, ?_, ?_, ?_, ?_, ?_⟩ <;> (rw [rd_own (g := 6) h rfl]; rfl)
theorem rds_cFt {f : Bool} {sl : List Slot} {id : Nat} {x : Fct} (h : sl[id]? = some (cFt f x)) :
    rdT (.agg FS) (hL sl) (.hp id 6 0) = some (low f x) ∧ rdT (.agg [.int .i64, .int .i64, .int .i64]) (hL sl) (.hp id 6 0) = some (keyF x) := by
  constructor <;> (rw [rds_hp (by simp), hL_m, h]; rfl)
theorem RCheck1_ok {sl : List Slot} {x : Fct} {f : Bool} (h : sl[0]? = some (cFt f x)) (hn : x.2.2.2.2.1.length < 2 ^ 62) :
    iter FUEL (r53_Check.loop1 (hL [])) (0, hL sl) = some (if (x.2.2.2.2.1.any fun n => !goodN n) = true then (.ret 2, hL sl) else (.ex0 (), hL sl)) := by
  obtain ⟨_, _, _, _, q4, _⟩ := rd_cFt h
  rw [iter_find x.2.2.2.2.1 (fun n => !goodN n) (fun _ => (2 : Int)) (by omega) (fun i y hy => by
    have hi := (List.getElem?_eq_some_iff.1 hy).1
    unfold r53_Check.loop1
    simp only [show (hL []).next = 0 from rfl]
    rw [q4]
    try simp -implicitDefEqProofs only [Option.bind_some, rowSV_len, Int.toNat_natCast]
    rw [decide_eq_true (by omega), cond_true, guardO_pos (by omega), rd_row0 (ls := j1) (w := 1) rfl (by omega), hy]
    try simp -implicitDefEqProofs only [Option.bind_some, LT.lo, Leaf.lo, List.getElem?_cons_zero, Leaf.pack, reduceIte, Between_ok]
    rw [i64_suc (by omega)]
    unfold goodN
    cases betw y (-1125899906842624) 1125899906842624 <;> rfl) (by
    unfold r53_Check.loop1
    simp only [show (hL []).next = 0 from rfl]
    rw [q4]
    try simp -implicitDefEqProofs only [Option.bind_some, rowSV_len]
    rw [decide_eq_false (by omega), cond_false])]
  have hall := all_find (fun n => goodN n) x.2.2.2.2.1
  cases hx : x.2.2.2.2.1.findIdx? fun n => !goodN n with
  | none =>
    rw [List.findIdx?_eq_none_iff] at hx
    rw [if_neg (by rw [Bool.not_eq_true, List.any_eq_false]; intro y hy; simp [hx y hy])]
  | some m =>
    rw [List.findIdx?_eq_some_iff_getElem] at hx
    obtain ⟨hm, hp, _⟩ := hx
    rw [if_pos (List.any_eq_true.2 ⟨_, List.getElem_mem hm, hp⟩)]
theorem RCheck2_ok {sl : List Slot} {x : Fct} {f : Bool} (h : sl[0]? = some (cFt f x)) (hn : x.2.2.2.2.2.length < 2 ^ 62) :
    iter FUEL (r53_Check.loop2 (hL [])) (0, hL sl) = some (if (x.2.2.2.2.2.any fun n => !goodT n) = true then (.ret 4, hL sl) else (.ex0 (), hL sl)) := by
  obtain ⟨_, _, _, _, _, q5⟩ := rd_cFt h
  rw [iter_find x.2.2.2.2.2 (fun n => !goodT n) (fun _ => (4 : Int)) (by omega) (fun i y hy => by
    have hi := (List.getElem?_eq_some_iff.1 hy).1
    unfold r53_Check.loop2
    simp only [show (hL []).next = 0 from rfl]
    rw [q5]
    try simp -implicitDefEqProofs only [Option.bind_some, rowSV_len, Int.toNat_natCast]
    rw [decide_eq_true (by omega), cond_true, guardO_pos (by omega), rd_row0 (ls := t1) (w := 1) rfl (by omega), hy]
    try simp -implicitDefEqProofs only [Option.bind_some, LT.lo, Leaf.lo, List.getElem?_cons_zero, Leaf.pack, reduceIte]
    rw [i64_suc (by omega)]
    unfold goodT
    by_cases hs : (64 : Int) < ((ByteArray.size y : Nat) : Int)
    · rw [decide_eq_true hs]; rfl
    · rw [decide_eq_false hs, guardO_pos (by omega), RPrintable_ok y (by omega)]
      cases goodS y <;> rfl) (by
    unfold r53_Check.loop2
    simp only [show (hL []).next = 0 from rfl]
    rw [q5]
    try simp -implicitDefEqProofs only [Option.bind_some, rowSV_len]
    rw [decide_eq_false (by omega), cond_false])]
  cases hx : x.2.2.2.2.2.findIdx? fun n => !goodT n with
  | none =>
    rw [List.findIdx?_eq_none_iff] at hx
    rw [if_neg (by rw [Bool.not_eq_true, List.any_eq_false]; intro y hy; simp [hx y hy])]
  | some m =>
    rw [List.findIdx?_eq_some_iff_getElem] at hx
    obtain ⟨hm, hp, _⟩ := hx
    rw [if_pos (List.any_eq_true.2 ⟨_, List.getElem_mem hm, hp⟩)]
theorem RCheck_ok (x : Fct) : r53_CheckP x = some (checkF x) := by
  have L1 := fun (h1 : x.2.2.2.2.1.length < 2 ^ 62) => RCheck1_ok (sl := [cFt false x]) (f := false) (x := x) rfl h1
  have L2 := fun (h1 : x.2.2.2.2.2.length < 2 ^ 62) => RCheck2_ok (sl := [cFt false x]) (f := false) (x := x) rfl h1
  obtain ⟨a, b, c, d, e, g⟩ := x
  simp only at L1 L2
  unfold r53_CheckP r53_Check checkF
  try simp -implicitDefEqProofs only [evs, reduceIte, rdRes, rdTT, rdTy, rdLT, Res.un, TT.un, Ty.un, LT.un, Leaf.un, Leaf.plain, LT.plain, evh, List.replicate, splice, LT.pack, Leaf.pack, Nat.reduceAdd, Nat.reduceSub, Nat.reduceLeDiff, Nat.reduceLT, Nat.reduceEqDiff, LT.lo, Leaf.lo, Between_ok, Option.bind_some]
  by_cases h1 : (16 : Int) < (e.length : Int)
  · simp -implicitDefEqProofs only [decide_eq_true h1, evs, reduceIte, rdRes, rdTT, rdTy, rdLT, Res.un, TT.un, Ty.un, LT.un, Leaf.un, Leaf.plain, LT.plain, evh, List.replicate, splice, LT.pack, Leaf.pack, Nat.reduceAdd, Nat.reduceSub, Nat.reduceLeDiff, Nat.reduceLT, Nat.reduceEqDiff, LT.lo, Leaf.lo, Bool.not_true, cond_false, cond_true, Bool.true_or, reduceIte, Option.bind_some]
  by_cases h2 : (8 : Int) < (g.length : Int)
  · simp -implicitDefEqProofs only [decide_eq_false h1, decide_eq_true h2, evs, reduceIte, rdRes, rdTT, rdTy, rdLT, Res.un, TT.un, Ty.un, LT.un, Leaf.un, Leaf.plain, LT.plain, evh, List.replicate, splice, LT.pack, Leaf.pack, Nat.reduceAdd, Nat.reduceSub, Nat.reduceLeDiff, Nat.reduceLT, Nat.reduceEqDiff, LT.lo, Leaf.lo, Bool.not_false, cond_true, Bool.or_true, reduceIte, Option.bind_some]
  cases hb1 : betw a 0 100000
  · simp -implicitDefEqProofs only [decide_eq_false h1, decide_eq_false h2, hb1, evs, reduceIte, rdRes, rdTT, rdTy, rdLT, Res.un, TT.un, Ty.un, LT.un, Leaf.un, Leaf.plain, LT.plain, evh, List.replicate, splice, LT.pack, Leaf.pack, Nat.reduceAdd, Nat.reduceSub, Nat.reduceLeDiff, Nat.reduceLT, Nat.reduceEqDiff, LT.lo, Leaf.lo, Bool.not_false, Bool.not_true, cond_true, cond_false, Bool.or_false, Option.bind_some, Bool.false_and, Bool.false_eq_true, reduceIte]
  cases hb2 : betw b 1 1048576
  · simp -implicitDefEqProofs only [decide_eq_false h1, decide_eq_false h2, hb1, hb2, evs, reduceIte, rdRes, rdTT, rdTy, rdLT, Res.un, TT.un, Ty.un, LT.un, Leaf.un, Leaf.plain, LT.plain, evh, List.replicate, splice, LT.pack, Leaf.pack, Nat.reduceAdd, Nat.reduceSub, Nat.reduceLeDiff, Nat.reduceLT, Nat.reduceEqDiff, LT.lo, Leaf.lo, Bool.not_false, Bool.not_true, cond_true, cond_false, Bool.or_false, Option.bind_some, Bool.false_and, Bool.and_false, Bool.false_eq_true, reduceIte]
  cases hb3 : betw c 1 1073741824
  · simp -implicitDefEqProofs only [decide_eq_false h1, decide_eq_false h2, hb1, hb2, hb3, evs, reduceIte, rdRes, rdTT, rdTy, rdLT, Res.un, TT.un, Ty.un, LT.un, Leaf.un, Leaf.plain, LT.plain, evh, List.replicate, splice, LT.pack, Leaf.pack, Nat.reduceAdd, Nat.reduceSub, Nat.reduceLeDiff, Nat.reduceLT, Nat.reduceEqDiff, LT.lo, Leaf.lo, Bool.not_false, Bool.not_true, cond_true, cond_false, Bool.or_false, Option.bind_some, Bool.false_and, Bool.and_false, Bool.false_eq_true, reduceIte]
  cases hb4 : betw d 1 99
  · simp -implicitDefEqProofs only [decide_eq_false h1, decide_eq_false h2, hb1, hb2, hb3, hb4, evs, reduceIte, rdRes, rdTT, rdTy, rdLT, Res.un, TT.un, Ty.un, LT.un, Leaf.un, Leaf.plain, LT.plain, evh, List.replicate, splice, LT.pack, Leaf.pack, Nat.reduceAdd, Nat.reduceSub, Nat.reduceLeDiff, Nat.reduceLT, Nat.reduceEqDiff, LT.lo, Leaf.lo, Bool.not_false, Bool.not_true, cond_true, cond_false, Bool.or_false, Option.bind_some, Bool.false_and, Bool.and_false, Bool.false_eq_true, reduceIte]
  try simp -implicitDefEqProofs only [decide_eq_false h1, decide_eq_false h2, hb1, hb2, hb3, hb4, evs, reduceIte, rdRes, rdTT, rdTy, rdLT, Res.un, TT.un, Ty.un, LT.un, Leaf.un, Leaf.plain, LT.plain, evh, List.replicate, splice, LT.pack, Leaf.pack, Nat.reduceAdd, Nat.reduceSub, Nat.reduceLeDiff, Nat.reduceLT, Nat.reduceEqDiff, LT.lo, Leaf.lo, Bool.not_false, Bool.not_true, cond_true, cond_false, Bool.or_false, Option.bind_some, Bool.and_self, Bool.true_eq_false, Bool.false_eq_true, reduceIte]
  have M1 := L1 (by omega)
  have M2 := L2 (by omega)
  simp only [cFt] at M1 M2
  rw [M1]
  cases e.any fun n => !goodN n
  · rw [if_neg (by simp), Option.bind_some]
    simp only
    rw [M2]
    cases g.any fun n => !goodT n <;> rfl
  · rfl
theorem rdRow_sub {lp f : Bool} {h : H} {ls : List Leaf} {xs : List (LT ls)} {i n w c : Nat} {t : Bool} (hw : ls.length = w) (hp : Leaf.plain (.row ls) = true) (hb : (lp || f) = true) (hin : i + n ≤ xs.length) :
    rdRow lp h ls ⟨(rowSV f ls xs).a.add (i * w), n, c, t⟩ = some ((xs.drop i).take n) := by
  subst hw
  have key := rdLeaf_lo (lp := lp) (f := f) (h := h) hb (.row ls) ((xs.drop i).take n) hp
  have hlen : ((xs.drop i).take n).length = n := by rw [List.length_take, List.length_drop]; omega
  by_cases hn : n = 0
  · subst hn
    rw [List.take_zero]
    exact rdRow_nil
  · rw [← key]
    unfold rdRow
    simp only [Leaf.lo, rdLeaf, hlen, if_neg hn]
    have h1 : h.rds ((rowSV f ls xs).a.add (i * ls.length)) (n * ls.length) = h.rds (.lp f (((xs.drop i).take n).flatMap fun x => LT.lo f ls x) 0) (n * ls.length) := by
      have h2 : ∀ (cs : List V), h.from (.lp f cs 0) = some cs := fun cs => by simp only [H.from, List.drop_zero]
      have hfl : (((xs.drop i).take n).flatMap fun x => LT.lo f ls x) = ((xs.drop i).flatMap fun x => LT.lo f ls x).take (n * ls.length) := by
        have h2 := congrArg (fun l => l.flatMap fun x => LT.lo f ls x) (List.take_append_drop n (xs.drop i))
        simp only [List.flatMap_append] at h2
        rw [← h2, List.take_left']
        rw [flat_length, hlen]
      unfold H.rds
      rw [from_row, h2]
      simp only [Option.bind_some, flat_drop]
      have l1 := flat_length (f := f) (xs.drop i)
      have l2 := flat_length (f := f) ((xs.drop i).take n)
      rw [hlen] at l2
      rw [l1, l2, List.take_of_length_le (l := ((xs.drop i).take n).flatMap fun x => LT.lo f ls x) (by rw [l2]; exact Nat.le_refl _), hfl]
      have hle : n * ls.length ≤ (xs.drop i).length * ls.length := Nat.mul_le_mul_right _ (by rw [List.length_drop]; omega)
      by_cases h0 : n * ls.length ≠ 0
      · rw [if_pos ⟨hle, h0⟩, if_pos ⟨Nat.le_refl _, h0⟩]
      · rw [if_neg (fun h => h0 h.2), if_neg (fun h => h0 h.2)]
    rw [h1]
    rfl
theorem sub_ints {f t : Bool} {h : H} {l : List Int} {c : Nat} (k : Nat) (hk : k ≤ l.length) : rdRow true h j1 ⟨V.add (rowSV f j1 l).a (k * 1), l.length - k, c, t⟩ = some (l.drop k) := by
  rw [rdRow_sub (w := 1) rfl rfl rfl (by omega), List.take_of_length_le (by rw [List.length_drop]; exact Nat.le_refl _)]
theorem int_at {f : Bool} {h : H} {l : List Int} {i : Nat} : rdT (.leaf (.int .i64)) h (V.add (rowSV f j1 l).a i) = l[i]? := by
  have := rd_row0 (f := f) (h := h) (ls := j1) (xs := l) (l := .int .i64) (i := i) (w := 1) rfl (by omega)
  rw [Nat.mul_one] at this
  rw [this]
  cases l[i]? <;> rfl
theorem apart_row {f : Bool} {ls : List Leaf} {xs : List (LT ls)} {n i g o : Nat} : apartA (V.add (rowSV f ls xs).a n) (.hp i g o) = true := rfl
theorem apart_hp {g g' o o' : Nat} : apartA (.hp 0 g o) (.hp 2 g' o') = true := rfl
theorem V_add0 (a : V) : V.add a 0 = a := by cases a <;> rfl
def corrects (x : Fct) : Bool := decide (x.2.2.2.1 = 90) || decide (x.2.2.2.1 = 91)
theorem Corrects_ok (x : Fct) : arrival_correctsP x = some (corrects x) := by
  obtain ⟨a, b, c, d, e, g⟩ := x
  unfold arrival_correctsP arrival_corrects corrects
  try simp -implicitDefEqProofs only [evs, reduceIte, rdRes, rdTT, rdTy, rdLT, Res.un, TT.un, Ty.un, LT.un, Leaf.un, Leaf.plain, LT.plain, evh, List.replicate, splice, LT.pack, Leaf.pack, Nat.reduceAdd, Nat.reduceSub, Nat.reduceLeDiff, Nat.reduceLT, Nat.reduceEqDiff, LT.lo, Leaf.lo, Option.bind_some]
  cases decide (d = 90)
  · simp -implicitDefEqProofs only [evs, reduceIte, rdRes, rdTT, rdTy, rdLT, Res.un, TT.un, Ty.un, LT.un, Leaf.un, Leaf.plain, LT.plain, evh, List.replicate, splice, LT.pack, Leaf.pack, Nat.reduceAdd, Nat.reduceSub, Nat.reduceLeDiff, Nat.reduceLT, Nat.reduceEqDiff, LT.lo, Leaf.lo, Bool.not_false, cond_true, Option.bind_some, Bool.false_or]
  · rfl
theorem RCorrects_ok (x : Fct) : r54_CorrectsP x = some (corrects x) := by
  obtain ⟨a, b, c, d, e, g⟩ := x
  unfold r54_CorrectsP r54_Corrects corrects
  try simp -implicitDefEqProofs only [evs, reduceIte, rdRes, rdTT, rdTy, rdLT, Res.un, TT.un, Ty.un, LT.un, Leaf.un, Leaf.plain, LT.plain, evh, List.replicate, splice, LT.pack, Leaf.pack, Nat.reduceAdd, Nat.reduceSub, Nat.reduceLeDiff, Nat.reduceLT, Nat.reduceEqDiff, LT.lo, Leaf.lo, Option.bind_some]
  cases decide (d = 90)
  · simp -implicitDefEqProofs only [evs, reduceIte, rdRes, rdTT, rdTy, rdLT, Res.un, TT.un, Ty.un, LT.un, Leaf.un, Leaf.plain, LT.plain, evh, List.replicate, splice, LT.pack, Leaf.pack, Nat.reduceAdd, Nat.reduceSub, Nat.reduceLeDiff, Nat.reduceLT, Nat.reduceEqDiff, LT.lo, Leaf.lo, Bool.not_false, cond_true, Option.bind_some, Bool.false_or]
  · rfl
def zeroF : Fct := (0, 0, 0, 0, [], [])
/-- The fact that a correction puts in the place of its target. -/
def outF (x : Fct) : Fct :=
  if x.2.2.2.1 = 91 then (x.2.2.2.2.1.getD 0 0, x.2.2.2.2.1.getD 1 0, x.2.2.2.2.1.getD 2 0, 1, [], [])
  else (x.2.2.2.2.1.getD 0 0, x.2.2.2.2.1.getD 1 0, x.2.2.2.2.1.getD 2 0, x.2.2.2.2.1.getD 3 0, x.2.2.2.2.1.drop 4, x.2.2.2.2.2)
def formed (x : Fct) : Bool := if x.2.2.2.1 = 91 then decide ((x.2.2.2.2.1.length : Int) = 3) && !decide ((0 : Int) < (x.2.2.2.2.2.length : Int)) else !decide ((x.2.2.2.2.1.length : Int) < 4)
def targetF (x : Fct) : Fct × Bool := if formed x = true then (outF x, decide (checkF (outF x) = 0) && !corrects (outF x)) else (zeroF, false)
theorem Target_ok (x : Fct) (he : x.2.2.2.2.1.length ≤ 2 ^ 20) (hg : x.2.2.2.2.2.length ≤ 2 ^ 20) : arrival_targetP x = some (targetF x) := by
  obtain ⟨a, b, c, d, e, g⟩ := x
  simp only at he hg
  unfold arrival_targetP arrival_target targetF formed
  try simp -implicitDefEqProofs only [evs, reduceIte, rdRes, rdTT, rdTy, rdLT, Res.un, TT.un, Ty.un, LT.un, Leaf.un, Leaf.plain, LT.plain, evh, List.replicate, splice, LT.pack, Leaf.pack, Nat.reduceAdd, Nat.reduceSub, Nat.reduceLeDiff, Nat.reduceLT, Nat.reduceEqDiff, LT.lo, Leaf.lo, Option.bind_some]
  by_cases h91 : d = 91
  · subst h91
    by_cases h3 : (e.length : Int) = 3
    · by_cases h0 : (0 : Int) < (g.length : Int)
      · simp -implicitDefEqProofs only [evs, reduceIte, rdRes, rdTT, rdTy, rdLT, Res.un, TT.un, Ty.un, LT.un, Leaf.un, Leaf.plain, LT.plain, evh, List.replicate, splice, LT.pack, Leaf.pack, Nat.reduceAdd, Nat.reduceSub, Nat.reduceLeDiff, Nat.reduceLT, Nat.reduceEqDiff, LT.lo, Leaf.lo, decide_true, decide_eq_true h3, decide_eq_true h0, Bool.not_true, Bool.not_false, cond_true, cond_false, Option.bind_some, Bool.and_false, Bool.and_true, Bool.false_eq_true, reduceIte, rdRow_nil, zeroF]
      · match e, h3 with
        | [n0, n1, n2], _ =>
          have hg0 : g = [] := List.eq_nil_of_length_eq_zero (by omega)
          subst hg0
          have C := Check_ok (n0, n1, n2, 1, [], [])
          have K := Corrects_ok (n0, n1, n2, 1, [], [])
          try simp -implicitDefEqProofs only [evs, reduceIte, rdRes, rdTT, rdTy, rdLT, Res.un, TT.un, Ty.un, LT.un, Leaf.un, Leaf.plain, LT.plain, evh, List.replicate, splice, LT.pack, Leaf.pack, Nat.reduceAdd, Nat.reduceSub, Nat.reduceLeDiff, Nat.reduceLT, Nat.reduceEqDiff, LT.lo, Leaf.lo, decide_true, List.length_cons, List.length_nil, Int.cast_ofNat_Int, Int.reduceLT, Int.reduceLE, Int.reduceEq, decide_true, decide_false, true_and, and_self, guardO_true, Bool.not_true, Bool.not_false, Bool.and_self, cond_true, cond_false, Option.bind_some, int_at, apart_row, rdRow_nil, eq_self, C, K]
          try simp -implicitDefEqProofs only [outF, List.getD_cons_zero, List.getD_cons_succ]
          cases hc : decide (checkF (n0, n1, n2, 1, [], []) = 0) <;> simp -implicitDefEqProofs only [evs, reduceIte, rdRes, rdTT, rdTy, rdLT, Res.un, TT.un, Ty.un, LT.un, Leaf.un, Leaf.plain, LT.plain, evh, List.replicate, splice, LT.pack, Leaf.pack, Nat.reduceAdd, Nat.reduceSub, Nat.reduceLeDiff, Nat.reduceLT, Nat.reduceEqDiff, LT.lo, Leaf.lo, cond_true, cond_false, Option.bind_some, rdRow_nil, Bool.false_and, Bool.true_and, hc, C, K]
        | [], h => simp at h
        | [_], h => simp at h
        | [_, _], h => simp at h
        | _ :: _ :: _ :: _ :: _, h => simp at h; omega
    · simp -implicitDefEqProofs only [evs, reduceIte, rdRes, rdTT, rdTy, rdLT, Res.un, TT.un, Ty.un, LT.un, Leaf.un, Leaf.plain, LT.plain, evh, List.replicate, splice, LT.pack, Leaf.pack, Nat.reduceAdd, Nat.reduceSub, Nat.reduceLeDiff, Nat.reduceLT, Nat.reduceEqDiff, LT.lo, Leaf.lo, decide_true, decide_eq_false h3, Bool.not_true, Bool.not_false, cond_true, cond_false, Option.bind_some, Bool.false_and, Bool.false_eq_true, reduceIte, rdRow_nil, zeroF]
  · by_cases h4 : (e.length : Int) < 4
    · simp -implicitDefEqProofs only [evs, reduceIte, rdRes, rdTT, rdTy, rdLT, Res.un, TT.un, Ty.un, LT.un, Leaf.un, Leaf.plain, LT.plain, evh, List.replicate, splice, LT.pack, Leaf.pack, Nat.reduceAdd, Nat.reduceSub, Nat.reduceLeDiff, Nat.reduceLT, Nat.reduceEqDiff, LT.lo, Leaf.lo, decide_eq_false h91, decide_eq_true h4, if_neg h91, Bool.not_true, Bool.not_false, cond_true, cond_false, Option.bind_some, Bool.and_false, Bool.and_true, Bool.false_eq_true, reduceIte, rdRow_nil, zeroF]
    · match e, h4 with
      | n0 :: n1 :: n2 :: n3 :: r, _ =>
        simp only [List.length_cons] at he
        have C := Check_ok (n0, n1, n2, n3, r, g)
        have K := Corrects_ok (n0, n1, n2, n3, r, g)
        have S : ∀ h, rdRow true h j1 ⟨V.add (rowSV false j1 (n0 :: n1 :: n2 :: n3 :: r)).a (4 * 1), r.length + 1 + 1 + 1 + 1 - 4, r.length + 1 + 1 + 1 + 1 - 4, true⟩ = some r := fun h => sub_ints (l := n0 :: n1 :: n2 :: n3 :: r) 4 (by simp)
        have c1 : cloneP 8 r = some r := by unfold cloneP; rw [guardO_pos ⟨by unfold roomCells; omega, by omega⟩]
        have c2 : cloneP 16 g = some g := by unfold cloneP; rw [guardO_pos ⟨by unfold roomCells; omega, by omega⟩]
        have b0 : (0 : Int) < ((r.length + 1 + 1 + 1 + 1 : Nat) : Int) := by omega
        have b1 : (1 : Int) < ((r.length + 1 + 1 + 1 + 1 : Nat) : Int) := by omega
        have b2 : (2 : Int) < ((r.length + 1 + 1 + 1 + 1 : Nat) : Int) := by omega
        have b3 : (3 : Int) < ((r.length + 1 + 1 + 1 + 1 : Nat) : Int) := by omega
        have b4 : (4 : Int) ≤ ((r.length + 1 + 1 + 1 + 1 : Nat) : Int) := by omega
        have b5 : ¬ ((r.length + 1 + 1 + 1 + 1 : Nat) : Int) < 4 := by omega
        have t4 : Int.toNat 4 = 4 := rfl
        try simp -implicitDefEqProofs only [evs, reduceIte, rdRes, rdTT, rdTy, rdLT, Res.un, TT.un, Ty.un, LT.un, Leaf.un, Leaf.plain, LT.plain, evh, List.replicate, splice, LT.pack, Leaf.pack, Nat.reduceAdd, Nat.reduceSub, Nat.reduceLeDiff, Nat.reduceLT, Nat.reduceEqDiff, LT.lo, Leaf.lo, List.length_cons, decide_eq_false h91, decide_eq_false b5, if_neg h91, b0, b1, b2, b3, b4, t4, Int.toNat_natCast, Int.cast_ofNat_Int, Int.reduceLT, Int.reduceLE, Int.reduceEq, decide_true, decide_false, true_and, and_self, guardO_true, Int.le_refl, Bool.not_true, Bool.not_false, Bool.and_self, cond_true, cond_false, Option.bind_some, int_at, apart_row, rdRow_nil, eq_self, row_ints, row_texts, S, c1, c2, C, K]
        try simp -implicitDefEqProofs only [outF, if_neg h91, List.getD_cons_zero, List.getD_cons_succ, List.drop_succ_cons, List.drop_zero]
        cases hc : decide (checkF (n0, n1, n2, n3, r, g) = 0) <;> simp -implicitDefEqProofs only [evs, reduceIte, rdRes, rdTT, rdTy, rdLT, Res.un, TT.un, Ty.un, LT.un, Leaf.un, Leaf.plain, LT.plain, evh, List.replicate, splice, LT.pack, Leaf.pack, Nat.reduceAdd, Nat.reduceSub, Nat.reduceLeDiff, Nat.reduceLT, Nat.reduceEqDiff, LT.lo, Leaf.lo, cond_true, cond_false, Option.bind_some, row_ints, row_texts, res_ints, res_texts, Bool.false_and, Bool.true_and, hc, C, K]
      | [], h => simp at h
      | [_], h => simp at h
      | [_, _], h => simp at h
      | [_, _, _], h => simp at h
/-! ### The reference -/
/-- A row that is made by one append, where it is not empty. -/
def accT (ls : List Leaf) (xs : List (LT ls)) : List Slot := if xs.length = 0 then [] else [.own (cellsL ls xs) ls.length]
theorem app_row {ls : List Leaf} {xs : List (LT ls)} {sl : List Slot} {w b : Nat} (hw : ls.length = w) (hl : xs.length ≤ 2 ^ 36) (hb : b ≤ 2 ^ 11) :
    appendS (hL sl) none w b ⟨.nil, 0, 0, false⟩ (cellsL ls xs) xs.length = some (accS sl.length ls xs, hL (sl ++ accT ls xs)) := by
  subst hw
  unfold accS accT
  by_cases h : xs.length = 0
  · rw [if_pos h, if_pos h, List.append_nil]
    simp only [appendS, appendV]
    rw [if_pos h]
    rfl
  · rw [if_neg h, if_neg h]
    simp only [appendS, appendV, newAt]
    rw [if_neg h, guardO_pos ⟨by unfold roomCells; omega, hb⟩, if_pos ⟨trivial, trivial, trivial⟩, hL_new]
    rfl
theorem acc_at {lp : Bool} {ls : List Leaf} {xs : List (LT ls)} {pre post : List Slot} (hp : Leaf.plain (.row ls) = true) : rdRow lp (hL (pre ++ accT ls xs ++ post)) ls (accS pre.length ls xs) = some xs := by
  unfold accS accT
  by_cases h : xs.length = 0
  · have : xs = [] := List.eq_nil_of_length_eq_zero h
    subst this
    exact rdRow_nil
  · rw [if_neg h, if_neg h]
    exact rdRow_own (e := ls.length) (by simp) rfl hp
theorem cellsOf_sub {f t : Bool} {h : H} {ls : List Leaf} {xs : List (LT ls)} {k w c : Nat} (hw : ls.length = w) (hpos : 0 < w) (hf : LT.flat ls = true) (hk : k ≤ xs.length) : cellsOf h (.slice (V.add (rowSV f ls xs).a (k * w)) (xs.length - k) c t) w = some (xs.length - k, cellsL ls (xs.drop k)) := by
  subst hw
  unfold cellsOf
  simp only
  by_cases h0 : xs.length - k = 0
  · have : xs.drop k = [] := List.drop_eq_nil_of_le (by omega)
    rw [if_pos h0, this, h0]
    rfl
  · rw [if_neg h0]
    simp only [H.rds, from_row, flat_drop, Option.bind_some]
    have hl : ((xs.drop k).flatMap fun x => LT.lo f ls x).length = (xs.length - k) * ls.length := by rw [flat_length, List.length_drop]
    rw [if_pos ⟨by rw [hl]; exact Nat.le_refl _, Nat.ne_of_gt (Nat.mul_pos (by omega) hpos)⟩, List.take_of_length_le (by rw [hl]; exact Nat.le_refl _)]
    simp only [Option.map_some, Option.some.injEq, Prod.mk.injEq, true_and, cellsL]
    congr 1
    funext x
    exact flat_flag ls x hf
theorem cellsOf_all {f t : Bool} {h : H} {ls : List Leaf} {xs : List (LT ls)} {w c : Nat} (hw : ls.length = w) (hpos : 0 < w) (hf : LT.flat ls = true) : cellsOf h (.slice (rowSV f ls xs).a xs.length c t) w = some (xs.length, cellsL ls xs) := by
  have := cellsOf_sub (f := f) (t := t) (h := h) (xs := xs) (k := 0) (c := c) hw hpos hf (Nat.zero_le _)
  rw [Nat.zero_mul, V_add0, Nat.sub_zero, List.drop_zero] at this
  exact this
theorem put2 {s0 s1 s2 s : Slot} {t : List Slot} : H.put (hL (s0 :: s1 :: s2 :: t)) 2 s = hL (s0 :: s1 :: s :: t) := by rw [hL_put (by simp only [List.length_cons]; omega)]; rfl
theorem put1 {s0 s1 s : Slot} {t : List Slot} : H.put (hL (s0 :: s1 :: t)) 1 s = hL (s0 :: s :: t) := by rw [hL_put (by simp only [List.length_cons]; omega)]; rfl
theorem RTarget_ok (x : Fct) (hc : corrects x = true) (he : x.2.2.2.2.1.length ≤ 2 ^ 20) (hg : x.2.2.2.2.2.length ≤ 2 ^ 20) : r54_TargetP x = some (targetF x) := by
  obtain ⟨a, b, c, d, e, g⟩ := x
  simp only at he hg
  unfold r54_TargetP r54_Target targetF formed
  try simp -implicitDefEqProofs only [evs, reduceIte, rdRes, rdTT, rdTy, rdLT, Res.un, TT.un, Ty.un, LT.un, Leaf.un, Leaf.plain, LT.plain, evh, List.replicate, splice, LT.pack, Leaf.pack, Nat.reduceAdd, Nat.reduceSub, Nat.reduceLeDiff, Nat.reduceLT, Nat.reduceEqDiff, LT.lo, Leaf.lo, Option.bind_some]
  by_cases h91 : d = 91
  · subst h91
    have n90 : decide ((91 : Int) = 90) = false := rfl
    by_cases h3 : (e.length : Int) = 3
    · by_cases h0 : (0 : Int) < (g.length : Int)
      · simp -implicitDefEqProofs only [evs, reduceIte, rdRes, rdTT, rdTy, rdLT, Res.un, TT.un, Ty.un, LT.un, Leaf.un, Leaf.plain, LT.plain, evh, List.replicate, splice, LT.pack, Leaf.pack, Nat.reduceAdd, Nat.reduceSub, Nat.reduceLeDiff, Nat.reduceLT, Nat.reduceEqDiff, LT.lo, Leaf.lo, n90, decide_true, decide_eq_true h3, decide_eq_true h0, Bool.not_true, Bool.not_false, cond_true, cond_false, Option.bind_some, Bool.and_false, Bool.and_true, Bool.false_eq_true, reduceIte, rdRow_nil, zeroF]
      · match e, h3 with
        | [n0, n1, n2], _ =>
          have hg0 : g = [] := List.eq_nil_of_length_eq_zero (by omega)
          subst hg0
          have C := RCheck_ok (n0, n1, n2, 1, [], [])
          have K := RCorrects_ok (n0, n1, n2, 1, [], [])
          try simp -implicitDefEqProofs only [evs, reduceIte, rdRes, rdTT, rdTy, rdLT, Res.un, TT.un, Ty.un, LT.un, Leaf.un, Leaf.plain, LT.plain, evh, List.replicate, splice, LT.pack, Leaf.pack, Nat.reduceAdd, Nat.reduceSub, Nat.reduceLeDiff, Nat.reduceLT, Nat.reduceEqDiff, LT.lo, Leaf.lo, n90, decide_true, List.length_cons, List.length_nil, Int.cast_ofNat_Int, Int.reduceLT, Int.reduceLE, Int.reduceEq, decide_true, decide_false, true_and, and_self, guardO_true, Bool.not_true, Bool.not_false, Bool.and_self, cond_true, cond_false, Option.bind_some, int_at, apart_row, apart_hp, rdRow_nil, eq_self, C, K]
          try simp -implicitDefEqProofs only [outF, List.getD_cons_zero, List.getD_cons_succ]
          cases hc : decide (checkF (n0, n1, n2, 1, [], []) = 0) <;> simp -implicitDefEqProofs only [evs, reduceIte, rdRes, rdTT, rdTy, rdLT, Res.un, TT.un, Ty.un, LT.un, Leaf.un, Leaf.plain, LT.plain, evh, List.replicate, splice, LT.pack, Leaf.pack, Nat.reduceAdd, Nat.reduceSub, Nat.reduceLeDiff, Nat.reduceLT, Nat.reduceEqDiff, LT.lo, Leaf.lo, cond_true, cond_false, Option.bind_some, rdRow_nil, Bool.false_and, Bool.true_and, hc, C, K]
        | [], h => simp at h
        | [_], h => simp at h
        | [_, _], h => simp at h
        | _ :: _ :: _ :: _ :: _, h => simp at h; omega
    · simp -implicitDefEqProofs only [evs, reduceIte, rdRes, rdTT, rdTy, rdLT, Res.un, TT.un, Ty.un, LT.un, Leaf.un, Leaf.plain, LT.plain, evh, List.replicate, splice, LT.pack, Leaf.pack, Nat.reduceAdd, Nat.reduceSub, Nat.reduceLeDiff, Nat.reduceLT, Nat.reduceEqDiff, LT.lo, Leaf.lo, n90, decide_true, decide_eq_false h3, Bool.not_true, Bool.not_false, cond_true, cond_false, Option.bind_some, Bool.false_and, Bool.false_eq_true, reduceIte, rdRow_nil, zeroF]
  · have h90 : d = 90 := by simpa [corrects, h91] using hc
    subst h90
    have n91 : decide ((90 : Int) = 91) = false := rfl
    by_cases h4 : (e.length : Int) < 4
    · simp -implicitDefEqProofs only [evs, reduceIte, rdRes, rdTT, rdTy, rdLT, Res.un, TT.un, Ty.un, LT.un, Leaf.un, Leaf.plain, LT.plain, evh, List.replicate, splice, LT.pack, Leaf.pack, Nat.reduceAdd, Nat.reduceSub, Nat.reduceLeDiff, Nat.reduceLT, Nat.reduceEqDiff, LT.lo, Leaf.lo, n91, decide_true, decide_eq_true h4, if_neg h91, Bool.not_true, Bool.not_false, cond_true, cond_false, Option.bind_some, Bool.and_false, Bool.and_true, Bool.false_eq_true, reduceIte, rdRow_nil, zeroF]
    · match e, h4 with
      | n0 :: n1 :: n2 :: n3 :: r, _ =>
        simp only [List.length_cons] at he
        have C := RCheck_ok (n0, n1, n2, n3, r, g)
        have K := RCorrects_ok (n0, n1, n2, n3, r, g)
        have S : ∀ h, cellsOf h (.slice (V.add (rowSV false j1 (n0 :: n1 :: n2 :: n3 :: r)).a (4 * 1)) (r.length + 1 + 1 + 1 + 1 - 4) (r.length + 1 + 1 + 1 + 1 - 4) true) 1 = some (r.length, cellsL j1 r) := fun h => cellsOf_sub (xs := n0 :: n1 :: n2 :: n3 :: r) (k := 4) (ls := j1) (w := 1) rfl (by omega) rfl (by simp)
        have S2 : ∀ h, cellsOf h (.slice (rowSV false t1 g).a g.length g.length true) 1 = some (g.length, cellsL t1 g) := fun h => cellsOf_all (ls := t1) (w := 1) rfl (by omega) rfl
        have A1 : ∀ sl, appendS (hL sl) none 1 8 ⟨.nil, 0, 0, false⟩ (cellsL j1 r) r.length = some (accS sl.length j1 r, hL (sl ++ accT j1 r)) := fun sl => app_row (w := 1) rfl (by omega) (by omega)
        have A2 : ∀ sl, appendS (hL sl) none 1 16 ⟨.nil, 0, 0, false⟩ (cellsL t1 g) g.length = some (accS sl.length t1 g, hL (sl ++ accT t1 g)) := fun sl => app_row (w := 1) rfl (by omega) (by omega)
        have R1 : ∀ lp s0 s1 s2, rdRow lp (hL (s0 :: s1 :: s2 :: (accT j1 r ++ accT t1 g))) j1 ⟨(accS 3 j1 r).a, (accS 3 j1 r).len, (accS 3 j1 r).cap, (accS 3 j1 r).tail⟩ = some r := fun lp s0 s1 s2 => acc_at (pre := [s0, s1, s2]) (post := accT t1 g) rfl
        have R2 : ∀ lp s0 s1 s2, rdRow lp (hL (s0 :: s1 :: s2 :: (accT j1 r ++ accT t1 g))) t1 ⟨(accS ((accT j1 r).length + 1 + 1 + 1) t1 g).a, (accS ((accT j1 r).length + 1 + 1 + 1) t1 g).len, (accS ((accT j1 r).length + 1 + 1 + 1) t1 g).cap, (accS ((accT j1 r).length + 1 + 1 + 1) t1 g).tail⟩ = some g := fun lp s0 s1 s2 => by
          have := acc_at (lp := lp) (ls := t1) (xs := g) (pre := s0 :: s1 :: s2 :: accT j1 r) (post := []) rfl
          rw [List.append_nil] at this
          exact this
        have b0 : (0 : Int) < ((r.length + 1 + 1 + 1 + 1 : Nat) : Int) := by omega
        have b1 : (1 : Int) < ((r.length + 1 + 1 + 1 + 1 : Nat) : Int) := by omega
        have b2 : (2 : Int) < ((r.length + 1 + 1 + 1 + 1 : Nat) : Int) := by omega
        have b3 : (3 : Int) < ((r.length + 1 + 1 + 1 + 1 : Nat) : Int) := by omega
        have b4 : (4 : Int) ≤ ((r.length + 1 + 1 + 1 + 1 : Nat) : Int) := by omega
        have b5 : ¬ ((r.length + 1 + 1 + 1 + 1 : Nat) : Int) < 4 := by omega
        have t4 : Int.toNat 4 = 4 := rfl
        try simp -implicitDefEqProofs only [evs, reduceIte, rdRes, rdTT, rdTy, rdLT, Res.un, TT.un, Ty.un, LT.un, Leaf.un, Leaf.plain, LT.plain, evh, List.replicate, splice, LT.pack, Leaf.pack, Nat.reduceAdd, Nat.reduceSub, Nat.reduceLeDiff, Nat.reduceLT, Nat.reduceEqDiff, LT.lo, Leaf.lo, n91, List.length_cons, decide_eq_false b5, if_neg h91, b0, b1, b2, b3, b4, t4, Int.toNat_natCast, Int.cast_ofNat_Int, Int.reduceLT, Int.reduceLE, Int.reduceEq, decide_true, decide_false, true_and, and_self, guardO_true, Int.le_refl, Bool.not_true, Bool.not_false, Bool.and_self, cond_true, cond_false, Option.bind_some, int_at, apart_row, apart_hp, rdRow_nil, eq_self, S, S2, A1, A2, R1, R2, put1, put2, List.append_assoc, C, K]
        try simp -implicitDefEqProofs only [outF, if_neg h91, List.getD_cons_zero, List.getD_cons_succ, List.drop_succ_cons, List.drop_zero]
        cases hc : decide (checkF (n0, n1, n2, n3, r, g) = 0) <;> simp -implicitDefEqProofs only [evs, reduceIte, rdRes, rdTT, rdTy, rdLT, Res.un, TT.un, Ty.un, LT.un, Leaf.un, Leaf.plain, LT.plain, evh, List.replicate, splice, LT.pack, Leaf.pack, Nat.reduceAdd, Nat.reduceSub, Nat.reduceLeDiff, Nat.reduceLT, Nat.reduceEqDiff, LT.lo, Leaf.lo, cond_true, cond_false, Option.bind_some, R1, R2, put1, put2, Bool.false_and, Bool.true_and, hc, C, K]
      | [], h => simp at h
      | [_], h => simp at h
      | [_, _], h => simp at h
      | [_, _, _], h => simp at h
def smallF (x : Fct) : Prop := x.2.2.2.2.1.length ≤ 2 ^ 20 ∧ x.2.2.2.2.2.length ≤ 2 ^ 20
theorem small_ok {x : Fct} (h : smallF x) : okF x = true := by
  obtain ⟨h1, h2⟩ := h
  simp only [okF, Bool.and_eq_true, decide_eq_true_eq]
  omega
theorem put0 {s0 s : Slot} {t : List Slot} : H.put (hL (s0 :: t)) 0 s = hL (s :: t) := by rw [hL_put (by simp only [List.length_cons]; omega)]; rfl
theorem Copy_ok (x : Fct) (h : smallF x) : r53_CopyP x = some x := by
  obtain ⟨a, b, c, d, e, g⟩ := x
  obtain ⟨he, hg⟩ := h
  simp only at he hg
  have S1 : ∀ h, cellsOf h (.slice (rowSV false j1 e).a e.length e.length true) 1 = some (e.length, cellsL j1 e) := fun h => cellsOf_all (ls := j1) (w := 1) rfl (by omega) rfl
  have S2 : ∀ h, cellsOf h (.slice (rowSV false t1 g).a g.length g.length true) 1 = some (g.length, cellsL t1 g) := fun h => cellsOf_all (ls := t1) (w := 1) rfl (by omega) rfl
  have A1 : ∀ sl, appendS (hL sl) none 1 8 ⟨.nil, 0, 0, false⟩ (cellsL j1 e) e.length = some (accS sl.length j1 e, hL (sl ++ accT j1 e)) := fun sl => app_row (w := 1) rfl (by omega) (by omega)
  have A2 : ∀ sl, appendS (hL sl) none 1 16 ⟨.nil, 0, 0, false⟩ (cellsL t1 g) g.length = some (accS sl.length t1 g, hL (sl ++ accT t1 g)) := fun sl => app_row (w := 1) rfl (by omega) (by omega)
  have R1 : ∀ lp s0 s1, rdRow lp (hL (s0 :: s1 :: (accT j1 e ++ accT t1 g))) j1 ⟨(accS 2 j1 e).a, (accS 2 j1 e).len, (accS 2 j1 e).cap, (accS 2 j1 e).tail⟩ = some e := fun lp s0 s1 => acc_at (pre := [s0, s1]) (post := accT t1 g) rfl
  have R2 : ∀ lp s0 s1, rdRow lp (hL (s0 :: s1 :: (accT j1 e ++ accT t1 g))) t1 ⟨(accS ((accT j1 e).length + 1 + 1) t1 g).a, (accS ((accT j1 e).length + 1 + 1) t1 g).len, (accS ((accT j1 e).length + 1 + 1) t1 g).cap, (accS ((accT j1 e).length + 1 + 1) t1 g).tail⟩ = some g := fun lp s0 s1 => by
    have := acc_at (lp := lp) (ls := t1) (xs := g) (pre := s0 :: s1 :: accT j1 e) (post := []) rfl
    rw [List.append_nil] at this
    exact this
  unfold r53_CopyP r53_Copy
  try simp -implicitDefEqProofs only [evs, reduceIte, rdRes, rdTT, rdTy, rdLT, Res.un, TT.un, Ty.un, LT.un, Leaf.un, Leaf.plain, LT.plain, evh, List.replicate, splice, LT.pack, Leaf.pack, Nat.reduceAdd, Nat.reduceSub, Nat.reduceLeDiff, Nat.reduceLT, Nat.reduceEqDiff, LT.lo, Leaf.lo, Option.bind_some, S1, S2, A1, A2, put0, put1, List.append_assoc, R1, R2]
/-! ### Copies of facts -/
theorem pack_low (f : Bool) (x : Fct) : LT.pack FS (LT.lo f FC x) = some (low f x) := rfl
theorem row_cells {f : Bool} {xs : List Fct} {h : H} : cellsOf h (.slice (rowSV f FC xs).a (rowSV f FC xs).len (rowSV f FC xs).cap (rowSV f FC xs).tail) 6 = some (xs.length, xs.flatMap fun x => LT.lo f FC x) := by
  have hfl := flat_length (f := f) (ls := FC) xs
  by_cases h0 : xs.length = 0
  · have : xs = [] := List.eq_nil_of_length_eq_zero h0
    subst this
    rfl
  · show cellsOf h (.slice (rowSV f FC xs).a xs.length (rowSV f FC xs).cap (rowSV f FC xs).tail) 6 = _
    simp only [cellsOf, if_neg h0, H.rds, rowSV, H.from, List.drop_zero, Option.bind_some]
    rw [if_pos ⟨by rw [hfl]; exact Nat.le_refl _, by omega⟩, List.take_of_length_le (by rw [hfl]; exact Nat.le_refl _)]
    rfl
theorem clone_facts {f : Bool} {xs : List Fct} {sl : List Slot} {a : SV} (ha : a.len = xs.length) (hc : cellsOf (hL sl) (.slice a.a a.len a.cap a.tail) 6 = some (xs.length, xs.flatMap fun x => LT.lo f FC x)) (hl : xs.length ≤ 2 ^ 20) (h0 : xs.length ≠ 0) :
    cloneX 6 80 a (hL sl) = some (ownSV sl.length FC xs.length, hL (sl ++ [.own (xs.flatMap fun x => LT.lo f FC x) 6])) := by
  unfold cloneX
  rw [if_neg (by rw [ha]; exact h0), hc]
  simp only [Option.bind_some, appendS, appendV, newAt]
  rw [if_neg h0, guardO_pos ⟨by unfold roomCells; omega, by decide⟩, if_pos ⟨trivial, trivial, trivial⟩, hL_new]
  rfl
theorem cp_cells {f : Bool} {xs : List Fct} {sl : List Slot} {a : SV} (ha : a.len = xs.length) (hc : cellsOf (hL sl) (.slice a.a a.len a.cap a.tail) 6 = some (xs.length, xs.flatMap fun x => LT.lo f FC x)) (hl : xs.length ≤ 2 ^ 20) (hs : ∀ x ∈ xs, smallF x) (h0 : xs.length ≠ 0) :
    law_cp a (hL sl) = some (ownSV sl.length FC xs.length, hL (sl ++ [.own (cellsL FC xs) 6])) := by
  unfold law_cp
  rw [clone_facts ha hc hl h0, Option.bind_some]
  simp only
  have hlen : (((ownSV sl.length FC xs.length).len : Nat) : Int) = (xs.length : Int) := rfl
  have loop : iter FUEL (law_cp.loop1 (ownSV sl.length FC xs.length)) (0, hL (sl ++ [.own (xs.flatMap fun x => LT.lo f FC x) 6])) = some (.ex0 (), hL (sl ++ [.own (cellsL FC xs) 6])) := by
    refine iter_from (fun i => ((i : Int), hL (sl ++ [.own ((xs.take i).flatMap (fun x => LT.lo true FC x) ++ (xs.drop i).flatMap (fun x => LT.lo f FC x)) 6]))) (by simp) xs.length FUEL (fun i hi => ?_) ?_ (fuel_gt (by omega))
    · have hx : xs[i]? = some xs[i] := List.getElem?_eq_getElem hi
      have hA : ((xs.take i).flatMap fun x => LT.lo true FC x).length = i * 6 := by rw [flat_length (ls := FC), List.length_take, Nat.min_eq_left (by omega)]; rfl
      have hd : xs.drop i = xs[i] :: xs.drop (i + 1) := List.drop_eq_getElem_cons hi
      have hB : ((xs.drop i).flatMap fun x => LT.lo f FC x) = LT.lo f FC xs[i] ++ (xs.drop (i + 1)).flatMap fun x => LT.lo f FC x := by rw [hd, List.flatMap_cons]
      have hl6 : (LT.lo f FC xs[i]).length = 6 := rfl
      have hR : ((xs.drop (i + 1)).flatMap fun x => LT.lo f FC x).length = (xs.length - (i + 1)) * 6 := by rw [flat_length (ls := FC), List.length_drop]; rfl
      have htot : ((xs.take i).flatMap (fun x => LT.lo true FC x) ++ (xs.drop i).flatMap (fun x => LT.lo f FC x)).length = xs.length * 6 := by
        rw [List.length_append, hA, hB, List.length_append, hl6, hR]; omega
      have rd : rdT (.agg FS) (hL (sl ++ [.own ((xs.take i).flatMap (fun x => LT.lo true FC x) ++ (xs.drop i).flatMap (fun x => LT.lo f FC x)) 6])) (V.add (ownSV sl.length FC xs.length).a (i * 6)) = some (low f xs[i]) := by
        rw [show V.add (ownSV sl.length FC xs.length).a (i * 6) = .hp sl.length (xs.length * 6) (i * 6) by simp [ownSV, V.add], rds_hp (by simp), hL_m, List.getElem?_append_right (Nat.le_refl _), Nat.sub_self]
        simp only [List.getElem?_cons_zero, Option.getD_some]
        rw [if_pos ⟨htot, by rw [htot]; show 6 ≤ _; omega⟩, List.drop_left' hA, hB]
        rw [show FS.length = 6 from rfl, List.take_left' hl6]
        exact pack_low f _
      have wr : H.wrs (hL (sl ++ [.own ((xs.take i).flatMap (fun x => LT.lo true FC x) ++ (xs.drop i).flatMap (fun x => LT.lo f FC x)) 6])) (V.add (ownSV sl.length FC xs.length).a (i * 6)) (LT.lo true FC xs[i]) = some (hL (sl ++ [.own ((xs.take (i + 1)).flatMap (fun x => LT.lo true FC x) ++ (xs.drop (i + 1)).flatMap (fun x => LT.lo f FC x)) 6])) := by
        rw [show V.add (ownSV sl.length FC xs.length).a (i * 6) = .hp sl.length (xs.length * 6) (i * 6) by simp [ownSV, V.add], wrs_own (cs := (xs.take i).flatMap (fun x => LT.lo true FC x) ++ (xs.drop i).flatMap (fun x => LT.lo f FC x)) (e := 6) (by simp) htot (by show i * 6 + 6 ≤ _; omega), set_new rfl]
        have : splice ((xs.take i).flatMap (fun x => LT.lo true FC x) ++ (xs.drop i).flatMap (fun x => LT.lo f FC x)) (i * 6) (LT.lo true FC xs[i]) = (xs.take (i + 1)).flatMap (fun x => LT.lo true FC x) ++ (xs.drop (i + 1)).flatMap (fun x => LT.lo f FC x) := by
          unfold splice
          rw [List.take_left' hA, List.take_add_one, hx, Option.toList_some, List.flatMap_append, hB]
          rw [show i * 6 + (LT.lo true FC xs[i]).length = i * 6 + 6 from rfl, ← List.drop_drop, List.drop_left' hA, List.drop_left' hl6]
          simp
        rw [this]
      unfold law_cp.loop1
      try simp -implicitDefEqProofs only [Int.toNat_natCast]
      rw [hlen, decide_eq_true (by omega), cond_true, guardO_pos (by omega), rd]
      try simp -implicitDefEqProofs only [Option.bind_some, low, row_ints', row_texts', Copy_ok _ (hs _ (List.getElem_mem hi))]
      rw [guardO_pos (by omega)]
      have wr' : H.wrs (hL (sl ++ [.own ((xs.take i).flatMap (fun x => LT.lo true FC x) ++ (xs.drop i).flatMap (fun x => LT.lo f FC x)) 6])) (V.add (ownSV sl.length FC xs.length).a (i * 6)) [.int .i64 xs[i].1, .int .i64 xs[i].2.1, .int .i64 xs[i].2.2.1, .int .i64 xs[i].2.2.2.1, .slice (rowSV true j1 xs[i].2.2.2.2.1).a xs[i].2.2.2.2.1.length xs[i].2.2.2.2.1.length true, .slice (rowSV true t1 xs[i].2.2.2.2.2).a xs[i].2.2.2.2.2.length xs[i].2.2.2.2.2.length true] = _ := wr
      rw [wr', Option.bind_some, i64_suc (by omega)]
    · unfold law_cp.loop1
      try simp -implicitDefEqProofs only []
      rw [hlen, decide_eq_false (by omega), cond_false, List.take_length, List.drop_length, List.flatMap_nil, List.append_nil]
  rw [loop]
  rfl
theorem cp_at {f : Bool} {xs : List Fct} {sl : List Slot} (hl : xs.length ≤ 2 ^ 20) (hs : ∀ x ∈ xs, smallF x) (h0 : xs.length ≠ 0) :
    law_cp (rowSV f FC xs) (hL sl) = some (ownSV sl.length FC xs.length, hL (sl ++ [.own (cellsL FC xs) 6])) := cp_cells rfl row_cells hl hs h0
theorem cp_empty {a : SV} {h : H} (ha : a.len = 0) : law_cp a h = some (⟨.lp true [] 0, 0, 0, false⟩, h) := by
  unfold law_cp cloneX
  rw [if_pos ha, Option.bind_some]
  simp only
  have : iter FUEL (law_cp.loop1 ⟨.lp true [] 0, 0, 0, false⟩) (0, h) = some (.ex0 (), h) := iter_run (fun _ => (0, h)) 0 FUEL (fun i hi => by omega) (by
    unfold law_cp.loop1
    try simp -implicitDefEqProofs only []
    rfl) (fuel_gt (by omega))
  rw [this]
  rfl
theorem cp_nil {f : Bool} {h : H} : law_cp (rowSV f FC []) h = some (⟨.lp true [] 0, 0, 0, false⟩, h) := cp_empty rfl
/-! ### Told freely -/
/-- A copy of some facts. -/
noncomputable def cpFree (a0 : SV) (h : H) : Option (SV × H) :=
  open Classical in
  match rdRow true H.empty FC a0, h.m h.next with
  | some xs, .fresh => if (∃ f, a0.len = xs.length ∧ ∀ h', cellsOf h' (.slice a0.a a0.len a0.cap a0.tail) 6 = some (xs.length, xs.flatMap fun x => LT.lo f FC x)) ∧ xs.length ≤ 2 ^ 20 ∧ (∀ x ∈ xs, smallF x) then (if xs.length = 0 then some (⟨.lp true [] 0, 0, 0, false⟩, h) else some (ownSV h.next FC xs.length, h.new (cellsL FC xs) 6)) else none
  | _, _ => none
theorem cpFree_of {f : Bool} {xs : List Fct} {sl : List Slot} {a : SV} (h1 : rdRow true H.empty FC a = some xs) (ha : a.len = xs.length) (hc : ∀ h', cellsOf h' (.slice a.a a.len a.cap a.tail) 6 = some (xs.length, xs.flatMap fun x => LT.lo f FC x)) (hl : xs.length ≤ 2 ^ 20) (hs : ∀ x ∈ xs, smallF x) (h0 : xs.length ≠ 0) : cpFree a (hL sl) = some (ownSV sl.length FC xs.length, hL (sl ++ [.own (cellsL FC xs) 6])) := by
  have h2 : (hL sl).m (hL sl).next = .fresh := by rw [hL_m, hL_next, List.getElem?_eq_none (Nat.le_refl _)]; rfl
  unfold cpFree
  rw [h1, h2]
  simp only
  rw [if_pos ⟨⟨f, ha, hc⟩, hl, hs⟩, if_neg h0, hL_new]
  rfl
theorem cpFree_nil {f : Bool} {sl : List Slot} : cpFree (rowSV f FC []) (hL sl) = some (⟨.lp true [] 0, 0, 0, false⟩, hL sl) := by
  have h1 : rdRow true H.empty FC (rowSV f FC []) = some [] := rdRow_args rfl
  have h2 : (hL sl).m (hL sl).next = .fresh := by rw [hL_m, hL_next, List.getElem?_eq_none (Nat.le_refl _)]; rfl
  unfold cpFree
  rw [h1, h2]
  simp only
  rw [if_pos ⟨⟨f, rfl, fun _ => row_cells⟩, by simp, fun x hx => by cases hx⟩]
  rfl
theorem cpFree_ok {f : Bool} {xs : List Fct} {sl : List Slot} (hl : xs.length ≤ 2 ^ 20) (hs : ∀ x ∈ xs, smallF x) (h0 : xs.length ≠ 0) : cpFree (rowSV f FC xs) (hL sl) = some (ownSV sl.length FC xs.length, hL (sl ++ [.own (cellsL FC xs) 6])) := cpFree_of (f := f) (rdRow_args rfl) rfl (fun _ => row_cells) hl hs h0
theorem new_put {h : H} {i : Nat} {s : Slot} {cs : List V} {e : Nat} (hi : i < h.next) : H.new (h.put i s) cs e = (h.new cs e).put i s := by
  refine H.ext' rfl fun j => ?_
  simp only [H.new, H.put]
  by_cases hj : j = i
  · subst hj; rw [beq_ne (show j ≠ h.next by omega)]; rfl
  · rw [beq_ne hj]; rfl
theorem cpFree_is {a0 : SV} {h : H} {r : SV × H} (hr : cpFree a0 h = some r) : ∃ f xs, (a0.len = xs.length ∧ (∀ h', cellsOf h' (.slice a0.a a0.len a0.cap a0.tail) 6 = some (xs.length, xs.flatMap fun x => LT.lo f FC x)) ∧ rdRow true H.empty FC a0 = some xs) ∧ xs.length ≤ 2 ^ 20 ∧ (∀ x ∈ xs, smallF x) ∧ h.m h.next = .fresh ∧ r = if xs.length = 0 then (⟨.lp true [] 0, 0, 0, false⟩, h) else (ownSV h.next FC xs.length, h.new (cellsL FC xs) 6) := by
  unfold cpFree at hr
  split at hr
  · rename_i xs h1 h2
    split at hr
    · rename_i hc
      obtain ⟨⟨f, e1, e2⟩, c1, c2⟩ := hc
      refine ⟨f, xs, ⟨e1, e2, h1⟩, c1, c2, h2, ?_⟩
      split at hr
      · rename_i h0
        rw [if_pos h0]; cases hr; rfl
      · rename_i h0
        rw [if_neg h0]; cases hr; rfl
    · cases hr
  · cases hr
theorem mkX_call {ts : List Ty} {rs : Res} {f : TT ts → H → Option (rs.C × H)} {args : List V} {h : H} {v : V} {h' : H} (hv : (mkX ts rs f).cps args h (fun v h => some (v, h)) = some (v, h')) : ∃ x r, TT.pack ts args = some x ∧ f x h = some (r, h') ∧ v = rs.un r := by
  simp only [mkX, Option.bind_eq_some_iff, Option.some.injEq, Prod.mk.injEq] at hv
  obtain ⟨x, hx, ⟨r, h2⟩, hf, rfl, rfl⟩ := hv
  exact ⟨x, r, hx, hf, rfl⟩
theorem mkX_give {ts : List Ty} {rs : Res} {f : TT ts → H → Option (rs.C × H)} {args : List V} {h : H} {x : TT ts} {r : rs.C} {h' : H} (hx : TT.pack ts args = some x) (hf : f x h = some (r, h')) : (mkX ts rs f).cps args h (fun v h => some (v, h)) = some (rs.un r, h') := by
  simp only [mkX, hx, Option.bind_some, hf]
noncomputable def cpFree.e : Entry := { mkX [.leaf .slice] (.one (.leaf .slice)) cpFree with
  free := true
  hfree := fun _ args h v h' hv => by
    obtain ⟨x, r, hx, hf, rfl⟩ := mkX_call hv
    obtain ⟨f, xs, ⟨e1, e2, h1⟩, c1, c2, c4, hr⟩ := cpFree_is hf
    have fr : ∀ (i : Nat) (s : Slot), i < h.next → (h.put i s).m (h.put i s).next = .fresh := fun i s hi => by
      show (h.put i s).m h.next = .fresh
      simp only [H.put, beq_ne (show h.next ≠ i by omega), cond_false]
      exact c4
    by_cases h0 : xs.length = 0
    · rw [if_pos h0] at hr
      simp only [Prod.mk.injEq] at hr
      obtain ⟨rfl, rfl⟩ := hr
      refine ⟨Nat.le_refl _, fun j hj => rfl, fun i s hi hfr => ⟨hfr, ?_⟩⟩
      refine mkX_give hx ?_
      unfold cpFree
      rw [h1, fr i s hi]
      simp only
      rw [if_pos ⟨⟨f, e1, e2⟩, c1, c2⟩, if_pos h0]
    rw [if_neg h0] at hr
    simp only [Prod.mk.injEq] at hr
    obtain ⟨rfl, rfl⟩ := hr
    refine ⟨Nat.le_succ _, fun j hj => ?_, fun i s hi hfr => ⟨?_, ?_⟩⟩
    · have : j ≠ h.next := fun e => hj (by rw [e]; exact c4)
      simp only [H.new, beq_ne this, cond_false]
    · simp only [H.new, beq_ne (show i ≠ h.next by omega), cond_false]
      exact hfr
    · refine mkX_give hx ?_
      unfold cpFree
      rw [h1, fr i s hi]
      simp only
      rw [if_pos ⟨⟨f, e1, e2⟩, c1, c2⟩, if_neg h0, new_put hi]
      rfl }
theorem hL_of' {h : H} (ht : ∀ i, h.next ≤ i → h.m i = .fresh) : ∃ sl, h = hL sl ∧ sl.length = h.next := by
  refine ⟨(List.range h.next).map h.m, H.ext' (by simp [hL]) fun i => ?_, by simp⟩
  simp only [hL_m]
  rcases Nat.lt_or_ge i h.next with hi | hi
  · rw [List.getElem?_map, List.getElem?_range hi]; rfl
  · rw [List.getElem?_eq_none (by simpa using hi), ht i hi]; rfl
theorem mkX_sub {g : FuncId} {ts : List Ty} {rs : Res} {f f' : TT ts → H → Option (rs.C × H)} (ok : EntryOK Tryz.prog g (mkX ts rs f)) (hp : ∀ x, TT.pack ts (TT.un ts x) = some x) (hsub : ∀ x sl r, f' x (hL sl) = some r → f x (hL sl) = some r) : EntryOK Tryz.prog g (mkX ts rs f') :=
  mkX_of fun x h r h' hx base ρ w us hrel hrl => by
    obtain ⟨sl, rfl, _⟩ := hL_of' hrel.top
    exact ((ok (TT.un ts x) (hL sl)).2 _ _ (mkX_give (hp x) (hsub x sl _ hx))).2 base ρ w us hrel hrl
theorem cpFree.ok : EntryOK Tryz.prog 13 cpFree.e := by
  have := mkX_sub (f' := cpFree) law_cp.ok (fun _ => rfl) fun x sl r hr => by
    obtain ⟨f, xs, e, c1, c2, c4, hr⟩ := cpFree_is hr
    by_cases h0 : xs.length = 0
    · rw [hr, if_pos h0]
      exact cp_empty (by rw [e.1, h0])
    · rw [hr, if_neg h0, hL_new]
      exact cp_cells e.1 (e.2.1 _) c1 c2 h0
  exact this
/-! ### Corrections -/
abbrev cA (a : LT FS) : List V := [.int .i64 a.1, .int .i64 a.2.1, .int .i64 a.2.2.1, .int .i64 a.2.2.2.1, .slice a.2.2.2.2.1.a a.2.2.2.2.1.len a.2.2.2.2.1.cap a.2.2.2.2.1.tail, .slice a.2.2.2.2.2.a a.2.2.2.2.2.len a.2.2.2.2.2.cap a.2.2.2.2.2.tail]
abbrev zF0 : List V := [.int .i64 0, .int .i64 0, .int .i64 0, .int .i64 0, .slice .nil 0 0 false, .slice .nil 0 0 false]
abbrev cT (x : Fct) : List V := [.int .i64 x.1, .int .i64 x.2.1, .int .i64 x.2.2.1, .int .i64 x.2.2.2.1, .slice (rowSV true j1 x.2.2.2.2.1).a x.2.2.2.2.1.length x.2.2.2.2.1.length true, .slice (rowSV true t1 x.2.2.2.2.2).a x.2.2.2.2.2.length x.2.2.2.2.2.length true]
abbrev zL : LT FS := (0, 0, 0, 0, ⟨.nil, 0, 0, false⟩, ⟨.nil, 0, 0, false⟩)
def madeOut (a : LT FS) (x : Fct) : (LT FS × Int) × List (List V) :=
  if checkF x = 0 then (if (targetF x).2 = true then ((a, 0), [cA a, cA a, cT (targetF x).1]) else ((zL, 1), [cA a, zF0, cT (targetF x).1])) else ((zL, 1), [cA a, zF0])
def newsH (h : H) : List (List V) → H
  | [] => h
  | c :: l => newsH (h.new c 6) l
theorem newsH_hL (sl : List Slot) : ∀ L : List (List V), newsH (hL sl) L = hL (sl ++ L.map fun c => .own c 6)
  | [] => by simp [newsH]
  | c :: l => by
    show newsH ((hL sl).new c 6) l = _
    rw [hL_new, newsH_hL (sl ++ [Slot.own c 6]) l]
    simp
theorem newsH_next : ∀ (L : List (List V)) (h : H), h.next ≤ (newsH h L).next
  | [], h => Nat.le_refl _
  | c :: l, h => Nat.le_trans (Nat.le_succ _) (newsH_next l (h.new c 6))
theorem newsH_old : ∀ (L : List (List V)) (h : H) (j : Nat), j < h.next → (newsH h L).m j = h.m j
  | [], h, j, _ => rfl
  | c :: l, h, j, hj => by
    unfold newsH
    rw [newsH_old l (h.new c 6) j (Nat.lt_succ_of_lt hj)]
    simp only [H.new, beq_ne (show j ≠ h.next by omega), cond_false]
theorem newsH_put : ∀ (L : List (List V)) (h : H) (i : Nat) (s : Slot), i < h.next → newsH (h.put i s) L = (newsH h L).put i s
  | [], h, i, s, _ => rfl
  | c :: l, h, i, s, hi => by
    unfold newsH
    rw [new_put hi, newsH_put l (h.new c 6) i s (Nat.lt_succ_of_lt hi)]
abbrev fctOf (a : LT FS) (e : List Int) (g : List ByteArray) : Fct := (a.1, a.2.1, a.2.2.1, a.2.2.2.1, e, g)
noncomputable def freeM (ok : Fct → Bool) (a : LT FS) (h : H) : Option ((LT FS × Int) × H) :=
  open Classical in
  (rdRow true h j1 a.2.2.2.2.1).bind fun e => (rdRow true h t1 a.2.2.2.2.2).bind fun g =>
    if ok (fctOf a e g) = true ∧ ∀ j, h.next ≤ j → h.m j = .fresh then some ((madeOut a (fctOf a e g)).1, newsH h (madeOut a (fctOf a e g)).2) else none
theorem freeM_is {ok : Fct → Bool} {a : LT FS} {h : H} {r : (LT FS × Int) × H} (hr : freeM ok a h = some r) : ∃ e g, rdRow true h j1 a.2.2.2.2.1 = some e ∧ rdRow true h t1 a.2.2.2.2.2 = some g ∧ ok (fctOf a e g) = true ∧ (∀ j, h.next ≤ j → h.m j = .fresh) ∧ r = ((madeOut a (fctOf a e g)).1, newsH h (madeOut a (fctOf a e g)).2) := by
  unfold freeM at hr
  simp only [Option.bind_eq_some_iff] at hr
  obtain ⟨e, he, g, hg, hr⟩ := hr
  split at hr
  · rename_i hc
    simp only [Option.some.injEq] at hr
    exact ⟨e, g, he, hg, hc.1, hc.2, hr.symm⟩
  · cases hr
theorem freeM_ok {ok : Fct → Bool} {a : LT FS} {sl : List Slot} {e : List Int} {g : List ByteArray} (he : rdRow true (hL sl) j1 a.2.2.2.2.1 = some e) (hg : rdRow true (hL sl) t1 a.2.2.2.2.2 = some g) (hc : ok (fctOf a e g) = true) :
    freeM ok a (hL sl) = some ((madeOut a (fctOf a e g)).1, hL (sl ++ (madeOut a (fctOf a e g)).2.map fun c => .own c 6)) := by
  unfold freeM
  rw [he, hg]
  simp only [Option.bind_some]
  rw [if_pos ⟨hc, fun j hj => by rw [hL_m, List.getElem?_eq_none hj]; rfl⟩, newsH_hL]
theorem rdRow_put {ls : List Leaf} {h : H} {i : Nat} {s : Slot} {v : SV} {xs : List (LT ls)} (hf : h.m i = .fresh) (hr : rdRow true h ls v = some xs) : rdRow true (h.put i s) ls v = some xs :=
  rdLeaf_mono (fun cs e hh => by rw [hf] at hh; cases hh) (.row ls) _ _ hr
theorem from_m {n n' : Nat} {m : Nat → Slot} {a : V} : H.from ⟨n, m⟩ a = H.from ⟨n', m⟩ a := by cases a <;> rfl
theorem rds_m {n n' : Nat} {m : Nat → Slot} {a : V} {k : Nat} : H.rds ⟨n, m⟩ a k = H.rds ⟨n', m⟩ a k := by unfold H.rds; rw [from_m (n' := n')]
theorem lt_m {n n' : Nat} {m : Nat → Slot} {l : Leaf} (hl : l = .int .i64 ∨ l = .str := by first | exact .inl rfl | exact .inr rfl) : (fun c => rdLT true ⟨n, m⟩ [l] c) = fun c => rdLT true ⟨n', m⟩ [l] c := by
  funext c
  rcases hl with rfl | rfl <;> rcases c with _ | ⟨v, _ | ⟨w, c⟩⟩ <;> first | rfl | (cases v <;> rfl)
theorem rdRow_more1 {sl : List Slot} {s : Slot} {v : SV} {xs : List Int} (hr : rdRow true (hL sl) j1 v = some xs) : rdRow true (hL (sl ++ [s])) j1 v = some xs := by
  have h1 := rdRow_put (i := sl.length) (s := s) (by rw [hL_m, List.getElem?_eq_none (Nat.le_refl _)]; rfl) hr
  have h2 : (hL (sl ++ [s])).m = ((hL sl).put sl.length s).m := funext fun j => by
    simp only [H.put, hL_m]
    by_cases hj : j = sl.length
    · subst hj; simp
    · rw [beq_ne hj, cond_false]
      rcases Nat.lt_or_ge j sl.length with h | h
      · rw [List.getElem?_append_left h]
      · rw [List.getElem?_eq_none h, List.getElem?_eq_none (by simp; omega)]
  have h3 : ∀ (h h' : H), h.m = h'.m → rdRow true h j1 v = rdRow true h' j1 v := fun h h' e => by
    obtain ⟨n, m⟩ := h
    obtain ⟨n', m'⟩ := h'
    simp only at e
    subst e
    unfold rdRow
    simp only [rdLeaf]
    rw [rds_m (n' := n'), lt_m]
  rw [h3 _ _ h2]
  exact h1
theorem rdRow_more2 {sl : List Slot} {s : Slot} {v : SV} {xs : List ByteArray} (hr : rdRow true (hL sl) t1 v = some xs) : rdRow true (hL (sl ++ [s])) t1 v = some xs := by
  have h1 := rdRow_put (i := sl.length) (s := s) (by rw [hL_m, List.getElem?_eq_none (Nat.le_refl _)]; rfl) hr
  have h2 : (hL (sl ++ [s])).m = ((hL sl).put sl.length s).m := funext fun j => by
    simp only [H.put, hL_m]
    by_cases hj : j = sl.length
    · subst hj; simp
    · rw [beq_ne hj, cond_false]
      rcases Nat.lt_or_ge j sl.length with h | h
      · rw [List.getElem?_append_left h]
      · rw [List.getElem?_eq_none h, List.getElem?_eq_none (by simp; omega)]
  have h3 : ∀ (h h' : H), h.m = h'.m → rdRow true h t1 v = rdRow true h' t1 v := fun h h' e => by
    obtain ⟨n, m⟩ := h
    obtain ⟨n', m'⟩ := h'
    simp only at e
    subst e
    unfold rdRow
    simp only [rdLeaf]
    rw [rds_m (n' := n'), lt_m]
  rw [h3 _ _ h2]
  exact h1
theorem freeM_free {ok : Fct → Bool} : ∀ (args : List V) (h : H) (v : V) (h' : H), (mkX [.agg FS] (.many [.agg FS, .leaf (.int .i64)]) (freeM ok)).cps args h (fun v h => some (v, h)) = some (v, h') →
    h.next ≤ h'.next ∧ (∀ j, h.m j ≠ .fresh → h'.m j = h.m j) ∧ ∀ (i : Nat) (s : Slot), i < h.next → h.m i = .fresh → h'.m i = .fresh ∧ (mkX [.agg FS] (.many [.agg FS, .leaf (.int .i64)]) (freeM ok)).cps args (h.put i s) (fun v h => some (v, h)) = some (v, h'.put i s) := fun args h v h' hv => by
  obtain ⟨x, r, hx, hf, rfl⟩ := mkX_call hv
  obtain ⟨e, g, he, hg, hc, htop, hr⟩ := freeM_is hf
  simp only [Prod.mk.injEq] at hr
  obtain ⟨rfl, rfl⟩ := hr
  refine ⟨newsH_next _ _, fun j hj => newsH_old _ _ j (Nat.lt_of_not_le fun hle => hj (htop j hle)), fun i s hi hfr => ⟨by rw [newsH_old _ _ i hi]; exact hfr, mkX_give hx ?_⟩⟩
  unfold freeM
  rw [rdRow_put hfr he, rdRow_put hfr hg]
  simp only [Option.bind_some]
  rw [if_pos ⟨hc, fun j hj => by
    have hj' : h.next ≤ j := hj
    simp only [H.put, beq_ne (show j ≠ i by omega), cond_false]
    exact htop j hj'⟩, newsH_put _ _ _ _ hi]
def sm (x : Fct) : Bool := decide (x.2.2.2.2.1.length ≤ 2 ^ 20) && decide (x.2.2.2.2.2.length ≤ 2 ^ 20)
noncomputable def madeFree (a : LT FS) (h : H) : Option ((LT FS × Int) × H) := freeM sm a h
noncomputable def formFree (a : LT FS) (h : H) : Option ((LT FS × Int) × H) := freeM (fun x => sm x && corrects x) a h
noncomputable def madeFree.e : Entry := { mkX [.agg FS] (.many [.agg FS, .leaf (.int .i64)]) madeFree with
  free := true
  hfree := fun _ => freeM_free }
noncomputable def formFree.e : Entry := { mkX [.agg FS] (.many [.agg FS, .leaf (.int .i64)]) formFree with
  free := true
  hfree := fun _ => freeM_free }
section at_
variable {sl : List Slot} {a : LT FS}
theorem rd_cA {t : List Slot} : rdT (.agg FS) (hL (sl ++ [.own (cA a) 6] ++ t)) (.hp sl.length 6 0) = some a := by
  rw [rds_hp (by simp), hL_m, List.getElem?_append_left (by simp), List.getElem?_append_right (Nat.le_refl _), Nat.sub_self]
  rfl
theorem rd_cA' {s : Slot} {t : List Slot} : rdT (.agg FS) (hL (sl ++ [s] ++ [.own (cA a) 6] ++ t)) (.hp (sl ++ [s]).length 6 0) = some a := rd_cA
theorem wr_cA {s t : Slot} {cs : List V} {vs : List V} (hc : cs.length = 6) (hv : vs.length = 6) : H.wrs (hL (sl ++ [s] ++ [.own cs 6] ++ [t])) (.hp (sl ++ [s]).length 6 0) vs = some (hL (sl ++ [s] ++ [.own vs 6] ++ [t])) := by
  rw [wr_all (e := 6) (cs := cs) (g := 6) (by simp) hc hv, set_app (by simp), set_new rfl]
end at_
theorem made_heads {sl : List Slot} {a : LT FS} {e : List Int} {g : List ByteArray} (he : rdRow true (hL sl) j1 a.2.2.2.2.1 = some e) (hg : rdRow true (hL sl) t1 a.2.2.2.2.2 = some g) (t : LT FS) (y : Fct) :
    (∀ u, rdT (.agg FS) (hL (sl ++ [.own (cA a) 6] ++ u)) (.hp sl.length 6 0) = some a) ∧ (∀ u v, rdT (.agg FS) (hL (sl ++ [.own (cA a) 6] ++ u ++ v)) (.hp sl.length 6 0) = some a) ∧
    (∀ cs, cs.length = 6 → ∀ b, H.wrs (hL (sl ++ [.own (cA a) 6] ++ [.own cs 6])) (.hp (sl ++ [Slot.own (cA a) 6]).length 6 0) (cA b) = some (hL (sl ++ [.own (cA a) 6] ++ [.own (cA b) 6]))) ∧
    (∀ cs, cs.length = 6 → ∀ b s, H.wrs (hL (sl ++ [.own (cA a) 6] ++ [.own cs 6] ++ [s])) (.hp (sl ++ [Slot.own (cA a) 6]).length 6 0) (cA b) = some (hL (sl ++ [.own (cA a) 6] ++ [.own (cA b) 6] ++ [s]))) ∧
    (∀ b, rdT (.agg FS) (hL (sl ++ [.own (cA a) 6] ++ [.own (cA b) 6])) (.hp (sl ++ [Slot.own (cA a) 6]).length 6 0) = some b) ∧
    (∀ b s, rdT (.agg FS) (hL (sl ++ [.own (cA a) 6] ++ [.own (cA b) 6] ++ [s])) (.hp (sl ++ [Slot.own (cA a) 6]).length 6 0) = some b) ∧
    (∀ b : LT FS, rdRow true (hL (sl ++ [.own (cA a) 6] ++ [.own (cA b) 6])) j1 a.2.2.2.2.1 = some e ∧ rdRow true (hL (sl ++ [.own (cA a) 6] ++ [.own (cA b) 6])) t1 a.2.2.2.2.2 = some g) := by
  refine ⟨fun u => rd_cA, fun u v => by rw [List.append_assoc]; exact rd_cA, fun cs hc b => ?_, fun cs hc b s => wr_cA hc rfl, fun b => ?_, fun b s => rd_cA', fun b => ⟨rdRow_more1 (rdRow_more1 he), rdRow_more2 (rdRow_more2 hg)⟩⟩
  · rw [wr_all (e := 6) (cs := cs) (g := 6) (by simp) hc rfl, set_new rfl]
  · have := rd_cA (sl := sl ++ [.own (cA a) 6]) (a := b) (t := [])
    rw [List.append_nil] at this
    exact this
theorem made_at {sl : List Slot} {a : LT FS} {r : (LT FS × Int) × H} (hr : madeFree a (hL sl) = some r) : arrival_made a (hL sl) = some r := by
  obtain ⟨e, g, he, hg, hc, _, hr⟩ := freeM_is hr
  subst hr
  rw [newsH_hL]
  simp only [sm, Bool.and_eq_true, decide_eq_true_eq] at hc
  have C := Check_ok (fctOf a e g)
  have T := Target_ok (fctOf a e g) hc.1 hc.2
  obtain ⟨m1, m2, m3, m4, m5, m6, m7⟩ := made_heads he hg zL (fctOf a e g)
  have w3 : ∀ s1 s2 : Slot, H.wrs (hL (sl ++ [s1] ++ [s2] ++ [.own zF0 6])) (.hp (sl ++ [s1] ++ [s2]).length 6 0) (cT (targetF (fctOf a e g)).1) = some (hL (sl ++ [s1] ++ [s2] ++ [.own (cT (targetF (fctOf a e g)).1) 6])) := fun s1 s2 => wr_new (g := 6) (e := 6) (cs := zF0) rfl rfl rfl
  obtain ⟨a0, a1, a2, a3, a4, a5⟩ := a
  have m7' := m7 zL
  have m3' := m3 zF0 rfl zL
  have m5' := m5 zL
  have m4' := m4 zF0 rfl zL
  have m4'' := m4 zF0 rfl (a0, a1, a2, a3, a4, a5)
  have m6' := m6 zL
  have m6'' := m6 (a0, a1, a2, a3, a4, a5)
  simp only at m1 m2 m3' m4' m4'' m5' m6' m6'' m7' C T w3 he hg
  unfold arrival_made madeOut
  try simp -implicitDefEqProofs only [hL_new, hL_next, m1, m7', Option.bind_some, C]
  by_cases hC : checkF (fctOf (a0, a1, a2, a3, a4, a5) e g) = 0
  · rw [decide_eq_true hC, if_pos hC]
    try simp -implicitDefEqProofs only [Bool.not_true, cond_false, m1, m7', Option.bind_some, T, hL_new, hL_next, w3]
    by_cases hT : (targetF (fctOf (a0, a1, a2, a3, a4, a5) e g)).2 = true
    · rw [hT, if_pos rfl]
      try simp -implicitDefEqProofs only [Bool.not_true, cond_false, m2, Option.bind_some, m4'', m6'']
      simp
    · have hT' : (targetF (fctOf (a0, a1, a2, a3, a4, a5) e g)).2 = false := by simpa using hT
      rw [hT', if_neg (by simp)]
      try simp -implicitDefEqProofs only [Bool.not_false, cond_true, Option.bind_some, m4', m6']
      simp
  · rw [decide_eq_false hC, if_neg hC]
    try simp -implicitDefEqProofs only [Bool.not_false, cond_true, Option.bind_some, m3', m5']
    simp
theorem form_at {sl : List Slot} {a : LT FS} {r : (LT FS × Int) × H} (hr : formFree a (hL sl) = some r) : r54_form a (hL sl) = some r := by
  obtain ⟨e, g, he, hg, hc, _, hr⟩ := freeM_is hr
  subst hr
  rw [newsH_hL]
  simp only [sm, Bool.and_eq_true, decide_eq_true_eq] at hc
  have C := RCheck_ok (fctOf a e g)
  have T := RTarget_ok (fctOf a e g) hc.2 hc.1.1 hc.1.2
  obtain ⟨m1, m2, m3, m4, m5, m6, m7⟩ := made_heads he hg zL (fctOf a e g)
  have w3 : ∀ s1 s2 : Slot, H.wrs (hL (sl ++ [s1] ++ [s2] ++ [.own zF0 6])) (.hp (sl ++ [s1] ++ [s2]).length 6 0) (cT (targetF (fctOf a e g)).1) = some (hL (sl ++ [s1] ++ [s2] ++ [.own (cT (targetF (fctOf a e g)).1) 6])) := fun s1 s2 => wr_new (g := 6) (e := 6) (cs := zF0) rfl rfl rfl
  obtain ⟨a0, a1, a2, a3, a4, a5⟩ := a
  have m7' := m7 zL
  have m3' := m3 zF0 rfl zL
  have m5' := m5 zL
  have m4' := m4 zF0 rfl zL
  have m4'' := m4 zF0 rfl (a0, a1, a2, a3, a4, a5)
  have m6' := m6 zL
  have m6'' := m6 (a0, a1, a2, a3, a4, a5)
  simp only at m1 m2 m3' m4' m4'' m5' m6' m6'' m7' C T w3 he hg
  unfold r54_form madeOut
  try simp -implicitDefEqProofs only [hL_new, hL_next, m1, m7', Option.bind_some, C]
  by_cases hC : checkF (fctOf (a0, a1, a2, a3, a4, a5) e g) = 0
  · rw [decide_eq_true hC, if_pos hC]
    try simp -implicitDefEqProofs only [Bool.not_true, cond_false, m1, m7', Option.bind_some, T, hL_new, hL_next, w3]
    by_cases hT : (targetF (fctOf (a0, a1, a2, a3, a4, a5) e g)).2 = true
    · rw [hT, if_pos rfl]
      try simp -implicitDefEqProofs only [Bool.not_true, cond_false, m2, Option.bind_some, m4'', m6'']
      simp
    · have hT' : (targetF (fctOf (a0, a1, a2, a3, a4, a5) e g)).2 = false := by simpa using hT
      rw [hT', if_neg (by simp)]
      try simp -implicitDefEqProofs only [Bool.not_false, cond_true, Option.bind_some, m4', m6']
      simp
  · rw [decide_eq_false hC, if_neg hC]
    try simp -implicitDefEqProofs only [Bool.not_false, cond_true, Option.bind_some, m3', m5']
    simp
theorem madeFree.ok : EntryOK Tryz.prog 75 madeFree.e := by
  have := mkX_sub (f' := madeFree) arrival_made.ok (fun _ => rfl) fun x sl r hr => made_at hr
  exact this
theorem formFree.ok : EntryOK Tryz.prog 76 formFree.e := by
  have := mkX_sub (f' := formFree) r54_form.ok (fun _ => rfl) fun x sl r hr => form_at hr
  exact this
/-- The blocks that IndexFunc's calls make. -/
def idxT (f : Bool) (p : Fct → Bool) (xs : List Fct) : List Slot :=
  match xs.findIdx? p with
  | some m => (xs.take (m + 1)).map (cFt f)
  | none => xs.map (cFt f)
theorem IndexF_grow {T : Table} {v : V} {B : List Slot} {xs : List Fct} {s : SV} {f : Bool} (p : Fct → Bool) (hlen : s.len = xs.length) (hn : xs.length < 2 ^ 63)
    (hrd : ∀ i x, xs[i]? = some x → ∀ J, rdT (.agg FS) (hL (B ++ J)) (V.add s.a (i * 6)) = some (low f x))
    (hc : ∀ x ∈ xs, ∀ (J : List Slot) {R : Type} (k : V → H → Option R), callV T.dy v [argF f x] (hL (B ++ J)) k = k (.bool (p x)) (hL (B ++ (J ++ [cFt f x])))) :
    slices_IndexFunc_F2 T s v (hL B) = some (idxOf p xs, hL (B ++ idxT f p xs)) := by
  have hstep : ∀ (i : Nat) (x : Fct), xs[i]? = some x → slices_IndexFunc_F2.loop1 T s v ((i : Int), hL (B ++ (xs.take i).map (cFt f))) = some (bif p x then .done (.ret (i : Int), hL (B ++ (xs.take (i + 1)).map (cFt f))) else .more (((i + 1 : Nat) : Int), hL (B ++ (xs.take (i + 1)).map (cFt f)))) := fun i x hx => by
    obtain ⟨hlt, hx'⟩ := List.getElem?_eq_some_iff.1 hx
    have ht : (xs.take (i + 1)).map (cFt f) = (xs.take i).map (cFt f) ++ [cFt f x] := by
      rw [← List.take_append_getElem hlt, List.map_append, hx']
      rfl
    unfold slices_IndexFunc_F2.loop1
    try simp -implicitDefEqProofs only [hlen, Int.toNat_natCast]
    rw [decide_eq_true (by omega), cond_true, guardO_pos (by omega), hrd i x hx]
    try simp -implicitDefEqProofs only [Option.bind_some, low, rowSV_len, rowSV_cap, rowSV_tail]
    rw [hc x (by rw [← hx']; exact List.getElem_mem hlt), ← ht]
    try simp -implicitDefEqProofs only [Res.pack, Ty.pack, Leaf.pack, Option.bind_some]
    rw [i64_succ (by omega)]
    cases p x <;> rfl
  unfold slices_IndexFunc_F2 idxOf idxT
  cases hf : xs.findIdx? p with
  | some m =>
    obtain ⟨hm, hbad, hgood⟩ := List.findIdx?_eq_some_iff_getElem.1 hf
    have := iter_run (f := slices_IndexFunc_F2.loop1 T s v) (x := (.ret (m : Int), hL (B ++ (xs.take (m + 1)).map (cFt f)))) (fun i => ((i : Int), hL (B ++ (xs.take i).map (cFt f)))) m FUEL (fun i hi => by
      rw [hstep i _ (List.getElem?_eq_getElem (by omega))]
      have := hgood i hi
      cases hpi : p xs[i] with
      | true => exact absurd hpi this
      | false => rfl) (by
      rw [hstep m _ (List.getElem?_eq_getElem hm), hbad]
      rfl) (fuel_gt (by omega))
    have hz : (((0 : Nat) : Int)) = 0 := rfl
    simp only [hz, List.take_zero, List.map_nil, List.append_nil] at this
    rw [this]
    rfl
  | none =>
    have hno := List.findIdx?_eq_none_iff.1 hf
    have := iter_run (f := slices_IndexFunc_F2.loop1 T s v) (x := (.ex0 (), hL (B ++ xs.map (cFt f)))) (fun i => ((i : Int), hL (B ++ (xs.take i).map (cFt f)))) xs.length FUEL (fun i hi => by
      rw [hstep i _ (List.getElem?_eq_getElem hi), hno _ (List.getElem_mem hi)]
      rfl) (by
      unfold slices_IndexFunc_F2.loop1
      try simp -implicitDefEqProofs only [hlen]
      rw [decide_eq_false (by omega), cond_false, List.take_length]) (fuel_gt (by omega))
    have hz : (((0 : Nat) : Int)) = 0 := rfl
    simp only [hz, List.take_zero, List.map_nil, List.append_nil] at this
    rw [this]
    rfl
theorem ContainsF_grow {T : Table} {v : V} {B : List Slot} {xs : List Fct} {s : SV} {f : Bool} (p : Fct → Bool) (hlen : s.len = xs.length) (hn : xs.length < 2 ^ 63)
    (hrd : ∀ i x, xs[i]? = some x → ∀ J, rdT (.agg FS) (hL (B ++ J)) (V.add s.a (i * 6)) = some (low f x))
    (hc : ∀ x ∈ xs, ∀ (J : List Slot) {R : Type} (k : V → H → Option R), callV T.dy v [argF f x] (hL (B ++ J)) k = k (.bool (p x)) (hL (B ++ (J ++ [cFt f x])))) :
    ∃ J, slices_ContainsFunc_F2 T s v (hL B) = some (xs.any p, hL (B ++ J)) := by
  have hJ := IndexF_grow (T := slices_ContainsFunc_F2.tb T) p hlen hn hrd hc
  refine ⟨idxT f p xs, ?_⟩
  unfold slices_ContainsFunc_F2
  rw [hJ]
  simp only [Option.bind_some, idxOf_nonneg]
theorem rd_at {L : List Slot} {id e N k : Nat} {ys : List Fct} {x : Fct} (hs : L[id]? = some (.own (cellsL FC ys) e)) (hn : ys.length = N) (hk : ys[k]? = some x) : rdT (.agg FS) (hL L) (V.add (.hp id (N * 6) 0) (k * 6)) = some (low true x) := by
  have h1 : V.add (.hp id (N * 6) 0) (k * 6) = .hp id (N * 6) (k * 6) := by simp [V.add]
  rw [h1, rds_ownL (ls := FC) (ms := FS) (xs := ys) (e := e) (w := 6) hs (by rw [hn]; rfl) rfl rfl (by omega), hk]
  rfl
theorem wr_at {L : List Slot} {id e N k : Nat} {ys : List Fct} {x : Fct} (hs : L[id]? = some (.own (cellsL FC ys) e)) (hn : ys.length = N) (hk : k < N) : H.wrs (hL L) (V.add (.hp id (N * 6) 0) (k * 6)) [.int .i64 x.1, .int .i64 x.2.1, .int .i64 x.2.2.1, .int .i64 x.2.2.2.1, .slice (rowSV true j1 x.2.2.2.2.1).a x.2.2.2.2.1.length x.2.2.2.2.1.length true, .slice (rowSV true t1 x.2.2.2.2.2).a x.2.2.2.2.2.length x.2.2.2.2.2.length true] = some (hL (L.set id (.own (cellsL FC (ys.set k x)) e))) := by
  have h1 : V.add (.hp id (N * 6) 0) (k * 6) = .hp id (N * 6) (k * 6) := by simp [V.add]
  rw [h1]
  exact wrs_ownL (ls := FC) (xs := ys) (w := 6) (x := x) hs (by rw [hn]; rfl) rfl (by omega) rfl
/-- The blocks that DeleteFunc's calls make. -/
def trail (p : Fct → Bool) (xs : List Fct) : List Slot :=
  match xs.findIdx? p with
  | none => xs.map (cFt true)
  | some m => (xs.take (m + 1)).map (cFt true) ++ (xs.drop (m + 1)).flatMap fun x => [cFt true x, cFt true x]
abbrev keepF (p : Fct → Bool) (xs : List Fct) : List Fct := xs.filter fun x => !p x
abbrev zeros (n : Nat) : List V := repeatCells [.int .i64 0, .int .i64 0, .int .i64 0, .int .i64 0, .slice .nil 0 0 false, .slice .nil 0 0 false] n
theorem zeros_len (n : Nat) : (zeros n).length = n * 6 := by
  induction n with
  | zero => rfl
  | succ n ih => unfold zeros at *; simp only [repeatCells, List.length_append, ih]; simp; omega
theorem Delete_at {T : Table} {v : V} {sl : List Slot} {id n : Nat} {xs : List Fct} (p : Fct → Bool) (h0 : sl[id]? = some (.own (cellsL FC xs) 6)) (hn : xs.length = n) (hl : n ≤ 2 ^ 20)
    (hc : ∀ x ∈ xs, ∀ (sl' : List Slot), (∀ j, j ≠ id → j < sl.length → sl'[j]? = sl[j]?) → ∀ {R : Type} (k : V → H → Option R), callV T.dy v [argF true x] (hL sl') k = k (.bool (p x)) (hL (sl' ++ [cFt true x]))) :
    slices_DeleteFunc_F2 T (ownSV id FC n) v (hL sl) = some (⟨.hp id (n * 6) 0, (keepF p xs).length, n, true⟩, hL (sl.set id (.own (cellsL FC (keepF p xs) ++ zeros (n - (keepF p xs).length)) 6) ++ trail p xs)) := by
  have hid := (List.getElem?_eq_some_iff.1 h0).1
  have a1 : (ownSV id FC n).a = .hp id (n * 6) 0 := rfl
  have a2 : (ownSV id FC n).len = n := rfl
  have a3 : (ownSV id FC n).cap = n := rfl
  have a4 : (ownSV id FC n).tail = true := rfl
  have IX := IndexF_grow (T := slices_DeleteFunc_F2.tb T) (v := v) (B := sl) (xs := xs) (s := ownSV id FC n) (f := true) p (by rw [a2, hn]) (by omega)
    (fun i x hx J => by rw [a1]; exact rd_at (by rw [List.getElem?_append_left hid, h0]) hn hx)
    (fun x hx J R k => by
      have := @hc x hx (sl ++ J) (fun j _ hj => List.getElem?_append_left hj) R k
      rw [List.append_assoc] at this
      exact this)
  unfold slices_DeleteFunc_F2 trail
  rw [IX, Option.bind_some]
  unfold idxOf idxT
  cases hf : xs.findIdx? p with
  | none =>
    have hno := List.findIdx?_eq_none_iff.1 hf
    have hk : keepF p xs = xs := List.filter_eq_self.2 fun x hx => by rw [hno x hx]; rfl
    simp only
    rw [decide_true, cond_true, hk, hn, Nat.sub_self]
    have : sl.set id (.own (cellsL FC xs ++ zeros 0) 6) = sl := by
      rw [show zeros 0 = [] from rfl, List.append_nil]
      apply List.ext_getElem?
      intro j
      by_cases hj : j = id
      · subst hj; rw [List.getElem?_set_self hid, h0]
      · rw [List.getElem?_set_ne (by omega)]
    rw [this]
    rfl
  | some m =>
    obtain ⟨hm, hbad, hgood⟩ := List.findIdx?_eq_some_iff_getElem.1 hf
    simp only
    rw [decide_eq_false (by omega), cond_false]
    have hpre : (xs.take (m + 1)).filter (fun x => !p x) = xs.take m := by
      rw [List.take_add_one, List.getElem?_eq_getElem hm, List.filter_append]
      have e1 : (xs.take m).filter (fun x => !p x) = xs.take m := List.filter_eq_self.2 fun x hx => by
        obtain ⟨i, hi, e⟩ := List.getElem_of_mem hx
        rw [List.length_take] at hi
        rw [← e, List.getElem_take]
        have := hgood i (by omega)
        cases h : p xs[i] with
        | true => exact absurd h this
        | false => rfl
      rw [e1]
      simp [hbad]
    obtain ⟨q, hq, i, ys, rfl, hi, hyl, hy⟩ := iter_inv (f := slices_DeleteFunc_F2.loop1 T (ownSV id FC n) v)
      (Inv := fun st => ∃ (i j : Nat) (ys : List Fct), st = (((i : Int), (j : Int)), hL (sl.set id (.own (cellsL FC ys) 6) ++ ((xs.take (m + 1)).map (cFt true) ++ ((xs.take j).drop (m + 1)).flatMap fun x => [cFt true x, cFt true x]))) ∧ m + 1 ≤ j ∧ j ≤ n ∧ ys.length = n ∧ i < j ∧ ys.take i = (xs.take j).filter (fun x => !p x) ∧ ∀ t, j ≤ t → ys[t]? = xs[t]?)
      (Post := fun q => ∃ (i : Nat) (ys : List Fct), q = (.ex0 (i : Int), hL (sl.set id (.own (cellsL FC ys) 6) ++ ((xs.take (m + 1)).map (cFt true) ++ (xs.drop (m + 1)).flatMap fun x => [cFt true x, cFt true x]))) ∧ i ≤ n ∧ ys.length = n ∧ ys.take i = keepF p xs)
      (fun st => n - st.1.2.toNat) (fun st hi => by
        obtain ⟨i, j, ys, rfl, hmj, hjn, hyl, hij, hy, hyt⟩ := hi
        by_cases hlt : j < n
        · left
          have hxj : xs[j]? = some xs[j] := List.getElem?_eq_getElem (by omega)
          have hyj : ys[j]? = some xs[j] := by rw [hyt j (Nat.le_refl _), hxj]
          have htd : ((xs.take (j + 1)).drop (m + 1)) = (xs.take j).drop (m + 1) ++ [xs[j]] := by
            rw [List.take_add_one, hxj, Option.toList_some, List.drop_append_of_le_length (by rw [List.length_take]; omega)]
          have htf : (xs.take (j + 1)).filter (fun x => !p x) = (xs.take j).filter (fun x => !p x) ++ (bif !p xs[j] then [xs[j]] else []) := by
            rw [List.take_add_one, hxj, Option.toList_some, List.filter_append]
            cases h : p xs[j] <;> simp [h]
          obtain ⟨tr, htr⟩ : ∃ tr, tr = (xs.take (m + 1)).map (cFt true) ++ ((xs.take j).drop (m + 1)).flatMap fun x => [cFt true x, cFt true x] := ⟨_, rfl⟩
          have htr' : ((xs.take (m + 1)).map (cFt true) ++ ((xs.take (j + 1)).drop (m + 1)).flatMap fun x => [cFt true x, cFt true x]) = tr ++ [cFt true xs[j], cFt true xs[j]] := by
            rw [htr, htd, List.flatMap_append, List.append_assoc]; rfl
          obtain ⟨L, hL'⟩ : ∃ L, L = sl.set id (.own (cellsL FC ys) 6) ++ tr := ⟨_, rfl⟩
          have hLid : ∀ t, (L ++ t)[id]? = some (.own (cellsL FC ys) 6) := fun t => by
            rw [hL', List.append_assoc, List.getElem?_append_left (by rw [List.length_set]; exact hid), List.getElem?_set_self hid]
          have hLid0 : L[id]? = some (.own (cellsL FC ys) 6) := by have := hLid []; rwa [List.append_nil] at this
          have hLlen : id < L.length := (List.getElem?_eq_some_iff.1 hLid0).1
          have hw := wr_new (sl := L) (e := 6) (g := 6) (i := L.length) (cs := [.int .i64 0, .int .i64 0, .int .i64 0, .int .i64 0, .slice .nil 0 0 false, .slice .nil 0 0 false]) (vs := LT.lo true FC xs[j]) rfl rfl rfl
          have hw' : H.wrs (hL (L ++ [.own [.int .i64 0, .int .i64 0, .int .i64 0, .int .i64 0, .slice .nil 0 0 false, .slice .nil 0 0 false] 6])) (.hp L.length 6 0) [.int .i64 xs[j].1, .int .i64 xs[j].2.1, .int .i64 xs[j].2.2.1, .int .i64 xs[j].2.2.2.1, .slice (rowSV true j1 xs[j].2.2.2.2.1).a xs[j].2.2.2.2.1.length xs[j].2.2.2.2.1.length true, .slice (rowSV true t1 xs[j].2.2.2.2.2).a xs[j].2.2.2.2.2.length xs[j].2.2.2.2.2.length true] = some (hL (L ++ [cFt true xs[j]])) := hw
          have q1 := (rds_cFt (sl := L ++ [cFt true xs[j]]) (id := L.length) (x := xs[j]) (f := true) (by simp)).1
          have q2 := (rds_cFt (sl := L ++ [cFt true xs[j]] ++ [cFt true xs[j]]) (id := L.length) (x := xs[j]) (f := true) (by simp)).1
          have r1 : rdT (.agg FS) (hL L) (V.add (.hp id (n * 6) 0) (j * 6)) = some (low true xs[j]) := rd_at hLid0 hyl hyj
          have cc := fun {R : Type} (k : V → H → Option R) => @hc xs[j] (List.getElem_mem _) (L ++ [cFt true xs[j]]) (fun t ht htl => by
            rw [hL', List.append_assoc, List.getElem?_append_left (by rw [List.length_set]; exact htl), List.getElem?_set_ne (by omega)]) R k
          have cc' : ∀ {R : Type} (k : V → H → Option R), callV T.dy v [.agg [.int .i64 xs[j].1, .int .i64 xs[j].2.1, .int .i64 xs[j].2.2.1, .int .i64 xs[j].2.2.2.1, .slice (rowSV true j1 xs[j].2.2.2.2.1).a xs[j].2.2.2.2.1.length xs[j].2.2.2.2.1.length true, .slice (rowSV true t1 xs[j].2.2.2.2.2).a xs[j].2.2.2.2.2.length xs[j].2.2.2.2.2.length true]] (hL (L ++ [cFt true xs[j]])) k = k (.bool (p xs[j])) (hL (L ++ [cFt true xs[j]] ++ [cFt true xs[j]])) := fun {R} k => cc k
          rw [← htr, ← hL']
          cases hp : p xs[j]
          · refine ⟨((((i + 1 : Nat) : Int), ((j + 1 : Nat) : Int)), hL (sl.set id (.own (cellsL FC (ys.set i xs[j])) 6) ++ (tr ++ [cFt true xs[j], cFt true xs[j]]))), ?_, ⟨i + 1, j + 1, ys.set i xs[j], by rw [htr'], by omega, by omega, by rw [List.length_set, hyl], by omega, ?_, fun t ht => ?_⟩, by simp only [Int.toNat_natCast]; omega⟩
            · have wr : H.wrs (hL (L ++ [cFt true xs[j]] ++ [cFt true xs[j]])) (V.add (.hp id (n * 6) 0) (i * 6)) [.int .i64 xs[j].1, .int .i64 xs[j].2.1, .int .i64 xs[j].2.2.1, .int .i64 xs[j].2.2.2.1, .slice (rowSV true j1 xs[j].2.2.2.2.1).a xs[j].2.2.2.2.1.length xs[j].2.2.2.2.1.length true, .slice (rowSV true t1 xs[j].2.2.2.2.2).a xs[j].2.2.2.2.2.length xs[j].2.2.2.2.2.length true] = some (hL (sl.set id (.own (cellsL FC (ys.set i xs[j])) 6) ++ (tr ++ [cFt true xs[j], cFt true xs[j]]))) := by
                rw [wr_at (ys := ys) (e := 6) (by rw [List.append_assoc]; exact hLid _) hyl (by omega), hL', List.append_assoc, List.append_assoc, set_app (by rw [List.length_set]; exact hid), List.set_set]
                simp
              unfold slices_DeleteFunc_F2.loop1
              try simp -implicitDefEqProofs only [a1, a2, Int.toNat_natCast]
              rw [decide_eq_true (by omega), cond_true, guardO_pos (by omega), r1]
              try simp -implicitDefEqProofs only [Option.bind_some, low, rowSV_len, rowSV_cap, rowSV_tail, hL_new, hL_next]
              rw [hw', Option.bind_some, q1, Option.bind_some]
              try simp -implicitDefEqProofs only [low, rowSV_len, rowSV_cap, rowSV_tail]
              rw [cc']
              try simp -implicitDefEqProofs only [Res.pack, Ty.pack, Leaf.pack, Option.bind_some, hp, Bool.not_false, cond_true]
              rw [q2, Option.bind_some]
              try simp -implicitDefEqProofs only [low, rowSV_len, rowSV_cap, rowSV_tail]
              rw [guardO_pos (by omega), wr]
              try simp -implicitDefEqProofs only [Option.bind_some]
              rw [i64_suc (by omega), i64_suc (by omega)]
            · rw [htf, hp, ← hy, List.take_add_one, List.take_set_of_le (Nat.le_refl _), List.getElem?_set_self (by omega)]
              rfl
            · rw [List.getElem?_set_ne (by omega)]
              exact hyt t (by omega)
          · refine ⟨(((i : Int), ((j + 1 : Nat) : Int)), hL (L ++ [cFt true xs[j]] ++ [cFt true xs[j]])), ?_, ⟨i, j + 1, ys, by rw [htr', hL']; simp, by omega, by omega, hyl, by omega, by rw [htf, hp, hy]; simp, fun t ht => hyt t (by omega)⟩, by simp only [Int.toNat_natCast]; omega⟩
            unfold slices_DeleteFunc_F2.loop1
            try simp -implicitDefEqProofs only [a1, a2, Int.toNat_natCast]
            rw [decide_eq_true (by omega), cond_true, guardO_pos (by omega), r1]
            try simp -implicitDefEqProofs only [Option.bind_some, low, rowSV_len, rowSV_cap, rowSV_tail, hL_new, hL_next]
            rw [hw', Option.bind_some, q1, Option.bind_some]
            try simp -implicitDefEqProofs only [low, rowSV_len, rowSV_cap, rowSV_tail]
            rw [cc']
            try simp -implicitDefEqProofs only [Res.pack, Ty.pack, Leaf.pack, Option.bind_some, hp, Bool.not_true, cond_false]
            rw [i64_suc (by omega)]
        · right
          have : j = n := by omega
          subst this
          have hxt : xs.take j = xs := by rw [← hn, List.take_length]
          refine ⟨_, ?_, i, ys, rfl, by omega, hyl, by rw [hy, hxt]⟩
          unfold slices_DeleteFunc_F2.loop1
          try simp -implicitDefEqProofs only [a2]
          rw [decide_eq_false (by omega), cond_false, hxt]) FUEL (((m : Int), ((m + 1 : Nat) : Int)), hL (sl ++ (xs.take (m + 1)).map (cFt true))) ⟨m, m + 1, xs, by
            have e1 : (xs.take (m + 1)).drop (m + 1) = [] := List.drop_eq_nil_of_le (by rw [List.length_take]; omega)
            have e2 : sl.set id (.own (cellsL FC xs) 6) = sl := by
              apply List.ext_getElem?
              intro j
              by_cases hj : j = id
              · subst hj; rw [List.getElem?_set_self hid, h0]
              · rw [List.getElem?_set_ne (by omega)]
            rw [e1, e2]; simp, Nat.le_refl _, by omega, hn, by omega, by rw [hpre], fun t _ => rfl⟩ (fuel_gt (by simp only [Int.toNat_natCast]; omega))
    rw [i64_suc (by omega), hq, Option.bind_some]
    have hil : i = (keepF p xs).length := by rw [← hy, List.length_take]; omega
    obtain ⟨tr, htr⟩ : ∃ tr, tr = (xs.take (m + 1)).map (cFt true) ++ (xs.drop (m + 1)).flatMap fun x => [cFt true x, cFt true x] := ⟨_, rfl⟩
    rw [← htr]
    have hcl : (cellsL FC ys).length = n * 6 := by have := flat_length (f := true) (ls := FC) ys; rw [hyl] at this; exact this
    have hck : (cellsL FC (keepF p xs)).length = i * 6 := by have := flat_length (f := true) (ls := FC) (keepF p xs); rw [← hil] at this; exact this
    have htk : (cellsL FC ys).take (i * 6) = cellsL FC (keepF p xs) := by
      rw [← hy] at hck ⊢
      conv => lhs; rw [← List.take_append_drop i ys]
      show List.take (i * 6) (List.flatMap _ _) = _
      rw [List.flatMap_append]
      exact List.take_left' hck
    have hclear : clearH (hL (sl.set id (.own (cellsL FC ys) 6) ++ tr)) (V.add (.hp id (n * 6) 0) (i * 6)) [.int .i64 0, .int .i64 0, .int .i64 0, .int .i64 0, .slice .nil 0 0 false, .slice .nil 0 0 false] (n - i) = some (hL (sl.set id (.own (cellsL FC (keepF p xs) ++ zeros (n - i)) 6) ++ tr)) := by
      unfold clearH
      by_cases h : n - i = 0
      · have : ys = keepF p xs := by rw [← hy, List.take_of_length_le (by omega)]
        rw [if_pos h, h, this, show zeros 0 = [] from rfl, List.append_nil]
      · have hz := zeros_len (n - i)
        rw [if_neg h, show V.add (.hp id (n * 6) 0) (i * 6) = .hp id (n * 6) (i * 6) by simp [V.add], wrs_own (cs := cellsL FC ys) (e := 6) (by rw [List.getElem?_append_left (by rw [List.length_set]; exact hid), List.getElem?_set_self hid]) hcl (by rw [hz]; omega), set_app (by rw [List.length_set]; exact hid), List.set_set]
        have : splice (cellsL FC ys) (i * 6) (zeros (n - i)) = cellsL FC (keepF p xs) ++ zeros (n - i) := by
          unfold splice
          rw [htk, List.drop_eq_nil_of_le (by rw [hcl, hz]; omega), List.append_nil]
        rw [this]
    rw [a1, a2, a3, a4]
    simp only [Int.toNat_natCast, Int.toNat_zero, Nat.sub_zero]
    rw [guardO_pos ⟨by omega, by omega, by omega⟩, hclear, Option.bind_some, guardO_pos ⟨by omega, by omega, by omega⟩, ← hil, V_add0]
/-! ### The effects of one key -/
theorem rdT_frame {sl sl' : List Slot} {p : V} {k : Ky} (h : rdT (.agg KC) (hL sl) p = some k) (hf : ∀ j, j < sl.length → sl'[j]? = sl[j]?) : rdT (.agg KC) (hL sl') p = some k := by
  have : ∀ cs, H.from (hL sl) p = some cs → H.from (hL sl') p = some cs := fun cs hcs => by
    cases p with
    | lp b c o => exact hcs
    | hp id g o =>
      simp only [H.from] at hcs ⊢
      rw [hL_m] at hcs
      cases hj : sl[id]? with
      | none => rw [hj] at hcs; cases hcs
      | some s =>
        rw [hj] at hcs
        rw [hL_m, hf id (List.getElem?_eq_some_iff.1 hj).1, hj]
        exact hcs
    | _ => simp only [H.from, reduceCtorEq] at hcs
  simp only [rdT, H.rds, Option.bind_eq_some_iff] at h ⊢
  obtain ⟨ds, ⟨cs, h1, h2⟩, h3⟩ := h
  exact ⟨ds, ⟨cs, this cs h1, h2⟩, h3⟩
theorem key_dec (x y : Ky) : (decide (x.1 = y.1) && (decide (x.2.1 = y.2.1) && decide (x.2.2 = y.2.2))) = decide (x = y) := by
  obtain ⟨a, b, c⟩ := x
  obtain ⟨d, e, f⟩ := y
  rw [Bool.eq_iff_iff]
  simp
theorem call40 {T : Table} (hT : T.dy.fn 40 = law_ArrivalApart_3_1.e) {sl : List Slot} {p : V} {k : Ky} (x : Fct) (hk : rdT (.agg KC) (hL (sl ++ [cFt true x])) p = some k) {R : Type} (K : V → H → Option R) :
    callV T.dy (.func 40 [p]) [argF true x] (hL sl) K = K (.bool (!decide (keyF x = k))) (hL (sl ++ [cFt true x])) := by
  have r1 : rdT (.agg KC) (hL (sl ++ [cFt true x])) (.hp sl.length 6 0) = some (keyF x) := (rds_cFt (f := true) (by simp)).2
  show (T.dy.fn 40).cps [argF true x, p] (hL sl) K = _
  rw [hT]
  show (law_ArrivalApart_3_1 (low true x) p (hL sl)).bind (fun p => K (.bool p.1) p.2) = _
  have : law_ArrivalApart_3_1 (low true x) p (hL sl) = some (!decide (keyF x = k), hL (sl ++ [cFt true x])) := by
    obtain ⟨x0, x1, x2, x3, x4, x5⟩ := x
    obtain ⟨k0, k1, k2⟩ := k
    unfold law_ArrivalApart_3_1
    try simp -implicitDefEqProofs only [low, rowSV_len, rowSV_cap, rowSV_tail, hL_new, hL_next]
    have e : (Slot.own [.int .i64 x0, .int .i64 x1, .int .i64 x2, .int .i64 x3, .slice (rowSV true [.int .i64] x4).a x4.length x4.length true, .slice (rowSV true [.str] x5).a x5.length x5.length true] 6) = cFt true (x0, x1, x2, x3, x4, x5) := rfl
    rw [e, r1, Option.bind_some, hk, Option.bind_some]
    have := key_dec (keyF (x0, x1, x2, x3, x4, x5)) (k0, k1, k2)
    simp only [keyF] at this ⊢
    rw [this]
  rw [this]
  rfl
abbrev A4 := SV × SV × SV × SV
abbrev slV4 (s : SV) : V := .slice s.a s.len s.cap s.tail
abbrev cS4 (a : A4) : List V := [slV4 a.1, slV4 a.2.1, slV4 a.2.2.1, slV4 a.2.2.2]
abbrev notK (k : Ky) (x : Fct) : Bool := !decide (keyF x = k)
def ownRes (n : Nat) (a : A4) (k : Ky) (xs : List Fct) : SV × List Slot :=
  if xs.length = 0 then (⟨.lp true [] 0, 0, 0, false⟩, [.own (cS4 a) 4])
  else (⟨.hp (n + 1) (xs.length * 6) 0, (keepF (notK k) xs).length, xs.length, true⟩, [.own (cS4 a) 4, .own (cellsL FC (keepF (notK k) xs) ++ zeros (xs.length - (keepF (notK k) xs).length)) 6] ++ trail (notK k) xs)
def appSl (h : H) : List Slot → H
  | [] => h
  | s :: l => appSl (h.newS s) l
theorem newS_hL {sl : List Slot} {s : Slot} : (hL sl).newS s = hL (sl ++ [s]) := by
  refine H.ext' (by simp [H.newS, hL]) fun j => ?_
  simp only [H.newS, hL_m, hL_next]
  by_cases hj : j = sl.length
  · subst hj
    rw [List.getElem?_append_right (Nat.le_refl _), Nat.sub_self, Nat.beq_refl]
    rfl
  · rw [beq_ne hj, cond_false]
    rcases Nat.lt_or_ge j sl.length with h | h
    · rw [List.getElem?_append_left h]
    · rw [List.getElem?_eq_none h, List.getElem?_eq_none (by rw [List.length_append, List.length_singleton]; omega)]
theorem appSl_hL (sl : List Slot) : ∀ l : List Slot, appSl (hL sl) l = hL (sl ++ l)
  | [] => by simp [appSl]
  | s :: l => by
    show appSl ((hL sl).newS s) l = _
    rw [newS_hL, appSl_hL (sl ++ [s]) l]
    simp
theorem appSl_next : ∀ (l : List Slot) (h : H), h.next ≤ (appSl h l).next
  | [], h => Nat.le_refl _
  | s :: l, h => Nat.le_trans (Nat.le_succ _) (appSl_next l (h.newS s))
theorem appSl_old : ∀ (l : List Slot) (h : H) (j : Nat), j < h.next → (appSl h l).m j = h.m j
  | [], h, j, _ => rfl
  | s :: l, h, j, hj => by
    unfold appSl
    rw [appSl_old l (h.newS s) j (Nat.lt_succ_of_lt hj)]
    simp only [H.newS, beq_ne (show j ≠ h.next by omega), cond_false]
theorem newS_put {h : H} {i : Nat} {s s' : Slot} (hi : i < h.next) : H.newS (h.put i s) s' = (h.newS s').put i s := by
  refine H.ext' rfl fun j => ?_
  simp only [H.newS, H.put]
  by_cases hj : j = i
  · subst hj; rw [beq_ne (show j ≠ h.next by omega)]; rfl
  · rw [beq_ne hj]; rfl
theorem appSl_put : ∀ (l : List Slot) (h : H) (i : Nat) (s : Slot), i < h.next → appSl (h.put i s) l = (appSl h l).put i s
  | [], h, i, s, _ => rfl
  | s' :: l, h, i, s, hi => by
    unfold appSl
    rw [newS_put hi, appSl_put l (h.newS s') i s (Nat.lt_succ_of_lt hi)]
noncomputable def ownFree (a : A4) (p : V) (h : H) : Option (SV × H) :=
  open Classical in
  match rdRow true H.empty FC a.1, rdT (.agg KC) h p with
  | some xs, some k => if (∃ f, a.1 = rowSV f FC xs) ∧ xs.length ≤ 2 ^ 20 ∧ (∀ x ∈ xs, smallF x) ∧ ∀ j, h.next ≤ j → h.m j = .fresh then some ((ownRes h.next a k xs).1, appSl h (ownRes h.next a k xs).2) else none
  | _, _ => none
theorem ownFree_is {a : A4} {p : V} {h : H} {r : SV × H} (hr : ownFree a p h = some r) : ∃ f xs k, a.1 = rowSV f FC xs ∧ rdT (.agg KC) h p = some k ∧ xs.length ≤ 2 ^ 20 ∧ (∀ x ∈ xs, smallF x) ∧ (∀ j, h.next ≤ j → h.m j = .fresh) ∧ r = ((ownRes h.next a k xs).1, appSl h (ownRes h.next a k xs).2) := by
  unfold ownFree at hr
  split at hr
  · rename_i xs k h1 h2
    split at hr
    · rename_i hc
      obtain ⟨⟨f, e⟩, c1, c2, c3⟩ := hc
      simp only [Option.some.injEq] at hr
      exact ⟨f, xs, k, e, h2, c1, c2, c3, hr.symm⟩
    · cases hr
  · cases hr
theorem own_at {a : A4} {p : V} {sl : List Slot} {r : SV × H} (hr : ownFree a p (hL sl) = some r) : law_ArrivalApart_3 a p (hL sl) = some r := by
  obtain ⟨f, xs, k, ha, hk, hl, hs, _, hr⟩ := ownFree_is hr
  rw [hr, appSl_hL, hL_next]
  have rb : rdT (.leaf .slice) (hL (sl ++ [.own (cS4 a) 4])) (.hp sl.length 4 0) = some a.1 := by
    rw [rd_own (g := 4) (e := 4) (cs := cS4 a) (by simp) rfl]; rfl
  obtain ⟨a0, a1, a2, a3⟩ := a
  simp only at ha
  subst ha
  unfold law_ArrivalApart_3 ownRes
  try simp -implicitDefEqProofs only [hL_new, hL_next]
  have rb' : rdT (.leaf .slice) (hL (sl ++ [.own [.slice (rowSV f FC xs).a (rowSV f FC xs).len (rowSV f FC xs).cap (rowSV f FC xs).tail, .slice a1.a a1.len a1.cap a1.tail, .slice a2.a a2.len a2.cap a2.tail, .slice a3.a a3.len a3.cap a3.tail] 4])) (.hp sl.length 4 0) = some (rowSV f FC xs) := rb
  rw [rb', Option.bind_some]
  by_cases h0 : xs.length = 0
  · have : xs = [] := List.eq_nil_of_length_eq_zero h0
    subst this
    rw [cp_nil, Option.bind_some]
    simp only
    have IX := IndexF_grow (T := slices_DeleteFunc_F2.tb law_ArrivalApart_3.tb) (v := .func 40 [p]) (B := sl ++ [.own (cS4 (rowSV f FC [], a1, a2, a3)) 4]) (xs := []) (s := ⟨.lp true [] 0, 0, 0, false⟩) (f := true) (notK k) rfl (by simp)
      (fun i x hx => by cases hx) (fun x hx => by cases hx)
    have D : slices_DeleteFunc_F2 law_ArrivalApart_3.tb ⟨.lp true [] 0, 0, 0, false⟩ (.func 40 [p]) (hL (sl ++ [.own (cS4 (rowSV f FC [], a1, a2, a3)) 4])) = some (⟨.lp true [] 0, 0, 0, false⟩, hL (sl ++ [.own (cS4 (rowSV f FC [], a1, a2, a3)) 4])) := by
      unfold slices_DeleteFunc_F2
      rw [IX, Option.bind_some]
      simp [idxT, idxOf]
    rw [D]
    rfl
  · rw [cp_at hl hs h0, Option.bind_some, if_neg h0]
    simp only
    have hlen : (sl ++ [Slot.own (cS4 (rowSV f FC xs, a1, a2, a3)) 4]).length = sl.length + 1 := by simp
    have D := Delete_at (T := law_ArrivalApart_3.tb) (v := .func 40 [p]) (sl := sl ++ [.own (cS4 (rowSV f FC xs, a1, a2, a3)) 4] ++ [.own (cellsL FC xs) 6]) (id := (sl ++ [Slot.own (cS4 (rowSV f FC xs, a1, a2, a3)) 4]).length) (n := xs.length) (xs := xs) (notK k) (by simp) rfl hl
      (fun x hx sl' hsl R K => call40 rfl x (rdT_frame hk fun j hj => by
        by_cases hjl : j < sl'.length
        · rw [List.getElem?_append_left hjl, hsl j (by rw [hlen]; omega) (by rw [List.length_append, hlen]; omega), List.append_assoc, List.getElem?_append_left hj]
        · have := hsl j (by rw [hlen]; omega) (by rw [List.length_append, hlen]; omega)
          rw [List.getElem?_eq_none (by omega), List.append_assoc, List.getElem?_append_left hj] at this
          rw [List.getElem?_eq_getElem hj] at this
          cases this) K)
    rw [set_new rfl] at D
    have D' : slices_DeleteFunc_F2 law_ArrivalApart_3.tb (ownSV (sl ++ [Slot.own (cS4 (rowSV f FC xs, a1, a2, a3)) 4]).length FC xs.length) (.func 40 [p]) (hL (sl ++ [.own (cS4 (rowSV f FC xs, a1, a2, a3)) 4] ++ [.own (cellsL FC xs) 6])) = _ := D
    rw [D', Option.bind_some, hlen]
    simp
noncomputable def ownFree.e : Entry := { mkX [.agg [.slice, .slice, .slice, .slice], .leaf .ptr] (.one (.leaf .slice)) (fun x h => ownFree x.1 x.2 h) with
  free := true
  hfree := fun _ args h v h' hv => by
    obtain ⟨x, r, hx, hf, rfl⟩ := mkX_call hv
    obtain ⟨f, xs, k, ha, hk, c1, c2, c3, hr⟩ := ownFree_is hf
    simp only [Prod.mk.injEq] at hr
    obtain ⟨rfl, rfl⟩ := hr
    refine ⟨appSl_next _ _, fun j hj => ?_, fun i s hi hfr => ⟨?_, ?_⟩⟩
    · rcases Nat.lt_or_ge j h.next with h1 | h1
      · exact appSl_old _ _ _ h1
      · exact absurd (c3 j h1) hj
    · rw [appSl_old _ _ _ hi]; exact hfr
    · refine mkX_give hx ?_
      have h1 : rdRow true H.empty FC x.1.1 = some xs := by rw [ha]; exact rdRow_args rfl
      have h2 : rdT (.agg KC) (h.put i s) x.2 = some k := by
        simp only [rdT, H.rds, Option.bind_eq_some_iff] at hk ⊢
        obtain ⟨ds, ⟨cs, k1, k2⟩, k3⟩ := hk
        exact ⟨ds, ⟨cs, from_mono (fun cs e hh => by rw [hfr] at hh; cases hh) k1, k2⟩, k3⟩
      show ownFree x.1 x.2 (h.put i s) = _
      unfold ownFree
      rw [h1, h2]
      simp only
      rw [if_pos ⟨⟨f, ha⟩, c1, c2, fun j hj => by
        show (h.put i s).m j = .fresh
        have hj' : h.next ≤ j := hj
        simp only [H.put, beq_ne (show j ≠ i by omega), cond_false]
        exact c3 j hj'⟩]
      show some (_, appSl (h.put i s) _) = _
      rw [appSl_put _ _ _ _ hi]
      rfl }
theorem ownFree.ok : EntryOK Tryz.prog 39 ownFree.e := by
  have := mkX_sub (rs := .one (.leaf .slice)) (f' := fun (x : TT [.agg [.slice, .slice, .slice, .slice], .leaf .ptr]) h => ownFree x.1 x.2 h) law_ArrivalApart_3.ok (fun _ => rfl) fun x sl r hr => own_at hr
  exact this
/-- What an own block becomes: the element's cells are gone, a zero fact stands at the end. -/
def cutC (cs : List V) (i : Nat) : List V := cs.take (i * 6) ++ cs.drop (i * 6 + 6) ++ zeros 1
noncomputable def deleteLoc (a0 : SV) (a1 a2 : Int) (h : H) : Option (SV × H) :=
  match a0.a with
  | .hp id g off => match h.m id with
    | .own cs e => guardO (off = 0 ∧ g = cs.length ∧ cs.length = a0.len * 6 ∧ a0.cap = a0.len ∧ a0.tail = true ∧ 0 ≤ a1 ∧ a2 = a1 + 1 ∧ a1 < a0.len ∧ a0.len ≤ 2 ^ 20)
        (some (⟨.hp id g 0, a0.len - 1, a0.len, true⟩, h.put id (.own (cutC cs a1.toNat) e)))
    | _ => none
  | _ => none
theorem delete_is {a0 : SV} {a1 a2 : Int} {h : H} {r : SV × H} (hr : deleteLoc a0 a1 a2 h = some r) : ∃ id cs e, ∃ i n : Nat, a0 = ⟨.hp id (n * 6) 0, n, n, true⟩ ∧ a1 = i ∧ a2 = i + 1 ∧ i < n ∧ n ≤ 2 ^ 20 ∧ h.m id = .own cs e ∧ cs.length = n * 6 ∧ r = (⟨.hp id (n * 6) 0, n - 1, n, true⟩, h.put id (.own (cutC cs i) e)) := by
  obtain ⟨a, len, cap, tail⟩ := a0
  unfold deleteLoc at hr
  cases a <;> simp only [reduceCtorEq] at hr
  rename_i id g off
  cases hm : h.m id <;> rw [hm] at hr <;> simp only [reduceCtorEq] at hr
  rename_i cs e
  unfold guardO at hr
  split at hr
  case isFalse => cases hr
  rename_i hc
  obtain ⟨c1, c2, c3, c4, c5, c6, c7, c8, c9⟩ := hc
  cases hr
  subst c1 c4 c5
  obtain ⟨i, rfl⟩ := Int.eq_ofNat_of_zero_le c6
  exact ⟨id, cs, e, i, cap, by rw [c2, c3], rfl, c7, by omega, c9, hm, c3, by rw [c2, c3]; rfl⟩
theorem cut_len {cs : List V} {i n : Nat} (hl : cs.length = n * 6) (hi : i < n) : (cutC cs i).length = n * 6 := by
  unfold cutC
  rw [List.length_append, List.length_append, List.length_take, List.length_drop, zeros_len]
  omega
theorem delete_at {a0 : SV} {a1 a2 : Int} {sl : List Slot} {r : SV × H} (hr : deleteLoc a0 a1 a2 (hL sl) = some r) : slices_Delete_F2 a0 a1 a2 (hL sl) = some r := by
  obtain ⟨id, cs, e, i, n, rfl, rfl, rfl, hi, hn, hm, hl, rfl⟩ := delete_is hr
  have hs : sl[id]? = some (.own cs e) := by
    rw [hL_m] at hm
    cases h : sl[id]? with
    | none => rw [h] at hm; cases hm
    | some s => rw [h] at hm; exact congrArg some hm
  have hid := (List.getElem?_eq_some_iff.1 hs).1
  unfold slices_Delete_F2
  simp only
  rw [guardO_pos ⟨by omega, by omega, by omega, by omega⟩, decide_eq_false (show ¬ ((i : Int) = (i : Int) + 1) by omega), cond_false]
  rw [guardO_pos ⟨by omega, by omega, by omega⟩, guardO_pos ⟨by omega, by omega, by omega⟩]
  have e1 : Int.toNat ((i : Int) + 1) = i + 1 := by omega
  have e2 : Int.toNat ((n : Nat) : Int) = n := by omega
  have e3 : Int.toNat (i : Int) = i := by omega
  have e4 : (Int.toNat 0) = 0 := rfl
  rw [e1, e2, e3, e4, Nat.sub_zero, Nat.sub_zero, hL_reserve]
  simp only [List.replicate, List.append_nil, V.add, Nat.zero_add, Nat.add_zero]
  have hrep : List.replicate 0 Slot.fresh = [] := rfl
  obtain ⟨rest, hrest⟩ : ∃ rest, rest = cs.drop (i * 6 + 6) := ⟨_, rfl⟩
  have hrl : rest.length = (n - (i + 1)) * 6 := by rw [hrest, List.length_drop, hl]; omega
  have hcell : cellsOf (hL sl) (.slice (.hp id (n * 6) ((i + 1) * 6)) (n - (i + 1)) (n - (i + 1)) true) 6 = some (n - (i + 1), rest) := by
    unfold cellsOf
    by_cases h0 : n - (i + 1) = 0
    · simp only [h0, if_true]
      rw [h0, Nat.zero_mul] at hrl
      rw [List.eq_nil_of_length_eq_zero hrl]
    · simp only [h0, if_false, H.rds, H.from, hL_m, hs, Option.getD_some, hl, if_true, Option.bind_some]
      rw [show (i + 1) * 6 = i * 6 + 6 by omega, ← hrest, if_pos ⟨by rw [hrl]; omega, by omega⟩, List.take_of_length_le (by rw [hrl]; omega)]
      rfl
  rw [hcell, Option.bind_some]
  simp only
  have hlast : ∀ (ds : List V), ds.length = n * 6 → ds.take ((n - 1) * 6) = cs.take (i * 6) ++ rest → ∀ sl', sl' = sl.set id (.own ds e) → H.wrs (hL sl') (.hp id (n * 6) ((n - 1) * 6)) (zeros 1) = some (hL (sl.set id (.own (cutC cs i) e))) := fun ds hd ht sl' hsl => by
    have hs' : sl'[id]? = some (.own ds e) := by rw [hsl, List.getElem?_set_self hid]
    simp only [H.wrs, hL_m, hs', Option.getD_some]
    rw [if_pos ⟨hd, by rw [zeros_len]; omega⟩, hL_put (by rw [hsl, List.length_set]; exact hid), hsl, List.set_set]
    have : splice ds ((n - 1) * 6) (zeros 1) = cutC cs i := by
      unfold splice cutC
      rw [ht, ← hrest, zeros_len, List.drop_eq_nil_of_le (by rw [hd]; omega), List.append_nil]
    rw [this]
  have hz : ∀ h (a : V), clearH h a [.int .i64 0, .int .i64 0, .int .i64 0, .int .i64 0, .slice .nil 0 0 false, .slice .nil 0 0 false] 1 = h.wrs a (zeros 1) := fun _ _ => rfl
  unfold appendS appendV
  simp only
  by_cases h0 : n - (i + 1) = 0
  · have hin : i = n - 1 := by omega
    rw [if_pos h0, Option.bind_some]
    simp only
    rw [guardO_pos ⟨by omega, by omega, by omega⟩, show Int.toNat ((i : Nat) : Int) = i from e3, show n - i = 1 by omega, hz, show 0 + i * 6 = (n - 1) * 6 by rw [hin]; omega]
    rw [hlast cs hl (by
      have : rest = [] := List.eq_nil_of_length_eq_zero (by rw [hrl, h0])
      rw [this, List.append_nil, hin]) sl (by
      apply List.ext_getElem?
      intro j
      by_cases hj : j = id
      · subst hj; rw [List.getElem?_set_self hid, hs]
      · rw [List.getElem?_set_ne (Ne.symm hj)]), Option.bind_some, hL_put hid, hin]
  · rw [if_neg h0, guardO_pos ⟨by unfold roomCells; omega, by decide⟩]
    simp only [hL_m, hs, Option.getD_some]
    rw [if_neg (show ¬ n = 0 by omega), if_pos (show i + (n - (i + 1)) ≤ n by omega)]
    have hw : H.wrs (hL sl) (.hp id (n * 6) (i * 6)) rest = some (hL (sl.set id (.own (splice cs (i * 6) rest) e))) := by
      simp only [H.wrs, hL_m, hs, Option.getD_some]
      rw [if_pos ⟨hl, by rw [hrl]; omega⟩, hL_put hid]
    rw [show 0 + i * 6 = i * 6 by omega, hw, Option.bind_some, Option.bind_some]
    simp only
    rw [show i + (n - (i + 1)) = n - 1 by omega, guardO_pos ⟨by omega, by omega, by omega⟩, show Int.toNat ((n - 1 : Nat) : Int) = n - 1 by omega, show n - (n - 1) = 1 by omega, hz]
    have hsl : (splice cs (i * 6) rest).length = n * 6 := by
      unfold splice
      rw [List.length_append, List.length_append, List.length_take, List.length_drop, hrl]
      omega
    rw [show 0 + (n - 1) * 6 = (n - 1) * 6 by omega, hlast _ hsl (by
      unfold splice
      rw [List.take_append_of_le_length (by rw [List.length_append, List.length_take, hrl]; omega), List.take_of_length_le (by rw [List.length_append, List.length_take, hrl]; omega)]) _ rfl, Option.bind_some, hL_put hid]
noncomputable def deleteLoc.e : Entry := { mkX [.leaf .slice, .leaf (.int .i64), .leaf (.int .i64)] (.one (.leaf .slice)) (fun x h => deleteLoc x.1 x.2.1 x.2.2 h) with
  loc := true
  hloc := fun _ args h v h' hv => by
    obtain ⟨x, r, hx, hf, rfl⟩ := mkX_call hv
    obtain ⟨id, cs, e, i, n, h1, h2, h3, h4, h5, h6, h7, h8⟩ := delete_is hf
    simp only [Prod.mk.injEq] at h8
    obtain ⟨rfl, rfl⟩ := h8
    have ha : args = [.slice x.1.a x.1.len x.1.cap x.1.tail, .int .i64 x.2.1, .int .i64 x.2.2] := by
      have := TT.un_pack _ args x hx
      rw [← this]
      rfl
    rw [h1] at ha
    refine ⟨id, n * 6, 0, n, n, true, _, _, ha, by rw [h6]; simp, rfl, fun h₂ hh => ?_⟩
    refine mkX_give hx ?_
    show deleteLoc x.1 x.2.1 x.2.2 h₂ = _
    rw [h1, h2, h3]
    unfold deleteLoc
    simp only [hh, h6]
    rw [guardO_pos ⟨trivial, h7.symm, h7, trivial, trivial, by omega, trivial, by omega, h5⟩]
    rfl }
theorem deleteLoc.ok : EntryOK Tryz.prog 45 deleteLoc.e := by
  have := mkX_sub (rs := .one (.leaf .slice)) (f' := fun (x : TT [.leaf .slice, .leaf (.int .i64), .leaf (.int .i64)]) h => deleteLoc x.1 x.2.1 x.2.2 h) slices_Delete_F2.ok (fun _ => rfl) fun x sl r hr => delete_at hr
  exact this

end Go.Proofs.YtjkjcnadgpndoaaGreat
