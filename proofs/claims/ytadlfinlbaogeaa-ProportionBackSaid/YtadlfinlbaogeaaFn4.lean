/- The functions of the program as Lean functions, each with the equation by which the evaluator is that function. Written by a program of this session (evdrive.py). Conditions: none. -/
import Derived.Test.YtadlfinlbaogeaaProg
import Derived.Test.YtadlfinlbaogeaaEvSpec
import Derived.Test.YtadlfinlbaogeaaFn3
namespace Go.Proofs.Ytadlfinlbaogeaa
open Go Go.Proofs.Ytadlfinlbaogeaa.Ev
set_option maxRecDepth 100000
set_option linter.unusedVariables false
/-! ### spile/spileref01.Up: function 19 -/
noncomputable def spileref01_Up.tb : Table := tab [(17, spileref01_OfCheckedP.e)] [] Table.nil
theorem spileref01_Up.tbok : TabOK Try.prog (spileref01_Up.tb) := TabOK.tab (TabOK.nil Try.prog) (all_cons spileref01_OfCheckedP.ok (all_nil _)) (all_nil _)
noncomputable def spileref01_Up (a0 : Int) (a1 : Int) (a2 : Int) (h : H) : Option ((Int × Int) × H) :=
((spileref01_OfCheckedP a0 a1 a2).bind fun (r1, r2, r3) =>
(bif (!(decide (r3 = 0))) then (some ((0, r3), h)) else ((bif (decide ((0 : Int) < r2)) then (some (.next (IntKind.wrap .i64 (r1 + 1)), h)) else (some (.next r1, h)) : Option (Flow (Int) (Int × Int) × H)).bind fun (fl5, h4) => match fl5 with
| .next y6 =>
(bif (decide ((128849018880000 : Int) < y6)) then (some ((0, 15), h4)) else (some ((y6, 0), h4)))
| .ret rr7 => (some (rr7, h4))
| .ex0 _ => none
| .ex1 _ => none)))
def spileref01_Up.A : Ann := { lits := [], conds := [(23, [8], [.leaf (.int .i64)], none, none)], loops := [], regs := [] }
theorem spileref01_Up.eq : ∀ (x : TT [.leaf (.int .i64), .leaf (.int .i64), .leaf (.int .i64)]) (h : H), evalFn Try.prog (spileref01_Up.tb) spileref01_Up.A Try.f19 (.many [.leaf (.int .i64), .leaf (.int .i64)]) (TT.un [.leaf (.int .i64), .leaf (.int .i64), .leaf (.int .i64)] x) h = spileref01_Up x.1 x.2.1 x.2.2 h := by
  intro x h
  kernel_rfl
noncomputable def spileref01_Up.e : Entry := mkX [.leaf (.int .i64), .leaf (.int .i64), .leaf (.int .i64)] (.many [.leaf (.int .i64), .leaf (.int .i64)]) fun x h => spileref01_Up x.1 x.2.1 x.2.2 h
theorem spileref01_Up.ok : EntryOK Try.prog 19 (spileref01_Up.e) := mkX_ok (spileref01_Up.tbok) Try.mixed Try.func19 (by kernel_rfl) (spileref01_Up.eq)
noncomputable def spileref01_UpP (a0 : Int) (a1 : Int) (a2 : Int) : Option (Int × Int) := (spileref01_Up a0 a1 a2 H.empty).bind fun p => rdRes false p.2 (.many [.leaf (.int .i64), .leaf (.int .i64)]) (Res.un (.many [.leaf (.int .i64), .leaf (.int .i64)]) p.1)
theorem spileref01_UpP.eq : ∀ x : TT [.leaf (.int .i64), .leaf (.int .i64), .leaf (.int .i64)], ((evalFn Try.prog (spileref01_Up.tb) spileref01_Up.A Try.f19 (.many [.leaf (.int .i64), .leaf (.int .i64)]) (TT.lo false [.leaf (.int .i64), .leaf (.int .i64), .leaf (.int .i64)] x) H.empty).bind fun p => rdRes false p.2 (.many [.leaf (.int .i64), .leaf (.int .i64)]) (Res.un (.many [.leaf (.int .i64), .leaf (.int .i64)]) p.1)) = spileref01_UpP x.1 x.2.1 x.2.2 := by
  intro x
  rw [show TT.lo false [.leaf (.int .i64), .leaf (.int .i64), .leaf (.int .i64)] x = TT.un [.leaf (.int .i64), .leaf (.int .i64), .leaf (.int .i64)] (x.1, x.2.1, x.2.2) from rfl, spileref01_Up.eq]
  rfl
noncomputable def spileref01_UpP.e : Entry := mkP [.leaf (.int .i64), .leaf (.int .i64), .leaf (.int .i64)] (.many [.leaf (.int .i64), .leaf (.int .i64)]) fun x => spileref01_UpP x.1 x.2.1 x.2.2
theorem spileref01_UpP.ok : EntryOK Try.prog 19 (spileref01_UpP.e) := mkP_ok (spileref01_Up.tbok) Try.mixed Try.func19 (by kernel_rfl) spileref01_UpP.eq

/-! ### spile/spileref01.Compare: function 21 -/
noncomputable def spileref01_Compare.tb : Table := tab [(56, spileref01_IsP.e), (57, spileref01_ProductP.e), (58, spileref01_LessP.e)] [] Table.nil
theorem spileref01_Compare.tbok : TabOK Try.prog (spileref01_Compare.tb) := TabOK.tab (TabOK.nil Try.prog) (all_cons spileref01_IsP.ok (all_cons spileref01_ProductP.ok (all_cons spileref01_LessP.ok (all_nil _)))) (all_nil _)
noncomputable def spileref01_Compare (a0 : Int) (a1 : Int) (a2 : Int) (a3 : Int) (h : H) : Option ((Int × Int) × H) :=
((((spileref01_IsP a0).bind fun r1 =>
(bif !(!r1) then ((spileref01_IsP a1).bind fun r2 =>
(bif !(!r2) then ((spileref01_IsP a2).bind fun r3 =>
(bif !(!r3) then ((spileref01_IsP a3).bind fun r4 =>
(some ((!r4), h))) else (some (true, h)))) else (some (true, h)))) else (some (true, h))))).bind fun (y5, h6) =>
(bif y5 then (some ((0, 2), h6)) else (((bif !(decide (a1 = 0)) then (some ((decide (a3 = 0)), h6)) else (some (true, h6)))).bind fun (y7, h8) =>
(bif y7 then (some ((0, 16), h8)) else ((spileref01_ProductP a0 a3).bind fun (r9_0, r9_1) =>
((spileref01_ProductP a2 a1).bind fun (r10_0, r10_1) =>
(let h11 : H := H.new h8 [.int .u64 0, .int .u64 0] 2
(let h12 : H := H.new h11 [.int .u64 0, .int .u64 0] 2
((H.wrs h12 (.hp h8.next 2 0) [.int .u64 r9_0, .int .u64 r9_1]).bind fun h13 =>
((H.wrs h13 (.hp h11.next 2 0) [.int .u64 r10_0, .int .u64 r10_1]).bind fun h14 =>
((rdT (.agg [.int .u64, .int .u64]) h14 (.hp h8.next 2 0)).bind fun (x15_0, x15_1) =>
((rdT (.agg [.int .u64, .int .u64]) h14 (.hp h11.next 2 0)).bind fun (x16_0, x16_1) =>
((spileref01_LessP (x15_0, x15_1) (x16_0, x16_1)).bind fun r17 =>
(bif r17 then (some (((-1), 0), h14)) else ((rdT (.agg [.int .u64, .int .u64]) h14 (.hp h11.next 2 0)).bind fun (x18_0, x18_1) =>
((rdT (.agg [.int .u64, .int .u64]) h14 (.hp h8.next 2 0)).bind fun (x19_0, x19_1) =>
((spileref01_LessP (x18_0, x18_1) (x19_0, x19_1)).bind fun r20 =>
(bif r20 then (some ((1, 0), h14)) else (some ((0, 0), h14))))))))))))))))))))
def spileref01_Compare.A : Ann := { lits := [], conds := [], loops := [], regs := [(1, [29], [.leaf .bool]), (3, [35], [.leaf .bool])] }
theorem spileref01_Compare.eq : ∀ (x : TT [.leaf (.int .i64), .leaf (.int .i64), .leaf (.int .i64), .leaf (.int .i64)]) (h : H), evalFn Try.prog (spileref01_Compare.tb) spileref01_Compare.A Try.f21 (.many [.leaf (.int .i64), .leaf (.int .i64)]) (TT.un [.leaf (.int .i64), .leaf (.int .i64), .leaf (.int .i64), .leaf (.int .i64)] x) h = spileref01_Compare x.1 x.2.1 x.2.2.1 x.2.2.2 h := by
  intro x h
  kernel_rfl
noncomputable def spileref01_Compare.e : Entry := mkX [.leaf (.int .i64), .leaf (.int .i64), .leaf (.int .i64), .leaf (.int .i64)] (.many [.leaf (.int .i64), .leaf (.int .i64)]) fun x h => spileref01_Compare x.1 x.2.1 x.2.2.1 x.2.2.2 h
theorem spileref01_Compare.ok : EntryOK Try.prog 21 (spileref01_Compare.e) := mkX_ok (spileref01_Compare.tbok) Try.mixed Try.func21 (by kernel_rfl) (spileref01_Compare.eq)
noncomputable def spileref01_CompareP (a0 : Int) (a1 : Int) (a2 : Int) (a3 : Int) : Option (Int × Int) := (spileref01_Compare a0 a1 a2 a3 H.empty).bind fun p => rdRes false p.2 (.many [.leaf (.int .i64), .leaf (.int .i64)]) (Res.un (.many [.leaf (.int .i64), .leaf (.int .i64)]) p.1)
theorem spileref01_CompareP.eq : ∀ x : TT [.leaf (.int .i64), .leaf (.int .i64), .leaf (.int .i64), .leaf (.int .i64)], ((evalFn Try.prog (spileref01_Compare.tb) spileref01_Compare.A Try.f21 (.many [.leaf (.int .i64), .leaf (.int .i64)]) (TT.lo false [.leaf (.int .i64), .leaf (.int .i64), .leaf (.int .i64), .leaf (.int .i64)] x) H.empty).bind fun p => rdRes false p.2 (.many [.leaf (.int .i64), .leaf (.int .i64)]) (Res.un (.many [.leaf (.int .i64), .leaf (.int .i64)]) p.1)) = spileref01_CompareP x.1 x.2.1 x.2.2.1 x.2.2.2 := by
  intro x
  rw [show TT.lo false [.leaf (.int .i64), .leaf (.int .i64), .leaf (.int .i64), .leaf (.int .i64)] x = TT.un [.leaf (.int .i64), .leaf (.int .i64), .leaf (.int .i64), .leaf (.int .i64)] (x.1, x.2.1, x.2.2.1, x.2.2.2) from rfl, spileref01_Compare.eq]
  rfl
noncomputable def spileref01_CompareP.e : Entry := mkP [.leaf (.int .i64), .leaf (.int .i64), .leaf (.int .i64), .leaf (.int .i64)] (.many [.leaf (.int .i64), .leaf (.int .i64)]) fun x => spileref01_CompareP x.1 x.2.1 x.2.2.1 x.2.2.2
theorem spileref01_CompareP.ok : EntryOK Try.prog 21 (spileref01_CompareP.e) := mkP_ok (spileref01_Compare.tbok) Try.mixed Try.func21 (by kernel_rfl) spileref01_CompareP.eq

/-! ### spile/spilelaw01.ProportionExact: function 3 -/
noncomputable def spilelaw01_ProportionExact.tb : Table := tab [(15, spilelaw01_awakeP.e), (16, proportion_OfP.e), (17, spileref01_OfCheckedP.e), (18, proportion_UpP.e), (19, spileref01_UpP.e), (20, proportion_CompareP.e), (21, spileref01_CompareP.e)] [] Table.nil
theorem spilelaw01_ProportionExact.tbok : TabOK Try.prog (spilelaw01_ProportionExact.tb) := TabOK.tab (TabOK.nil Try.prog) (all_cons spilelaw01_awakeP.ok (all_cons proportion_OfP.ok (all_cons spileref01_OfCheckedP.ok (all_cons proportion_UpP.ok (all_cons spileref01_UpP.ok (all_cons proportion_CompareP.ok (all_cons spileref01_CompareP.ok (all_nil _)))))))) (all_nil _)
noncomputable def spilelaw01_ProportionExact (a0 : (Int × Int × Int × Int)) (h : H) : Option ((Bool) × H) :=
(match a0 with
| (a0_0, a0_1, a0_2, a0_3) =>
(let h1 : H := H.new h [.int .i64 a0_0, .int .i64 a0_1, .int .i64 a0_2, .int .i64 a0_3] 4
((spilelaw01_awakeP ).bind fun r2 =>
(bif (!r2) then (some (false, h1)) else ((rdT (.leaf (.int .i64)) h1 (.hp h.next 4 0)).bind fun x3 =>
((rdT (.leaf (.int .i64)) h1 (.hp h.next 4 1)).bind fun x4 =>
((rdT (.leaf (.int .i64)) h1 (.hp h.next 4 2)).bind fun x5 =>
((proportion_OfP x3 x4 x5).bind fun (r6, r7, r8) =>
((rdT (.leaf (.int .i64)) h1 (.hp h.next 4 0)).bind fun x9 =>
((rdT (.leaf (.int .i64)) h1 (.hp h.next 4 1)).bind fun x10 =>
((rdT (.leaf (.int .i64)) h1 (.hp h.next 4 2)).bind fun x11 =>
((spileref01_OfCheckedP x9 x10 x11).bind fun (r12, r13, r14) =>
((rdT (.leaf (.int .i64)) h1 (.hp h.next 4 0)).bind fun x15 =>
((rdT (.leaf (.int .i64)) h1 (.hp h.next 4 1)).bind fun x16 =>
((rdT (.leaf (.int .i64)) h1 (.hp h.next 4 2)).bind fun x17 =>
((proportion_UpP x15 x16 x17).bind fun (r18, r19) =>
((rdT (.leaf (.int .i64)) h1 (.hp h.next 4 0)).bind fun x20 =>
((rdT (.leaf (.int .i64)) h1 (.hp h.next 4 1)).bind fun x21 =>
((rdT (.leaf (.int .i64)) h1 (.hp h.next 4 2)).bind fun x22 =>
((spileref01_UpP x20 x21 x22).bind fun (r23, r24) =>
((rdT (.leaf (.int .i64)) h1 (.hp h.next 4 0)).bind fun x25 =>
((rdT (.leaf (.int .i64)) h1 (.hp h.next 4 1)).bind fun x26 =>
((rdT (.leaf (.int .i64)) h1 (.hp h.next 4 2)).bind fun x27 =>
((rdT (.leaf (.int .i64)) h1 (.hp h.next 4 3)).bind fun x28 =>
((proportion_CompareP x25 x26 x27 x28).bind fun (r29, r30) =>
((rdT (.leaf (.int .i64)) h1 (.hp h.next 4 0)).bind fun x31 =>
((rdT (.leaf (.int .i64)) h1 (.hp h.next 4 1)).bind fun x32 =>
((rdT (.leaf (.int .i64)) h1 (.hp h.next 4 2)).bind fun x33 =>
((rdT (.leaf (.int .i64)) h1 (.hp h.next 4 3)).bind fun x34 =>
((spileref01_CompareP x31 x32 x33 x34).bind fun (r35, r36) =>
(((bif (decide (r6 = r12)) then (bif (decide (r7 = r13)) then (bif (decide (r8 = r14)) then (bif (decide (r18 = r23)) then (bif (decide (r19 = r24)) then (bif (decide (r29 = r35)) then (some ((decide (r30 = r36)), h1)) else (some (false, h1))) else (some (false, h1))) else (some (false, h1))) else (some (false, h1))) else (some (false, h1))) else (some (false, h1)))).bind fun (y37, h38) =>
(some (y37, h38)))))))))))))))))))))))))))))))))
def spilelaw01_ProportionExact.A : Ann := { lits := [], conds := [], loops := [], regs := [(9, [2], [.leaf .bool])] }
theorem spilelaw01_ProportionExact.eq : ∀ (x : TT [.agg [.int .i64, .int .i64, .int .i64, .int .i64]]) (h : H), evalFn Try.prog (spilelaw01_ProportionExact.tb) spilelaw01_ProportionExact.A Try.f3 (.one (.leaf .bool)) (TT.un [.agg [.int .i64, .int .i64, .int .i64, .int .i64]] x) h = spilelaw01_ProportionExact x h := by
  intro x h
  kernel_rfl
noncomputable def spilelaw01_ProportionExact.e : Entry := mkX [.agg [.int .i64, .int .i64, .int .i64, .int .i64]] (.one (.leaf .bool)) fun x h => spilelaw01_ProportionExact x h
theorem spilelaw01_ProportionExact.ok : EntryOK Try.prog 3 (spilelaw01_ProportionExact.e) := mkX_ok (spilelaw01_ProportionExact.tbok) Try.mixed Try.func3 (by kernel_rfl) (spilelaw01_ProportionExact.eq)
noncomputable def spilelaw01_ProportionExactP (a0 : (Int × Int × Int × Int)) : Option (Bool) := (spilelaw01_ProportionExact a0 H.empty).bind fun p => rdRes false p.2 (.one (.leaf .bool)) (Res.un (.one (.leaf .bool)) p.1)
theorem spilelaw01_ProportionExactP.eq : ∀ x : TT [.agg [.int .i64, .int .i64, .int .i64, .int .i64]], ((evalFn Try.prog (spilelaw01_ProportionExact.tb) spilelaw01_ProportionExact.A Try.f3 (.one (.leaf .bool)) (TT.lo false [.agg [.int .i64, .int .i64, .int .i64, .int .i64]] x) H.empty).bind fun p => rdRes false p.2 (.one (.leaf .bool)) (Res.un (.one (.leaf .bool)) p.1)) = spilelaw01_ProportionExactP x := by
  intro x
  rw [show TT.lo false [.agg [.int .i64, .int .i64, .int .i64, .int .i64]] x = TT.un [.agg [.int .i64, .int .i64, .int .i64, .int .i64]] (x) from rfl, spilelaw01_ProportionExact.eq]
  rfl
noncomputable def spilelaw01_ProportionExactP.e : Entry := mkP [.agg [.int .i64, .int .i64, .int .i64, .int .i64]] (.one (.leaf .bool)) fun x => spilelaw01_ProportionExactP x
theorem spilelaw01_ProportionExactP.ok : EntryOK Try.prog 3 (spilelaw01_ProportionExactP.e) := mkP_ok (spilelaw01_ProportionExact.tbok) Try.mixed Try.func3 (by kernel_rfl) spilelaw01_ProportionExactP.eq

/-! ### spile/spileref01.Few: function 22 -/
noncomputable def spileref01_Few.tb : Table := tab [] [] Table.nil
theorem spileref01_Few.tbok : TabOK Try.prog (spileref01_Few.tb) := TabOK.tab (TabOK.nil Try.prog) (all_nil _) (all_nil _)
noncomputable def spileref01_Few (a0 : SV) (h : H) : Option ((Bool) × H) :=
(some ((decide (((a0.len : Nat) : Int) ≤ 65)), h))
def spileref01_Few.A : Ann := { lits := [], conds := [], loops := [], regs := [] }
theorem spileref01_Few.eq : ∀ (x : TT [.leaf .slice]) (h : H), evalFn Try.prog (spileref01_Few.tb) spileref01_Few.A Try.f22 (.one (.leaf .bool)) (TT.un [.leaf .slice] x) h = spileref01_Few x h := by
  intro x h
  kernel_rfl
noncomputable def spileref01_Few.e : Entry := mkX [.leaf .slice] (.one (.leaf .bool)) fun x h => spileref01_Few x h
theorem spileref01_Few.ok : EntryOK Try.prog 22 (spileref01_Few.e) := mkX_ok (spileref01_Few.tbok) Try.mixed Try.func22 (by kernel_rfl) (spileref01_Few.eq)
noncomputable def spileref01_FewP (a0 : (List (Int))) : Option (Bool) := (spileref01_Few (rowSV false [.int .i64] a0) H.empty).bind fun p => rdRes false p.2 (.one (.leaf .bool)) (Res.un (.one (.leaf .bool)) p.1)
theorem spileref01_FewP.eq : ∀ x : TT [.leaf (.row [.int .i64])], ((evalFn Try.prog (spileref01_Few.tb) spileref01_Few.A Try.f22 (.one (.leaf .bool)) (TT.lo false [.leaf (.row [.int .i64])] x) H.empty).bind fun p => rdRes false p.2 (.one (.leaf .bool)) (Res.un (.one (.leaf .bool)) p.1)) = spileref01_FewP x := by
  intro x
  rw [show TT.lo false [.leaf (.row [.int .i64])] x = TT.un [.leaf .slice] ((rowSV false [.int .i64] x)) from rfl, spileref01_Few.eq]
  rfl
noncomputable def spileref01_FewP.e : Entry := mkP [.leaf (.row [.int .i64])] (.one (.leaf .bool)) fun x => spileref01_FewP x
theorem spileref01_FewP.ok : EntryOK Try.prog 22 (spileref01_FewP.e) := mkP_ok (spileref01_Few.tbok) Try.mixed Try.func22 (by kernel_rfl) spileref01_FewP.eq

/-! ### spile/spilelaw01.ProportionStays$1: function 27 -/
noncomputable def spilelaw01_ProportionStays_1.tb : Table := tab [] [] Table.nil
theorem spilelaw01_ProportionStays_1.tbok : TabOK Try.prog (spilelaw01_ProportionStays_1.tb) := TabOK.tab (TabOK.nil Try.prog) (all_nil _) (all_nil _)
noncomputable def spilelaw01_ProportionStays_1 (a0 : Int) (h : H) : Option ((Bool) × H) :=
(some ((!(decide (a0 = 0))), h))
def spilelaw01_ProportionStays_1.A : Ann := { lits := [], conds := [], loops := [], regs := [] }
theorem spilelaw01_ProportionStays_1.eq : ∀ (x : TT [.leaf (.int .i64)]) (h : H), evalFn Try.prog (spilelaw01_ProportionStays_1.tb) spilelaw01_ProportionStays_1.A Try.f27 (.one (.leaf .bool)) (TT.un [.leaf (.int .i64)] x) h = spilelaw01_ProportionStays_1 x h := by
  intro x h
  kernel_rfl
noncomputable def spilelaw01_ProportionStays_1.e : Entry := mkX [.leaf (.int .i64)] (.one (.leaf .bool)) fun x h => spilelaw01_ProportionStays_1 x h
theorem spilelaw01_ProportionStays_1.ok : EntryOK Try.prog 27 (spilelaw01_ProportionStays_1.e) := mkX_ok (spilelaw01_ProportionStays_1.tbok) Try.mixed Try.func27 (by kernel_rfl) (spilelaw01_ProportionStays_1.eq)
noncomputable def spilelaw01_ProportionStays_1P (a0 : Int) : Option (Bool) := (spilelaw01_ProportionStays_1 a0 H.empty).bind fun p => rdRes false p.2 (.one (.leaf .bool)) (Res.un (.one (.leaf .bool)) p.1)
theorem spilelaw01_ProportionStays_1P.eq : ∀ x : TT [.leaf (.int .i64)], ((evalFn Try.prog (spilelaw01_ProportionStays_1.tb) spilelaw01_ProportionStays_1.A Try.f27 (.one (.leaf .bool)) (TT.lo false [.leaf (.int .i64)] x) H.empty).bind fun p => rdRes false p.2 (.one (.leaf .bool)) (Res.un (.one (.leaf .bool)) p.1)) = spilelaw01_ProportionStays_1P x := by
  intro x
  rw [show TT.lo false [.leaf (.int .i64)] x = TT.un [.leaf (.int .i64)] (x) from rfl, spilelaw01_ProportionStays_1.eq]
  rfl
noncomputable def spilelaw01_ProportionStays_1P.e : Entry := mkP [.leaf (.int .i64)] (.one (.leaf .bool)) fun x => spilelaw01_ProportionStays_1P x
theorem spilelaw01_ProportionStays_1P.ok : EntryOK Try.prog 27 (spilelaw01_ProportionStays_1P.e) := mkP_ok (spilelaw01_ProportionStays_1.tbok) Try.mixed Try.func27 (by kernel_rfl) spilelaw01_ProportionStays_1P.eq

/-! ### spile/spilelaw01.ProportionStays: function 4 -/
noncomputable def spilelaw01_ProportionStays.tb : Table := tab [(15, spilelaw01_awakeP.e), (22, spileref01_FewP.e), (23, proportion_DrawP.e), (24, slices_Clone_int_intP.e), (25, slices_Equal_int_intP.e)] [(27, spilelaw01_ProportionStays_1P.e)] Table.nil
theorem spilelaw01_ProportionStays.tbok : TabOK Try.prog (spilelaw01_ProportionStays.tb) := TabOK.tab (TabOK.nil Try.prog) (all_cons spilelaw01_awakeP.ok (all_cons spileref01_FewP.ok (all_cons proportion_DrawP.ok (all_cons slices_Clone_int_intP.ok (all_cons slices_Equal_int_intP.ok (all_nil _)))))) (all_cons spilelaw01_ProportionStays_1P.ok (all_nil _))
noncomputable def spilelaw01_ProportionStays.loop1 (a0 : SV) (r6 : List (Int)) (r7 : List (Int)) : (Int × Int × Int) × H → Option (Stp ((Int × Int × Int) × H) (Flow (Int × Int) (Bool) × H)) := fun ((y14, y15, y16), h17) =>
(bif (decide (y16 < ((a0.len : Nat) : Int))) then (guardO (0 ≤ y16 ∧ y16 < ((a0.len : Nat) : Int)) ((rdT (.leaf (.int .i64)) h17 (V.add a0.a (Int.toNat y16 * 1))).bind fun x18 =>
(((let h19 : H := H.reserve h17 0
(guardO (0 ≤ y16 ∧ y16 < ((r6.length : Nat) : Int)) ((rdT (.leaf (.int .i64)) h19 (V.add ((rowSV true [.int .i64] r6).a) (Int.toNat y16 * 1))).bind fun x20 =>
(bif !(decide (x20 < 0)) then (guardO (0 ≤ y16 ∧ y16 < ((r7.length : Nat) : Int)) ((rdT (.leaf (.int .i64)) h19 (V.add ((rowSV true [.int .i64] r7).a) (Int.toNat y16 * 1))).bind fun x21 =>
(bif !(decide (x21 < 0)) then (guardO (0 ≤ y16 ∧ y16 < ((r6.length : Nat) : Int)) ((rdT (.leaf (.int .i64)) h19 (V.add ((rowSV true [.int .i64] r6).a) (Int.toNat y16 * 1))).bind fun x22 =>
(guardO (0 ≤ y16 ∧ y16 < ((r7.length : Nat) : Int)) ((rdT (.leaf (.int .i64)) h19 (V.add ((rowSV true [.int .i64] r7).a) (Int.toNat y16 * 1))).bind fun x23 =>
(some ((!(decide ((IntKind.wrap .i64 (x22 + x23)) = x18))), h19)))))) else (some (true, h19))))) else (some (true, h19))))))).bind fun (y24, h25) =>
(bif y24 then (some (.done (.ret false, h25))) else (guardO (0 ≤ y16 ∧ y16 < ((r6.length : Nat) : Int)) ((rdT (.leaf (.int .i64)) h25 (V.add ((rowSV true [.int .i64] r6).a) (Int.toNat y16 * 1))).bind fun x26 =>
(some (.more (((IntKind.wrap .i64 (y14 + x26)), (IntKind.wrap .i64 (y15 + x18)), (IntKind.wrap .i64 (y16 + 1))), h25))))))))) else (some (.done (.ex0 (y14, y15), h17))))
noncomputable def spilelaw01_ProportionStays (a0 : SV) (a1 : Int) (h : H) : Option ((Bool) × H) :=
((spilelaw01_awakeP ).bind fun r1 =>
(bif (!r1) then (some (false, h)) else ((rdRow true h [.int .i64] a0).bind fun s3 =>
((spileref01_FewP s3).bind fun r2 =>
(bif (!r2) then (some (true, h)) else ((rdRow true h [.int .i64] a0).bind fun s5 =>
((cloneP 8 s5).bind fun r4 =>
((rdRow true h [.int .i64] (rowSV true [.int .i64] r4)).bind fun s9 =>
((proportion_DrawP s9 a1).bind fun (r6, r7, r8) =>
(bif (!(decide (r8 = 0))) then (((bif (decide (((r6.length : Nat) : Int) = 0)) then (some ((decide (((r7.length : Nat) : Int) = 0)), h)) else (some (false, h)))).bind fun (y10, h11) =>
(some (y10, h11))) else (((bif !(!(decide (((r6.length : Nat) : Int) = ((a0.len : Nat) : Int)))) then (some ((!(decide (((r7.length : Nat) : Int) = ((a0.len : Nat) : Int)))), h)) else (some (true, h)))).bind fun (y12, h13) =>
(bif y12 then (some (false, h13)) else ((iter FUEL (spilelaw01_ProportionStays.loop1 a0 r6 r7) ((0, 0, 0), h13)).bind fun (fl28, h27) => match fl28 with
| .next _ => none
| .ret rr29 => (some (rr29, h27))
| .ex0 (y30, y31) =>
((rdRow true h27 [.int .i64] a0).bind fun s33 =>
((cloneP 8 s33).bind fun r32 =>
((rdRow true h27 [.int .i64] (rowSV true [.int .i64] r32)).bind fun s37 =>
((proportion_DrawP s37 y31).bind fun (r34, r35, r36) =>
(((bif (decide (y30 = a1)) then (bif (decide (r36 = 0)) then ((rdRow true h27 [.int .i64] (rowSV true [.int .i64] r34)).bind fun s39 =>
((rdRow true h27 [.int .i64] a0).bind fun s40 =>
((slices_Equal_int_intP s39 s40).bind fun r38 =>
(bif r38 then ((slices_ContainsFunc_int_int spilelaw01_ProportionStays.tb (rowSV true [.int .i64] r35) (.func 27 [] : V) h27).bind fun (r41, h42) =>
(some ((!r41), h42))) else (some (false, h27)))))) else (some (false, h27))) else (some (false, h27)))).bind fun (y43, h44) =>
(some (y43, h44)))))))
| .ex1 _ => none)))))))))))))
def spilelaw01_ProportionStays.A : Ann := { lits := [], conds := [], loops := [(12, [8, 9, 52], [.leaf (.int .i64), .leaf (.int .i64), .leaf (.int .i64)], [8, 9], [.leaf (.int .i64), .leaf (.int .i64)], some 0, none)], regs := [(7, [4], [.leaf .bool]), (8, [49], [.leaf .bool]), (14, [81], [.leaf .bool]), (19, [4], [.leaf .bool])] }
noncomputable def spilelaw01_ProportionStays.tc : Table := tab [(26, slices_ContainsFunc_int_int.e (spilelaw01_ProportionStays.tb))] [] (spilelaw01_ProportionStays.tb)
theorem spilelaw01_ProportionStays.tcok : TabOK Try.prog (spilelaw01_ProportionStays.tc) := TabOK.tab (spilelaw01_ProportionStays.tbok) (all_cons (slices_ContainsFunc_int_int.ok _ (spilelaw01_ProportionStays.tbok)) (all_nil _)) (all_nil _)
theorem spilelaw01_ProportionStays.eq : ∀ (x : TT [.leaf .slice, .leaf (.int .i64)]) (h : H), evalFn Try.prog (spilelaw01_ProportionStays.tc) spilelaw01_ProportionStays.A Try.f4 (.one (.leaf .bool)) (TT.un [.leaf .slice, .leaf (.int .i64)] x) h = spilelaw01_ProportionStays x.1 x.2 h := by
  intro x h
  kernel_rfl
noncomputable def spilelaw01_ProportionStays.e : Entry := mkX [.leaf .slice, .leaf (.int .i64)] (.one (.leaf .bool)) fun x h => spilelaw01_ProportionStays x.1 x.2 h
theorem spilelaw01_ProportionStays.ok : EntryOK Try.prog 4 (spilelaw01_ProportionStays.e) := mkX_ok (spilelaw01_ProportionStays.tcok) Try.mixed Try.func4 (by kernel_rfl) (spilelaw01_ProportionStays.eq)
noncomputable def spilelaw01_ProportionStaysP (a0 : (List (Int))) (a1 : Int) : Option (Bool) := (spilelaw01_ProportionStays (rowSV false [.int .i64] a0) a1 H.empty).bind fun p => rdRes false p.2 (.one (.leaf .bool)) (Res.un (.one (.leaf .bool)) p.1)
theorem spilelaw01_ProportionStaysP.eq : ∀ x : TT [.leaf (.row [.int .i64]), .leaf (.int .i64)], ((evalFn Try.prog (spilelaw01_ProportionStays.tc) spilelaw01_ProportionStays.A Try.f4 (.one (.leaf .bool)) (TT.lo false [.leaf (.row [.int .i64]), .leaf (.int .i64)] x) H.empty).bind fun p => rdRes false p.2 (.one (.leaf .bool)) (Res.un (.one (.leaf .bool)) p.1)) = spilelaw01_ProportionStaysP x.1 x.2 := by
  intro x
  rw [show TT.lo false [.leaf (.row [.int .i64]), .leaf (.int .i64)] x = TT.un [.leaf .slice, .leaf (.int .i64)] ((rowSV false [.int .i64] x.1), x.2) from rfl, spilelaw01_ProportionStays.eq]
  rfl
noncomputable def spilelaw01_ProportionStaysP.e : Entry := mkP [.leaf (.row [.int .i64]), .leaf (.int .i64)] (.one (.leaf .bool)) fun x => spilelaw01_ProportionStaysP x.1 x.2
theorem spilelaw01_ProportionStaysP.ok : EntryOK Try.prog 4 (spilelaw01_ProportionStaysP.e) := mkP_ok (spilelaw01_ProportionStays.tcok) Try.mixed Try.func4 (by kernel_rfl) spilelaw01_ProportionStaysP.eq

/-! ### spile/spilelaw01.ProportionScales: function 5 -/
noncomputable def spilelaw01_ProportionScales.tb : Table := tab [(15, spilelaw01_awakeP.e), (20, proportion_CompareP.e), (22, spileref01_FewP.e), (24, slices_Clone_int_int.e), (25, slices_Equal_int_intP.e), (28, proportion_DivideP.e), (29, proportion_ReduceP.e)] [] Table.nil
theorem spilelaw01_ProportionScales.tbok : TabOK Try.prog (spilelaw01_ProportionScales.tb) := TabOK.tab (TabOK.nil Try.prog) (all_cons spilelaw01_awakeP.ok (all_cons proportion_CompareP.ok (all_cons spileref01_FewP.ok (all_cons slices_Clone_int_int.ok (all_cons slices_Equal_int_intP.ok (all_cons proportion_DivideP.ok (all_cons proportion_ReduceP.ok (all_nil _)))))))) (all_nil _)
noncomputable def spilelaw01_ProportionScales.loop1 (x5 : Int) (r11 : SV) : (Int) × H → Option (Stp ((Int) × H) (Flow (Unit) (Bool) × H)) := fun (y13, h14) =>
(bif (decide (y13 < ((r11.len : Nat) : Int))) then (guardO (0 ≤ y13 ∧ y13 < ((r11.len : Nat) : Int)) ((rdT (.leaf (.int .i64)) h14 (V.add r11.a (Int.toNat y13 * 1))).bind fun x15 =>
(((bif !(decide (x15 < 0)) then (some ((decide ((128849018880000 : Int) < x15)), h14)) else (some (true, h14)))).bind fun (y16, h17) =>
(bif y16 then (some (.done (.ret true, h17))) else (guardO (0 ≤ y13 ∧ y13 < ((r11.len : Nat) : Int)) ((H.wrs h17 (V.add r11.a (Int.toNat y13 * 1)) [.int .i64 (IntKind.wrap .i64 (x15 * (IntKind.wrap .i64 (1 + (Int.tmod (maxI x5 0) 1000)))))]).bind fun h18 =>
(some (.more ((IntKind.wrap .i64 (y13 + 1)), h18))))))))) else (some (.done (.ex0 (), h14))))
noncomputable def spilelaw01_ProportionScales (a0 : Int) (a1 : SV) (a2 : (Int × Int × Int)) (h : H) : Option ((Bool) × H) :=
(match a2 with
| (a2_0, a2_1, a2_2) =>
(let h1 : H := H.new h [.int .i64 a2_0, .int .i64 a2_1, .int .i64 a2_2] 3
((spilelaw01_awakeP ).bind fun r2 =>
(bif (!r2) then (some (false, h1)) else ((rdRow true h1 [.int .i64] a1).bind fun s4 =>
((spileref01_FewP s4).bind fun r3 =>
(bif (!r3) then (some (true, h1)) else ((rdT (.leaf (.int .i64)) h1 (.hp h.next 3 2)).bind fun x5 =>
((cloneX 1 8 a1 h1).bind fun (r6, h7) =>
((rdRow true h7 [.int .i64] r6).bind fun s10 =>
((proportion_DivideP a0 s10).bind fun (r8, r9) =>
((cloneX 1 8 a1 h7).bind fun (r11, h12) =>
((iter FUEL (spilelaw01_ProportionScales.loop1 x5 r11) (0, h12)).bind fun (fl20, h19) => match fl20 with
| .next _ => none
| .ret rr21 => (some (rr21, h19))
| .ex0 _ =>
((rdRow true h19 [.int .i64] r11).bind fun s24 =>
((proportion_DivideP a0 s24).bind fun (r22, r23) =>
(((bif (decide (r9 = 0)) then (bif (decide (r23 = 0)) then ((rdRow true h19 [.int .i64] (rowSV true [.int .i64] r8)).bind fun s26 =>
((rdRow true h19 [.int .i64] (rowSV true [.int .i64] r22)).bind fun s27 =>
((slices_Equal_int_intP s26 s27).bind fun r25 =>
(some ((!r25), h19))))) else (some (false, h19))) else (some (false, h19)))).bind fun (y28, h29) =>
(bif y28 then (some (false, h29)) else ((rdT (.leaf (.int .i64)) h29 (.hp h.next 3 0)).bind fun x30 =>
((rdT (.leaf (.int .i64)) h29 (.hp h.next 3 1)).bind fun x31 =>
((proportion_ReduceP x30 x31).bind fun (r32, r33, r34) =>
(bif (!(decide (r34 = 0))) then (((bif (decide (r32 = 0)) then (some ((decide (r33 = 0)), h29)) else (some (false, h29)))).bind fun (y35, h36) =>
(some (y35, h36))) else ((rdT (.leaf (.int .i64)) h29 (.hp h.next 3 0)).bind fun x37 =>
((rdT (.leaf (.int .i64)) h29 (.hp h.next 3 1)).bind fun x38 =>
((proportion_CompareP r32 r33 x37 x38).bind fun (r39, r40) =>
(((bif (decide (r40 = 0)) then (bif (decide (r39 = 0)) then (bif (decide ((0 : Int) < r33)) then (bif !(decide ((IntKind.wrap .i64 (1 + (Int.tmod (maxI x5 0) 1000))) = 1)) then (guardO ((IntKind.wrap .i64 (1 + (Int.tmod (maxI x5 0) 1000))) ≠ 0) (bif !(!(decide ((Int.tmod r32 (IntKind.wrap .i64 (1 + (Int.tmod (maxI x5 0) 1000)))) = 0))) then (guardO ((IntKind.wrap .i64 (1 + (Int.tmod (maxI x5 0) 1000))) ≠ 0) (some ((!(decide ((Int.tmod r33 (IntKind.wrap .i64 (1 + (Int.tmod (maxI x5 0) 1000)))) = 0))), h29))) else (some (true, h29)))) else (some (true, h29))) else (some (false, h29))) else (some (false, h29))) else (some (false, h29)))).bind fun (y41, h42) =>
(some (y41, h42))))))))))))))
| .ex1 _ => none)))))))))))))
def spilelaw01_ProportionScales.A : Ann := { lits := [], conds := [], loops := [(9, [41], [.leaf (.int .i64)], [], [], some 0, none)], regs := [(11, [51], [.leaf .bool]), (16, [76], [.leaf .bool]), (20, [6], [.leaf .bool]), (22, [6], [.leaf .bool])] }
theorem spilelaw01_ProportionScales.eq : ∀ (x : TT [.leaf (.int .i64), .leaf .slice, .agg [.int .i64, .int .i64, .int .i64]]) (h : H), evalFn Try.prog (spilelaw01_ProportionScales.tb) spilelaw01_ProportionScales.A Try.f5 (.one (.leaf .bool)) (TT.un [.leaf (.int .i64), .leaf .slice, .agg [.int .i64, .int .i64, .int .i64]] x) h = spilelaw01_ProportionScales x.1 x.2.1 x.2.2 h := by
  intro x h
  kernel_rfl
noncomputable def spilelaw01_ProportionScales.e : Entry := mkX [.leaf (.int .i64), .leaf .slice, .agg [.int .i64, .int .i64, .int .i64]] (.one (.leaf .bool)) fun x h => spilelaw01_ProportionScales x.1 x.2.1 x.2.2 h
theorem spilelaw01_ProportionScales.ok : EntryOK Try.prog 5 (spilelaw01_ProportionScales.e) := mkX_ok (spilelaw01_ProportionScales.tbok) Try.mixed Try.func5 (by kernel_rfl) (spilelaw01_ProportionScales.eq)
noncomputable def spilelaw01_ProportionScalesP (a0 : Int) (a1 : (List (Int))) (a2 : (Int × Int × Int)) : Option (Bool) := (spilelaw01_ProportionScales a0 (rowSV false [.int .i64] a1) a2 H.empty).bind fun p => rdRes false p.2 (.one (.leaf .bool)) (Res.un (.one (.leaf .bool)) p.1)
theorem spilelaw01_ProportionScalesP.eq : ∀ x : TT [.leaf (.int .i64), .leaf (.row [.int .i64]), .agg [.int .i64, .int .i64, .int .i64]], ((evalFn Try.prog (spilelaw01_ProportionScales.tb) spilelaw01_ProportionScales.A Try.f5 (.one (.leaf .bool)) (TT.lo false [.leaf (.int .i64), .leaf (.row [.int .i64]), .agg [.int .i64, .int .i64, .int .i64]] x) H.empty).bind fun p => rdRes false p.2 (.one (.leaf .bool)) (Res.un (.one (.leaf .bool)) p.1)) = spilelaw01_ProportionScalesP x.1 x.2.1 x.2.2 := by
  intro x
  rw [show TT.lo false [.leaf (.int .i64), .leaf (.row [.int .i64]), .agg [.int .i64, .int .i64, .int .i64]] x = TT.un [.leaf (.int .i64), .leaf .slice, .agg [.int .i64, .int .i64, .int .i64]] (x.1, (rowSV false [.int .i64] x.2.1), x.2.2) from rfl, spilelaw01_ProportionScales.eq]
  rfl
noncomputable def spilelaw01_ProportionScalesP.e : Entry := mkP [.leaf (.int .i64), .leaf (.row [.int .i64]), .agg [.int .i64, .int .i64, .int .i64]] (.one (.leaf .bool)) fun x => spilelaw01_ProportionScalesP x.1 x.2.1 x.2.2
theorem spilelaw01_ProportionScalesP.ok : EntryOK Try.prog 5 (spilelaw01_ProportionScalesP.e) := mkP_ok (spilelaw01_ProportionScales.tbok) Try.mixed Try.func5 (by kernel_rfl) spilelaw01_ProportionScalesP.eq

/-! ### spile/spilelaw01.ProportionOrder: function 6 -/
noncomputable def spilelaw01_ProportionOrder.tb : Table := tab [(15, spilelaw01_awakeP.e), (20, proportion_CompareP.e)] [] Table.nil
theorem spilelaw01_ProportionOrder.tbok : TabOK Try.prog (spilelaw01_ProportionOrder.tb) := TabOK.tab (TabOK.nil Try.prog) (all_cons spilelaw01_awakeP.ok (all_cons proportion_CompareP.ok (all_nil _))) (all_nil _)
noncomputable def spilelaw01_ProportionOrder (a0 : (Int × Int × Int × Int × Int × Int)) (h : H) : Option ((Bool) × H) :=
(match a0 with
| (a0_0, a0_1, a0_2, a0_3, a0_4, a0_5) =>
(let h1 : H := H.new h [.int .i64 a0_0, .int .i64 a0_1, .int .i64 a0_2, .int .i64 a0_3, .int .i64 a0_4, .int .i64 a0_5] 6
((spilelaw01_awakeP ).bind fun r2 =>
(bif (!r2) then (some (false, h1)) else ((rdT (.leaf (.int .i64)) h1 (.hp h.next 6 0)).bind fun x3 =>
((rdT (.leaf (.int .i64)) h1 (.hp h.next 6 1)).bind fun x4 =>
((rdT (.leaf (.int .i64)) h1 (.hp h.next 6 2)).bind fun x5 =>
((rdT (.leaf (.int .i64)) h1 (.hp h.next 6 3)).bind fun x6 =>
((proportion_CompareP x3 x4 x5 x6).bind fun (r7, r8) =>
((rdT (.leaf (.int .i64)) h1 (.hp h.next 6 2)).bind fun x9 =>
((rdT (.leaf (.int .i64)) h1 (.hp h.next 6 3)).bind fun x10 =>
((rdT (.leaf (.int .i64)) h1 (.hp h.next 6 0)).bind fun x11 =>
((rdT (.leaf (.int .i64)) h1 (.hp h.next 6 1)).bind fun x12 =>
((proportion_CompareP x9 x10 x11 x12).bind fun (r13, r14) =>
((rdT (.leaf (.int .i64)) h1 (.hp h.next 6 2)).bind fun x15 =>
((rdT (.leaf (.int .i64)) h1 (.hp h.next 6 3)).bind fun x16 =>
((rdT (.leaf (.int .i64)) h1 (.hp h.next 6 4)).bind fun x17 =>
((rdT (.leaf (.int .i64)) h1 (.hp h.next 6 5)).bind fun x18 =>
((proportion_CompareP x15 x16 x17 x18).bind fun (r19, r20) =>
((rdT (.leaf (.int .i64)) h1 (.hp h.next 6 0)).bind fun x21 =>
((rdT (.leaf (.int .i64)) h1 (.hp h.next 6 1)).bind fun x22 =>
((rdT (.leaf (.int .i64)) h1 (.hp h.next 6 4)).bind fun x23 =>
((rdT (.leaf (.int .i64)) h1 (.hp h.next 6 5)).bind fun x24 =>
((proportion_CompareP x21 x22 x23 x24).bind fun (r25, r26) =>
(((bif !(!(decide (r8 = 0))) then (some ((!(decide (r14 = 0))), h1)) else (some (true, h1)))).bind fun (y27, h28) =>
(bif y27 then (((bif (decide (r8 = r14)) then (bif (decide (r7 = 0)) then (some ((decide (r13 = 0)), h28)) else (some (false, h28))) else (some (false, h28)))).bind fun (y29, h30) =>
(some (y29, h30))) else (((bif !(!(decide (r7 = (IntKind.wrap .i64 (0 - r13))))) then (bif !(decide (r7 < (-1))) then (some ((decide ((1 : Int) < r7)), h28)) else (some (true, h28))) else (some (true, h28)))).bind fun (y31, h32) =>
(bif y31 then (some (false, h32)) else (((bif !(!(decide (r20 = 0))) then (some ((!(decide (r26 = 0))), h32)) else (some (true, h32)))).bind fun (y33, h34) =>
(bif y33 then (((bif (!(decide (r20 = 0))) then (bif !(decide (r26 = r20)) then (some ((!(decide (r26 = 0))), h34)) else (some (true, h34))) else (some (false, h34)))).bind fun (y35, h36) =>
(some (y35, h36))) else (((bif !(decide ((0 : Int) < r7)) then (bif !(decide ((0 : Int) < r19)) then (bif (decide (r25 ≤ 0)) then (bif !(decide (r7 < 0)) then (bif !(decide (r19 < 0)) then (some ((decide ((0 : Int) ≤ r25)), h34)) else (some (true, h34))) else (some (true, h34))) else (some (false, h34))) else (bif !(decide (r7 < 0)) then (bif !(decide (r19 < 0)) then (some ((decide ((0 : Int) ≤ r25)), h34)) else (some (true, h34))) else (some (true, h34)))) else (bif !(decide (r7 < 0)) then (bif !(decide (r19 < 0)) then (some ((decide ((0 : Int) ≤ r25)), h34)) else (some (true, h34))) else (some (true, h34))))).bind fun (y37, h38) =>
(some (y37, h38)))))))))))))))))))))))))))))))))
def spilelaw01_ProportionOrder.A : Ann := { lits := [], conds := [], loops := [], regs := [(7, [66], [.leaf .bool]), (8, [2], [.leaf .bool]), (9, [89], [.leaf .bool]), (11, [95], [.leaf .bool]), (12, [2], [.leaf .bool]), (13, [2], [.leaf .bool])] }
theorem spilelaw01_ProportionOrder.eq : ∀ (x : TT [.agg [.int .i64, .int .i64, .int .i64, .int .i64, .int .i64, .int .i64]]) (h : H), evalFn Try.prog (spilelaw01_ProportionOrder.tb) spilelaw01_ProportionOrder.A Try.f6 (.one (.leaf .bool)) (TT.un [.agg [.int .i64, .int .i64, .int .i64, .int .i64, .int .i64, .int .i64]] x) h = spilelaw01_ProportionOrder x h := by
  intro x h
  kernel_rfl
noncomputable def spilelaw01_ProportionOrder.e : Entry := mkX [.agg [.int .i64, .int .i64, .int .i64, .int .i64, .int .i64, .int .i64]] (.one (.leaf .bool)) fun x h => spilelaw01_ProportionOrder x h
theorem spilelaw01_ProportionOrder.ok : EntryOK Try.prog 6 (spilelaw01_ProportionOrder.e) := mkX_ok (spilelaw01_ProportionOrder.tbok) Try.mixed Try.func6 (by kernel_rfl) (spilelaw01_ProportionOrder.eq)
noncomputable def spilelaw01_ProportionOrderP (a0 : (Int × Int × Int × Int × Int × Int)) : Option (Bool) := (spilelaw01_ProportionOrder a0 H.empty).bind fun p => rdRes false p.2 (.one (.leaf .bool)) (Res.un (.one (.leaf .bool)) p.1)
theorem spilelaw01_ProportionOrderP.eq : ∀ x : TT [.agg [.int .i64, .int .i64, .int .i64, .int .i64, .int .i64, .int .i64]], ((evalFn Try.prog (spilelaw01_ProportionOrder.tb) spilelaw01_ProportionOrder.A Try.f6 (.one (.leaf .bool)) (TT.lo false [.agg [.int .i64, .int .i64, .int .i64, .int .i64, .int .i64, .int .i64]] x) H.empty).bind fun p => rdRes false p.2 (.one (.leaf .bool)) (Res.un (.one (.leaf .bool)) p.1)) = spilelaw01_ProportionOrderP x := by
  intro x
  rw [show TT.lo false [.agg [.int .i64, .int .i64, .int .i64, .int .i64, .int .i64, .int .i64]] x = TT.un [.agg [.int .i64, .int .i64, .int .i64, .int .i64, .int .i64, .int .i64]] (x) from rfl, spilelaw01_ProportionOrder.eq]
  rfl
noncomputable def spilelaw01_ProportionOrderP.e : Entry := mkP [.agg [.int .i64, .int .i64, .int .i64, .int .i64, .int .i64, .int .i64]] (.one (.leaf .bool)) fun x => spilelaw01_ProportionOrderP x
theorem spilelaw01_ProportionOrderP.ok : EntryOK Try.prog 6 (spilelaw01_ProportionOrderP.e) := mkP_ok (spilelaw01_ProportionOrder.tbok) Try.mixed Try.func6 (by kernel_rfl) spilelaw01_ProportionOrderP.eq

/-! ### spile/loss.amount: function 65 -/
noncomputable def loss_amount.tb : Table := tab [] [] Table.nil
theorem loss_amount.tbok : TabOK Try.prog (loss_amount.tb) := TabOK.tab (TabOK.nil Try.prog) (all_nil _) (all_nil _)
noncomputable def loss_amount.loop1 (a0 : SV) : (Int) × H → Option (Stp ((Int) × H) (Flow (Unit) (Bool) × H)) := fun (y1, h2) =>
(bif (decide (y1 < ((a0.len : Nat) : Int))) then (guardO (0 ≤ y1 ∧ y1 < ((a0.len : Nat) : Int)) ((rdT (.leaf (.int .i64)) h2 (V.add a0.a (Int.toNat y1 * 1))).bind fun x3 =>
(((bif !(decide (x3 < 0)) then (some ((decide ((10737418240000 : Int) < x3)), h2)) else (some (true, h2)))).bind fun (y4, h5) =>
(bif y4 then (some (.done (.ret false, h5))) else (some (.more ((IntKind.wrap .i64 (y1 + 1)), h5))))))) else (some (.done (.ex0 (), h2))))
noncomputable def loss_amount (a0 : SV) (h : H) : Option ((Bool) × H) :=
((iter FUEL (loss_amount.loop1 a0) (0, h)).bind fun (fl7, h6) => match fl7 with
| .next _ => none
| .ret rr8 => (some (rr8, h6))
| .ex0 _ =>
(some (true, h6))
| .ex1 _ => none)
def loss_amount.A : Ann := { lits := [], conds := [], loops := [(2, [7], [.leaf (.int .i64)], [], [], some 0, none)], regs := [(4, [16], [.leaf .bool])] }
theorem loss_amount.eq : ∀ (x : TT [.leaf .slice]) (h : H), evalFn Try.prog (loss_amount.tb) loss_amount.A Try.f65 (.one (.leaf .bool)) (TT.un [.leaf .slice] x) h = loss_amount x h := by
  intro x h
  kernel_rfl
noncomputable def loss_amount.e : Entry := mkX [.leaf .slice] (.one (.leaf .bool)) fun x h => loss_amount x h
theorem loss_amount.ok : EntryOK Try.prog 65 (loss_amount.e) := mkX_ok (loss_amount.tbok) Try.mixed Try.func65 (by kernel_rfl) (loss_amount.eq)
noncomputable def loss_amountP (a0 : (List (Int))) : Option (Bool) := (loss_amount (rowSV false [.int .i64] a0) H.empty).bind fun p => rdRes false p.2 (.one (.leaf .bool)) (Res.un (.one (.leaf .bool)) p.1)
theorem loss_amountP.eq : ∀ x : TT [.leaf (.row [.int .i64])], ((evalFn Try.prog (loss_amount.tb) loss_amount.A Try.f65 (.one (.leaf .bool)) (TT.lo false [.leaf (.row [.int .i64])] x) H.empty).bind fun p => rdRes false p.2 (.one (.leaf .bool)) (Res.un (.one (.leaf .bool)) p.1)) = loss_amountP x := by
  intro x
  rw [show TT.lo false [.leaf (.row [.int .i64])] x = TT.un [.leaf .slice] ((rowSV false [.int .i64] x)) from rfl, loss_amount.eq]
  rfl
noncomputable def loss_amountP.e : Entry := mkP [.leaf (.row [.int .i64])] (.one (.leaf .bool)) fun x => loss_amountP x
theorem loss_amountP.ok : EntryOK Try.prog 65 (loss_amountP.e) := mkP_ok (loss_amount.tbok) Try.mixed Try.func65 (by kernel_rfl) loss_amountP.eq

/-! ### spile/loss.split$1: function 84 -/
noncomputable def loss_split_1.tb : Table := tab [] [] Table.nil
theorem loss_split_1.tbok : TabOK Try.prog (loss_split_1.tb) := TabOK.tab (TabOK.nil Try.prog) (all_nil _) (all_nil _)
noncomputable def loss_split_1 (a0 : Int) (a1 : V) (h : H) : Option ((Int) × H) :=
((rdT (.leaf (.int .i64)) h a1).bind fun x1 =>
((rdT (.leaf (.int .i64)) h a1).bind fun x2 =>
((H.wrs h a1 [.int .i64 (IntKind.wrap .i64 (x2 - (minI x1 a0)))]).bind fun h3 =>
(some ((minI x1 a0), h3)))))
def loss_split_1.A : Ann := { lits := [], conds := [], loops := [], regs := [] }
theorem loss_split_1.eq : ∀ (x : TT [.leaf (.int .i64), .leaf .ptr]) (h : H), evalFn Try.prog (loss_split_1.tb) loss_split_1.A Try.f84 (.one (.leaf (.int .i64))) (TT.un [.leaf (.int .i64), .leaf .ptr] x) h = loss_split_1 x.1 x.2 h := by
  intro x h
  kernel_rfl
noncomputable def loss_split_1.e : Entry := mkX [.leaf (.int .i64), .leaf .ptr] (.one (.leaf (.int .i64))) fun x h => loss_split_1 x.1 x.2 h
theorem loss_split_1.ok : EntryOK Try.prog 84 (loss_split_1.e) := mkX_ok (loss_split_1.tbok) Try.mixed Try.func84 (by kernel_rfl) (loss_split_1.eq)
end Go.Proofs.Ytadlfinlbaogeaa
