/- The functions of the program as Lean functions, each with the equation by which the evaluator is that function. Written by a program of this session (evdrive.py). Conditions: none. -/
import Derived.Test.YtadlfinlbaogeaaProg
import Derived.Test.YtadlfinlbaogeaaEvSpec
import Derived.Test.YtadlfinlbaogeaaFn5
namespace Go.Proofs.Ytadlfinlbaogeaa
open Go Go.Proofs.Ytadlfinlbaogeaa.Ev
set_option maxRecDepth 100000
set_option linter.unusedVariables false
/-! ### spile/spilelaw32.awake: function 30 -/
noncomputable def spilelaw32_awake.tb : Table := tab [(31, loss_ChainP.e), (35, loss_SplitP.e), (48, loss_AmongP.e), (64, slices_Equal_api_Loss_api_LossP.e)] [] Table.nil
theorem spilelaw32_awake.tbok : TabOK Try.prog (spilelaw32_awake.tb) := TabOK.tab (TabOK.nil Try.prog) (all_cons loss_ChainP.ok (all_cons loss_SplitP.ok (all_cons loss_AmongP.ok (all_cons slices_Equal_api_Loss_api_LossP.ok (all_nil _))))) (all_nil _)
noncomputable def spilelaw32_awake (h : H) : Option ((Bool) × H) :=
((loss_SplitP 1000 930 40 20).bind fun ((r1_0, r1_1, r1_2, r1_3), r2) =>
(let h3 : H := H.new h [.int .i64 0, .int .i64 0, .int .i64 0, .int .i64 0] 4
((H.wrs h3 (.hp h.next 4 0) [.int .i64 r1_0, .int .i64 r1_1, .int .i64 r1_2, .int .i64 r1_3]).bind fun h4 =>
((loss_SplitP 1000 1005 40 20).bind fun ((r5_0, r5_1, r5_2, r5_3), r6) =>
(let h7 : H := H.new h4 [.int .i64 0, .int .i64 0, .int .i64 0, .int .i64 0] 4
((H.wrs h7 (.hp h4.next 4 0) [.int .i64 r5_0, .int .i64 r5_1, .int .i64 r5_2, .int .i64 r5_3]).bind fun h8 =>
((rdT (.agg [.int .i64, .int .i64, .int .i64, .int .i64]) h8 (.hp h.next 4 0)).bind fun (x9_0, x9_1, x9_2, x9_3) =>
((rdRow true h8 [.int .i64] ⟨.lp true ([.int .i64 3, .int .i64 1]) 0, 2, 2, false⟩).bind fun s12 =>
((loss_AmongP (x9_0, x9_1, x9_2, x9_3) s12).bind fun (r10, r11) =>
((rdRow true h8 [.int .i64, .int .i64, .int .i64, .int .i64, .int .i64] ⟨.lp true ([.int .i64 50, .int .i64 20, .int .i64 126, .int .i64 5, .int .i64 0]) 0, 1, 1, false⟩).bind fun s16 =>
((loss_ChainP 100 s16).bind fun (r13, r14, r15) =>
((((rdT (.agg [.int .i64, .int .i64, .int .i64, .int .i64]) h8 (.hp h.next 4 0)).bind fun (x17_0, x17_1, x17_2, x17_3) =>
(bif (decide (x17_0 = 40) && (decide (x17_1 = 20) && (decide (x17_2 = 10) && (decide (x17_3 = 0))))) then ((rdT (.agg [.int .i64, .int .i64, .int .i64, .int .i64]) h8 (.hp h4.next 4 0)).bind fun (x18_0, x18_1, x18_2, x18_3) =>
(bif (decide (x18_0 = 0) && (decide (x18_1 = 0) && (decide (x18_2 = 0) && (decide (x18_3 = 5))))) then ((rdRow true h8 [.int .i64, .int .i64, .int .i64, .int .i64] (rowSV true [.int .i64, .int .i64, .int .i64, .int .i64] r10)).bind fun s20 =>
((rdRow true h8 [.int .i64, .int .i64, .int .i64, .int .i64] ⟨.lp true ([.int .i64 30, .int .i64 15, .int .i64 8, .int .i64 0, .int .i64 10, .int .i64 5, .int .i64 2, .int .i64 0]) 0, 2, 2, false⟩).bind fun s21 =>
((slices_Equal_api_Loss_api_LossP s20 s21).bind fun r19 =>
(bif r19 then ((rdRow true h8 [.int .i64, .int .i64, .int .i64, .int .i64] (rowSV true [.int .i64, .int .i64, .int .i64, .int .i64] r13)).bind fun s23 =>
((rdRow true h8 [.int .i64, .int .i64, .int .i64, .int .i64] ⟨.lp true ([.int .i64 4, .int .i64 0, .int .i64 0, .int .i64 0]) 0, 1, 1, false⟩).bind fun s24 =>
((slices_Equal_api_Loss_api_LossP s23 s24).bind fun r22 =>
(bif r22 then (bif (decide (r14 = (-1))) then (some ((decide ((IntKind.wrap .i64 ((IntKind.wrap .i64 ((IntKind.wrap .i64 (r2 + r6)) + r11)) + r15)) = 0)), h8)) else (some (false, h8))) else (some (false, h8)))))) else (some (false, h8)))))) else (some (false, h8)))) else (some (false, h8))))).bind fun (y25, h26) =>
(some (y25, h26))))))))))))))
def spilelaw32_awake.A : Ann := { lits := [], conds := [], loops := [], regs := [(5, [0], [.leaf .bool])] }
theorem spilelaw32_awake.eq : ∀ (x : TT []) (h : H), evalFn Try.prog (spilelaw32_awake.tb) spilelaw32_awake.A Try.f30 (.one (.leaf .bool)) (TT.un [] x) h = spilelaw32_awake  h := by
  intro x h
  kernel_rfl
noncomputable def spilelaw32_awake.e : Entry := mkX [] (.one (.leaf .bool)) fun x h => spilelaw32_awake  h
theorem spilelaw32_awake.ok : EntryOK Try.prog 30 (spilelaw32_awake.e) := mkX_ok (spilelaw32_awake.tbok) Try.mixed Try.func30 (by kernel_rfl) (spilelaw32_awake.eq)
noncomputable def spilelaw32_awakeP : Option (Bool) := (spilelaw32_awake H.empty).bind fun p => rdRes false p.2 (.one (.leaf .bool)) (Res.un (.one (.leaf .bool)) p.1)
theorem spilelaw32_awakeP.eq : ∀ x : TT [], ((evalFn Try.prog (spilelaw32_awake.tb) spilelaw32_awake.A Try.f30 (.one (.leaf .bool)) (TT.lo false [] x) H.empty).bind fun p => rdRes false p.2 (.one (.leaf .bool)) (Res.un (.one (.leaf .bool)) p.1)) = spilelaw32_awakeP  := by
  intro x
  rw [show TT.lo false [] x = TT.un [] () from rfl, spilelaw32_awake.eq]
  rfl
noncomputable def spilelaw32_awakeP.e : Entry := mkP [] (.one (.leaf .bool)) fun x => spilelaw32_awakeP 
theorem spilelaw32_awakeP.ok : EntryOK Try.prog 30 (spilelaw32_awakeP.e) := mkP_ok (spilelaw32_awake.tbok) Try.mixed Try.func30 (by kernel_rfl) spilelaw32_awakeP.eq

/-! ### slices.Clone[[]spile/api.Turn,spile/api.Turn]: function 32 -/
noncomputable def slices_Clone_api_Turn_api_Turn.tb : Table := tab [] [] Table.nil
theorem slices_Clone_api_Turn_api_Turn.tbok : TabOK Try.prog (slices_Clone_api_Turn_api_Turn.tb) := TabOK.tab (TabOK.nil Try.prog) (all_nil _) (all_nil _)
noncomputable def slices_Clone_api_Turn_api_Turn (a0 : SV) (h : H) : Option ((SV) × H) :=
(bif !(V.mayNil (a0.a : V)) then (bif (!(V.nn (a0.a : V))) then (some (⟨.nil, 0, 0, false⟩, h)) else ((cellsOf h (.slice a0.a a0.len a0.cap a0.tail : V) 5).bind fun (n3, cs3) =>
((appendS h none 5 40 (⟨.lp true ([]) 0, 0, 0, false⟩) cs3 n3).bind fun (s3, h2) =>
(some (s3, h2))))) else none)
def slices_Clone_api_Turn_api_Turn.A : Ann := { lits := [], conds := [], loops := [], regs := [] }
theorem slices_Clone_api_Turn_api_Turn.eq : ∀ (x : TT [.leaf .slice]) (h : H), evalFn Try.prog (slices_Clone_api_Turn_api_Turn.tb) slices_Clone_api_Turn_api_Turn.A Try.f32 (.one (.leaf .slice)) (TT.un [.leaf .slice] x) h = slices_Clone_api_Turn_api_Turn x h := by
  intro x h
  kernel_rfl
noncomputable def slices_Clone_api_Turn_api_Turn.e : Entry := mkX [.leaf .slice] (.one (.leaf .slice)) (cloneX 5 40)
theorem slices_Clone_api_Turn_api_Turn.ok : EntryOK Try.prog 32 slices_Clone_api_Turn_api_Turn.e := cloneX_ok (g := slices_Clone_api_Turn_api_Turn) (mkX_ok (slices_Clone_api_Turn_api_Turn.tbok) Try.mixed Try.func32 (by kernel_rfl) (slices_Clone_api_Turn_api_Turn.eq)) (fun s h => by kernel_rfl)
noncomputable def slices_Clone_api_Turn_api_TurnP.e : Entry := mkP [.leaf (.row [.int .i64, .int .i64, .int .i64, .int .i64, .int .i64])] (.one (.leaf (.row [.int .i64, .int .i64, .int .i64, .int .i64, .int .i64]))) (cloneP 40)
theorem slices_Clone_api_Turn_api_TurnP.ok : EntryOK Try.prog 32 slices_Clone_api_Turn_api_TurnP.e := cloneP_ok slices_Clone_api_Turn_api_Turn.ok rfl (by omega) rfl

/-! ### spile/spileref32.Is: function 67 -/
noncomputable def spileref32_Is.tb : Table := tab [] [] Table.nil
theorem spileref32_Is.tbok : TabOK Try.prog (spileref32_Is.tb) := TabOK.tab (TabOK.nil Try.prog) (all_nil _) (all_nil _)
noncomputable def spileref32_Is (a0 : Int) (h : H) : Option ((Bool) × H) :=
(((bif (decide ((0 : Int) ≤ a0)) then (some ((decide (a0 ≤ 10737418240000)), h)) else (some (false, h)))).bind fun (y1, h2) =>
(some (y1, h2)))
def spileref32_Is.A : Ann := { lits := [], conds := [], loops := [], regs := [(1, [2], [.leaf .bool])] }
theorem spileref32_Is.eq : ∀ (x : TT [.leaf (.int .i64)]) (h : H), evalFn Try.prog (spileref32_Is.tb) spileref32_Is.A Try.f67 (.one (.leaf .bool)) (TT.un [.leaf (.int .i64)] x) h = spileref32_Is x h := by
  intro x h
  kernel_rfl
noncomputable def spileref32_Is.e : Entry := mkX [.leaf (.int .i64)] (.one (.leaf .bool)) fun x h => spileref32_Is x h
theorem spileref32_Is.ok : EntryOK Try.prog 67 (spileref32_Is.e) := mkX_ok (spileref32_Is.tbok) Try.mixed Try.func67 (by kernel_rfl) (spileref32_Is.eq)
noncomputable def spileref32_IsP (a0 : Int) : Option (Bool) := (spileref32_Is a0 H.empty).bind fun p => rdRes false p.2 (.one (.leaf .bool)) (Res.un (.one (.leaf .bool)) p.1)
theorem spileref32_IsP.eq : ∀ x : TT [.leaf (.int .i64)], ((evalFn Try.prog (spileref32_Is.tb) spileref32_Is.A Try.f67 (.one (.leaf .bool)) (TT.lo false [.leaf (.int .i64)] x) H.empty).bind fun p => rdRes false p.2 (.one (.leaf .bool)) (Res.un (.one (.leaf .bool)) p.1)) = spileref32_IsP x := by
  intro x
  rw [show TT.lo false [.leaf (.int .i64)] x = TT.un [.leaf (.int .i64)] (x) from rfl, spileref32_Is.eq]
  rfl
noncomputable def spileref32_IsP.e : Entry := mkP [.leaf (.int .i64)] (.one (.leaf .bool)) fun x => spileref32_IsP x
theorem spileref32_IsP.ok : EntryOK Try.prog 67 (spileref32_IsP.e) := mkP_ok (spileref32_Is.tbok) Try.mixed Try.func67 (by kernel_rfl) spileref32_IsP.eq

/-! ### spile/spileref32.Of: function 68 -/
noncomputable def spileref32_Of.tb : Table := tab [] [] Table.nil
theorem spileref32_Of.tbok : TabOK Try.prog (spileref32_Of.tb) := TabOK.tab (TabOK.nil Try.prog) (all_nil _) (all_nil _)
noncomputable def spileref32_Of (a0 : Int) (a1 : Int) (a2 : Int) (a3 : Int) (h : H) : Option (((Int × Int × Int × Int)) × H) :=
(let h1 : H := H.new h [.int .i64 0, .int .i64 0, .int .i64 0, .int .i64 0] 4
(bif (decide (a0 < a1)) then ((H.wrs h1 (.hp h.next 4 0) [.int .i64 0, .int .i64 0, .int .i64 0, .int .i64 (IntKind.wrap .i64 (a1 - a0))]).bind fun h2 =>
((rdT (.agg [.int .i64, .int .i64, .int .i64, .int .i64]) h2 (.hp h.next 4 0 : V)).bind fun (x3_0, x3_1, x3_2, x3_3) =>
(some ((x3_0, x3_1, x3_2, x3_3), h2)))) else (let h4 : H := H.new h1 [.int .i64 0, .int .i64 0, .int .i64 0, .int .i64 0] 4
((H.wrs h4 (.hp h1.next 4 0) [.int .i64 (minI a2 (IntKind.wrap .i64 (a0 - a1))), .int .i64 0, .int .i64 0, .int .i64 0]).bind fun h5 =>
((rdT (.leaf (.int .i64)) h5 (.hp h1.next 4 0)).bind fun x6 =>
((H.wrs h5 (.hp h1.next 4 1) [.int .i64 (minI a3 (IntKind.wrap .i64 ((IntKind.wrap .i64 (a0 - a1)) - x6)))]).bind fun h7 =>
((rdT (.leaf (.int .i64)) h7 (.hp h1.next 4 1)).bind fun x8 =>
((H.wrs h7 (.hp h1.next 4 2) [.int .i64 (IntKind.wrap .i64 ((IntKind.wrap .i64 ((IntKind.wrap .i64 (a0 - a1)) - x6)) - x8))]).bind fun h9 =>
((rdT (.agg [.int .i64, .int .i64, .int .i64, .int .i64]) h9 (.hp h1.next 4 0)).bind fun (x10_0, x10_1, x10_2, x10_3) =>
((H.wrs h9 (.hp h.next 4 0) [.int .i64 x10_0, .int .i64 x10_1, .int .i64 x10_2, .int .i64 x10_3]).bind fun h11 =>
((rdT (.agg [.int .i64, .int .i64, .int .i64, .int .i64]) h11 (.hp h.next 4 0 : V)).bind fun (x12_0, x12_1, x12_2, x12_3) =>
(some ((x12_0, x12_1, x12_2, x12_3), h11)))))))))))))
def spileref32_Of.A : Ann := { lits := [], conds := [], loops := [], regs := [] }
theorem spileref32_Of.eq : ∀ (x : TT [.leaf (.int .i64), .leaf (.int .i64), .leaf (.int .i64), .leaf (.int .i64)]) (h : H), evalFn Try.prog (spileref32_Of.tb) spileref32_Of.A Try.f68 (.one (.agg [.int .i64, .int .i64, .int .i64, .int .i64])) (TT.un [.leaf (.int .i64), .leaf (.int .i64), .leaf (.int .i64), .leaf (.int .i64)] x) h = spileref32_Of x.1 x.2.1 x.2.2.1 x.2.2.2 h := by
  intro x h
  kernel_rfl
noncomputable def spileref32_Of.e : Entry := mkX [.leaf (.int .i64), .leaf (.int .i64), .leaf (.int .i64), .leaf (.int .i64)] (.one (.agg [.int .i64, .int .i64, .int .i64, .int .i64])) fun x h => spileref32_Of x.1 x.2.1 x.2.2.1 x.2.2.2 h
theorem spileref32_Of.ok : EntryOK Try.prog 68 (spileref32_Of.e) := mkX_ok (spileref32_Of.tbok) Try.mixed Try.func68 (by kernel_rfl) (spileref32_Of.eq)
noncomputable def spileref32_OfP (a0 : Int) (a1 : Int) (a2 : Int) (a3 : Int) : Option ((Int × Int × Int × Int)) := (spileref32_Of a0 a1 a2 a3 H.empty).bind fun p => rdRes false p.2 (.one (.agg [.int .i64, .int .i64, .int .i64, .int .i64])) (Res.un (.one (.agg [.int .i64, .int .i64, .int .i64, .int .i64])) p.1)
theorem spileref32_OfP.eq : ∀ x : TT [.leaf (.int .i64), .leaf (.int .i64), .leaf (.int .i64), .leaf (.int .i64)], ((evalFn Try.prog (spileref32_Of.tb) spileref32_Of.A Try.f68 (.one (.agg [.int .i64, .int .i64, .int .i64, .int .i64])) (TT.lo false [.leaf (.int .i64), .leaf (.int .i64), .leaf (.int .i64), .leaf (.int .i64)] x) H.empty).bind fun p => rdRes false p.2 (.one (.agg [.int .i64, .int .i64, .int .i64, .int .i64])) (Res.un (.one (.agg [.int .i64, .int .i64, .int .i64, .int .i64])) p.1)) = spileref32_OfP x.1 x.2.1 x.2.2.1 x.2.2.2 := by
  intro x
  rw [show TT.lo false [.leaf (.int .i64), .leaf (.int .i64), .leaf (.int .i64), .leaf (.int .i64)] x = TT.un [.leaf (.int .i64), .leaf (.int .i64), .leaf (.int .i64), .leaf (.int .i64)] (x.1, x.2.1, x.2.2.1, x.2.2.2) from rfl, spileref32_Of.eq]
  rfl
noncomputable def spileref32_OfP.e : Entry := mkP [.leaf (.int .i64), .leaf (.int .i64), .leaf (.int .i64), .leaf (.int .i64)] (.one (.agg [.int .i64, .int .i64, .int .i64, .int .i64])) fun x => spileref32_OfP x.1 x.2.1 x.2.2.1 x.2.2.2
theorem spileref32_OfP.ok : EntryOK Try.prog 68 (spileref32_OfP.e) := mkP_ok (spileref32_Of.tbok) Try.mixed Try.func68 (by kernel_rfl) spileref32_OfP.eq

/-! ### spile/spileref32.Chain: function 33 -/
noncomputable def spileref32_Chain.tb : Table := tab [(67, spileref32_IsP.e), (68, spileref32_OfP.e)] [] Table.nil
theorem spileref32_Chain.tbok : TabOK Try.prog (spileref32_Chain.tb) := TabOK.tab (TabOK.nil Try.prog) (all_cons spileref32_IsP.ok (all_cons spileref32_OfP.ok (all_nil _))) (all_nil _)
noncomputable def spileref32_Chain.loop1 (a1 : SV) : (SV × Int × Int) × H → Option (Stp ((SV × Int × Int) × H) (Flow (SV) (SV × Int × Int) × H)) := fun ((y2, y3, y4), h5) =>
(bif (decide (y4 < ((a1.len : Nat) : Int))) then (guardO (0 ≤ y4 ∧ y4 < ((a1.len : Nat) : Int)) ((rdT (.agg [.int .i64, .int .i64, .int .i64, .int .i64, .int .i64]) h5 (V.add a1.a (Int.toNat y4 * 5))).bind fun (x6_0, x6_1, x6_2, x6_3, x6_4) =>
(let h7 : H := H.new h5 [.int .i64 0, .int .i64 0, .int .i64 0, .int .i64 0, .int .i64 0] 5
((H.wrs h7 (.hp h5.next 5 0) [.int .i64 x6_0, .int .i64 x6_1, .int .i64 x6_2, .int .i64 x6_3, .int .i64 x6_4]).bind fun h8 =>
((((rdT (.leaf (.int .i64)) h8 (.hp h5.next 5 0)).bind fun x9 =>
((spileref32_IsP x9).bind fun r10 =>
(bif !(!r10) then ((rdT (.leaf (.int .i64)) h8 (.hp h5.next 5 1)).bind fun x11 =>
((spileref32_IsP x11).bind fun r12 =>
(bif !(!r12) then ((rdT (.leaf (.int .i64)) h8 (.hp h5.next 5 2)).bind fun x13 =>
((spileref32_IsP x13).bind fun r14 =>
(bif !(!r14) then ((rdT (.leaf (.int .i64)) h8 (.hp h5.next 5 3)).bind fun x15 =>
((spileref32_IsP x15).bind fun r16 =>
(bif !(!r16) then ((rdT (.leaf (.int .i64)) h8 (.hp h5.next 5 4)).bind fun x17 =>
((spileref32_IsP x17).bind fun r18 =>
(some ((!r18), h8)))) else (some (true, h8))))) else (some (true, h8))))) else (some (true, h8))))) else (some (true, h8)))))).bind fun (y19, h20) =>
(bif y19 then (some (.done (.ret (⟨.nil, 0, 0, false⟩, y4, 2), h20))) else ((rdT (.leaf (.int .i64)) h20 (.hp h5.next 5 0)).bind fun x21 =>
(bif (decide ((10737418240000 : Int) < (IntKind.wrap .i64 (y3 + x21)))) then (some (.done (.ret (⟨.nil, 0, 0, false⟩, y4, 15), h20))) else ((rdT (.leaf (.int .i64)) h20 (.hp h5.next 5 1)).bind fun x22 =>
((rdT (.leaf (.int .i64)) h20 (.hp h5.next 5 0)).bind fun x23 =>
(bif (decide ((IntKind.wrap .i64 (y3 + x23)) < x22)) then (some (.done (.ret (⟨.nil, 0, 0, false⟩, y4, 17), h20))) else ((rdT (.leaf (.int .i64)) h20 (.hp h5.next 5 0)).bind fun x24 =>
((rdT (.leaf (.int .i64)) h20 (.hp h5.next 5 1)).bind fun x25 =>
((rdT (.leaf (.int .i64)) h20 (.hp h5.next 5 2)).bind fun x26 =>
((rdT (.leaf (.int .i64)) h20 (.hp h5.next 5 3)).bind fun x27 =>
((rdT (.leaf (.int .i64)) h20 (.hp h5.next 5 4)).bind fun x28 =>
((spileref32_OfP (IntKind.wrap .i64 ((IntKind.wrap .i64 (y3 + x24)) - x25)) x26 x27 x28).bind fun (r29_0, r29_1, r29_2, r29_3) =>
((appendS h20 none 4 32 y2 [.int .i64 r29_0, .int .i64 r29_1, .int .i64 r29_2, .int .i64 r29_3] 1).bind fun (s32, h31) =>
((rdT (.leaf (.int .i64)) h31 (.hp h5.next 5 2)).bind fun x34 =>
(some (.more ((s32, x34, (IntKind.wrap .i64 (y4 + 1))), h31)))))))))))))))))))))) else (some (.done (.ex0 y2, h5))))
noncomputable def spileref32_Chain (a0 : Int) (a1 : SV) (h : H) : Option ((SV × Int × Int) × H) :=
(bif (decide ((128 : Int) < ((a1.len : Nat) : Int))) then (some ((⟨.nil, 0, 0, false⟩, (-1), 8), h)) else ((spileref32_IsP a0).bind fun r1 =>
(bif (!r1) then (some ((⟨.nil, 0, 0, false⟩, (-1), 2), h)) else ((iter FUEL (spileref32_Chain.loop1 a1) ((⟨.lp true ([]) 0, 0, 0, false⟩, a0, 0), h)).bind fun (fl36, h35) => match fl36 with
| .next _ => none
| .ret rr37 => (some (rr37, h35))
| .ex0 y38 =>
(some ((y38, (-1), 0), h35))
| .ex1 _ => none))))
def spileref32_Chain.A : Ann := { lits := [], conds := [], loops := [(7, [7, 0, 8], [.leaf .slice, .leaf (.int .i64), .leaf (.int .i64)], [7], [.leaf .slice], some 0, none)], regs := [(10, [54], [.leaf .bool])] }
theorem spileref32_Chain.eq : ∀ (x : TT [.leaf (.int .i64), .leaf .slice]) (h : H), evalFn Try.prog (spileref32_Chain.tb) spileref32_Chain.A Try.f33 (.many [.leaf .slice, .leaf (.int .i64), .leaf (.int .i64)]) (TT.un [.leaf (.int .i64), .leaf .slice] x) h = spileref32_Chain x.1 x.2 h := by
  intro x h
  kernel_rfl
noncomputable def spileref32_Chain.e : Entry := mkX [.leaf (.int .i64), .leaf .slice] (.many [.leaf .slice, .leaf (.int .i64), .leaf (.int .i64)]) fun x h => spileref32_Chain x.1 x.2 h
theorem spileref32_Chain.ok : EntryOK Try.prog 33 (spileref32_Chain.e) := mkX_ok (spileref32_Chain.tbok) Try.mixed Try.func33 (by kernel_rfl) (spileref32_Chain.eq)
noncomputable def spileref32_ChainP (a0 : Int) (a1 : (List (Int × Int × Int × Int × Int))) : Option ((List (Int × Int × Int × Int)) × Int × Int) := (spileref32_Chain a0 (rowSV false [.int .i64, .int .i64, .int .i64, .int .i64, .int .i64] a1) H.empty).bind fun p => rdRes false p.2 (.many [.leaf (.row [.int .i64, .int .i64, .int .i64, .int .i64]), .leaf (.int .i64), .leaf (.int .i64)]) (Res.un (.many [.leaf .slice, .leaf (.int .i64), .leaf (.int .i64)]) p.1)
theorem spileref32_ChainP.eq : ∀ x : TT [.leaf (.int .i64), .leaf (.row [.int .i64, .int .i64, .int .i64, .int .i64, .int .i64])], ((evalFn Try.prog (spileref32_Chain.tb) spileref32_Chain.A Try.f33 (.many [.leaf .slice, .leaf (.int .i64), .leaf (.int .i64)]) (TT.lo false [.leaf (.int .i64), .leaf (.row [.int .i64, .int .i64, .int .i64, .int .i64, .int .i64])] x) H.empty).bind fun p => rdRes false p.2 (.many [.leaf (.row [.int .i64, .int .i64, .int .i64, .int .i64]), .leaf (.int .i64), .leaf (.int .i64)]) (Res.un (.many [.leaf .slice, .leaf (.int .i64), .leaf (.int .i64)]) p.1)) = spileref32_ChainP x.1 x.2 := by
  intro x
  rw [show TT.lo false [.leaf (.int .i64), .leaf (.row [.int .i64, .int .i64, .int .i64, .int .i64, .int .i64])] x = TT.un [.leaf (.int .i64), .leaf .slice] (x.1, (rowSV false [.int .i64, .int .i64, .int .i64, .int .i64, .int .i64] x.2)) from rfl, spileref32_Chain.eq]
  rfl
noncomputable def spileref32_ChainP.e : Entry := mkP [.leaf (.int .i64), .leaf (.row [.int .i64, .int .i64, .int .i64, .int .i64, .int .i64])] (.many [.leaf (.row [.int .i64, .int .i64, .int .i64, .int .i64]), .leaf (.int .i64), .leaf (.int .i64)]) fun x => spileref32_ChainP x.1 x.2
theorem spileref32_ChainP.ok : EntryOK Try.prog 33 (spileref32_ChainP.e) := mkP_ok (spileref32_Chain.tbok) Try.mixed Try.func33 (by kernel_rfl) spileref32_ChainP.eq

/-! ### spile/spileref32.Same: function 34 -/
noncomputable def spileref32_Same.tb : Table := tab [] [] Table.nil
theorem spileref32_Same.tbok : TabOK Try.prog (spileref32_Same.tb) := TabOK.tab (TabOK.nil Try.prog) (all_nil _) (all_nil _)
noncomputable def spileref32_Same.loop1 (a0 : SV) (a1 : SV) : (Int) × H → Option (Stp ((Int) × H) (Flow (Unit) (Bool) × H)) := fun (y1, h2) =>
(bif (decide (y1 < ((a0.len : Nat) : Int))) then (let h3 : H := H.reserve h2 0
(guardO (0 ≤ y1 ∧ y1 < ((a0.len : Nat) : Int)) ((rdT (.agg [.int .i64, .int .i64, .int .i64, .int .i64]) h3 (V.add a0.a (Int.toNat y1 * 4))).bind fun (x4_0, x4_1, x4_2, x4_3) =>
(guardO (0 ≤ y1 ∧ y1 < ((a1.len : Nat) : Int)) ((rdT (.agg [.int .i64, .int .i64, .int .i64, .int .i64]) h3 (V.add a1.a (Int.toNat y1 * 4))).bind fun (x5_0, x5_1, x5_2, x5_3) =>
(bif (!(decide (x4_0 = x5_0) && (decide (x4_1 = x5_1) && (decide (x4_2 = x5_2) && (decide (x4_3 = x5_3)))))) then (some (.done (.ret false, h3))) else (some (.more ((IntKind.wrap .i64 (y1 + 1)), h3))))))))) else (some (.done (.ex0 (), h2))))
noncomputable def spileref32_Same (a0 : SV) (a1 : SV) (h : H) : Option ((Bool) × H) :=
(bif (!(decide (((a0.len : Nat) : Int) = ((a1.len : Nat) : Int)))) then (some (false, h)) else ((iter FUEL (spileref32_Same.loop1 a0 a1) (0, h)).bind fun (fl7, h6) => match fl7 with
| .next _ => none
| .ret rr8 => (some (rr8, h6))
| .ex0 _ =>
(some (true, h6))
| .ex1 _ => none))
def spileref32_Same.A : Ann := { lits := [], conds := [], loops := [(4, [5], [.leaf (.int .i64)], [], [], some 0, none)], regs := [] }
theorem spileref32_Same.eq : ∀ (x : TT [.leaf .slice, .leaf .slice]) (h : H), evalFn Try.prog (spileref32_Same.tb) spileref32_Same.A Try.f34 (.one (.leaf .bool)) (TT.un [.leaf .slice, .leaf .slice] x) h = spileref32_Same x.1 x.2 h := by
  intro x h
  kernel_rfl
noncomputable def spileref32_Same.e : Entry := mkX [.leaf .slice, .leaf .slice] (.one (.leaf .bool)) fun x h => spileref32_Same x.1 x.2 h
theorem spileref32_Same.ok : EntryOK Try.prog 34 (spileref32_Same.e) := mkX_ok (spileref32_Same.tbok) Try.mixed Try.func34 (by kernel_rfl) (spileref32_Same.eq)
noncomputable def spileref32_SameP (a0 : (List (Int × Int × Int × Int))) (a1 : (List (Int × Int × Int × Int))) : Option (Bool) := (spileref32_Same (rowSV false [.int .i64, .int .i64, .int .i64, .int .i64] a0) (rowSV false [.int .i64, .int .i64, .int .i64, .int .i64] a1) H.empty).bind fun p => rdRes false p.2 (.one (.leaf .bool)) (Res.un (.one (.leaf .bool)) p.1)
theorem spileref32_SameP.eq : ∀ x : TT [.leaf (.row [.int .i64, .int .i64, .int .i64, .int .i64]), .leaf (.row [.int .i64, .int .i64, .int .i64, .int .i64])], ((evalFn Try.prog (spileref32_Same.tb) spileref32_Same.A Try.f34 (.one (.leaf .bool)) (TT.lo false [.leaf (.row [.int .i64, .int .i64, .int .i64, .int .i64]), .leaf (.row [.int .i64, .int .i64, .int .i64, .int .i64])] x) H.empty).bind fun p => rdRes false p.2 (.one (.leaf .bool)) (Res.un (.one (.leaf .bool)) p.1)) = spileref32_SameP x.1 x.2 := by
  intro x
  rw [show TT.lo false [.leaf (.row [.int .i64, .int .i64, .int .i64, .int .i64]), .leaf (.row [.int .i64, .int .i64, .int .i64, .int .i64])] x = TT.un [.leaf .slice, .leaf .slice] ((rowSV false [.int .i64, .int .i64, .int .i64, .int .i64] x.1), (rowSV false [.int .i64, .int .i64, .int .i64, .int .i64] x.2)) from rfl, spileref32_Same.eq]
  rfl
noncomputable def spileref32_SameP.e : Entry := mkP [.leaf (.row [.int .i64, .int .i64, .int .i64, .int .i64]), .leaf (.row [.int .i64, .int .i64, .int .i64, .int .i64])] (.one (.leaf .bool)) fun x => spileref32_SameP x.1 x.2
theorem spileref32_SameP.ok : EntryOK Try.prog 34 (spileref32_SameP.e) := mkP_ok (spileref32_Same.tbok) Try.mixed Try.func34 (by kernel_rfl) spileref32_SameP.eq

/-! ### spile/spilelaw32.LossChains: function 7 -/
noncomputable def spilelaw32_LossChains.tb : Table := tab [(30, spilelaw32_awakeP.e), (31, loss_ChainP.e), (32, slices_Clone_api_Turn_api_TurnP.e), (33, spileref32_ChainP.e), (34, spileref32_SameP.e)] [] Table.nil
theorem spilelaw32_LossChains.tbok : TabOK Try.prog (spilelaw32_LossChains.tb) := TabOK.tab (TabOK.nil Try.prog) (all_cons spilelaw32_awakeP.ok (all_cons loss_ChainP.ok (all_cons slices_Clone_api_Turn_api_TurnP.ok (all_cons spileref32_ChainP.ok (all_cons spileref32_SameP.ok (all_nil _)))))) (all_nil _)
noncomputable def spilelaw32_LossChains (a0 : Int) (a1 : SV) (h : H) : Option ((Bool) × H) :=
((spilelaw32_awakeP ).bind fun r1 =>
(bif (!r1) then (some (false, h)) else (((bif (decide ((20 : Int) < ((a1.len : Nat) : Int))) then (some ((!(decide (((a1.len : Nat) : Int) = 129))), h)) else (some (false, h)))).bind fun (y2, h3) =>
(bif y2 then (some (true, h3)) else ((rdRow true h3 [.int .i64, .int .i64, .int .i64, .int .i64, .int .i64] a1).bind fun s5 =>
((cloneP 40 s5).bind fun r4 =>
((rdRow true h3 [.int .i64, .int .i64, .int .i64, .int .i64, .int .i64] (rowSV true [.int .i64, .int .i64, .int .i64, .int .i64, .int .i64] r4)).bind fun s9 =>
((loss_ChainP a0 s9).bind fun (r6, r7, r8) =>
((rdRow true h3 [.int .i64, .int .i64, .int .i64, .int .i64, .int .i64] a1).bind fun s13 =>
((spileref32_ChainP a0 s13).bind fun (r10, r11, r12) =>
((((rdRow true h3 [.int .i64, .int .i64, .int .i64, .int .i64] (rowSV true [.int .i64, .int .i64, .int .i64, .int .i64] r6)).bind fun s15 =>
((rdRow true h3 [.int .i64, .int .i64, .int .i64, .int .i64] (rowSV true [.int .i64, .int .i64, .int .i64, .int .i64] r10)).bind fun s16 =>
((spileref32_SameP s15 s16).bind fun r14 =>
(bif r14 then (bif (decide (r7 = r11)) then (some ((decide (r8 = r12)), h3)) else (some (false, h3))) else (some (false, h3))))))).bind fun (y17, h18) =>
(some (y17, h18)))))))))))))
def spilelaw32_LossChains.A : Ann := { lits := [], conds := [], loops := [], regs := [(3, [20], [.leaf .bool]), (7, [4], [.leaf .bool])] }
theorem spilelaw32_LossChains.eq : ∀ (x : TT [.leaf (.int .i64), .leaf .slice]) (h : H), evalFn Try.prog (spilelaw32_LossChains.tb) spilelaw32_LossChains.A Try.f7 (.one (.leaf .bool)) (TT.un [.leaf (.int .i64), .leaf .slice] x) h = spilelaw32_LossChains x.1 x.2 h := by
  intro x h
  kernel_rfl
noncomputable def spilelaw32_LossChains.e : Entry := mkX [.leaf (.int .i64), .leaf .slice] (.one (.leaf .bool)) fun x h => spilelaw32_LossChains x.1 x.2 h
theorem spilelaw32_LossChains.ok : EntryOK Try.prog 7 (spilelaw32_LossChains.e) := mkX_ok (spilelaw32_LossChains.tbok) Try.mixed Try.func7 (by kernel_rfl) (spilelaw32_LossChains.eq)
noncomputable def spilelaw32_LossChainsP (a0 : Int) (a1 : (List (Int × Int × Int × Int × Int))) : Option (Bool) := (spilelaw32_LossChains a0 (rowSV false [.int .i64, .int .i64, .int .i64, .int .i64, .int .i64] a1) H.empty).bind fun p => rdRes false p.2 (.one (.leaf .bool)) (Res.un (.one (.leaf .bool)) p.1)
theorem spilelaw32_LossChainsP.eq : ∀ x : TT [.leaf (.int .i64), .leaf (.row [.int .i64, .int .i64, .int .i64, .int .i64, .int .i64])], ((evalFn Try.prog (spilelaw32_LossChains.tb) spilelaw32_LossChains.A Try.f7 (.one (.leaf .bool)) (TT.lo false [.leaf (.int .i64), .leaf (.row [.int .i64, .int .i64, .int .i64, .int .i64, .int .i64])] x) H.empty).bind fun p => rdRes false p.2 (.one (.leaf .bool)) (Res.un (.one (.leaf .bool)) p.1)) = spilelaw32_LossChainsP x.1 x.2 := by
  intro x
  rw [show TT.lo false [.leaf (.int .i64), .leaf (.row [.int .i64, .int .i64, .int .i64, .int .i64, .int .i64])] x = TT.un [.leaf (.int .i64), .leaf .slice] (x.1, (rowSV false [.int .i64, .int .i64, .int .i64, .int .i64, .int .i64] x.2)) from rfl, spilelaw32_LossChains.eq]
  rfl
noncomputable def spilelaw32_LossChainsP.e : Entry := mkP [.leaf (.int .i64), .leaf (.row [.int .i64, .int .i64, .int .i64, .int .i64, .int .i64])] (.one (.leaf .bool)) fun x => spilelaw32_LossChainsP x.1 x.2
theorem spilelaw32_LossChainsP.ok : EntryOK Try.prog 7 (spilelaw32_LossChainsP.e) := mkP_ok (spilelaw32_LossChains.tbok) Try.mixed Try.func7 (by kernel_rfl) spilelaw32_LossChainsP.eq

/-! ### spile/spilelaw32.lost: function 36 -/
noncomputable def spilelaw32_lost.tb : Table := tab [] [] Table.nil
theorem spilelaw32_lost.tbok : TabOK Try.prog (spilelaw32_lost.tb) := TabOK.tab (TabOK.nil Try.prog) (all_nil _) (all_nil _)
noncomputable def spilelaw32_lost (a0 : (Int × Int × Int × Int)) (h : H) : Option ((Int) × H) :=
(match a0 with
| (a0_0, a0_1, a0_2, a0_3) =>
(let h1 : H := H.new h [.int .i64 a0_0, .int .i64 a0_1, .int .i64 a0_2, .int .i64 a0_3] 4
((rdT (.leaf (.int .i64)) h1 (.hp h.next 4 0)).bind fun x2 =>
((rdT (.leaf (.int .i64)) h1 (.hp h.next 4 1)).bind fun x3 =>
((rdT (.leaf (.int .i64)) h1 (.hp h.next 4 2)).bind fun x4 =>
(some ((IntKind.wrap .i64 ((IntKind.wrap .i64 (x2 + x3)) + x4)), h1)))))))
def spilelaw32_lost.A : Ann := { lits := [], conds := [], loops := [], regs := [] }
theorem spilelaw32_lost.eq : ∀ (x : TT [.agg [.int .i64, .int .i64, .int .i64, .int .i64]]) (h : H), evalFn Try.prog (spilelaw32_lost.tb) spilelaw32_lost.A Try.f36 (.one (.leaf (.int .i64))) (TT.un [.agg [.int .i64, .int .i64, .int .i64, .int .i64]] x) h = spilelaw32_lost x h := by
  intro x h
  kernel_rfl
noncomputable def spilelaw32_lost.e : Entry := mkX [.agg [.int .i64, .int .i64, .int .i64, .int .i64]] (.one (.leaf (.int .i64))) fun x h => spilelaw32_lost x h
theorem spilelaw32_lost.ok : EntryOK Try.prog 36 (spilelaw32_lost.e) := mkX_ok (spilelaw32_lost.tbok) Try.mixed Try.func36 (by kernel_rfl) (spilelaw32_lost.eq)
noncomputable def spilelaw32_lostP (a0 : (Int × Int × Int × Int)) : Option (Int) := (spilelaw32_lost a0 H.empty).bind fun p => rdRes false p.2 (.one (.leaf (.int .i64))) (Res.un (.one (.leaf (.int .i64))) p.1)
theorem spilelaw32_lostP.eq : ∀ x : TT [.agg [.int .i64, .int .i64, .int .i64, .int .i64]], ((evalFn Try.prog (spilelaw32_lost.tb) spilelaw32_lost.A Try.f36 (.one (.leaf (.int .i64))) (TT.lo false [.agg [.int .i64, .int .i64, .int .i64, .int .i64]] x) H.empty).bind fun p => rdRes false p.2 (.one (.leaf (.int .i64))) (Res.un (.one (.leaf (.int .i64))) p.1)) = spilelaw32_lostP x := by
  intro x
  rw [show TT.lo false [.agg [.int .i64, .int .i64, .int .i64, .int .i64]] x = TT.un [.agg [.int .i64, .int .i64, .int .i64, .int .i64]] (x) from rfl, spilelaw32_lost.eq]
  rfl
noncomputable def spilelaw32_lostP.e : Entry := mkP [.agg [.int .i64, .int .i64, .int .i64, .int .i64]] (.one (.leaf (.int .i64))) fun x => spilelaw32_lostP x
theorem spilelaw32_lostP.ok : EntryOK Try.prog 36 (spilelaw32_lostP.e) := mkP_ok (spilelaw32_lost.tbok) Try.mixed Try.func36 (by kernel_rfl) spilelaw32_lostP.eq

/-! ### spile/loss.Check: function 37 -/
noncomputable def loss_Check.tb : Table := tab [(65, loss_amountP.e), (66, loss_splitP.e)] [] Table.nil
theorem loss_Check.tbok : TabOK Try.prog (loss_Check.tb) := TabOK.tab (TabOK.nil Try.prog) (all_cons loss_amountP.ok (all_cons loss_splitP.ok (all_nil _))) (all_nil _)
noncomputable def loss_Check (a0 : Int) (a1 : Int) (a2 : Int) (a3 : Int) (a4 : (Int × Int × Int × Int)) (h : H) : Option ((Int) × H) :=
(match a4 with
| (a4_0, a4_1, a4_2, a4_3) =>
(let h1 : H := H.new h [.int .i64 a4_0, .int .i64 a4_1, .int .i64 a4_2, .int .i64 a4_3] 4
((rdRow true h1 [.int .i64] ⟨.lp true ([.int .i64 a0, .int .i64 a1, .int .i64 a2, .int .i64 a3]) 0, 4, 4, false⟩).bind fun s3 =>
((loss_amountP s3).bind fun r2 =>
(bif (!r2) then (some (2, h1)) else (let h4 : H := H.reserve h1 0
((loss_splitP a0 a1 a2 a3).bind fun (r5_0, r5_1, r5_2, r5_3) =>
((rdT (.agg [.int .i64, .int .i64, .int .i64, .int .i64]) h4 (.hp h.next 4 0)).bind fun (x6_0, x6_1, x6_2, x6_3) =>
(bif (!(decide (r5_0 = x6_0) && (decide (r5_1 = x6_1) && (decide (r5_2 = x6_2) && (decide (r5_3 = x6_3)))))) then (some (14, h4)) else (some (0, h4)))))))))))
def loss_Check.A : Ann := { lits := [], conds := [], loops := [], regs := [] }
theorem loss_Check.eq : ∀ (x : TT [.leaf (.int .i64), .leaf (.int .i64), .leaf (.int .i64), .leaf (.int .i64), .agg [.int .i64, .int .i64, .int .i64, .int .i64]]) (h : H), evalFn Try.prog (loss_Check.tb) loss_Check.A Try.f37 (.one (.leaf (.int .i64))) (TT.un [.leaf (.int .i64), .leaf (.int .i64), .leaf (.int .i64), .leaf (.int .i64), .agg [.int .i64, .int .i64, .int .i64, .int .i64]] x) h = loss_Check x.1 x.2.1 x.2.2.1 x.2.2.2.1 x.2.2.2.2 h := by
  intro x h
  kernel_rfl
noncomputable def loss_Check.e : Entry := mkX [.leaf (.int .i64), .leaf (.int .i64), .leaf (.int .i64), .leaf (.int .i64), .agg [.int .i64, .int .i64, .int .i64, .int .i64]] (.one (.leaf (.int .i64))) fun x h => loss_Check x.1 x.2.1 x.2.2.1 x.2.2.2.1 x.2.2.2.2 h
theorem loss_Check.ok : EntryOK Try.prog 37 (loss_Check.e) := mkX_ok (loss_Check.tbok) Try.mixed Try.func37 (by kernel_rfl) (loss_Check.eq)
noncomputable def loss_CheckP (a0 : Int) (a1 : Int) (a2 : Int) (a3 : Int) (a4 : (Int × Int × Int × Int)) : Option (Int) := (loss_Check a0 a1 a2 a3 a4 H.empty).bind fun p => rdRes false p.2 (.one (.leaf (.int .i64))) (Res.un (.one (.leaf (.int .i64))) p.1)
theorem loss_CheckP.eq : ∀ x : TT [.leaf (.int .i64), .leaf (.int .i64), .leaf (.int .i64), .leaf (.int .i64), .agg [.int .i64, .int .i64, .int .i64, .int .i64]], ((evalFn Try.prog (loss_Check.tb) loss_Check.A Try.f37 (.one (.leaf (.int .i64))) (TT.lo false [.leaf (.int .i64), .leaf (.int .i64), .leaf (.int .i64), .leaf (.int .i64), .agg [.int .i64, .int .i64, .int .i64, .int .i64]] x) H.empty).bind fun p => rdRes false p.2 (.one (.leaf (.int .i64))) (Res.un (.one (.leaf (.int .i64))) p.1)) = loss_CheckP x.1 x.2.1 x.2.2.1 x.2.2.2.1 x.2.2.2.2 := by
  intro x
  rw [show TT.lo false [.leaf (.int .i64), .leaf (.int .i64), .leaf (.int .i64), .leaf (.int .i64), .agg [.int .i64, .int .i64, .int .i64, .int .i64]] x = TT.un [.leaf (.int .i64), .leaf (.int .i64), .leaf (.int .i64), .leaf (.int .i64), .agg [.int .i64, .int .i64, .int .i64, .int .i64]] (x.1, x.2.1, x.2.2.1, x.2.2.2.1, x.2.2.2.2) from rfl, loss_Check.eq]
  rfl
noncomputable def loss_CheckP.e : Entry := mkP [.leaf (.int .i64), .leaf (.int .i64), .leaf (.int .i64), .leaf (.int .i64), .agg [.int .i64, .int .i64, .int .i64, .int .i64]] (.one (.leaf (.int .i64))) fun x => loss_CheckP x.1 x.2.1 x.2.2.1 x.2.2.2.1 x.2.2.2.2
theorem loss_CheckP.ok : EntryOK Try.prog 37 (loss_CheckP.e) := mkP_ok (loss_Check.tbok) Try.mixed Try.func37 (by kernel_rfl) loss_CheckP.eq

/-! ### spile/spilelaw32.LossCloses: function 8 -/
noncomputable def spilelaw32_LossCloses.tb : Table := tab [(30, spilelaw32_awakeP.e), (35, loss_SplitP.e), (36, spilelaw32_lostP.e), (37, loss_CheckP.e)] [] Table.nil
theorem spilelaw32_LossCloses.tbok : TabOK Try.prog (spilelaw32_LossCloses.tb) := TabOK.tab (TabOK.nil Try.prog) (all_cons spilelaw32_awakeP.ok (all_cons loss_SplitP.ok (all_cons spilelaw32_lostP.ok (all_cons loss_CheckP.ok (all_nil _))))) (all_nil _)
noncomputable def spilelaw32_LossCloses (a0 : (Int × Int × Int × Int × Int)) (h : H) : Option ((Bool) × H) :=
(match a0 with
| (a0_0, a0_1, a0_2, a0_3, a0_4) =>
(let h1 : H := H.new h [.int .i64 a0_0, .int .i64 a0_1, .int .i64 a0_2, .int .i64 a0_3, .int .i64 a0_4] 5
((spilelaw32_awakeP ).bind fun r2 =>
(bif (!r2) then (some (false, h1)) else ((rdT (.leaf (.int .i64)) h1 (.hp h.next 5 0)).bind fun x3 =>
((rdT (.leaf (.int .i64)) h1 (.hp h.next 5 2)).bind fun x4 =>
((rdT (.leaf (.int .i64)) h1 (.hp h.next 5 3)).bind fun x5 =>
((rdT (.leaf (.int .i64)) h1 (.hp h.next 5 4)).bind fun x6 =>
((loss_SplitP x3 x4 x5 x6).bind fun ((r7_0, r7_1, r7_2, r7_3), r8) =>
(let h9 : H := H.new h1 [.int .i64 0, .int .i64 0, .int .i64 0, .int .i64 0] 4
((H.wrs h9 (.hp h1.next 4 0) [.int .i64 r7_0, .int .i64 r7_1, .int .i64 r7_2, .int .i64 r7_3]).bind fun h10 =>
(bif (!(decide (r8 = 0))) then ((rdT (.agg [.int .i64, .int .i64, .int .i64, .int .i64]) h10 (.hp h1.next 4 0)).bind fun (x11_0, x11_1, x11_2, x11_3) =>
(some ((decide (x11_0 = 0) && (decide (x11_1 = 0) && (decide (x11_2 = 0) && (decide (x11_3 = 0))))), h10))) else ((((rdT (.leaf (.int .i64)) h10 (.hp h1.next 4 0)).bind fun x12 =>
(bif !(decide (x12 < 0)) then ((rdT (.leaf (.int .i64)) h10 (.hp h1.next 4 1)).bind fun x13 =>
(bif !(decide (x13 < 0)) then ((rdT (.leaf (.int .i64)) h10 (.hp h1.next 4 2)).bind fun x14 =>
(bif !(decide (x14 < 0)) then ((rdT (.leaf (.int .i64)) h10 (.hp h1.next 4 3)).bind fun x15 =>
(bif !(decide (x15 < 0)) then ((rdT (.leaf (.int .i64)) h10 (.hp h1.next 4 0)).bind fun x16 =>
((rdT (.leaf (.int .i64)) h10 (.hp h.next 5 3)).bind fun x17 =>
(bif !(decide (x17 < x16)) then ((rdT (.leaf (.int .i64)) h10 (.hp h1.next 4 1)).bind fun x18 =>
((rdT (.leaf (.int .i64)) h10 (.hp h.next 5 4)).bind fun x19 =>
(some ((decide (x19 < x18)), h10)))) else (some (true, h10))))) else (some (true, h10)))) else (some (true, h10)))) else (some (true, h10)))) else (some (true, h10))))).bind fun (y20, h21) =>
(bif y20 then (some (false, h21)) else ((((rdT (.leaf (.int .i64)) h21 (.hp h1.next 4 1)).bind fun x22 =>
((rdT (.leaf (.int .i64)) h21 (.hp h1.next 4 2)).bind fun x23 =>
(bif (decide ((0 : Int) < (IntKind.wrap .i64 (x22 + x23)))) then ((rdT (.leaf (.int .i64)) h21 (.hp h1.next 4 0)).bind fun x24 =>
((rdT (.leaf (.int .i64)) h21 (.hp h.next 5 3)).bind fun x25 =>
(bif !(!(decide (x24 = x25))) then ((rdT (.leaf (.int .i64)) h21 (.hp h1.next 4 2)).bind fun x26 =>
(bif (decide ((0 : Int) < x26)) then ((rdT (.leaf (.int .i64)) h21 (.hp h1.next 4 1)).bind fun x27 =>
((rdT (.leaf (.int .i64)) h21 (.hp h.next 5 4)).bind fun x28 =>
(some ((!(decide (x27 = x28))), h21)))) else (some (false, h21)))) else (some (true, h21))))) else ((rdT (.leaf (.int .i64)) h21 (.hp h1.next 4 2)).bind fun x29 =>
(bif (decide ((0 : Int) < x29)) then ((rdT (.leaf (.int .i64)) h21 (.hp h1.next 4 1)).bind fun x30 =>
((rdT (.leaf (.int .i64)) h21 (.hp h.next 5 4)).bind fun x31 =>
(some ((!(decide (x30 = x31))), h21)))) else (some (false, h21)))))))).bind fun (y32, h33) =>
(bif y32 then (some (false, h33)) else (((let h34 : H := H.reserve h33 0
((rdT (.leaf (.int .i64)) h34 (.hp h.next 5 0)).bind fun x35 =>
((rdT (.leaf (.int .i64)) h34 (.hp h1.next 4 3)).bind fun x36 =>
((rdT (.leaf (.int .i64)) h34 (.hp h.next 5 2)).bind fun x37 =>
((rdT (.agg [.int .i64, .int .i64, .int .i64, .int .i64]) h34 (.hp h1.next 4 0)).bind fun (x38_0, x38_1, x38_2, x38_3) =>
((spilelaw32_lostP (x38_0, x38_1, x38_2, x38_3)).bind fun r39 =>
(bif (decide ((IntKind.wrap .i64 (x35 + x36)) = (IntKind.wrap .i64 (x37 + r39)))) then ((rdT (.leaf (.int .i64)) h34 (.hp h1.next 4 3)).bind fun x40 =>
(bif !(decide (x40 = 0)) then ((rdT (.agg [.int .i64, .int .i64, .int .i64, .int .i64]) h34 (.hp h1.next 4 0)).bind fun (x41_0, x41_1, x41_2, x41_3) =>
((spilelaw32_lostP (x41_0, x41_1, x41_2, x41_3)).bind fun r42 =>
(bif (decide (r42 = 0)) then ((rdT (.leaf (.int .i64)) h34 (.hp h.next 5 0)).bind fun x43 =>
((rdT (.leaf (.int .i64)) h34 (.hp h.next 5 2)).bind fun x44 =>
((rdT (.leaf (.int .i64)) h34 (.hp h.next 5 3)).bind fun x45 =>
((rdT (.leaf (.int .i64)) h34 (.hp h.next 5 4)).bind fun x46 =>
((rdT (.agg [.int .i64, .int .i64, .int .i64, .int .i64]) h34 (.hp h1.next 4 0)).bind fun (x47_0, x47_1, x47_2, x47_3) =>
((loss_CheckP x43 x44 x45 x46 (x47_0, x47_1, x47_2, x47_3)).bind fun r48 =>
(some ((decide (r48 = 0)), h34)))))))) else (some (false, h34))))) else ((rdT (.leaf (.int .i64)) h34 (.hp h.next 5 0)).bind fun x49 =>
((rdT (.leaf (.int .i64)) h34 (.hp h.next 5 2)).bind fun x50 =>
((rdT (.leaf (.int .i64)) h34 (.hp h.next 5 3)).bind fun x51 =>
((rdT (.leaf (.int .i64)) h34 (.hp h.next 5 4)).bind fun x52 =>
((rdT (.agg [.int .i64, .int .i64, .int .i64, .int .i64]) h34 (.hp h1.next 4 0)).bind fun (x53_0, x53_1, x53_2, x53_3) =>
((loss_CheckP x49 x50 x51 x52 (x53_0, x53_1, x53_2, x53_3)).bind fun r54 =>
(some ((decide (r54 = 0)), h34)))))))))) else (some (false, h34)))))))))).bind fun (y55, h56) =>
(some (y55, h56)))))))))))))))))))
def spilelaw32_LossCloses.A : Ann := { lits := [], conds := [], loops := [], regs := [(6, [56], [.leaf .bool]), (8, [81], [.leaf .bool]), (10, [2], [.leaf .bool])] }
theorem spilelaw32_LossCloses.eq : ∀ (x : TT [.agg [.int .i64, .int .i64, .int .i64, .int .i64, .int .i64]]) (h : H), evalFn Try.prog (spilelaw32_LossCloses.tb) spilelaw32_LossCloses.A Try.f8 (.one (.leaf .bool)) (TT.un [.agg [.int .i64, .int .i64, .int .i64, .int .i64, .int .i64]] x) h = spilelaw32_LossCloses x h := by
  intro x h
  kernel_rfl
noncomputable def spilelaw32_LossCloses.e : Entry := mkX [.agg [.int .i64, .int .i64, .int .i64, .int .i64, .int .i64]] (.one (.leaf .bool)) fun x h => spilelaw32_LossCloses x h
theorem spilelaw32_LossCloses.ok : EntryOK Try.prog 8 (spilelaw32_LossCloses.e) := mkX_ok (spilelaw32_LossCloses.tbok) Try.mixed Try.func8 (by kernel_rfl) (spilelaw32_LossCloses.eq)
noncomputable def spilelaw32_LossClosesP (a0 : (Int × Int × Int × Int × Int)) : Option (Bool) := (spilelaw32_LossCloses a0 H.empty).bind fun p => rdRes false p.2 (.one (.leaf .bool)) (Res.un (.one (.leaf .bool)) p.1)
theorem spilelaw32_LossClosesP.eq : ∀ x : TT [.agg [.int .i64, .int .i64, .int .i64, .int .i64, .int .i64]], ((evalFn Try.prog (spilelaw32_LossCloses.tb) spilelaw32_LossCloses.A Try.f8 (.one (.leaf .bool)) (TT.lo false [.agg [.int .i64, .int .i64, .int .i64, .int .i64, .int .i64]] x) H.empty).bind fun p => rdRes false p.2 (.one (.leaf .bool)) (Res.un (.one (.leaf .bool)) p.1)) = spilelaw32_LossClosesP x := by
  intro x
  rw [show TT.lo false [.agg [.int .i64, .int .i64, .int .i64, .int .i64, .int .i64]] x = TT.un [.agg [.int .i64, .int .i64, .int .i64, .int .i64, .int .i64]] (x) from rfl, spilelaw32_LossCloses.eq]
  rfl
noncomputable def spilelaw32_LossClosesP.e : Entry := mkP [.agg [.int .i64, .int .i64, .int .i64, .int .i64, .int .i64]] (.one (.leaf .bool)) fun x => spilelaw32_LossClosesP x
theorem spilelaw32_LossClosesP.ok : EntryOK Try.prog 8 (spilelaw32_LossClosesP.e) := mkP_ok (spilelaw32_LossCloses.tbok) Try.mixed Try.func8 (by kernel_rfl) spilelaw32_LossClosesP.eq
end Go.Proofs.Ytadlfinlbaogeaa
