/- The functions of the program as Lean functions, each with the equation by which the evaluator is that function. Written by a program of this session (evdrive.py). Conditions: none. -/
import Derived.Test.YtfkabibbaajfhaaProg
import Derived.Test.YtfkabibbaajfhaaEvSpec
import Derived.Test.YtfkabibbaajfhaaFn7
namespace Go.Proofs.Ytfkabibbaajfhaa
open Go Go.Proofs.Ytfkabibbaajfhaa.Ev
set_option maxRecDepth 100000
set_option linter.unusedVariables false
/-! ### spile/spileref29.Most: function 19 -/
noncomputable def spileref29_Most.tb : Table := tab [(25, spileref29_CheckP.e), (39, spileref29_keepsP.e), (40, spileref29_nextP.e), (44, spileref29_totalP.e)] [] Table.nil
theorem spileref29_Most.tbok : TabOK Try.prog (spileref29_Most.tb) := TabOK.tab (TabOK.nil Try.prog) (all_cons spileref29_CheckP.ok (all_cons spileref29_keepsP.ok (all_cons spileref29_nextP.ok (all_cons spileref29_totalP.ok (all_nil _))))) (all_nil _)
noncomputable def spileref29_Most.loop1 (h : H) (a0 : SV) : (SV × Int × SV × Bool) × H → Option (Stp ((SV × Int × SV × Bool) × H) (Flow (SV × Int) (SV × Int × Int) × H)) := fun ((y10, y11, y12, y13), h14) =>
(bif y13 then ((((rdRow true h14 [.int .i64] y12).bind fun s16 =>
((spileref29_totalP s16).bind fun r15 =>
(bif (decide (y11 < r15)) then ((rdT (.agg [.slice, .slice, .slice, .int .i64, .int .i64, .int .i64]) h14 (.hp h.next 6 0)).bind fun (x17_0, x17_1, x17_2, x17_3, x17_4, x17_5) =>
((rdRow true h14 [.int .i64, .int .i64] a0).bind fun s19 =>
((rdRow true h14 [.int .i64, .int .i64] x17_0).bind fun s20 =>
((rdRow true h14 [.int .i64] x17_1).bind fun s21 =>
((rdRow true h14 [.int .i64] x17_2).bind fun s22 =>
((rdRow true h14 [.int .i64] y12).bind fun s23 =>
((spileref29_keepsP s19 (s20, s21, s22, x17_3, x17_4, x17_5) s23).bind fun r18 =>
(some (r18, h14))))))))) else (some (false, h14)))))).bind fun (y24, h25) =>
((bif y24 then ((rdRow true h25 [.int .i64] y12).bind fun s27 =>
((spileref29_totalP s27).bind fun r26 =>
(some (.next (y12, r26), h25)))) else (some (.next (y10, y11), h25)) : Option (Flow (SV × Int) (SV × Int × Int) × H)).bind fun (fl29, h28) => match fl29 with
| .next (y30, y31) =>
((rdT (.agg [.slice, .slice, .slice, .int .i64, .int .i64, .int .i64]) h28 (.hp h.next 6 0)).bind fun (x32_0, x32_1, x32_2, x32_3, x32_4, x32_5) =>
((rdRow true h28 [.int .i64, .int .i64] x32_0).bind fun s35 =>
((rdRow true h28 [.int .i64] x32_1).bind fun s36 =>
((rdRow true h28 [.int .i64] x32_2).bind fun s37 =>
((rdRow true h28 [.int .i64] y12).bind fun s38 =>
((spileref29_nextP (s35, s36, s37, x32_3, x32_4, x32_5) s38).bind fun (r33, r34) =>
(some (.more ((y30, y31, (rowSV true [.int .i64] r33), r34), h28)))))))))
| .ret rr39 => (some (.done (.ret rr39, h28)))
| .ex0 _ => none
| .ex1 _ => none)) else (some (.done (.ex0 (y10, y11), h14))))
noncomputable def spileref29_Most (a0 : SV) (a1 : (SV × SV × SV × Int × Int × Int)) (h : H) : Option ((SV × Int × Int) × H) :=
(match a1 with
| (a1_0, a1_1, a1_2, a1_3, a1_4, a1_5) =>
(let h1 : H := H.new h [.slice a1_0.a a1_0.len a1_0.cap a1_0.tail, .slice a1_1.a a1_1.len a1_1.cap a1_1.tail, .slice a1_2.a a1_2.len a1_2.cap a1_2.tail, .int .i64 a1_3, .int .i64 a1_4, .int .i64 a1_5] 6
((rdT (.agg [.slice, .slice, .slice, .int .i64, .int .i64, .int .i64]) h1 (.hp h.next 6 0)).bind fun (x2_0, x2_1, x2_2, x2_3, x2_4, x2_5) =>
((rdRow true h1 [.int .i64, .int .i64] a0).bind fun s4 =>
((rdRow true h1 [.int .i64, .int .i64] x2_0).bind fun s5 =>
((rdRow true h1 [.int .i64] x2_1).bind fun s6 =>
((rdRow true h1 [.int .i64] x2_2).bind fun s7 =>
((spileref29_CheckP s4 (s5, s6, s7, x2_3, x2_4, x2_5)).bind fun r3 =>
(bif (!(decide (r3 = 0))) then (some ((⟨.nil, 0, 0, false⟩, 0, 1), h1)) else ((rdT (.leaf .slice) h1 (.hp h.next 6 0)).bind fun x8 =>
(guardO (0 ≤ ((x8.len : Nat) : Int) ∧ ((x8.len : Nat) : Int) ≤ ((x8.len : Nat) : Int) ∧ ((x8.len : Nat) : Int) ≤ roomCells ∧ 8 ≤ 2 ^ 11 ∧ 1 = 1) (let h9 : H := H.new h1 (repeatCells [.int .i64 0] (Int.toNat ((x8.len : Nat) : Int))) 1
((iter FUEL (spileref29_Most.loop1 h a0) ((⟨.lp true ([]) 0, 0, 0, false⟩, 0, ⟨.hp h1.next (Int.toNat ((x8.len : Nat) : Int) * 1) 0, (Int.toNat ((x8.len : Nat) : Int)), (Int.toNat ((x8.len : Nat) : Int)), true⟩, true), h9)).bind fun (fl41, h40) => match fl41 with
| .next _ => none
| .ret rr42 => (some (rr42, h40))
| .ex0 (y43, y44) =>
(bif (decide (y44 = 0)) then (some ((⟨.nil, 0, 0, false⟩, 0, 20), h40)) else (some ((y43, y44, 0), h40)))
| .ex1 _ => none)))))))))))))
def spileref29_Most.A : Ann := { lits := [], conds := [(30, [7, 8], [.leaf .slice, .leaf (.int .i64)], none, none)], loops := [(5, [7, 8, 9, 10], [.leaf .slice, .leaf (.int .i64), .leaf .slice, .leaf .bool], [7, 8], [.leaf .slice, .leaf (.int .i64)], some 0, none)], regs := [(6, [30], [.leaf .bool])] }
theorem spileref29_Most.eq : ∀ (x : TT [.leaf .slice, .agg [.slice, .slice, .slice, .int .i64, .int .i64, .int .i64]]) (h : H), evalFn Try.prog (spileref29_Most.tb) spileref29_Most.A Try.f19 (.many [.leaf .slice, .leaf (.int .i64), .leaf (.int .i64)]) (TT.un [.leaf .slice, .agg [.slice, .slice, .slice, .int .i64, .int .i64, .int .i64]] x) h = spileref29_Most x.1 x.2 h := by
  intro x h
  kernel_rfl
noncomputable def spileref29_Most.e : Entry := mkX [.leaf .slice, .agg [.slice, .slice, .slice, .int .i64, .int .i64, .int .i64]] (.many [.leaf .slice, .leaf (.int .i64), .leaf (.int .i64)]) fun x h => spileref29_Most x.1 x.2 h
theorem spileref29_Most.ok : EntryOK Try.prog 19 (spileref29_Most.e) := mkX_ok (spileref29_Most.tbok) Try.mixed Try.func19 (by kernel_rfl) (spileref29_Most.eq)
noncomputable def spileref29_MostP (a0 : (List (Int × Int))) (a1 : ((List (Int × Int)) × (List (Int)) × (List (Int)) × Int × Int × Int)) : Option ((List (Int)) × Int × Int) := (spileref29_Most (rowSV false [.int .i64, .int .i64] a0) (rowSV false [.int .i64, .int .i64] a1.1, rowSV false [.int .i64] a1.2.1, rowSV false [.int .i64] a1.2.2.1, a1.2.2.2.1, a1.2.2.2.2.1, a1.2.2.2.2.2) H.empty).bind fun p => rdRes false p.2 (.many [.leaf (.row [.int .i64]), .leaf (.int .i64), .leaf (.int .i64)]) (Res.un (.many [.leaf .slice, .leaf (.int .i64), .leaf (.int .i64)]) p.1)
theorem spileref29_MostP.eq : ∀ x : TT [.leaf (.row [.int .i64, .int .i64]), .agg [.row [.int .i64, .int .i64], .row [.int .i64], .row [.int .i64], .int .i64, .int .i64, .int .i64]], ((evalFn Try.prog (spileref29_Most.tb) spileref29_Most.A Try.f19 (.many [.leaf .slice, .leaf (.int .i64), .leaf (.int .i64)]) (TT.lo false [.leaf (.row [.int .i64, .int .i64]), .agg [.row [.int .i64, .int .i64], .row [.int .i64], .row [.int .i64], .int .i64, .int .i64, .int .i64]] x) H.empty).bind fun p => rdRes false p.2 (.many [.leaf (.row [.int .i64]), .leaf (.int .i64), .leaf (.int .i64)]) (Res.un (.many [.leaf .slice, .leaf (.int .i64), .leaf (.int .i64)]) p.1)) = spileref29_MostP x.1 x.2 := by
  intro x
  rw [show TT.lo false [.leaf (.row [.int .i64, .int .i64]), .agg [.row [.int .i64, .int .i64], .row [.int .i64], .row [.int .i64], .int .i64, .int .i64, .int .i64]] x = TT.un [.leaf .slice, .agg [.slice, .slice, .slice, .int .i64, .int .i64, .int .i64]] ((rowSV false [.int .i64, .int .i64] x.1), (rowSV false [.int .i64, .int .i64] x.2.1, rowSV false [.int .i64] x.2.2.1, rowSV false [.int .i64] x.2.2.2.1, x.2.2.2.2.1, x.2.2.2.2.2.1, x.2.2.2.2.2.2)) from rfl, spileref29_Most.eq]
  rfl
noncomputable def spileref29_MostP.e : Entry := mkP [.leaf (.row [.int .i64, .int .i64]), .agg [.row [.int .i64, .int .i64], .row [.int .i64], .row [.int .i64], .int .i64, .int .i64, .int .i64]] (.many [.leaf (.row [.int .i64]), .leaf (.int .i64), .leaf (.int .i64)]) fun x => spileref29_MostP x.1 x.2
theorem spileref29_MostP.ok : EntryOK Try.prog 19 (spileref29_MostP.e) := mkP_ok (spileref29_Most.tbok) Try.mixed Try.func19 (by kernel_rfl) spileref29_MostP.eq

/-! ### spile/spilelaw29.BlendPlans: function 4 -/
noncomputable def spilelaw29_BlendPlans.tb : Table := tab [(9, spilelaw29_awakeP.e), (10, spileref16_FewP.e), (11, spileref29_FewP.e), (12, blend_BestP.e), (15, spileref29_BestP.e), (16, blend_BoundP.e), (17, spileref29_BoundP.e), (18, blend_MostP.e), (19, spileref29_MostP.e), (20, slices_Equal_int_intP.e)] [] Table.nil
theorem spilelaw29_BlendPlans.tbok : TabOK Try.prog (spilelaw29_BlendPlans.tb) := TabOK.tab (TabOK.nil Try.prog) (all_cons spilelaw29_awakeP.ok (all_cons spileref16_FewP.ok (all_cons spileref29_FewP.ok (all_cons blend_BestP.ok (all_cons spileref29_BestP.ok (all_cons blend_BoundP.ok (all_cons spileref29_BoundP.ok (all_cons blend_MostP.ok (all_cons spileref29_MostP.ok (all_cons slices_Equal_int_intP.ok (all_nil _))))))))))) (all_nil _)
noncomputable def spilelaw29_BlendPlans (a0 : SV) (a1 : (SV × SV × SV × Int × Int × Int)) (h : H) : Option ((Bool) × H) :=
(match a1 with
| (a1_0, a1_1, a1_2, a1_3, a1_4, a1_5) =>
(let h1 : H := H.new h [.slice a1_0.a a1_0.len a1_0.cap a1_0.tail, .slice a1_1.a a1_1.len a1_1.cap a1_1.tail, .slice a1_2.a a1_2.len a1_2.cap a1_2.tail, .int .i64 a1_3, .int .i64 a1_4, .int .i64 a1_5] 6
((spilelaw29_awakeP ).bind fun r2 =>
(bif (!r2) then (some (false, h1)) else ((((rdRow true h1 [.int .i64, .int .i64] a0).bind fun s4 =>
((spileref16_FewP s4).bind fun r3 =>
(bif !(!r3) then ((rdT (.agg [.slice, .slice, .slice, .int .i64, .int .i64, .int .i64]) h1 (.hp h.next 6 0)).bind fun (x5_0, x5_1, x5_2, x5_3, x5_4, x5_5) =>
((rdRow true h1 [.int .i64, .int .i64] x5_0).bind fun s7 =>
((rdRow true h1 [.int .i64] x5_1).bind fun s8 =>
((rdRow true h1 [.int .i64] x5_2).bind fun s9 =>
((spileref29_FewP (s7, s8, s9, x5_3, x5_4, x5_5)).bind fun r6 =>
(some ((!r6), h1))))))) else (some (true, h1)))))).bind fun (y10, h11) =>
(bif y10 then (some (true, h11)) else ((rdT (.agg [.slice, .slice, .slice, .int .i64, .int .i64, .int .i64]) h11 (.hp h.next 6 0)).bind fun (x12_0, x12_1, x12_2, x12_3, x12_4, x12_5) =>
((rdRow true h11 [.int .i64, .int .i64] a0).bind fun s16 =>
((rdRow true h11 [.int .i64, .int .i64] x12_0).bind fun s17 =>
((rdRow true h11 [.int .i64] x12_1).bind fun s18 =>
((rdRow true h11 [.int .i64] x12_2).bind fun s19 =>
((blend_BestP s16 (s17, s18, s19, x12_3, x12_4, x12_5)).bind fun (r13, r14, r15) =>
((rdT (.agg [.slice, .slice, .slice, .int .i64, .int .i64, .int .i64]) h11 (.hp h.next 6 0)).bind fun (x20_0, x20_1, x20_2, x20_3, x20_4, x20_5) =>
((rdRow true h11 [.int .i64, .int .i64] a0).bind fun s24 =>
((rdRow true h11 [.int .i64, .int .i64] x20_0).bind fun s25 =>
((rdRow true h11 [.int .i64] x20_1).bind fun s26 =>
((rdRow true h11 [.int .i64] x20_2).bind fun s27 =>
((spileref29_BestP s24 (s25, s26, s27, x20_3, x20_4, x20_5)).bind fun (r21, r22, r23) =>
((rdT (.agg [.slice, .slice, .slice, .int .i64, .int .i64, .int .i64]) h11 (.hp h.next 6 0)).bind fun (x28_0, x28_1, x28_2, x28_3, x28_4, x28_5) =>
((rdRow true h11 [.int .i64, .int .i64] a0).bind fun s31 =>
((rdRow true h11 [.int .i64, .int .i64] x28_0).bind fun s32 =>
((rdRow true h11 [.int .i64] x28_1).bind fun s33 =>
((rdRow true h11 [.int .i64] x28_2).bind fun s34 =>
((blend_BoundP s31 (s32, s33, s34, x28_3, x28_4, x28_5)).bind fun (r29, r30) =>
((rdT (.agg [.slice, .slice, .slice, .int .i64, .int .i64, .int .i64]) h11 (.hp h.next 6 0)).bind fun (x35_0, x35_1, x35_2, x35_3, x35_4, x35_5) =>
((rdRow true h11 [.int .i64, .int .i64] a0).bind fun s38 =>
((rdRow true h11 [.int .i64, .int .i64] x35_0).bind fun s39 =>
((rdRow true h11 [.int .i64] x35_1).bind fun s40 =>
((rdRow true h11 [.int .i64] x35_2).bind fun s41 =>
((spileref29_BoundP s38 (s39, s40, s41, x35_3, x35_4, x35_5)).bind fun (r36, r37) =>
((rdT (.agg [.slice, .slice, .slice, .int .i64, .int .i64, .int .i64]) h11 (.hp h.next 6 0)).bind fun (x42_0, x42_1, x42_2, x42_3, x42_4, x42_5) =>
((rdRow true h11 [.int .i64, .int .i64] a0).bind fun s46 =>
((rdRow true h11 [.int .i64, .int .i64] x42_0).bind fun s47 =>
((rdRow true h11 [.int .i64] x42_1).bind fun s48 =>
((rdRow true h11 [.int .i64] x42_2).bind fun s49 =>
((blend_MostP s46 (s47, s48, s49, x42_3, x42_4, x42_5)).bind fun (r43, r44, r45) =>
((rdT (.agg [.slice, .slice, .slice, .int .i64, .int .i64, .int .i64]) h11 (.hp h.next 6 0)).bind fun (x50_0, x50_1, x50_2, x50_3, x50_4, x50_5) =>
((rdRow true h11 [.int .i64, .int .i64] a0).bind fun s54 =>
((rdRow true h11 [.int .i64, .int .i64] x50_0).bind fun s55 =>
((rdRow true h11 [.int .i64] x50_1).bind fun s56 =>
((rdRow true h11 [.int .i64] x50_2).bind fun s57 =>
((spileref29_MostP s54 (s55, s56, s57, x50_3, x50_4, x50_5)).bind fun (r51, r52, r53) =>
((((rdRow true h11 [.int .i64] (rowSV true [.int .i64] r13)).bind fun s59 =>
((rdRow true h11 [.int .i64] (rowSV true [.int .i64] r21)).bind fun s60 =>
((slices_Equal_int_intP s59 s60).bind fun r58 =>
(bif r58 then (bif (decide (r14 = r22)) then (bif (decide (r15 = r23)) then (bif (decide (r29 = r36)) then (bif (decide (r30 = r37)) then ((rdRow true h11 [.int .i64] (rowSV true [.int .i64] r43)).bind fun s62 =>
((rdRow true h11 [.int .i64] (rowSV true [.int .i64] r51)).bind fun s63 =>
((slices_Equal_int_intP s62 s63).bind fun r61 =>
(bif r61 then (bif (decide (r44 = r52)) then (some ((decide (r45 = r53)), h11)) else (some (false, h11))) else (some (false, h11)))))) else (some (false, h11))) else (some (false, h11))) else (some (false, h11))) else (some (false, h11))) else (some (false, h11))))))).bind fun (y64, h65) =>
(some (y64, h65)))))))))))))))))))))))))))))))))))))))))))))
def spilelaw29_BlendPlans.A : Ann := { lits := [], conds := [], loops := [], regs := [(3, [30], [.leaf .bool]), (11, [4], [.leaf .bool])] }
theorem spilelaw29_BlendPlans.eq : ∀ (x : TT [.leaf .slice, .agg [.slice, .slice, .slice, .int .i64, .int .i64, .int .i64]]) (h : H), evalFn Try.prog (spilelaw29_BlendPlans.tb) spilelaw29_BlendPlans.A Try.f4 (.one (.leaf .bool)) (TT.un [.leaf .slice, .agg [.slice, .slice, .slice, .int .i64, .int .i64, .int .i64]] x) h = spilelaw29_BlendPlans x.1 x.2 h := by
  intro x h
  kernel_rfl
noncomputable def spilelaw29_BlendPlans.e : Entry := mkX [.leaf .slice, .agg [.slice, .slice, .slice, .int .i64, .int .i64, .int .i64]] (.one (.leaf .bool)) fun x h => spilelaw29_BlendPlans x.1 x.2 h
theorem spilelaw29_BlendPlans.ok : EntryOK Try.prog 4 (spilelaw29_BlendPlans.e) := mkX_ok (spilelaw29_BlendPlans.tbok) Try.mixed Try.func4 (by kernel_rfl) (spilelaw29_BlendPlans.eq)
noncomputable def spilelaw29_BlendPlansP (a0 : (List (Int × Int))) (a1 : ((List (Int × Int)) × (List (Int)) × (List (Int)) × Int × Int × Int)) : Option (Bool) := (spilelaw29_BlendPlans (rowSV false [.int .i64, .int .i64] a0) (rowSV false [.int .i64, .int .i64] a1.1, rowSV false [.int .i64] a1.2.1, rowSV false [.int .i64] a1.2.2.1, a1.2.2.2.1, a1.2.2.2.2.1, a1.2.2.2.2.2) H.empty).bind fun p => rdRes false p.2 (.one (.leaf .bool)) (Res.un (.one (.leaf .bool)) p.1)
theorem spilelaw29_BlendPlansP.eq : ∀ x : TT [.leaf (.row [.int .i64, .int .i64]), .agg [.row [.int .i64, .int .i64], .row [.int .i64], .row [.int .i64], .int .i64, .int .i64, .int .i64]], ((evalFn Try.prog (spilelaw29_BlendPlans.tb) spilelaw29_BlendPlans.A Try.f4 (.one (.leaf .bool)) (TT.lo false [.leaf (.row [.int .i64, .int .i64]), .agg [.row [.int .i64, .int .i64], .row [.int .i64], .row [.int .i64], .int .i64, .int .i64, .int .i64]] x) H.empty).bind fun p => rdRes false p.2 (.one (.leaf .bool)) (Res.un (.one (.leaf .bool)) p.1)) = spilelaw29_BlendPlansP x.1 x.2 := by
  intro x
  rw [show TT.lo false [.leaf (.row [.int .i64, .int .i64]), .agg [.row [.int .i64, .int .i64], .row [.int .i64], .row [.int .i64], .int .i64, .int .i64, .int .i64]] x = TT.un [.leaf .slice, .agg [.slice, .slice, .slice, .int .i64, .int .i64, .int .i64]] ((rowSV false [.int .i64, .int .i64] x.1), (rowSV false [.int .i64, .int .i64] x.2.1, rowSV false [.int .i64] x.2.2.1, rowSV false [.int .i64] x.2.2.2.1, x.2.2.2.2.1, x.2.2.2.2.2.1, x.2.2.2.2.2.2)) from rfl, spilelaw29_BlendPlans.eq]
  rfl
noncomputable def spilelaw29_BlendPlansP.e : Entry := mkP [.leaf (.row [.int .i64, .int .i64]), .agg [.row [.int .i64, .int .i64], .row [.int .i64], .row [.int .i64], .int .i64, .int .i64, .int .i64]] (.one (.leaf .bool)) fun x => spilelaw29_BlendPlansP x.1 x.2
theorem spilelaw29_BlendPlansP.ok : EntryOK Try.prog 4 (spilelaw29_BlendPlansP.e) := mkP_ok (spilelaw29_BlendPlans.tbok) Try.mixed Try.func4 (by kernel_rfl) spilelaw29_BlendPlansP.eq

/-! ### spile/spileref21.Plain: function 53 -/
noncomputable def spileref21_Plain.tb : Table := tab [] [] Table.nil
theorem spileref21_Plain.tbok : TabOK Try.prog (spileref21_Plain.tb) := TabOK.tab (TabOK.nil Try.prog) (all_nil _) (all_nil _)
noncomputable def spileref21_Plain (a0 : (Int × Int)) (h : H) : Option ((Bool) × H) :=
(match a0 with
| (a0_0, a0_1) =>
(let h1 : H := H.new h [.int .i64 a0_0, .int .i64 a0_1] 2
((((rdT (.leaf (.int .i64)) h1 (.hp h.next 2 0)).bind fun x2 =>
(bif (decide ((0 : Int) ≤ x2)) then ((rdT (.leaf (.int .i64)) h1 (.hp h.next 2 0)).bind fun x3 =>
(bif (decide (x3 ≤ 10737418240000)) then ((rdT (.leaf (.int .i64)) h1 (.hp h.next 2 1)).bind fun x4 =>
(bif (decide ((0 : Int) ≤ x4)) then ((rdT (.leaf (.int .i64)) h1 (.hp h.next 2 1)).bind fun x5 =>
(bif (decide (x5 ≤ 128849018880000)) then ((rdT (.leaf (.int .i64)) h1 (.hp h.next 2 1)).bind fun x6 =>
(bif !(decide ((0 : Int) < x6)) then ((rdT (.leaf (.int .i64)) h1 (.hp h.next 2 0)).bind fun x7 =>
(some ((decide (x7 = 0)), h1))) else (some (true, h1)))) else (some (false, h1)))) else (some (false, h1)))) else (some (false, h1)))) else (some (false, h1))))).bind fun (y8, h9) =>
(some (y8, h9)))))
def spileref21_Plain.A : Ann := { lits := [], conds := [], loops := [], regs := [(1, [2], [.leaf .bool])] }
theorem spileref21_Plain.eq : ∀ (x : TT [.agg [.int .i64, .int .i64]]) (h : H), evalFn Try.prog (spileref21_Plain.tb) spileref21_Plain.A Try.f53 (.one (.leaf .bool)) (TT.un [.agg [.int .i64, .int .i64]] x) h = spileref21_Plain x h := by
  intro x h
  kernel_rfl
noncomputable def spileref21_Plain.e : Entry := mkX [.agg [.int .i64, .int .i64]] (.one (.leaf .bool)) fun x h => spileref21_Plain x h
theorem spileref21_Plain.ok : EntryOK Try.prog 53 (spileref21_Plain.e) := mkX_ok (spileref21_Plain.tbok) Try.mixed Try.func53 (by kernel_rfl) (spileref21_Plain.eq)
noncomputable def spileref21_PlainP (a0 : (Int × Int)) : Option (Bool) := (spileref21_Plain a0 H.empty).bind fun p => rdRes false p.2 (.one (.leaf .bool)) (Res.un (.one (.leaf .bool)) p.1)
theorem spileref21_PlainP.eq : ∀ x : TT [.agg [.int .i64, .int .i64]], ((evalFn Try.prog (spileref21_Plain.tb) spileref21_Plain.A Try.f53 (.one (.leaf .bool)) (TT.lo false [.agg [.int .i64, .int .i64]] x) H.empty).bind fun p => rdRes false p.2 (.one (.leaf .bool)) (Res.un (.one (.leaf .bool)) p.1)) = spileref21_PlainP x := by
  intro x
  rw [show TT.lo false [.agg [.int .i64, .int .i64]] x = TT.un [.agg [.int .i64, .int .i64]] (x) from rfl, spileref21_Plain.eq]
  rfl
noncomputable def spileref21_PlainP.e : Entry := mkP [.agg [.int .i64, .int .i64]] (.one (.leaf .bool)) fun x => spileref21_PlainP x
theorem spileref21_PlainP.ok : EntryOK Try.prog 53 (spileref21_PlainP.e) := mkP_ok (spileref21_Plain.tbok) Try.mixed Try.func53 (by kernel_rfl) spileref21_PlainP.eq

/-! ### spile/spileref29.Of: function 22 -/
noncomputable def spileref29_Of.tb : Table := tab [(53, spileref21_PlainP.e), (54, spileref29_blendP.e)] [] Table.nil
theorem spileref29_Of.tbok : TabOK Try.prog (spileref29_Of.tb) := TabOK.tab (TabOK.nil Try.prog) (all_cons spileref21_PlainP.ok (all_cons spileref29_blendP.ok (all_nil _))) (all_nil _)
noncomputable def spileref29_Of.loop1 (h : H) (h1 : H) : (Int) × H → Option (Stp ((Int) × H) (Flow (Unit) ((Int × Int) × Int) × H)) := fun (y13, h14) =>
((rdT (.leaf .slice) h14 (.hp h.next 6 0)).bind fun x15 =>
(bif (decide (y13 < ((x15.len : Nat) : Int))) then ((((rdT (.leaf .slice) h14 (.hp h.next 6 0)).bind fun x16 =>
(guardO (0 ≤ y13 ∧ y13 < ((x16.len : Nat) : Int)) ((rdT (.agg [.int .i64, .int .i64]) h14 (V.add x16.a (Int.toNat y13 * 2))).bind fun (x17_0, x17_1) =>
((spileref21_PlainP (x17_0, x17_1)).bind fun r18 =>
(bif !(!r18) then ((rdT (.leaf .slice) h14 (.hp h.next 6 0)).bind fun x19 =>
(guardO (0 ≤ y13 ∧ y13 < ((x19.len : Nat) : Int)) (guardO (V.nn ((V.add x19.a (Int.toNat y13 * 2)) : V) = true) ((rdT (.leaf (.int .i64)) h14 (V.add (V.add x19.a (Int.toNat y13 * 2)) 1)).bind fun x20 =>
(some ((decide ((1000000000 : Int) < x20)), h14)))))) else (some (true, h14)))))))).bind fun (y21, h22) =>
(bif y21 then ((H.wrs h22 (.hp h1.next 2 0) [.int .i64 0, .int .i64 0]).bind fun h23 =>
((rdT (.agg [.int .i64, .int .i64]) h23 (.hp h1.next 2 0 : V)).bind fun (x24_0, x24_1) =>
(some (.done (.ret ((x24_0, x24_1), 1), h23))))) else (some (.more ((IntKind.wrap .i64 (y13 + 1)), h22))))) else (some (.done (.ex0 (), h14)))))
noncomputable def spileref29_Of.loop2 (h : H) (a1 : SV) (h1 : H) : (Int) × H → Option (Stp ((Int) × H) (Flow (Unit) ((Int × Int) × Int) × H)) := fun (y28, h29) =>
(bif (decide (y28 < ((a1.len : Nat) : Int))) then (((let h30 : H := H.reserve h29 0
(guardO (0 ≤ y28 ∧ y28 < ((a1.len : Nat) : Int)) ((rdT (.leaf (.int .i64)) h30 (V.add a1.a (Int.toNat y28 * 1))).bind fun x31 =>
(bif !(decide (x31 < 0)) then (guardO (0 ≤ y28 ∧ y28 < ((a1.len : Nat) : Int)) ((rdT (.leaf (.int .i64)) h30 (V.add a1.a (Int.toNat y28 * 1))).bind fun x32 =>
((rdT (.leaf .slice) h30 (.hp h.next 6 1)).bind fun x33 =>
(guardO (0 ≤ y28 ∧ y28 < ((x33.len : Nat) : Int)) ((rdT (.leaf (.int .i64)) h30 (V.add x33.a (Int.toNat y28 * 1))).bind fun x34 =>
(bif !(decide (x34 < x32)) then (guardO (0 ≤ y28 ∧ y28 < ((a1.len : Nat) : Int)) ((rdT (.leaf (.int .i64)) h30 (V.add a1.a (Int.toNat y28 * 1))).bind fun x35 =>
(some ((decide ((64 : Int) < x35)), h30)))) else (some (true, h30)))))))) else (some (true, h30))))))).bind fun (y36, h37) =>
(bif y36 then ((H.wrs h37 (.hp h1.next 2 0) [.int .i64 0, .int .i64 0]).bind fun h38 =>
((rdT (.agg [.int .i64, .int .i64]) h38 (.hp h1.next 2 0 : V)).bind fun (x39_0, x39_1) =>
(some (.done (.ret ((x39_0, x39_1), 2), h38))))) else (some (.more ((IntKind.wrap .i64 (y28 + 1)), h37))))) else (some (.done (.ex0 (), h29))))
noncomputable def spileref29_Of (a0 : (SV × SV × SV × Int × Int × Int)) (a1 : SV) (h : H) : Option (((Int × Int) × Int) × H) :=
(match a0 with
| (a0_0, a0_1, a0_2, a0_3, a0_4, a0_5) =>
(let h1 : H := H.new h [.slice a0_0.a a0_0.len a0_0.cap a0_0.tail, .slice a0_1.a a0_1.len a0_1.cap a0_1.tail, .slice a0_2.a a0_2.len a0_2.cap a0_2.tail, .int .i64 a0_3, .int .i64 a0_4, .int .i64 a0_5] 6
(let h2 : H := H.new h1 [.int .i64 0, .int .i64 0] 2
((rdT (.leaf .slice) h2 (.hp h.next 6 0)).bind fun x3 =>
(bif (decide ((4 : Int) < ((x3.len : Nat) : Int))) then ((H.wrs h2 (.hp h1.next 2 0) [.int .i64 0, .int .i64 0]).bind fun h4 =>
((rdT (.agg [.int .i64, .int .i64]) h4 (.hp h1.next 2 0 : V)).bind fun (x5_0, x5_1) =>
(some (((x5_0, x5_1), 8), h4)))) else ((((rdT (.leaf .slice) h2 (.hp h.next 6 1)).bind fun x6 =>
((rdT (.leaf .slice) h2 (.hp h.next 6 0)).bind fun x7 =>
(bif !(!(decide (((x6.len : Nat) : Int) = ((x7.len : Nat) : Int)))) then ((rdT (.leaf .slice) h2 (.hp h.next 6 0)).bind fun x8 =>
(some ((!(decide (((a1.len : Nat) : Int) = ((x8.len : Nat) : Int)))), h2))) else (some (true, h2)))))).bind fun (y9, h10) =>
(bif y9 then ((H.wrs h10 (.hp h1.next 2 0) [.int .i64 0, .int .i64 0]).bind fun h11 =>
((rdT (.agg [.int .i64, .int .i64]) h11 (.hp h1.next 2 0 : V)).bind fun (x12_0, x12_1) =>
(some (((x12_0, x12_1), 10), h11)))) else ((iter FUEL (spileref29_Of.loop1 h h1) (0, h10)).bind fun (fl26, h25) => match fl26 with
| .next _ => none
| .ret rr27 => (some (rr27, h25))
| .ex0 _ =>
((iter FUEL (spileref29_Of.loop2 h a1 h1) (0, h25)).bind fun (fl41, h40) => match fl41 with
| .next _ => none
| .ret rr42 => (some (rr42, h40))
| .ex0 _ =>
((rdT (.agg [.slice, .slice, .slice, .int .i64, .int .i64, .int .i64]) h40 (.hp h.next 6 0)).bind fun (x43_0, x43_1, x43_2, x43_3, x43_4, x43_5) =>
((rdRow true h40 [.int .i64, .int .i64] x43_0).bind fun s45 =>
((rdRow true h40 [.int .i64] x43_1).bind fun s46 =>
((rdRow true h40 [.int .i64] x43_2).bind fun s47 =>
((rdRow true h40 [.int .i64] a1).bind fun s48 =>
((spileref29_blendP (s45, s46, s47, x43_3, x43_4, x43_5) s48).bind fun (r44_0, r44_1) =>
(let h49 : H := H.new h40 [.int .i64 0, .int .i64 0] 2
((H.wrs h49 (.hp h40.next 2 0) [.int .i64 r44_0, .int .i64 r44_1]).bind fun h50 =>
((rdT (.agg [.int .i64, .int .i64]) h50 (.hp h40.next 2 0)).bind fun (x51_0, x51_1) =>
((spileref21_PlainP (x51_0, x51_1)).bind fun r52 =>
(bif (!r52) then ((H.wrs h50 (.hp h1.next 2 0) [.int .i64 0, .int .i64 0]).bind fun h53 =>
((rdT (.agg [.int .i64, .int .i64]) h53 (.hp h1.next 2 0 : V)).bind fun (x54_0, x54_1) =>
(some (((x54_0, x54_1), 15), h53)))) else ((rdT (.agg [.int .i64, .int .i64]) h50 (.hp h40.next 2 0)).bind fun (x55_0, x55_1) =>
((H.wrs h50 (.hp h1.next 2 0) [.int .i64 x55_0, .int .i64 x55_1]).bind fun h56 =>
((rdT (.agg [.int .i64, .int .i64]) h56 (.hp h1.next 2 0 : V)).bind fun (x57_0, x57_1) =>
(some (((x57_0, x57_1), 0), h56))))))))))))))))
| .ex1 _ => none)
| .ex1 _ => none))))))))
def spileref29_Of.A : Ann := { lits := [], conds := [], loops := [(6, [6], [.leaf (.int .i64)], [], [], some 0, none), (11, [7], [.leaf (.int .i64)], [], [], some 2, none)], regs := [(3, [28], [.leaf .bool]), (8, [52], [.leaf .bool]), (13, [83], [.leaf .bool])] }
theorem spileref29_Of.eq : ∀ (x : TT [.agg [.slice, .slice, .slice, .int .i64, .int .i64, .int .i64], .leaf .slice]) (h : H), evalFn Try.prog (spileref29_Of.tb) spileref29_Of.A Try.f22 (.many [.agg [.int .i64, .int .i64], .leaf (.int .i64)]) (TT.un [.agg [.slice, .slice, .slice, .int .i64, .int .i64, .int .i64], .leaf .slice] x) h = spileref29_Of x.1 x.2 h := by
  intro x h
  kernel_rfl
noncomputable def spileref29_Of.e : Entry := mkX [.agg [.slice, .slice, .slice, .int .i64, .int .i64, .int .i64], .leaf .slice] (.many [.agg [.int .i64, .int .i64], .leaf (.int .i64)]) fun x h => spileref29_Of x.1 x.2 h
theorem spileref29_Of.ok : EntryOK Try.prog 22 (spileref29_Of.e) := mkX_ok (spileref29_Of.tbok) Try.mixed Try.func22 (by kernel_rfl) (spileref29_Of.eq)
noncomputable def spileref29_OfP (a0 : ((List (Int × Int)) × (List (Int)) × (List (Int)) × Int × Int × Int)) (a1 : (List (Int))) : Option ((Int × Int) × Int) := (spileref29_Of (rowSV false [.int .i64, .int .i64] a0.1, rowSV false [.int .i64] a0.2.1, rowSV false [.int .i64] a0.2.2.1, a0.2.2.2.1, a0.2.2.2.2.1, a0.2.2.2.2.2) (rowSV false [.int .i64] a1) H.empty).bind fun p => rdRes false p.2 (.many [.agg [.int .i64, .int .i64], .leaf (.int .i64)]) (Res.un (.many [.agg [.int .i64, .int .i64], .leaf (.int .i64)]) p.1)
theorem spileref29_OfP.eq : ∀ x : TT [.agg [.row [.int .i64, .int .i64], .row [.int .i64], .row [.int .i64], .int .i64, .int .i64, .int .i64], .leaf (.row [.int .i64])], ((evalFn Try.prog (spileref29_Of.tb) spileref29_Of.A Try.f22 (.many [.agg [.int .i64, .int .i64], .leaf (.int .i64)]) (TT.lo false [.agg [.row [.int .i64, .int .i64], .row [.int .i64], .row [.int .i64], .int .i64, .int .i64, .int .i64], .leaf (.row [.int .i64])] x) H.empty).bind fun p => rdRes false p.2 (.many [.agg [.int .i64, .int .i64], .leaf (.int .i64)]) (Res.un (.many [.agg [.int .i64, .int .i64], .leaf (.int .i64)]) p.1)) = spileref29_OfP x.1 x.2 := by
  intro x
  rw [show TT.lo false [.agg [.row [.int .i64, .int .i64], .row [.int .i64], .row [.int .i64], .int .i64, .int .i64, .int .i64], .leaf (.row [.int .i64])] x = TT.un [.agg [.slice, .slice, .slice, .int .i64, .int .i64, .int .i64], .leaf .slice] ((rowSV false [.int .i64, .int .i64] x.1.1, rowSV false [.int .i64] x.1.2.1, rowSV false [.int .i64] x.1.2.2.1, x.1.2.2.2.1, x.1.2.2.2.2.1, x.1.2.2.2.2.2), (rowSV false [.int .i64] x.2)) from rfl, spileref29_Of.eq]
  rfl
noncomputable def spileref29_OfP.e : Entry := mkP [.agg [.row [.int .i64, .int .i64], .row [.int .i64], .row [.int .i64], .int .i64, .int .i64, .int .i64], .leaf (.row [.int .i64])] (.many [.agg [.int .i64, .int .i64], .leaf (.int .i64)]) fun x => spileref29_OfP x.1 x.2
theorem spileref29_OfP.ok : EntryOK Try.prog 22 (spileref29_OfP.e) := mkP_ok (spileref29_Of.tbok) Try.mixed Try.func22 (by kernel_rfl) spileref29_OfP.eq

/-! ### spile/blend.Keeps: function 23 -/
noncomputable def blend_Keeps.tb : Table := tab [(14, blend_CheckP.e), (49, blend_fewP.e), (55, blend_edgeP.e), (56, blend_ends_carriesP.e)] [] Table.nil
theorem blend_Keeps.tbok : TabOK Try.prog (blend_Keeps.tb) := TabOK.tab (TabOK.nil Try.prog) (all_cons blend_CheckP.ok (all_cons blend_fewP.ok (all_cons blend_edgeP.ok (all_cons blend_ends_carriesP.ok (all_nil _))))) (all_nil _)
noncomputable def blend_Keeps (a0 : SV) (a1 : (SV × SV × SV × Int × Int × Int)) (a2 : SV) (h : H) : Option ((Bool × Int) × H) :=
(match a1 with
| (a1_0, a1_1, a1_2, a1_3, a1_4, a1_5) =>
(let h1 : H := H.new h [.slice a1_0.a a1_0.len a1_0.cap a1_0.tail, .slice a1_1.a a1_1.len a1_1.cap a1_1.tail, .slice a1_2.a a1_2.len a1_2.cap a1_2.tail, .int .i64 a1_3, .int .i64 a1_4, .int .i64 a1_5] 6
((rdT (.agg [.slice, .slice, .slice, .int .i64, .int .i64, .int .i64]) h1 (.hp h.next 6 0)).bind fun (x2_0, x2_1, x2_2, x2_3, x2_4, x2_5) =>
((rdRow true h1 [.int .i64, .int .i64] a0).bind fun s4 =>
((rdRow true h1 [.int .i64, .int .i64] x2_0).bind fun s5 =>
((rdRow true h1 [.int .i64] x2_1).bind fun s6 =>
((rdRow true h1 [.int .i64] x2_2).bind fun s7 =>
((blend_CheckP s4 (s5, s6, s7, x2_3, x2_4, x2_5)).bind fun r3 =>
(bif (!(decide (r3 = 0))) then (some ((false, 1), h1)) else ((rdT (.leaf .slice) h1 (.hp h.next 6 0)).bind fun x8 =>
(bif (!(decide (((a2.len : Nat) : Int) = ((x8.len : Nat) : Int)))) then (some ((false, 10), h1)) else ((rdT (.agg [.slice, .slice, .slice, .int .i64, .int .i64, .int .i64]) h1 (.hp h.next 6 0)).bind fun (x9_0, x9_1, x9_2, x9_3, x9_4, x9_5) =>
((rdRow true h1 [.int .i64, .int .i64] x9_0).bind fun s11 =>
((rdRow true h1 [.int .i64] x9_1).bind fun s12 =>
((rdRow true h1 [.int .i64] x9_2).bind fun s13 =>
((rdRow true h1 [.int .i64] a2).bind fun s14 =>
((blend_fewP (s11, s12, s13, x9_3, x9_4, x9_5) s14).bind fun r10 =>
(bif (!r10) then (some ((false, 2), h1)) else (let h15 : H := H.reserve h1 0
((rdT (.agg [.slice, .slice, .slice, .int .i64, .int .i64, .int .i64]) h15 (.hp h.next 6 0)).bind fun (x16_0, x16_1, x16_2, x16_3, x16_4, x16_5) =>
((rdRow true h15 [.int .i64, .int .i64] a0).bind fun s18 =>
((rdRow true h15 [.int .i64, .int .i64] x16_0).bind fun s19 =>
((rdRow true h15 [.int .i64] x16_1).bind fun s20 =>
((rdRow true h15 [.int .i64] x16_2).bind fun s21 =>
((blend_edgeP s18 (s19, s20, s21, x16_3, x16_4, x16_5)).bind fun (r17_0, r17_1) =>
((rdT (.agg [.slice, .slice, .slice, .int .i64, .int .i64, .int .i64]) h15 (.hp h.next 6 0)).bind fun (x22_0, x22_1, x22_2, x22_3, x22_4, x22_5) =>
((rdRow true h15 [.int .i64, .int .i64] x22_0).bind fun s24 =>
((rdRow true h15 [.int .i64] x22_1).bind fun s25 =>
((rdRow true h15 [.int .i64] x22_2).bind fun s26 =>
((rdRow true h15 [.int .i64] a2).bind fun s27 =>
((blend_ends_carriesP (r17_0, r17_1) (s24, s25, s26, x22_3, x22_4, x22_5) s27).bind fun r23 =>
(some ((r23, 0), h15)))))))))))))))))))))))))))))))))
def blend_Keeps.A : Ann := { lits := [], conds := [], loops := [], regs := [] }
theorem blend_Keeps.eq : ∀ (x : TT [.leaf .slice, .agg [.slice, .slice, .slice, .int .i64, .int .i64, .int .i64], .leaf .slice]) (h : H), evalFn Try.prog (blend_Keeps.tb) blend_Keeps.A Try.f23 (.many [.leaf .bool, .leaf (.int .i64)]) (TT.un [.leaf .slice, .agg [.slice, .slice, .slice, .int .i64, .int .i64, .int .i64], .leaf .slice] x) h = blend_Keeps x.1 x.2.1 x.2.2 h := by
  intro x h
  kernel_rfl
noncomputable def blend_Keeps.e : Entry := mkX [.leaf .slice, .agg [.slice, .slice, .slice, .int .i64, .int .i64, .int .i64], .leaf .slice] (.many [.leaf .bool, .leaf (.int .i64)]) fun x h => blend_Keeps x.1 x.2.1 x.2.2 h
theorem blend_Keeps.ok : EntryOK Try.prog 23 (blend_Keeps.e) := mkX_ok (blend_Keeps.tbok) Try.mixed Try.func23 (by kernel_rfl) (blend_Keeps.eq)
noncomputable def blend_KeepsP (a0 : (List (Int × Int))) (a1 : ((List (Int × Int)) × (List (Int)) × (List (Int)) × Int × Int × Int)) (a2 : (List (Int))) : Option (Bool × Int) := (blend_Keeps (rowSV false [.int .i64, .int .i64] a0) (rowSV false [.int .i64, .int .i64] a1.1, rowSV false [.int .i64] a1.2.1, rowSV false [.int .i64] a1.2.2.1, a1.2.2.2.1, a1.2.2.2.2.1, a1.2.2.2.2.2) (rowSV false [.int .i64] a2) H.empty).bind fun p => rdRes false p.2 (.many [.leaf .bool, .leaf (.int .i64)]) (Res.un (.many [.leaf .bool, .leaf (.int .i64)]) p.1)
theorem blend_KeepsP.eq : ∀ x : TT [.leaf (.row [.int .i64, .int .i64]), .agg [.row [.int .i64, .int .i64], .row [.int .i64], .row [.int .i64], .int .i64, .int .i64, .int .i64], .leaf (.row [.int .i64])], ((evalFn Try.prog (blend_Keeps.tb) blend_Keeps.A Try.f23 (.many [.leaf .bool, .leaf (.int .i64)]) (TT.lo false [.leaf (.row [.int .i64, .int .i64]), .agg [.row [.int .i64, .int .i64], .row [.int .i64], .row [.int .i64], .int .i64, .int .i64, .int .i64], .leaf (.row [.int .i64])] x) H.empty).bind fun p => rdRes false p.2 (.many [.leaf .bool, .leaf (.int .i64)]) (Res.un (.many [.leaf .bool, .leaf (.int .i64)]) p.1)) = blend_KeepsP x.1 x.2.1 x.2.2 := by
  intro x
  rw [show TT.lo false [.leaf (.row [.int .i64, .int .i64]), .agg [.row [.int .i64, .int .i64], .row [.int .i64], .row [.int .i64], .int .i64, .int .i64, .int .i64], .leaf (.row [.int .i64])] x = TT.un [.leaf .slice, .agg [.slice, .slice, .slice, .int .i64, .int .i64, .int .i64], .leaf .slice] ((rowSV false [.int .i64, .int .i64] x.1), (rowSV false [.int .i64, .int .i64] x.2.1.1, rowSV false [.int .i64] x.2.1.2.1, rowSV false [.int .i64] x.2.1.2.2.1, x.2.1.2.2.2.1, x.2.1.2.2.2.2.1, x.2.1.2.2.2.2.2), (rowSV false [.int .i64] x.2.2)) from rfl, blend_Keeps.eq]
  rfl
noncomputable def blend_KeepsP.e : Entry := mkP [.leaf (.row [.int .i64, .int .i64]), .agg [.row [.int .i64, .int .i64], .row [.int .i64], .row [.int .i64], .int .i64, .int .i64, .int .i64], .leaf (.row [.int .i64])] (.many [.leaf .bool, .leaf (.int .i64)]) fun x => blend_KeepsP x.1 x.2.1 x.2.2
theorem blend_KeepsP.ok : EntryOK Try.prog 23 (blend_KeepsP.e) := mkP_ok (blend_Keeps.tbok) Try.mixed Try.func23 (by kernel_rfl) blend_KeepsP.eq

/-! ### spile/spileref29.Keeps: function 24 -/
noncomputable def spileref29_Keeps.tb : Table := tab [(25, spileref29_CheckP.e), (39, spileref29_keepsP.e)] [] Table.nil
theorem spileref29_Keeps.tbok : TabOK Try.prog (spileref29_Keeps.tb) := TabOK.tab (TabOK.nil Try.prog) (all_cons spileref29_CheckP.ok (all_cons spileref29_keepsP.ok (all_nil _))) (all_nil _)
noncomputable def spileref29_Keeps.loop1 (h : H) (a2 : SV) : (Int) × H → Option (Stp ((Int) × H) (Flow (Unit) (Bool × Int) × H)) := fun (y9, h10) =>
(bif (decide (y9 < ((a2.len : Nat) : Int))) then (((let h11 : H := H.reserve h10 0
(guardO (0 ≤ y9 ∧ y9 < ((a2.len : Nat) : Int)) ((rdT (.leaf (.int .i64)) h11 (V.add a2.a (Int.toNat y9 * 1))).bind fun x12 =>
(bif !(decide (x12 < 0)) then (guardO (0 ≤ y9 ∧ y9 < ((a2.len : Nat) : Int)) ((rdT (.leaf (.int .i64)) h11 (V.add a2.a (Int.toNat y9 * 1))).bind fun x13 =>
((rdT (.leaf .slice) h11 (.hp h.next 6 1)).bind fun x14 =>
(guardO (0 ≤ y9 ∧ y9 < ((x14.len : Nat) : Int)) ((rdT (.leaf (.int .i64)) h11 (V.add x14.a (Int.toNat y9 * 1))).bind fun x15 =>
(some ((decide (x15 < x13)), h11))))))) else (some (true, h11))))))).bind fun (y16, h17) =>
(bif y16 then (some (.done (.ret (false, 2), h17))) else (some (.more ((IntKind.wrap .i64 (y9 + 1)), h17))))) else (some (.done (.ex0 (), h10))))
noncomputable def spileref29_Keeps (a0 : SV) (a1 : (SV × SV × SV × Int × Int × Int)) (a2 : SV) (h : H) : Option ((Bool × Int) × H) :=
(match a1 with
| (a1_0, a1_1, a1_2, a1_3, a1_4, a1_5) =>
(let h1 : H := H.new h [.slice a1_0.a a1_0.len a1_0.cap a1_0.tail, .slice a1_1.a a1_1.len a1_1.cap a1_1.tail, .slice a1_2.a a1_2.len a1_2.cap a1_2.tail, .int .i64 a1_3, .int .i64 a1_4, .int .i64 a1_5] 6
((rdT (.agg [.slice, .slice, .slice, .int .i64, .int .i64, .int .i64]) h1 (.hp h.next 6 0)).bind fun (x2_0, x2_1, x2_2, x2_3, x2_4, x2_5) =>
((rdRow true h1 [.int .i64, .int .i64] a0).bind fun s4 =>
((rdRow true h1 [.int .i64, .int .i64] x2_0).bind fun s5 =>
((rdRow true h1 [.int .i64] x2_1).bind fun s6 =>
((rdRow true h1 [.int .i64] x2_2).bind fun s7 =>
((spileref29_CheckP s4 (s5, s6, s7, x2_3, x2_4, x2_5)).bind fun r3 =>
(bif (!(decide (r3 = 0))) then (some ((false, 1), h1)) else ((rdT (.leaf .slice) h1 (.hp h.next 6 0)).bind fun x8 =>
(bif (!(decide (((a2.len : Nat) : Int) = ((x8.len : Nat) : Int)))) then (some ((false, 10), h1)) else ((iter FUEL (spileref29_Keeps.loop1 h a2) (0, h1)).bind fun (fl19, h18) => match fl19 with
| .next _ => none
| .ret rr20 => (some (rr20, h18))
| .ex0 _ =>
((rdT (.agg [.slice, .slice, .slice, .int .i64, .int .i64, .int .i64]) h18 (.hp h.next 6 0)).bind fun (x21_0, x21_1, x21_2, x21_3, x21_4, x21_5) =>
((rdRow true h18 [.int .i64, .int .i64] a0).bind fun s23 =>
((rdRow true h18 [.int .i64, .int .i64] x21_0).bind fun s24 =>
((rdRow true h18 [.int .i64] x21_1).bind fun s25 =>
((rdRow true h18 [.int .i64] x21_2).bind fun s26 =>
((rdRow true h18 [.int .i64] a2).bind fun s27 =>
((spileref29_keepsP s23 (s24, s25, s26, x21_3, x21_4, x21_5) s27).bind fun r22 =>
(some ((r22, 0), h18)))))))))
| .ex1 _ => none))))))))))))
def spileref29_Keeps.A : Ann := { lits := [], conds := [], loops := [(6, [8], [.leaf (.int .i64)], [], [], some 0, none)], regs := [(8, [41], [.leaf .bool])] }
theorem spileref29_Keeps.eq : ∀ (x : TT [.leaf .slice, .agg [.slice, .slice, .slice, .int .i64, .int .i64, .int .i64], .leaf .slice]) (h : H), evalFn Try.prog (spileref29_Keeps.tb) spileref29_Keeps.A Try.f24 (.many [.leaf .bool, .leaf (.int .i64)]) (TT.un [.leaf .slice, .agg [.slice, .slice, .slice, .int .i64, .int .i64, .int .i64], .leaf .slice] x) h = spileref29_Keeps x.1 x.2.1 x.2.2 h := by
  intro x h
  kernel_rfl
noncomputable def spileref29_Keeps.e : Entry := mkX [.leaf .slice, .agg [.slice, .slice, .slice, .int .i64, .int .i64, .int .i64], .leaf .slice] (.many [.leaf .bool, .leaf (.int .i64)]) fun x h => spileref29_Keeps x.1 x.2.1 x.2.2 h
theorem spileref29_Keeps.ok : EntryOK Try.prog 24 (spileref29_Keeps.e) := mkX_ok (spileref29_Keeps.tbok) Try.mixed Try.func24 (by kernel_rfl) (spileref29_Keeps.eq)
noncomputable def spileref29_KeepsP (a0 : (List (Int × Int))) (a1 : ((List (Int × Int)) × (List (Int)) × (List (Int)) × Int × Int × Int)) (a2 : (List (Int))) : Option (Bool × Int) := (spileref29_Keeps (rowSV false [.int .i64, .int .i64] a0) (rowSV false [.int .i64, .int .i64] a1.1, rowSV false [.int .i64] a1.2.1, rowSV false [.int .i64] a1.2.2.1, a1.2.2.2.1, a1.2.2.2.2.1, a1.2.2.2.2.2) (rowSV false [.int .i64] a2) H.empty).bind fun p => rdRes false p.2 (.many [.leaf .bool, .leaf (.int .i64)]) (Res.un (.many [.leaf .bool, .leaf (.int .i64)]) p.1)
theorem spileref29_KeepsP.eq : ∀ x : TT [.leaf (.row [.int .i64, .int .i64]), .agg [.row [.int .i64, .int .i64], .row [.int .i64], .row [.int .i64], .int .i64, .int .i64, .int .i64], .leaf (.row [.int .i64])], ((evalFn Try.prog (spileref29_Keeps.tb) spileref29_Keeps.A Try.f24 (.many [.leaf .bool, .leaf (.int .i64)]) (TT.lo false [.leaf (.row [.int .i64, .int .i64]), .agg [.row [.int .i64, .int .i64], .row [.int .i64], .row [.int .i64], .int .i64, .int .i64, .int .i64], .leaf (.row [.int .i64])] x) H.empty).bind fun p => rdRes false p.2 (.many [.leaf .bool, .leaf (.int .i64)]) (Res.un (.many [.leaf .bool, .leaf (.int .i64)]) p.1)) = spileref29_KeepsP x.1 x.2.1 x.2.2 := by
  intro x
  rw [show TT.lo false [.leaf (.row [.int .i64, .int .i64]), .agg [.row [.int .i64, .int .i64], .row [.int .i64], .row [.int .i64], .int .i64, .int .i64, .int .i64], .leaf (.row [.int .i64])] x = TT.un [.leaf .slice, .agg [.slice, .slice, .slice, .int .i64, .int .i64, .int .i64], .leaf .slice] ((rowSV false [.int .i64, .int .i64] x.1), (rowSV false [.int .i64, .int .i64] x.2.1.1, rowSV false [.int .i64] x.2.1.2.1, rowSV false [.int .i64] x.2.1.2.2.1, x.2.1.2.2.2.1, x.2.1.2.2.2.2.1, x.2.1.2.2.2.2.2), (rowSV false [.int .i64] x.2.2)) from rfl, spileref29_Keeps.eq]
  rfl
noncomputable def spileref29_KeepsP.e : Entry := mkP [.leaf (.row [.int .i64, .int .i64]), .agg [.row [.int .i64, .int .i64], .row [.int .i64], .row [.int .i64], .int .i64, .int .i64, .int .i64], .leaf (.row [.int .i64])] (.many [.leaf .bool, .leaf (.int .i64)]) fun x => spileref29_KeepsP x.1 x.2.1 x.2.2
theorem spileref29_KeepsP.ok : EntryOK Try.prog 24 (spileref29_KeepsP.e) := mkP_ok (spileref29_Keeps.tbok) Try.mixed Try.func24 (by kernel_rfl) spileref29_KeepsP.eq

/-! ### spile/spilelaw29.BlendKeeps: function 5 -/
noncomputable def spilelaw29_BlendKeeps.tb : Table := tab [(9, spilelaw29_awakeP.e), (10, spileref16_FewP.e), (14, blend_CheckP.e), (21, blend_OfP.e), (22, spileref29_OfP.e), (23, blend_KeepsP.e), (24, spileref29_KeepsP.e), (25, spileref29_CheckP.e)] [] Table.nil
theorem spilelaw29_BlendKeeps.tbok : TabOK Try.prog (spilelaw29_BlendKeeps.tb) := TabOK.tab (TabOK.nil Try.prog) (all_cons spilelaw29_awakeP.ok (all_cons spileref16_FewP.ok (all_cons blend_CheckP.ok (all_cons blend_OfP.ok (all_cons spileref29_OfP.ok (all_cons blend_KeepsP.ok (all_cons spileref29_KeepsP.ok (all_cons spileref29_CheckP.ok (all_nil _))))))))) (all_nil _)
noncomputable def spilelaw29_BlendKeeps (a0 : SV) (a1 : (SV × SV × SV × Int × Int × Int)) (a2 : SV) (h : H) : Option ((Bool) × H) :=
(match a1 with
| (a1_0, a1_1, a1_2, a1_3, a1_4, a1_5) =>
(let h1 : H := H.new h [.slice a1_0.a a1_0.len a1_0.cap a1_0.tail, .slice a1_1.a a1_1.len a1_1.cap a1_1.tail, .slice a1_2.a a1_2.len a1_2.cap a1_2.tail, .int .i64 a1_3, .int .i64 a1_4, .int .i64 a1_5] 6
((spilelaw29_awakeP ).bind fun r2 =>
(bif (!r2) then (some (false, h1)) else ((((rdRow true h1 [.int .i64, .int .i64] a0).bind fun s4 =>
((spileref16_FewP s4).bind fun r3 =>
(bif !(!r3) then ((rdT (.leaf .slice) h1 (.hp h.next 6 0)).bind fun x5 =>
(bif !(decide ((8 : Int) < ((x5.len : Nat) : Int))) then ((rdT (.leaf .slice) h1 (.hp h.next 6 1)).bind fun x6 =>
(bif !(decide ((8 : Int) < ((x6.len : Nat) : Int))) then ((rdT (.leaf .slice) h1 (.hp h.next 6 2)).bind fun x7 =>
(bif !(decide ((8 : Int) < ((x7.len : Nat) : Int))) then (some ((decide ((8 : Int) < ((a2.len : Nat) : Int))), h1)) else (some (true, h1)))) else (some (true, h1)))) else (some (true, h1)))) else (some (true, h1)))))).bind fun (y8, h9) =>
(bif y8 then (some (true, h9)) else ((rdT (.agg [.slice, .slice, .slice, .int .i64, .int .i64, .int .i64]) h9 (.hp h.next 6 0)).bind fun (x10_0, x10_1, x10_2, x10_3, x10_4, x10_5) =>
((rdRow true h9 [.int .i64, .int .i64] x10_0).bind fun s13 =>
((rdRow true h9 [.int .i64] x10_1).bind fun s14 =>
((rdRow true h9 [.int .i64] x10_2).bind fun s15 =>
((rdRow true h9 [.int .i64] a2).bind fun s16 =>
((blend_OfP (s13, s14, s15, x10_3, x10_4, x10_5) s16).bind fun ((r11_0, r11_1), r12) =>
(let h17 : H := H.new h9 [.int .i64 0, .int .i64 0] 2
((H.wrs h17 (.hp h9.next 2 0) [.int .i64 r11_0, .int .i64 r11_1]).bind fun h18 =>
((rdT (.agg [.slice, .slice, .slice, .int .i64, .int .i64, .int .i64]) h18 (.hp h.next 6 0)).bind fun (x19_0, x19_1, x19_2, x19_3, x19_4, x19_5) =>
((rdRow true h18 [.int .i64, .int .i64] x19_0).bind fun s22 =>
((rdRow true h18 [.int .i64] x19_1).bind fun s23 =>
((rdRow true h18 [.int .i64] x19_2).bind fun s24 =>
((rdRow true h18 [.int .i64] a2).bind fun s25 =>
((spileref29_OfP (s22, s23, s24, x19_3, x19_4, x19_5) s25).bind fun ((r20_0, r20_1), r21) =>
(let h26 : H := H.new h18 [.int .i64 0, .int .i64 0] 2
((H.wrs h26 (.hp h18.next 2 0) [.int .i64 r20_0, .int .i64 r20_1]).bind fun h27 =>
((rdT (.agg [.slice, .slice, .slice, .int .i64, .int .i64, .int .i64]) h27 (.hp h.next 6 0)).bind fun (x28_0, x28_1, x28_2, x28_3, x28_4, x28_5) =>
((rdRow true h27 [.int .i64, .int .i64] a0).bind fun s31 =>
((rdRow true h27 [.int .i64, .int .i64] x28_0).bind fun s32 =>
((rdRow true h27 [.int .i64] x28_1).bind fun s33 =>
((rdRow true h27 [.int .i64] x28_2).bind fun s34 =>
((rdRow true h27 [.int .i64] a2).bind fun s35 =>
((blend_KeepsP s31 (s32, s33, s34, x28_3, x28_4, x28_5) s35).bind fun (r29, r30) =>
((rdT (.agg [.slice, .slice, .slice, .int .i64, .int .i64, .int .i64]) h27 (.hp h.next 6 0)).bind fun (x36_0, x36_1, x36_2, x36_3, x36_4, x36_5) =>
((rdRow true h27 [.int .i64, .int .i64] a0).bind fun s39 =>
((rdRow true h27 [.int .i64, .int .i64] x36_0).bind fun s40 =>
((rdRow true h27 [.int .i64] x36_1).bind fun s41 =>
((rdRow true h27 [.int .i64] x36_2).bind fun s42 =>
((rdRow true h27 [.int .i64] a2).bind fun s43 =>
((spileref29_KeepsP s39 (s40, s41, s42, x36_3, x36_4, x36_5) s43).bind fun (r37, r38) =>
(((let h44 : H := H.reserve h27 0
((rdT (.agg [.slice, .slice, .slice, .int .i64, .int .i64, .int .i64]) h44 (.hp h.next 6 0)).bind fun (x45_0, x45_1, x45_2, x45_3, x45_4, x45_5) =>
((rdRow true h44 [.int .i64, .int .i64] a0).bind fun s47 =>
((rdRow true h44 [.int .i64, .int .i64] x45_0).bind fun s48 =>
((rdRow true h44 [.int .i64] x45_1).bind fun s49 =>
((rdRow true h44 [.int .i64] x45_2).bind fun s50 =>
((blend_CheckP s47 (s48, s49, s50, x45_3, x45_4, x45_5)).bind fun r46 =>
((rdT (.agg [.slice, .slice, .slice, .int .i64, .int .i64, .int .i64]) h44 (.hp h.next 6 0)).bind fun (x51_0, x51_1, x51_2, x51_3, x51_4, x51_5) =>
((rdRow true h44 [.int .i64, .int .i64] a0).bind fun s53 =>
((rdRow true h44 [.int .i64, .int .i64] x51_0).bind fun s54 =>
((rdRow true h44 [.int .i64] x51_1).bind fun s55 =>
((rdRow true h44 [.int .i64] x51_2).bind fun s56 =>
((spileref29_CheckP s53 (s54, s55, s56, x51_3, x51_4, x51_5)).bind fun r52 =>
(bif (decide (r46 = r52)) then ((rdT (.agg [.int .i64, .int .i64]) h44 (.hp h9.next 2 0)).bind fun (x57_0, x57_1) =>
((rdT (.agg [.int .i64, .int .i64]) h44 (.hp h18.next 2 0)).bind fun (x58_0, x58_1) =>
(bif (decide (x57_0 = x58_0) && (decide (x57_1 = x58_1))) then (bif (decide (r12 = r21)) then (bif (r29 == r37) then (some ((decide (r30 = r38)), h44)) else (some (false, h44))) else (some (false, h44))) else (some (false, h44))))) else (some (false, h44))))))))))))))))).bind fun (y59, h60) =>
(some (y59, h60)))))))))))))))))))))))))))))))))))))))
def spilelaw29_BlendKeeps.A : Ann := { lits := [], conds := [], loops := [], regs := [(3, [42], [.leaf .bool]), (9, [6], [.leaf .bool])] }
theorem spilelaw29_BlendKeeps.eq : ∀ (x : TT [.leaf .slice, .agg [.slice, .slice, .slice, .int .i64, .int .i64, .int .i64], .leaf .slice]) (h : H), evalFn Try.prog (spilelaw29_BlendKeeps.tb) spilelaw29_BlendKeeps.A Try.f5 (.one (.leaf .bool)) (TT.un [.leaf .slice, .agg [.slice, .slice, .slice, .int .i64, .int .i64, .int .i64], .leaf .slice] x) h = spilelaw29_BlendKeeps x.1 x.2.1 x.2.2 h := by
  intro x h
  kernel_rfl
noncomputable def spilelaw29_BlendKeeps.e : Entry := mkX [.leaf .slice, .agg [.slice, .slice, .slice, .int .i64, .int .i64, .int .i64], .leaf .slice] (.one (.leaf .bool)) fun x h => spilelaw29_BlendKeeps x.1 x.2.1 x.2.2 h
theorem spilelaw29_BlendKeeps.ok : EntryOK Try.prog 5 (spilelaw29_BlendKeeps.e) := mkX_ok (spilelaw29_BlendKeeps.tbok) Try.mixed Try.func5 (by kernel_rfl) (spilelaw29_BlendKeeps.eq)
noncomputable def spilelaw29_BlendKeepsP (a0 : (List (Int × Int))) (a1 : ((List (Int × Int)) × (List (Int)) × (List (Int)) × Int × Int × Int)) (a2 : (List (Int))) : Option (Bool) := (spilelaw29_BlendKeeps (rowSV false [.int .i64, .int .i64] a0) (rowSV false [.int .i64, .int .i64] a1.1, rowSV false [.int .i64] a1.2.1, rowSV false [.int .i64] a1.2.2.1, a1.2.2.2.1, a1.2.2.2.2.1, a1.2.2.2.2.2) (rowSV false [.int .i64] a2) H.empty).bind fun p => rdRes false p.2 (.one (.leaf .bool)) (Res.un (.one (.leaf .bool)) p.1)
theorem spilelaw29_BlendKeepsP.eq : ∀ x : TT [.leaf (.row [.int .i64, .int .i64]), .agg [.row [.int .i64, .int .i64], .row [.int .i64], .row [.int .i64], .int .i64, .int .i64, .int .i64], .leaf (.row [.int .i64])], ((evalFn Try.prog (spilelaw29_BlendKeeps.tb) spilelaw29_BlendKeeps.A Try.f5 (.one (.leaf .bool)) (TT.lo false [.leaf (.row [.int .i64, .int .i64]), .agg [.row [.int .i64, .int .i64], .row [.int .i64], .row [.int .i64], .int .i64, .int .i64, .int .i64], .leaf (.row [.int .i64])] x) H.empty).bind fun p => rdRes false p.2 (.one (.leaf .bool)) (Res.un (.one (.leaf .bool)) p.1)) = spilelaw29_BlendKeepsP x.1 x.2.1 x.2.2 := by
  intro x
  rw [show TT.lo false [.leaf (.row [.int .i64, .int .i64]), .agg [.row [.int .i64, .int .i64], .row [.int .i64], .row [.int .i64], .int .i64, .int .i64, .int .i64], .leaf (.row [.int .i64])] x = TT.un [.leaf .slice, .agg [.slice, .slice, .slice, .int .i64, .int .i64, .int .i64], .leaf .slice] ((rowSV false [.int .i64, .int .i64] x.1), (rowSV false [.int .i64, .int .i64] x.2.1.1, rowSV false [.int .i64] x.2.1.2.1, rowSV false [.int .i64] x.2.1.2.2.1, x.2.1.2.2.2.1, x.2.1.2.2.2.2.1, x.2.1.2.2.2.2.2), (rowSV false [.int .i64] x.2.2)) from rfl, spilelaw29_BlendKeeps.eq]
  rfl
noncomputable def spilelaw29_BlendKeepsP.e : Entry := mkP [.leaf (.row [.int .i64, .int .i64]), .agg [.row [.int .i64, .int .i64], .row [.int .i64], .row [.int .i64], .int .i64, .int .i64, .int .i64], .leaf (.row [.int .i64])] (.one (.leaf .bool)) fun x => spilelaw29_BlendKeepsP x.1 x.2.1 x.2.2
theorem spilelaw29_BlendKeepsP.ok : EntryOK Try.prog 5 (spilelaw29_BlendKeepsP.e) := mkP_ok (spilelaw29_BlendKeeps.tbok) Try.mixed Try.func5 (by kernel_rfl) spilelaw29_BlendKeepsP.eq

/-! ### spile/mix.mixture$1: function 82 -/
noncomputable def mix_mixture_1.tb : Table := tab [(64, alcohol_CheckP.e)] [] Table.nil
theorem mix_mixture_1.tbok : TabOK Try.prog (mix_mixture_1.tb) := TabOK.tab (TabOK.nil Try.prog) (all_cons alcohol_CheckP.ok (all_nil _)) (all_nil _)
noncomputable def mix_mixture_1 (a0 : (Int × Int)) (a1 : V) (h : H) : Option ((Bool) × H) :=
(match a0 with
| (a0_0, a0_1) =>
(let h1 : H := H.new h [.int .i64 a0_0, .int .i64 a0_1] 2
((rdT (.leaf .slice) h1 a1).bind fun x2 =>
((rdT (.agg [.int .i64, .int .i64]) h1 (.hp h.next 2 0)).bind fun (x3_0, x3_1) =>
((rdRow true h1 [.int .i64, .int .i64] x2).bind fun s5 =>
((alcohol_CheckP s5 (x3_0, x3_1)).bind fun r4 =>
(some ((!(decide (r4 = 0))), h1))))))))
def mix_mixture_1.A : Ann := { lits := [], conds := [], loops := [], regs := [] }
theorem mix_mixture_1.eq : ∀ (x : TT [.agg [.int .i64, .int .i64], .leaf .ptr]) (h : H), evalFn Try.prog (mix_mixture_1.tb) mix_mixture_1.A Try.f82 (.one (.leaf .bool)) (TT.un [.agg [.int .i64, .int .i64], .leaf .ptr] x) h = mix_mixture_1 x.1 x.2 h := by
  intro x h
  kernel_rfl
noncomputable def mix_mixture_1.e : Entry := mkX [.agg [.int .i64, .int .i64], .leaf .ptr] (.one (.leaf .bool)) fun x h => mix_mixture_1 x.1 x.2 h
theorem mix_mixture_1.ok : EntryOK Try.prog 82 (mix_mixture_1.e) := mkX_ok (mix_mixture_1.tbok) Try.mixed Try.func82 (by kernel_rfl) (mix_mixture_1.eq)

/-! ### spile/mix.mixture: function 63 -/
noncomputable def mix_mixture.tb : Table := tab [(26, mix_SumP.e), (36, density_CheckP.e)] [(82, mix_mixture_1.e)] Table.nil
theorem mix_mixture.tbok : TabOK Try.prog (mix_mixture.tb) := TabOK.tab (TabOK.nil Try.prog) (all_cons mix_SumP.ok (all_cons density_CheckP.ok (all_nil _))) (all_cons mix_mixture_1.ok (all_nil _))
noncomputable def mix_mixture (a0 : SV) (a1 : SV) (h : H) : Option (((Int × Int) × Int) × H) :=
(let h1 : H := H.new h [.slice a0.a a0.len a0.cap a0.tail] 1
(let h2 : H := H.new h1 [.int .i64 0, .int .i64 0] 2
((rdT (.leaf .slice) h2 (.hp h.next 1 0)).bind fun x3 =>
((rdRow true h2 [.int .i64, .int .i64] x3).bind fun s6 =>
((density_CheckP s6).bind fun (r4, r5) =>
(bif (decide ((8 : Int) < ((a1.len : Nat) : Int))) then ((H.wrs h2 (.hp h1.next 2 0) [.int .i64 0, .int .i64 0]).bind fun h7 =>
((rdT (.agg [.int .i64, .int .i64]) h7 (.hp h1.next 2 0 : V)).bind fun (x8_0, x8_1) =>
(some (((x8_0, x8_1), 8), h7)))) else (((bif !(!(decide (r5 = 0))) then ((slices_ContainsFunc_api_Liquid_api_Liquid mix_mixture.tb a1 (.func 82 [.hp h.next 1 0] : V) h2).bind fun (r9, h10) =>
(some (r9, h10))) else (some (true, h2)))).bind fun (y11, h12) =>
(bif y11 then ((H.wrs h12 (.hp h1.next 2 0) [.int .i64 0, .int .i64 0]).bind fun h13 =>
((rdT (.agg [.int .i64, .int .i64]) h13 (.hp h1.next 2 0 : V)).bind fun (x14_0, x14_1) =>
(some (((x14_0, x14_1), 1), h13)))) else ((rdRow true h12 [.int .i64, .int .i64] a1).bind fun s17 =>
((mix_SumP s17).bind fun ((r15_0, r15_1), r16) =>
((H.wrs h12 (.hp h1.next 2 0) [.int .i64 r15_0, .int .i64 r15_1]).bind fun h18 =>
((rdT (.agg [.int .i64, .int .i64]) h18 (.hp h1.next 2 0 : V)).bind fun (x19_0, x19_1) =>
(some (((x19_0, x19_1), r16), h18))))))))))))))
def mix_mixture.A : Ann := { lits := [], conds := [], loops := [], regs := [(4, [18], [.leaf .bool])] }
noncomputable def mix_mixture.tc : Table := tab [(46, slices_ContainsFunc_api_Liquid_api_Liquid.e (mix_mixture.tb))] [] (mix_mixture.tb)
theorem mix_mixture.tcok : TabOK Try.prog (mix_mixture.tc) := TabOK.tab (mix_mixture.tbok) (all_cons (slices_ContainsFunc_api_Liquid_api_Liquid.ok _ (mix_mixture.tbok)) (all_nil _)) (all_nil _)
theorem mix_mixture.eq : ∀ (x : TT [.leaf .slice, .leaf .slice]) (h : H), evalFn Try.prog (mix_mixture.tc) mix_mixture.A Try.f63 (.many [.agg [.int .i64, .int .i64], .leaf (.int .i64)]) (TT.un [.leaf .slice, .leaf .slice] x) h = mix_mixture x.1 x.2 h := by
  intro x h
  kernel_rfl
noncomputable def mix_mixture.e : Entry := mkX [.leaf .slice, .leaf .slice] (.many [.agg [.int .i64, .int .i64], .leaf (.int .i64)]) fun x h => mix_mixture x.1 x.2 h
theorem mix_mixture.ok : EntryOK Try.prog 63 (mix_mixture.e) := mkX_ok (mix_mixture.tcok) Try.mixed Try.func63 (by kernel_rfl) (mix_mixture.eq)
noncomputable def mix_mixtureP (a0 : (List (Int × Int))) (a1 : (List (Int × Int))) : Option ((Int × Int) × Int) := (mix_mixture (rowSV false [.int .i64, .int .i64] a0) (rowSV false [.int .i64, .int .i64] a1) H.empty).bind fun p => rdRes false p.2 (.many [.agg [.int .i64, .int .i64], .leaf (.int .i64)]) (Res.un (.many [.agg [.int .i64, .int .i64], .leaf (.int .i64)]) p.1)
theorem mix_mixtureP.eq : ∀ x : TT [.leaf (.row [.int .i64, .int .i64]), .leaf (.row [.int .i64, .int .i64])], ((evalFn Try.prog (mix_mixture.tc) mix_mixture.A Try.f63 (.many [.agg [.int .i64, .int .i64], .leaf (.int .i64)]) (TT.lo false [.leaf (.row [.int .i64, .int .i64]), .leaf (.row [.int .i64, .int .i64])] x) H.empty).bind fun p => rdRes false p.2 (.many [.agg [.int .i64, .int .i64], .leaf (.int .i64)]) (Res.un (.many [.agg [.int .i64, .int .i64], .leaf (.int .i64)]) p.1)) = mix_mixtureP x.1 x.2 := by
  intro x
  rw [show TT.lo false [.leaf (.row [.int .i64, .int .i64]), .leaf (.row [.int .i64, .int .i64])] x = TT.un [.leaf .slice, .leaf .slice] ((rowSV false [.int .i64, .int .i64] x.1), (rowSV false [.int .i64, .int .i64] x.2)) from rfl, mix_mixture.eq]
  rfl
noncomputable def mix_mixtureP.e : Entry := mkP [.leaf (.row [.int .i64, .int .i64]), .leaf (.row [.int .i64, .int .i64])] (.many [.agg [.int .i64, .int .i64], .leaf (.int .i64)]) fun x => mix_mixtureP x.1 x.2
theorem mix_mixtureP.ok : EntryOK Try.prog 63 (mix_mixtureP.e) := mkP_ok (mix_mixture.tcok) Try.mixed Try.func63 (by kernel_rfl) mix_mixtureP.eq

/-! ### spile/mix.Between: function 27 -/
noncomputable def mix_Between.tb : Table := tab [(28, alcohol_StrengthP.e), (63, mix_mixtureP.e)] [] Table.nil
theorem mix_Between.tbok : TabOK Try.prog (mix_Between.tb) := TabOK.tab (TabOK.nil Try.prog) (all_cons alcohol_StrengthP.ok (all_cons mix_mixtureP.ok (all_nil _))) (all_nil _)
noncomputable def mix_Between.loop1 (a0 : SV) (a1 : SV) (h7 : H) : (Int) × H → Option (Stp ((Int) × H) (Flow (Unit) ((Int × Int) × Int × Int) × H)) := fun (y15, h16) =>
(bif (decide (y15 < ((a1.len : Nat) : Int))) then (guardO (0 ≤ y15 ∧ y15 < ((a1.len : Nat) : Int)) ((rdT (.agg [.int .i64, .int .i64]) h16 (V.add a1.a (Int.toNat y15 * 2))).bind fun (x17_0, x17_1) =>
(let h18 : H := H.new h16 [.int .i64 0, .int .i64 0] 2
((H.wrs h18 (.hp h16.next 2 0) [.int .i64 x17_0, .int .i64 x17_1]).bind fun h19 =>
((rdT (.leaf (.int .i64)) h19 (.hp h16.next 2 1)).bind fun x20 =>
(bif (decide (x20 = 0)) then (some (.more ((IntKind.wrap .i64 (y15 + 1)), h19))) else ((rdT (.agg [.int .i64, .int .i64]) h19 (.hp h16.next 2 0)).bind fun (x21_0, x21_1) =>
((rdRow true h19 [.int .i64, .int .i64] a0).bind fun s24 =>
((alcohol_StrengthP s24 (x21_0, x21_1)).bind fun (r22, r23) =>
((rdT (.leaf (.int .i64)) h19 (.hp h7.next 2 0)).bind fun x25 =>
((rdT (.leaf (.int .i64)) h19 (.hp h7.next 2 1)).bind fun x26 =>
((H.wrs h19 (.hp h7.next 2 0) [.int .i64 (minI r22 x25)]).bind fun h27 =>
((H.wrs h27 (.hp h7.next 2 1) [.int .i64 (maxI r22 x26)]).bind fun h28 =>
(some (.more ((IntKind.wrap .i64 (y15 + 1)), h28)))))))))))))))) else (some (.done (.ex0 (), h16))))
noncomputable def mix_Between (a0 : SV) (a1 : SV) (h : H) : Option (((Int × Int) × Int × Int) × H) :=
(let h1 : H := H.new h [.int .i64 0, .int .i64 0] 2
((rdRow true h1 [.int .i64, .int .i64] a0).bind fun s4 =>
((rdRow true h1 [.int .i64, .int .i64] a1).bind fun s5 =>
((mix_mixtureP s4 s5).bind fun ((r2_0, r2_1), r3) =>
(let h6 : H := H.new h1 [.int .i64 0, .int .i64 0] 2
((H.wrs h6 (.hp h1.next 2 0) [.int .i64 r2_0, .int .i64 r2_1]).bind fun h7 =>
(bif (!(decide (r3 = 0))) then ((H.wrs h7 (.hp h.next 2 0) [.int .i64 0, .int .i64 0]).bind fun h8 =>
((rdT (.agg [.int .i64, .int .i64]) h8 (.hp h.next 2 0 : V)).bind fun (x9_0, x9_1) =>
(some (((x9_0, x9_1), 0, r3), h8)))) else ((rdT (.leaf (.int .i64)) h7 (.hp h1.next 2 1)).bind fun x10 =>
(bif (decide (x10 = 0)) then ((H.wrs h7 (.hp h.next 2 0) [.int .i64 0, .int .i64 0]).bind fun h11 =>
((rdT (.agg [.int .i64, .int .i64]) h11 (.hp h.next 2 0 : V)).bind fun (x12_0, x12_1) =>
(some (((x12_0, x12_1), 0, 9), h11)))) else (let h13 : H := H.new h7 [.int .i64 0, .int .i64 0] 2
((H.wrs h13 (.hp h7.next 2 0) [.int .i64 10000, .int .i64 0]).bind fun h14 =>
((iter FUEL (mix_Between.loop1 a0 a1 h7) (0, h14)).bind fun (fl30, h29) => match fl30 with
| .next _ => none
| .ret rr31 => (some (rr31, h29))
| .ex0 _ =>
((rdT (.agg [.int .i64, .int .i64]) h29 (.hp h1.next 2 0)).bind fun (x32_0, x32_1) =>
((rdRow true h29 [.int .i64, .int .i64] a0).bind fun s35 =>
((alcohol_StrengthP s35 (x32_0, x32_1)).bind fun (r33, r34) =>
((rdT (.agg [.int .i64, .int .i64]) h29 (.hp h7.next 2 0)).bind fun (x36_0, x36_1) =>
((H.wrs h29 (.hp h.next 2 0) [.int .i64 x36_0, .int .i64 x36_1]).bind fun h37 =>
((rdT (.agg [.int .i64, .int .i64]) h37 (.hp h.next 2 0 : V)).bind fun (x38_0, x38_1) =>
(some (((x38_0, x38_1), r33, 0), h37))))))))
| .ex1 _ => none))))))))))))
def mix_Between.A : Ann := { lits := [], conds := [], loops := [(8, [35], [.leaf (.int .i64)], [], [], some 1, none)], regs := [] }
theorem mix_Between.eq : ∀ (x : TT [.leaf .slice, .leaf .slice]) (h : H), evalFn Try.prog (mix_Between.tb) mix_Between.A Try.f27 (.many [.agg [.int .i64, .int .i64], .leaf (.int .i64), .leaf (.int .i64)]) (TT.un [.leaf .slice, .leaf .slice] x) h = mix_Between x.1 x.2 h := by
  intro x h
  kernel_rfl
noncomputable def mix_Between.e : Entry := mkX [.leaf .slice, .leaf .slice] (.many [.agg [.int .i64, .int .i64], .leaf (.int .i64), .leaf (.int .i64)]) fun x h => mix_Between x.1 x.2 h
theorem mix_Between.ok : EntryOK Try.prog 27 (mix_Between.e) := mkX_ok (mix_Between.tbok) Try.mixed Try.func27 (by kernel_rfl) (mix_Between.eq)
noncomputable def mix_BetweenP (a0 : (List (Int × Int))) (a1 : (List (Int × Int))) : Option ((Int × Int) × Int × Int) := (mix_Between (rowSV false [.int .i64, .int .i64] a0) (rowSV false [.int .i64, .int .i64] a1) H.empty).bind fun p => rdRes false p.2 (.many [.agg [.int .i64, .int .i64], .leaf (.int .i64), .leaf (.int .i64)]) (Res.un (.many [.agg [.int .i64, .int .i64], .leaf (.int .i64), .leaf (.int .i64)]) p.1)
theorem mix_BetweenP.eq : ∀ x : TT [.leaf (.row [.int .i64, .int .i64]), .leaf (.row [.int .i64, .int .i64])], ((evalFn Try.prog (mix_Between.tb) mix_Between.A Try.f27 (.many [.agg [.int .i64, .int .i64], .leaf (.int .i64), .leaf (.int .i64)]) (TT.lo false [.leaf (.row [.int .i64, .int .i64]), .leaf (.row [.int .i64, .int .i64])] x) H.empty).bind fun p => rdRes false p.2 (.many [.agg [.int .i64, .int .i64], .leaf (.int .i64), .leaf (.int .i64)]) (Res.un (.many [.agg [.int .i64, .int .i64], .leaf (.int .i64), .leaf (.int .i64)]) p.1)) = mix_BetweenP x.1 x.2 := by
  intro x
  rw [show TT.lo false [.leaf (.row [.int .i64, .int .i64]), .leaf (.row [.int .i64, .int .i64])] x = TT.un [.leaf .slice, .leaf .slice] ((rowSV false [.int .i64, .int .i64] x.1), (rowSV false [.int .i64, .int .i64] x.2)) from rfl, mix_Between.eq]
  rfl
noncomputable def mix_BetweenP.e : Entry := mkP [.leaf (.row [.int .i64, .int .i64]), .leaf (.row [.int .i64, .int .i64])] (.many [.agg [.int .i64, .int .i64], .leaf (.int .i64), .leaf (.int .i64)]) fun x => mix_BetweenP x.1 x.2
theorem mix_BetweenP.ok : EntryOK Try.prog 27 (mix_BetweenP.e) := mkP_ok (mix_Between.tbok) Try.mixed Try.func27 (by kernel_rfl) mix_BetweenP.eq
end Go.Proofs.Ytfkabibbaajfhaa
