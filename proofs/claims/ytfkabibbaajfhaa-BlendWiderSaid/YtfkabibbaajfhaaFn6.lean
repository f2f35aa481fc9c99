/- The functions of the program as Lean functions, each with the equation by which the evaluator is that function. Written by a program of this session (evdrive.py). Conditions: none. -/
import Derived.Test.YtfkabibbaajfhaaProg
import Derived.Test.YtfkabibbaajfhaaEvSpec
import Derived.Test.YtfkabibbaajfhaaFn5
namespace Go.Proofs.Ytfkabibbaajfhaa
open Go Go.Proofs.Ytfkabibbaajfhaa.Ev
set_option maxRecDepth 100000
set_option linter.unusedVariables false
/-! ### spile/spilelaw29.BlendWider: function 3 -/
noncomputable def spilelaw29_BlendWider.tb : Table := tab [(9, spilelaw29_awakeP.e), (10, spileref16_FewP.e), (11, spileref29_FewP.e), (12, blend_BestP.e), (13, slices_Clone_int_int.e), (14, blend_CheckP.e)] [] Table.nil
theorem spilelaw29_BlendWider.tbok : TabOK Try.prog (spilelaw29_BlendWider.tb) := TabOK.tab (TabOK.nil Try.prog) (all_cons spilelaw29_awakeP.ok (all_cons spileref16_FewP.ok (all_cons spileref29_FewP.ok (all_cons blend_BestP.ok (all_cons slices_Clone_int_int.ok (all_cons blend_CheckP.ok (all_nil _))))))) (all_nil _)
noncomputable def spilelaw29_BlendWider (a0 : SV) (a1 : (SV × SV × SV × Int × Int × Int)) (a2 : Int) (a3 : Int) (h : H) : Option ((Bool) × H) :=
(match a1 with
| (a1_0, a1_1, a1_2, a1_3, a1_4, a1_5) =>
(let h1 : H := H.new h [.slice a1_0.a a1_0.len a1_0.cap a1_0.tail, .slice a1_1.a a1_1.len a1_1.cap a1_1.tail, .slice a1_2.a a1_2.len a1_2.cap a1_2.tail, .int .i64 a1_3, .int .i64 a1_4, .int .i64 a1_5] 6
((spilelaw29_awakeP ).bind fun r2 =>
(bif (!r2) then (some (false, h1)) else ((((rdRow true h1 [.int .i64, .int .i64] a0).bind fun s4 =>
((spileref16_FewP s4).bind fun r3 =>
(bif !(!r3) then ((rdT (.agg [.slice, .slice, .slice, .int .i64, .int .i64, .int .i64]) h1 (.hp h.next 6 0)).bind fun (x5_0, x5_1, x5_2, x5_3, x5_4, x5_5) =>
((rdRow true h1 [.int .i64, .int .i64] x5_0).bind fun s7 =>
((rdRow true h1 [.int .i64] x5_1).bind fun s8 =>
((rdRow true h1 [.int .i64] x5_2).bind fun s9 =>
((spileref29_FewP (s7, s8, s9, x5_3, x5_4, x5_5)).bind fun r6 =>
(bif !(!r6) then ((rdT (.leaf .slice) h1 (.hp h.next 6 1)).bind fun x10 =>
(some ((decide (((x10.len : Nat) : Int) = 0)), h1))) else (some (true, h1)))))))) else (some (true, h1)))))).bind fun (y11, h12) =>
(bif y11 then (some (true, h12)) else ((rdT (.agg [.slice, .slice, .slice, .int .i64, .int .i64, .int .i64]) h12 (.hp h.next 6 0)).bind fun (x13_0, x13_1, x13_2, x13_3, x13_4, x13_5) =>
((rdRow true h12 [.int .i64, .int .i64] a0).bind fun s17 =>
((rdRow true h12 [.int .i64, .int .i64] x13_0).bind fun s18 =>
((rdRow true h12 [.int .i64] x13_1).bind fun s19 =>
((rdRow true h12 [.int .i64] x13_2).bind fun s20 =>
((blend_BestP s17 (s18, s19, s20, x13_3, x13_4, x13_5)).bind fun (r14, r15, r16) =>
(bif (!(decide (r16 = 0))) then (some ((decide (r15 = 0)), h12)) else ((rdT (.agg [.slice, .slice, .slice, .int .i64, .int .i64, .int .i64]) h12 (.hp h.next 6 0)).bind fun (x21_0, x21_1, x21_2, x21_3, x21_4, x21_5) =>
(let h22 : H := H.new h12 [.slice .nil 0 0 false, .slice .nil 0 0 false, .slice .nil 0 0 false, .int .i64 0, .int .i64 0, .int .i64 0] 6
((H.wrs h22 (.hp h12.next 6 0) [.slice x21_0.a x21_0.len x21_0.cap x21_0.tail, .slice x21_1.a x21_1.len x21_1.cap x21_1.tail, .slice x21_2.a x21_2.len x21_2.cap x21_2.tail, .int .i64 x21_3, .int .i64 x21_4, .int .i64 x21_5]).bind fun h23 =>
(let h24 : H := H.reserve h23 0
((rdT (.leaf (.int .i64)) h24 (.hp h.next 6 3)).bind fun x25 =>
((rdT (.leaf (.int .i64)) h24 (.hp h.next 6 4)).bind fun x26 =>
((H.wrs h24 (.hp h12.next 6 3) [.int .i64 (maxI 0 (IntKind.wrap .i64 (x25 - (IntKind.wrap .i64 (a2)))))]).bind fun h27 =>
((H.wrs h27 (.hp h12.next 6 4) [.int .i64 (minI 10000 (IntKind.wrap .i64 (x26 + (IntKind.wrap .i64 (a2)))))]).bind fun h28 =>
(guardO (apartA (.hp h.next 6 4 : V) (.hp h12.next 6 3 : V) = true) ((rdT (.agg [.slice, .slice, .slice, .int .i64, .int .i64, .int .i64]) h28 (.hp h12.next 6 0)).bind fun (x29_0, x29_1, x29_2, x29_3, x29_4, x29_5) =>
((rdRow true h28 [.int .i64, .int .i64] a0).bind fun s33 =>
((rdRow true h28 [.int .i64, .int .i64] x29_0).bind fun s34 =>
((rdRow true h28 [.int .i64] x29_1).bind fun s35 =>
((rdRow true h28 [.int .i64] x29_2).bind fun s36 =>
((blend_BestP s33 (s34, s35, s36, x29_3, x29_4, x29_5)).bind fun (r30, r31, r32) =>
(((bif !(!(decide (r32 = 0))) then (some ((decide (r15 < r31)), h28)) else (some (true, h28)))).bind fun (y37, h38) =>
(bif y37 then (some (false, h38)) else ((rdT (.leaf (.int .i64)) h38 (.hp h.next 6 5)).bind fun x39 =>
((bif (decide ((1 : Int) < x39)) then ((rdT (.agg [.slice, .slice, .slice, .int .i64, .int .i64, .int .i64]) h38 (.hp h.next 6 0)).bind fun (x40_0, x40_1, x40_2, x40_3, x40_4, x40_5) =>
(let h41 : H := H.new h38 [.slice .nil 0 0 false, .slice .nil 0 0 false, .slice .nil 0 0 false, .int .i64 0, .int .i64 0, .int .i64 0] 6
((H.wrs h41 (.hp h38.next 6 0) [.slice x40_0.a x40_0.len x40_0.cap x40_0.tail, .slice x40_1.a x40_1.len x40_1.cap x40_1.tail, .slice x40_2.a x40_2.len x40_2.cap x40_2.tail, .int .i64 x40_3, .int .i64 x40_4, .int .i64 x40_5]).bind fun h42 =>
((rdT (.leaf (.int .i64)) h42 (.hp h38.next 6 5)).bind fun x43 =>
((H.wrs h42 (.hp h38.next 6 5) [.int .i64 (IntKind.wrap .i64 (x43 - 1))]).bind fun h44 =>
((rdT (.agg [.slice, .slice, .slice, .int .i64, .int .i64, .int .i64]) h44 (.hp h38.next 6 0)).bind fun (x45_0, x45_1, x45_2, x45_3, x45_4, x45_5) =>
((rdRow true h44 [.int .i64, .int .i64] a0).bind fun s49 =>
((rdRow true h44 [.int .i64, .int .i64] x45_0).bind fun s50 =>
((rdRow true h44 [.int .i64] x45_1).bind fun s51 =>
((rdRow true h44 [.int .i64] x45_2).bind fun s52 =>
((blend_BestP s49 (s50, s51, s52, x45_3, x45_4, x45_5)).bind fun (r46, r47, r48) =>
(((bif !(!(decide (r48 = 0))) then (some ((decide (r15 < r47)), h44)) else (some (true, h44)))).bind fun (y53, h54) =>
(bif y53 then (some (.ret false, h54)) else (some (.next (), h54))))))))))))))) else (some (.next (), h38)) : Option (Flow (Unit) (Bool) × H)).bind fun (fl56, h55) => match fl56 with
| .next _ =>
((rdT (.agg [.slice, .slice, .slice, .int .i64, .int .i64, .int .i64]) h55 (.hp h.next 6 0)).bind fun (x57_0, x57_1, x57_2, x57_3, x57_4, x57_5) =>
(let h58 : H := H.new h55 [.slice .nil 0 0 false, .slice .nil 0 0 false, .slice .nil 0 0 false, .int .i64 0, .int .i64 0, .int .i64 0] 6
((H.wrs h58 (.hp h55.next 6 0) [.slice x57_0.a x57_0.len x57_0.cap x57_0.tail, .slice x57_1.a x57_1.len x57_1.cap x57_1.tail, .slice x57_2.a x57_2.len x57_2.cap x57_2.tail, .int .i64 x57_3, .int .i64 x57_4, .int .i64 x57_5]).bind fun h59 =>
((rdT (.leaf .slice) h59 (.hp h.next 6 1)).bind fun x60 =>
((cloneX 1 8 x60 h59).bind fun (r61, h62) =>
((H.wrs h62 (.hp h55.next 6 1) [.slice r61.a r61.len r61.cap r61.tail]).bind fun h63 =>
(let h64 : H := H.reserve h63 0
((rdT (.leaf .slice) h64 (.hp h55.next 6 1)).bind fun x65 =>
((rdT (.leaf .slice) h64 (.hp h55.next 6 1)).bind fun x66 =>
(guardO (((x66.len : Nat) : Int) ≠ 0) (guardO (0 ≤ (Int.tmod (IntKind.wrap .i64 (a3)) ((x66.len : Nat) : Int)) ∧ (Int.tmod (IntKind.wrap .i64 (a3)) ((x66.len : Nat) : Int)) < ((x65.len : Nat) : Int)) ((rdT (.leaf (.int .i64)) h64 (V.add x65.a (Int.toNat (Int.tmod (IntKind.wrap .i64 (a3)) ((x66.len : Nat) : Int)) * 1))).bind fun x67 =>
(guardO (0 ≤ (Int.tmod (IntKind.wrap .i64 (a3)) ((x66.len : Nat) : Int)) ∧ (Int.tmod (IntKind.wrap .i64 (a3)) ((x66.len : Nat) : Int)) < ((x65.len : Nat) : Int)) ((H.wrs h64 (V.add x65.a (Int.toNat (Int.tmod (IntKind.wrap .i64 (a3)) ((x66.len : Nat) : Int)) * 1)) [.int .i64 (IntKind.wrap .i64 (x67 + 1))]).bind fun h68 =>
((((rdT (.agg [.slice, .slice, .slice, .int .i64, .int .i64, .int .i64]) h68 (.hp h55.next 6 0)).bind fun (x69_0, x69_1, x69_2, x69_3, x69_4, x69_5) =>
((rdRow true h68 [.int .i64, .int .i64] a0).bind fun s71 =>
((rdRow true h68 [.int .i64, .int .i64] x69_0).bind fun s72 =>
((rdRow true h68 [.int .i64] x69_1).bind fun s73 =>
((rdRow true h68 [.int .i64] x69_2).bind fun s74 =>
((blend_CheckP s71 (s72, s73, s74, x69_3, x69_4, x69_5)).bind fun r70 =>
(bif !(!(decide (r70 = 0))) then ((rdT (.agg [.slice, .slice, .slice, .int .i64, .int .i64, .int .i64]) h68 (.hp h55.next 6 0)).bind fun (x75_0, x75_1, x75_2, x75_3, x75_4, x75_5) =>
((rdRow true h68 [.int .i64, .int .i64] x75_0).bind fun s77 =>
((rdRow true h68 [.int .i64] x75_1).bind fun s78 =>
((rdRow true h68 [.int .i64] x75_2).bind fun s79 =>
((spileref29_FewP (s77, s78, s79, x75_3, x75_4, x75_5)).bind fun r76 =>
(some ((!r76), h68))))))) else (some (true, h68)))))))))).bind fun (y80, h81) =>
(bif y80 then (some (true, h81)) else ((rdT (.agg [.slice, .slice, .slice, .int .i64, .int .i64, .int .i64]) h81 (.hp h55.next 6 0)).bind fun (x82_0, x82_1, x82_2, x82_3, x82_4, x82_5) =>
((rdRow true h81 [.int .i64, .int .i64] a0).bind fun s86 =>
((rdRow true h81 [.int .i64, .int .i64] x82_0).bind fun s87 =>
((rdRow true h81 [.int .i64] x82_1).bind fun s88 =>
((rdRow true h81 [.int .i64] x82_2).bind fun s89 =>
((blend_BestP s86 (s87, s88, s89, x82_3, x82_4, x82_5)).bind fun (r83, r84, r85) =>
(((bif (decide (r85 = 0)) then (some ((decide (r84 ≤ r15)), h81)) else (some (false, h81)))).bind fun (y90, h91) =>
(some (y90, h91)))))))))))))))))))))))))
| .ret rr92 => (some (rr92, h55))
| .ex0 _ => none
| .ex1 _ => none))))))))))))))))))))))))))))))))
def spilelaw29_BlendWider.A : Ann := { lits := [], conds := [(82, [], [], none, none)], loops := [], regs := [(3, [39], [.leaf .bool]), (11, [79], [.leaf .bool]), (17, [101], [.leaf .bool]), (22, [127], [.leaf .bool]), (25, [8], [.leaf .bool])] }
theorem spilelaw29_BlendWider.eq : ∀ (x : TT [.leaf .slice, .agg [.slice, .slice, .slice, .int .i64, .int .i64, .int .i64], .leaf (.int .u8), .leaf (.int .u8)]) (h : H), evalFn Try.prog (spilelaw29_BlendWider.tb) spilelaw29_BlendWider.A Try.f3 (.one (.leaf .bool)) (TT.un [.leaf .slice, .agg [.slice, .slice, .slice, .int .i64, .int .i64, .int .i64], .leaf (.int .u8), .leaf (.int .u8)] x) h = spilelaw29_BlendWider x.1 x.2.1 x.2.2.1 x.2.2.2 h := by
  intro x h
  kernel_rfl
noncomputable def spilelaw29_BlendWider.e : Entry := mkX [.leaf .slice, .agg [.slice, .slice, .slice, .int .i64, .int .i64, .int .i64], .leaf (.int .u8), .leaf (.int .u8)] (.one (.leaf .bool)) fun x h => spilelaw29_BlendWider x.1 x.2.1 x.2.2.1 x.2.2.2 h
theorem spilelaw29_BlendWider.ok : EntryOK Try.prog 3 (spilelaw29_BlendWider.e) := mkX_ok (spilelaw29_BlendWider.tbok) Try.mixed Try.func3 (by kernel_rfl) (spilelaw29_BlendWider.eq)
noncomputable def spilelaw29_BlendWiderP (a0 : (List (Int × Int))) (a1 : ((List (Int × Int)) × (List (Int)) × (List (Int)) × Int × Int × Int)) (a2 : Int) (a3 : Int) : Option (Bool) := (spilelaw29_BlendWider (rowSV false [.int .i64, .int .i64] a0) (rowSV false [.int .i64, .int .i64] a1.1, rowSV false [.int .i64] a1.2.1, rowSV false [.int .i64] a1.2.2.1, a1.2.2.2.1, a1.2.2.2.2.1, a1.2.2.2.2.2) a2 a3 H.empty).bind fun p => rdRes false p.2 (.one (.leaf .bool)) (Res.un (.one (.leaf .bool)) p.1)
theorem spilelaw29_BlendWiderP.eq : ∀ x : TT [.leaf (.row [.int .i64, .int .i64]), .agg [.row [.int .i64, .int .i64], .row [.int .i64], .row [.int .i64], .int .i64, .int .i64, .int .i64], .leaf (.int .u8), .leaf (.int .u8)], ((evalFn Try.prog (spilelaw29_BlendWider.tb) spilelaw29_BlendWider.A Try.f3 (.one (.leaf .bool)) (TT.lo false [.leaf (.row [.int .i64, .int .i64]), .agg [.row [.int .i64, .int .i64], .row [.int .i64], .row [.int .i64], .int .i64, .int .i64, .int .i64], .leaf (.int .u8), .leaf (.int .u8)] x) H.empty).bind fun p => rdRes false p.2 (.one (.leaf .bool)) (Res.un (.one (.leaf .bool)) p.1)) = spilelaw29_BlendWiderP x.1 x.2.1 x.2.2.1 x.2.2.2 := by
  intro x
  rw [show TT.lo false [.leaf (.row [.int .i64, .int .i64]), .agg [.row [.int .i64, .int .i64], .row [.int .i64], .row [.int .i64], .int .i64, .int .i64, .int .i64], .leaf (.int .u8), .leaf (.int .u8)] x = TT.un [.leaf .slice, .agg [.slice, .slice, .slice, .int .i64, .int .i64, .int .i64], .leaf (.int .u8), .leaf (.int .u8)] ((rowSV false [.int .i64, .int .i64] x.1), (rowSV false [.int .i64, .int .i64] x.2.1.1, rowSV false [.int .i64] x.2.1.2.1, rowSV false [.int .i64] x.2.1.2.2.1, x.2.1.2.2.2.1, x.2.1.2.2.2.2.1, x.2.1.2.2.2.2.2), x.2.2.1, x.2.2.2) from rfl, spilelaw29_BlendWider.eq]
  rfl
noncomputable def spilelaw29_BlendWiderP.e : Entry := mkP [.leaf (.row [.int .i64, .int .i64]), .agg [.row [.int .i64, .int .i64], .row [.int .i64], .row [.int .i64], .int .i64, .int .i64, .int .i64], .leaf (.int .u8), .leaf (.int .u8)] (.one (.leaf .bool)) fun x => spilelaw29_BlendWiderP x.1 x.2.1 x.2.2.1 x.2.2.2
theorem spilelaw29_BlendWiderP.ok : EntryOK Try.prog 3 (spilelaw29_BlendWiderP.e) := mkP_ok (spilelaw29_BlendWider.tbok) Try.mixed Try.func3 (by kernel_rfl) spilelaw29_BlendWiderP.eq

/-! ### spile/spileref16.Check: function 80 -/
noncomputable def spileref16_Check.tb : Table := tab [] [] Table.nil
theorem spileref16_Check.tbok : TabOK Try.prog (spileref16_Check.tb) := TabOK.tab (TabOK.nil Try.prog) (all_nil _) (all_nil _)
noncomputable def spileref16_Check.loop1 (a0 : SV) : (Int) × H → Option (Stp ((Int) × H) (Flow (Unit) (Int × Int) × H)) := fun (y1, h2) =>
(bif (decide (y1 < ((a0.len : Nat) : Int))) then (((guardO (0 ≤ y1 ∧ y1 < ((a0.len : Nat) : Int)) (guardO (V.nn ((V.add a0.a (Int.toNat y1 * 2)) : V) = true) ((rdT (.leaf (.int .i64)) h2 (V.add (V.add a0.a (Int.toNat y1 * 2)) 0)).bind fun x3 =>
(bif !(decide (x3 < 0)) then (guardO (0 ≤ y1 ∧ y1 < ((a0.len : Nat) : Int)) (guardO (V.nn ((V.add a0.a (Int.toNat y1 * 2)) : V) = true) ((rdT (.leaf (.int .i64)) h2 (V.add (V.add a0.a (Int.toNat y1 * 2)) 0)).bind fun x4 =>
(bif !(decide ((10000 : Int) < x4)) then (guardO (0 ≤ y1 ∧ y1 < ((a0.len : Nat) : Int)) (guardO (V.nn ((V.add a0.a (Int.toNat y1 * 2)) : V) = true) ((rdT (.leaf (.int .i64)) h2 (V.add (V.add a0.a (Int.toNat y1 * 2)) 1)).bind fun x5 =>
(bif !(decide (x5 < 50000)) then (guardO (0 ≤ y1 ∧ y1 < ((a0.len : Nat) : Int)) (guardO (V.nn ((V.add a0.a (Int.toNat y1 * 2)) : V) = true) ((rdT (.leaf (.int .i64)) h2 (V.add (V.add a0.a (Int.toNat y1 * 2)) 1)).bind fun x6 =>
(some ((decide ((120000 : Int) < x6)), h2))))) else (some (true, h2)))))) else (some (true, h2)))))) else (some (true, h2))))))).bind fun (y7, h8) =>
(bif y7 then (some (.done (.ret (y1, 2), h8))) else (((let h9 : H := H.reserve h8 0
(bif (decide ((0 : Int) < y1)) then (guardO (0 ≤ y1 ∧ y1 < ((a0.len : Nat) : Int)) (guardO (V.nn ((V.add a0.a (Int.toNat y1 * 2)) : V) = true) ((rdT (.leaf (.int .i64)) h9 (V.add (V.add a0.a (Int.toNat y1 * 2)) 0)).bind fun x10 =>
(guardO (0 ≤ (IntKind.wrap .i64 (y1 - 1)) ∧ (IntKind.wrap .i64 (y1 - 1)) < ((a0.len : Nat) : Int)) (guardO (V.nn ((V.add a0.a (Int.toNat (IntKind.wrap .i64 (y1 - 1)) * 2)) : V) = true) ((rdT (.leaf (.int .i64)) h9 (V.add (V.add a0.a (Int.toNat (IntKind.wrap .i64 (y1 - 1)) * 2)) 0)).bind fun x11 =>
(some ((decide (x10 ≤ x11)), h9)))))))) else (some (false, h9))))).bind fun (y12, h13) =>
(bif y12 then (some (.done (.ret (y1, 5), h13))) else (((let h14 : H := H.reserve h13 0
(bif (decide ((0 : Int) < y1)) then (guardO (0 ≤ y1 ∧ y1 < ((a0.len : Nat) : Int)) (guardO (V.nn ((V.add a0.a (Int.toNat y1 * 2)) : V) = true) ((rdT (.leaf (.int .i64)) h14 (V.add (V.add a0.a (Int.toNat y1 * 2)) 1)).bind fun x15 =>
(guardO (0 ≤ (IntKind.wrap .i64 (y1 - 1)) ∧ (IntKind.wrap .i64 (y1 - 1)) < ((a0.len : Nat) : Int)) (guardO (V.nn ((V.add a0.a (Int.toNat (IntKind.wrap .i64 (y1 - 1)) * 2)) : V) = true) ((rdT (.leaf (.int .i64)) h14 (V.add (V.add a0.a (Int.toNat (IntKind.wrap .i64 (y1 - 1)) * 2)) 1)).bind fun x16 =>
(some ((decide (x16 < x15)), h14)))))))) else (some (false, h14))))).bind fun (y17, h18) =>
(bif y17 then (some (.done (.ret (y1, 18), h18))) else (some (.more ((IntKind.wrap .i64 (y1 + 1)), h18))))))))) else (some (.done (.ex0 (), h2))))
noncomputable def spileref16_Check (a0 : SV) (h : H) : Option ((Int × Int) × H) :=
(bif (decide ((128 : Int) < ((a0.len : Nat) : Int))) then (some (((-1), 8), h)) else (bif (decide (((a0.len : Nat) : Int) < 2)) then (some (((-1), 9), h)) else ((iter FUEL (spileref16_Check.loop1 a0) (0, h)).bind fun (fl20, h19) => match fl20 with
| .next _ => none
| .ret rr21 => (some (rr21, h19))
| .ex0 _ =>
(guardO (0 ≤ (0 : Int) ∧ 0 < ((a0.len : Nat) : Int)) (guardO (V.nn ((V.add a0.a 0) : V) = true) ((rdT (.leaf (.int .i64)) h19 (V.add (V.add a0.a 0) 0)).bind fun x22 =>
(bif (!(decide (x22 = 0))) then (some ((0, 10), h19)) else (guardO (0 ≤ (IntKind.wrap .i64 (((a0.len : Nat) : Int) - 1)) ∧ (IntKind.wrap .i64 (((a0.len : Nat) : Int) - 1)) < ((a0.len : Nat) : Int)) (guardO (V.nn ((V.add a0.a (Int.toNat (IntKind.wrap .i64 (((a0.len : Nat) : Int) - 1)) * 2)) : V) = true) ((rdT (.leaf (.int .i64)) h19 (V.add (V.add a0.a (Int.toNat (IntKind.wrap .i64 (((a0.len : Nat) : Int) - 1)) * 2)) 0)).bind fun x23 =>
(bif (!(decide (x23 = 10000))) then (some (((IntKind.wrap .i64 (((a0.len : Nat) : Int) - 1)), 10), h19)) else (some (((-1), 0), h19))))))))))
| .ex1 _ => none)))
def spileref16_Check.A : Ann := { lits := [], conds := [], loops := [(6, [4], [.leaf (.int .i64)], [], [], some 0, none)], regs := [(8, [46], [.leaf .bool]), (10, [63], [.leaf .bool]), (12, [80], [.leaf .bool])] }
theorem spileref16_Check.eq : ∀ (x : TT [.leaf .slice]) (h : H), evalFn Try.prog (spileref16_Check.tb) spileref16_Check.A Try.f80 (.many [.leaf (.int .i64), .leaf (.int .i64)]) (TT.un [.leaf .slice] x) h = spileref16_Check x h := by
  intro x h
  kernel_rfl
noncomputable def spileref16_Check.e : Entry := mkX [.leaf .slice] (.many [.leaf (.int .i64), .leaf (.int .i64)]) fun x h => spileref16_Check x h
theorem spileref16_Check.ok : EntryOK Try.prog 80 (spileref16_Check.e) := mkX_ok (spileref16_Check.tbok) Try.mixed Try.func80 (by kernel_rfl) (spileref16_Check.eq)
noncomputable def spileref16_CheckP (a0 : (List (Int × Int))) : Option (Int × Int) := (spileref16_Check (rowSV false [.int .i64, .int .i64] a0) H.empty).bind fun p => rdRes false p.2 (.many [.leaf (.int .i64), .leaf (.int .i64)]) (Res.un (.many [.leaf (.int .i64), .leaf (.int .i64)]) p.1)
theorem spileref16_CheckP.eq : ∀ x : TT [.leaf (.row [.int .i64, .int .i64])], ((evalFn Try.prog (spileref16_Check.tb) spileref16_Check.A Try.f80 (.many [.leaf (.int .i64), .leaf (.int .i64)]) (TT.lo false [.leaf (.row [.int .i64, .int .i64])] x) H.empty).bind fun p => rdRes false p.2 (.many [.leaf (.int .i64), .leaf (.int .i64)]) (Res.un (.many [.leaf (.int .i64), .leaf (.int .i64)]) p.1)) = spileref16_CheckP x := by
  intro x
  rw [show TT.lo false [.leaf (.row [.int .i64, .int .i64])] x = TT.un [.leaf .slice] ((rowSV false [.int .i64, .int .i64] x)) from rfl, spileref16_Check.eq]
  rfl
noncomputable def spileref16_CheckP.e : Entry := mkP [.leaf (.row [.int .i64, .int .i64])] (.many [.leaf (.int .i64), .leaf (.int .i64)]) fun x => spileref16_CheckP x
theorem spileref16_CheckP.ok : EntryOK Try.prog 80 (spileref16_CheckP.e) := mkP_ok (spileref16_Check.tbok) Try.mixed Try.func80 (by kernel_rfl) spileref16_CheckP.eq

/-! ### spile/spileref16.Right: function 57 -/
noncomputable def spileref16_Right.tb : Table := tab [(80, spileref16_CheckP.e)] [] Table.nil
theorem spileref16_Right.tbok : TabOK Try.prog (spileref16_Right.tb) := TabOK.tab (TabOK.nil Try.prog) (all_cons spileref16_CheckP.ok (all_nil _)) (all_nil _)
noncomputable def spileref16_Right (a0 : SV) (h : H) : Option ((Bool) × H) :=
((rdRow true h [.int .i64, .int .i64] a0).bind fun s3 =>
((spileref16_CheckP s3).bind fun (r1, r2) =>
(some ((decide (r2 = 0)), h))))
def spileref16_Right.A : Ann := { lits := [], conds := [], loops := [], regs := [] }
theorem spileref16_Right.eq : ∀ (x : TT [.leaf .slice]) (h : H), evalFn Try.prog (spileref16_Right.tb) spileref16_Right.A Try.f57 (.one (.leaf .bool)) (TT.un [.leaf .slice] x) h = spileref16_Right x h := by
  intro x h
  kernel_rfl
noncomputable def spileref16_Right.e : Entry := mkX [.leaf .slice] (.one (.leaf .bool)) fun x h => spileref16_Right x h
theorem spileref16_Right.ok : EntryOK Try.prog 57 (spileref16_Right.e) := mkX_ok (spileref16_Right.tbok) Try.mixed Try.func57 (by kernel_rfl) (spileref16_Right.eq)
noncomputable def spileref16_RightP (a0 : (List (Int × Int))) : Option (Bool) := (spileref16_Right (rowSV false [.int .i64, .int .i64] a0) H.empty).bind fun p => rdRes false p.2 (.one (.leaf .bool)) (Res.un (.one (.leaf .bool)) p.1)
theorem spileref16_RightP.eq : ∀ x : TT [.leaf (.row [.int .i64, .int .i64])], ((evalFn Try.prog (spileref16_Right.tb) spileref16_Right.A Try.f57 (.one (.leaf .bool)) (TT.lo false [.leaf (.row [.int .i64, .int .i64])] x) H.empty).bind fun p => rdRes false p.2 (.one (.leaf .bool)) (Res.un (.one (.leaf .bool)) p.1)) = spileref16_RightP x := by
  intro x
  rw [show TT.lo false [.leaf (.row [.int .i64, .int .i64])] x = TT.un [.leaf .slice] ((rowSV false [.int .i64, .int .i64] x)) from rfl, spileref16_Right.eq]
  rfl
noncomputable def spileref16_RightP.e : Entry := mkP [.leaf (.row [.int .i64, .int .i64])] (.one (.leaf .bool)) fun x => spileref16_RightP x
theorem spileref16_RightP.ok : EntryOK Try.prog 57 (spileref16_RightP.e) := mkP_ok (spileref16_Right.tbok) Try.mixed Try.func57 (by kernel_rfl) spileref16_RightP.eq

/-! ### spile/spileref29.sizes: function 58 -/
noncomputable def spileref29_sizes.tb : Table := tab [] [] Table.nil
theorem spileref29_sizes.tbok : TabOK Try.prog (spileref29_sizes.tb) := TabOK.tab (TabOK.nil Try.prog) (all_nil _) (all_nil _)
noncomputable def spileref29_sizes (a0 : (SV × SV × SV × Int × Int × Int)) (h : H) : Option ((Int) × H) :=
(match a0 with
| (a0_0, a0_1, a0_2, a0_3, a0_4, a0_5) =>
(let h1 : H := H.new h [.slice a0_0.a a0_0.len a0_0.cap a0_0.tail, .slice a0_1.a a0_1.len a0_1.cap a0_1.tail, .slice a0_2.a a0_2.len a0_2.cap a0_2.tail, .int .i64 a0_3, .int .i64 a0_4, .int .i64 a0_5] 6
((rdT (.leaf .slice) h1 (.hp h.next 6 0)).bind fun x2 =>
(bif (decide (((x2.len : Nat) : Int) = 0)) then (some (9, h1)) else (bif (decide ((4 : Int) < ((x2.len : Nat) : Int))) then (some (8, h1)) else ((((rdT (.leaf .slice) h1 (.hp h.next 6 1)).bind fun x3 =>
(bif !(!(decide (((x3.len : Nat) : Int) = ((x2.len : Nat) : Int)))) then ((rdT (.leaf .slice) h1 (.hp h.next 6 2)).bind fun x4 =>
(some ((!(decide (((x4.len : Nat) : Int) = ((x2.len : Nat) : Int)))), h1))) else (some (true, h1))))).bind fun (y5, h6) =>
(bif y5 then (some (10, h6)) else (some (0, h6)))))))))
def spileref29_sizes.A : Ann := { lits := [], conds := [], loops := [], regs := [(6, [22], [.leaf .bool])] }
theorem spileref29_sizes.eq : ∀ (x : TT [.agg [.slice, .slice, .slice, .int .i64, .int .i64, .int .i64]]) (h : H), evalFn Try.prog (spileref29_sizes.tb) spileref29_sizes.A Try.f58 (.one (.leaf (.int .i64))) (TT.un [.agg [.slice, .slice, .slice, .int .i64, .int .i64, .int .i64]] x) h = spileref29_sizes x h := by
  intro x h
  kernel_rfl
noncomputable def spileref29_sizes.e : Entry := mkX [.agg [.slice, .slice, .slice, .int .i64, .int .i64, .int .i64]] (.one (.leaf (.int .i64))) fun x h => spileref29_sizes x h
theorem spileref29_sizes.ok : EntryOK Try.prog 58 (spileref29_sizes.e) := mkX_ok (spileref29_sizes.tbok) Try.mixed Try.func58 (by kernel_rfl) (spileref29_sizes.eq)
noncomputable def spileref29_sizesP (a0 : ((List (Int × Int)) × (List (Int)) × (List (Int)) × Int × Int × Int)) : Option (Int) := (spileref29_sizes (rowSV false [.int .i64, .int .i64] a0.1, rowSV false [.int .i64] a0.2.1, rowSV false [.int .i64] a0.2.2.1, a0.2.2.2.1, a0.2.2.2.2.1, a0.2.2.2.2.2) H.empty).bind fun p => rdRes false p.2 (.one (.leaf (.int .i64))) (Res.un (.one (.leaf (.int .i64))) p.1)
theorem spileref29_sizesP.eq : ∀ x : TT [.agg [.row [.int .i64, .int .i64], .row [.int .i64], .row [.int .i64], .int .i64, .int .i64, .int .i64]], ((evalFn Try.prog (spileref29_sizes.tb) spileref29_sizes.A Try.f58 (.one (.leaf (.int .i64))) (TT.lo false [.agg [.row [.int .i64, .int .i64], .row [.int .i64], .row [.int .i64], .int .i64, .int .i64, .int .i64]] x) H.empty).bind fun p => rdRes false p.2 (.one (.leaf (.int .i64))) (Res.un (.one (.leaf (.int .i64))) p.1)) = spileref29_sizesP x := by
  intro x
  rw [show TT.lo false [.agg [.row [.int .i64, .int .i64], .row [.int .i64], .row [.int .i64], .int .i64, .int .i64, .int .i64]] x = TT.un [.agg [.slice, .slice, .slice, .int .i64, .int .i64, .int .i64]] ((rowSV false [.int .i64, .int .i64] x.1, rowSV false [.int .i64] x.2.1, rowSV false [.int .i64] x.2.2.1, x.2.2.2.1, x.2.2.2.2.1, x.2.2.2.2.2)) from rfl, spileref29_sizes.eq]
  rfl
noncomputable def spileref29_sizesP.e : Entry := mkP [.agg [.row [.int .i64, .int .i64], .row [.int .i64], .row [.int .i64], .int .i64, .int .i64, .int .i64]] (.one (.leaf (.int .i64))) fun x => spileref29_sizesP x
theorem spileref29_sizesP.ok : EntryOK Try.prog 58 (spileref29_sizesP.e) := mkP_ok (spileref29_sizes.tbok) Try.mixed Try.func58 (by kernel_rfl) spileref29_sizesP.eq

/-! ### spile/spileref16.At: function 97 -/
noncomputable def spileref16_At.tb : Table := tab [] [] Table.nil
theorem spileref16_At.tbok : TabOK Try.prog (spileref16_At.tb) := TabOK.tab (TabOK.nil Try.prog) (all_nil _) (all_nil _)
noncomputable def spileref16_At.loop1 (a0 : SV) (a1 : Int) : (Int × Int) × H → Option (Stp ((Int × Int) × H) (Flow (Int) (Int) × H)) := fun ((y1, y2), h3) =>
(bif (decide (y2 < ((a0.len : Nat) : Int))) then (guardO (0 ≤ y2 ∧ y2 < ((a0.len : Nat) : Int)) (guardO (V.nn ((V.add a0.a (Int.toNat y2 * 2)) : V) = true) ((rdT (.leaf (.int .i64)) h3 (V.add (V.add a0.a (Int.toNat y2 * 2)) 0)).bind fun x4 =>
((bif (decide (x4 ≤ a1)) then (some (.next y2, h3)) else (some (.next y1, h3)) : Option (Flow (Int) (Int) × H)).bind fun (fl6, h5) => match fl6 with
| .next y7 =>
(some (.more ((y7, (IntKind.wrap .i64 (y2 + 1))), h5)))
| .ret rr8 => (some (.done (.ret rr8, h5)))
| .ex0 _ => none
| .ex1 _ => none)))) else (some (.done (.ex0 y1, h3))))
noncomputable def spileref16_At (a0 : SV) (a1 : Int) (h : H) : Option ((Int) × H) :=
((iter FUEL (spileref16_At.loop1 a0 a1) ((0, 0), h)).bind fun (fl10, h9) => match fl10 with
| .next _ => none
| .ret rr11 => (some (rr11, h9))
| .ex0 y12 =>
(some (y12, h9))
| .ex1 _ => none)
def spileref16_At.A : Ann := { lits := [], conds := [(19, [5], [.leaf (.int .i64)], none, none)], loops := [(3, [5, 6], [.leaf (.int .i64), .leaf (.int .i64)], [5], [.leaf (.int .i64)], some 0, none)], regs := [] }
theorem spileref16_At.eq : ∀ (x : TT [.leaf .slice, .leaf (.int .i64)]) (h : H), evalFn Try.prog (spileref16_At.tb) spileref16_At.A Try.f97 (.one (.leaf (.int .i64))) (TT.un [.leaf .slice, .leaf (.int .i64)] x) h = spileref16_At x.1 x.2 h := by
  intro x h
  kernel_rfl
noncomputable def spileref16_At.e : Entry := mkX [.leaf .slice, .leaf (.int .i64)] (.one (.leaf (.int .i64))) fun x h => spileref16_At x.1 x.2 h
theorem spileref16_At.ok : EntryOK Try.prog 97 (spileref16_At.e) := mkX_ok (spileref16_At.tbok) Try.mixed Try.func97 (by kernel_rfl) (spileref16_At.eq)
noncomputable def spileref16_AtP (a0 : (List (Int × Int))) (a1 : Int) : Option (Int) := (spileref16_At (rowSV false [.int .i64, .int .i64] a0) a1 H.empty).bind fun p => rdRes false p.2 (.one (.leaf (.int .i64))) (Res.un (.one (.leaf (.int .i64))) p.1)
theorem spileref16_AtP.eq : ∀ x : TT [.leaf (.row [.int .i64, .int .i64]), .leaf (.int .i64)], ((evalFn Try.prog (spileref16_At.tb) spileref16_At.A Try.f97 (.one (.leaf (.int .i64))) (TT.lo false [.leaf (.row [.int .i64, .int .i64]), .leaf (.int .i64)] x) H.empty).bind fun p => rdRes false p.2 (.one (.leaf (.int .i64))) (Res.un (.one (.leaf (.int .i64))) p.1)) = spileref16_AtP x.1 x.2 := by
  intro x
  rw [show TT.lo false [.leaf (.row [.int .i64, .int .i64]), .leaf (.int .i64)] x = TT.un [.leaf .slice, .leaf (.int .i64)] ((rowSV false [.int .i64, .int .i64] x.1), x.2) from rfl, spileref16_At.eq]
  rfl
noncomputable def spileref16_AtP.e : Entry := mkP [.leaf (.row [.int .i64, .int .i64]), .leaf (.int .i64)] (.one (.leaf (.int .i64))) fun x => spileref16_AtP x.1 x.2
theorem spileref16_AtP.ok : EntryOK Try.prog 97 (spileref16_AtP.e) := mkP_ok (spileref16_At.tbok) Try.mixed Try.func97 (by kernel_rfl) spileref16_AtP.eq

/-! ### spile/spileref18.line: function 98 -/
noncomputable def spileref18_line.tb : Table := tab [] [] Table.nil
theorem spileref18_line.tbok : TabOK Try.prog (spileref18_line.tb) := TabOK.tab (TabOK.nil Try.prog) (all_nil _) (all_nil _)
noncomputable def spileref18_line (a0 : (Int × Int)) (a1 : (Int × Int)) (a2 : Int) (h : H) : Option ((Int) × H) :=
(match a0 with
| (a0_0, a0_1) =>
(match a1 with
| (a1_0, a1_1) =>
(let h1 : H := H.new h [.int .i64 a0_0, .int .i64 a0_1] 2
(let h2 : H := H.new h1 [.int .i64 a1_0, .int .i64 a1_1] 2
((rdT (.leaf (.int .i64)) h2 (.hp h1.next 2 0)).bind fun x3 =>
((rdT (.leaf (.int .i64)) h2 (.hp h.next 2 0)).bind fun x4 =>
((rdT (.leaf (.int .i64)) h2 (.hp h.next 2 1)).bind fun x5 =>
((rdT (.leaf (.int .i64)) h2 (.hp h1.next 2 1)).bind fun x6 =>
((rdT (.leaf (.int .i64)) h2 (.hp h.next 2 1)).bind fun x7 =>
((rdT (.leaf (.int .i64)) h2 (.hp h.next 2 0)).bind fun x8 =>
(guardO ((IntKind.wrap .i64 (2 * (IntKind.wrap .i64 (x3 - x4)))) ≠ 0) (some ((IntKind.wrap .i64 (Int.tdiv (IntKind.wrap .i64 ((IntKind.wrap .i64 (2 * (IntKind.wrap .i64 ((IntKind.wrap .i64 (x5 * (IntKind.wrap .i64 (x3 - x4)))) + (IntKind.wrap .i64 ((IntKind.wrap .i64 (x6 - x7)) * (IntKind.wrap .i64 (a2 - x8)))))))) + (IntKind.wrap .i64 (x3 - x4)))) (IntKind.wrap .i64 (2 * (IntKind.wrap .i64 (x3 - x4)))))), h2)))))))))))))
def spileref18_line.A : Ann := { lits := [], conds := [], loops := [], regs := [] }
theorem spileref18_line.eq : ∀ (x : TT [.agg [.int .i64, .int .i64], .agg [.int .i64, .int .i64], .leaf (.int .i64)]) (h : H), evalFn Try.prog (spileref18_line.tb) spileref18_line.A Try.f98 (.one (.leaf (.int .i64))) (TT.un [.agg [.int .i64, .int .i64], .agg [.int .i64, .int .i64], .leaf (.int .i64)] x) h = spileref18_line x.1 x.2.1 x.2.2 h := by
  intro x h
  kernel_rfl
noncomputable def spileref18_line.e : Entry := mkX [.agg [.int .i64, .int .i64], .agg [.int .i64, .int .i64], .leaf (.int .i64)] (.one (.leaf (.int .i64))) fun x h => spileref18_line x.1 x.2.1 x.2.2 h
theorem spileref18_line.ok : EntryOK Try.prog 98 (spileref18_line.e) := mkX_ok (spileref18_line.tbok) Try.mixed Try.func98 (by kernel_rfl) (spileref18_line.eq)
noncomputable def spileref18_lineP (a0 : (Int × Int)) (a1 : (Int × Int)) (a2 : Int) : Option (Int) := (spileref18_line a0 a1 a2 H.empty).bind fun p => rdRes false p.2 (.one (.leaf (.int .i64))) (Res.un (.one (.leaf (.int .i64))) p.1)
theorem spileref18_lineP.eq : ∀ x : TT [.agg [.int .i64, .int .i64], .agg [.int .i64, .int .i64], .leaf (.int .i64)], ((evalFn Try.prog (spileref18_line.tb) spileref18_line.A Try.f98 (.one (.leaf (.int .i64))) (TT.lo false [.agg [.int .i64, .int .i64], .agg [.int .i64, .int .i64], .leaf (.int .i64)] x) H.empty).bind fun p => rdRes false p.2 (.one (.leaf (.int .i64))) (Res.un (.one (.leaf (.int .i64))) p.1)) = spileref18_lineP x.1 x.2.1 x.2.2 := by
  intro x
  rw [show TT.lo false [.agg [.int .i64, .int .i64], .agg [.int .i64, .int .i64], .leaf (.int .i64)] x = TT.un [.agg [.int .i64, .int .i64], .agg [.int .i64, .int .i64], .leaf (.int .i64)] (x.1, x.2.1, x.2.2) from rfl, spileref18_line.eq]
  rfl
noncomputable def spileref18_lineP.e : Entry := mkP [.agg [.int .i64, .int .i64], .agg [.int .i64, .int .i64], .leaf (.int .i64)] (.one (.leaf (.int .i64))) fun x => spileref18_lineP x.1 x.2.1 x.2.2
theorem spileref18_lineP.ok : EntryOK Try.prog 98 (spileref18_lineP.e) := mkP_ok (spileref18_line.tbok) Try.mixed Try.func98 (by kernel_rfl) spileref18_lineP.eq

/-! ### spile/spileref18.At: function 81 -/
noncomputable def spileref18_At.tb : Table := tab [(97, spileref16_AtP.e), (98, spileref18_lineP.e)] [] Table.nil
theorem spileref18_At.tbok : TabOK Try.prog (spileref18_At.tb) := TabOK.tab (TabOK.nil Try.prog) (all_cons spileref16_AtP.ok (all_cons spileref18_lineP.ok (all_nil _))) (all_nil _)
noncomputable def spileref18_At (a0 : SV) (a1 : Int) (h : H) : Option ((Int) × H) :=
((rdRow true h [.int .i64, .int .i64] a0).bind fun s2 =>
((spileref16_AtP s2 a1).bind fun r1 =>
(guardO (0 ≤ r1 ∧ r1 < ((a0.len : Nat) : Int)) (guardO (V.nn ((V.add a0.a (Int.toNat r1 * 2)) : V) = true) ((rdT (.leaf (.int .i64)) h (V.add (V.add a0.a (Int.toNat r1 * 2)) 0)).bind fun x3 =>
(bif (decide (x3 = a1)) then (guardO (0 ≤ r1 ∧ r1 < ((a0.len : Nat) : Int)) (guardO (V.nn ((V.add a0.a (Int.toNat r1 * 2)) : V) = true) ((rdT (.leaf (.int .i64)) h (V.add (V.add a0.a (Int.toNat r1 * 2)) 1)).bind fun x4 =>
(some (x4, h))))) else (let h5 : H := H.reserve h 0
(guardO (0 ≤ r1 ∧ r1 < ((a0.len : Nat) : Int)) ((rdT (.agg [.int .i64, .int .i64]) h5 (V.add a0.a (Int.toNat r1 * 2))).bind fun (x6_0, x6_1) =>
(guardO (0 ≤ (IntKind.wrap .i64 (r1 + 1)) ∧ (IntKind.wrap .i64 (r1 + 1)) < ((a0.len : Nat) : Int)) ((rdT (.agg [.int .i64, .int .i64]) h5 (V.add a0.a (Int.toNat (IntKind.wrap .i64 (r1 + 1)) * 2))).bind fun (x7_0, x7_1) =>
((spileref18_lineP (x6_0, x6_1) (x7_0, x7_1) a1).bind fun r8 =>
(some (r8, h5))))))))))))))
def spileref18_At.A : Ann := { lits := [], conds := [], loops := [], regs := [] }
theorem spileref18_At.eq : ∀ (x : TT [.leaf .slice, .leaf (.int .i64)]) (h : H), evalFn Try.prog (spileref18_At.tb) spileref18_At.A Try.f81 (.one (.leaf (.int .i64))) (TT.un [.leaf .slice, .leaf (.int .i64)] x) h = spileref18_At x.1 x.2 h := by
  intro x h
  kernel_rfl
noncomputable def spileref18_At.e : Entry := mkX [.leaf .slice, .leaf (.int .i64)] (.one (.leaf (.int .i64))) fun x h => spileref18_At x.1 x.2 h
theorem spileref18_At.ok : EntryOK Try.prog 81 (spileref18_At.e) := mkX_ok (spileref18_At.tbok) Try.mixed Try.func81 (by kernel_rfl) (spileref18_At.eq)
noncomputable def spileref18_AtP (a0 : (List (Int × Int))) (a1 : Int) : Option (Int) := (spileref18_At (rowSV false [.int .i64, .int .i64] a0) a1 H.empty).bind fun p => rdRes false p.2 (.one (.leaf (.int .i64))) (Res.un (.one (.leaf (.int .i64))) p.1)
theorem spileref18_AtP.eq : ∀ x : TT [.leaf (.row [.int .i64, .int .i64]), .leaf (.int .i64)], ((evalFn Try.prog (spileref18_At.tb) spileref18_At.A Try.f81 (.one (.leaf (.int .i64))) (TT.lo false [.leaf (.row [.int .i64, .int .i64]), .leaf (.int .i64)] x) H.empty).bind fun p => rdRes false p.2 (.one (.leaf (.int .i64))) (Res.un (.one (.leaf (.int .i64))) p.1)) = spileref18_AtP x.1 x.2 := by
  intro x
  rw [show TT.lo false [.leaf (.row [.int .i64, .int .i64]), .leaf (.int .i64)] x = TT.un [.leaf .slice, .leaf (.int .i64)] ((rowSV false [.int .i64, .int .i64] x.1), x.2) from rfl, spileref18_At.eq]
  rfl
noncomputable def spileref18_AtP.e : Entry := mkP [.leaf (.row [.int .i64, .int .i64]), .leaf (.int .i64)] (.one (.leaf (.int .i64))) fun x => spileref18_AtP x.1 x.2
theorem spileref18_AtP.ok : EntryOK Try.prog 81 (spileref18_AtP.e) := mkP_ok (spileref18_At.tbok) Try.mixed Try.func81 (by kernel_rfl) spileref18_AtP.eq

/-! ### spile/spileref20.Check: function 59 -/
noncomputable def spileref20_Check.tb : Table := tab [(57, spileref16_RightP.e), (81, spileref18_AtP.e)] [] Table.nil
theorem spileref20_Check.tbok : TabOK Try.prog (spileref20_Check.tb) := TabOK.tab (TabOK.nil Try.prog) (all_cons spileref16_RightP.ok (all_cons spileref18_AtP.ok (all_nil _))) (all_nil _)
noncomputable def spileref20_Check (a0 : SV) (a1 : (Int × Int)) (h : H) : Option ((Int) × H) :=
(match a1 with
| (a1_0, a1_1) =>
(let h1 : H := H.new h [.int .i64 a1_0, .int .i64 a1_1] 2
((rdRow true h1 [.int .i64, .int .i64] a0).bind fun s3 =>
((spileref16_RightP s3).bind fun r2 =>
(bif (!r2) then (some (1, h1)) else ((((rdT (.leaf (.int .i64)) h1 (.hp h.next 2 0)).bind fun x4 =>
(bif !(decide (x4 < 0)) then ((rdT (.leaf (.int .i64)) h1 (.hp h.next 2 0)).bind fun x5 =>
(bif !(decide ((10737418240000 : Int) < x5)) then ((rdT (.leaf (.int .i64)) h1 (.hp h.next 2 1)).bind fun x6 =>
(bif !(decide (x6 < 0)) then ((rdT (.leaf (.int .i64)) h1 (.hp h.next 2 1)).bind fun x7 =>
(some ((decide ((128849018880000 : Int) < x7)), h1))) else (some (true, h1)))) else (some (true, h1)))) else (some (true, h1))))).bind fun (y8, h9) =>
(bif y8 then (some (2, h9)) else (let h10 : H := H.reserve h9 0
((rdT (.leaf (.int .i64)) h10 (.hp h.next 2 0)).bind fun x11 =>
((rdRow true h10 [.int .i64, .int .i64] a0).bind fun s13 =>
((spileref18_AtP s13 10000).bind fun r12 =>
((rdT (.leaf (.int .i64)) h10 (.hp h.next 2 1)).bind fun x14 =>
(bif (decide ((IntKind.wrap .i64 (x14 * 10000)) < (IntKind.wrap .i64 (x11 * r12)))) then (some (10, h10)) else (some (0, h10)))))))))))))))
def spileref20_Check.A : Ann := { lits := [], conds := [], loops := [], regs := [(3, [25], [.leaf .bool])] }
theorem spileref20_Check.eq : ∀ (x : TT [.leaf .slice, .agg [.int .i64, .int .i64]]) (h : H), evalFn Try.prog (spileref20_Check.tb) spileref20_Check.A Try.f59 (.one (.leaf (.int .i64))) (TT.un [.leaf .slice, .agg [.int .i64, .int .i64]] x) h = spileref20_Check x.1 x.2 h := by
  intro x h
  kernel_rfl
noncomputable def spileref20_Check.e : Entry := mkX [.leaf .slice, .agg [.int .i64, .int .i64]] (.one (.leaf (.int .i64))) fun x h => spileref20_Check x.1 x.2 h
theorem spileref20_Check.ok : EntryOK Try.prog 59 (spileref20_Check.e) := mkX_ok (spileref20_Check.tbok) Try.mixed Try.func59 (by kernel_rfl) (spileref20_Check.eq)
noncomputable def spileref20_CheckP (a0 : (List (Int × Int))) (a1 : (Int × Int)) : Option (Int) := (spileref20_Check (rowSV false [.int .i64, .int .i64] a0) a1 H.empty).bind fun p => rdRes false p.2 (.one (.leaf (.int .i64))) (Res.un (.one (.leaf (.int .i64))) p.1)
theorem spileref20_CheckP.eq : ∀ x : TT [.leaf (.row [.int .i64, .int .i64]), .agg [.int .i64, .int .i64]], ((evalFn Try.prog (spileref20_Check.tb) spileref20_Check.A Try.f59 (.one (.leaf (.int .i64))) (TT.lo false [.leaf (.row [.int .i64, .int .i64]), .agg [.int .i64, .int .i64]] x) H.empty).bind fun p => rdRes false p.2 (.one (.leaf (.int .i64))) (Res.un (.one (.leaf (.int .i64))) p.1)) = spileref20_CheckP x.1 x.2 := by
  intro x
  rw [show TT.lo false [.leaf (.row [.int .i64, .int .i64]), .agg [.int .i64, .int .i64]] x = TT.un [.leaf .slice, .agg [.int .i64, .int .i64]] ((rowSV false [.int .i64, .int .i64] x.1), x.2) from rfl, spileref20_Check.eq]
  rfl
noncomputable def spileref20_CheckP.e : Entry := mkP [.leaf (.row [.int .i64, .int .i64]), .agg [.int .i64, .int .i64]] (.one (.leaf (.int .i64))) fun x => spileref20_CheckP x.1 x.2
theorem spileref20_CheckP.ok : EntryOK Try.prog 59 (spileref20_CheckP.e) := mkP_ok (spileref20_Check.tbok) Try.mixed Try.func59 (by kernel_rfl) spileref20_CheckP.eq

/-! ### spile/spileref29.Check: function 25 -/
noncomputable def spileref29_Check.tb : Table := tab [(57, spileref16_RightP.e), (58, spileref29_sizesP.e), (59, spileref20_CheckP.e)] [] Table.nil
theorem spileref29_Check.tbok : TabOK Try.prog (spileref29_Check.tb) := TabOK.tab (TabOK.nil Try.prog) (all_cons spileref16_RightP.ok (all_cons spileref29_sizesP.ok (all_cons spileref20_CheckP.ok (all_nil _)))) (all_nil _)
noncomputable def spileref29_Check.loop1 (h : H) (a0 : SV) : (Int) × H → Option (Stp ((Int) × H) (Flow (Unit) (Int) × H)) := fun (y9, h10) =>
((rdT (.leaf .slice) h10 (.hp h.next 6 0)).bind fun x11 =>
(bif (decide (y9 < ((x11.len : Nat) : Int))) then ((((rdT (.leaf .slice) h10 (.hp h.next 6 0)).bind fun x12 =>
(guardO (0 ≤ y9 ∧ y9 < ((x12.len : Nat) : Int)) ((rdT (.agg [.int .i64, .int .i64]) h10 (V.add x12.a (Int.toNat y9 * 2))).bind fun (x13_0, x13_1) =>
((rdRow true h10 [.int .i64, .int .i64] a0).bind fun s15 =>
((spileref20_CheckP s15 (x13_0, x13_1)).bind fun r14 =>
(bif !(!(decide (r14 = 0))) then ((rdT (.leaf .slice) h10 (.hp h.next 6 0)).bind fun x16 =>
(guardO (0 ≤ y9 ∧ y9 < ((x16.len : Nat) : Int)) (guardO (V.nn ((V.add x16.a (Int.toNat y9 * 2)) : V) = true) ((rdT (.leaf (.int .i64)) h10 (V.add (V.add x16.a (Int.toNat y9 * 2)) 1)).bind fun x17 =>
(bif !(decide (x17 < 1)) then ((rdT (.leaf .slice) h10 (.hp h.next 6 0)).bind fun x18 =>
(guardO (0 ≤ y9 ∧ y9 < ((x18.len : Nat) : Int)) (guardO (V.nn ((V.add x18.a (Int.toNat y9 * 2)) : V) = true) ((rdT (.leaf (.int .i64)) h10 (V.add (V.add x18.a (Int.toNat y9 * 2)) 1)).bind fun x19 =>
(some ((decide ((1000000000 : Int) < x19)), h10)))))) else (some (true, h10))))))) else (some (true, h10))))))))).bind fun (y20, h21) =>
(bif y20 then (some (.done (.ret 1, h21))) else (some (.more ((IntKind.wrap .i64 (y9 + 1)), h21))))) else (some (.done (.ex0 (), h10)))))
noncomputable def spileref29_Check.loop2 (h : H) : (Int × Int) × H → Option (Stp ((Int × Int) × H) (Flow (Int) (Int) × H)) := fun ((y25, y26), h27) =>
((rdT (.leaf .slice) h27 (.hp h.next 6 1)).bind fun x28 =>
(bif (decide (y26 < ((x28.len : Nat) : Int))) then ((((rdT (.leaf .slice) h27 (.hp h.next 6 1)).bind fun x29 =>
(guardO (0 ≤ y26 ∧ y26 < ((x29.len : Nat) : Int)) ((rdT (.leaf (.int .i64)) h27 (V.add x29.a (Int.toNat y26 * 1))).bind fun x30 =>
(bif !(decide (x30 < 0)) then ((rdT (.leaf .slice) h27 (.hp h.next 6 1)).bind fun x31 =>
(guardO (0 ≤ y26 ∧ y26 < ((x31.len : Nat) : Int)) ((rdT (.leaf (.int .i64)) h27 (V.add x31.a (Int.toNat y26 * 1))).bind fun x32 =>
(bif !(decide ((64 : Int) < x32)) then ((rdT (.leaf .slice) h27 (.hp h.next 6 2)).bind fun x33 =>
(guardO (0 ≤ y26 ∧ y26 < ((x33.len : Nat) : Int)) ((rdT (.leaf (.int .i64)) h27 (V.add x33.a (Int.toNat y26 * 1))).bind fun x34 =>
(bif !(decide (x34 < 0)) then ((rdT (.leaf .slice) h27 (.hp h.next 6 2)).bind fun x35 =>
(guardO (0 ≤ y26 ∧ y26 < ((x35.len : Nat) : Int)) ((rdT (.leaf (.int .i64)) h27 (V.add x35.a (Int.toNat y26 * 1))).bind fun x36 =>
(some ((decide ((1000000 : Int) < x36)), h27))))) else (some (true, h27)))))) else (some (true, h27)))))) else (some (true, h27))))))).bind fun (y37, h38) =>
(bif y37 then (some (.done (.ret 2, h38))) else ((rdT (.leaf .slice) h38 (.hp h.next 6 1)).bind fun x39 =>
(guardO (0 ≤ y26 ∧ y26 < ((x39.len : Nat) : Int)) ((rdT (.leaf (.int .i64)) h38 (V.add x39.a (Int.toNat y26 * 1))).bind fun x40 =>
(some (.more (((IntKind.wrap .i64 (y25 * (IntKind.wrap .i64 (x40 + 1)))), (IntKind.wrap .i64 (y26 + 1))), h38)))))))) else (some (.done (.ex0 y25, h27)))))
noncomputable def spileref29_Check (a0 : SV) (a1 : (SV × SV × SV × Int × Int × Int)) (h : H) : Option ((Int) × H) :=
(match a1 with
| (a1_0, a1_1, a1_2, a1_3, a1_4, a1_5) =>
(let h1 : H := H.new h [.slice a1_0.a a1_0.len a1_0.cap a1_0.tail, .slice a1_1.a a1_1.len a1_1.cap a1_1.tail, .slice a1_2.a a1_2.len a1_2.cap a1_2.tail, .int .i64 a1_3, .int .i64 a1_4, .int .i64 a1_5] 6
((rdRow true h1 [.int .i64, .int .i64] a0).bind fun s3 =>
((spileref16_RightP s3).bind fun r2 =>
(bif (!r2) then (some (1, h1)) else ((rdT (.agg [.slice, .slice, .slice, .int .i64, .int .i64, .int .i64]) h1 (.hp h.next 6 0)).bind fun (x4_0, x4_1, x4_2, x4_3, x4_4, x4_5) =>
((rdRow true h1 [.int .i64, .int .i64] x4_0).bind fun s6 =>
((rdRow true h1 [.int .i64] x4_1).bind fun s7 =>
((rdRow true h1 [.int .i64] x4_2).bind fun s8 =>
((spileref29_sizesP (s6, s7, s8, x4_3, x4_4, x4_5)).bind fun r5 =>
(bif (!(decide (r5 = 0))) then (some (r5, h1)) else ((iter FUEL (spileref29_Check.loop1 h a0) (0, h1)).bind fun (fl23, h22) => match fl23 with
| .next _ => none
| .ret rr24 => (some (rr24, h22))
| .ex0 _ =>
((iter FUEL (spileref29_Check.loop2 h) ((1, 0), h22)).bind fun (fl42, h41) => match fl42 with
| .next _ => none
| .ret rr43 => (some (rr43, h41))
| .ex0 y44 =>
((((rdT (.leaf (.int .i64)) h41 (.hp h.next 6 3)).bind fun x45 =>
(bif !(decide (x45 < 0)) then ((rdT (.leaf (.int .i64)) h41 (.hp h.next 6 4)).bind fun x46 =>
(bif !(decide ((10000 : Int) < x46)) then ((rdT (.leaf (.int .i64)) h41 (.hp h.next 6 3)).bind fun x47 =>
((rdT (.leaf (.int .i64)) h41 (.hp h.next 6 4)).bind fun x48 =>
(bif !(decide (x48 < x47)) then ((rdT (.leaf (.int .i64)) h41 (.hp h.next 6 5)).bind fun x49 =>
(bif !(decide (x49 < 1)) then ((rdT (.leaf (.int .i64)) h41 (.hp h.next 6 5)).bind fun x50 =>
(some ((decide ((256 : Int) < x50)), h41))) else (some (true, h41)))) else (some (true, h41))))) else (some (true, h41)))) else (some (true, h41))))).bind fun (y51, h52) =>
(bif y51 then (some (2, h52)) else (bif (decide ((4096 : Int) < y44)) then (some (8, h52)) else (some (0, h52)))))
| .ex1 _ => none)
| .ex1 _ => none))))))))))))
def spileref29_Check.A : Ann := { lits := [], conds := [], loops := [(7, [6], [.leaf (.int .i64)], [], [], some 0, none), (13, [7, 8], [.leaf (.int .i64), .leaf (.int .i64)], [7], [.leaf (.int .i64)], some 2, none)], regs := [(9, [49], [.leaf .bool]), (15, [86], [.leaf .bool]), (18, [119], [.leaf .bool])] }
theorem spileref29_Check.eq : ∀ (x : TT [.leaf .slice, .agg [.slice, .slice, .slice, .int .i64, .int .i64, .int .i64]]) (h : H), evalFn Try.prog (spileref29_Check.tb) spileref29_Check.A Try.f25 (.one (.leaf (.int .i64))) (TT.un [.leaf .slice, .agg [.slice, .slice, .slice, .int .i64, .int .i64, .int .i64]] x) h = spileref29_Check x.1 x.2 h := by
  intro x h
  kernel_rfl
noncomputable def spileref29_Check.e : Entry := mkX [.leaf .slice, .agg [.slice, .slice, .slice, .int .i64, .int .i64, .int .i64]] (.one (.leaf (.int .i64))) fun x h => spileref29_Check x.1 x.2 h
theorem spileref29_Check.ok : EntryOK Try.prog 25 (spileref29_Check.e) := mkX_ok (spileref29_Check.tbok) Try.mixed Try.func25 (by kernel_rfl) (spileref29_Check.eq)
noncomputable def spileref29_CheckP (a0 : (List (Int × Int))) (a1 : ((List (Int × Int)) × (List (Int)) × (List (Int)) × Int × Int × Int)) : Option (Int) := (spileref29_Check (rowSV false [.int .i64, .int .i64] a0) (rowSV false [.int .i64, .int .i64] a1.1, rowSV false [.int .i64] a1.2.1, rowSV false [.int .i64] a1.2.2.1, a1.2.2.2.1, a1.2.2.2.2.1, a1.2.2.2.2.2) H.empty).bind fun p => rdRes false p.2 (.one (.leaf (.int .i64))) (Res.un (.one (.leaf (.int .i64))) p.1)
theorem spileref29_CheckP.eq : ∀ x : TT [.leaf (.row [.int .i64, .int .i64]), .agg [.row [.int .i64, .int .i64], .row [.int .i64], .row [.int .i64], .int .i64, .int .i64, .int .i64]], ((evalFn Try.prog (spileref29_Check.tb) spileref29_Check.A Try.f25 (.one (.leaf (.int .i64))) (TT.lo false [.leaf (.row [.int .i64, .int .i64]), .agg [.row [.int .i64, .int .i64], .row [.int .i64], .row [.int .i64], .int .i64, .int .i64, .int .i64]] x) H.empty).bind fun p => rdRes false p.2 (.one (.leaf (.int .i64))) (Res.un (.one (.leaf (.int .i64))) p.1)) = spileref29_CheckP x.1 x.2 := by
  intro x
  rw [show TT.lo false [.leaf (.row [.int .i64, .int .i64]), .agg [.row [.int .i64, .int .i64], .row [.int .i64], .row [.int .i64], .int .i64, .int .i64, .int .i64]] x = TT.un [.leaf .slice, .agg [.slice, .slice, .slice, .int .i64, .int .i64, .int .i64]] ((rowSV false [.int .i64, .int .i64] x.1), (rowSV false [.int .i64, .int .i64] x.2.1, rowSV false [.int .i64] x.2.2.1, rowSV false [.int .i64] x.2.2.2.1, x.2.2.2.2.1, x.2.2.2.2.2.1, x.2.2.2.2.2.2)) from rfl, spileref29_Check.eq]
  rfl
noncomputable def spileref29_CheckP.e : Entry := mkP [.leaf (.row [.int .i64, .int .i64]), .agg [.row [.int .i64, .int .i64], .row [.int .i64], .row [.int .i64], .int .i64, .int .i64, .int .i64]] (.one (.leaf (.int .i64))) fun x => spileref29_CheckP x.1 x.2
theorem spileref29_CheckP.ok : EntryOK Try.prog 25 (spileref29_CheckP.e) := mkP_ok (spileref29_Check.tbok) Try.mixed Try.func25 (by kernel_rfl) spileref29_CheckP.eq

/-! ### spile/spileref29.cost: function 38 -/
noncomputable def spileref29_cost.tb : Table := tab [] [] Table.nil
theorem spileref29_cost.tbok : TabOK Try.prog (spileref29_cost.tb) := TabOK.tab (TabOK.nil Try.prog) (all_nil _) (all_nil _)
noncomputable def spileref29_cost.loop1 (h : H) (a1 : SV) : (Int × Int) × H → Option (Stp ((Int × Int) × H) (Flow (Int) (Int) × H)) := fun ((y2, y3), h4) =>
(bif (decide (y3 < ((a1.len : Nat) : Int))) then (let h5 : H := H.reserve h4 0
(guardO (0 ≤ y3 ∧ y3 < ((a1.len : Nat) : Int)) ((rdT (.leaf (.int .i64)) h5 (V.add a1.a (Int.toNat y3 * 1))).bind fun x6 =>
((rdT (.leaf .slice) h5 (.hp h.next 6 2)).bind fun x7 =>
(guardO (0 ≤ y3 ∧ y3 < ((x7.len : Nat) : Int)) ((rdT (.leaf (.int .i64)) h5 (V.add x7.a (Int.toNat y3 * 1))).bind fun x8 =>
(some (.more (((IntKind.wrap .i64 (y2 + (IntKind.wrap .i64 (x6 * x8)))), (IntKind.wrap .i64 (y3 + 1))), h5))))))))) else (some (.done (.ex0 y2, h4))))
noncomputable def spileref29_cost (a0 : (SV × SV × SV × Int × Int × Int)) (a1 : SV) (h : H) : Option ((Int) × H) :=
(match a0 with
| (a0_0, a0_1, a0_2, a0_3, a0_4, a0_5) =>
(let h1 : H := H.new h [.slice a0_0.a a0_0.len a0_0.cap a0_0.tail, .slice a0_1.a a0_1.len a0_1.cap a0_1.tail, .slice a0_2.a a0_2.len a0_2.cap a0_2.tail, .int .i64 a0_3, .int .i64 a0_4, .int .i64 a0_5] 6
((iter FUEL (spileref29_cost.loop1 h a1) ((0, 0), h1)).bind fun (fl10, h9) => match fl10 with
| .next _ => none
| .ret rr11 => (some (rr11, h9))
| .ex0 y12 =>
(some (y12, h9))
| .ex1 _ => none)))
def spileref29_cost.A : Ann := { lits := [], conds := [], loops := [(3, [5, 6], [.leaf (.int .i64), .leaf (.int .i64)], [5], [.leaf (.int .i64)], some 0, none)], regs := [] }
theorem spileref29_cost.eq : ∀ (x : TT [.agg [.slice, .slice, .slice, .int .i64, .int .i64, .int .i64], .leaf .slice]) (h : H), evalFn Try.prog (spileref29_cost.tb) spileref29_cost.A Try.f38 (.one (.leaf (.int .i64))) (TT.un [.agg [.slice, .slice, .slice, .int .i64, .int .i64, .int .i64], .leaf .slice] x) h = spileref29_cost x.1 x.2 h := by
  intro x h
  kernel_rfl
noncomputable def spileref29_cost.e : Entry := mkX [.agg [.slice, .slice, .slice, .int .i64, .int .i64, .int .i64], .leaf .slice] (.one (.leaf (.int .i64))) fun x h => spileref29_cost x.1 x.2 h
theorem spileref29_cost.ok : EntryOK Try.prog 38 (spileref29_cost.e) := mkX_ok (spileref29_cost.tbok) Try.mixed Try.func38 (by kernel_rfl) (spileref29_cost.eq)
noncomputable def spileref29_costP (a0 : ((List (Int × Int)) × (List (Int)) × (List (Int)) × Int × Int × Int)) (a1 : (List (Int))) : Option (Int) := (spileref29_cost (rowSV false [.int .i64, .int .i64] a0.1, rowSV false [.int .i64] a0.2.1, rowSV false [.int .i64] a0.2.2.1, a0.2.2.2.1, a0.2.2.2.2.1, a0.2.2.2.2.2) (rowSV false [.int .i64] a1) H.empty).bind fun p => rdRes false p.2 (.one (.leaf (.int .i64))) (Res.un (.one (.leaf (.int .i64))) p.1)
theorem spileref29_costP.eq : ∀ x : TT [.agg [.row [.int .i64, .int .i64], .row [.int .i64], .row [.int .i64], .int .i64, .int .i64, .int .i64], .leaf (.row [.int .i64])], ((evalFn Try.prog (spileref29_cost.tb) spileref29_cost.A Try.f38 (.one (.leaf (.int .i64))) (TT.lo false [.agg [.row [.int .i64, .int .i64], .row [.int .i64], .row [.int .i64], .int .i64, .int .i64, .int .i64], .leaf (.row [.int .i64])] x) H.empty).bind fun p => rdRes false p.2 (.one (.leaf (.int .i64))) (Res.un (.one (.leaf (.int .i64))) p.1)) = spileref29_costP x.1 x.2 := by
  intro x
  rw [show TT.lo false [.agg [.row [.int .i64, .int .i64], .row [.int .i64], .row [.int .i64], .int .i64, .int .i64, .int .i64], .leaf (.row [.int .i64])] x = TT.un [.agg [.slice, .slice, .slice, .int .i64, .int .i64, .int .i64], .leaf .slice] ((rowSV false [.int .i64, .int .i64] x.1.1, rowSV false [.int .i64] x.1.2.1, rowSV false [.int .i64] x.1.2.2.1, x.1.2.2.2.1, x.1.2.2.2.2.1, x.1.2.2.2.2.2), (rowSV false [.int .i64] x.2)) from rfl, spileref29_cost.eq]
  rfl
noncomputable def spileref29_costP.e : Entry := mkP [.agg [.row [.int .i64, .int .i64], .row [.int .i64], .row [.int .i64], .int .i64, .int .i64, .int .i64], .leaf (.row [.int .i64])] (.one (.leaf (.int .i64))) fun x => spileref29_costP x.1 x.2
theorem spileref29_costP.ok : EntryOK Try.prog 38 (spileref29_costP.e) := mkP_ok (spileref29_cost.tbok) Try.mixed Try.func38 (by kernel_rfl) spileref29_costP.eq
end Go.Proofs.Ytfkabibbaajfhaa
