/- The functions of the program as Lean functions, each with the equation by which the evaluator is that function. Written by a program of this session (evdrive.py). Conditions: none. -/
import Derived.Test.YtaepkinihaipkaaProg
import Derived.Test.YtaepkinihaipkaaEvSpec
import Derived.Test.YtaepkinihaipkaaFn7
namespace Go.Proofs.Ytaepkinihaipkaa
open Go Go.Proofs.Ytaepkinihaipkaa.Ev
set_option maxRecDepth 100000
set_option linter.unusedVariables false
/-! ### spile/spilelaw21.MixDraws: function 5 -/
noncomputable def spilelaw21_MixDraws.tb : Table := tab [(10, spilelaw21_awakeP.e), (13, mix_DrawP.e), (18, spileref16_FewP.e), (23, alcohol_StrengthP.e)] [] Table.nil
theorem spilelaw21_MixDraws.tbok : TabOK Try.prog (spilelaw21_MixDraws.tb) := TabOK.tab (TabOK.nil Try.prog) (all_cons spilelaw21_awakeP.ok (all_cons mix_DrawP.ok (all_cons spileref16_FewP.ok (all_cons alcohol_StrengthP.ok (all_nil _))))) (all_nil _)
noncomputable def spilelaw21_MixDraws (a0 : SV) (a1 : (Int × Int)) (a2 : Int) (h : H) : Option ((Bool) × H) :=
(match a1 with
| (a1_0, a1_1) =>
(let h1 : H := H.new h [.int .i64 a1_0, .int .i64 a1_1] 2
((spilelaw21_awakeP ).bind fun r2 =>
(bif (!r2) then (some (false, h1)) else ((rdRow true h1 [.int .i64, .int .i64] a0).bind fun s4 =>
((spileref16_FewP s4).bind fun r3 =>
(bif (!r3) then (some (true, h1)) else ((rdT (.agg [.int .i64, .int .i64]) h1 (.hp h.next 2 0)).bind fun (x5_0, x5_1) =>
((mix_DrawP (x5_0, x5_1) a2).bind fun ((r6_0, r6_1), (r7_0, r7_1), r8) =>
(let h9 : H := H.new h1 [.int .i64 0, .int .i64 0] 2
(let h10 : H := H.new h9 [.int .i64 0, .int .i64 0] 2
((H.wrs h10 (.hp h1.next 2 0) [.int .i64 r6_0, .int .i64 r6_1]).bind fun h11 =>
((H.wrs h11 (.hp h9.next 2 0) [.int .i64 r7_0, .int .i64 r7_1]).bind fun h12 =>
(bif (!(decide (r8 = 0))) then ((((rdT (.agg [.int .i64, .int .i64]) h12 (.hp h1.next 2 0)).bind fun (x13_0, x13_1) =>
(bif (decide (x13_0 = 0) && (decide (x13_1 = 0))) then ((rdT (.agg [.int .i64, .int .i64]) h12 (.hp h9.next 2 0)).bind fun (x14_0, x14_1) =>
(some ((decide (x14_0 = 0) && (decide (x14_1 = 0))), h12))) else (some (false, h12))))).bind fun (y15, h16) =>
(some (y15, h16))) else ((((rdT (.leaf (.int .i64)) h12 (.hp h1.next 2 1)).bind fun x17 =>
(bif !(!(decide (x17 = a2))) then ((rdT (.leaf (.int .i64)) h12 (.hp h1.next 2 0)).bind fun x18 =>
(bif !(decide (x18 < 0)) then ((rdT (.leaf (.int .i64)) h12 (.hp h9.next 2 0)).bind fun x19 =>
(bif !(decide (x19 < 0)) then ((rdT (.leaf (.int .i64)) h12 (.hp h1.next 2 0)).bind fun x20 =>
((rdT (.leaf (.int .i64)) h12 (.hp h9.next 2 0)).bind fun x21 =>
((rdT (.leaf (.int .i64)) h12 (.hp h.next 2 0)).bind fun x22 =>
(bif !(!(decide ((IntKind.wrap .i64 (x20 + x21)) = x22))) then ((rdT (.leaf (.int .i64)) h12 (.hp h1.next 2 1)).bind fun x23 =>
((rdT (.leaf (.int .i64)) h12 (.hp h9.next 2 1)).bind fun x24 =>
((rdT (.leaf (.int .i64)) h12 (.hp h.next 2 1)).bind fun x25 =>
(some ((!(decide ((IntKind.wrap .i64 (x23 + x24)) = x25))), h12))))) else (some (true, h12)))))) else (some (true, h12)))) else (some (true, h12)))) else (some (true, h12))))).bind fun (y26, h27) =>
(bif y26 then (some (false, h27)) else ((rdT (.agg [.int .i64, .int .i64]) h27 (.hp h.next 2 0)).bind fun (x28_0, x28_1) =>
((rdRow true h27 [.int .i64, .int .i64] a0).bind fun s31 =>
((alcohol_StrengthP s31 (x28_0, x28_1)).bind fun (r29, r30) =>
(bif (!(decide (r30 = 0))) then (some (true, h27)) else ((rdT (.agg [.int .i64, .int .i64]) h27 (.hp h1.next 2 0)).bind fun (x32_0, x32_1) =>
((rdRow true h27 [.int .i64, .int .i64] a0).bind fun s35 =>
((alcohol_StrengthP s35 (x32_0, x32_1)).bind fun (r33, r34) =>
(((bif !(!(decide (r34 = 0))) then (some ((decide (r29 < r33)), h27)) else (some (true, h27)))).bind fun (y36, h37) =>
(bif y36 then (some (false, h37)) else ((rdT (.agg [.int .i64, .int .i64]) h37 (.hp h9.next 2 0)).bind fun (x38_0, x38_1) =>
((rdRow true h37 [.int .i64, .int .i64] a0).bind fun s41 =>
((alcohol_StrengthP s41 (x38_0, x38_1)).bind fun (r39, r40) =>
(((bif !(!(decide (r40 = 0))) then ((rdT (.leaf (.int .i64)) h37 (.hp h9.next 2 1)).bind fun x42 =>
(bif !(decide (x42 = 0)) then (some ((decide (r29 ≤ r39)), h37)) else (some (true, h37)))) else (some (true, h37)))).bind fun (y43, h44) =>
(some (y43, h44)))))))))))))))))))))))))))))))
def spilelaw21_MixDraws.A : Ann := { lits := [], conds := [], loops := [], regs := [(7, [6], [.leaf .bool]), (8, [71], [.leaf .bool]), (14, [92], [.leaf .bool]), (17, [6], [.leaf .bool])] }
theorem spilelaw21_MixDraws.eq : ∀ (x : TT [.leaf .slice, .agg [.int .i64, .int .i64], .leaf (.int .i64)]) (h : H), evalFn Try.prog (spilelaw21_MixDraws.tb) spilelaw21_MixDraws.A Try.f5 (.one (.leaf .bool)) (TT.un [.leaf .slice, .agg [.int .i64, .int .i64], .leaf (.int .i64)] x) h = spilelaw21_MixDraws x.1 x.2.1 x.2.2 h := by
  intro x h
  kernel_rfl
noncomputable def spilelaw21_MixDraws.e : Entry := mkX [.leaf .slice, .agg [.int .i64, .int .i64], .leaf (.int .i64)] (.one (.leaf .bool)) fun x h => spilelaw21_MixDraws x.1 x.2.1 x.2.2 h
theorem spilelaw21_MixDraws.ok : EntryOK Try.prog 5 (spilelaw21_MixDraws.e) := mkX_ok (spilelaw21_MixDraws.tbok) Try.mixed Try.func5 (by kernel_rfl) (spilelaw21_MixDraws.eq)
noncomputable def spilelaw21_MixDrawsP (a0 : (List (Int × Int))) (a1 : (Int × Int)) (a2 : Int) : Option (Bool) := (spilelaw21_MixDraws (rowSV false [.int .i64, .int .i64] a0) a1 a2 H.empty).bind fun p => rdRes false p.2 (.one (.leaf .bool)) (Res.un (.one (.leaf .bool)) p.1)
theorem spilelaw21_MixDrawsP.eq : ∀ x : TT [.leaf (.row [.int .i64, .int .i64]), .agg [.int .i64, .int .i64], .leaf (.int .i64)], ((evalFn Try.prog (spilelaw21_MixDraws.tb) spilelaw21_MixDraws.A Try.f5 (.one (.leaf .bool)) (TT.lo false [.leaf (.row [.int .i64, .int .i64]), .agg [.int .i64, .int .i64], .leaf (.int .i64)] x) H.empty).bind fun p => rdRes false p.2 (.one (.leaf .bool)) (Res.un (.one (.leaf .bool)) p.1)) = spilelaw21_MixDrawsP x.1 x.2.1 x.2.2 := by
  intro x
  rw [show TT.lo false [.leaf (.row [.int .i64, .int .i64]), .agg [.int .i64, .int .i64], .leaf (.int .i64)] x = TT.un [.leaf .slice, .agg [.int .i64, .int .i64], .leaf (.int .i64)] ((rowSV false [.int .i64, .int .i64] x.1), x.2.1, x.2.2) from rfl, spilelaw21_MixDraws.eq]
  rfl
noncomputable def spilelaw21_MixDrawsP.e : Entry := mkP [.leaf (.row [.int .i64, .int .i64]), .agg [.int .i64, .int .i64], .leaf (.int .i64)] (.one (.leaf .bool)) fun x => spilelaw21_MixDrawsP x.1 x.2.1 x.2.2
theorem spilelaw21_MixDrawsP.ok : EntryOK Try.prog 5 (spilelaw21_MixDrawsP.e) := mkP_ok (spilelaw21_MixDraws.tbok) Try.mixed Try.func5 (by kernel_rfl) spilelaw21_MixDrawsP.eq

/-! ### spile/spilelaw21.MixParts: function 6 -/
noncomputable def spilelaw21_MixParts.tb : Table := tab [(10, spilelaw21_awakeP.e), (15, mix_DivideP.e)] [] Table.nil
theorem spilelaw21_MixParts.tbok : TabOK Try.prog (spilelaw21_MixParts.tb) := TabOK.tab (TabOK.nil Try.prog) (all_cons spilelaw21_awakeP.ok (all_cons mix_DivideP.ok (all_nil _))) (all_nil _)
noncomputable def spilelaw21_MixParts.loop1 (a1 : SV) (h1 : H) (r4 : List (Int × Int)) : (Int) × H → Option (Stp ((Int) × H) (Flow (Unit) (Bool) × H)) := fun (y9, h10) =>
(bif (decide (y9 < ((r4.length : Nat) : Int))) then (guardO (0 ≤ y9 ∧ y9 < ((r4.length : Nat) : Int)) ((rdT (.agg [.int .i64, .int .i64]) h10 (V.add ((rowSV true [.int .i64, .int .i64] r4).a) (Int.toNat y9 * 2))).bind fun (x11_0, x11_1) =>
(let h12 : H := H.new h10 [.int .i64 0, .int .i64 0] 2
((H.wrs h12 (.hp h10.next 2 0) [.int .i64 x11_0, .int .i64 x11_1]).bind fun h13 =>
((((rdT (.leaf (.int .i64)) h13 (.hp h10.next 2 0)).bind fun x14 =>
(bif !(decide (x14 < 0)) then ((rdT (.leaf (.int .i64)) h13 (.hp h10.next 2 1)).bind fun x15 =>
(bif !(decide (x15 < 0)) then ((rdT (.leaf (.int .i64)) h13 (.hp h10.next 2 1)).bind fun x16 =>
(bif (decide (x16 = 0)) then ((rdT (.leaf (.int .i64)) h13 (.hp h10.next 2 0)).bind fun x17 =>
(bif !(!(decide (x17 = 0))) then (guardO (0 ≤ y9 ∧ y9 < ((a1.len : Nat) : Int)) ((rdT (.leaf (.int .i64)) h13 (V.add a1.a (Int.toNat y9 * 1))).bind fun x18 =>
(bif (decide (x18 = 0)) then ((rdT (.agg [.int .i64, .int .i64]) h13 (.hp h10.next 2 0)).bind fun (x19_0, x19_1) =>
(some ((!(decide (x19_0 = 0) && (decide (x19_1 = 0)))), h13))) else (some (false, h13))))) else (some (true, h13)))) else (guardO (0 ≤ y9 ∧ y9 < ((a1.len : Nat) : Int)) ((rdT (.leaf (.int .i64)) h13 (V.add a1.a (Int.toNat y9 * 1))).bind fun x20 =>
(bif (decide (x20 = 0)) then ((rdT (.agg [.int .i64, .int .i64]) h13 (.hp h10.next 2 0)).bind fun (x21_0, x21_1) =>
(some ((!(decide (x21_0 = 0) && (decide (x21_1 = 0)))), h13))) else (some (false, h13))))))) else (some (true, h13)))) else (some (true, h13))))).bind fun (y22, h23) =>
(bif y22 then (some (.done (.ret false, h23))) else ((rdT (.leaf (.int .i64)) h23 (.hp h1.next 2 0)).bind fun x24 =>
((rdT (.leaf (.int .i64)) h23 (.hp h10.next 2 0)).bind fun x25 =>
((rdT (.leaf (.int .i64)) h23 (.hp h1.next 2 1)).bind fun x26 =>
((rdT (.leaf (.int .i64)) h23 (.hp h10.next 2 1)).bind fun x27 =>
((H.wrs h23 (.hp h1.next 2 0) [.int .i64 (IntKind.wrap .i64 (x24 + x25)), .int .i64 (IntKind.wrap .i64 (x26 + x27))]).bind fun h28 =>
(some (.more ((IntKind.wrap .i64 (y9 + 1)), h28)))))))))))))) else (some (.done (.ex0 (), h10))))
noncomputable def spilelaw21_MixParts (a0 : (Int × Int)) (a1 : SV) (h : H) : Option ((Bool) × H) :=
(match a0 with
| (a0_0, a0_1) =>
(let h1 : H := H.new h [.int .i64 a0_0, .int .i64 a0_1] 2
((spilelaw21_awakeP ).bind fun r2 =>
(bif (!r2) then (some (false, h1)) else (bif (decide ((70 : Int) < ((a1.len : Nat) : Int))) then (some (true, h1)) else ((rdT (.agg [.int .i64, .int .i64]) h1 (.hp h.next 2 0)).bind fun (x3_0, x3_1) =>
((rdRow true h1 [.int .i64] a1).bind fun s6 =>
((mix_DivideP (x3_0, x3_1) s6).bind fun (r4, r5) =>
(bif (!(decide (r5 = 0))) then (some ((decide (((r4.length : Nat) : Int) = 0)), h1)) else (bif (!(decide (((r4.length : Nat) : Int) = ((a1.len : Nat) : Int)))) then (some (false, h1)) else (let h7 : H := H.new h1 [.int .i64 0, .int .i64 0] 2
((H.wrs h7 (.hp h1.next 2 0) [.int .i64 0, .int .i64 0]).bind fun h8 =>
((iter FUEL (spilelaw21_MixParts.loop1 a1 h1 r4) (0, h8)).bind fun (fl30, h29) => match fl30 with
| .next _ => none
| .ret rr31 => (some (rr31, h29))
| .ex0 _ =>
((rdT (.agg [.int .i64, .int .i64]) h29 (.hp h1.next 2 0)).bind fun (x32_0, x32_1) =>
((rdT (.agg [.int .i64, .int .i64]) h29 (.hp h.next 2 0)).bind fun (x33_0, x33_1) =>
(some ((decide (x32_0 = x33_0) && (decide (x32_1 = x33_1))), h29))))
| .ex1 _ => none)))))))))))))
def spilelaw21_MixParts.A : Ann := { lits := [], conds := [], loops := [(12, [34], [.leaf (.int .i64)], [], [], some 0, none)], regs := [(14, [68], [.leaf .bool])] }
theorem spilelaw21_MixParts.eq : ∀ (x : TT [.agg [.int .i64, .int .i64], .leaf .slice]) (h : H), evalFn Try.prog (spilelaw21_MixParts.tb) spilelaw21_MixParts.A Try.f6 (.one (.leaf .bool)) (TT.un [.agg [.int .i64, .int .i64], .leaf .slice] x) h = spilelaw21_MixParts x.1 x.2 h := by
  intro x h
  kernel_rfl
noncomputable def spilelaw21_MixParts.e : Entry := mkX [.agg [.int .i64, .int .i64], .leaf .slice] (.one (.leaf .bool)) fun x h => spilelaw21_MixParts x.1 x.2 h
theorem spilelaw21_MixParts.ok : EntryOK Try.prog 6 (spilelaw21_MixParts.e) := mkX_ok (spilelaw21_MixParts.tbok) Try.mixed Try.func6 (by kernel_rfl) (spilelaw21_MixParts.eq)
noncomputable def spilelaw21_MixPartsP (a0 : (Int × Int)) (a1 : (List (Int))) : Option (Bool) := (spilelaw21_MixParts a0 (rowSV false [.int .i64] a1) H.empty).bind fun p => rdRes false p.2 (.one (.leaf .bool)) (Res.un (.one (.leaf .bool)) p.1)
theorem spilelaw21_MixPartsP.eq : ∀ x : TT [.agg [.int .i64, .int .i64], .leaf (.row [.int .i64])], ((evalFn Try.prog (spilelaw21_MixParts.tb) spilelaw21_MixParts.A Try.f6 (.one (.leaf .bool)) (TT.lo false [.agg [.int .i64, .int .i64], .leaf (.row [.int .i64])] x) H.empty).bind fun p => rdRes false p.2 (.one (.leaf .bool)) (Res.un (.one (.leaf .bool)) p.1)) = spilelaw21_MixPartsP x.1 x.2 := by
  intro x
  rw [show TT.lo false [.agg [.int .i64, .int .i64], .leaf (.row [.int .i64])] x = TT.un [.agg [.int .i64, .int .i64], .leaf .slice] (x.1, (rowSV false [.int .i64] x.2)) from rfl, spilelaw21_MixParts.eq]
  rfl
noncomputable def spilelaw21_MixPartsP.e : Entry := mkP [.agg [.int .i64, .int .i64], .leaf (.row [.int .i64])] (.one (.leaf .bool)) fun x => spilelaw21_MixPartsP x.1 x.2
theorem spilelaw21_MixPartsP.ok : EntryOK Try.prog 6 (spilelaw21_MixPartsP.e) := mkP_ok (spilelaw21_MixParts.tbok) Try.mixed Try.func6 (by kernel_rfl) spilelaw21_MixPartsP.eq

/-! ### spile/spilelaw21.MixBetween: function 7 -/
noncomputable def spilelaw21_MixBetween.tb : Table := tab [(10, spilelaw21_awakeP.e), (11, mix_SumP.e), (18, spileref16_FewP.e), (21, mix_BetweenP.e), (23, alcohol_StrengthP.e)] [] Table.nil
theorem spilelaw21_MixBetween.tbok : TabOK Try.prog (spilelaw21_MixBetween.tb) := TabOK.tab (TabOK.nil Try.prog) (all_cons spilelaw21_awakeP.ok (all_cons mix_SumP.ok (all_cons spileref16_FewP.ok (all_cons mix_BetweenP.ok (all_cons alcohol_StrengthP.ok (all_nil _)))))) (all_nil _)
noncomputable def spilelaw21_MixBetween.loop1 (a0 : SV) (a1 : SV) (h5 : H) : (Int × Int) × H → Option (Stp ((Int × Int) × H) (Flow (Int) (Bool) × H)) := fun ((y29, y30), h31) =>
(bif (decide (y30 < ((a1.len : Nat) : Int))) then (guardO (0 ≤ y30 ∧ y30 < ((a1.len : Nat) : Int)) ((rdT (.agg [.int .i64, .int .i64]) h31 (V.add a1.a (Int.toNat y30 * 2))).bind fun (x32_0, x32_1) =>
(let h33 : H := H.new h31 [.int .i64 0, .int .i64 0] 2
((H.wrs h33 (.hp h31.next 2 0) [.int .i64 x32_0, .int .i64 x32_1]).bind fun h34 =>
((rdT (.leaf (.int .i64)) h34 (.hp h31.next 2 1)).bind fun x35 =>
(bif (decide (x35 = 0)) then (some (.more ((y29, (IntKind.wrap .i64 (y30 + 1))), h34))) else ((rdT (.agg [.int .i64, .int .i64]) h34 (.hp h31.next 2 0)).bind fun (x36_0, x36_1) =>
((rdRow true h34 [.int .i64, .int .i64] a0).bind fun s39 =>
((alcohol_StrengthP s39 (x36_0, x36_1)).bind fun (r37, r38) =>
(((bif !(!(decide (r38 = 0))) then ((rdT (.leaf (.int .i64)) h34 (.hp h5.next 2 0)).bind fun x40 =>
(bif !(decide (r37 < x40)) then ((rdT (.leaf (.int .i64)) h34 (.hp h5.next 2 1)).bind fun x41 =>
(some ((decide (x41 < r37)), h34))) else (some (true, h34)))) else (some (true, h34)))).bind fun (y42, h43) =>
(bif y42 then (some (.done (.ret false, h43))) else ((rdT (.leaf (.int .i64)) h43 (.hp h5.next 2 0)).bind fun x44 =>
((bif (decide (r37 = x44)) then (some (.next (bitsI .or .i64 y29 1), h43)) else (some (.next y29, h43)) : Option (Flow (Int) (Bool) × H)).bind fun (fl46, h45) => match fl46 with
| .next y47 =>
((rdT (.leaf (.int .i64)) h45 (.hp h5.next 2 1)).bind fun x48 =>
((bif (decide (r37 = x48)) then (some (.next (bitsI .or .i64 y47 2), h45)) else (some (.next y47, h45)) : Option (Flow (Int) (Bool) × H)).bind fun (fl50, h49) => match fl50 with
| .next y51 =>
(some (.more ((y51, (IntKind.wrap .i64 (y30 + 1))), h49)))
| .ret rr52 => (some (.done (.ret rr52, h49)))
| .ex0 _ => none
| .ex1 _ => none))
| .ret rr53 => (some (.done (.ret rr53, h45)))
| .ex0 _ => none
| .ex1 _ => none))))))))))))) else (some (.done (.ex0 y29, h31))))
noncomputable def spilelaw21_MixBetween (a0 : SV) (a1 : SV) (h : H) : Option ((Bool) × H) :=
((spilelaw21_awakeP ).bind fun r1 =>
(bif (!r1) then (some (false, h)) else ((((rdRow true h [.int .i64, .int .i64] a0).bind fun s3 =>
((spileref16_FewP s3).bind fun r2 =>
(bif !(!r2) then (some ((decide ((8 : Int) < ((a1.len : Nat) : Int))), h)) else (some (true, h)))))).bind fun (y4, h5) =>
(bif y4 then (some (true, h5)) else ((rdRow true h5 [.int .i64, .int .i64] a0).bind fun s9 =>
((rdRow true h5 [.int .i64, .int .i64] a1).bind fun s10 =>
((mix_BetweenP s9 s10).bind fun ((r6_0, r6_1), r7, r8) =>
(let h11 : H := H.new h5 [.int .i64 0, .int .i64 0] 2
((H.wrs h11 (.hp h5.next 2 0) [.int .i64 r6_0, .int .i64 r6_1]).bind fun h12 =>
(bif (!(decide (r8 = 0))) then (((bif (decide (r7 = 0)) then ((rdT (.agg [.int .i64, .int .i64]) h12 (.hp h5.next 2 0)).bind fun (x13_0, x13_1) =>
(some ((decide (x13_0 = 0) && (decide (x13_1 = 0))), h12))) else (some (false, h12)))).bind fun (y14, h15) =>
(some (y14, h15))) else ((rdRow true h12 [.int .i64, .int .i64] a1).bind fun s18 =>
((mix_SumP s18).bind fun ((r16_0, r16_1), r17) =>
(let h19 : H := H.new h12 [.int .i64 0, .int .i64 0] 2
((H.wrs h19 (.hp h12.next 2 0) [.int .i64 r16_0, .int .i64 r16_1]).bind fun h20 =>
((rdT (.agg [.int .i64, .int .i64]) h20 (.hp h12.next 2 0)).bind fun (x21_0, x21_1) =>
((rdRow true h20 [.int .i64, .int .i64] a0).bind fun s24 =>
((alcohol_StrengthP s24 (x21_0, x21_1)).bind fun (r22, r23) =>
(((bif !(!(decide (r17 = 0))) then (bif !(!(decide (r23 = 0))) then (bif !(!(decide (r22 = r7))) then ((rdT (.leaf (.int .i64)) h20 (.hp h5.next 2 0)).bind fun x25 =>
(bif !(decide (r7 < x25)) then ((rdT (.leaf (.int .i64)) h20 (.hp h5.next 2 1)).bind fun x26 =>
(some ((decide (x26 < r7)), h20))) else (some (true, h20)))) else (some (true, h20))) else (some (true, h20))) else (some (true, h20)))).bind fun (y27, h28) =>
(bif y27 then (some (false, h28)) else ((iter FUEL (spilelaw21_MixBetween.loop1 a0 a1 h5) ((0, 0), h28)).bind fun (fl55, h54) => match fl55 with
| .next _ => none
| .ret rr56 => (some (rr56, h54))
| .ex0 y57 =>
(some ((decide (y57 = 3)), h54))
| .ex1 _ => none))))))))))))))))))))
def spilelaw21_MixBetween.A : Ann := { lits := [], conds := [(109, [12], [.leaf (.int .i64)], none, none), (115, [12], [.leaf (.int .i64)], none, none)], loops := [(14, [12, 79], [.leaf (.int .i64), .leaf (.int .i64)], [12], [.leaf (.int .i64)], some 0, none)], regs := [(3, [26], [.leaf .bool]), (7, [4], [.leaf .bool]), (10, [76], [.leaf .bool]), (18, [105], [.leaf .bool])] }
theorem spilelaw21_MixBetween.eq : ∀ (x : TT [.leaf .slice, .leaf .slice]) (h : H), evalFn Try.prog (spilelaw21_MixBetween.tb) spilelaw21_MixBetween.A Try.f7 (.one (.leaf .bool)) (TT.un [.leaf .slice, .leaf .slice] x) h = spilelaw21_MixBetween x.1 x.2 h := by
  intro x h
  kernel_rfl
noncomputable def spilelaw21_MixBetween.e : Entry := mkX [.leaf .slice, .leaf .slice] (.one (.leaf .bool)) fun x h => spilelaw21_MixBetween x.1 x.2 h
theorem spilelaw21_MixBetween.ok : EntryOK Try.prog 7 (spilelaw21_MixBetween.e) := mkX_ok (spilelaw21_MixBetween.tbok) Try.mixed Try.func7 (by kernel_rfl) (spilelaw21_MixBetween.eq)
noncomputable def spilelaw21_MixBetweenP (a0 : (List (Int × Int))) (a1 : (List (Int × Int))) : Option (Bool) := (spilelaw21_MixBetween (rowSV false [.int .i64, .int .i64] a0) (rowSV false [.int .i64, .int .i64] a1) H.empty).bind fun p => rdRes false p.2 (.one (.leaf .bool)) (Res.un (.one (.leaf .bool)) p.1)
theorem spilelaw21_MixBetweenP.eq : ∀ x : TT [.leaf (.row [.int .i64, .int .i64]), .leaf (.row [.int .i64, .int .i64])], ((evalFn Try.prog (spilelaw21_MixBetween.tb) spilelaw21_MixBetween.A Try.f7 (.one (.leaf .bool)) (TT.lo false [.leaf (.row [.int .i64, .int .i64]), .leaf (.row [.int .i64, .int .i64])] x) H.empty).bind fun p => rdRes false p.2 (.one (.leaf .bool)) (Res.un (.one (.leaf .bool)) p.1)) = spilelaw21_MixBetweenP x.1 x.2 := by
  intro x
  rw [show TT.lo false [.leaf (.row [.int .i64, .int .i64]), .leaf (.row [.int .i64, .int .i64])] x = TT.un [.leaf .slice, .leaf .slice] ((rowSV false [.int .i64, .int .i64] x.1), (rowSV false [.int .i64, .int .i64] x.2)) from rfl, spilelaw21_MixBetween.eq]
  rfl
noncomputable def spilelaw21_MixBetweenP.e : Entry := mkP [.leaf (.row [.int .i64, .int .i64]), .leaf (.row [.int .i64, .int .i64])] (.one (.leaf .bool)) fun x => spilelaw21_MixBetweenP x.1 x.2
theorem spilelaw21_MixBetweenP.ok : EntryOK Try.prog 7 (spilelaw21_MixBetweenP.e) := mkP_ok (spilelaw21_MixBetween.tbok) Try.mixed Try.func7 (by kernel_rfl) spilelaw21_MixBetweenP.eq

/-! ### spile/spilelaw21.MixSteps: function 8 -/
noncomputable def spilelaw21_MixSteps.tb : Table := tab [(10, spilelaw21_awakeP.e), (13, mix_DrawP.e)] [] Table.nil
theorem spilelaw21_MixSteps.tbok : TabOK Try.prog (spilelaw21_MixSteps.tb) := TabOK.tab (TabOK.nil Try.prog) (all_cons spilelaw21_awakeP.ok (all_cons mix_DrawP.ok (all_nil _))) (all_nil _)
noncomputable def spilelaw21_MixSteps (a0 : (Int × Int)) (a1 : Int) (a2 : Int) (h : H) : Option ((Bool) × H) :=
(match a0 with
| (a0_0, a0_1) =>
(let h1 : H := H.new h [.int .i64 a0_0, .int .i64 a0_1] 2
((spilelaw21_awakeP ).bind fun r2 =>
(bif (!r2) then (some (false, h1)) else ((rdT (.agg [.int .i64, .int .i64]) h1 (.hp h.next 2 0)).bind fun (x3_0, x3_1) =>
((mix_DrawP (x3_0, x3_1) a1).bind fun ((r4_0, r4_1), (r5_0, r5_1), r6) =>
(let h7 : H := H.new h1 [.int .i64 0, .int .i64 0] 2
(let h8 : H := H.new h7 [.int .i64 0, .int .i64 0] 2
((H.wrs h8 (.hp h1.next 2 0) [.int .i64 r4_0, .int .i64 r4_1]).bind fun h9 =>
((H.wrs h9 (.hp h7.next 2 0) [.int .i64 r5_0, .int .i64 r5_1]).bind fun h10 =>
(bif (!(decide (r6 = 0))) then ((rdT (.agg [.int .i64, .int .i64]) h10 (.hp h7.next 2 0)).bind fun (x11_0, x11_1) =>
(some ((decide (x11_0 = 0) && (decide (x11_1 = 0))), h10))) else ((rdT (.agg [.int .i64, .int .i64]) h10 (.hp h7.next 2 0)).bind fun (x12_0, x12_1) =>
((mix_DrawP (x12_0, x12_1) a2).bind fun ((r13_0, r13_1), (r14_0, r14_1), r15) =>
(let h16 : H := H.new h10 [.int .i64 0, .int .i64 0] 2
(let h17 : H := H.new h16 [.int .i64 0, .int .i64 0] 2
((H.wrs h17 (.hp h10.next 2 0) [.int .i64 r13_0, .int .i64 r13_1]).bind fun h18 =>
((H.wrs h18 (.hp h16.next 2 0) [.int .i64 r14_0, .int .i64 r14_1]).bind fun h19 =>
(((bif !(!(decide (r15 = 0))) then ((rdT (.leaf (.int .i64)) h19 (.hp h.next 2 1)).bind fun x20 =>
(some ((decide (x20 < (IntKind.wrap .i64 (a1 + a2)))), h19))) else (some (true, h19)))).bind fun (y21, h22) =>
(bif y21 then ((rdT (.agg [.int .i64, .int .i64]) h22 (.hp h16.next 2 0)).bind fun (x23_0, x23_1) =>
(some ((decide (x23_0 = 0) && (decide (x23_1 = 0))), h22))) else ((rdT (.agg [.int .i64, .int .i64]) h22 (.hp h.next 2 0)).bind fun (x24_0, x24_1) =>
((mix_DrawP (x24_0, x24_1) (IntKind.wrap .i64 (a1 + a2))).bind fun ((r25_0, r25_1), (r26_0, r26_1), r27) =>
(let h28 : H := H.new h22 [.int .i64 0, .int .i64 0] 2
(let h29 : H := H.new h28 [.int .i64 0, .int .i64 0] 2
((H.wrs h29 (.hp h22.next 2 0) [.int .i64 r25_0, .int .i64 r25_1]).bind fun h30 =>
((H.wrs h30 (.hp h28.next 2 0) [.int .i64 r26_0, .int .i64 r26_1]).bind fun h31 =>
((rdT (.leaf (.int .i64)) h31 (.hp h16.next 2 0)).bind fun x32 =>
((rdT (.leaf (.int .i64)) h31 (.hp h28.next 2 0)).bind fun x33 =>
(((bif (decide (r27 = 0)) then ((rdT (.leaf (.int .i64)) h31 (.hp h16.next 2 1)).bind fun x34 =>
((rdT (.leaf (.int .i64)) h31 (.hp h28.next 2 1)).bind fun x35 =>
(bif (decide (x34 = x35)) then (bif (decide ((-1 : Int) ≤ (IntKind.wrap .i64 (x32 - x33)))) then (some ((decide ((IntKind.wrap .i64 (x32 - x33)) ≤ 1)), h31)) else (some (false, h31))) else (some (false, h31))))) else (some (false, h31)))).bind fun (y36, h37) =>
(some (y36, h37))))))))))))))))))))))))))))))
def spilelaw21_MixSteps.A : Ann := { lits := [], conds := [], loops := [], regs := [(7, [47], [.leaf .bool]), (11, [6], [.leaf .bool])] }
theorem spilelaw21_MixSteps.eq : ∀ (x : TT [.agg [.int .i64, .int .i64], .leaf (.int .i64), .leaf (.int .i64)]) (h : H), evalFn Try.prog (spilelaw21_MixSteps.tb) spilelaw21_MixSteps.A Try.f8 (.one (.leaf .bool)) (TT.un [.agg [.int .i64, .int .i64], .leaf (.int .i64), .leaf (.int .i64)] x) h = spilelaw21_MixSteps x.1 x.2.1 x.2.2 h := by
  intro x h
  kernel_rfl
noncomputable def spilelaw21_MixSteps.e : Entry := mkX [.agg [.int .i64, .int .i64], .leaf (.int .i64), .leaf (.int .i64)] (.one (.leaf .bool)) fun x h => spilelaw21_MixSteps x.1 x.2.1 x.2.2 h
theorem spilelaw21_MixSteps.ok : EntryOK Try.prog 8 (spilelaw21_MixSteps.e) := mkX_ok (spilelaw21_MixSteps.tbok) Try.mixed Try.func8 (by kernel_rfl) (spilelaw21_MixSteps.eq)
noncomputable def spilelaw21_MixStepsP (a0 : (Int × Int)) (a1 : Int) (a2 : Int) : Option (Bool) := (spilelaw21_MixSteps a0 a1 a2 H.empty).bind fun p => rdRes false p.2 (.one (.leaf .bool)) (Res.un (.one (.leaf .bool)) p.1)
theorem spilelaw21_MixStepsP.eq : ∀ x : TT [.agg [.int .i64, .int .i64], .leaf (.int .i64), .leaf (.int .i64)], ((evalFn Try.prog (spilelaw21_MixSteps.tb) spilelaw21_MixSteps.A Try.f8 (.one (.leaf .bool)) (TT.lo false [.agg [.int .i64, .int .i64], .leaf (.int .i64), .leaf (.int .i64)] x) H.empty).bind fun p => rdRes false p.2 (.one (.leaf .bool)) (Res.un (.one (.leaf .bool)) p.1)) = spilelaw21_MixStepsP x.1 x.2.1 x.2.2 := by
  intro x
  rw [show TT.lo false [.agg [.int .i64, .int .i64], .leaf (.int .i64), .leaf (.int .i64)] x = TT.un [.agg [.int .i64, .int .i64], .leaf (.int .i64), .leaf (.int .i64)] (x.1, x.2.1, x.2.2) from rfl, spilelaw21_MixSteps.eq]
  rfl
noncomputable def spilelaw21_MixStepsP.e : Entry := mkP [.agg [.int .i64, .int .i64], .leaf (.int .i64), .leaf (.int .i64)] (.one (.leaf .bool)) fun x => spilelaw21_MixStepsP x.1 x.2.1 x.2.2
theorem spilelaw21_MixStepsP.ok : EntryOK Try.prog 8 (spilelaw21_MixStepsP.e) := mkP_ok (spilelaw21_MixSteps.tbok) Try.mixed Try.func8 (by kernel_rfl) spilelaw21_MixStepsP.eq

/-! ### slices.Clone[[]spile/api.Liquid,spile/api.Liquid]: function 24 -/
noncomputable def slices_Clone_api_Liquid_api_Liquid.tb : Table := tab [] [] Table.nil
theorem slices_Clone_api_Liquid_api_Liquid.tbok : TabOK Try.prog (slices_Clone_api_Liquid_api_Liquid.tb) := TabOK.tab (TabOK.nil Try.prog) (all_nil _) (all_nil _)
noncomputable def slices_Clone_api_Liquid_api_Liquid (a0 : SV) (h : H) : Option ((SV) × H) :=
(bif !(V.mayNil (a0.a : V)) then (bif (!(V.nn (a0.a : V))) then (some (⟨.nil, 0, 0, false⟩, h)) else ((cellsOf h (.slice a0.a a0.len a0.cap a0.tail : V) 2).bind fun (n3, cs3) =>
((appendS h none 2 16 (⟨.lp true ([]) 0, 0, 0, false⟩) cs3 n3).bind fun (s3, h2) =>
(some (s3, h2))))) else none)
def slices_Clone_api_Liquid_api_Liquid.A : Ann := { lits := [], conds := [], loops := [], regs := [] }
theorem slices_Clone_api_Liquid_api_Liquid.eq : ∀ (x : TT [.leaf .slice]) (h : H), evalFn Try.prog (slices_Clone_api_Liquid_api_Liquid.tb) slices_Clone_api_Liquid_api_Liquid.A Try.f24 (.one (.leaf .slice)) (TT.un [.leaf .slice] x) h = slices_Clone_api_Liquid_api_Liquid x h := by
  intro x h
  kernel_rfl
noncomputable def slices_Clone_api_Liquid_api_Liquid.e : Entry := mkX [.leaf .slice] (.one (.leaf .slice)) (cloneX 2 16)
theorem slices_Clone_api_Liquid_api_Liquid.ok : EntryOK Try.prog 24 slices_Clone_api_Liquid_api_Liquid.e := cloneX_ok (g := slices_Clone_api_Liquid_api_Liquid) (mkX_ok (slices_Clone_api_Liquid_api_Liquid.tbok) Try.mixed Try.func24 (by kernel_rfl) (slices_Clone_api_Liquid_api_Liquid.eq)) (fun s h => by kernel_rfl)
noncomputable def slices_Clone_api_Liquid_api_LiquidP.e : Entry := mkP [.leaf (.row [.int .i64, .int .i64])] (.one (.leaf (.row [.int .i64, .int .i64]))) (cloneP 16)
theorem slices_Clone_api_Liquid_api_LiquidP.ok : EntryOK Try.prog 24 slices_Clone_api_Liquid_api_LiquidP.e := cloneP_ok slices_Clone_api_Liquid_api_Liquid.ok rfl (by omega) rfl

/-! ### slices.Reverse[[]spile/api.Liquid,spile/api.Liquid]: function 25 -/
noncomputable def slices_Reverse_api_Liquid_api_Liquid.tb : Table := tab [] [] Table.nil
theorem slices_Reverse_api_Liquid_api_Liquid.tbok : TabOK Try.prog (slices_Reverse_api_Liquid_api_Liquid.tb) := TabOK.tab (TabOK.nil Try.prog) (all_nil _) (all_nil _)
noncomputable def slices_Reverse_api_Liquid_api_Liquid.loop1 (a0 : SV) : (Int × Int) × H → Option (Stp ((Int × Int) × H) (Flow (Unit) (Unit) × H)) := fun ((y1, y2), h3) =>
(bif (decide (y1 < y2)) then (let h4 : H := H.reserve h3 0
(guardO (0 ≤ y2 ∧ y2 < ((a0.len : Nat) : Int)) ((rdT (.agg [.int .i64, .int .i64]) h4 (V.add a0.a (Int.toNat y2 * 2))).bind fun (x5_0, x5_1) =>
(guardO (0 ≤ y1 ∧ y1 < ((a0.len : Nat) : Int)) ((rdT (.agg [.int .i64, .int .i64]) h4 (V.add a0.a (Int.toNat y1 * 2))).bind fun (x6_0, x6_1) =>
(guardO (0 ≤ y1 ∧ y1 < ((a0.len : Nat) : Int)) ((H.wrs h4 (V.add a0.a (Int.toNat y1 * 2)) [.int .i64 x5_0, .int .i64 x5_1]).bind fun h7 =>
(guardO (0 ≤ y2 ∧ y2 < ((a0.len : Nat) : Int)) ((H.wrs h7 (V.add a0.a (Int.toNat y2 * 2)) [.int .i64 x6_0, .int .i64 x6_1]).bind fun h8 =>
(some (.more (((IntKind.wrap .i64 (y1 + 1)), (IntKind.wrap .i64 (y2 - 1))), h8)))))))))))) else (some (.done (.ex0 (), h3))))
noncomputable def slices_Reverse_api_Liquid_api_Liquid (a0 : SV) (h : H) : Option ((Unit) × H) :=
((iter FUEL (slices_Reverse_api_Liquid_api_Liquid.loop1 a0) ((0, (IntKind.wrap .i64 (((a0.len : Nat) : Int) - 1))), h)).bind fun (fl10, h9) => match fl10 with
| .next _ => none
| .ret rr11 => (some (rr11, h9))
| .ex0 _ =>
(some ((), h9))
| .ex1 _ => none)
def slices_Reverse_api_Liquid_api_Liquid.A : Ann := { lits := [], conds := [], loops := [(1, [2, 3], [.leaf (.int .i64), .leaf (.int .i64)], [], [], some 0, none)], regs := [] }
theorem slices_Reverse_api_Liquid_api_Liquid.eq : ∀ (x : TT [.leaf .slice]) (h : H), evalFn Try.prog (slices_Reverse_api_Liquid_api_Liquid.tb) slices_Reverse_api_Liquid_api_Liquid.A Try.f25 (.many []) (TT.un [.leaf .slice] x) h = slices_Reverse_api_Liquid_api_Liquid x h := by
  intro x h
  kernel_rfl
noncomputable def slices_Reverse_api_Liquid_api_Liquid.e : Entry := mkX [.leaf .slice] (.many []) fun x h => slices_Reverse_api_Liquid_api_Liquid x h
theorem slices_Reverse_api_Liquid_api_Liquid.ok : EntryOK Try.prog 25 (slices_Reverse_api_Liquid_api_Liquid.e) := mkX_ok (slices_Reverse_api_Liquid_api_Liquid.tbok) Try.mixed Try.func25 (by kernel_rfl) (slices_Reverse_api_Liquid_api_Liquid.eq)
noncomputable def slices_Reverse_api_Liquid_api_LiquidP (a0 : (List (Int × Int))) : Option (Unit) := (slices_Reverse_api_Liquid_api_Liquid (rowSV false [.int .i64, .int .i64] a0) H.empty).bind fun p => rdRes false p.2 (.many []) (Res.un (.many []) p.1)
theorem slices_Reverse_api_Liquid_api_LiquidP.eq : ∀ x : TT [.leaf (.row [.int .i64, .int .i64])], ((evalFn Try.prog (slices_Reverse_api_Liquid_api_Liquid.tb) slices_Reverse_api_Liquid_api_Liquid.A Try.f25 (.many []) (TT.lo false [.leaf (.row [.int .i64, .int .i64])] x) H.empty).bind fun p => rdRes false p.2 (.many []) (Res.un (.many []) p.1)) = slices_Reverse_api_Liquid_api_LiquidP x := by
  intro x
  rw [show TT.lo false [.leaf (.row [.int .i64, .int .i64])] x = TT.un [.leaf .slice] ((rowSV false [.int .i64, .int .i64] x)) from rfl, slices_Reverse_api_Liquid_api_Liquid.eq]
  rfl
noncomputable def slices_Reverse_api_Liquid_api_LiquidP.e : Entry := mkP [.leaf (.row [.int .i64, .int .i64])] (.many []) fun x => slices_Reverse_api_Liquid_api_LiquidP x
theorem slices_Reverse_api_Liquid_api_LiquidP.ok : EntryOK Try.prog 25 (slices_Reverse_api_Liquid_api_LiquidP.e) := mkP_ok (slices_Reverse_api_Liquid_api_Liquid.tbok) Try.mixed Try.func25 (by kernel_rfl) slices_Reverse_api_Liquid_api_LiquidP.eq

/-! ### spile/spilelaw21.MixOrder: function 9 -/
noncomputable def spilelaw21_MixOrder.tb : Table := tab [(10, spilelaw21_awakeP.e), (11, mix_SumP.e), (18, spileref16_FewP.e), (19, mix_ContractionP.e), (24, slices_Clone_api_Liquid_api_Liquid.e), (25, slices_Reverse_api_Liquid_api_Liquid.e)] [] Table.nil
theorem spilelaw21_MixOrder.tbok : TabOK Try.prog (spilelaw21_MixOrder.tb) := TabOK.tab (TabOK.nil Try.prog) (all_cons spilelaw21_awakeP.ok (all_cons mix_SumP.ok (all_cons spileref16_FewP.ok (all_cons mix_ContractionP.ok (all_cons slices_Clone_api_Liquid_api_Liquid.ok (all_cons slices_Reverse_api_Liquid_api_Liquid.ok (all_nil _))))))) (all_nil _)
noncomputable def spilelaw21_MixOrder (a0 : SV) (a1 : SV) (a2 : Int) (h : H) : Option ((Bool) × H) :=
((spilelaw21_awakeP ).bind fun r1 =>
(bif (!r1) then (some (false, h)) else ((((rdRow true h [.int .i64, .int .i64] a0).bind fun s3 =>
((spileref16_FewP s3).bind fun r2 =>
(bif !(!r2) then (some ((decide ((8 : Int) < ((a1.len : Nat) : Int))), h)) else (some (true, h)))))).bind fun (y4, h5) =>
(bif y4 then (some (true, h5)) else ((rdRow true h5 [.int .i64, .int .i64] a1).bind fun s8 =>
((mix_SumP s8).bind fun ((r6_0, r6_1), r7) =>
(let h9 : H := H.new h5 [.int .i64 0, .int .i64 0] 2
((H.wrs h9 (.hp h5.next 2 0) [.int .i64 r6_0, .int .i64 r6_1]).bind fun h10 =>
(bif (!(decide (r7 = 0))) then ((rdT (.agg [.int .i64, .int .i64]) h10 (.hp h5.next 2 0)).bind fun (x11_0, x11_1) =>
(some ((decide (x11_0 = 0) && (decide (x11_1 = 0))), h10))) else ((cloneX 2 16 a1 h10).bind fun (r12, h13) =>
((slices_Reverse_api_Liquid_api_Liquid r12 h13).bind fun (_, h14) =>
((rdRow true h14 [.int .i64, .int .i64] r12).bind fun s17 =>
((mix_SumP s17).bind fun ((r15_0, r15_1), r16) =>
(let h18 : H := H.new h14 [.int .i64 0, .int .i64 0] 2
((H.wrs h18 (.hp h14.next 2 0) [.int .i64 r15_0, .int .i64 r15_1]).bind fun h19 =>
(guardO ((IntKind.wrap .i64 (((a1.len : Nat) : Int) + 1)) ≠ 0) (guardO ((0 : Int) ≤ 0 ∧ (0 : Int) ≤ (Int.tmod (IntKind.wrap .i64 (a2)) (IntKind.wrap .i64 (((a1.len : Nat) : Int) + 1))) ∧ (Int.tmod (IntKind.wrap .i64 (a2)) (IntKind.wrap .i64 (((a1.len : Nat) : Int) + 1))) ≤ ((a1.cap : Nat) : Int)) ((rdRow true h19 [.int .i64, .int .i64] ⟨(V.add a1.a 0), ((Int.toNat (Int.tmod (IntKind.wrap .i64 (a2)) (IntKind.wrap .i64 (((a1.len : Nat) : Int) + 1)))) - Int.toNat 0), (a1.cap - Int.toNat 0), a1.tail⟩).bind fun s22 =>
((mix_SumP s22).bind fun ((r20_0, r20_1), r21) =>
(let h23 : H := H.new h19 [.int .i64 0, .int .i64 0] 2
((H.wrs h23 (.hp h19.next 2 0) [.int .i64 r20_0, .int .i64 r20_1]).bind fun h24 =>
(guardO ((0 : Int) ≤ (Int.tmod (IntKind.wrap .i64 (a2)) (IntKind.wrap .i64 (((a1.len : Nat) : Int) + 1))) ∧ (Int.tmod (IntKind.wrap .i64 (a2)) (IntKind.wrap .i64 (((a1.len : Nat) : Int) + 1))) ≤ ((a1.len : Nat) : Int) ∧ ((a1.len : Nat) : Int) ≤ ((a1.cap : Nat) : Int)) ((rdRow true h24 [.int .i64, .int .i64] ⟨(V.add a1.a ((Int.toNat (Int.tmod (IntKind.wrap .i64 (a2)) (IntKind.wrap .i64 (((a1.len : Nat) : Int) + 1)))) * 2)), ((Int.toNat ((a1.len : Nat) : Int)) - (Int.toNat (Int.tmod (IntKind.wrap .i64 (a2)) (IntKind.wrap .i64 (((a1.len : Nat) : Int) + 1))))), (a1.cap - (Int.toNat (Int.tmod (IntKind.wrap .i64 (a2)) (IntKind.wrap .i64 (((a1.len : Nat) : Int) + 1))))), a1.tail⟩).bind fun s27 =>
((mix_SumP s27).bind fun ((r25_0, r25_1), r26) =>
(let h28 : H := H.new h24 [.int .i64 0, .int .i64 0] 2
((H.wrs h28 (.hp h24.next 2 0) [.int .i64 r25_0, .int .i64 r25_1]).bind fun h29 =>
((rdT (.agg [.int .i64, .int .i64]) h29 (.hp h19.next 2 0)).bind fun (x30_0, x30_1) =>
((rdT (.agg [.int .i64, .int .i64]) h29 (.hp h24.next 2 0)).bind fun (x31_0, x31_1) =>
((rdRow true h29 [.int .i64, .int .i64] ⟨.lp true ([.int .i64 x30_0, .int .i64 x30_1, .int .i64 x31_0, .int .i64 x31_1]) 0, 2, 2, false⟩).bind fun s34 =>
((mix_SumP s34).bind fun ((r32_0, r32_1), r33) =>
(let h35 : H := H.new h29 [.int .i64 0, .int .i64 0] 2
((H.wrs h35 (.hp h29.next 2 0) [.int .i64 r32_0, .int .i64 r32_1]).bind fun h36 =>
(((bif !(!(decide (r16 = 0))) then (bif !(!(decide (r21 = 0))) then (bif !(!(decide (r26 = 0))) then (bif !(!(decide (r33 = 0))) then ((rdT (.agg [.int .i64, .int .i64]) h36 (.hp h5.next 2 0)).bind fun (x37_0, x37_1) =>
((rdT (.agg [.int .i64, .int .i64]) h36 (.hp h14.next 2 0)).bind fun (x38_0, x38_1) =>
(bif !(!(decide (x37_0 = x38_0) && (decide (x37_1 = x38_1)))) then ((rdT (.agg [.int .i64, .int .i64]) h36 (.hp h5.next 2 0)).bind fun (x39_0, x39_1) =>
((rdT (.agg [.int .i64, .int .i64]) h36 (.hp h29.next 2 0)).bind fun (x40_0, x40_1) =>
(some ((!(decide (x39_0 = x40_0) && (decide (x39_1 = x40_1)))), h36)))) else (some (true, h36))))) else (some (true, h36))) else (some (true, h36))) else (some (true, h36))) else (some (true, h36)))).bind fun (y41, h42) =>
(bif y41 then (some (false, h42)) else ((rdT (.agg [.int .i64, .int .i64]) h42 (.hp h5.next 2 0)).bind fun (x43_0, x43_1) =>
((rdRow true h42 [.int .i64, .int .i64] a0).bind fun s46 =>
((rdRow true h42 [.int .i64, .int .i64] ⟨.lp true ([.int .i64 x43_0, .int .i64 x43_1]) 0, 1, 1, false⟩).bind fun s47 =>
((mix_ContractionP s46 s47).bind fun (r44, r45) =>
(((bif (decide (r45 = 0)) then (some ((!(decide (r44 = 0))), h42)) else (some (false, h42)))).bind fun (y48, h49) =>
(bif y48 then (some (false, h49)) else ((rdRow true h49 [.int .i64, .int .i64] a0).bind fun s52 =>
((rdRow true h49 [.int .i64, .int .i64] a1).bind fun s53 =>
((mix_ContractionP s52 s53).bind fun (r50, r51) =>
((rdRow true h49 [.int .i64, .int .i64] a0).bind fun s56 =>
((rdRow true h49 [.int .i64, .int .i64] r12).bind fun s57 =>
((mix_ContractionP s56 s57).bind fun (r54, r55) =>
(((bif (decide (r50 = r54)) then (some ((decide (r51 = r55)), h49)) else (some (false, h49)))).bind fun (y58, h59) =>
(some (y58, h59)))))))))))))))))))))))))))))))))))))))))))))))))
def spilelaw21_MixOrder.A : Ann := { lits := [], conds := [], loops := [], regs := [(3, [34], [.leaf .bool]), (15, [104], [.leaf .bool]), (18, [117], [.leaf .bool]), (22, [6], [.leaf .bool])] }
theorem spilelaw21_MixOrder.eq : ∀ (x : TT [.leaf .slice, .leaf .slice, .leaf (.int .u8)]) (h : H), evalFn Try.prog (spilelaw21_MixOrder.tb) spilelaw21_MixOrder.A Try.f9 (.one (.leaf .bool)) (TT.un [.leaf .slice, .leaf .slice, .leaf (.int .u8)] x) h = spilelaw21_MixOrder x.1 x.2.1 x.2.2 h := by
  intro x h
  kernel_rfl
noncomputable def spilelaw21_MixOrder.e : Entry := mkX [.leaf .slice, .leaf .slice, .leaf (.int .u8)] (.one (.leaf .bool)) fun x h => spilelaw21_MixOrder x.1 x.2.1 x.2.2 h
theorem spilelaw21_MixOrder.ok : EntryOK Try.prog 9 (spilelaw21_MixOrder.e) := mkX_ok (spilelaw21_MixOrder.tbok) Try.mixed Try.func9 (by kernel_rfl) (spilelaw21_MixOrder.eq)
noncomputable def spilelaw21_MixOrderP (a0 : (List (Int × Int))) (a1 : (List (Int × Int))) (a2 : Int) : Option (Bool) := (spilelaw21_MixOrder (rowSV false [.int .i64, .int .i64] a0) (rowSV false [.int .i64, .int .i64] a1) a2 H.empty).bind fun p => rdRes false p.2 (.one (.leaf .bool)) (Res.un (.one (.leaf .bool)) p.1)
theorem spilelaw21_MixOrderP.eq : ∀ x : TT [.leaf (.row [.int .i64, .int .i64]), .leaf (.row [.int .i64, .int .i64]), .leaf (.int .u8)], ((evalFn Try.prog (spilelaw21_MixOrder.tb) spilelaw21_MixOrder.A Try.f9 (.one (.leaf .bool)) (TT.lo false [.leaf (.row [.int .i64, .int .i64]), .leaf (.row [.int .i64, .int .i64]), .leaf (.int .u8)] x) H.empty).bind fun p => rdRes false p.2 (.one (.leaf .bool)) (Res.un (.one (.leaf .bool)) p.1)) = spilelaw21_MixOrderP x.1 x.2.1 x.2.2 := by
  intro x
  rw [show TT.lo false [.leaf (.row [.int .i64, .int .i64]), .leaf (.row [.int .i64, .int .i64]), .leaf (.int .u8)] x = TT.un [.leaf .slice, .leaf .slice, .leaf (.int .u8)] ((rowSV false [.int .i64, .int .i64] x.1), (rowSV false [.int .i64, .int .i64] x.2.1), x.2.2) from rfl, spilelaw21_MixOrder.eq]
  rfl
noncomputable def spilelaw21_MixOrderP.e : Entry := mkP [.leaf (.row [.int .i64, .int .i64]), .leaf (.row [.int .i64, .int .i64]), .leaf (.int .u8)] (.one (.leaf .bool)) fun x => spilelaw21_MixOrderP x.1 x.2.1 x.2.2
theorem spilelaw21_MixOrderP.ok : EntryOK Try.prog 9 (spilelaw21_MixOrderP.e) := mkP_ok (spilelaw21_MixOrder.tbok) Try.mixed Try.func9 (by kernel_rfl) spilelaw21_MixOrderP.eq
end Go.Proofs.Ytaepkinihaipkaa
