/- The functions of the program as Lean functions, each with the equation by which the evaluator is that function. Written by a program of this session (evdrive.py). Conditions: none. -/
import Derived.Test.YtbcpdecgfdlaaaaProg
import Derived.Test.YtbcpdecgfdlaaaaEvSpec
import Derived.Test.YtbcpdecgfdlaaaaFn5
namespace Go.Proofs.Ytbcpdecgfdlaaaa
open Go Go.Proofs.Ytbcpdecgfdlaaaa.Ev
set_option maxRecDepth 100000
set_option linter.unusedVariables false
/-! ### spile/spileref23.fits: function 47 -/
noncomputable def spileref23_fits.tb : Table := tab [(38, spileref22_AlcoholP.e)] [] Table.nil
theorem spileref23_fits.tbok : TabOK Try.prog (spileref23_fits.tb) := TabOK.tab (TabOK.nil Try.prog) (all_cons spileref22_AlcoholP.ok (all_nil _)) (all_nil _)
noncomputable def spileref23_fits (a0 : SV) (h : H) : Option ((Int) × H) :=
(bif (decide ((32 : Int) < ((a0.len : Nat) : Int))) then (some (12, h)) else ((rdRow true h [.int .i64, .int .i64] a0).bind fun s2 =>
((spileref22_AlcoholP s2).bind fun r1 =>
(bif (decide ((10737418240000 : Int) < r1)) then (some (15, h)) else (some (0, h))))))
def spileref23_fits.A : Ann := { lits := [], conds := [], loops := [], regs := [] }
theorem spileref23_fits.eq : ∀ (x : TT [.leaf .slice]) (h : H), evalFn Try.prog (spileref23_fits.tb) spileref23_fits.A Try.f47 (.one (.leaf (.int .i64))) (TT.un [.leaf .slice] x) h = spileref23_fits x h := by
  intro x h
  kernel_rfl
noncomputable def spileref23_fits.e : Entry := mkX [.leaf .slice] (.one (.leaf (.int .i64))) fun x h => spileref23_fits x h
theorem spileref23_fits.ok : EntryOK Try.prog 47 (spileref23_fits.e) := mkX_ok (spileref23_fits.tbok) Try.mixed Try.func47 (by kernel_rfl) (spileref23_fits.eq)
noncomputable def spileref23_fitsP (a0 : (List (Int × Int))) : Option (Int) := (spileref23_fits (rowSV false [.int .i64, .int .i64] a0) H.empty).bind fun p => rdRes false p.2 (.one (.leaf (.int .i64))) (Res.un (.one (.leaf (.int .i64))) p.1)
theorem spileref23_fitsP.eq : ∀ x : TT [.leaf (.row [.int .i64, .int .i64])], ((evalFn Try.prog (spileref23_fits.tb) spileref23_fits.A Try.f47 (.one (.leaf (.int .i64))) (TT.lo false [.leaf (.row [.int .i64, .int .i64])] x) H.empty).bind fun p => rdRes false p.2 (.one (.leaf (.int .i64))) (Res.un (.one (.leaf (.int .i64))) p.1)) = spileref23_fitsP x := by
  intro x
  rw [show TT.lo false [.leaf (.row [.int .i64, .int .i64])] x = TT.un [.leaf .slice] ((rowSV false [.int .i64, .int .i64] x)) from rfl, spileref23_fits.eq]
  rfl
noncomputable def spileref23_fitsP.e : Entry := mkP [.leaf (.row [.int .i64, .int .i64])] (.one (.leaf (.int .i64))) fun x => spileref23_fitsP x
theorem spileref23_fitsP.ok : EntryOK Try.prog 47 (spileref23_fitsP.e) := mkP_ok (spileref23_fits.tbok) Try.mixed Try.func47 (by kernel_rfl) spileref23_fitsP.eq

/-! ### spile/spileref23.Join: function 23 -/
noncomputable def spileref23_Join.tb : Table := tab [(19, spileref23_CheckP.e), (46, spileref23_joinP.e), (47, spileref23_fitsP.e)] [] Table.nil
theorem spileref23_Join.tbok : TabOK Try.prog (spileref23_Join.tb) := TabOK.tab (TabOK.nil Try.prog) (all_cons spileref23_CheckP.ok (all_cons spileref23_joinP.ok (all_cons spileref23_fitsP.ok (all_nil _)))) (all_nil _)
noncomputable def spileref23_Join (a0 : SV) (a1 : SV) (h : H) : Option ((SV × Int) × H) :=
((((rdRow true h [.int .i64, .int .i64] a0).bind fun s2 =>
((spileref23_CheckP s2).bind fun r1 =>
(bif !(!(decide (r1 = 0))) then ((rdRow true h [.int .i64, .int .i64] a1).bind fun s4 =>
((spileref23_CheckP s4).bind fun r3 =>
(some ((!(decide (r3 = 0))), h)))) else (some (true, h)))))).bind fun (y5, h6) =>
(bif y5 then (some ((⟨.nil, 0, 0, false⟩, 1), h6)) else ((rdRow true h6 [.int .i64, .int .i64] a0).bind fun s8 =>
((rdRow true h6 [.int .i64, .int .i64] a1).bind fun s9 =>
((spileref23_joinP s8 s9).bind fun r7 =>
((rdRow true h6 [.int .i64, .int .i64] (rowSV true [.int .i64, .int .i64] r7)).bind fun s11 =>
((spileref23_fitsP s11).bind fun r10 =>
(bif (!(decide (r10 = 0))) then (some ((⟨.nil, 0, 0, false⟩, r10), h6)) else (some (((rowSV true [.int .i64, .int .i64] r7), 0), h6))))))))))
def spileref23_Join.A : Ann := { lits := [], conds := [], loops := [], regs := [(1, [15], [.leaf .bool])] }
theorem spileref23_Join.eq : ∀ (x : TT [.leaf .slice, .leaf .slice]) (h : H), evalFn Try.prog (spileref23_Join.tb) spileref23_Join.A Try.f23 (.many [.leaf .slice, .leaf (.int .i64)]) (TT.un [.leaf .slice, .leaf .slice] x) h = spileref23_Join x.1 x.2 h := by
  intro x h
  kernel_rfl
noncomputable def spileref23_Join.e : Entry := mkX [.leaf .slice, .leaf .slice] (.many [.leaf .slice, .leaf (.int .i64)]) fun x h => spileref23_Join x.1 x.2 h
theorem spileref23_Join.ok : EntryOK Try.prog 23 (spileref23_Join.e) := mkX_ok (spileref23_Join.tbok) Try.mixed Try.func23 (by kernel_rfl) (spileref23_Join.eq)
noncomputable def spileref23_JoinP (a0 : (List (Int × Int))) (a1 : (List (Int × Int))) : Option ((List (Int × Int)) × Int) := (spileref23_Join (rowSV false [.int .i64, .int .i64] a0) (rowSV false [.int .i64, .int .i64] a1) H.empty).bind fun p => rdRes false p.2 (.many [.leaf (.row [.int .i64, .int .i64]), .leaf (.int .i64)]) (Res.un (.many [.leaf .slice, .leaf (.int .i64)]) p.1)
theorem spileref23_JoinP.eq : ∀ x : TT [.leaf (.row [.int .i64, .int .i64]), .leaf (.row [.int .i64, .int .i64])], ((evalFn Try.prog (spileref23_Join.tb) spileref23_Join.A Try.f23 (.many [.leaf .slice, .leaf (.int .i64)]) (TT.lo false [.leaf (.row [.int .i64, .int .i64]), .leaf (.row [.int .i64, .int .i64])] x) H.empty).bind fun p => rdRes false p.2 (.many [.leaf (.row [.int .i64, .int .i64]), .leaf (.int .i64)]) (Res.un (.many [.leaf .slice, .leaf (.int .i64)]) p.1)) = spileref23_JoinP x.1 x.2 := by
  intro x
  rw [show TT.lo false [.leaf (.row [.int .i64, .int .i64]), .leaf (.row [.int .i64, .int .i64])] x = TT.un [.leaf .slice, .leaf .slice] ((rowSV false [.int .i64, .int .i64] x.1), (rowSV false [.int .i64, .int .i64] x.2)) from rfl, spileref23_Join.eq]
  rfl
noncomputable def spileref23_JoinP.e : Entry := mkP [.leaf (.row [.int .i64, .int .i64]), .leaf (.row [.int .i64, .int .i64])] (.many [.leaf (.row [.int .i64, .int .i64]), .leaf (.int .i64)]) fun x => spileref23_JoinP x.1 x.2
theorem spileref23_JoinP.ok : EntryOK Try.prog 23 (spileref23_JoinP.e) := mkP_ok (spileref23_Join.tbok) Try.mixed Try.func23 (by kernel_rfl) spileref23_JoinP.eq

/-! ### spile/spilelaw23.ShareJoins: function 4 -/
noncomputable def spilelaw23_ShareJoins.tb : Table := tab [(10, spilelaw23_awakeP.e), (11, spileref22_FewSharesP.e), (20, spileref22_SameSharesP.e), (22, share_JoinP.e), (23, spileref23_JoinP.e)] [] Table.nil
theorem spilelaw23_ShareJoins.tbok : TabOK Try.prog (spilelaw23_ShareJoins.tb) := TabOK.tab (TabOK.nil Try.prog) (all_cons spilelaw23_awakeP.ok (all_cons spileref22_FewSharesP.ok (all_cons spileref22_SameSharesP.ok (all_cons share_JoinP.ok (all_cons spileref23_JoinP.ok (all_nil _)))))) (all_nil _)
noncomputable def spilelaw23_ShareJoins (a0 : SV) (a1 : SV) (h : H) : Option ((Bool) × H) :=
((spilelaw23_awakeP ).bind fun r1 =>
(bif (!r1) then (some (false, h)) else ((((rdRow true h [.int .i64, .int .i64] a0).bind fun s3 =>
((spileref22_FewSharesP s3).bind fun r2 =>
(bif !(!r2) then ((rdRow true h [.int .i64, .int .i64] a1).bind fun s5 =>
((spileref22_FewSharesP s5).bind fun r4 =>
(some ((!r4), h)))) else (some (true, h)))))).bind fun (y6, h7) =>
(bif y6 then (some (true, h7)) else ((rdRow true h7 [.int .i64, .int .i64] a0).bind fun s10 =>
((rdRow true h7 [.int .i64, .int .i64] a1).bind fun s11 =>
((share_JoinP s10 s11).bind fun (r8, r9) =>
((rdRow true h7 [.int .i64, .int .i64] a0).bind fun s14 =>
((rdRow true h7 [.int .i64, .int .i64] a1).bind fun s15 =>
((spileref23_JoinP s14 s15).bind fun (r12, r13) =>
((((rdRow true h7 [.int .i64, .int .i64] (rowSV true [.int .i64, .int .i64] r8)).bind fun s17 =>
((rdRow true h7 [.int .i64, .int .i64] (rowSV true [.int .i64, .int .i64] r12)).bind fun s18 =>
((spileref22_SameSharesP s17 s18).bind fun r16 =>
(bif r16 then (some ((decide (r9 = r13)), h7)) else (some (false, h7))))))).bind fun (y19, h20) =>
(some (y19, h20)))))))))))))
def spilelaw23_ShareJoins.A : Ann := { lits := [], conds := [], loops := [], regs := [(3, [18], [.leaf .bool]), (7, [4], [.leaf .bool])] }
theorem spilelaw23_ShareJoins.eq : ∀ (x : TT [.leaf .slice, .leaf .slice]) (h : H), evalFn Try.prog (spilelaw23_ShareJoins.tb) spilelaw23_ShareJoins.A Try.f4 (.one (.leaf .bool)) (TT.un [.leaf .slice, .leaf .slice] x) h = spilelaw23_ShareJoins x.1 x.2 h := by
  intro x h
  kernel_rfl
noncomputable def spilelaw23_ShareJoins.e : Entry := mkX [.leaf .slice, .leaf .slice] (.one (.leaf .bool)) fun x h => spilelaw23_ShareJoins x.1 x.2 h
theorem spilelaw23_ShareJoins.ok : EntryOK Try.prog 4 (spilelaw23_ShareJoins.e) := mkX_ok (spilelaw23_ShareJoins.tbok) Try.mixed Try.func4 (by kernel_rfl) (spilelaw23_ShareJoins.eq)
noncomputable def spilelaw23_ShareJoinsP (a0 : (List (Int × Int))) (a1 : (List (Int × Int))) : Option (Bool) := (spilelaw23_ShareJoins (rowSV false [.int .i64, .int .i64] a0) (rowSV false [.int .i64, .int .i64] a1) H.empty).bind fun p => rdRes false p.2 (.one (.leaf .bool)) (Res.un (.one (.leaf .bool)) p.1)
theorem spilelaw23_ShareJoinsP.eq : ∀ x : TT [.leaf (.row [.int .i64, .int .i64]), .leaf (.row [.int .i64, .int .i64])], ((evalFn Try.prog (spilelaw23_ShareJoins.tb) spilelaw23_ShareJoins.A Try.f4 (.one (.leaf .bool)) (TT.lo false [.leaf (.row [.int .i64, .int .i64]), .leaf (.row [.int .i64, .int .i64])] x) H.empty).bind fun p => rdRes false p.2 (.one (.leaf .bool)) (Res.un (.one (.leaf .bool)) p.1)) = spilelaw23_ShareJoinsP x.1 x.2 := by
  intro x
  rw [show TT.lo false [.leaf (.row [.int .i64, .int .i64]), .leaf (.row [.int .i64, .int .i64])] x = TT.un [.leaf .slice, .leaf .slice] ((rowSV false [.int .i64, .int .i64] x.1), (rowSV false [.int .i64, .int .i64] x.2)) from rfl, spilelaw23_ShareJoins.eq]
  rfl
noncomputable def spilelaw23_ShareJoinsP.e : Entry := mkP [.leaf (.row [.int .i64, .int .i64]), .leaf (.row [.int .i64, .int .i64])] (.one (.leaf .bool)) fun x => spilelaw23_ShareJoinsP x.1 x.2
theorem spilelaw23_ShareJoinsP.ok : EntryOK Try.prog 4 (spilelaw23_ShareJoinsP.e) := mkP_ok (spilelaw23_ShareJoins.tbok) Try.mixed Try.func4 (by kernel_rfl) spilelaw23_ShareJoinsP.eq

/-! ### spile/spilelaw23.ShareWhole: function 5 -/
noncomputable def spilelaw23_ShareWhole.tb : Table := tab [(10, spilelaw23_awakeP.e), (11, spileref22_FewSharesP.e), (12, share_SumP.e), (14, share_TakeP.e), (20, spileref22_SameSharesP.e), (22, share_JoinP.e)] [] Table.nil
theorem spilelaw23_ShareWhole.tbok : TabOK Try.prog (spilelaw23_ShareWhole.tb) := TabOK.tab (TabOK.nil Try.prog) (all_cons spilelaw23_awakeP.ok (all_cons spileref22_FewSharesP.ok (all_cons share_SumP.ok (all_cons share_TakeP.ok (all_cons spileref22_SameSharesP.ok (all_cons share_JoinP.ok (all_nil _))))))) (all_nil _)
noncomputable def spilelaw23_ShareWhole.loop1 (r4 : List (Int × Int)) (h26 : H) : (Int × Int) × H → Option (Stp ((Int × Int) × H) (Flow (Int) (Bool) × H)) := fun ((y30, y31), h32) =>
(bif (decide (y31 < ((r4.length : Nat) : Int))) then (guardO (0 ≤ y31 ∧ y31 < ((r4.length : Nat) : Int)) ((rdT (.agg [.int .i64, .int .i64]) h32 (V.add ((rowSV true [.int .i64, .int .i64] r4).a) (Int.toNat y31 * 2))).bind fun (x33_0, x33_1) =>
(let h34 : H := H.new h32 [.int .i64 0, .int .i64 0] 2
((H.wrs h34 (.hp h32.next 2 0) [.int .i64 x33_0, .int .i64 x33_1]).bind fun h35 =>
((rdT (.leaf (.int .i64)) h35 (.hp h32.next 2 0)).bind fun x36 =>
((rdT (.leaf (.int .i64)) h35 (.hp h26.next 2 0)).bind fun x37 =>
((bif (decide (x36 = x37)) then ((rdT (.leaf (.int .i64)) h35 (.hp h32.next 2 1)).bind fun x38 =>
(some (.next x38, h35))) else (some (.next y30, h35)) : Option (Flow (Int) (Bool) × H)).bind fun (fl40, h39) => match fl40 with
| .next y41 =>
(some (.more ((y41, (IntKind.wrap .i64 (y31 + 1))), h39)))
| .ret rr42 => (some (.done (.ret rr42, h39)))
| .ex0 _ => none
| .ex1 _ => none))))))) else (some (.done (.ex0 y30, h32))))
noncomputable def spilelaw23_ShareWhole.loop2 (a0 : SV) (a1 : Int) (r4 : List (Int × Int)) (r17 : Int) : (Int) × H → Option (Stp ((Int) × H) (Flow (Unit) (Bool) × H)) := fun (y25, h26) =>
(bif (decide (y25 < ((a0.len : Nat) : Int))) then (guardO (0 ≤ y25 ∧ y25 < ((a0.len : Nat) : Int)) ((rdT (.agg [.int .i64, .int .i64]) h26 (V.add a0.a (Int.toNat y25 * 2))).bind fun (x27_0, x27_1) =>
(let h28 : H := H.new h26 [.int .i64 0, .int .i64 0] 2
((H.wrs h28 (.hp h26.next 2 0) [.int .i64 x27_0, .int .i64 x27_1]).bind fun h29 =>
((iter FUEL (spilelaw23_ShareWhole.loop1 r4 h26) ((0, 0), h29)).bind fun (fl44, h43) => match fl44 with
| .next _ => none
| .ret rr45 => (some (.done (.ret rr45, h43)))
| .ex0 y46 =>
((rdT (.leaf (.int .i64)) h43 (.hp h26.next 2 1)).bind fun x47 =>
(((bif !(decide (r17 ≤ (IntKind.wrap .i64 ((IntKind.wrap .i64 (y46 * r17)) - (IntKind.wrap .i64 (a1 * x47)))))) then (some ((decide ((IntKind.wrap .i64 ((IntKind.wrap .i64 (y46 * r17)) - (IntKind.wrap .i64 (a1 * x47)))) ≤ (IntKind.wrap .i64 (0 - r17)))), h43)) else (some (true, h43)))).bind fun (y48, h49) =>
(bif y48 then (some (.done (.ret false, h49))) else (some (.more ((IntKind.wrap .i64 (y25 + 1)), h49))))))
| .ex1 _ => none))))) else (some (.done (.ex0 (), h26))))
noncomputable def spilelaw23_ShareWhole (a0 : SV) (a1 : Int) (h : H) : Option ((Bool) × H) :=
((spilelaw23_awakeP ).bind fun r1 =>
(bif (!r1) then (some (false, h)) else ((rdRow true h [.int .i64, .int .i64] a0).bind fun s3 =>
((spileref22_FewSharesP s3).bind fun r2 =>
(bif (!r2) then (some (true, h)) else ((rdRow true h [.int .i64, .int .i64] a0).bind fun s7 =>
((share_TakeP s7 a1).bind fun (r4, r5, r6) =>
(bif (!(decide (r6 = 0))) then (((bif (decide (((r4.length : Nat) : Int) = 0)) then (some ((decide (((r5.length : Nat) : Int) = 0)), h)) else (some (false, h)))).bind fun (y8, h9) =>
(some (y8, h9))) else ((rdRow true h [.int .i64, .int .i64] (rowSV true [.int .i64, .int .i64] r4)).bind fun s12 =>
((share_SumP s12).bind fun (r10, r11) =>
((rdRow true h [.int .i64, .int .i64] (rowSV true [.int .i64, .int .i64] r4)).bind fun s15 =>
((rdRow true h [.int .i64, .int .i64] (rowSV true [.int .i64, .int .i64] r5)).bind fun s16 =>
((share_JoinP s15 s16).bind fun (r13, r14) =>
((rdRow true h [.int .i64, .int .i64] a0).bind fun s19 =>
((share_SumP s19).bind fun (r17, r18) =>
(((bif !(!(decide (r11 = 0))) then (bif !(!(decide (r14 = 0))) then (bif !(!(decide (r18 = 0))) then (bif !(!(decide (r10 = a1))) then ((rdRow true h [.int .i64, .int .i64] (rowSV true [.int .i64, .int .i64] r13)).bind fun s21 =>
((rdRow true h [.int .i64, .int .i64] a0).bind fun s22 =>
((spileref22_SameSharesP s21 s22).bind fun r20 =>
(some ((!r20), h))))) else (some (true, h))) else (some (true, h))) else (some (true, h))) else (some (true, h)))).bind fun (y23, h24) =>
(bif y23 then (some (false, h24)) else (bif (decide ((1048576 : Int) < r17)) then (some (true, h24)) else ((iter FUEL (spilelaw23_ShareWhole.loop2 a0 a1 r4 r17) (0, h24)).bind fun (fl51, h50) => match fl51 with
| .next _ => none
| .ret rr52 => (some (rr52, h50))
| .ex0 _ =>
(some (true, h50))
| .ex1 _ => none)))))))))))))))))))
def spilelaw23_ShareWhole.A : Ann := { lits := [], conds := [(97, [16], [.leaf (.int .i64)], none, none)], loops := [(20, [16, 89], [.leaf (.int .i64), .leaf (.int .i64)], [16], [.leaf (.int .i64)], some 2, none), (16, [83], [.leaf (.int .i64)], [], [], some 0, none)], regs := [(7, [4], [.leaf .bool]), (11, [78], [.leaf .bool]), (26, [117], [.leaf .bool])] }
theorem spilelaw23_ShareWhole.eq : ∀ (x : TT [.leaf .slice, .leaf (.int .i64)]) (h : H), evalFn Try.prog (spilelaw23_ShareWhole.tb) spilelaw23_ShareWhole.A Try.f5 (.one (.leaf .bool)) (TT.un [.leaf .slice, .leaf (.int .i64)] x) h = spilelaw23_ShareWhole x.1 x.2 h := by
  intro x h
  kernel_rfl
noncomputable def spilelaw23_ShareWhole.e : Entry := mkX [.leaf .slice, .leaf (.int .i64)] (.one (.leaf .bool)) fun x h => spilelaw23_ShareWhole x.1 x.2 h
theorem spilelaw23_ShareWhole.ok : EntryOK Try.prog 5 (spilelaw23_ShareWhole.e) := mkX_ok (spilelaw23_ShareWhole.tbok) Try.mixed Try.func5 (by kernel_rfl) (spilelaw23_ShareWhole.eq)
noncomputable def spilelaw23_ShareWholeP (a0 : (List (Int × Int))) (a1 : Int) : Option (Bool) := (spilelaw23_ShareWhole (rowSV false [.int .i64, .int .i64] a0) a1 H.empty).bind fun p => rdRes false p.2 (.one (.leaf .bool)) (Res.un (.one (.leaf .bool)) p.1)
theorem spilelaw23_ShareWholeP.eq : ∀ x : TT [.leaf (.row [.int .i64, .int .i64]), .leaf (.int .i64)], ((evalFn Try.prog (spilelaw23_ShareWhole.tb) spilelaw23_ShareWhole.A Try.f5 (.one (.leaf .bool)) (TT.lo false [.leaf (.row [.int .i64, .int .i64]), .leaf (.int .i64)] x) H.empty).bind fun p => rdRes false p.2 (.one (.leaf .bool)) (Res.un (.one (.leaf .bool)) p.1)) = spilelaw23_ShareWholeP x.1 x.2 := by
  intro x
  rw [show TT.lo false [.leaf (.row [.int .i64, .int .i64]), .leaf (.int .i64)] x = TT.un [.leaf .slice, .leaf (.int .i64)] ((rowSV false [.int .i64, .int .i64] x.1), x.2) from rfl, spilelaw23_ShareWhole.eq]
  rfl
noncomputable def spilelaw23_ShareWholeP.e : Entry := mkP [.leaf (.row [.int .i64, .int .i64]), .leaf (.int .i64)] (.one (.leaf .bool)) fun x => spilelaw23_ShareWholeP x.1 x.2
theorem spilelaw23_ShareWholeP.ok : EntryOK Try.prog 5 (spilelaw23_ShareWholeP.e) := mkP_ok (spilelaw23_ShareWhole.tbok) Try.mixed Try.func5 (by kernel_rfl) spilelaw23_ShareWholeP.eq

/-! ### spile/spilelaw23.ShareParts: function 6 -/
noncomputable def spilelaw23_ShareParts.tb : Table := tab [(10, spilelaw23_awakeP.e), (11, spileref22_FewSharesP.e), (16, share_PartsP.e), (18, share_CheckP.e), (20, spileref22_SameSharesP.e), (22, share_JoinP.e)] [] Table.nil
theorem spilelaw23_ShareParts.tbok : TabOK Try.prog (spilelaw23_ShareParts.tb) := TabOK.tab (TabOK.nil Try.prog) (all_cons spilelaw23_awakeP.ok (all_cons spileref22_FewSharesP.ok (all_cons share_PartsP.ok (all_cons share_CheckP.ok (all_cons spileref22_SameSharesP.ok (all_cons share_JoinP.ok (all_nil _))))))) (all_nil _)
noncomputable def spilelaw23_ShareParts.loop1 (a0 : SV) (r17 : List (Int)) (y21 : Int) (x23 : Int) : (Int) × H → Option (Stp ((Int) × H) (Flow (Unit) (Bool) × H)) := fun (y24, h25) =>
(bif (decide (y24 < ((r17.length : Nat) : Int))) then (((let h26 : H := H.reserve h25 0
(guardO (0 ≤ y21 ∧ y21 < ((a0.len : Nat) : Int)) (guardO (V.nn ((V.add a0.a (Int.toNat y21 * 2)) : V) = true) ((rdT (.leaf (.int .i64)) h26 (V.add (V.add a0.a (Int.toNat y21 * 2)) 1)).bind fun x27 =>
(guardO (0 ≤ y24 ∧ y24 < ((a0.len : Nat) : Int)) (guardO (V.nn ((V.add a0.a (Int.toNat y24 * 2)) : V) = true) ((rdT (.leaf (.int .i64)) h26 (V.add (V.add a0.a (Int.toNat y24 * 2)) 1)).bind fun x28 =>
(bif (decide (x28 < x27)) then (guardO (0 ≤ y24 ∧ y24 < ((r17.length : Nat) : Int)) ((rdT (.leaf (.int .i64)) h26 (V.add ((rowSV true [.int .i64] r17).a) (Int.toNat y24 * 1))).bind fun x29 =>
(some ((decide (x23 < x29)), h26)))) else (some (false, h26))))))))))).bind fun (y30, h31) =>
(bif y30 then (some (.done (.ret false, h31))) else (some (.more ((IntKind.wrap .i64 (y24 + 1)), h31))))) else (some (.done (.ex0 (), h25))))
noncomputable def spilelaw23_ShareParts.loop2 (a0 : SV) (r17 : List (Int)) : (Int × Int) × H → Option (Stp ((Int × Int) × H) (Flow (Int) (Bool) × H)) := fun ((y20, y21), h22) =>
(bif (decide (y21 < ((r17.length : Nat) : Int))) then (guardO (0 ≤ y21 ∧ y21 < ((r17.length : Nat) : Int)) ((rdT (.leaf (.int .i64)) h22 (V.add ((rowSV true [.int .i64] r17).a) (Int.toNat y21 * 1))).bind fun x23 =>
((iter FUEL (spilelaw23_ShareParts.loop1 a0 r17 y21 x23) (0, h22)).bind fun (fl33, h32) => match fl33 with
| .next _ => none
| .ret rr34 => (some (.done (.ret rr34, h32)))
| .ex0 _ =>
(some (.more (((IntKind.wrap .i64 (y20 - x23)), (IntKind.wrap .i64 (y21 + 1))), h32)))
| .ex1 _ => none))) else (some (.done (.ex0 y20, h22))))
noncomputable def spilelaw23_ShareParts (a0 : SV) (a1 : Int) (h : H) : Option ((Bool) × H) :=
((spilelaw23_awakeP ).bind fun r1 =>
(bif (!r1) then (some (false, h)) else ((rdRow true h [.int .i64, .int .i64] a0).bind fun s3 =>
((spileref22_FewSharesP s3).bind fun r2 =>
(bif (!r2) then (some (true, h)) else ((rdRow true h [.int .i64, .int .i64] a0).bind fun s6 =>
((rdRow true h [.int .i64, .int .i64] ⟨.nil, 0, 0, false⟩).bind fun s7 =>
((share_JoinP s6 s7).bind fun (r4, r5) =>
(((bif (decide (r5 = 0)) then ((rdRow true h [.int .i64, .int .i64] (rowSV true [.int .i64, .int .i64] r4)).bind fun s9 =>
((rdRow true h [.int .i64, .int .i64] a0).bind fun s10 =>
((spileref22_SameSharesP s9 s10).bind fun r8 =>
(bif !(!r8) then ((rdRow true h [.int .i64, .int .i64] a0).bind fun s12 =>
((share_CheckP s12).bind fun r11 =>
(some ((!((decide (r5 = 0)) == (decide (r11 = 0)))), h)))) else (some (true, h)))))) else ((rdRow true h [.int .i64, .int .i64] a0).bind fun s14 =>
((share_CheckP s14).bind fun r13 =>
(some ((!((decide (r5 = 0)) == (decide (r13 = 0)))), h)))))).bind fun (y15, h16) =>
(bif y15 then (some (false, h16)) else ((rdRow true h16 [.int .i64, .int .i64] a0).bind fun s19 =>
((share_PartsP s19 a1).bind fun (r17, r18) =>
(bif (!(decide (r18 = 0))) then (some ((decide (((r17.length : Nat) : Int) = 0)), h16)) else (bif (!(decide (((r17.length : Nat) : Int) = ((a0.len : Nat) : Int)))) then (some (false, h16)) else ((iter FUEL (spilelaw23_ShareParts.loop2 a0 r17) ((a1, 0), h16)).bind fun (fl36, h35) => match fl36 with
| .next _ => none
| .ret rr37 => (some (rr37, h35))
| .ex0 y38 =>
(some ((decide (y38 = 0)), h35))
| .ex1 _ => none)))))))))))))))
def spilelaw23_ShareParts.A : Ann := { lits := [], conds := [], loops := [(19, [68], [.leaf (.int .i64)], [], [], some 2, none), (15, [9, 58], [.leaf (.int .i64), .leaf (.int .i64)], [9], [.leaf (.int .i64)], some 0, none)], regs := [(6, [38], [.leaf .bool]), (21, [89], [.leaf .bool])] }
theorem spilelaw23_ShareParts.eq : ∀ (x : TT [.leaf .slice, .leaf (.int .i64)]) (h : H), evalFn Try.prog (spilelaw23_ShareParts.tb) spilelaw23_ShareParts.A Try.f6 (.one (.leaf .bool)) (TT.un [.leaf .slice, .leaf (.int .i64)] x) h = spilelaw23_ShareParts x.1 x.2 h := by
  intro x h
  kernel_rfl
noncomputable def spilelaw23_ShareParts.e : Entry := mkX [.leaf .slice, .leaf (.int .i64)] (.one (.leaf .bool)) fun x h => spilelaw23_ShareParts x.1 x.2 h
theorem spilelaw23_ShareParts.ok : EntryOK Try.prog 6 (spilelaw23_ShareParts.e) := mkX_ok (spilelaw23_ShareParts.tbok) Try.mixed Try.func6 (by kernel_rfl) (spilelaw23_ShareParts.eq)
noncomputable def spilelaw23_SharePartsP (a0 : (List (Int × Int))) (a1 : Int) : Option (Bool) := (spilelaw23_ShareParts (rowSV false [.int .i64, .int .i64] a0) a1 H.empty).bind fun p => rdRes false p.2 (.one (.leaf .bool)) (Res.un (.one (.leaf .bool)) p.1)
theorem spilelaw23_SharePartsP.eq : ∀ x : TT [.leaf (.row [.int .i64, .int .i64]), .leaf (.int .i64)], ((evalFn Try.prog (spilelaw23_ShareParts.tb) spilelaw23_ShareParts.A Try.f6 (.one (.leaf .bool)) (TT.lo false [.leaf (.row [.int .i64, .int .i64]), .leaf (.int .i64)] x) H.empty).bind fun p => rdRes false p.2 (.one (.leaf .bool)) (Res.un (.one (.leaf .bool)) p.1)) = spilelaw23_SharePartsP x.1 x.2 := by
  intro x
  rw [show TT.lo false [.leaf (.row [.int .i64, .int .i64]), .leaf (.int .i64)] x = TT.un [.leaf .slice, .leaf (.int .i64)] ((rowSV false [.int .i64, .int .i64] x.1), x.2) from rfl, spilelaw23_ShareParts.eq]
  rfl
noncomputable def spilelaw23_SharePartsP.e : Entry := mkP [.leaf (.row [.int .i64, .int .i64]), .leaf (.int .i64)] (.one (.leaf .bool)) fun x => spilelaw23_SharePartsP x.1 x.2
theorem spilelaw23_SharePartsP.ok : EntryOK Try.prog 6 (spilelaw23_SharePartsP.e) := mkP_ok (spilelaw23_ShareParts.tbok) Try.mixed Try.func6 (by kernel_rfl) spilelaw23_SharePartsP.eq

/-! ### spile/spileref22.Few: function 24 -/
noncomputable def spileref22_Few.tb : Table := tab [(11, spileref22_FewSharesP.e)] [] Table.nil
theorem spileref22_Few.tbok : TabOK Try.prog (spileref22_Few.tb) := TabOK.tab (TabOK.nil Try.prog) (all_cons spileref22_FewSharesP.ok (all_nil _)) (all_nil _)
noncomputable def spileref22_Few.loop1 (a0 : SV) : (Int) × H → Option (Stp ((Int) × H) (Flow (Unit) (Bool) × H)) := fun (y3, h4) =>
(bif (decide (y3 < ((a0.len : Nat) : Int))) then (guardO (0 ≤ y3 ∧ y3 < ((a0.len : Nat) : Int)) (guardO (V.nn ((V.add a0.a (Int.toNat y3 * 4)) : V) = true) ((rdT (.leaf .slice) h4 (V.add (V.add a0.a (Int.toNat y3 * 4)) 3)).bind fun x5 =>
((rdRow true h4 [.int .i64, .int .i64] x5).bind fun s7 =>
((spileref22_FewSharesP s7).bind fun r6 =>
(bif (!r6) then (some (.done (.ret false, h4))) else (some (.more ((IntKind.wrap .i64 (y3 + 1)), h4))))))))) else (some (.done (.ex0 (), h4))))
noncomputable def spileref22_Few (a0 : SV) (h : H) : Option ((Bool) × H) :=
(((bif (decide ((8 : Int) < ((a0.len : Nat) : Int))) then (bif !(decide (((a0.len : Nat) : Int) ≤ 32)) then (some ((decide ((37 : Int) < ((a0.len : Nat) : Int))), h)) else (some (true, h))) else (some ((decide ((37 : Int) < ((a0.len : Nat) : Int))), h)))).bind fun (y1, h2) =>
(bif y1 then (some (false, h2)) else ((iter FUEL (spileref22_Few.loop1 a0) (0, h2)).bind fun (fl9, h8) => match fl9 with
| .next _ => none
| .ret rr10 => (some (rr10, h8))
| .ex0 _ =>
(some (true, h8))
| .ex1 _ => none)))
def spileref22_Few.A : Ann := { lits := [], conds := [], loops := [(4, [3], [.leaf (.int .i64)], [], [], some 0, none)], regs := [(1, [16], [.leaf .bool])] }
theorem spileref22_Few.eq : ∀ (x : TT [.leaf .slice]) (h : H), evalFn Try.prog (spileref22_Few.tb) spileref22_Few.A Try.f24 (.one (.leaf .bool)) (TT.un [.leaf .slice] x) h = spileref22_Few x h := by
  intro x h
  kernel_rfl
noncomputable def spileref22_Few.e : Entry := mkX [.leaf .slice] (.one (.leaf .bool)) fun x h => spileref22_Few x h
theorem spileref22_Few.ok : EntryOK Try.prog 24 (spileref22_Few.e) := mkX_ok (spileref22_Few.tbok) Try.mixed Try.func24 (by kernel_rfl) (spileref22_Few.eq)
noncomputable def spileref22_FewP (a0 : (List (Int × Int × Int × (List (Int × Int))))) : Option (Bool) := (spileref22_Few (rowSV false [.int .i64, .int .i64, .int .i64, .row [.int .i64, .int .i64]] a0) H.empty).bind fun p => rdRes false p.2 (.one (.leaf .bool)) (Res.un (.one (.leaf .bool)) p.1)
theorem spileref22_FewP.eq : ∀ x : TT [.leaf (.row [.int .i64, .int .i64, .int .i64, .row [.int .i64, .int .i64]])], ((evalFn Try.prog (spileref22_Few.tb) spileref22_Few.A Try.f24 (.one (.leaf .bool)) (TT.lo false [.leaf (.row [.int .i64, .int .i64, .int .i64, .row [.int .i64, .int .i64]])] x) H.empty).bind fun p => rdRes false p.2 (.one (.leaf .bool)) (Res.un (.one (.leaf .bool)) p.1)) = spileref22_FewP x := by
  intro x
  rw [show TT.lo false [.leaf (.row [.int .i64, .int .i64, .int .i64, .row [.int .i64, .int .i64]])] x = TT.un [.leaf .slice] ((rowSV false [.int .i64, .int .i64, .int .i64, .row [.int .i64, .int .i64]] x)) from rfl, spileref22_Few.eq]
  rfl
noncomputable def spileref22_FewP.e : Entry := mkP [.leaf (.row [.int .i64, .int .i64, .int .i64, .row [.int .i64, .int .i64]])] (.one (.leaf .bool)) fun x => spileref22_FewP x
theorem spileref22_FewP.ok : EntryOK Try.prog 24 (spileref22_FewP.e) := mkP_ok (spileref22_Few.tbok) Try.mixed Try.func24 (by kernel_rfl) spileref22_FewP.eq

/-! ### spile/mix.plain: function 58 -/
noncomputable def mix_plain.tb : Table := tab [] [] Table.nil
theorem mix_plain.tbok : TabOK Try.prog (mix_plain.tb) := TabOK.tab (TabOK.nil Try.prog) (all_nil _) (all_nil _)
noncomputable def mix_plain (a0 : (Int × Int)) (h : H) : Option ((Bool) × H) :=
(match a0 with
| (a0_0, a0_1) =>
(let h1 : H := H.new h [.int .i64 a0_0, .int .i64 a0_1] 2
((((rdT (.leaf (.int .i64)) h1 (.hp h.next 2 0)).bind fun x2 =>
(bif (decide ((0 : Int) ≤ x2)) then ((rdT (.leaf (.int .i64)) h1 (.hp h.next 2 0)).bind fun x3 =>
(bif (decide (x3 ≤ 10737418240000)) then ((rdT (.leaf (.int .i64)) h1 (.hp h.next 2 1)).bind fun x4 =>
(bif (decide ((0 : Int) ≤ x4)) then ((rdT (.leaf (.int .i64)) h1 (.hp h.next 2 1)).bind fun x5 =>
(bif (decide (x5 ≤ 128849018880000)) then ((rdT (.leaf (.int .i64)) h1 (.hp h.next 2 1)).bind fun x6 =>
(bif !(decide ((0 : Int) < x6)) then ((rdT (.leaf (.int .i64)) h1 (.hp h.next 2 0)).bind fun x7 =>
(some ((decide (x7 = 0)), h1))) else (some (true, h1)))) else (some (false, h1)))) else (some (false, h1)))) else (some (false, h1)))) else (some (false, h1))))).bind fun (y8, h9) =>
(some (y8, h9)))))
def mix_plain.A : Ann := { lits := [], conds := [], loops := [], regs := [(1, [2], [.leaf .bool])] }
theorem mix_plain.eq : ∀ (x : TT [.agg [.int .i64, .int .i64]]) (h : H), evalFn Try.prog (mix_plain.tb) mix_plain.A Try.f58 (.one (.leaf .bool)) (TT.un [.agg [.int .i64, .int .i64]] x) h = mix_plain x h := by
  intro x h
  kernel_rfl
noncomputable def mix_plain.e : Entry := mkX [.agg [.int .i64, .int .i64]] (.one (.leaf .bool)) fun x h => mix_plain x h
theorem mix_plain.ok : EntryOK Try.prog 58 (mix_plain.e) := mkX_ok (mix_plain.tbok) Try.mixed Try.func58 (by kernel_rfl) (mix_plain.eq)
noncomputable def mix_plainP (a0 : (Int × Int)) : Option (Bool) := (mix_plain a0 H.empty).bind fun p => rdRes false p.2 (.one (.leaf .bool)) (Res.un (.one (.leaf .bool)) p.1)
theorem mix_plainP.eq : ∀ x : TT [.agg [.int .i64, .int .i64]], ((evalFn Try.prog (mix_plain.tb) mix_plain.A Try.f58 (.one (.leaf .bool)) (TT.lo false [.agg [.int .i64, .int .i64]] x) H.empty).bind fun p => rdRes false p.2 (.one (.leaf .bool)) (Res.un (.one (.leaf .bool)) p.1)) = mix_plainP x := by
  intro x
  rw [show TT.lo false [.agg [.int .i64, .int .i64]] x = TT.un [.agg [.int .i64, .int .i64]] (x) from rfl, mix_plain.eq]
  rfl
noncomputable def mix_plainP.e : Entry := mkP [.agg [.int .i64, .int .i64]] (.one (.leaf .bool)) fun x => mix_plainP x
theorem mix_plainP.ok : EntryOK Try.prog 58 (mix_plainP.e) := mkP_ok (mix_plain.tbok) Try.mixed Try.func58 (by kernel_rfl) mix_plainP.eq

/-! ### slices.IndexFunc[[]spile/api.Liquid,spile/api.Liquid]: function 89 -/
noncomputable def slices_IndexFunc_api_Liquid_api_Liquid.tb (T : Table) : Table := tab [] [] T
theorem slices_IndexFunc_api_Liquid_api_Liquid.tbok (T : Table) (hT : TabOK Try.prog T) : TabOK Try.prog (slices_IndexFunc_api_Liquid_api_Liquid.tb T) := TabOK.tab (hT) (all_nil _) (all_nil _)
noncomputable def slices_IndexFunc_api_Liquid_api_Liquid.loop1 (T : Table) (a0 : SV) (a1 : V) : (Int) × H → Option (Stp ((Int) × H) (Flow (Unit) (Int) × H)) := fun (y1, h2) =>
(bif (decide (y1 < ((a0.len : Nat) : Int))) then (guardO (0 ≤ y1 ∧ y1 < ((a0.len : Nat) : Int)) ((rdT (.agg [.int .i64, .int .i64]) h2 (V.add a0.a (Int.toNat y1 * 2))).bind fun (x3_0, x3_1) =>
(callV T.dy a1 [.agg [.int .i64 x3_0, .int .i64 x3_1]] h2 fun v4 h5 =>
(Res.pack (.one (.leaf .bool)) v4).bind fun r6 =>
(bif r6 then (some (.done (.ret y1, h5))) else (some (.more ((IntKind.wrap .i64 (y1 + 1)), h5))))))) else (some (.done (.ex0 (), h2))))
noncomputable def slices_IndexFunc_api_Liquid_api_Liquid (T : Table) (a0 : SV) (a1 : V) (h : H) : Option ((Int) × H) :=
((iter FUEL (slices_IndexFunc_api_Liquid_api_Liquid.loop1 T a0 a1) (0, h)).bind fun (fl8, h7) => match fl8 with
| .next _ => none
| .ret rr9 => (some (rr9, h7))
| .ex0 _ =>
(some ((-1), h7))
| .ex1 _ => none)
def slices_IndexFunc_api_Liquid_api_Liquid.A : Ann := { lits := [], conds := [], loops := [(2, [8], [.leaf (.int .i64)], [], [], some 0, none)], regs := [] }
theorem slices_IndexFunc_api_Liquid_api_Liquid.eq (T : Table) : ∀ (x : TT [.leaf .slice, .leaf .dyn]) (h : H), evalFn Try.prog (slices_IndexFunc_api_Liquid_api_Liquid.tb T) slices_IndexFunc_api_Liquid_api_Liquid.A Try.f89 (.one (.leaf (.int .i64))) (TT.un [.leaf .slice, .leaf .dyn] x) h = slices_IndexFunc_api_Liquid_api_Liquid T x.1 x.2 h := by
  intro x h
  kernel_rfl
noncomputable def slices_IndexFunc_api_Liquid_api_Liquid.e (T : Table) : Entry := mkX [.leaf .slice, .leaf .dyn] (.one (.leaf (.int .i64))) fun x h => slices_IndexFunc_api_Liquid_api_Liquid T x.1 x.2 h
theorem slices_IndexFunc_api_Liquid_api_Liquid.ok (T : Table) (hT : TabOK Try.prog T) : EntryOK Try.prog 89 (slices_IndexFunc_api_Liquid_api_Liquid.e T) := mkX_ok (slices_IndexFunc_api_Liquid_api_Liquid.tbok T hT) Try.mixed Try.func89 (by kernel_rfl) (slices_IndexFunc_api_Liquid_api_Liquid.eq T)

/-! ### slices.ContainsFunc[[]spile/api.Liquid,spile/api.Liquid]: function 72 -/
noncomputable def slices_ContainsFunc_api_Liquid_api_Liquid.tb (T : Table) : Table := tab [] [] T
theorem slices_ContainsFunc_api_Liquid_api_Liquid.tbok (T : Table) (hT : TabOK Try.prog T) : TabOK Try.prog (slices_ContainsFunc_api_Liquid_api_Liquid.tb T) := TabOK.tab (hT) (all_nil _) (all_nil _)
noncomputable def slices_ContainsFunc_api_Liquid_api_Liquid (T : Table) (a0 : SV) (a1 : V) (h : H) : Option ((Bool) × H) :=
((slices_IndexFunc_api_Liquid_api_Liquid (slices_ContainsFunc_api_Liquid_api_Liquid.tb T) a0 a1 h).bind fun (r1, h2) =>
(some ((decide ((0 : Int) ≤ r1)), h2)))
def slices_ContainsFunc_api_Liquid_api_Liquid.A : Ann := { lits := [], conds := [], loops := [], regs := [] }
noncomputable def slices_ContainsFunc_api_Liquid_api_Liquid.tc (T : Table) : Table := tab [(89, slices_IndexFunc_api_Liquid_api_Liquid.e (slices_ContainsFunc_api_Liquid_api_Liquid.tb T))] [] (slices_ContainsFunc_api_Liquid_api_Liquid.tb T)
theorem slices_ContainsFunc_api_Liquid_api_Liquid.tcok (T : Table) (hT : TabOK Try.prog T) : TabOK Try.prog (slices_ContainsFunc_api_Liquid_api_Liquid.tc T) := TabOK.tab (slices_ContainsFunc_api_Liquid_api_Liquid.tbok T hT) (all_cons (slices_IndexFunc_api_Liquid_api_Liquid.ok _ (slices_ContainsFunc_api_Liquid_api_Liquid.tbok T hT)) (all_nil _)) (all_nil _)
theorem slices_ContainsFunc_api_Liquid_api_Liquid.eq (T : Table) : ∀ (x : TT [.leaf .slice, .leaf .dyn]) (h : H), evalFn Try.prog (slices_ContainsFunc_api_Liquid_api_Liquid.tc T) slices_ContainsFunc_api_Liquid_api_Liquid.A Try.f72 (.one (.leaf .bool)) (TT.un [.leaf .slice, .leaf .dyn] x) h = slices_ContainsFunc_api_Liquid_api_Liquid T x.1 x.2 h := by
  intro x h
  kernel_rfl
noncomputable def slices_ContainsFunc_api_Liquid_api_Liquid.e (T : Table) : Entry := mkX [.leaf .slice, .leaf .dyn] (.one (.leaf .bool)) fun x h => slices_ContainsFunc_api_Liquid_api_Liquid T x.1 x.2 h
theorem slices_ContainsFunc_api_Liquid_api_Liquid.ok (T : Table) (hT : TabOK Try.prog T) : EntryOK Try.prog 72 (slices_ContainsFunc_api_Liquid_api_Liquid.e T) := mkX_ok (slices_ContainsFunc_api_Liquid_api_Liquid.tcok T hT) Try.mixed Try.func72 (by kernel_rfl) (slices_ContainsFunc_api_Liquid_api_Liquid.eq T)

/-! ### spile/mix.Sum$1: function 73 -/
noncomputable def mix_Sum_1.tb : Table := tab [(58, mix_plainP.e)] [] Table.nil
theorem mix_Sum_1.tbok : TabOK Try.prog (mix_Sum_1.tb) := TabOK.tab (TabOK.nil Try.prog) (all_cons mix_plainP.ok (all_nil _)) (all_nil _)
noncomputable def mix_Sum_1 (a0 : (Int × Int)) (h : H) : Option ((Bool) × H) :=
(match a0 with
| (a0_0, a0_1) =>
(let h1 : H := H.new h [.int .i64 a0_0, .int .i64 a0_1] 2
((rdT (.agg [.int .i64, .int .i64]) h1 (.hp h.next 2 0)).bind fun (x2_0, x2_1) =>
((mix_plainP (x2_0, x2_1)).bind fun r3 =>
(some ((!r3), h1))))))
def mix_Sum_1.A : Ann := { lits := [], conds := [], loops := [], regs := [] }
theorem mix_Sum_1.eq : ∀ (x : TT [.agg [.int .i64, .int .i64]]) (h : H), evalFn Try.prog (mix_Sum_1.tb) mix_Sum_1.A Try.f73 (.one (.leaf .bool)) (TT.un [.agg [.int .i64, .int .i64]] x) h = mix_Sum_1 x h := by
  intro x h
  kernel_rfl
noncomputable def mix_Sum_1.e : Entry := mkX [.agg [.int .i64, .int .i64]] (.one (.leaf .bool)) fun x h => mix_Sum_1 x h
theorem mix_Sum_1.ok : EntryOK Try.prog 73 (mix_Sum_1.e) := mkX_ok (mix_Sum_1.tbok) Try.mixed Try.func73 (by kernel_rfl) (mix_Sum_1.eq)
noncomputable def mix_Sum_1P (a0 : (Int × Int)) : Option (Bool) := (mix_Sum_1 a0 H.empty).bind fun p => rdRes false p.2 (.one (.leaf .bool)) (Res.un (.one (.leaf .bool)) p.1)
theorem mix_Sum_1P.eq : ∀ x : TT [.agg [.int .i64, .int .i64]], ((evalFn Try.prog (mix_Sum_1.tb) mix_Sum_1.A Try.f73 (.one (.leaf .bool)) (TT.lo false [.agg [.int .i64, .int .i64]] x) H.empty).bind fun p => rdRes false p.2 (.one (.leaf .bool)) (Res.un (.one (.leaf .bool)) p.1)) = mix_Sum_1P x := by
  intro x
  rw [show TT.lo false [.agg [.int .i64, .int .i64]] x = TT.un [.agg [.int .i64, .int .i64]] (x) from rfl, mix_Sum_1.eq]
  rfl
noncomputable def mix_Sum_1P.e : Entry := mkP [.agg [.int .i64, .int .i64]] (.one (.leaf .bool)) fun x => mix_Sum_1P x
theorem mix_Sum_1P.ok : EntryOK Try.prog 73 (mix_Sum_1P.e) := mkP_ok (mix_Sum_1.tbok) Try.mixed Try.func73 (by kernel_rfl) mix_Sum_1P.eq
end Go.Proofs.Ytbcpdecgfdlaaaa
