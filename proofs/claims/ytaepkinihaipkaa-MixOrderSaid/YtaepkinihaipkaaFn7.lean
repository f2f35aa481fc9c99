/- The functions of the program as Lean functions, each with the equation by which the evaluator is that function. Written by a program of this session (evdrive.py). Conditions: none. -/
import Derived.Test.YtaepkinihaipkaaProg
import Derived.Test.YtaepkinihaipkaaEvSpec
import Derived.Test.YtaepkinihaipkaaFn6
namespace Go.Proofs.Ytaepkinihaipkaa
open Go Go.Proofs.Ytaepkinihaipkaa.Ev
set_option maxRecDepth 100000
set_option linter.unusedVariables false
/-! ### spile/spileref18.At: function 59 -/
noncomputable def spileref18_At.tb : Table := tab [(72, spileref16_AtP.e), (73, spileref18_lineP.e)] [] Table.nil
theorem spileref18_At.tbok : TabOK Try.prog (spileref18_At.tb) := TabOK.tab (TabOK.nil Try.prog) (all_cons spileref16_AtP.ok (all_cons spileref18_lineP.ok (all_nil _))) (all_nil _)
noncomputable def spileref18_At (a0 : SV) (a1 : Int) (h : H) : Option ((Int) × H) :=
((rdRow true h [.int .i64, .int .i64] a0).bind fun s2 =>
((spileref16_AtP s2 a1).bind fun r1 =>
(guardO (0 ≤ r1 ∧ r1 < ((a0.len : Nat) : Int)) (guardO (V.nn ((V.add a0.a (Int.toNat r1 * 2)) : V) = true) ((rdT (.leaf (.int .i64)) h (V.add (V.add a0.a (Int.toNat r1 * 2)) 0)).bind fun x3 =>
(bif (decide (x3 = a1)) then (guardO (0 ≤ r1 ∧ r1 < ((a0.len : Nat) : Int)) (guardO (V.nn ((V.add a0.a (Int.toNat r1 * 2)) : V) = true) ((rdT (.leaf (.int .i64)) h (V.add (V.add a0.a (Int.toNat r1 * 2)) 1)).bind fun x4 =>
(some (x4, h))))) else (let h5 : H := H.reserve h 0
(guardO (0 ≤ r1 ∧ r1 < ((a0.len : Nat) : Int)) ((rdT (.agg [.int .i64, .int .i64]) h5 (V.add a0.a (Int.toNat r1 * 2))).bind fun (x6_0, x6_1) =>
(guardO (0 ≤ (IntKind.wrap .i64 (r1 + 1)) ∧ (IntKind.wrap .i64 (r1 + 1)) < ((a0.len : Nat) : Int)) ((rdT (.agg [.int .i64, .int .i64]) h5 (V.add a0.a (Int.toNat (IntKind.wrap .i64 (r1 + 1)) * 2))).bind fun (x7_0, x7_1) =>
((spileref18_lineP (x6_0, x6_1) (x7_0, x7_1) a1).bind fun r8 =>
(some (r8, h5))))))))))))))
def spileref18_At.A : Ann := { lits := [], conds := [], loops := [], regs := [] }
theorem spileref18_At.eq : ∀ (x : TT [.leaf .slice, .leaf (.int .i64)]) (h : H), evalFn Try.prog (spileref18_At.tb) spileref18_At.A Try.f59 (.one (.leaf (.int .i64))) (TT.un [.leaf .slice, .leaf (.int .i64)] x) h = spileref18_At x.1 x.2 h := by
  intro x h
  kernel_rfl
noncomputable def spileref18_At.e : Entry := mkX [.leaf .slice, .leaf (.int .i64)] (.one (.leaf (.int .i64))) fun x h => spileref18_At x.1 x.2 h
theorem spileref18_At.ok : EntryOK Try.prog 59 (spileref18_At.e) := mkX_ok (spileref18_At.tbok) Try.mixed Try.func59 (by kernel_rfl) (spileref18_At.eq)
noncomputable def spileref18_AtP (a0 : (List (Int × Int))) (a1 : Int) : Option (Int) := (spileref18_At (rowSV false [.int .i64, .int .i64] a0) a1 H.empty).bind fun p => rdRes false p.2 (.one (.leaf (.int .i64))) (Res.un (.one (.leaf (.int .i64))) p.1)
theorem spileref18_AtP.eq : ∀ x : TT [.leaf (.row [.int .i64, .int .i64]), .leaf (.int .i64)], ((evalFn Try.prog (spileref18_At.tb) spileref18_At.A Try.f59 (.one (.leaf (.int .i64))) (TT.lo false [.leaf (.row [.int .i64, .int .i64]), .leaf (.int .i64)] x) H.empty).bind fun p => rdRes false p.2 (.one (.leaf (.int .i64))) (Res.un (.one (.leaf (.int .i64))) p.1)) = spileref18_AtP x.1 x.2 := by
  intro x
  rw [show TT.lo false [.leaf (.row [.int .i64, .int .i64]), .leaf (.int .i64)] x = TT.un [.leaf .slice, .leaf (.int .i64)] ((rowSV false [.int .i64, .int .i64] x.1), x.2) from rfl, spileref18_At.eq]
  rfl
noncomputable def spileref18_AtP.e : Entry := mkP [.leaf (.row [.int .i64, .int .i64]), .leaf (.int .i64)] (.one (.leaf (.int .i64))) fun x => spileref18_AtP x.1 x.2
theorem spileref18_AtP.ok : EntryOK Try.prog 59 (spileref18_AtP.e) := mkP_ok (spileref18_At.tbok) Try.mixed Try.func59 (by kernel_rfl) spileref18_AtP.eq

/-! ### spile/spileref16.Check: function 84 -/
noncomputable def spileref16_Check.tb : Table := tab [] [] Table.nil
theorem spileref16_Check.tbok : TabOK Try.prog (spileref16_Check.tb) := TabOK.tab (TabOK.nil Try.prog) (all_nil _) (all_nil _)
noncomputable def spileref16_Check.loop1 (a0 : SV) : (Int) × H → Option (Stp ((Int) × H) (Flow (Unit) (Int × Int) × H)) := fun (y1, h2) =>
(bif (decide (y1 < ((a0.len : Nat) : Int))) then (((guardO (0 ≤ y1 ∧ y1 < ((a0.len : Nat) : Int)) (guardO (V.nn ((V.add a0.a (Int.toNat y1 * 2)) : V) = true) ((rdT (.leaf (.int .i64)) h2 (V.add (V.add a0.a (Int.toNat y1 * 2)) 0)).bind fun x3 =>
(bif !(decide (x3 < 0)) then (guardO (0 ≤ y1 ∧ y1 < ((a0.len : Nat) : Int)) (guardO (V.nn ((V.add a0.a (Int.toNat y1 * 2)) : V) = true) ((rdT (.leaf (.int .i64)) h2 (V.add (V.add a0.a (Int.toNat y1 * 2)) 0)).bind fun x4 =>
(bif !(decide ((10000 : Int) < x4)) then (guardO (0 ≤ y1 ∧ y1 < ((a0.len : Nat) : Int)) (guardO (V.nn ((V.add a0.a (Int.toNat y1 * 2)) : V) = true) ((rdT (.leaf (.int .i64)) h2 (V.add (V.add a0.a (Int.toNat y1 * 2)) 1)).bind fun x5 =>
(bif !(decide (x5 < 50000)) then (guardO (0 ≤ y1 ∧ y1 < ((a0.len : Nat) : Int)) (guardO (V.nn ((V.add a0.a (Int.toNat y1 * 2)) : V) = true) ((rdT (.leaf (.int .i64)) h2 (V.add (V.add a0.a (Int.toNat y1 * 2)) 1)).bind fun x6 =>
(some ((decide ((120000 : Int) < x6)), h2))))) else (some (true, h2)))))) else (some (true, h2)))))) else (some (true, h2))))))).bind fun (y7, h8) =>
(bif y7 then (some (.done (.ret (y1, 2), h8))) else (((let h9 : H := H.reserve h8 0
(bif (decide ((0 : Int) < y1)) then (guardO (0 ≤ y1 ∧ y1 < ((a0.len : Nat) : Int)) (guardO (V.nn ((V.add a0.a (Int.toNat y1 * 2)) : V) = true) ((rdT (.leaf (.int .i64)) h9 (V.add (V.add a0.a (Int.toNat y1 * 2)) 0)).bind fun x10 =>
(guardO (0 ≤ (IntKind.wrap .i64 (y1 - 1)) ∧ (IntKind.wrap .i64 (y1 - 1)) < ((a0.len : Nat) : Int)) (guardO (V.nn ((V.add a0.a (Int.toNat (IntKind.wrap .i64 (y1 - 1)) * 2)) : V) = true) ((rdT (.leaf (.int .i64)) h9 (V.add (V.add a0.a (Int.toNat (IntKind.wrap .i64 (y1 - 1)) * 2)) 0)).bind fun x11 =>
(some ((decide (x10 ≤ x11)), h9)))))))) else (some (false, h9))))).bind fun (y12, h13) =>
(bif y12 then (some (.done (.ret (y1, 5), h13))) else (((let h14 : H := H.reserve h13 0
(bif (decide ((0 : Int) < y1)) then (guardO (0 ≤ y1 ∧ y1 < ((a0.len : Nat) : Int)) (guardO (V.nn ((V.add a0.a (Int.toNat y1 * 2)) : V) = true) ((rdT (.leaf (.int .i64)) h14 (V.add (V.add a0.a (Int.toNat y1 * 2)) 1)).bind fun x15 =>
(guardO (0 ≤ (IntKind.wrap .i64 (y1 - 1)) ∧ (IntKind.wrap .i64 (y1 - 1)) < ((a0.len : Nat) : Int)) (guardO (V.nn ((V.add a0.a (Int.toNat (IntKind.wrap .i64 (y1 - 1)) * 2)) : V) = true) ((rdT (.leaf (.int .i64)) h14 (V.add (V.add a0.a (Int.toNat (IntKind.wrap .i64 (y1 - 1)) * 2)) 1)).bind fun x16 =>
(some ((decide (x16 < x15)), h14)))))))) else (some (false, h14))))).bind fun (y17, h18) =>
(bif y17 then (some (.done (.ret (y1, 18), h18))) else (some (.more ((IntKind.wrap .i64 (y1 + 1)), h18))))))))) else (some (.done (.ex0 (), h2))))
noncomputable def spileref16_Check (a0 : SV) (h : H) : Option ((Int × Int) × H) :=
(bif (decide ((128 : Int) < ((a0.len : Nat) : Int))) then (some (((-1), 8), h)) else (bif (decide (((a0.len : Nat) : Int) < 2)) then (some (((-1), 9), h)) else ((iter FUEL (spileref16_Check.loop1 a0) (0, h)).bind fun (fl20, h19) => match fl20 with
| .next _ => none
| .ret rr21 => (some (rr21, h19))
| .ex0 _ =>
(guardO (0 ≤ (0 : Int) ∧ 0 < ((a0.len : Nat) : Int)) (guardO (V.nn ((V.add a0.a 0) : V) = true) ((rdT (.leaf (.int .i64)) h19 (V.add (V.add a0.a 0) 0)).bind fun x22 =>
(bif (!(decide (x22 = 0))) then (some ((0, 10), h19)) else (guardO (0 ≤ (IntKind.wrap .i64 (((a0.len : Nat) : Int) - 1)) ∧ (IntKind.wrap .i64 (((a0.len : Nat) : Int) - 1)) < ((a0.len : Nat) : Int)) (guardO (V.nn ((V.add a0.a (Int.toNat (IntKind.wrap .i64 (((a0.len : Nat) : Int) - 1)) * 2)) : V) = true) ((rdT (.leaf (.int .i64)) h19 (V.add (V.add a0.a (Int.toNat (IntKind.wrap .i64 (((a0.len : Nat) : Int) - 1)) * 2)) 0)).bind fun x23 =>
(bif (!(decide (x23 = 10000))) then (some (((IntKind.wrap .i64 (((a0.len : Nat) : Int) - 1)), 10), h19)) else (some (((-1), 0), h19))))))))))
| .ex1 _ => none)))
def spileref16_Check.A : Ann := { lits := [], conds := [], loops := [(6, [4], [.leaf (.int .i64)], [], [], some 0, none)], regs := [(8, [46], [.leaf .bool]), (10, [63], [.leaf .bool]), (12, [80], [.leaf .bool])] }
theorem spileref16_Check.eq : ∀ (x : TT [.leaf .slice]) (h : H), evalFn Try.prog (spileref16_Check.tb) spileref16_Check.A Try.f84 (.many [.leaf (.int .i64), .leaf (.int .i64)]) (TT.un [.leaf .slice] x) h = spileref16_Check x h := by
  intro x h
  kernel_rfl
noncomputable def spileref16_Check.e : Entry := mkX [.leaf .slice] (.many [.leaf (.int .i64), .leaf (.int .i64)]) fun x h => spileref16_Check x h
theorem spileref16_Check.ok : EntryOK Try.prog 84 (spileref16_Check.e) := mkX_ok (spileref16_Check.tbok) Try.mixed Try.func84 (by kernel_rfl) (spileref16_Check.eq)
noncomputable def spileref16_CheckP (a0 : (List (Int × Int))) : Option (Int × Int) := (spileref16_Check (rowSV false [.int .i64, .int .i64] a0) H.empty).bind fun p => rdRes false p.2 (.many [.leaf (.int .i64), .leaf (.int .i64)]) (Res.un (.many [.leaf (.int .i64), .leaf (.int .i64)]) p.1)
theorem spileref16_CheckP.eq : ∀ x : TT [.leaf (.row [.int .i64, .int .i64])], ((evalFn Try.prog (spileref16_Check.tb) spileref16_Check.A Try.f84 (.many [.leaf (.int .i64), .leaf (.int .i64)]) (TT.lo false [.leaf (.row [.int .i64, .int .i64])] x) H.empty).bind fun p => rdRes false p.2 (.many [.leaf (.int .i64), .leaf (.int .i64)]) (Res.un (.many [.leaf (.int .i64), .leaf (.int .i64)]) p.1)) = spileref16_CheckP x := by
  intro x
  rw [show TT.lo false [.leaf (.row [.int .i64, .int .i64])] x = TT.un [.leaf .slice] ((rowSV false [.int .i64, .int .i64] x)) from rfl, spileref16_Check.eq]
  rfl
noncomputable def spileref16_CheckP.e : Entry := mkP [.leaf (.row [.int .i64, .int .i64])] (.many [.leaf (.int .i64), .leaf (.int .i64)]) fun x => spileref16_CheckP x
theorem spileref16_CheckP.ok : EntryOK Try.prog 84 (spileref16_CheckP.e) := mkP_ok (spileref16_Check.tbok) Try.mixed Try.func84 (by kernel_rfl) spileref16_CheckP.eq

/-! ### spile/spileref16.Right: function 71 -/
noncomputable def spileref16_Right.tb : Table := tab [(84, spileref16_CheckP.e)] [] Table.nil
theorem spileref16_Right.tbok : TabOK Try.prog (spileref16_Right.tb) := TabOK.tab (TabOK.nil Try.prog) (all_cons spileref16_CheckP.ok (all_nil _)) (all_nil _)
noncomputable def spileref16_Right (a0 : SV) (h : H) : Option ((Bool) × H) :=
((rdRow true h [.int .i64, .int .i64] a0).bind fun s3 =>
((spileref16_CheckP s3).bind fun (r1, r2) =>
(some ((decide (r2 = 0)), h))))
def spileref16_Right.A : Ann := { lits := [], conds := [], loops := [], regs := [] }
theorem spileref16_Right.eq : ∀ (x : TT [.leaf .slice]) (h : H), evalFn Try.prog (spileref16_Right.tb) spileref16_Right.A Try.f71 (.one (.leaf .bool)) (TT.un [.leaf .slice] x) h = spileref16_Right x h := by
  intro x h
  kernel_rfl
noncomputable def spileref16_Right.e : Entry := mkX [.leaf .slice] (.one (.leaf .bool)) fun x h => spileref16_Right x h
theorem spileref16_Right.ok : EntryOK Try.prog 71 (spileref16_Right.e) := mkX_ok (spileref16_Right.tbok) Try.mixed Try.func71 (by kernel_rfl) (spileref16_Right.eq)
noncomputable def spileref16_RightP (a0 : (List (Int × Int))) : Option (Bool) := (spileref16_Right (rowSV false [.int .i64, .int .i64] a0) H.empty).bind fun p => rdRes false p.2 (.one (.leaf .bool)) (Res.un (.one (.leaf .bool)) p.1)
theorem spileref16_RightP.eq : ∀ x : TT [.leaf (.row [.int .i64, .int .i64])], ((evalFn Try.prog (spileref16_Right.tb) spileref16_Right.A Try.f71 (.one (.leaf .bool)) (TT.lo false [.leaf (.row [.int .i64, .int .i64])] x) H.empty).bind fun p => rdRes false p.2 (.one (.leaf .bool)) (Res.un (.one (.leaf .bool)) p.1)) = spileref16_RightP x := by
  intro x
  rw [show TT.lo false [.leaf (.row [.int .i64, .int .i64])] x = TT.un [.leaf .slice] ((rowSV false [.int .i64, .int .i64] x)) from rfl, spileref16_Right.eq]
  rfl
noncomputable def spileref16_RightP.e : Entry := mkP [.leaf (.row [.int .i64, .int .i64])] (.one (.leaf .bool)) fun x => spileref16_RightP x
theorem spileref16_RightP.ok : EntryOK Try.prog 71 (spileref16_RightP.e) := mkP_ok (spileref16_Right.tbok) Try.mixed Try.func71 (by kernel_rfl) spileref16_RightP.eq

/-! ### spile/spileref20.Check: function 58 -/
noncomputable def spileref20_Check.tb : Table := tab [(59, spileref18_AtP.e), (71, spileref16_RightP.e)] [] Table.nil
theorem spileref20_Check.tbok : TabOK Try.prog (spileref20_Check.tb) := TabOK.tab (TabOK.nil Try.prog) (all_cons spileref18_AtP.ok (all_cons spileref16_RightP.ok (all_nil _))) (all_nil _)
noncomputable def spileref20_Check (a0 : SV) (a1 : (Int × Int)) (h : H) : Option ((Int) × H) :=
(match a1 with
| (a1_0, a1_1) =>
(let h1 : H := H.new h [.int .i64 a1_0, .int .i64 a1_1] 2
((rdRow true h1 [.int .i64, .int .i64] a0).bind fun s3 =>
((spileref16_RightP s3).bind fun r2 =>
(bif (!r2) then (some (1, h1)) else ((((rdT (.leaf (.int .i64)) h1 (.hp h.next 2 0)).bind fun x4 =>
(bif !(decide (x4 < 0)) then ((rdT (.leaf (.int .i64)) h1 (.hp h.next 2 0)).bind fun x5 =>
(bif !(decide ((10737418240000 : Int) < x5)) then ((rdT (.leaf (.int .i64)) h1 (.hp h.next 2 1)).bind fun x6 =>
(bif !(decide (x6 < 0)) then ((rdT (.leaf (.int .i64)) h1 (.hp h.next 2 1)).bind fun x7 =>
(some ((decide ((128849018880000 : Int) < x7)), h1))) else (some (true, h1)))) else (some (true, h1)))) else (some (true, h1))))).bind fun (y8, h9) =>
(bif y8 then (some (2, h9)) else (let h10 : H := H.reserve h9 0
((rdT (.leaf (.int .i64)) h10 (.hp h.next 2 0)).bind fun x11 =>
((rdRow true h10 [.int .i64, .int .i64] a0).bind fun s13 =>
((spileref18_AtP s13 10000).bind fun r12 =>
((rdT (.leaf (.int .i64)) h10 (.hp h.next 2 1)).bind fun x14 =>
(bif (decide ((IntKind.wrap .i64 (x14 * 10000)) < (IntKind.wrap .i64 (x11 * r12)))) then (some (10, h10)) else (some (0, h10)))))))))))))))
def spileref20_Check.A : Ann := { lits := [], conds := [], loops := [], regs := [(3, [25], [.leaf .bool])] }
theorem spileref20_Check.eq : ∀ (x : TT [.leaf .slice, .agg [.int .i64, .int .i64]]) (h : H), evalFn Try.prog (spileref20_Check.tb) spileref20_Check.A Try.f58 (.one (.leaf (.int .i64))) (TT.un [.leaf .slice, .agg [.int .i64, .int .i64]] x) h = spileref20_Check x.1 x.2 h := by
  intro x h
  kernel_rfl
noncomputable def spileref20_Check.e : Entry := mkX [.leaf .slice, .agg [.int .i64, .int .i64]] (.one (.leaf (.int .i64))) fun x h => spileref20_Check x.1 x.2 h
theorem spileref20_Check.ok : EntryOK Try.prog 58 (spileref20_Check.e) := mkX_ok (spileref20_Check.tbok) Try.mixed Try.func58 (by kernel_rfl) (spileref20_Check.eq)
noncomputable def spileref20_CheckP (a0 : (List (Int × Int))) (a1 : (Int × Int)) : Option (Int) := (spileref20_Check (rowSV false [.int .i64, .int .i64] a0) a1 H.empty).bind fun p => rdRes false p.2 (.one (.leaf (.int .i64))) (Res.un (.one (.leaf (.int .i64))) p.1)
theorem spileref20_CheckP.eq : ∀ x : TT [.leaf (.row [.int .i64, .int .i64]), .agg [.int .i64, .int .i64]], ((evalFn Try.prog (spileref20_Check.tb) spileref20_Check.A Try.f58 (.one (.leaf (.int .i64))) (TT.lo false [.leaf (.row [.int .i64, .int .i64]), .agg [.int .i64, .int .i64]] x) H.empty).bind fun p => rdRes false p.2 (.one (.leaf (.int .i64))) (Res.un (.one (.leaf (.int .i64))) p.1)) = spileref20_CheckP x.1 x.2 := by
  intro x
  rw [show TT.lo false [.leaf (.row [.int .i64, .int .i64]), .agg [.int .i64, .int .i64]] x = TT.un [.leaf .slice, .agg [.int .i64, .int .i64]] ((rowSV false [.int .i64, .int .i64] x.1), x.2) from rfl, spileref20_Check.eq]
  rfl
noncomputable def spileref20_CheckP.e : Entry := mkP [.leaf (.row [.int .i64, .int .i64]), .agg [.int .i64, .int .i64]] (.one (.leaf (.int .i64))) fun x => spileref20_CheckP x.1 x.2
theorem spileref20_CheckP.ok : EntryOK Try.prog 58 (spileref20_CheckP.e) := mkP_ok (spileref20_Check.tbok) Try.mixed Try.func58 (by kernel_rfl) spileref20_CheckP.eq

/-! ### spile/spileref21.asks: function 39 -/
noncomputable def spileref21_asks.tb : Table := tab [(12, spileref21_SumP.e), (58, spileref20_CheckP.e)] [] Table.nil
theorem spileref21_asks.tbok : TabOK Try.prog (spileref21_asks.tb) := TabOK.tab (TabOK.nil Try.prog) (all_cons spileref21_SumP.ok (all_cons spileref20_CheckP.ok (all_nil _))) (all_nil _)
noncomputable def spileref21_asks.loop1 (h : H) (a0 : SV) (a1 : SV) : (Int) × H → Option (Stp ((Int) × H) (Flow (Unit) ((Int × Int) × Int) × H)) := fun (y8, h9) =>
(bif (decide (y8 < ((a1.len : Nat) : Int))) then (guardO (0 ≤ y8 ∧ y8 < ((a1.len : Nat) : Int)) ((rdT (.agg [.int .i64, .int .i64]) h9 (V.add a1.a (Int.toNat y8 * 2))).bind fun (x10_0, x10_1) =>
((rdRow true h9 [.int .i64, .int .i64] a0).bind fun s12 =>
((spileref20_CheckP s12 (x10_0, x10_1)).bind fun r11 =>
(bif (!(decide (r11 = 0))) then ((H.wrs h9 (.hp h.next 2 0) [.int .i64 0, .int .i64 0]).bind fun h13 =>
((rdT (.agg [.int .i64, .int .i64]) h13 (.hp h.next 2 0 : V)).bind fun (x14_0, x14_1) =>
(some (.done (.ret ((x14_0, x14_1), 1), h13))))) else (some (.more ((IntKind.wrap .i64 (y8 + 1)), h9)))))))) else (some (.done (.ex0 (), h9))))
noncomputable def spileref21_asks (a0 : SV) (a1 : SV) (h : H) : Option (((Int × Int) × Int) × H) :=
(let h1 : H := H.new h [.int .i64 0, .int .i64 0] 2
(bif (decide ((8 : Int) < ((a1.len : Nat) : Int))) then ((H.wrs h1 (.hp h.next 2 0) [.int .i64 0, .int .i64 0]).bind fun h2 =>
((rdT (.agg [.int .i64, .int .i64]) h2 (.hp h.next 2 0 : V)).bind fun (x3_0, x3_1) =>
(some (((x3_0, x3_1), 8), h2)))) else ((rdRow true h1 [.int .i64, .int .i64] a0).bind fun s5 =>
((spileref20_CheckP s5 (0, 0)).bind fun r4 =>
(bif (!(decide (r4 = 0))) then ((H.wrs h1 (.hp h.next 2 0) [.int .i64 0, .int .i64 0]).bind fun h6 =>
((rdT (.agg [.int .i64, .int .i64]) h6 (.hp h.next 2 0 : V)).bind fun (x7_0, x7_1) =>
(some (((x7_0, x7_1), 1), h6)))) else ((iter FUEL (spileref21_asks.loop1 h a0 a1) (0, h1)).bind fun (fl16, h15) => match fl16 with
| .next _ => none
| .ret rr17 => (some (rr17, h15))
| .ex0 _ =>
((rdRow true h15 [.int .i64, .int .i64] a1).bind fun s20 =>
((spileref21_SumP s20).bind fun ((r18_0, r18_1), r19) =>
((H.wrs h15 (.hp h.next 2 0) [.int .i64 r18_0, .int .i64 r18_1]).bind fun h21 =>
((rdT (.agg [.int .i64, .int .i64]) h21 (.hp h.next 2 0 : V)).bind fun (x22_0, x22_1) =>
(some (((x22_0, x22_1), r19), h21))))))
| .ex1 _ => none))))))
def spileref21_asks.A : Ann := { lits := [], conds := [], loops := [(6, [6], [.leaf (.int .i64)], [], [], some 0, none)], regs := [] }
theorem spileref21_asks.eq : ∀ (x : TT [.leaf .slice, .leaf .slice]) (h : H), evalFn Try.prog (spileref21_asks.tb) spileref21_asks.A Try.f39 (.many [.agg [.int .i64, .int .i64], .leaf (.int .i64)]) (TT.un [.leaf .slice, .leaf .slice] x) h = spileref21_asks x.1 x.2 h := by
  intro x h
  kernel_rfl
noncomputable def spileref21_asks.e : Entry := mkX [.leaf .slice, .leaf .slice] (.many [.agg [.int .i64, .int .i64], .leaf (.int .i64)]) fun x h => spileref21_asks x.1 x.2 h
theorem spileref21_asks.ok : EntryOK Try.prog 39 (spileref21_asks.e) := mkX_ok (spileref21_asks.tbok) Try.mixed Try.func39 (by kernel_rfl) (spileref21_asks.eq)
noncomputable def spileref21_asksP (a0 : (List (Int × Int))) (a1 : (List (Int × Int))) : Option ((Int × Int) × Int) := (spileref21_asks (rowSV false [.int .i64, .int .i64] a0) (rowSV false [.int .i64, .int .i64] a1) H.empty).bind fun p => rdRes false p.2 (.many [.agg [.int .i64, .int .i64], .leaf (.int .i64)]) (Res.un (.many [.agg [.int .i64, .int .i64], .leaf (.int .i64)]) p.1)
theorem spileref21_asksP.eq : ∀ x : TT [.leaf (.row [.int .i64, .int .i64]), .leaf (.row [.int .i64, .int .i64])], ((evalFn Try.prog (spileref21_asks.tb) spileref21_asks.A Try.f39 (.many [.agg [.int .i64, .int .i64], .leaf (.int .i64)]) (TT.lo false [.leaf (.row [.int .i64, .int .i64]), .leaf (.row [.int .i64, .int .i64])] x) H.empty).bind fun p => rdRes false p.2 (.many [.agg [.int .i64, .int .i64], .leaf (.int .i64)]) (Res.un (.many [.agg [.int .i64, .int .i64], .leaf (.int .i64)]) p.1)) = spileref21_asksP x.1 x.2 := by
  intro x
  rw [show TT.lo false [.leaf (.row [.int .i64, .int .i64]), .leaf (.row [.int .i64, .int .i64])] x = TT.un [.leaf .slice, .leaf .slice] ((rowSV false [.int .i64, .int .i64] x.1), (rowSV false [.int .i64, .int .i64] x.2)) from rfl, spileref21_asks.eq]
  rfl
noncomputable def spileref21_asksP.e : Entry := mkP [.leaf (.row [.int .i64, .int .i64]), .leaf (.row [.int .i64, .int .i64])] (.many [.agg [.int .i64, .int .i64], .leaf (.int .i64)]) fun x => spileref21_asksP x.1 x.2
theorem spileref21_asksP.ok : EntryOK Try.prog 39 (spileref21_asksP.e) := mkP_ok (spileref21_asks.tbok) Try.mixed Try.func39 (by kernel_rfl) spileref21_asksP.eq

/-! ### spile/spileref20.Grade: function 41 -/
noncomputable def spileref20_Grade.tb : Table := tab [(59, spileref18_AtP.e)] [] Table.nil
theorem spileref20_Grade.tbok : TabOK Try.prog (spileref20_Grade.tb) := TabOK.tab (TabOK.nil Try.prog) (all_cons spileref18_AtP.ok (all_nil _)) (all_nil _)
noncomputable def spileref20_Grade.loop1 (h : H) (a0 : SV) : (Int × Int) × H → Option (Stp ((Int × Int) × H) (Flow (Int) (Int) × H)) := fun ((y3, y4), h5) =>
(bif (decide (y3 < y4)) then (let h6 : H := H.reserve h5 0
((rdT (.leaf (.int .i64)) h6 (.hp h.next 2 0)).bind fun x7 =>
((rdRow true h6 [.int .i64, .int .i64] a0).bind fun s9 =>
((spileref18_AtP s9 (IntKind.wrap .i64 (Int.tdiv (IntKind.wrap .i64 ((IntKind.wrap .i64 (y3 + y4)) + 1)) 2))).bind fun r8 =>
((rdT (.leaf (.int .i64)) h6 (.hp h.next 2 1)).bind fun x10 =>
((bif (decide ((IntKind.wrap .i64 (x10 * (IntKind.wrap .i64 (Int.tdiv (IntKind.wrap .i64 ((IntKind.wrap .i64 (y3 + y4)) + 1)) 2)))) ≤ (IntKind.wrap .i64 (x7 * r8)))) then (some (.next ((IntKind.wrap .i64 (Int.tdiv (IntKind.wrap .i64 ((IntKind.wrap .i64 (y3 + y4)) + 1)) 2)), y4), h6)) else (some (.next (y3, (IntKind.wrap .i64 ((IntKind.wrap .i64 (Int.tdiv (IntKind.wrap .i64 ((IntKind.wrap .i64 (y3 + y4)) + 1)) 2)) - 1))), h6)) : Option (Flow (Int × Int) (Int) × H)).bind fun (fl12, h11) => match fl12 with
| .next (y13, y14) =>
(some (.more ((y13, y14), h11)))
| .ret rr15 => (some (.done (.ret rr15, h11)))
| .ex0 _ => none
| .ex1 _ => none)))))) else (some (.done (.ex0 y3, h5))))
noncomputable def spileref20_Grade (a0 : SV) (a1 : (Int × Int)) (h : H) : Option ((Int) × H) :=
(match a1 with
| (a1_0, a1_1) =>
(let h1 : H := H.new h [.int .i64 a1_0, .int .i64 a1_1] 2
((rdT (.leaf (.int .i64)) h1 (.hp h.next 2 1)).bind fun x2 =>
(bif (decide (x2 = 0)) then (some (0, h1)) else ((iter FUEL (spileref20_Grade.loop1 h a0) ((0, 10000), h1)).bind fun (fl17, h16) => match fl17 with
| .next _ => none
| .ret rr18 => (some (rr18, h16))
| .ex0 y19 =>
(some (y19, h16))
| .ex1 _ => none)))))
def spileref20_Grade.A : Ann := { lits := [], conds := [(29, [5, 6], [.leaf (.int .i64), .leaf (.int .i64)], none, none)], loops := [(4, [5, 6], [.leaf (.int .i64), .leaf (.int .i64)], [5], [.leaf (.int .i64)], some 0, none)], regs := [] }
theorem spileref20_Grade.eq : ∀ (x : TT [.leaf .slice, .agg [.int .i64, .int .i64]]) (h : H), evalFn Try.prog (spileref20_Grade.tb) spileref20_Grade.A Try.f41 (.one (.leaf (.int .i64))) (TT.un [.leaf .slice, .agg [.int .i64, .int .i64]] x) h = spileref20_Grade x.1 x.2 h := by
  intro x h
  kernel_rfl
noncomputable def spileref20_Grade.e : Entry := mkX [.leaf .slice, .agg [.int .i64, .int .i64]] (.one (.leaf (.int .i64))) fun x h => spileref20_Grade x.1 x.2 h
theorem spileref20_Grade.ok : EntryOK Try.prog 41 (spileref20_Grade.e) := mkX_ok (spileref20_Grade.tbok) Try.mixed Try.func41 (by kernel_rfl) (spileref20_Grade.eq)
noncomputable def spileref20_GradeP (a0 : (List (Int × Int))) (a1 : (Int × Int)) : Option (Int) := (spileref20_Grade (rowSV false [.int .i64, .int .i64] a0) a1 H.empty).bind fun p => rdRes false p.2 (.one (.leaf (.int .i64))) (Res.un (.one (.leaf (.int .i64))) p.1)
theorem spileref20_GradeP.eq : ∀ x : TT [.leaf (.row [.int .i64, .int .i64]), .agg [.int .i64, .int .i64]], ((evalFn Try.prog (spileref20_Grade.tb) spileref20_Grade.A Try.f41 (.one (.leaf (.int .i64))) (TT.lo false [.leaf (.row [.int .i64, .int .i64]), .agg [.int .i64, .int .i64]] x) H.empty).bind fun p => rdRes false p.2 (.one (.leaf (.int .i64))) (Res.un (.one (.leaf (.int .i64))) p.1)) = spileref20_GradeP x.1 x.2 := by
  intro x
  rw [show TT.lo false [.leaf (.row [.int .i64, .int .i64]), .agg [.int .i64, .int .i64]] x = TT.un [.leaf .slice, .agg [.int .i64, .int .i64]] ((rowSV false [.int .i64, .int .i64] x.1), x.2) from rfl, spileref20_Grade.eq]
  rfl
noncomputable def spileref20_GradeP.e : Entry := mkP [.leaf (.row [.int .i64, .int .i64]), .agg [.int .i64, .int .i64]] (.one (.leaf (.int .i64))) fun x => spileref20_GradeP x.1 x.2
theorem spileref20_GradeP.ok : EntryOK Try.prog 41 (spileref20_GradeP.e) := mkP_ok (spileref20_Grade.tbok) Try.mixed Try.func41 (by kernel_rfl) spileref20_GradeP.eq

/-! ### spile/spileref20.Size: function 40 -/
noncomputable def spileref20_Size.tb : Table := tab [(41, spileref20_GradeP.e), (59, spileref18_AtP.e)] [] Table.nil
theorem spileref20_Size.tbok : TabOK Try.prog (spileref20_Size.tb) := TabOK.tab (TabOK.nil Try.prog) (all_cons spileref20_GradeP.ok (all_cons spileref18_AtP.ok (all_nil _))) (all_nil _)
noncomputable def spileref20_Size (a0 : SV) (a1 : (Int × Int)) (h : H) : Option ((Int) × H) :=
(match a1 with
| (a1_0, a1_1) =>
(let h1 : H := H.new h [.int .i64 a1_0, .int .i64 a1_1] 2
(let h2 : H := H.reserve h1 0
((rdT (.leaf (.int .i64)) h2 (.hp h.next 2 1)).bind fun x3 =>
((rdT (.agg [.int .i64, .int .i64]) h2 (.hp h.next 2 0)).bind fun (x4_0, x4_1) =>
((rdRow true h2 [.int .i64, .int .i64] a0).bind fun s6 =>
((spileref20_GradeP s6 (x4_0, x4_1)).bind fun r5 =>
((rdRow true h2 [.int .i64, .int .i64] a0).bind fun s8 =>
((spileref18_AtP s8 r5).bind fun r7 =>
(guardO (r7 ≠ 0) (some ((IntKind.wrap .i64 (Int.tdiv x3 r7)), h2))))))))))))
def spileref20_Size.A : Ann := { lits := [], conds := [], loops := [], regs := [] }
theorem spileref20_Size.eq : ∀ (x : TT [.leaf .slice, .agg [.int .i64, .int .i64]]) (h : H), evalFn Try.prog (spileref20_Size.tb) spileref20_Size.A Try.f40 (.one (.leaf (.int .i64))) (TT.un [.leaf .slice, .agg [.int .i64, .int .i64]] x) h = spileref20_Size x.1 x.2 h := by
  intro x h
  kernel_rfl
noncomputable def spileref20_Size.e : Entry := mkX [.leaf .slice, .agg [.int .i64, .int .i64]] (.one (.leaf (.int .i64))) fun x h => spileref20_Size x.1 x.2 h
theorem spileref20_Size.ok : EntryOK Try.prog 40 (spileref20_Size.e) := mkX_ok (spileref20_Size.tbok) Try.mixed Try.func40 (by kernel_rfl) (spileref20_Size.eq)
noncomputable def spileref20_SizeP (a0 : (List (Int × Int))) (a1 : (Int × Int)) : Option (Int) := (spileref20_Size (rowSV false [.int .i64, .int .i64] a0) a1 H.empty).bind fun p => rdRes false p.2 (.one (.leaf (.int .i64))) (Res.un (.one (.leaf (.int .i64))) p.1)
theorem spileref20_SizeP.eq : ∀ x : TT [.leaf (.row [.int .i64, .int .i64]), .agg [.int .i64, .int .i64]], ((evalFn Try.prog (spileref20_Size.tb) spileref20_Size.A Try.f40 (.one (.leaf (.int .i64))) (TT.lo false [.leaf (.row [.int .i64, .int .i64]), .agg [.int .i64, .int .i64]] x) H.empty).bind fun p => rdRes false p.2 (.one (.leaf (.int .i64))) (Res.un (.one (.leaf (.int .i64))) p.1)) = spileref20_SizeP x.1 x.2 := by
  intro x
  rw [show TT.lo false [.leaf (.row [.int .i64, .int .i64]), .agg [.int .i64, .int .i64]] x = TT.un [.leaf .slice, .agg [.int .i64, .int .i64]] ((rowSV false [.int .i64, .int .i64] x.1), x.2) from rfl, spileref20_Size.eq]
  rfl
noncomputable def spileref20_SizeP.e : Entry := mkP [.leaf (.row [.int .i64, .int .i64]), .agg [.int .i64, .int .i64]] (.one (.leaf (.int .i64))) fun x => spileref20_SizeP x.1 x.2
theorem spileref20_SizeP.ok : EntryOK Try.prog 40 (spileref20_SizeP.e) := mkP_ok (spileref20_Size.tbok) Try.mixed Try.func40 (by kernel_rfl) spileref20_SizeP.eq

/-! ### spile/spileref21.Contraction: function 20 -/
noncomputable def spileref21_Contraction.tb : Table := tab [(39, spileref21_asksP.e), (40, spileref20_SizeP.e)] [] Table.nil
theorem spileref21_Contraction.tbok : TabOK Try.prog (spileref21_Contraction.tb) := TabOK.tab (TabOK.nil Try.prog) (all_cons spileref21_asksP.ok (all_cons spileref20_SizeP.ok (all_nil _))) (all_nil _)
noncomputable def spileref21_Contraction.loop1 (a0 : SV) (a1 : SV) : (Int × Int) × H → Option (Stp ((Int × Int) × H) (Flow (Int) (Int × Int) × H)) := fun ((y7, y8), h9) =>
(bif (decide (y8 < ((a1.len : Nat) : Int))) then (guardO (0 ≤ y8 ∧ y8 < ((a1.len : Nat) : Int)) ((rdT (.agg [.int .i64, .int .i64]) h9 (V.add a1.a (Int.toNat y8 * 2))).bind fun (x10_0, x10_1) =>
((rdRow true h9 [.int .i64, .int .i64] a0).bind fun s12 =>
((spileref20_SizeP s12 (x10_0, x10_1)).bind fun r11 =>
(some (.more (((IntKind.wrap .i64 (y7 + r11)), (IntKind.wrap .i64 (y8 + 1))), h9))))))) else (some (.done (.ex0 y7, h9))))
noncomputable def spileref21_Contraction (a0 : SV) (a1 : SV) (h : H) : Option ((Int × Int) × H) :=
((rdRow true h [.int .i64, .int .i64] a0).bind fun s3 =>
((rdRow true h [.int .i64, .int .i64] a1).bind fun s4 =>
((spileref21_asksP s3 s4).bind fun ((r1_0, r1_1), r2) =>
(let h5 : H := H.new h [.int .i64 0, .int .i64 0] 2
((H.wrs h5 (.hp h.next 2 0) [.int .i64 r1_0, .int .i64 r1_1]).bind fun h6 =>
(bif (!(decide (r2 = 0))) then (some ((0, r2), h6)) else ((iter FUEL (spileref21_Contraction.loop1 a0 a1) ((0, 0), h6)).bind fun (fl14, h13) => match fl14 with
| .next _ => none
| .ret rr15 => (some (rr15, h13))
| .ex0 y16 =>
((rdT (.agg [.int .i64, .int .i64]) h13 (.hp h.next 2 0)).bind fun (x17_0, x17_1) =>
((rdRow true h13 [.int .i64, .int .i64] a0).bind fun s19 =>
((spileref20_SizeP s19 (x17_0, x17_1)).bind fun r18 =>
(some (((IntKind.wrap .i64 (y16 - r18)), 0), h13)))))
| .ex1 _ => none)))))))
def spileref21_Contraction.A : Ann := { lits := [], conds := [], loops := [(6, [8, 9], [.leaf (.int .i64), .leaf (.int .i64)], [8], [.leaf (.int .i64)], some 0, none)], regs := [] }
theorem spileref21_Contraction.eq : ∀ (x : TT [.leaf .slice, .leaf .slice]) (h : H), evalFn Try.prog (spileref21_Contraction.tb) spileref21_Contraction.A Try.f20 (.many [.leaf (.int .i64), .leaf (.int .i64)]) (TT.un [.leaf .slice, .leaf .slice] x) h = spileref21_Contraction x.1 x.2 h := by
  intro x h
  kernel_rfl
noncomputable def spileref21_Contraction.e : Entry := mkX [.leaf .slice, .leaf .slice] (.many [.leaf (.int .i64), .leaf (.int .i64)]) fun x h => spileref21_Contraction x.1 x.2 h
theorem spileref21_Contraction.ok : EntryOK Try.prog 20 (spileref21_Contraction.e) := mkX_ok (spileref21_Contraction.tbok) Try.mixed Try.func20 (by kernel_rfl) (spileref21_Contraction.eq)
noncomputable def spileref21_ContractionP (a0 : (List (Int × Int))) (a1 : (List (Int × Int))) : Option (Int × Int) := (spileref21_Contraction (rowSV false [.int .i64, .int .i64] a0) (rowSV false [.int .i64, .int .i64] a1) H.empty).bind fun p => rdRes false p.2 (.many [.leaf (.int .i64), .leaf (.int .i64)]) (Res.un (.many [.leaf (.int .i64), .leaf (.int .i64)]) p.1)
theorem spileref21_ContractionP.eq : ∀ x : TT [.leaf (.row [.int .i64, .int .i64]), .leaf (.row [.int .i64, .int .i64])], ((evalFn Try.prog (spileref21_Contraction.tb) spileref21_Contraction.A Try.f20 (.many [.leaf (.int .i64), .leaf (.int .i64)]) (TT.lo false [.leaf (.row [.int .i64, .int .i64]), .leaf (.row [.int .i64, .int .i64])] x) H.empty).bind fun p => rdRes false p.2 (.many [.leaf (.int .i64), .leaf (.int .i64)]) (Res.un (.many [.leaf (.int .i64), .leaf (.int .i64)]) p.1)) = spileref21_ContractionP x.1 x.2 := by
  intro x
  rw [show TT.lo false [.leaf (.row [.int .i64, .int .i64]), .leaf (.row [.int .i64, .int .i64])] x = TT.un [.leaf .slice, .leaf .slice] ((rowSV false [.int .i64, .int .i64] x.1), (rowSV false [.int .i64, .int .i64] x.2)) from rfl, spileref21_Contraction.eq]
  rfl
noncomputable def spileref21_ContractionP.e : Entry := mkP [.leaf (.row [.int .i64, .int .i64]), .leaf (.row [.int .i64, .int .i64])] (.many [.leaf (.int .i64), .leaf (.int .i64)]) fun x => spileref21_ContractionP x.1 x.2
theorem spileref21_ContractionP.ok : EntryOK Try.prog 20 (spileref21_ContractionP.e) := mkP_ok (spileref21_Contraction.tbok) Try.mixed Try.func20 (by kernel_rfl) spileref21_ContractionP.eq

/-! ### spile/spileref21.Between: function 22 -/
noncomputable def spileref21_Between.tb : Table := tab [(39, spileref21_asksP.e), (41, spileref20_GradeP.e)] [] Table.nil
theorem spileref21_Between.tbok : TabOK Try.prog (spileref21_Between.tb) := TabOK.tab (TabOK.nil Try.prog) (all_cons spileref21_asksP.ok (all_cons spileref20_GradeP.ok (all_nil _))) (all_nil _)
noncomputable def spileref21_Between.loop1 (a0 : SV) (a1 : SV) (h7 : H) : (Int) × H → Option (Stp ((Int) × H) (Flow (Unit) ((Int × Int) × Int × Int) × H)) := fun (y15, h16) =>
(bif (decide (y15 < ((a1.len : Nat) : Int))) then (guardO (0 ≤ y15 ∧ y15 < ((a1.len : Nat) : Int)) (guardO (V.nn ((V.add a1.a (Int.toNat y15 * 2)) : V) = true) ((rdT (.leaf (.int .i64)) h16 (V.add (V.add a1.a (Int.toNat y15 * 2)) 1)).bind fun x17 =>
((bif (decide ((0 : Int) < x17)) then (guardO (0 ≤ y15 ∧ y15 < ((a1.len : Nat) : Int)) ((rdT (.agg [.int .i64, .int .i64]) h16 (V.add a1.a (Int.toNat y15 * 2))).bind fun (x18_0, x18_1) =>
((rdRow true h16 [.int .i64, .int .i64] a0).bind fun s20 =>
((spileref20_GradeP s20 (x18_0, x18_1)).bind fun r19 =>
((rdT (.leaf (.int .i64)) h16 (.hp h7.next 2 0)).bind fun x21 =>
((rdT (.leaf (.int .i64)) h16 (.hp h7.next 2 1)).bind fun x22 =>
((H.wrs h16 (.hp h7.next 2 0) [.int .i64 (minI r19 x21), .int .i64 (maxI r19 x22)]).bind fun h23 =>
(some (.next (), h23))))))))) else (some (.next (), h16)) : Option (Flow (Unit) ((Int × Int) × Int × Int) × H)).bind fun (fl25, h24) => match fl25 with
| .next _ =>
(some (.more ((IntKind.wrap .i64 (y15 + 1)), h24)))
| .ret rr26 => (some (.done (.ret rr26, h24)))
| .ex0 _ => none
| .ex1 _ => none)))) else (some (.done (.ex0 (), h16))))
noncomputable def spileref21_Between (a0 : SV) (a1 : SV) (h : H) : Option (((Int × Int) × Int × Int) × H) :=
(let h1 : H := H.new h [.int .i64 0, .int .i64 0] 2
((rdRow true h1 [.int .i64, .int .i64] a0).bind fun s4 =>
((rdRow true h1 [.int .i64, .int .i64] a1).bind fun s5 =>
((spileref21_asksP s4 s5).bind fun ((r2_0, r2_1), r3) =>
(let h6 : H := H.new h1 [.int .i64 0, .int .i64 0] 2
((H.wrs h6 (.hp h1.next 2 0) [.int .i64 r2_0, .int .i64 r2_1]).bind fun h7 =>
(bif (!(decide (r3 = 0))) then ((H.wrs h7 (.hp h.next 2 0) [.int .i64 0, .int .i64 0]).bind fun h8 =>
((rdT (.agg [.int .i64, .int .i64]) h8 (.hp h.next 2 0 : V)).bind fun (x9_0, x9_1) =>
(some (((x9_0, x9_1), 0, r3), h8)))) else ((rdT (.leaf (.int .i64)) h7 (.hp h1.next 2 1)).bind fun x10 =>
(bif (decide (x10 = 0)) then ((H.wrs h7 (.hp h.next 2 0) [.int .i64 0, .int .i64 0]).bind fun h11 =>
((rdT (.agg [.int .i64, .int .i64]) h11 (.hp h.next 2 0 : V)).bind fun (x12_0, x12_1) =>
(some (((x12_0, x12_1), 0, 9), h11)))) else (let h13 : H := H.new h7 [.int .i64 0, .int .i64 0] 2
((H.wrs h13 (.hp h7.next 2 0) [.int .i64 10000, .int .i64 0]).bind fun h14 =>
((iter FUEL (spileref21_Between.loop1 a0 a1 h7) (0, h14)).bind fun (fl28, h27) => match fl28 with
| .next _ => none
| .ret rr29 => (some (rr29, h27))
| .ex0 _ =>
(let h30 : H := H.reserve h27 0
((rdT (.agg [.int .i64, .int .i64]) h30 (.hp h7.next 2 0)).bind fun (x31_0, x31_1) =>
((rdT (.agg [.int .i64, .int .i64]) h30 (.hp h1.next 2 0)).bind fun (x32_0, x32_1) =>
((rdRow true h30 [.int .i64, .int .i64] a0).bind fun s34 =>
((spileref20_GradeP s34 (x32_0, x32_1)).bind fun r33 =>
((H.wrs h30 (.hp h.next 2 0) [.int .i64 x31_0, .int .i64 x31_1]).bind fun h35 =>
((rdT (.agg [.int .i64, .int .i64]) h35 (.hp h.next 2 0 : V)).bind fun (x36_0, x36_1) =>
(some (((x36_0, x36_1), r33, 0), h35)))))))))
| .ex1 _ => none))))))))))))
def spileref21_Between.A : Ann := { lits := [], conds := [(38, [], [], none, none)], loops := [(8, [10], [.leaf (.int .i64)], [], [], some 0, none)], regs := [] }
theorem spileref21_Between.eq : ∀ (x : TT [.leaf .slice, .leaf .slice]) (h : H), evalFn Try.prog (spileref21_Between.tb) spileref21_Between.A Try.f22 (.many [.agg [.int .i64, .int .i64], .leaf (.int .i64), .leaf (.int .i64)]) (TT.un [.leaf .slice, .leaf .slice] x) h = spileref21_Between x.1 x.2 h := by
  intro x h
  kernel_rfl
noncomputable def spileref21_Between.e : Entry := mkX [.leaf .slice, .leaf .slice] (.many [.agg [.int .i64, .int .i64], .leaf (.int .i64), .leaf (.int .i64)]) fun x h => spileref21_Between x.1 x.2 h
theorem spileref21_Between.ok : EntryOK Try.prog 22 (spileref21_Between.e) := mkX_ok (spileref21_Between.tbok) Try.mixed Try.func22 (by kernel_rfl) (spileref21_Between.eq)
noncomputable def spileref21_BetweenP (a0 : (List (Int × Int))) (a1 : (List (Int × Int))) : Option ((Int × Int) × Int × Int) := (spileref21_Between (rowSV false [.int .i64, .int .i64] a0) (rowSV false [.int .i64, .int .i64] a1) H.empty).bind fun p => rdRes false p.2 (.many [.agg [.int .i64, .int .i64], .leaf (.int .i64), .leaf (.int .i64)]) (Res.un (.many [.agg [.int .i64, .int .i64], .leaf (.int .i64), .leaf (.int .i64)]) p.1)
theorem spileref21_BetweenP.eq : ∀ x : TT [.leaf (.row [.int .i64, .int .i64]), .leaf (.row [.int .i64, .int .i64])], ((evalFn Try.prog (spileref21_Between.tb) spileref21_Between.A Try.f22 (.many [.agg [.int .i64, .int .i64], .leaf (.int .i64), .leaf (.int .i64)]) (TT.lo false [.leaf (.row [.int .i64, .int .i64]), .leaf (.row [.int .i64, .int .i64])] x) H.empty).bind fun p => rdRes false p.2 (.many [.agg [.int .i64, .int .i64], .leaf (.int .i64), .leaf (.int .i64)]) (Res.un (.many [.agg [.int .i64, .int .i64], .leaf (.int .i64), .leaf (.int .i64)]) p.1)) = spileref21_BetweenP x.1 x.2 := by
  intro x
  rw [show TT.lo false [.leaf (.row [.int .i64, .int .i64]), .leaf (.row [.int .i64, .int .i64])] x = TT.un [.leaf .slice, .leaf .slice] ((rowSV false [.int .i64, .int .i64] x.1), (rowSV false [.int .i64, .int .i64] x.2)) from rfl, spileref21_Between.eq]
  rfl
noncomputable def spileref21_BetweenP.e : Entry := mkP [.leaf (.row [.int .i64, .int .i64]), .leaf (.row [.int .i64, .int .i64])] (.many [.agg [.int .i64, .int .i64], .leaf (.int .i64), .leaf (.int .i64)]) fun x => spileref21_BetweenP x.1 x.2
theorem spileref21_BetweenP.ok : EntryOK Try.prog 22 (spileref21_BetweenP.e) := mkP_ok (spileref21_Between.tbok) Try.mixed Try.func22 (by kernel_rfl) spileref21_BetweenP.eq

/-! ### spile/spilelaw21.MixContracts: function 4 -/
noncomputable def spilelaw21_MixContracts.tb : Table := tab [(10, spilelaw21_awakeP.e), (18, spileref16_FewP.e), (19, mix_ContractionP.e), (20, spileref21_ContractionP.e), (21, mix_BetweenP.e), (22, spileref21_BetweenP.e)] [] Table.nil
theorem spilelaw21_MixContracts.tbok : TabOK Try.prog (spilelaw21_MixContracts.tb) := TabOK.tab (TabOK.nil Try.prog) (all_cons spilelaw21_awakeP.ok (all_cons spileref16_FewP.ok (all_cons mix_ContractionP.ok (all_cons spileref21_ContractionP.ok (all_cons mix_BetweenP.ok (all_cons spileref21_BetweenP.ok (all_nil _))))))) (all_nil _)
noncomputable def spilelaw21_MixContracts (a0 : SV) (a1 : SV) (h : H) : Option ((Bool) × H) :=
((spilelaw21_awakeP ).bind fun r1 =>
(bif (!r1) then (some (false, h)) else ((((rdRow true h [.int .i64, .int .i64] a0).bind fun s3 =>
((spileref16_FewP s3).bind fun r2 =>
(bif !(!r2) then (some ((decide ((12 : Int) < ((a1.len : Nat) : Int))), h)) else (some (true, h)))))).bind fun (y4, h5) =>
(bif y4 then (some (true, h5)) else ((rdRow true h5 [.int .i64, .int .i64] a0).bind fun s8 =>
((rdRow true h5 [.int .i64, .int .i64] a1).bind fun s9 =>
((mix_ContractionP s8 s9).bind fun (r6, r7) =>
((rdRow true h5 [.int .i64, .int .i64] a0).bind fun s12 =>
((rdRow true h5 [.int .i64, .int .i64] a1).bind fun s13 =>
((spileref21_ContractionP s12 s13).bind fun (r10, r11) =>
((rdRow true h5 [.int .i64, .int .i64] a0).bind fun s17 =>
((rdRow true h5 [.int .i64, .int .i64] a1).bind fun s18 =>
((mix_BetweenP s17 s18).bind fun ((r14_0, r14_1), r15, r16) =>
(let h19 : H := H.new h5 [.int .i64 0, .int .i64 0] 2
((H.wrs h19 (.hp h5.next 2 0) [.int .i64 r14_0, .int .i64 r14_1]).bind fun h20 =>
((rdRow true h20 [.int .i64, .int .i64] a0).bind fun s24 =>
((rdRow true h20 [.int .i64, .int .i64] a1).bind fun s25 =>
((spileref21_BetweenP s24 s25).bind fun ((r21_0, r21_1), r22, r23) =>
(let h26 : H := H.new h20 [.int .i64 0, .int .i64 0] 2
((H.wrs h26 (.hp h20.next 2 0) [.int .i64 r21_0, .int .i64 r21_1]).bind fun h27 =>
(((bif (decide (r6 = r10)) then (bif (decide (r7 = r11)) then ((rdT (.agg [.int .i64, .int .i64]) h27 (.hp h5.next 2 0)).bind fun (x28_0, x28_1) =>
((rdT (.agg [.int .i64, .int .i64]) h27 (.hp h20.next 2 0)).bind fun (x29_0, x29_1) =>
(bif (decide (x28_0 = x29_0) && (decide (x28_1 = x29_1))) then (bif (decide (r15 = r22)) then (some ((decide (r16 = r23)), h27)) else (some (false, h27))) else (some (false, h27))))) else (some (false, h27))) else (some (false, h27)))).bind fun (y30, h31) =>
(some (y30, h31)))))))))))))))))))))))
def spilelaw21_MixContracts.A : Ann := { lits := [], conds := [], loops := [], regs := [(3, [24], [.leaf .bool]), (9, [4], [.leaf .bool])] }
theorem spilelaw21_MixContracts.eq : ∀ (x : TT [.leaf .slice, .leaf .slice]) (h : H), evalFn Try.prog (spilelaw21_MixContracts.tb) spilelaw21_MixContracts.A Try.f4 (.one (.leaf .bool)) (TT.un [.leaf .slice, .leaf .slice] x) h = spilelaw21_MixContracts x.1 x.2 h := by
  intro x h
  kernel_rfl
noncomputable def spilelaw21_MixContracts.e : Entry := mkX [.leaf .slice, .leaf .slice] (.one (.leaf .bool)) fun x h => spilelaw21_MixContracts x.1 x.2 h
theorem spilelaw21_MixContracts.ok : EntryOK Try.prog 4 (spilelaw21_MixContracts.e) := mkX_ok (spilelaw21_MixContracts.tbok) Try.mixed Try.func4 (by kernel_rfl) (spilelaw21_MixContracts.eq)
noncomputable def spilelaw21_MixContractsP (a0 : (List (Int × Int))) (a1 : (List (Int × Int))) : Option (Bool) := (spilelaw21_MixContracts (rowSV false [.int .i64, .int .i64] a0) (rowSV false [.int .i64, .int .i64] a1) H.empty).bind fun p => rdRes false p.2 (.one (.leaf .bool)) (Res.un (.one (.leaf .bool)) p.1)
theorem spilelaw21_MixContractsP.eq : ∀ x : TT [.leaf (.row [.int .i64, .int .i64]), .leaf (.row [.int .i64, .int .i64])], ((evalFn Try.prog (spilelaw21_MixContracts.tb) spilelaw21_MixContracts.A Try.f4 (.one (.leaf .bool)) (TT.lo false [.leaf (.row [.int .i64, .int .i64]), .leaf (.row [.int .i64, .int .i64])] x) H.empty).bind fun p => rdRes false p.2 (.one (.leaf .bool)) (Res.un (.one (.leaf .bool)) p.1)) = spilelaw21_MixContractsP x.1 x.2 := by
  intro x
  rw [show TT.lo false [.leaf (.row [.int .i64, .int .i64]), .leaf (.row [.int .i64, .int .i64])] x = TT.un [.leaf .slice, .leaf .slice] ((rowSV false [.int .i64, .int .i64] x.1), (rowSV false [.int .i64, .int .i64] x.2)) from rfl, spilelaw21_MixContracts.eq]
  rfl
noncomputable def spilelaw21_MixContractsP.e : Entry := mkP [.leaf (.row [.int .i64, .int .i64]), .leaf (.row [.int .i64, .int .i64])] (.one (.leaf .bool)) fun x => spilelaw21_MixContractsP x.1 x.2
theorem spilelaw21_MixContractsP.ok : EntryOK Try.prog 4 (spilelaw21_MixContractsP.e) := mkP_ok (spilelaw21_MixContracts.tbok) Try.mixed Try.func4 (by kernel_rfl) spilelaw21_MixContractsP.eq
end Go.Proofs.Ytaepkinihaipkaa
