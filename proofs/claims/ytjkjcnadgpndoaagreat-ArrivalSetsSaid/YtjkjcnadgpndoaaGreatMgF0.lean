/- What the functions of this seat compute, and the evaluator: some texts in one. Conditions: those of each law. -/
import Derived.Test.YtjkjcnadgpndoaaGreatProg
import Derived.Test.YtjkjcnadgpndoaaGreatEvSpec
namespace Go.Proofs.YtjkjcnadgpndoaaGreat
open Go Go.Proofs.YtjkjcnadgpndoaaGreat.Ev
set_option linter.unusedVariables false
set_option linter.unusedSimpArgs false
set_option maxRecDepth 100000
set_option maxHeartbeats 4000000
abbrev Fsv : Type := Int × Int × Int × Int × SV × SV
abbrev FC : List Leaf := [.int .i64, .int .i64, .int .i64, .int .i64, .row [.int .i64], .row [.str]]
abbrev KC : List Leaf := [.int .i64, .int .i64, .int .i64]
abbrev Ky := Int × Int × Int
abbrev Fct := Int × Int × Int × Int × List Int × List ByteArray
abbrev FS : List Leaf := [.int .i64, .int .i64, .int .i64, .int .i64, .slice, .slice]
theorem Tryz.mixed : Tryz.prog.follows .mixedOrders = true := by kernel_rfl
noncomputable def cmp_Or_int.tb : Table := tab [] [] Table.nil
theorem cmp_Or_int.tbok : TabOK Tryz.prog (cmp_Or_int.tb) := TabOK.tab (TabOK.nil Tryz.prog) (all_nil _) (all_nil _)
noncomputable def cmp_Or_int.loop1 (a0 : SV) : (Int) × H → Option (Stp ((Int) × H) (Flow (Unit) (Int) × H)) := fun (y1, h2) =>
(bif (decide (y1 < ((a0.len : Nat) : Int))) then (guardO (0 ≤ y1 ∧ y1 < ((a0.len : Nat) : Int)) ((rdT (.leaf (.int .i64)) h2 (V.add a0.a (Int.toNat y1 * 1))).bind fun x3 =>
(bif (!(decide (x3 = 0))) then (some (.done (.ret x3, h2))) else (some (.more ((IntKind.wrap .i64 (y1 + 1)), h2)))))) else (some (.done (.ex0 (), h2))))
noncomputable def cmp_Or_int (a0 : SV) (h : H) : Option ((Int) × H) :=
((iter FUEL (cmp_Or_int.loop1 a0) (0, h)).bind fun (fl5, h4) => match fl5 with
| .next _ => none
| .ret rr6 => (some (rr6, h4))
| .ex0 _ =>
(some (0, h4))
| .ex1 _ => none)
def cmp_Or_int.A : Ann := { lits := [], conds := [], loops := [(3, [8], [.leaf (.int .i64)], [], [], some 0, none)], regs := [] }
theorem cmp_Or_int.eq : ∀ (x : TT [.leaf .slice]) (h : H), evalFn Tryz.prog (cmp_Or_int.tb) cmp_Or_int.A Tryz.f81 (.one (.leaf (.int .i64))) (TT.un [.leaf .slice] x) h = cmp_Or_int x h := by
  intro x h
  kernel_rfl
noncomputable def cmp_Or_intP (a0 : (List (Int))) : Option (Int) := (cmp_Or_int (rowSV false [.int .i64] a0) H.empty).bind fun p => rdRes false p.2 (.one (.leaf (.int .i64))) (Res.un (.one (.leaf (.int .i64))) p.1)
theorem cmp_Or_intP.eq : ∀ x : TT [.leaf (.row [.int .i64])], ((evalFn Tryz.prog (cmp_Or_int.tb) cmp_Or_int.A Tryz.f81 (.one (.leaf (.int .i64))) (TT.lo false [.leaf (.row [.int .i64])] x) H.empty).bind fun p => rdRes false p.2 (.one (.leaf (.int .i64))) (Res.un (.one (.leaf (.int .i64))) p.1)) = cmp_Or_intP x := by
  intro x
  rw [show TT.lo false [.leaf (.row [.int .i64])] x = TT.un [.leaf .slice] ((rowSV false [.int .i64] x)) from rfl, cmp_Or_int.eq]
  rfl
noncomputable def cmp_Or_intP.e : Entry := mkP [.leaf (.row [.int .i64])] (.one (.leaf (.int .i64))) fun x => cmp_Or_intP x
theorem cmp_Or_intP.ok : EntryOK Tryz.prog 81 (cmp_Or_intP.e) := mkP_ok (cmp_Or_int.tbok) Tryz.mixed Tryz.func81 (by kernel_rfl) cmp_Or_intP.eq
noncomputable def cmp_isNaN_int.tb : Table := tab [] [] Table.nil
theorem cmp_isNaN_int.tbok : TabOK Tryz.prog (cmp_isNaN_int.tb) := TabOK.tab (TabOK.nil Tryz.prog) (all_nil _) (all_nil _)
noncomputable def cmp_isNaN_int (a0 : Int) (h : H) : Option ((Bool) × H) :=
(some ((!(decide (a0 = a0))), h))
def cmp_isNaN_int.A : Ann := { lits := [], conds := [], loops := [], regs := [] }
theorem cmp_isNaN_int.eq : ∀ (x : TT [.leaf (.int .i64)]) (h : H), evalFn Tryz.prog (cmp_isNaN_int.tb) cmp_isNaN_int.A Tryz.f108 (.one (.leaf .bool)) (TT.un [.leaf (.int .i64)] x) h = cmp_isNaN_int x h := by
  intro x h
  kernel_rfl
noncomputable def cmp_isNaN_intP (a0 : Int) : Option (Bool) := (cmp_isNaN_int a0 H.empty).bind fun p => rdRes false p.2 (.one (.leaf .bool)) (Res.un (.one (.leaf .bool)) p.1)
theorem cmp_isNaN_intP.eq : ∀ x : TT [.leaf (.int .i64)], ((evalFn Tryz.prog (cmp_isNaN_int.tb) cmp_isNaN_int.A Tryz.f108 (.one (.leaf .bool)) (TT.lo false [.leaf (.int .i64)] x) H.empty).bind fun p => rdRes false p.2 (.one (.leaf .bool)) (Res.un (.one (.leaf .bool)) p.1)) = cmp_isNaN_intP x := by
  intro x
  rw [show TT.lo false [.leaf (.int .i64)] x = TT.un [.leaf (.int .i64)] (x) from rfl, cmp_isNaN_int.eq]
  rfl
noncomputable def cmp_isNaN_intP.e : Entry := mkP [.leaf (.int .i64)] (.one (.leaf .bool)) fun x => cmp_isNaN_intP x
theorem cmp_isNaN_intP.ok : EntryOK Tryz.prog 108 (cmp_isNaN_intP.e) := mkP_ok (cmp_isNaN_int.tbok) Tryz.mixed Tryz.func108 (by kernel_rfl) cmp_isNaN_intP.eq
noncomputable def cmp_Compare_int.tb : Table := tab [(108, cmp_isNaN_intP.e)] [] Table.nil
theorem cmp_Compare_int.tbok : TabOK Tryz.prog (cmp_Compare_int.tb) := TabOK.tab (TabOK.nil Tryz.prog) (all_cons cmp_isNaN_intP.ok (all_nil _)) (all_nil _)
noncomputable def cmp_Compare_int (a0 : Int) (a1 : Int) (h : H) : Option ((Int) × H) :=
((cmp_isNaN_intP a0).bind fun r1 =>
((cmp_isNaN_intP a1).bind fun r2 =>
(bif r1 then (bif r2 then (some (0, h)) else (some ((-1), h))) else (bif r2 then (some (1, h)) else (bif (decide (a0 < a1)) then (some ((-1), h)) else (bif (decide (a1 < a0)) then (some (1, h)) else (some (0, h))))))))
def cmp_Compare_int.A : Ann := { lits := [], conds := [], loops := [], regs := [] }
theorem cmp_Compare_int.eq : ∀ (x : TT [.leaf (.int .i64), .leaf (.int .i64)]) (h : H), evalFn Tryz.prog (cmp_Compare_int.tb) cmp_Compare_int.A Tryz.f82 (.one (.leaf (.int .i64))) (TT.un [.leaf (.int .i64), .leaf (.int .i64)] x) h = cmp_Compare_int x.1 x.2 h := by
  intro x h
  kernel_rfl
noncomputable def cmp_Compare_intP (a0 : Int) (a1 : Int) : Option (Int) := (cmp_Compare_int a0 a1 H.empty).bind fun p => rdRes false p.2 (.one (.leaf (.int .i64))) (Res.un (.one (.leaf (.int .i64))) p.1)
theorem cmp_Compare_intP.eq : ∀ x : TT [.leaf (.int .i64), .leaf (.int .i64)], ((evalFn Tryz.prog (cmp_Compare_int.tb) cmp_Compare_int.A Tryz.f82 (.one (.leaf (.int .i64))) (TT.lo false [.leaf (.int .i64), .leaf (.int .i64)] x) H.empty).bind fun p => rdRes false p.2 (.one (.leaf (.int .i64))) (Res.un (.one (.leaf (.int .i64))) p.1)) = cmp_Compare_intP x.1 x.2 := by
  intro x
  rw [show TT.lo false [.leaf (.int .i64), .leaf (.int .i64)] x = TT.un [.leaf (.int .i64), .leaf (.int .i64)] (x.1, x.2) from rfl, cmp_Compare_int.eq]
  rfl
noncomputable def cmp_Compare_intP.e : Entry := mkP [.leaf (.int .i64), .leaf (.int .i64)] (.one (.leaf (.int .i64))) fun x => cmp_Compare_intP x.1 x.2
theorem cmp_Compare_intP.ok : EntryOK Tryz.prog 82 (cmp_Compare_intP.e) := mkP_ok (cmp_Compare_int.tbok) Tryz.mixed Tryz.func82 (by kernel_rfl) cmp_Compare_intP.eq
noncomputable def fact_Keys.tb : Table := tab [(81, cmp_Or_intP.e), (82, cmp_Compare_intP.e)] [] Table.nil
theorem fact_Keys.tbok : TabOK Tryz.prog (fact_Keys.tb) := TabOK.tab (TabOK.nil Tryz.prog) (all_cons cmp_Or_intP.ok (all_cons cmp_Compare_intP.ok (all_nil _))) (all_nil _)
noncomputable def fact_Keys (a0 : Ky) (a1 : Ky) (h : H) : Option ((Int) × H) :=
(match a0 with
| (a0_0, a0_1, a0_2) =>
(match a1 with
| (a1_0, a1_1, a1_2) =>
(let h1 : H := H.new h [.int .i64 a0_0, .int .i64 a0_1, .int .i64 a0_2] 3
(let h2 : H := H.new h1 [.int .i64 a1_0, .int .i64 a1_1, .int .i64 a1_2] 3
(let h3 : H := H.reserve h2 0
((rdT (.leaf (.int .i64)) h3 (.hp h.next 3 0)).bind fun x4 =>
((rdT (.leaf (.int .i64)) h3 (.hp h1.next 3 0)).bind fun x5 =>
((cmp_Compare_intP x4 x5).bind fun r6 =>
((rdT (.leaf (.int .i64)) h3 (.hp h.next 3 1)).bind fun x7 =>
((rdT (.leaf (.int .i64)) h3 (.hp h1.next 3 1)).bind fun x8 =>
((cmp_Compare_intP x7 x8).bind fun r9 =>
((rdT (.leaf (.int .i64)) h3 (.hp h.next 3 2)).bind fun x10 =>
((rdT (.leaf (.int .i64)) h3 (.hp h1.next 3 2)).bind fun x11 =>
((cmp_Compare_intP x10 x11).bind fun r12 =>
((rdRow true h3 [.int .i64] ⟨.lp true ([.int .i64 r6, .int .i64 r9, .int .i64 r12]) 0, 3, 3, false⟩).bind fun s14 =>
((cmp_Or_intP s14).bind fun r13 =>
(some (r13, h3))))))))))))))))))
def fact_Keys.A : Ann := { lits := [], conds := [], loops := [], regs := [] }
theorem fact_Keys.eq : ∀ (x : TT [.agg KC, .agg KC]) (h : H), evalFn Tryz.prog (fact_Keys.tb) fact_Keys.A Tryz.f58 (.one (.leaf (.int .i64))) (TT.un [.agg KC, .agg KC] x) h = fact_Keys x.1 x.2 h := by
  intro x h
  kernel_rfl
noncomputable def fact_KeysP (a0 : Ky) (a1 : Ky) : Option (Int) := (fact_Keys a0 a1 H.empty).bind fun p => rdRes false p.2 (.one (.leaf (.int .i64))) (Res.un (.one (.leaf (.int .i64))) p.1)
theorem fact_KeysP.eq : ∀ x : TT [.agg KC, .agg KC], ((evalFn Tryz.prog (fact_Keys.tb) fact_Keys.A Tryz.f58 (.one (.leaf (.int .i64))) (TT.lo false [.agg KC, .agg KC] x) H.empty).bind fun p => rdRes false p.2 (.one (.leaf (.int .i64))) (Res.un (.one (.leaf (.int .i64))) p.1)) = fact_KeysP x.1 x.2 := by
  intro x
  rw [show TT.lo false [.agg KC, .agg KC] x = TT.un [.agg KC, .agg KC] (x.1, x.2) from rfl, fact_Keys.eq]
  rfl
noncomputable def fact_KeysP.e : Entry := mkP [.agg KC, .agg KC] (.one (.leaf (.int .i64))) fun x => fact_KeysP x.1 x.2
theorem fact_KeysP.ok : EntryOK Tryz.prog 58 (fact_KeysP.e) := mkP_ok (fact_Keys.tbok) Tryz.mixed Tryz.func58 (by kernel_rfl) fact_KeysP.eq
noncomputable def slices_Compare_int_int.tb : Table := tab [(82, cmp_Compare_intP.e)] [] Table.nil
theorem slices_Compare_int_int.tbok : TabOK Tryz.prog (slices_Compare_int_int.tb) := TabOK.tab (TabOK.nil Tryz.prog) (all_cons cmp_Compare_intP.ok (all_nil _)) (all_nil _)
noncomputable def slices_Compare_int_int.loop1 (a0 : SV) (a1 : SV) : (Int) × H → Option (Stp ((Int) × H) (Flow (Unit) (Int) × H)) := fun (y1, h2) =>
(bif (decide (y1 < ((a0.len : Nat) : Int))) then (guardO (0 ≤ y1 ∧ y1 < ((a0.len : Nat) : Int)) ((rdT (.leaf (.int .i64)) h2 (V.add a0.a (Int.toNat y1 * 1))).bind fun x3 =>
(bif (decide (((a1.len : Nat) : Int) ≤ y1)) then (some (.done (.ret 1, h2))) else (guardO (0 ≤ y1 ∧ y1 < ((a1.len : Nat) : Int)) ((rdT (.leaf (.int .i64)) h2 (V.add a1.a (Int.toNat y1 * 1))).bind fun x4 =>
((cmp_Compare_intP x3 x4).bind fun r5 =>
(bif (!(decide (r5 = 0))) then (some (.done (.ret r5, h2))) else (some (.more ((IntKind.wrap .i64 (y1 + 1)), h2)))))))))) else (some (.done (.ex0 (), h2))))
noncomputable def slices_Compare_int_int (a0 : SV) (a1 : SV) (h : H) : Option ((Int) × H) :=
((iter FUEL (slices_Compare_int_int.loop1 a0 a1) (0, h)).bind fun (fl7, h6) => match fl7 with
| .next _ => none
| .ret rr8 => (some (rr8, h6))
| .ex0 _ =>
(bif (decide (((a0.len : Nat) : Int) < ((a1.len : Nat) : Int))) then (some ((-1), h6)) else (some (0, h6)))
| .ex1 _ => none)
def slices_Compare_int_int.A : Ann := { lits := [], conds := [], loops := [(2, [11], [.leaf (.int .i64)], [], [], some 0, none)], regs := [] }
theorem slices_Compare_int_int.eq : ∀ (x : TT [.leaf .slice, .leaf .slice]) (h : H), evalFn Tryz.prog (slices_Compare_int_int.tb) slices_Compare_int_int.A Tryz.f83 (.one (.leaf (.int .i64))) (TT.un [.leaf .slice, .leaf .slice] x) h = slices_Compare_int_int x.1 x.2 h := by
  intro x h
  kernel_rfl
noncomputable def slices_Compare_int_intP (a0 : (List (Int))) (a1 : (List (Int))) : Option (Int) := (slices_Compare_int_int (rowSV false [.int .i64] a0) (rowSV false [.int .i64] a1) H.empty).bind fun p => rdRes false p.2 (.one (.leaf (.int .i64))) (Res.un (.one (.leaf (.int .i64))) p.1)
theorem slices_Compare_int_intP.eq : ∀ x : TT [.leaf (.row [.int .i64]), .leaf (.row [.int .i64])], ((evalFn Tryz.prog (slices_Compare_int_int.tb) slices_Compare_int_int.A Tryz.f83 (.one (.leaf (.int .i64))) (TT.lo false [.leaf (.row [.int .i64]), .leaf (.row [.int .i64])] x) H.empty).bind fun p => rdRes false p.2 (.one (.leaf (.int .i64))) (Res.un (.one (.leaf (.int .i64))) p.1)) = slices_Compare_int_intP x.1 x.2 := by
  intro x
  rw [show TT.lo false [.leaf (.row [.int .i64]), .leaf (.row [.int .i64])] x = TT.un [.leaf .slice, .leaf .slice] ((rowSV false [.int .i64] x.1), (rowSV false [.int .i64] x.2)) from rfl, slices_Compare_int_int.eq]
  rfl
noncomputable def slices_Compare_int_intP.e : Entry := mkP [.leaf (.row [.int .i64]), .leaf (.row [.int .i64])] (.one (.leaf (.int .i64))) fun x => slices_Compare_int_intP x.1 x.2
theorem slices_Compare_int_intP.ok : EntryOK Tryz.prog 83 (slices_Compare_int_intP.e) := mkP_ok (slices_Compare_int_int.tbok) Tryz.mixed Tryz.func83 (by kernel_rfl) slices_Compare_int_intP.eq
noncomputable def cmp_isNaN_string.tb : Table := tab [] [] Table.nil
theorem cmp_isNaN_string.tbok : TabOK Tryz.prog (cmp_isNaN_string.tb) := TabOK.tab (TabOK.nil Tryz.prog) (all_nil _) (all_nil _)
noncomputable def cmp_isNaN_string (a0 : ByteArray) (h : H) : Option ((Bool) × H) :=
(some ((!(decide (a0 = a0))), h))
def cmp_isNaN_string.A : Ann := { lits := [], conds := [], loops := [], regs := [] }
theorem cmp_isNaN_string.eq : ∀ (x : TT [.leaf .str]) (h : H), evalFn Tryz.prog (cmp_isNaN_string.tb) cmp_isNaN_string.A Tryz.f135 (.one (.leaf .bool)) (TT.un [.leaf .str] x) h = cmp_isNaN_string x h := by
  intro x h
  kernel_rfl
noncomputable def cmp_isNaN_stringP (a0 : ByteArray) : Option (Bool) := (cmp_isNaN_string a0 H.empty).bind fun p => rdRes false p.2 (.one (.leaf .bool)) (Res.un (.one (.leaf .bool)) p.1)
theorem cmp_isNaN_stringP.eq : ∀ x : TT [.leaf .str], ((evalFn Tryz.prog (cmp_isNaN_string.tb) cmp_isNaN_string.A Tryz.f135 (.one (.leaf .bool)) (TT.lo false [.leaf .str] x) H.empty).bind fun p => rdRes false p.2 (.one (.leaf .bool)) (Res.un (.one (.leaf .bool)) p.1)) = cmp_isNaN_stringP x := by
  intro x
  rw [show TT.lo false [.leaf .str] x = TT.un [.leaf .str] (x) from rfl, cmp_isNaN_string.eq]
  rfl
noncomputable def cmp_isNaN_stringP.e : Entry := mkP [.leaf .str] (.one (.leaf .bool)) fun x => cmp_isNaN_stringP x
theorem cmp_isNaN_stringP.ok : EntryOK Tryz.prog 135 (cmp_isNaN_stringP.e) := mkP_ok (cmp_isNaN_string.tbok) Tryz.mixed Tryz.func135 (by kernel_rfl) cmp_isNaN_stringP.eq
noncomputable def cmp_Compare_string.tb : Table := tab [(135, cmp_isNaN_stringP.e)] [] Table.nil
theorem cmp_Compare_string.tbok : TabOK Tryz.prog (cmp_Compare_string.tb) := TabOK.tab (TabOK.nil Tryz.prog) (all_cons cmp_isNaN_stringP.ok (all_nil _)) (all_nil _)
noncomputable def cmp_Compare_string (a0 : ByteArray) (a1 : ByteArray) (h : H) : Option ((Int) × H) :=
((cmp_isNaN_stringP a0).bind fun r1 =>
((cmp_isNaN_stringP a1).bind fun r2 =>
(bif r1 then (bif r2 then (some (0, h)) else (some ((-1), h))) else (bif r2 then (some (1, h)) else (bif (Op.bytesLess (ByteArray.toList a0) (ByteArray.toList a1)) then (some ((-1), h)) else (bif (!((Op.bytesLess (ByteArray.toList a0) (ByteArray.toList a1)) || (decide (a0 = a1)))) then (some (1, h)) else (some (0, h))))))))
def cmp_Compare_string.A : Ann := { lits := [], conds := [], loops := [], regs := [] }
theorem cmp_Compare_string.eq : ∀ (x : TT [.leaf .str, .leaf .str]) (h : H), evalFn Tryz.prog (cmp_Compare_string.tb) cmp_Compare_string.A Tryz.f109 (.one (.leaf (.int .i64))) (TT.un [.leaf .str, .leaf .str] x) h = cmp_Compare_string x.1 x.2 h := by
  intro x h
  kernel_rfl
noncomputable def cmp_Compare_stringP (a0 : ByteArray) (a1 : ByteArray) : Option (Int) := (cmp_Compare_string a0 a1 H.empty).bind fun p => rdRes false p.2 (.one (.leaf (.int .i64))) (Res.un (.one (.leaf (.int .i64))) p.1)
theorem cmp_Compare_stringP.eq : ∀ x : TT [.leaf .str, .leaf .str], ((evalFn Tryz.prog (cmp_Compare_string.tb) cmp_Compare_string.A Tryz.f109 (.one (.leaf (.int .i64))) (TT.lo false [.leaf .str, .leaf .str] x) H.empty).bind fun p => rdRes false p.2 (.one (.leaf (.int .i64))) (Res.un (.one (.leaf (.int .i64))) p.1)) = cmp_Compare_stringP x.1 x.2 := by
  intro x
  rw [show TT.lo false [.leaf .str, .leaf .str] x = TT.un [.leaf .str, .leaf .str] (x.1, x.2) from rfl, cmp_Compare_string.eq]
  rfl
noncomputable def cmp_Compare_stringP.e : Entry := mkP [.leaf .str, .leaf .str] (.one (.leaf (.int .i64))) fun x => cmp_Compare_stringP x.1 x.2
theorem cmp_Compare_stringP.ok : EntryOK Tryz.prog 109 (cmp_Compare_stringP.e) := mkP_ok (cmp_Compare_string.tbok) Tryz.mixed Tryz.func109 (by kernel_rfl) cmp_Compare_stringP.eq
noncomputable def slices_Compare_string_string.tb : Table := tab [(109, cmp_Compare_stringP.e)] [] Table.nil
theorem slices_Compare_string_string.tbok : TabOK Tryz.prog (slices_Compare_string_string.tb) := TabOK.tab (TabOK.nil Tryz.prog) (all_cons cmp_Compare_stringP.ok (all_nil _)) (all_nil _)
noncomputable def slices_Compare_string_string.loop1 (a0 : SV) (a1 : SV) : (Int) × H → Option (Stp ((Int) × H) (Flow (Unit) (Int) × H)) := fun (y1, h2) =>
(bif (decide (y1 < ((a0.len : Nat) : Int))) then (guardO (0 ≤ y1 ∧ y1 < ((a0.len : Nat) : Int)) ((rdT (.leaf .str) h2 (V.add a0.a (Int.toNat y1 * 1))).bind fun x3 =>
(bif (decide (((a1.len : Nat) : Int) ≤ y1)) then (some (.done (.ret 1, h2))) else (guardO (0 ≤ y1 ∧ y1 < ((a1.len : Nat) : Int)) ((rdT (.leaf .str) h2 (V.add a1.a (Int.toNat y1 * 1))).bind fun x4 =>
((cmp_Compare_stringP x3 x4).bind fun r5 =>
(bif (!(decide (r5 = 0))) then (some (.done (.ret r5, h2))) else (some (.more ((IntKind.wrap .i64 (y1 + 1)), h2)))))))))) else (some (.done (.ex0 (), h2))))
noncomputable def slices_Compare_string_string (a0 : SV) (a1 : SV) (h : H) : Option ((Int) × H) :=
((iter FUEL (slices_Compare_string_string.loop1 a0 a1) (0, h)).bind fun (fl7, h6) => match fl7 with
| .next _ => none
| .ret rr8 => (some (rr8, h6))
| .ex0 _ =>
(bif (decide (((a0.len : Nat) : Int) < ((a1.len : Nat) : Int))) then (some ((-1), h6)) else (some (0, h6)))
| .ex1 _ => none)
def slices_Compare_string_string.A : Ann := { lits := [], conds := [], loops := [(2, [11], [.leaf (.int .i64)], [], [], some 0, none)], regs := [] }
theorem slices_Compare_string_string.eq : ∀ (x : TT [.leaf .slice, .leaf .slice]) (h : H), evalFn Tryz.prog (slices_Compare_string_string.tb) slices_Compare_string_string.A Tryz.f84 (.one (.leaf (.int .i64))) (TT.un [.leaf .slice, .leaf .slice] x) h = slices_Compare_string_string x.1 x.2 h := by
  intro x h
  kernel_rfl
noncomputable def slices_Compare_string_stringP (a0 : (List (ByteArray))) (a1 : (List (ByteArray))) : Option (Int) := (slices_Compare_string_string (rowSV false [.str] a0) (rowSV false [.str] a1) H.empty).bind fun p => rdRes false p.2 (.one (.leaf (.int .i64))) (Res.un (.one (.leaf (.int .i64))) p.1)
theorem slices_Compare_string_stringP.eq : ∀ x : TT [.leaf (.row [.str]), .leaf (.row [.str])], ((evalFn Tryz.prog (slices_Compare_string_string.tb) slices_Compare_string_string.A Tryz.f84 (.one (.leaf (.int .i64))) (TT.lo false [.leaf (.row [.str]), .leaf (.row [.str])] x) H.empty).bind fun p => rdRes false p.2 (.one (.leaf (.int .i64))) (Res.un (.one (.leaf (.int .i64))) p.1)) = slices_Compare_string_stringP x.1 x.2 := by
  intro x
  rw [show TT.lo false [.leaf (.row [.str]), .leaf (.row [.str])] x = TT.un [.leaf .slice, .leaf .slice] ((rowSV false [.str] x.1), (rowSV false [.str] x.2)) from rfl, slices_Compare_string_string.eq]
  rfl
noncomputable def slices_Compare_string_stringP.e : Entry := mkP [.leaf (.row [.str]), .leaf (.row [.str])] (.one (.leaf (.int .i64))) fun x => slices_Compare_string_stringP x.1 x.2
theorem slices_Compare_string_stringP.ok : EntryOK Tryz.prog 84 (slices_Compare_string_stringP.e) := mkP_ok (slices_Compare_string_string.tbok) Tryz.mixed Tryz.func84 (by kernel_rfl) slices_Compare_string_stringP.eq
noncomputable def fact_Compare.tb : Table := tab [(58, fact_KeysP.e), (81, cmp_Or_intP.e), (82, cmp_Compare_intP.e), (83, slices_Compare_int_intP.e), (84, slices_Compare_string_stringP.e)] [] Table.nil
theorem fact_Compare.tbok : TabOK Tryz.prog (fact_Compare.tb) := TabOK.tab (TabOK.nil Tryz.prog) (all_cons fact_KeysP.ok (all_cons cmp_Or_intP.ok (all_cons cmp_Compare_intP.ok (all_cons slices_Compare_int_intP.ok (all_cons slices_Compare_string_stringP.ok (all_nil _)))))) (all_nil _)
noncomputable def fact_Compare (a0 : Fsv) (a1 : Fsv) (h : H) : Option ((Int) × H) :=
(match a0 with
| (a0_0, a0_1, a0_2, a0_3, a0_4, a0_5) =>
(match a1 with
| (a1_0, a1_1, a1_2, a1_3, a1_4, a1_5) =>
(let h1 : H := H.new h [.int .i64 a0_0, .int .i64 a0_1, .int .i64 a0_2, .int .i64 a0_3, .slice a0_4.a a0_4.len a0_4.cap a0_4.tail, .slice a0_5.a a0_5.len a0_5.cap a0_5.tail] 6
(let h2 : H := H.new h1 [.int .i64 a1_0, .int .i64 a1_1, .int .i64 a1_2, .int .i64 a1_3, .slice a1_4.a a1_4.len a1_4.cap a1_4.tail, .slice a1_5.a a1_5.len a1_5.cap a1_5.tail] 6
(let h3 : H := H.reserve h2 0
((rdT (.agg KC) h3 (.hp h.next 6 0)).bind fun (x4_0, x4_1, x4_2) =>
((rdT (.agg KC) h3 (.hp h1.next 6 0)).bind fun (x5_0, x5_1, x5_2) =>
((fact_KeysP (x4_0, x4_1, x4_2) (x5_0, x5_1, x5_2)).bind fun r6 =>
((rdT (.leaf (.int .i64)) h3 (.hp h.next 6 3)).bind fun x7 =>
((rdT (.leaf (.int .i64)) h3 (.hp h1.next 6 3)).bind fun x8 =>
((cmp_Compare_intP x7 x8).bind fun r9 =>
((rdT (.leaf .slice) h3 (.hp h.next 6 4)).bind fun x10 =>
((rdT (.leaf .slice) h3 (.hp h1.next 6 4)).bind fun x11 =>
((rdRow true h3 [.int .i64] x10).bind fun s13 =>
((rdRow true h3 [.int .i64] x11).bind fun s14 =>
((slices_Compare_int_intP s13 s14).bind fun r12 =>
((rdT (.leaf .slice) h3 (.hp h.next 6 5)).bind fun x15 =>
((rdT (.leaf .slice) h3 (.hp h1.next 6 5)).bind fun x16 =>
((rdRow true h3 [.str] x15).bind fun s18 =>
((rdRow true h3 [.str] x16).bind fun s19 =>
((slices_Compare_string_stringP s18 s19).bind fun r17 =>
((rdRow true h3 [.int .i64] ⟨.lp true ([.int .i64 r6, .int .i64 r9, .int .i64 r12, .int .i64 r17]) 0, 4, 4, false⟩).bind fun s21 =>
((cmp_Or_intP s21).bind fun r20 =>
(some (r20, h3)))))))))))))))))))))))))
def fact_Compare.A : Ann := { lits := [], conds := [], loops := [], regs := [] }
theorem fact_Compare.eq : ∀ (x : TT [.agg FS, .agg FS]) (h : H), evalFn Tryz.prog (fact_Compare.tb) fact_Compare.A Tryz.f33 (.one (.leaf (.int .i64))) (TT.un [.agg FS, .agg FS] x) h = fact_Compare x.1 x.2 h := by
  intro x h
  kernel_rfl
noncomputable def fact_CompareP (a0 : Fct) (a1 : Fct) : Option (Int) := (fact_Compare (a0.1, a0.2.1, a0.2.2.1, a0.2.2.2.1, rowSV false [.int .i64] a0.2.2.2.2.1, rowSV false [.str] a0.2.2.2.2.2) (a1.1, a1.2.1, a1.2.2.1, a1.2.2.2.1, rowSV false [.int .i64] a1.2.2.2.2.1, rowSV false [.str] a1.2.2.2.2.2) H.empty).bind fun p => rdRes false p.2 (.one (.leaf (.int .i64))) (Res.un (.one (.leaf (.int .i64))) p.1)
theorem fact_CompareP.eq : ∀ x : TT [.agg FC, .agg FC], ((evalFn Tryz.prog (fact_Compare.tb) fact_Compare.A Tryz.f33 (.one (.leaf (.int .i64))) (TT.lo false [.agg FC, .agg FC] x) H.empty).bind fun p => rdRes false p.2 (.one (.leaf (.int .i64))) (Res.un (.one (.leaf (.int .i64))) p.1)) = fact_CompareP x.1 x.2 := by
  intro x
  rw [show TT.lo false [.agg FC, .agg FC] x = TT.un [.agg FS, .agg FS] ((x.1.1, x.1.2.1, x.1.2.2.1, x.1.2.2.2.1, rowSV false [.int .i64] x.1.2.2.2.2.1, rowSV false [.str] x.1.2.2.2.2.2), (x.2.1, x.2.2.1, x.2.2.2.1, x.2.2.2.2.1, rowSV false [.int .i64] x.2.2.2.2.2.1, rowSV false [.str] x.2.2.2.2.2.2)) from rfl, fact_Compare.eq]
  rfl
noncomputable def fact_CompareP.e : Entry := mkP [.agg FC, .agg FC] (.one (.leaf (.int .i64))) fun x => fact_CompareP x.1 x.2
theorem fact_CompareP.ok : EntryOK Tryz.prog 33 (fact_CompareP.e) := mkP_ok (fact_Compare.tbok) Tryz.mixed Tryz.func33 (by kernel_rfl) fact_CompareP.eq
noncomputable def slices_IndexFunc_F2.tb (T : Table) : Table := tab [] [] T
theorem slices_IndexFunc_F2.tbok (T : Table) (hT : TabOK Tryz.prog T) : TabOK Tryz.prog (slices_IndexFunc_F2.tb T) := TabOK.tab (hT) (all_nil _) (all_nil _)
noncomputable def slices_IndexFunc_F2.loop1 (T : Table) (a0 : SV) (a1 : V) : (Int) × H → Option (Stp ((Int) × H) (Flow (Unit) (Int) × H)) := fun (y1, h2) =>
(bif (decide (y1 < ((a0.len : Nat) : Int))) then (guardO (0 ≤ y1 ∧ y1 < ((a0.len : Nat) : Int)) ((rdT (.agg FS) h2 (V.add a0.a (Int.toNat y1 * 6))).bind fun (x3_0, x3_1, x3_2, x3_3, x3_4, x3_5) =>
(callV T.dy a1 [.agg [.int .i64 x3_0, .int .i64 x3_1, .int .i64 x3_2, .int .i64 x3_3, .slice x3_4.a x3_4.len x3_4.cap x3_4.tail, .slice x3_5.a x3_5.len x3_5.cap x3_5.tail]] h2 fun v4 h5 =>
(Res.pack (.one (.leaf .bool)) v4).bind fun r6 =>
(bif r6 then (some (.done (.ret y1, h5))) else (some (.more ((IntKind.wrap .i64 (y1 + 1)), h5))))))) else (some (.done (.ex0 (), h2))))
noncomputable def slices_IndexFunc_F2 (T : Table) (a0 : SV) (a1 : V) (h : H) : Option ((Int) × H) :=
((iter FUEL (slices_IndexFunc_F2.loop1 T a0 a1) (0, h)).bind fun (fl8, h7) => match fl8 with
| .next _ => none
| .ret rr9 => (some (rr9, h7))
| .ex0 _ =>
(some ((-1), h7))
| .ex1 _ => none)
def slices_IndexFunc_F2.A : Ann := { lits := [], conds := [], loops := [(2, [8], [.leaf (.int .i64)], [], [], some 0, none)], regs := [] }
theorem slices_IndexFunc_F2.eq (T : Table) : ∀ (x : TT [.leaf .slice, .leaf .dyn]) (h : H), evalFn Tryz.prog (slices_IndexFunc_F2.tb T) slices_IndexFunc_F2.A Tryz.f80 (.one (.leaf (.int .i64))) (TT.un [.leaf .slice, .leaf .dyn] x) h = slices_IndexFunc_F2 T x.1 x.2 h := by
  intro x h
  kernel_rfl
noncomputable def slices_IndexFunc_F2.e (T : Table) : Entry := mkX [.leaf .slice, .leaf .dyn] (.one (.leaf (.int .i64))) fun x h => slices_IndexFunc_F2 T x.1 x.2 h
theorem slices_IndexFunc_F2.ok (T : Table) (hT : TabOK Tryz.prog T) : EntryOK Tryz.prog 80 (slices_IndexFunc_F2.e T) := mkX_ok (slices_IndexFunc_F2.tbok T hT) Tryz.mixed Tryz.func80 (by kernel_rfl) (slices_IndexFunc_F2.eq T)
noncomputable def slices_ContainsFunc_F2.tb (T : Table) : Table := tab [] [] T
theorem slices_ContainsFunc_F2.tbok (T : Table) (hT : TabOK Tryz.prog T) : TabOK Tryz.prog (slices_ContainsFunc_F2.tb T) := TabOK.tab (hT) (all_nil _) (all_nil _)
noncomputable def slices_ContainsFunc_F2 (T : Table) (a0 : SV) (a1 : V) (h : H) : Option ((Bool) × H) :=
((slices_IndexFunc_F2 (slices_ContainsFunc_F2.tb T) a0 a1 h).bind fun (r1, h2) =>
(some ((decide ((0 : Int) ≤ r1)), h2)))
def slices_ContainsFunc_F2.A : Ann := { lits := [], conds := [], loops := [], regs := [] }
noncomputable def slices_ContainsFunc_F2.tc (T : Table) : Table := tab [(80, slices_IndexFunc_F2.e (slices_ContainsFunc_F2.tb T))] [] (slices_ContainsFunc_F2.tb T)
theorem slices_ContainsFunc_F2.tcok (T : Table) (hT : TabOK Tryz.prog T) : TabOK Tryz.prog (slices_ContainsFunc_F2.tc T) := TabOK.tab (slices_ContainsFunc_F2.tbok T hT) (all_cons (slices_IndexFunc_F2.ok _ (slices_ContainsFunc_F2.tbok T hT)) (all_nil _)) (all_nil _)
theorem slices_ContainsFunc_F2.eq (T : Table) : ∀ (x : TT [.leaf .slice, .leaf .dyn]) (h : H), evalFn Tryz.prog (slices_ContainsFunc_F2.tc T) slices_ContainsFunc_F2.A Tryz.f31 (.one (.leaf .bool)) (TT.un [.leaf .slice, .leaf .dyn] x) h = slices_ContainsFunc_F2 T x.1 x.2 h := by
  intro x h
  kernel_rfl
noncomputable def slices_ContainsFunc_F2.e (T : Table) : Entry := mkX [.leaf .slice, .leaf .dyn] (.one (.leaf .bool)) fun x h => slices_ContainsFunc_F2 T x.1 x.2 h
theorem slices_ContainsFunc_F2.ok (T : Table) (hT : TabOK Tryz.prog T) : EntryOK Tryz.prog 31 (slices_ContainsFunc_F2.e T) := mkX_ok (slices_ContainsFunc_F2.tcok T hT) Tryz.mixed Tryz.func31 (by kernel_rfl) (slices_ContainsFunc_F2.eq T)
noncomputable def fact_within.tb : Table := tab [] [] Table.nil
theorem fact_within.tbok : TabOK Tryz.prog (fact_within.tb) := TabOK.tab (TabOK.nil Tryz.prog) (all_nil _) (all_nil _)
noncomputable def fact_within (a0 : Int) (a1 : Int) (a2 : Int) (h : H) : Option ((Bool) × H) :=
(((bif (decide (a1 ≤ a0)) then (some ((decide (a0 ≤ a2)), h)) else (some (false, h)))).bind fun (y1, h2) =>
(some (y1, h2)))
def fact_within.A : Ann := { lits := [], conds := [], loops := [], regs := [(1, [6], [.leaf .bool])] }
theorem fact_within.eq : ∀ (x : TT [.leaf (.int .i64), .leaf (.int .i64), .leaf (.int .i64)]) (h : H), evalFn Tryz.prog (fact_within.tb) fact_within.A Tryz.f98 (.one (.leaf .bool)) (TT.un [.leaf (.int .i64), .leaf (.int .i64), .leaf (.int .i64)] x) h = fact_within x.1 x.2.1 x.2.2 h := by
  intro x h
  kernel_rfl
noncomputable def fact_withinP (a0 : Int) (a1 : Int) (a2 : Int) : Option (Bool) := (fact_within a0 a1 a2 H.empty).bind fun p => rdRes false p.2 (.one (.leaf .bool)) (Res.un (.one (.leaf .bool)) p.1)
theorem fact_withinP.eq : ∀ x : TT [.leaf (.int .i64), .leaf (.int .i64), .leaf (.int .i64)], ((evalFn Tryz.prog (fact_within.tb) fact_within.A Tryz.f98 (.one (.leaf .bool)) (TT.lo false [.leaf (.int .i64), .leaf (.int .i64), .leaf (.int .i64)] x) H.empty).bind fun p => rdRes false p.2 (.one (.leaf .bool)) (Res.un (.one (.leaf .bool)) p.1)) = fact_withinP x.1 x.2.1 x.2.2 := by
  intro x
  rw [show TT.lo false [.leaf (.int .i64), .leaf (.int .i64), .leaf (.int .i64)] x = TT.un [.leaf (.int .i64), .leaf (.int .i64), .leaf (.int .i64)] (x.1, x.2.1, x.2.2) from rfl, fact_within.eq]
  rfl
noncomputable def fact_withinP.e : Entry := mkP [.leaf (.int .i64), .leaf (.int .i64), .leaf (.int .i64)] (.one (.leaf .bool)) fun x => fact_withinP x.1 x.2.1 x.2.2
theorem fact_withinP.ok : EntryOK Tryz.prog 98 (fact_withinP.e) := mkP_ok (fact_within.tbok) Tryz.mixed Tryz.func98 (by kernel_rfl) fact_withinP.eq
noncomputable def slices_IndexFunc_int_int.tb (T : Table) : Table := tab [] [] T
theorem slices_IndexFunc_int_int.tbok (T : Table) (hT : TabOK Tryz.prog T) : TabOK Tryz.prog (slices_IndexFunc_int_int.tb T) := TabOK.tab (hT) (all_nil _) (all_nil _)
noncomputable def slices_IndexFunc_int_int.loop1 (T : Table) (a0 : SV) (a1 : V) : (Int) × H → Option (Stp ((Int) × H) (Flow (Unit) (Int) × H)) := fun (y1, h2) =>
(bif (decide (y1 < ((a0.len : Nat) : Int))) then (guardO (0 ≤ y1 ∧ y1 < ((a0.len : Nat) : Int)) ((rdT (.leaf (.int .i64)) h2 (V.add a0.a (Int.toNat y1 * 1))).bind fun x3 =>
(callV T.dy a1 [.int .i64 x3] h2 fun v4 h5 =>
(Res.pack (.one (.leaf .bool)) v4).bind fun r6 =>
(bif r6 then (some (.done (.ret y1, h5))) else (some (.more ((IntKind.wrap .i64 (y1 + 1)), h5))))))) else (some (.done (.ex0 (), h2))))
noncomputable def slices_IndexFunc_int_int (T : Table) (a0 : SV) (a1 : V) (h : H) : Option ((Int) × H) :=
((iter FUEL (slices_IndexFunc_int_int.loop1 T a0 a1) (0, h)).bind fun (fl8, h7) => match fl8 with
| .next _ => none
| .ret rr9 => (some (rr9, h7))
| .ex0 _ =>
(some ((-1), h7))
| .ex1 _ => none)
def slices_IndexFunc_int_int.A : Ann := { lits := [], conds := [], loops := [(2, [8], [.leaf (.int .i64)], [], [], some 0, none)], regs := [] }
theorem slices_IndexFunc_int_int.eq (T : Table) : ∀ (x : TT [.leaf .slice, .leaf .dyn]) (h : H), evalFn Tryz.prog (slices_IndexFunc_int_int.tb T) slices_IndexFunc_int_int.A Tryz.f132 (.one (.leaf (.int .i64))) (TT.un [.leaf .slice, .leaf .dyn] x) h = slices_IndexFunc_int_int T x.1 x.2 h := by
  intro x h
  kernel_rfl
noncomputable def slices_IndexFunc_int_int.e (T : Table) : Entry := mkX [.leaf .slice, .leaf .dyn] (.one (.leaf (.int .i64))) fun x h => slices_IndexFunc_int_int T x.1 x.2 h
theorem slices_IndexFunc_int_int.ok (T : Table) (hT : TabOK Tryz.prog T) : EntryOK Tryz.prog 132 (slices_IndexFunc_int_int.e T) := mkX_ok (slices_IndexFunc_int_int.tbok T hT) Tryz.mixed Tryz.func132 (by kernel_rfl) (slices_IndexFunc_int_int.eq T)
noncomputable def slices_ContainsFunc_int_int.tb (T : Table) : Table := tab [] [] T
theorem slices_ContainsFunc_int_int.tbok (T : Table) (hT : TabOK Tryz.prog T) : TabOK Tryz.prog (slices_ContainsFunc_int_int.tb T) := TabOK.tab (hT) (all_nil _) (all_nil _)
noncomputable def slices_ContainsFunc_int_int (T : Table) (a0 : SV) (a1 : V) (h : H) : Option ((Bool) × H) :=
((slices_IndexFunc_int_int (slices_ContainsFunc_int_int.tb T) a0 a1 h).bind fun (r1, h2) =>
(some ((decide ((0 : Int) ≤ r1)), h2)))
def slices_ContainsFunc_int_int.A : Ann := { lits := [], conds := [], loops := [], regs := [] }
noncomputable def slices_ContainsFunc_int_int.tc (T : Table) : Table := tab [(132, slices_IndexFunc_int_int.e (slices_ContainsFunc_int_int.tb T))] [] (slices_ContainsFunc_int_int.tb T)
theorem slices_ContainsFunc_int_int.tcok (T : Table) (hT : TabOK Tryz.prog T) : TabOK Tryz.prog (slices_ContainsFunc_int_int.tc T) := TabOK.tab (slices_ContainsFunc_int_int.tbok T hT) (all_cons (slices_IndexFunc_int_int.ok _ (slices_ContainsFunc_int_int.tbok T hT)) (all_nil _)) (all_nil _)
theorem slices_ContainsFunc_int_int.eq (T : Table) : ∀ (x : TT [.leaf .slice, .leaf .dyn]) (h : H), evalFn Tryz.prog (slices_ContainsFunc_int_int.tc T) slices_ContainsFunc_int_int.A Tryz.f99 (.one (.leaf .bool)) (TT.un [.leaf .slice, .leaf .dyn] x) h = slices_ContainsFunc_int_int T x.1 x.2 h := by
  intro x h
  kernel_rfl
noncomputable def slices_ContainsFunc_int_int.e (T : Table) : Entry := mkX [.leaf .slice, .leaf .dyn] (.one (.leaf .bool)) fun x h => slices_ContainsFunc_int_int T x.1 x.2 h
theorem slices_ContainsFunc_int_int.ok (T : Table) (hT : TabOK Tryz.prog T) : EntryOK Tryz.prog 99 (slices_ContainsFunc_int_int.e T) := mkX_ok (slices_ContainsFunc_int_int.tcok T hT) Tryz.mixed Tryz.func99 (by kernel_rfl) (slices_ContainsFunc_int_int.eq T)
noncomputable def fact_Check_1.tb : Table := tab [(98, fact_withinP.e)] [] Table.nil
theorem fact_Check_1.tbok : TabOK Tryz.prog (fact_Check_1.tb) := TabOK.tab (TabOK.nil Tryz.prog) (all_cons fact_withinP.ok (all_nil _)) (all_nil _)
noncomputable def fact_Check_1 (a0 : Int) (h : H) : Option ((Bool) × H) :=
((fact_withinP a0 (-1125899906842624) 1125899906842624).bind fun r1 =>
(some ((!r1), h)))
def fact_Check_1.A : Ann := { lits := [], conds := [], loops := [], regs := [] }
theorem fact_Check_1.eq : ∀ (x : TT [.leaf (.int .i64)]) (h : H), evalFn Tryz.prog (fact_Check_1.tb) fact_Check_1.A Tryz.f100 (.one (.leaf .bool)) (TT.un [.leaf (.int .i64)] x) h = fact_Check_1 x h := by
  intro x h
  kernel_rfl
noncomputable def fact_Check_1P (a0 : Int) : Option (Bool) := (fact_Check_1 a0 H.empty).bind fun p => rdRes false p.2 (.one (.leaf .bool)) (Res.un (.one (.leaf .bool)) p.1)
theorem fact_Check_1P.eq : ∀ x : TT [.leaf (.int .i64)], ((evalFn Tryz.prog (fact_Check_1.tb) fact_Check_1.A Tryz.f100 (.one (.leaf .bool)) (TT.lo false [.leaf (.int .i64)] x) H.empty).bind fun p => rdRes false p.2 (.one (.leaf .bool)) (Res.un (.one (.leaf .bool)) p.1)) = fact_Check_1P x := by
  intro x
  rw [show TT.lo false [.leaf (.int .i64)] x = TT.un [.leaf (.int .i64)] (x) from rfl, fact_Check_1.eq]
  rfl
noncomputable def fact_Check_1P.e : Entry := mkP [.leaf (.int .i64)] (.one (.leaf .bool)) fun x => fact_Check_1P x
theorem fact_Check_1P.ok : EntryOK Tryz.prog 100 (fact_Check_1P.e) := mkP_ok (fact_Check_1.tbok) Tryz.mixed Tryz.func100 (by kernel_rfl) fact_Check_1P.eq
noncomputable def slices_IndexFunc_string_string.tb (T : Table) : Table := tab [] [] T
theorem slices_IndexFunc_string_string.tbok (T : Table) (hT : TabOK Tryz.prog T) : TabOK Tryz.prog (slices_IndexFunc_string_string.tb T) := TabOK.tab (hT) (all_nil _) (all_nil _)
noncomputable def slices_IndexFunc_string_string.loop1 (T : Table) (a0 : SV) (a1 : V) : (Int) × H → Option (Stp ((Int) × H) (Flow (Unit) (Int) × H)) := fun (y1, h2) =>
(bif (decide (y1 < ((a0.len : Nat) : Int))) then (guardO (0 ≤ y1 ∧ y1 < ((a0.len : Nat) : Int)) ((rdT (.leaf .str) h2 (V.add a0.a (Int.toNat y1 * 1))).bind fun x3 =>
(callV T.dy a1 [.str x3] h2 fun v4 h5 =>
(Res.pack (.one (.leaf .bool)) v4).bind fun r6 =>
(bif r6 then (some (.done (.ret y1, h5))) else (some (.more ((IntKind.wrap .i64 (y1 + 1)), h5))))))) else (some (.done (.ex0 (), h2))))
noncomputable def slices_IndexFunc_string_string (T : Table) (a0 : SV) (a1 : V) (h : H) : Option ((Int) × H) :=
((iter FUEL (slices_IndexFunc_string_string.loop1 T a0 a1) (0, h)).bind fun (fl8, h7) => match fl8 with
| .next _ => none
| .ret rr9 => (some (rr9, h7))
| .ex0 _ =>
(some ((-1), h7))
| .ex1 _ => none)
def slices_IndexFunc_string_string.A : Ann := { lits := [], conds := [], loops := [(2, [8], [.leaf (.int .i64)], [], [], some 0, none)], regs := [] }
theorem slices_IndexFunc_string_string.eq (T : Table) : ∀ (x : TT [.leaf .slice, .leaf .dyn]) (h : H), evalFn Tryz.prog (slices_IndexFunc_string_string.tb T) slices_IndexFunc_string_string.A Tryz.f133 (.one (.leaf (.int .i64))) (TT.un [.leaf .slice, .leaf .dyn] x) h = slices_IndexFunc_string_string T x.1 x.2 h := by
  intro x h
  kernel_rfl
noncomputable def slices_IndexFunc_string_string.e (T : Table) : Entry := mkX [.leaf .slice, .leaf .dyn] (.one (.leaf (.int .i64))) fun x h => slices_IndexFunc_string_string T x.1 x.2 h
theorem slices_IndexFunc_string_string.ok (T : Table) (hT : TabOK Tryz.prog T) : EntryOK Tryz.prog 133 (slices_IndexFunc_string_string.e T) := mkX_ok (slices_IndexFunc_string_string.tbok T hT) Tryz.mixed Tryz.func133 (by kernel_rfl) (slices_IndexFunc_string_string.eq T)
noncomputable def slices_ContainsFunc_string_string.tb (T : Table) : Table := tab [] [] T
theorem slices_ContainsFunc_string_string.tbok (T : Table) (hT : TabOK Tryz.prog T) : TabOK Tryz.prog (slices_ContainsFunc_string_string.tb T) := TabOK.tab (hT) (all_nil _) (all_nil _)
noncomputable def slices_ContainsFunc_string_string (T : Table) (a0 : SV) (a1 : V) (h : H) : Option ((Bool) × H) :=
((slices_IndexFunc_string_string (slices_ContainsFunc_string_string.tb T) a0 a1 h).bind fun (r1, h2) =>
(some ((decide ((0 : Int) ≤ r1)), h2)))
def slices_ContainsFunc_string_string.A : Ann := { lits := [], conds := [], loops := [], regs := [] }
noncomputable def slices_ContainsFunc_string_string.tc (T : Table) : Table := tab [(133, slices_IndexFunc_string_string.e (slices_ContainsFunc_string_string.tb T))] [] (slices_ContainsFunc_string_string.tb T)
theorem slices_ContainsFunc_string_string.tcok (T : Table) (hT : TabOK Tryz.prog T) : TabOK Tryz.prog (slices_ContainsFunc_string_string.tc T) := TabOK.tab (slices_ContainsFunc_string_string.tbok T hT) (all_cons (slices_IndexFunc_string_string.ok _ (slices_ContainsFunc_string_string.tbok T hT)) (all_nil _)) (all_nil _)
theorem slices_ContainsFunc_string_string.eq (T : Table) : ∀ (x : TT [.leaf .slice, .leaf .dyn]) (h : H), evalFn Tryz.prog (slices_ContainsFunc_string_string.tc T) slices_ContainsFunc_string_string.A Tryz.f101 (.one (.leaf .bool)) (TT.un [.leaf .slice, .leaf .dyn] x) h = slices_ContainsFunc_string_string T x.1 x.2 h := by
  intro x h
  kernel_rfl
noncomputable def slices_ContainsFunc_string_string.e (T : Table) : Entry := mkX [.leaf .slice, .leaf .dyn] (.one (.leaf .bool)) fun x h => slices_ContainsFunc_string_string T x.1 x.2 h
theorem slices_ContainsFunc_string_string.ok (T : Table) (hT : TabOK Tryz.prog T) : EntryOK Tryz.prog 101 (slices_ContainsFunc_string_string.e T) := mkX_ok (slices_ContainsFunc_string_string.tcok T hT) Tryz.mixed Tryz.func101 (by kernel_rfl) (slices_ContainsFunc_string_string.eq T)
noncomputable def fact_printable.tb : Table := tab [] [] Table.nil
theorem fact_printable.tbok : TabOK Tryz.prog (fact_printable.tb) := TabOK.tab (TabOK.nil Tryz.prog) (all_nil _) (all_nil _)
noncomputable def fact_printable.loop1 (a0 : ByteArray) : (Int) × H → Option (Stp ((Int) × H) (Flow (Unit) (Bool) × H)) := fun (y1, h2) =>
(bif (decide (y1 < ((ByteArray.size a0 : Nat) : Int))) then (((guardO (0 ≤ y1 ∧ y1 < ((ByteArray.size a0 : Nat) : Int)) (bif !(decide ((((((ByteArray.data a0)[Int.toNat y1]?).map UInt8.toNat).getD 0 : Nat) : Int) < 32)) then (guardO (0 ≤ y1 ∧ y1 < ((ByteArray.size a0 : Nat) : Int)) (some ((decide ((126 : Int) < (((((ByteArray.data a0)[Int.toNat y1]?).map UInt8.toNat).getD 0 : Nat) : Int))), h2))) else (some (true, h2))))).bind fun (y3, h4) =>
(bif y3 then (some (.done (.ret false, h4))) else (some (.more ((IntKind.wrap .i64 (y1 + 1)), h4))))) else (some (.done (.ex0 (), h2))))
noncomputable def fact_printable (a0 : ByteArray) (h : H) : Option ((Bool) × H) :=
((iter FUEL (fact_printable.loop1 a0) (0, h)).bind fun (fl6, h5) => match fl6 with
| .next _ => none
| .ret rr7 => (some (rr7, h5))
| .ex0 _ =>
(some (true, h5))
| .ex1 _ => none)
def fact_printable.A : Ann := { lits := [], conds := [], loops := [(2, [6], [.leaf (.int .i64)], [], [], some 0, none)], regs := [(4, [18], [.leaf .bool])] }
theorem fact_printable.eq : ∀ (x : TT [.leaf .str]) (h : H), evalFn Tryz.prog (fact_printable.tb) fact_printable.A Tryz.f103 (.one (.leaf .bool)) (TT.un [.leaf .str] x) h = fact_printable x h := by
  intro x h
  kernel_rfl
noncomputable def fact_printableP (a0 : ByteArray) : Option (Bool) := (fact_printable a0 H.empty).bind fun p => rdRes false p.2 (.one (.leaf .bool)) (Res.un (.one (.leaf .bool)) p.1)
theorem fact_printableP.eq : ∀ x : TT [.leaf .str], ((evalFn Tryz.prog (fact_printable.tb) fact_printable.A Tryz.f103 (.one (.leaf .bool)) (TT.lo false [.leaf .str] x) H.empty).bind fun p => rdRes false p.2 (.one (.leaf .bool)) (Res.un (.one (.leaf .bool)) p.1)) = fact_printableP x := by
  intro x
  rw [show TT.lo false [.leaf .str] x = TT.un [.leaf .str] (x) from rfl, fact_printable.eq]
  rfl
noncomputable def fact_printableP.e : Entry := mkP [.leaf .str] (.one (.leaf .bool)) fun x => fact_printableP x
theorem fact_printableP.ok : EntryOK Tryz.prog 103 (fact_printableP.e) := mkP_ok (fact_printable.tbok) Tryz.mixed Tryz.func103 (by kernel_rfl) fact_printableP.eq
noncomputable def fact_Check_2.tb : Table := tab [(103, fact_printableP.e)] [] Table.nil
theorem fact_Check_2.tbok : TabOK Tryz.prog (fact_Check_2.tb) := TabOK.tab (TabOK.nil Tryz.prog) (all_cons fact_printableP.ok (all_nil _)) (all_nil _)
noncomputable def fact_Check_2 (a0 : ByteArray) (h : H) : Option ((Bool) × H) :=
(((bif !(decide ((64 : Int) < ((ByteArray.size a0 : Nat) : Int))) then ((fact_printableP a0).bind fun r1 =>
(some ((!r1), h))) else (some (true, h)))).bind fun (y2, h3) =>
(some (y2, h3)))
def fact_Check_2.A : Ann := { lits := [], conds := [], loops := [], regs := [(1, [2], [.leaf .bool])] }
theorem fact_Check_2.eq : ∀ (x : TT [.leaf .str]) (h : H), evalFn Tryz.prog (fact_Check_2.tb) fact_Check_2.A Tryz.f102 (.one (.leaf .bool)) (TT.un [.leaf .str] x) h = fact_Check_2 x h := by
  intro x h
  kernel_rfl
noncomputable def fact_Check_2P (a0 : ByteArray) : Option (Bool) := (fact_Check_2 a0 H.empty).bind fun p => rdRes false p.2 (.one (.leaf .bool)) (Res.un (.one (.leaf .bool)) p.1)
theorem fact_Check_2P.eq : ∀ x : TT [.leaf .str], ((evalFn Tryz.prog (fact_Check_2.tb) fact_Check_2.A Tryz.f102 (.one (.leaf .bool)) (TT.lo false [.leaf .str] x) H.empty).bind fun p => rdRes false p.2 (.one (.leaf .bool)) (Res.un (.one (.leaf .bool)) p.1)) = fact_Check_2P x := by
  intro x
  rw [show TT.lo false [.leaf .str] x = TT.un [.leaf .str] (x) from rfl, fact_Check_2.eq]
  rfl
noncomputable def fact_Check_2P.e : Entry := mkP [.leaf .str] (.one (.leaf .bool)) fun x => fact_Check_2P x
theorem fact_Check_2P.ok : EntryOK Tryz.prog 102 (fact_Check_2P.e) := mkP_ok (fact_Check_2.tbok) Tryz.mixed Tryz.func102 (by kernel_rfl) fact_Check_2P.eq
noncomputable def fact_Check.tb : Table := tab [(98, fact_withinP.e)] [(100, fact_Check_1P.e), (102, fact_Check_2P.e)] Table.nil
theorem fact_Check.tbok : TabOK Tryz.prog (fact_Check.tb) := TabOK.tab (TabOK.nil Tryz.prog) (all_cons fact_withinP.ok (all_nil _)) (all_cons fact_Check_1P.ok (all_cons fact_Check_2P.ok (all_nil _)))
noncomputable def fact_Check (a0 : Fsv) (h : H) : Option ((Int) × H) :=
(match a0 with
| (a0_0, a0_1, a0_2, a0_3, a0_4, a0_5) =>
(let h1 : H := H.new h [.int .i64 a0_0, .int .i64 a0_1, .int .i64 a0_2, .int .i64 a0_3, .slice a0_4.a a0_4.len a0_4.cap a0_4.tail, .slice a0_5.a a0_5.len a0_5.cap a0_5.tail] 6
((((rdT (.leaf .slice) h1 (.hp h.next 6 4)).bind fun x2 =>
(bif !(decide ((16 : Int) < ((x2.len : Nat) : Int))) then ((rdT (.leaf .slice) h1 (.hp h.next 6 5)).bind fun x3 =>
(some ((decide ((8 : Int) < ((x3.len : Nat) : Int))), h1))) else (some (true, h1))))).bind fun (y4, h5) =>
(bif y4 then (some (8, h5)) else ((((rdT (.leaf (.int .i64)) h5 (.hp h.next 6 0)).bind fun x6 =>
((fact_withinP x6 0 100000).bind fun r7 =>
(bif !(!r7) then ((rdT (.leaf (.int .i64)) h5 (.hp h.next 6 1)).bind fun x8 =>
((fact_withinP x8 1 1048576).bind fun r9 =>
(bif !(!r9) then ((rdT (.leaf (.int .i64)) h5 (.hp h.next 6 2)).bind fun x10 =>
((fact_withinP x10 1 1073741824).bind fun r11 =>
(bif !(!r11) then ((rdT (.leaf (.int .i64)) h5 (.hp h.next 6 3)).bind fun x12 =>
((fact_withinP x12 1 99).bind fun r13 =>
(some ((!r13), h5)))) else (some (true, h5))))) else (some (true, h5))))) else (some (true, h5)))))).bind fun (y14, h15) =>
(bif y14 then (some (2, h15)) else ((rdT (.leaf .slice) h15 (.hp h.next 6 4)).bind fun x16 =>
((slices_ContainsFunc_int_int fact_Check.tb x16 (.func 100 [] : V) h15).bind fun (r17, h18) =>
(bif r17 then (some (2, h18)) else ((rdT (.leaf .slice) h18 (.hp h.next 6 5)).bind fun x19 =>
((slices_ContainsFunc_string_string fact_Check.tb x19 (.func 102 [] : V) h18).bind fun (r20, h21) =>
(bif r20 then (some (4, h21)) else (some (0, h21))))))))))))))
def fact_Check.A : Ann := { lits := [], conds := [], loops := [], regs := [(1, [12], [.leaf .bool]), (3, [37], [.leaf .bool])] }
noncomputable def fact_Check.tc : Table := tab [(99, slices_ContainsFunc_int_int.e (fact_Check.tb)), (101, slices_ContainsFunc_string_string.e (fact_Check.tb))] [] (fact_Check.tb)
theorem fact_Check.tcok : TabOK Tryz.prog (fact_Check.tc) := TabOK.tab (fact_Check.tbok) (all_cons (slices_ContainsFunc_int_int.ok _ (fact_Check.tbok)) (all_cons (slices_ContainsFunc_string_string.ok _ (fact_Check.tbok)) (all_nil _))) (all_nil _)
theorem fact_Check.eq : ∀ (x : TT [.agg FS]) (h : H), evalFn Tryz.prog (fact_Check.tc) fact_Check.A Tryz.f68 (.one (.leaf (.int .i64))) (TT.un [.agg FS] x) h = fact_Check x h := by
  intro x h
  kernel_rfl
noncomputable def fact_CheckP (a0 : Fct) : Option (Int) := (fact_Check (a0.1, a0.2.1, a0.2.2.1, a0.2.2.2.1, rowSV false [.int .i64] a0.2.2.2.2.1, rowSV false [.str] a0.2.2.2.2.2) H.empty).bind fun p => rdRes false p.2 (.one (.leaf (.int .i64))) (Res.un (.one (.leaf (.int .i64))) p.1)
theorem fact_CheckP.eq : ∀ x : TT [.agg FC], ((evalFn Tryz.prog (fact_Check.tc) fact_Check.A Tryz.f68 (.one (.leaf (.int .i64))) (TT.lo false [.agg FC] x) H.empty).bind fun p => rdRes false p.2 (.one (.leaf (.int .i64))) (Res.un (.one (.leaf (.int .i64))) p.1)) = fact_CheckP x := by
  intro x
  rw [show TT.lo false [.agg FC] x = TT.un [.agg FS] ((x.1, x.2.1, x.2.2.1, x.2.2.2.1, rowSV false [.int .i64] x.2.2.2.2.1, rowSV false [.str] x.2.2.2.2.2)) from rfl, fact_Check.eq]
  rfl
noncomputable def fact_CheckP.e : Entry := mkP [.agg FC] (.one (.leaf (.int .i64))) fun x => fact_CheckP x
theorem fact_CheckP.ok : EntryOK Tryz.prog 68 (fact_CheckP.e) := mkP_ok (fact_Check.tcok) Tryz.mixed Tryz.func68 (by kernel_rfl) fact_CheckP.eq
noncomputable def arrival_check_1.tb : Table := tab [(68, fact_CheckP.e)] [] Table.nil
theorem arrival_check_1.tbok : TabOK Tryz.prog (arrival_check_1.tb) := TabOK.tab (TabOK.nil Tryz.prog) (all_cons fact_CheckP.ok (all_nil _)) (all_nil _)
noncomputable def arrival_check_1 (a0 : Fsv) (h : H) : Option ((Bool) × H) :=
(match a0 with
| (a0_0, a0_1, a0_2, a0_3, a0_4, a0_5) =>
(let h1 : H := H.new h [.int .i64 a0_0, .int .i64 a0_1, .int .i64 a0_2, .int .i64 a0_3, .slice a0_4.a a0_4.len a0_4.cap a0_4.tail, .slice a0_5.a a0_5.len a0_5.cap a0_5.tail] 6
((rdT (.agg FS) h1 (.hp h.next 6 0)).bind fun (x2_0, x2_1, x2_2, x2_3, x2_4, x2_5) =>
((rdRow true h1 [.int .i64] x2_4).bind fun s4 =>
((rdRow true h1 [.str] x2_5).bind fun s5 =>
((fact_CheckP (x2_0, x2_1, x2_2, x2_3, s4, s5)).bind fun r3 =>
(some ((!(decide (r3 = 0))), h1))))))))
def arrival_check_1.A : Ann := { lits := [], conds := [], loops := [], regs := [] }
theorem arrival_check_1.eq : ∀ (x : TT [.agg FS]) (h : H), evalFn Tryz.prog (arrival_check_1.tb) arrival_check_1.A Tryz.f88 (.one (.leaf .bool)) (TT.un [.agg FS] x) h = arrival_check_1 x h := by
  intro x h
  kernel_rfl
noncomputable def arrival_check_1P (a0 : Fct) : Option (Bool) := (arrival_check_1 (a0.1, a0.2.1, a0.2.2.1, a0.2.2.2.1, rowSV false [.int .i64] a0.2.2.2.2.1, rowSV false [.str] a0.2.2.2.2.2) H.empty).bind fun p => rdRes false p.2 (.one (.leaf .bool)) (Res.un (.one (.leaf .bool)) p.1)
theorem arrival_check_1P.eq : ∀ x : TT [.agg FC], ((evalFn Tryz.prog (arrival_check_1.tb) arrival_check_1.A Tryz.f88 (.one (.leaf .bool)) (TT.lo false [.agg FC] x) H.empty).bind fun p => rdRes false p.2 (.one (.leaf .bool)) (Res.un (.one (.leaf .bool)) p.1)) = arrival_check_1P x := by
  intro x
  rw [show TT.lo false [.agg FC] x = TT.un [.agg FS] ((x.1, x.2.1, x.2.2.1, x.2.2.2.1, rowSV false [.int .i64] x.2.2.2.2.1, rowSV false [.str] x.2.2.2.2.2)) from rfl, arrival_check_1.eq]
  rfl
noncomputable def arrival_check_1P.e : Entry := mkP [.agg FC] (.one (.leaf .bool)) fun x => arrival_check_1P x
theorem arrival_check_1P.ok : EntryOK Tryz.prog 88 (arrival_check_1P.e) := mkP_ok (arrival_check_1.tbok) Tryz.mixed Tryz.func88 (by kernel_rfl) arrival_check_1P.eq
noncomputable def arrival_check.tb : Table := tab [] [(88, arrival_check_1P.e)] Table.nil
theorem arrival_check.tbok : TabOK Tryz.prog (arrival_check.tb) := TabOK.tab (TabOK.nil Tryz.prog) (all_nil _) (all_cons arrival_check_1P.ok (all_nil _))
noncomputable def arrival_check (a0 : SV) (h : H) : Option ((Int) × H) :=
(bif (decide ((1024 : Int) < ((a0.len : Nat) : Int))) then (some (8, h)) else ((slices_ContainsFunc_F2 arrival_check.tb a0 (.func 88 [] : V) h).bind fun (r1, h2) =>
(bif r1 then (some (1, h2)) else (some (0, h2)))))
def arrival_check.A : Ann := { lits := [], conds := [], loops := [], regs := [] }
noncomputable def arrival_check.tc : Table := tab [(31, slices_ContainsFunc_F2.e (arrival_check.tb))] [] (arrival_check.tb)
theorem arrival_check.tcok : TabOK Tryz.prog (arrival_check.tc) := TabOK.tab (arrival_check.tbok) (all_cons (slices_ContainsFunc_F2.ok _ (arrival_check.tbok)) (all_nil _)) (all_nil _)
theorem arrival_check.eq : ∀ (x : TT [.leaf .slice]) (h : H), evalFn Tryz.prog (arrival_check.tc) arrival_check.A Tryz.f52 (.one (.leaf (.int .i64))) (TT.un [.leaf .slice] x) h = arrival_check x h := by
  intro x h
  kernel_rfl
noncomputable def arrival_checkP (a0 : (List Fct)) : Option (Int) := (arrival_check (rowSV false FC a0) H.empty).bind fun p => rdRes false p.2 (.one (.leaf (.int .i64))) (Res.un (.one (.leaf (.int .i64))) p.1)
theorem arrival_checkP.eq : ∀ x : TT [.leaf (.row FC)], ((evalFn Tryz.prog (arrival_check.tc) arrival_check.A Tryz.f52 (.one (.leaf (.int .i64))) (TT.lo false [.leaf (.row FC)] x) H.empty).bind fun p => rdRes false p.2 (.one (.leaf (.int .i64))) (Res.un (.one (.leaf (.int .i64))) p.1)) = arrival_checkP x := by
  intro x
  rw [show TT.lo false [.leaf (.row FC)] x = TT.un [.leaf .slice] ((rowSV false FC x)) from rfl, arrival_check.eq]
  rfl
noncomputable def arrival_checkP.e : Entry := mkP [.leaf (.row FC)] (.one (.leaf (.int .i64))) fun x => arrival_checkP x
theorem arrival_checkP.ok : EntryOK Tryz.prog 52 (arrival_checkP.e) := mkP_ok (arrival_check.tcok) Tryz.mixed Tryz.func52 (by kernel_rfl) arrival_checkP.eq
noncomputable def arrival_corrects.tb : Table := tab [] [] Table.nil
theorem arrival_corrects.tbok : TabOK Tryz.prog (arrival_corrects.tb) := TabOK.tab (TabOK.nil Tryz.prog) (all_nil _) (all_nil _)
noncomputable def arrival_corrects (a0 : Fsv) (h : H) : Option ((Bool) × H) :=
(match a0 with
| (a0_0, a0_1, a0_2, a0_3, a0_4, a0_5) =>
(let h1 : H := H.new h [.int .i64 a0_0, .int .i64 a0_1, .int .i64 a0_2, .int .i64 a0_3, .slice a0_4.a a0_4.len a0_4.cap a0_4.tail, .slice a0_5.a a0_5.len a0_5.cap a0_5.tail] 6
((((rdT (.leaf (.int .i64)) h1 (.hp h.next 6 3)).bind fun x2 =>
(bif !(decide (x2 = 90)) then ((rdT (.leaf (.int .i64)) h1 (.hp h.next 6 3)).bind fun x3 =>
(some ((decide (x3 = 91)), h1))) else (some (true, h1))))).bind fun (y4, h5) =>
(some (y4, h5)))))
def arrival_corrects.A : Ann := { lits := [], conds := [], loops := [], regs := [(1, [2], [.leaf .bool])] }
theorem arrival_corrects.eq : ∀ (x : TT [.agg FS]) (h : H), evalFn Tryz.prog (arrival_corrects.tb) arrival_corrects.A Tryz.f54 (.one (.leaf .bool)) (TT.un [.agg FS] x) h = arrival_corrects x h := by
  intro x h
  kernel_rfl
noncomputable def arrival_correctsP (a0 : Fct) : Option (Bool) := (arrival_corrects (a0.1, a0.2.1, a0.2.2.1, a0.2.2.2.1, rowSV false [.int .i64] a0.2.2.2.2.1, rowSV false [.str] a0.2.2.2.2.2) H.empty).bind fun p => rdRes false p.2 (.one (.leaf .bool)) (Res.un (.one (.leaf .bool)) p.1)
theorem arrival_correctsP.eq : ∀ x : TT [.agg FC], ((evalFn Tryz.prog (arrival_corrects.tb) arrival_corrects.A Tryz.f54 (.one (.leaf .bool)) (TT.lo false [.agg FC] x) H.empty).bind fun p => rdRes false p.2 (.one (.leaf .bool)) (Res.un (.one (.leaf .bool)) p.1)) = arrival_correctsP x := by
  intro x
  rw [show TT.lo false [.agg FC] x = TT.un [.agg FS] ((x.1, x.2.1, x.2.2.1, x.2.2.2.1, rowSV false [.int .i64] x.2.2.2.2.1, rowSV false [.str] x.2.2.2.2.2)) from rfl, arrival_corrects.eq]
  rfl
noncomputable def arrival_correctsP.e : Entry := mkP [.agg FC] (.one (.leaf .bool)) fun x => arrival_correctsP x
theorem arrival_correctsP.ok : EntryOK Tryz.prog 54 (arrival_correctsP.e) := mkP_ok (arrival_corrects.tbok) Tryz.mixed Tryz.func54 (by kernel_rfl) arrival_correctsP.eq
noncomputable def slices_Clone_int_int.tb : Table := tab [] [] Table.nil
theorem slices_Clone_int_int.tbok : TabOK Tryz.prog (slices_Clone_int_int.tb) := TabOK.tab (TabOK.nil Tryz.prog) (all_nil _) (all_nil _)
noncomputable def slices_Clone_int_int (a0 : SV) (h : H) : Option ((SV) × H) :=
(bif !(V.mayNil (a0.a : V)) then (bif (!(V.nn (a0.a : V))) then (some (⟨.nil, 0, 0, false⟩, h)) else ((cellsOf h (.slice a0.a a0.len a0.cap a0.tail : V) 1).bind fun (n3, cs3) =>
((appendS h none 1 8 (⟨.lp true ([]) 0, 0, 0, false⟩) cs3 n3).bind fun (s3, h2) =>
(some (s3, h2))))) else none)
def slices_Clone_int_int.A : Ann := { lits := [], conds := [], loops := [], regs := [] }
theorem slices_Clone_int_int.eq : ∀ (x : TT [.leaf .slice]) (h : H), evalFn Tryz.prog (slices_Clone_int_int.tb) slices_Clone_int_int.A Tryz.f46 (.one (.leaf .slice)) (TT.un [.leaf .slice] x) h = slices_Clone_int_int x h := by
  intro x h
  kernel_rfl
noncomputable def slices_Clone_int_int.e : Entry := mkX [.leaf .slice] (.one (.leaf .slice)) (cloneX 1 8)
theorem slices_Clone_int_int.ok : EntryOK Tryz.prog 46 slices_Clone_int_int.e := cloneX_ok (g := slices_Clone_int_int) (mkX_ok (slices_Clone_int_int.tbok) Tryz.mixed Tryz.func46 (by kernel_rfl) (slices_Clone_int_int.eq)) (fun s h => by kernel_rfl)
noncomputable def slices_Clone_int_intP.e : Entry := mkP [.leaf (.row [.int .i64])] (.one (.leaf (.row [.int .i64]))) (cloneP 8)
theorem slices_Clone_int_intP.ok : EntryOK Tryz.prog 46 slices_Clone_int_intP.e := cloneP_ok slices_Clone_int_int.ok rfl (by omega) rfl
noncomputable def slices_Clone_string_string.tb : Table := tab [] [] Table.nil
theorem slices_Clone_string_string.tbok : TabOK Tryz.prog (slices_Clone_string_string.tb) := TabOK.tab (TabOK.nil Tryz.prog) (all_nil _) (all_nil _)
noncomputable def slices_Clone_string_string (a0 : SV) (h : H) : Option ((SV) × H) :=
(bif !(V.mayNil (a0.a : V)) then (bif (!(V.nn (a0.a : V))) then (some (⟨.nil, 0, 0, false⟩, h)) else ((cellsOf h (.slice a0.a a0.len a0.cap a0.tail : V) 1).bind fun (n3, cs3) =>
((appendS h none 1 16 (⟨.lp true ([]) 0, 0, 0, false⟩) cs3 n3).bind fun (s3, h2) =>
(some (s3, h2))))) else none)
def slices_Clone_string_string.A : Ann := { lits := [], conds := [], loops := [], regs := [] }
theorem slices_Clone_string_string.eq : ∀ (x : TT [.leaf .slice]) (h : H), evalFn Tryz.prog (slices_Clone_string_string.tb) slices_Clone_string_string.A Tryz.f47 (.one (.leaf .slice)) (TT.un [.leaf .slice] x) h = slices_Clone_string_string x h := by
  intro x h
  kernel_rfl
noncomputable def slices_Clone_string_string.e : Entry := mkX [.leaf .slice] (.one (.leaf .slice)) (cloneX 1 16)
theorem slices_Clone_string_string.ok : EntryOK Tryz.prog 47 slices_Clone_string_string.e := cloneX_ok (g := slices_Clone_string_string) (mkX_ok (slices_Clone_string_string.tbok) Tryz.mixed Tryz.func47 (by kernel_rfl) (slices_Clone_string_string.eq)) (fun s h => by kernel_rfl)
noncomputable def slices_Clone_string_stringP.e : Entry := mkP [.leaf (.row [.str])] (.one (.leaf (.row [.str]))) (cloneP 16)
theorem slices_Clone_string_stringP.ok : EntryOK Tryz.prog 47 slices_Clone_string_stringP.e := cloneP_ok slices_Clone_string_string.ok rfl (by omega) rfl
noncomputable def arrival_target.tb : Table := tab [(46, slices_Clone_int_intP.e), (47, slices_Clone_string_stringP.e), (54, arrival_correctsP.e), (68, fact_CheckP.e)] [] Table.nil
theorem arrival_target.tbok : TabOK Tryz.prog (arrival_target.tb) := TabOK.tab (TabOK.nil Tryz.prog) (all_cons slices_Clone_int_intP.ok (all_cons slices_Clone_string_stringP.ok (all_cons arrival_correctsP.ok (all_cons fact_CheckP.ok (all_nil _))))) (all_nil _)
noncomputable def arrival_target (a0 : Fsv) (h : H) : Option ((Fsv × Bool) × H) :=
(match a0 with
| (a0_0, a0_1, a0_2, a0_3, a0_4, a0_5) =>
(let h1 : H := H.new h [.int .i64 a0_0, .int .i64 a0_1, .int .i64 a0_2, .int .i64 a0_3, .slice a0_4.a a0_4.len a0_4.cap a0_4.tail, .slice a0_5.a a0_5.len a0_5.cap a0_5.tail] 6
(let h2 : H := H.new h1 [.int .i64 0, .int .i64 0, .int .i64 0, .int .i64 0, .slice .nil 0 0 false, .slice .nil 0 0 false] 6
((rdT (.leaf .slice) h2 (.hp h.next 6 4)).bind fun x3 =>
((rdT (.leaf (.int .i64)) h2 (.hp h.next 6 3)).bind fun x4 =>
(((bif (decide (x4 = 91)) then (bif !(!(decide (((x3.len : Nat) : Int) = 3))) then ((rdT (.leaf .slice) h2 (.hp h.next 6 5)).bind fun x5 =>
(bif !(decide ((0 : Int) < ((x5.len : Nat) : Int))) then (bif (!(decide (x4 = 91))) then (some ((decide (((x3.len : Nat) : Int) < 4)), h2)) else (some (false, h2))) else (some (true, h2)))) else (some (true, h2))) else (bif (!(decide (x4 = 91))) then (some ((decide (((x3.len : Nat) : Int) < 4)), h2)) else (some (false, h2))))).bind fun (y6, h7) =>
(bif y6 then ((H.wrs h7 (.hp h1.next 6 0) [.int .i64 0, .int .i64 0, .int .i64 0, .int .i64 0, .slice .nil 0 0 false, .slice .nil 0 0 false]).bind fun h8 =>
((rdT (.agg FS) h8 (.hp h1.next 6 0 : V)).bind fun (x9_0, x9_1, x9_2, x9_3, x9_4, x9_5) =>
(some (((x9_0, x9_1, x9_2, x9_3, x9_4, x9_5), false), h8)))) else (let h10 : H := H.reserve h7 1
(guardO (0 ≤ (0 : Int) ∧ 0 < ((x3.len : Nat) : Int)) ((rdT (.leaf (.int .i64)) h10 (V.add x3.a 0)).bind fun x11 =>
(guardO (0 ≤ (1 : Int) ∧ 1 < ((x3.len : Nat) : Int)) ((rdT (.leaf (.int .i64)) h10 (V.add x3.a 1)).bind fun x12 =>
(guardO (0 ≤ (2 : Int) ∧ 2 < ((x3.len : Nat) : Int)) ((rdT (.leaf (.int .i64)) h10 (V.add x3.a 2)).bind fun x13 =>
(let h14 : H := H.put h10 h7.next (.own [.int .i64 0, .int .i64 0, .int .i64 0, .int .i64 0, .slice .nil 0 0 false, .slice .nil 0 0 false] 6)
((H.wrs h14 (.hp h7.next 6 0) [.int .i64 x11, .int .i64 x12, .int .i64 x13, .int .i64 1, .slice .nil 0 0 false, .slice .nil 0 0 false]).bind fun h15 =>
(guardO (apartA ((V.add x3.a 0) : V) (.hp h7.next 0 0 : V) = true) (guardO (apartA ((V.add x3.a 1) : V) (.hp h7.next 0 0 : V) = true) (guardO (apartA ((V.add x3.a 2) : V) (.hp h7.next 0 0 : V) = true) ((bif (!(decide (x4 = 91))) then (let h16 : H := H.reserve h15 0
(guardO (0 ≤ (3 : Int) ∧ 3 < ((x3.len : Nat) : Int)) ((rdT (.leaf (.int .i64)) h16 (V.add x3.a 3)).bind fun x17 =>
(guardO ((0 : Int) ≤ 4 ∧ (4 : Int) ≤ ((x3.len : Nat) : Int) ∧ ((x3.len : Nat) : Int) ≤ ((x3.cap : Nat) : Int)) ((rdRow true h16 [.int .i64] ⟨(V.add x3.a ((Int.toNat 4) * 1)), ((Int.toNat ((x3.len : Nat) : Int)) - (Int.toNat 4)), (x3.cap - (Int.toNat 4)), x3.tail⟩).bind fun s19 =>
((cloneP 8 s19).bind fun r18 =>
((rdT (.leaf .slice) h16 (.hp h.next 6 5)).bind fun x20 =>
((rdRow true h16 [.str] x20).bind fun s22 =>
((cloneP 16 s22).bind fun r21 =>
((H.wrs h16 (.hp h7.next 6 3) [.int .i64 x17]).bind fun h23 =>
((H.wrs h23 (.hp h7.next 6 4) [.slice ((rowSV true [.int .i64] r18).a) r18.length r18.length true]).bind fun h24 =>
((H.wrs h24 (.hp h7.next 6 5) [.slice ((rowSV true [.str] r21).a) r21.length r21.length true]).bind fun h25 =>
(some (.next (), h25)))))))))))))) else (some (.next (), h15)) : Option (Flow (Unit) (Fsv × Bool) × H)).bind fun (fl27, h26) => match fl27 with
| .next _ =>
(((let h28 : H := H.reserve h26 0
((rdT (.agg FS) h28 (.hp h7.next 6 0)).bind fun (x29_0, x29_1, x29_2, x29_3, x29_4, x29_5) =>
((rdT (.agg FS) h28 (.hp h7.next 6 0)).bind fun (x30_0, x30_1, x30_2, x30_3, x30_4, x30_5) =>
((rdRow true h28 [.int .i64] x30_4).bind fun s32 =>
((rdRow true h28 [.str] x30_5).bind fun s33 =>
((fact_CheckP (x30_0, x30_1, x30_2, x30_3, s32, s33)).bind fun r31 =>
(bif (decide (r31 = 0)) then ((rdT (.agg FS) h28 (.hp h7.next 6 0)).bind fun (x34_0, x34_1, x34_2, x34_3, x34_4, x34_5) =>
((rdRow true h28 [.int .i64] x34_4).bind fun s36 =>
((rdRow true h28 [.str] x34_5).bind fun s37 =>
((arrival_correctsP (x34_0, x34_1, x34_2, x34_3, s36, s37)).bind fun r35 =>
((H.wrs h28 (.hp h1.next 6 0) [.int .i64 x29_0, .int .i64 x29_1, .int .i64 x29_2, .int .i64 x29_3, .slice x29_4.a x29_4.len x29_4.cap x29_4.tail, .slice x29_5.a x29_5.len x29_5.cap x29_5.tail]).bind fun h38 =>
(some ((!r35), h38))))))) else ((H.wrs h28 (.hp h1.next 6 0) [.int .i64 x29_0, .int .i64 x29_1, .int .i64 x29_2, .int .i64 x29_3, .slice x29_4.a x29_4.len x29_4.cap x29_4.tail, .slice x29_5.a x29_5.len x29_5.cap x29_5.tail]).bind fun h39 =>
(some (false, h39))))))))))).bind fun (y40, h41) =>
((rdT (.agg FS) h41 (.hp h1.next 6 0 : V)).bind fun (x42_0, x42_1, x42_2, x42_3, x42_4, x42_5) =>
(some (((x42_0, x42_1, x42_2, x42_3, x42_4, x42_5), y40), h41))))
| .ret rr43 => (some (rr43, h26))
| .ex0 _ => none
| .ex1 _ => none))))))))))))))))))))
def arrival_target.A : Ann := { lits := [], conds := [(46, [], [], none, none)], loops := [], regs := [(3, [32], [.leaf .bool]), (8, [3], [.leaf .bool])] }
theorem arrival_target.eq : ∀ (x : TT [.agg FS]) (h : H), evalFn Tryz.prog (arrival_target.tb) arrival_target.A Tryz.f55 (.many [.agg FS, .leaf .bool]) (TT.un [.agg FS] x) h = arrival_target x h := by
  intro x h
  kernel_rfl
noncomputable def arrival_targetP (a0 : Fct) : Option (Fct × Bool) := (arrival_target (a0.1, a0.2.1, a0.2.2.1, a0.2.2.2.1, rowSV false [.int .i64] a0.2.2.2.2.1, rowSV false [.str] a0.2.2.2.2.2) H.empty).bind fun p => rdRes false p.2 (.many [.agg FC, .leaf .bool]) (Res.un (.many [.agg FS, .leaf .bool]) p.1)
theorem arrival_targetP.eq : ∀ x : TT [.agg FC], ((evalFn Tryz.prog (arrival_target.tb) arrival_target.A Tryz.f55 (.many [.agg FS, .leaf .bool]) (TT.lo false [.agg FC] x) H.empty).bind fun p => rdRes false p.2 (.many [.agg FC, .leaf .bool]) (Res.un (.many [.agg FS, .leaf .bool]) p.1)) = arrival_targetP x := by
  intro x
  rw [show TT.lo false [.agg FC] x = TT.un [.agg FS] ((x.1, x.2.1, x.2.2.1, x.2.2.2.1, rowSV false [.int .i64] x.2.2.2.2.1, rowSV false [.str] x.2.2.2.2.2)) from rfl, arrival_target.eq]
  rfl
noncomputable def arrival_targetP.e : Entry := mkP [.agg FC] (.many [.agg FC, .leaf .bool]) fun x => arrival_targetP x
theorem arrival_targetP.ok : EntryOK Tryz.prog 55 (arrival_targetP.e) := mkP_ok (arrival_target.tbok) Tryz.mixed Tryz.func55 (by kernel_rfl) arrival_targetP.eq
noncomputable def arrival_same.tb : Table := tab [(33, fact_CompareP.e)] [] Table.nil
theorem arrival_same.tbok : TabOK Tryz.prog (arrival_same.tb) := TabOK.tab (TabOK.nil Tryz.prog) (all_cons fact_CompareP.ok (all_nil _)) (all_nil _)
noncomputable def arrival_same (a0 : Fsv) (a1 : Fsv) (h : H) : Option ((Bool) × H) :=
(match a0 with
| (a0_0, a0_1, a0_2, a0_3, a0_4, a0_5) =>
(match a1 with
| (a1_0, a1_1, a1_2, a1_3, a1_4, a1_5) =>
(let h1 : H := H.new h [.int .i64 a0_0, .int .i64 a0_1, .int .i64 a0_2, .int .i64 a0_3, .slice a0_4.a a0_4.len a0_4.cap a0_4.tail, .slice a0_5.a a0_5.len a0_5.cap a0_5.tail] 6
(let h2 : H := H.new h1 [.int .i64 a1_0, .int .i64 a1_1, .int .i64 a1_2, .int .i64 a1_3, .slice a1_4.a a1_4.len a1_4.cap a1_4.tail, .slice a1_5.a a1_5.len a1_5.cap a1_5.tail] 6
((rdT (.agg FS) h2 (.hp h.next 6 0)).bind fun (x3_0, x3_1, x3_2, x3_3, x3_4, x3_5) =>
((rdT (.agg FS) h2 (.hp h1.next 6 0)).bind fun (x4_0, x4_1, x4_2, x4_3, x4_4, x4_5) =>
((rdRow true h2 [.int .i64] x3_4).bind fun s6 =>
((rdRow true h2 [.str] x3_5).bind fun s7 =>
((rdRow true h2 [.int .i64] x4_4).bind fun s8 =>
((rdRow true h2 [.str] x4_5).bind fun s9 =>
((fact_CompareP (x3_0, x3_1, x3_2, x3_3, s6, s7) (x4_0, x4_1, x4_2, x4_3, s8, s9)).bind fun r5 =>
(some ((decide (r5 = 0)), h2)))))))))))))
def arrival_same.A : Ann := { lits := [], conds := [], loops := [], regs := [] }
theorem arrival_same.eq : ∀ (x : TT [.agg FS, .agg FS]) (h : H), evalFn Tryz.prog (arrival_same.tb) arrival_same.A Tryz.f70 (.one (.leaf .bool)) (TT.un [.agg FS, .agg FS] x) h = arrival_same x.1 x.2 h := by
  intro x h
  kernel_rfl
noncomputable def arrival_sameP (a0 : Fct) (a1 : Fct) : Option (Bool) := (arrival_same (a0.1, a0.2.1, a0.2.2.1, a0.2.2.2.1, rowSV false [.int .i64] a0.2.2.2.2.1, rowSV false [.str] a0.2.2.2.2.2) (a1.1, a1.2.1, a1.2.2.1, a1.2.2.2.1, rowSV false [.int .i64] a1.2.2.2.2.1, rowSV false [.str] a1.2.2.2.2.2) H.empty).bind fun p => rdRes false p.2 (.one (.leaf .bool)) (Res.un (.one (.leaf .bool)) p.1)
theorem arrival_sameP.eq : ∀ x : TT [.agg FC, .agg FC], ((evalFn Tryz.prog (arrival_same.tb) arrival_same.A Tryz.f70 (.one (.leaf .bool)) (TT.lo false [.agg FC, .agg FC] x) H.empty).bind fun p => rdRes false p.2 (.one (.leaf .bool)) (Res.un (.one (.leaf .bool)) p.1)) = arrival_sameP x.1 x.2 := by
  intro x
  rw [show TT.lo false [.agg FC, .agg FC] x = TT.un [.agg FS, .agg FS] ((x.1.1, x.1.2.1, x.1.2.2.1, x.1.2.2.2.1, rowSV false [.int .i64] x.1.2.2.2.2.1, rowSV false [.str] x.1.2.2.2.2.2), (x.2.1, x.2.2.1, x.2.2.2.1, x.2.2.2.2.1, rowSV false [.int .i64] x.2.2.2.2.2.1, rowSV false [.str] x.2.2.2.2.2.2)) from rfl, arrival_same.eq]
  rfl
noncomputable def arrival_sameP.e : Entry := mkP [.agg FC, .agg FC] (.one (.leaf .bool)) fun x => arrival_sameP x.1 x.2
theorem arrival_sameP.ok : EntryOK Tryz.prog 70 (arrival_sameP.e) := mkP_ok (arrival_same.tbok) Tryz.mixed Tryz.func70 (by kernel_rfl) arrival_sameP.eq
noncomputable def slices_CompactFunc_F2.tb (T : Table) : Table := tab [] [] T
theorem slices_CompactFunc_F2.tbok (T : Table) (hT : TabOK Tryz.prog T) : TabOK Tryz.prog (slices_CompactFunc_F2.tb T) := TabOK.tab (hT) (all_nil _) (all_nil _)
noncomputable def slices_CompactFunc_F2.loop1 (T : Table) (a0 : SV) (a1 : V) (y1 : Int) : (Int × Int) × H → Option (Stp ((Int × Int) × H) (Flow (Int) (SV) × H)) := fun ((y9, y10), h11) =>
(bif (decide (y10 < ((((Int.toNat ((a0.len : Nat) : Int)) - (Int.toNat y1)) : Nat) : Int))) then (let h12 : H := H.reserve h11 0
(guardO (0 ≤ y10 ∧ y10 < ((((Int.toNat ((a0.len : Nat) : Int)) - (Int.toNat y1)) : Nat) : Int)) ((rdT (.agg FS) h12 (V.add (V.add a0.a ((Int.toNat y1) * 6)) (Int.toNat y10 * 6))).bind fun (x13_0, x13_1, x13_2, x13_3, x13_4, x13_5) =>
(guardO (0 ≤ (IntKind.wrap .i64 (y10 - 1)) ∧ (IntKind.wrap .i64 (y10 - 1)) < ((((Int.toNat ((a0.len : Nat) : Int)) - (Int.toNat y1)) : Nat) : Int)) ((rdT (.agg FS) h12 (V.add (V.add a0.a ((Int.toNat y1) * 6)) (Int.toNat (IntKind.wrap .i64 (y10 - 1)) * 6))).bind fun (x14_0, x14_1, x14_2, x14_3, x14_4, x14_5) =>
(callV T.dy a1 [.agg [.int .i64 x13_0, .int .i64 x13_1, .int .i64 x13_2, .int .i64 x13_3, .slice x13_4.a x13_4.len x13_4.cap x13_4.tail, .slice x13_5.a x13_5.len x13_5.cap x13_5.tail], .agg [.int .i64 x14_0, .int .i64 x14_1, .int .i64 x14_2, .int .i64 x14_3, .slice x14_4.a x14_4.len x14_4.cap x14_4.tail, .slice x14_5.a x14_5.len x14_5.cap x14_5.tail]] h12 fun v15 h16 =>
(Res.pack (.one (.leaf .bool)) v15).bind fun r17 =>
((bif (!r17) then (guardO (0 ≤ y10 ∧ y10 < ((((Int.toNat ((a0.len : Nat) : Int)) - (Int.toNat y1)) : Nat) : Int)) ((rdT (.agg FS) h16 (V.add (V.add a0.a ((Int.toNat y1) * 6)) (Int.toNat y10 * 6))).bind fun (x18_0, x18_1, x18_2, x18_3, x18_4, x18_5) =>
(guardO (0 ≤ y9 ∧ y9 < ((a0.len : Nat) : Int)) ((H.wrs h16 (V.add a0.a (Int.toNat y9 * 6)) [.int .i64 x18_0, .int .i64 x18_1, .int .i64 x18_2, .int .i64 x18_3, .slice x18_4.a x18_4.len x18_4.cap x18_4.tail, .slice x18_5.a x18_5.len x18_5.cap x18_5.tail]).bind fun h19 =>
(some (.next (IntKind.wrap .i64 (y9 + 1)), h19)))))) else (some (.next y9, h16)) : Option (Flow (Int) (SV) × H)).bind fun (fl21, h20) => match fl21 with
| .next y22 =>
(some (.more ((y22, (IntKind.wrap .i64 (y10 + 1))), h20)))
| .ret rr23 => (some (.done (.ret rr23, h20)))
| .ex0 _ => none
| .ex1 _ => none))))))) else (some (.done (.ex0 y9, h11))))
noncomputable def slices_CompactFunc_F2.loop2 (T : Table) (a0 : SV) (a1 : V) : (Int) × H → Option (Stp ((Int) × H) (Flow (Unit) (SV) × H)) := fun (y1, h2) =>
(bif (decide (y1 < ((a0.len : Nat) : Int))) then (let h3 : H := H.reserve h2 0
(guardO (0 ≤ y1 ∧ y1 < ((a0.len : Nat) : Int)) ((rdT (.agg FS) h3 (V.add a0.a (Int.toNat y1 * 6))).bind fun (x4_0, x4_1, x4_2, x4_3, x4_4, x4_5) =>
(guardO (0 ≤ (IntKind.wrap .i64 (y1 - 1)) ∧ (IntKind.wrap .i64 (y1 - 1)) < ((a0.len : Nat) : Int)) ((rdT (.agg FS) h3 (V.add a0.a (Int.toNat (IntKind.wrap .i64 (y1 - 1)) * 6))).bind fun (x5_0, x5_1, x5_2, x5_3, x5_4, x5_5) =>
(callV T.dy a1 [.agg [.int .i64 x4_0, .int .i64 x4_1, .int .i64 x4_2, .int .i64 x4_3, .slice x4_4.a x4_4.len x4_4.cap x4_4.tail, .slice x4_5.a x4_5.len x4_5.cap x4_5.tail], .agg [.int .i64 x5_0, .int .i64 x5_1, .int .i64 x5_2, .int .i64 x5_3, .slice x5_4.a x5_4.len x5_4.cap x5_4.tail, .slice x5_5.a x5_5.len x5_5.cap x5_5.tail]] h3 fun v6 h7 =>
(Res.pack (.one (.leaf .bool)) v6).bind fun r8 =>
(bif r8 then (guardO ((0 : Int) ≤ y1 ∧ y1 ≤ ((a0.len : Nat) : Int) ∧ ((a0.len : Nat) : Int) ≤ ((a0.cap : Nat) : Int)) ((iter FUEL (slices_CompactFunc_F2.loop1 T a0 a1 y1) ((y1, 1), h7)).bind fun (fl25, h24) => match fl25 with
| .next _ => none
| .ret rr26 => (some (.done (.ret rr26, h24)))
| .ex0 y27 =>
(guardO ((0 : Int) ≤ y27 ∧ y27 ≤ ((a0.len : Nat) : Int) ∧ ((a0.len : Nat) : Int) ≤ ((a0.cap : Nat) : Int)) ((clearH h24 ((V.add a0.a ((Int.toNat y27) * 6)) : V) [.int .i64 0, .int .i64 0, .int .i64 0, .int .i64 0, .slice .nil 0 0 false, .slice .nil 0 0 false] ((Int.toNat ((a0.len : Nat) : Int)) - (Int.toNat y27))).bind fun h28 =>
(guardO ((0 : Int) ≤ 0 ∧ (0 : Int) ≤ y27 ∧ y27 ≤ ((a0.cap : Nat) : Int)) (some (.done (.ret ⟨(V.add a0.a 0), ((Int.toNat y27) - Int.toNat 0), (a0.cap - Int.toNat 0), a0.tail⟩, h28))))))
| .ex1 _ => none)) else (some (.more ((IntKind.wrap .i64 (y1 + 1)), h7)))))))))) else (some (.done (.ex0 (), h2))))
noncomputable def slices_CompactFunc_F2 (T : Table) (a0 : SV) (a1 : V) (h : H) : Option ((SV) × H) :=
(bif (decide (((a0.len : Nat) : Int) < 2)) then (some (a0, h)) else ((iter FUEL (slices_CompactFunc_F2.loop2 T a0 a1) (1, h)).bind fun (fl30, h29) => match fl30 with
| .next _ => none
| .ret rr31 => (some (rr31, h29))
| .ex0 _ =>
(some (a0, h29))
| .ex1 _ => none))
def slices_CompactFunc_F2.A : Ann := { lits := [], conds := [(49, [5], [.leaf (.int .i64)], none, none)], loops := [(9, [5, 7], [.leaf (.int .i64), .leaf (.int .i64)], [5], [.leaf (.int .i64)], some 2, none), (4, [5], [.leaf (.int .i64)], [], [], some 0, none)], regs := [] }
theorem slices_CompactFunc_F2.eq (T : Table) : ∀ (x : TT [.leaf .slice, .leaf .dyn]) (h : H), evalFn Tryz.prog (slices_CompactFunc_F2.tb T) slices_CompactFunc_F2.A Tryz.f96 (.one (.leaf .slice)) (TT.un [.leaf .slice, .leaf .dyn] x) h = slices_CompactFunc_F2 T x.1 x.2 h := by
  intro x h
  kernel_rfl
noncomputable def slices_CompactFunc_F2.e (T : Table) : Entry := mkX [.leaf .slice, .leaf .dyn] (.one (.leaf .slice)) fun x h => slices_CompactFunc_F2 T x.1 x.2 h
theorem slices_CompactFunc_F2.ok (T : Table) (hT : TabOK Tryz.prog T) : EntryOK Tryz.prog 96 (slices_CompactFunc_F2.e T) := mkX_ok (slices_CompactFunc_F2.tbok T hT) Tryz.mixed Tryz.func96 (by kernel_rfl) (slices_CompactFunc_F2.eq T)
noncomputable def fact_copied.tb : Table := tab [(46, slices_Clone_int_intP.e), (47, slices_Clone_string_stringP.e)] [] Table.nil
theorem fact_copied.tbok : TabOK Tryz.prog (fact_copied.tb) := TabOK.tab (TabOK.nil Tryz.prog) (all_cons slices_Clone_int_intP.ok (all_cons slices_Clone_string_stringP.ok (all_nil _))) (all_nil _)
noncomputable def fact_copied (a0 : Fsv) (h : H) : Option ((Fsv) × H) :=
(match a0 with
| (a0_0, a0_1, a0_2, a0_3, a0_4, a0_5) =>
(let h1 : H := H.new h [.int .i64 a0_0, .int .i64 a0_1, .int .i64 a0_2, .int .i64 a0_3, .slice a0_4.a a0_4.len a0_4.cap a0_4.tail, .slice a0_5.a a0_5.len a0_5.cap a0_5.tail] 6
(let h2 : H := H.new h1 [.int .i64 0, .int .i64 0, .int .i64 0, .int .i64 0, .slice .nil 0 0 false, .slice .nil 0 0 false] 6
(let h3 : H := H.reserve h2 0
((rdT (.agg KC) h3 (.hp h.next 6 0)).bind fun (x4_0, x4_1, x4_2) =>
((rdT (.leaf (.int .i64)) h3 (.hp h.next 6 3)).bind fun x5 =>
((rdT (.leaf .slice) h3 (.hp h.next 6 4)).bind fun x6 =>
((rdRow true h3 [.int .i64] x6).bind fun s8 =>
((cloneP 8 s8).bind fun r7 =>
((rdT (.leaf .slice) h3 (.hp h.next 6 5)).bind fun x9 =>
((rdRow true h3 [.str] x9).bind fun s11 =>
((cloneP 16 s11).bind fun r10 =>
((H.wrs h3 (.hp h1.next 6 0) [.int .i64 x4_0, .int .i64 x4_1, .int .i64 x4_2, .int .i64 x5, .slice ((rowSV true [.int .i64] r7).a) r7.length r7.length true, .slice ((rowSV true [.str] r10).a) r10.length r10.length true]).bind fun h12 =>
((rdT (.agg FS) h12 (.hp h1.next 6 0 : V)).bind fun (x13_0, x13_1, x13_2, x13_3, x13_4, x13_5) =>
(some ((x13_0, x13_1, x13_2, x13_3, x13_4, x13_5), h12))))))))))))))))
def fact_copied.A : Ann := { lits := [], conds := [], loops := [], regs := [] }
theorem fact_copied.eq : ∀ (x : TT [.agg FS]) (h : H), evalFn Tryz.prog (fact_copied.tb) fact_copied.A Tryz.f130 (.one (.agg FS)) (TT.un [.agg FS] x) h = fact_copied x h := by
  intro x h
  kernel_rfl
noncomputable def fact_copiedP (a0 : Fct) : Option (Fct) := (fact_copied (a0.1, a0.2.1, a0.2.2.1, a0.2.2.2.1, rowSV false [.int .i64] a0.2.2.2.2.1, rowSV false [.str] a0.2.2.2.2.2) H.empty).bind fun p => rdRes false p.2 (.one (.agg FC)) (Res.un (.one (.agg FS)) p.1)
theorem fact_copiedP.eq : ∀ x : TT [.agg FC], ((evalFn Tryz.prog (fact_copied.tb) fact_copied.A Tryz.f130 (.one (.agg FS)) (TT.lo false [.agg FC] x) H.empty).bind fun p => rdRes false p.2 (.one (.agg FC)) (Res.un (.one (.agg FS)) p.1)) = fact_copiedP x := by
  intro x
  rw [show TT.lo false [.agg FC] x = TT.un [.agg FS] ((x.1, x.2.1, x.2.2.1, x.2.2.2.1, rowSV false [.int .i64] x.2.2.2.2.1, rowSV false [.str] x.2.2.2.2.2)) from rfl, fact_copied.eq]
  rfl
noncomputable def fact_copiedP.e : Entry := mkP [.agg FC] (.one (.agg FC)) fun x => fact_copiedP x
theorem fact_copiedP.ok : EntryOK Tryz.prog 130 (fact_copiedP.e) := mkP_ok (fact_copied.tbok) Tryz.mixed Tryz.func130 (by kernel_rfl) fact_copiedP.eq
noncomputable def slices_insertionSortC_F.tb (T : Table) : Table := tab [] [] T
theorem slices_insertionSortC_F.tbok (T : Table) (hT : TabOK Tryz.prog T) : TabOK Tryz.prog (slices_insertionSortC_F.tb T) := TabOK.tab (hT) (all_nil _) (all_nil _)
noncomputable def slices_insertionSortC_F.loop1 (T : Table) (a0 : SV) (a1 : Int) (a3 : V) : (Int) × H → Option (Stp ((Int) × H) (Flow (Unit) (Unit) × H)) := fun (y3, h4) =>
(((let h5 : H := H.reserve h4 0
(bif (decide (a1 < y3)) then (guardO (0 ≤ y3 ∧ y3 < ((a0.len : Nat) : Int)) ((rdT (.agg FS) h5 (V.add a0.a (Int.toNat y3 * 6))).bind fun (x6_0, x6_1, x6_2, x6_3, x6_4, x6_5) =>
(guardO (0 ≤ (IntKind.wrap .i64 (y3 - 1)) ∧ (IntKind.wrap .i64 (y3 - 1)) < ((a0.len : Nat) : Int)) ((rdT (.agg FS) h5 (V.add a0.a (Int.toNat (IntKind.wrap .i64 (y3 - 1)) * 6))).bind fun (x7_0, x7_1, x7_2, x7_3, x7_4, x7_5) =>
(callV T.dy a3 [.agg [.int .i64 x6_0, .int .i64 x6_1, .int .i64 x6_2, .int .i64 x6_3, .slice x6_4.a x6_4.len x6_4.cap x6_4.tail, .slice x6_5.a x6_5.len x6_5.cap x6_5.tail], .agg [.int .i64 x7_0, .int .i64 x7_1, .int .i64 x7_2, .int .i64 x7_3, .slice x7_4.a x7_4.len x7_4.cap x7_4.tail, .slice x7_5.a x7_5.len x7_5.cap x7_5.tail]] h5 fun v8 h9 =>
(Res.pack (.one (.leaf (.int .i64))) v8).bind fun r10 =>
(some ((decide (r10 < 0)), h9))))))) else (some (false, h5))))).bind fun (y11, h12) =>
(bif y11 then (let h13 : H := H.reserve h12 0
(guardO (0 ≤ (IntKind.wrap .i64 (y3 - 1)) ∧ (IntKind.wrap .i64 (y3 - 1)) < ((a0.len : Nat) : Int)) ((rdT (.agg FS) h13 (V.add a0.a (Int.toNat (IntKind.wrap .i64 (y3 - 1)) * 6))).bind fun (x14_0, x14_1, x14_2, x14_3, x14_4, x14_5) =>
(guardO (0 ≤ y3 ∧ y3 < ((a0.len : Nat) : Int)) ((rdT (.agg FS) h13 (V.add a0.a (Int.toNat y3 * 6))).bind fun (x15_0, x15_1, x15_2, x15_3, x15_4, x15_5) =>
(guardO (0 ≤ y3 ∧ y3 < ((a0.len : Nat) : Int)) ((H.wrs h13 (V.add a0.a (Int.toNat y3 * 6)) [.int .i64 x14_0, .int .i64 x14_1, .int .i64 x14_2, .int .i64 x14_3, .slice x14_4.a x14_4.len x14_4.cap x14_4.tail, .slice x14_5.a x14_5.len x14_5.cap x14_5.tail]).bind fun h16 =>
(guardO (0 ≤ (IntKind.wrap .i64 (y3 - 1)) ∧ (IntKind.wrap .i64 (y3 - 1)) < ((a0.len : Nat) : Int)) ((H.wrs h16 (V.add a0.a (Int.toNat (IntKind.wrap .i64 (y3 - 1)) * 6)) [.int .i64 x15_0, .int .i64 x15_1, .int .i64 x15_2, .int .i64 x15_3, .slice x15_4.a x15_4.len x15_4.cap x15_4.tail, .slice x15_5.a x15_5.len x15_5.cap x15_5.tail]).bind fun h17 =>
(some (.more ((IntKind.wrap .i64 (y3 - 1)), h17)))))))))))) else (some (.done (.ex0 (), h12)))))
noncomputable def slices_insertionSortC_F.loop2 (T : Table) (a0 : SV) (a1 : Int) (a2 : Int) (a3 : V) : (Int) × H → Option (Stp ((Int) × H) (Flow (Unit) (Unit) × H)) := fun (y1, h2) =>
(bif (decide (y1 < a2)) then ((iter FUEL (slices_insertionSortC_F.loop1 T a0 a1 a3) (y1, h2)).bind fun (fl19, h18) => match fl19 with
| .next _ => none
| .ret rr20 => (some (.done (.ret rr20, h18)))
| .ex0 _ =>
(some (.more ((IntKind.wrap .i64 (y1 + 1)), h18)))
| .ex1 _ => none) else (some (.done (.ex0 (), h2))))
noncomputable def slices_insertionSortC_F (T : Table) (a0 : SV) (a1 : Int) (a2 : Int) (a3 : V) (h : H) : Option ((Unit) × H) :=
((iter FUEL (slices_insertionSortC_F.loop2 T a0 a1 a2 a3) ((IntKind.wrap .i64 (a1 + 1)), h)).bind fun (fl22, h21) => match fl22 with
| .next _ => none
| .ret rr23 => (some (rr23, h21))
| .ex0 _ =>
(some ((), h21))
| .ex1 _ => none)
def slices_insertionSortC_F.A : Ann := { lits := [], conds := [], loops := [(4, [9], [.leaf (.int .i64)], [], [], some 2, none), (1, [8], [.leaf (.int .i64)], [], [], some 0, none)], regs := [(4, [34], [.leaf .bool])] }
theorem slices_insertionSortC_F.eq (T : Table) : ∀ (x : TT [.leaf .slice, .leaf (.int .i64), .leaf (.int .i64), .leaf .dyn]) (h : H), evalFn Tryz.prog (slices_insertionSortC_F.tb T) slices_insertionSortC_F.A Tryz.f112 (.many []) (TT.un [.leaf .slice, .leaf (.int .i64), .leaf (.int .i64), .leaf .dyn] x) h = slices_insertionSortC_F T x.1 x.2.1 x.2.2.1 x.2.2.2 h := by
  intro x h
  kernel_rfl
noncomputable def slices_insertionSortC_F.e (T : Table) : Entry := mkX [.leaf .slice, .leaf (.int .i64), .leaf (.int .i64), .leaf .dyn] (.many []) fun x h => slices_insertionSortC_F T x.1 x.2.1 x.2.2.1 x.2.2.2 h
theorem slices_insertionSortC_F.ok (T : Table) (hT : TabOK Tryz.prog T) : EntryOK Tryz.prog 112 (slices_insertionSortC_F.e T) := mkX_ok (slices_insertionSortC_F.tbok T hT) Tryz.mixed Tryz.func112 (by kernel_rfl) (slices_insertionSortC_F.eq T)
noncomputable def slices_swapRangeC_F.tb (T : Table) : Table := tab [] [] T
theorem slices_swapRangeC_F.tbok (T : Table) (hT : TabOK Tryz.prog T) : TabOK Tryz.prog (slices_swapRangeC_F.tb T) := TabOK.tab (hT) (all_nil _) (all_nil _)
noncomputable def slices_swapRangeC_F.loop1 (T : Table) (a0 : SV) (a1 : Int) (a2 : Int) (a3 : Int) : (Int) × H → Option (Stp ((Int) × H) (Flow (Unit) (Unit) × H)) := fun (y1, h2) =>
(bif (decide (y1 < a3)) then (let h3 : H := H.reserve h2 0
(guardO (0 ≤ (IntKind.wrap .i64 (a2 + y1)) ∧ (IntKind.wrap .i64 (a2 + y1)) < ((a0.len : Nat) : Int)) ((rdT (.agg FS) h3 (V.add a0.a (Int.toNat (IntKind.wrap .i64 (a2 + y1)) * 6))).bind fun (x4_0, x4_1, x4_2, x4_3, x4_4, x4_5) =>
(guardO (0 ≤ (IntKind.wrap .i64 (a1 + y1)) ∧ (IntKind.wrap .i64 (a1 + y1)) < ((a0.len : Nat) : Int)) ((rdT (.agg FS) h3 (V.add a0.a (Int.toNat (IntKind.wrap .i64 (a1 + y1)) * 6))).bind fun (x5_0, x5_1, x5_2, x5_3, x5_4, x5_5) =>
(guardO (0 ≤ (IntKind.wrap .i64 (a1 + y1)) ∧ (IntKind.wrap .i64 (a1 + y1)) < ((a0.len : Nat) : Int)) ((H.wrs h3 (V.add a0.a (Int.toNat (IntKind.wrap .i64 (a1 + y1)) * 6)) [.int .i64 x4_0, .int .i64 x4_1, .int .i64 x4_2, .int .i64 x4_3, .slice x4_4.a x4_4.len x4_4.cap x4_4.tail, .slice x4_5.a x4_5.len x4_5.cap x4_5.tail]).bind fun h6 =>
(guardO (0 ≤ (IntKind.wrap .i64 (a2 + y1)) ∧ (IntKind.wrap .i64 (a2 + y1)) < ((a0.len : Nat) : Int)) ((H.wrs h6 (V.add a0.a (Int.toNat (IntKind.wrap .i64 (a2 + y1)) * 6)) [.int .i64 x5_0, .int .i64 x5_1, .int .i64 x5_2, .int .i64 x5_3, .slice x5_4.a x5_4.len x5_4.cap x5_4.tail, .slice x5_5.a x5_5.len x5_5.cap x5_5.tail]).bind fun h7 =>
(some (.more ((IntKind.wrap .i64 (y1 + 1)), h7)))))))))))) else (some (.done (.ex0 (), h2))))
noncomputable def slices_swapRangeC_F (T : Table) (a0 : SV) (a1 : Int) (a2 : Int) (a3 : Int) (a4 : V) (h : H) : Option ((Unit) × H) :=
((iter FUEL (slices_swapRangeC_F.loop1 T a0 a1 a2 a3) (0, h)).bind fun (fl9, h8) => match fl9 with
| .next _ => none
| .ret rr10 => (some (rr10, h8))
| .ex0 _ =>
(some ((), h8))
| .ex1 _ => none)
def slices_swapRangeC_F.A : Ann := { lits := [], conds := [], loops := [(1, [10], [.leaf (.int .i64)], [], [], some 0, none)], regs := [] }
theorem slices_swapRangeC_F.eq (T : Table) : ∀ (x : TT [.leaf .slice, .leaf (.int .i64), .leaf (.int .i64), .leaf (.int .i64), .leaf .dyn]) (h : H), evalFn Tryz.prog (slices_swapRangeC_F.tb T) slices_swapRangeC_F.A Tryz.f150 (.many []) (TT.un [.leaf .slice, .leaf (.int .i64), .leaf (.int .i64), .leaf (.int .i64), .leaf .dyn] x) h = slices_swapRangeC_F T x.1 x.2.1 x.2.2.1 x.2.2.2.1 x.2.2.2.2 h := by
  intro x h
  kernel_rfl
noncomputable def slices_swapRangeC_F.e (T : Table) : Entry := mkX [.leaf .slice, .leaf (.int .i64), .leaf (.int .i64), .leaf (.int .i64), .leaf .dyn] (.many []) fun x h => slices_swapRangeC_F T x.1 x.2.1 x.2.2.1 x.2.2.2.1 x.2.2.2.2 h
theorem slices_swapRangeC_F.ok (T : Table) (hT : TabOK Tryz.prog T) : EntryOK Tryz.prog 150 (slices_swapRangeC_F.e T) := mkX_ok (slices_swapRangeC_F.tbok T hT) Tryz.mixed Tryz.func150 (by kernel_rfl) (slices_swapRangeC_F.eq T)
noncomputable def slices_rotateC_F.tb (T : Table) : Table := tab [] [] T
theorem slices_rotateC_F.tbok (T : Table) (hT : TabOK Tryz.prog T) : TabOK Tryz.prog (slices_rotateC_F.tb T) := TabOK.tab (hT) (all_nil _) (all_nil _)
noncomputable def slices_rotateC_F.loop1 (T : Table) (a0 : SV) (a2 : Int) (a4 : V) : (Int × Int) × H → Option (Stp ((Int × Int) × H) (Flow (Int) (Unit) × H)) := fun ((y1, y2), h3) =>
(bif (!(decide (y1 = y2))) then ((bif (decide (y2 < y1)) then ((slices_swapRangeC_F (slices_rotateC_F.tb T) a0 (IntKind.wrap .i64 (a2 - y1)) a2 y2 a4 h3).bind fun (_, h4) =>
(some (.next ((IntKind.wrap .i64 (y1 - y2)), y2), h4))) else ((slices_swapRangeC_F (slices_rotateC_F.tb T) a0 (IntKind.wrap .i64 (a2 - y1)) (IntKind.wrap .i64 ((IntKind.wrap .i64 (a2 + y2)) - y1)) y1 a4 h3).bind fun (_, h5) =>
(some (.next (y1, (IntKind.wrap .i64 (y2 - y1))), h5))) : Option (Flow (Int × Int) (Unit) × H)).bind fun (fl7, h6) => match fl7 with
| .next (y8, y9) =>
(some (.more ((y8, y9), h6)))
| .ret rr10 => (some (.done (.ret rr10, h6)))
| .ex0 _ => none
| .ex1 _ => none) else (some (.done (.ex0 y1, h3))))
noncomputable def slices_rotateC_F (T : Table) (a0 : SV) (a1 : Int) (a2 : Int) (a3 : Int) (a4 : V) (h : H) : Option ((Unit) × H) :=
((iter FUEL (slices_rotateC_F.loop1 T a0 a2 a4) (((IntKind.wrap .i64 (a2 - a1)), (IntKind.wrap .i64 (a3 - a2))), h)).bind fun (fl12, h11) => match fl12 with
| .next _ => none
| .ret rr13 => (some (rr13, h11))
| .ex0 y14 =>
((slices_swapRangeC_F (slices_rotateC_F.tb T) a0 (IntKind.wrap .i64 (a2 - y14)) a2 y14 a4 h11).bind fun (_, h15) =>
(some ((), h15)))
| .ex1 _ => none)
def slices_rotateC_F.A : Ann := { lits := [], conds := [(23, [10, 11], [.leaf (.int .i64), .leaf (.int .i64)], none, none)], loops := [(2, [10, 11], [.leaf (.int .i64), .leaf (.int .i64)], [10], [.leaf (.int .i64)], some 0, none)], regs := [] }
noncomputable def slices_rotateC_F.tc (T : Table) : Table := tab [(150, slices_swapRangeC_F.e (slices_rotateC_F.tb T))] [] (slices_rotateC_F.tb T)
theorem slices_rotateC_F.tcok (T : Table) (hT : TabOK Tryz.prog T) : TabOK Tryz.prog (slices_rotateC_F.tc T) := TabOK.tab (slices_rotateC_F.tbok T hT) (all_cons (slices_swapRangeC_F.ok _ (slices_rotateC_F.tbok T hT)) (all_nil _)) (all_nil _)
theorem slices_rotateC_F.eq (T : Table) : ∀ (x : TT [.leaf .slice, .leaf (.int .i64), .leaf (.int .i64), .leaf (.int .i64), .leaf .dyn]) (h : H), evalFn Tryz.prog (slices_rotateC_F.tc T) slices_rotateC_F.A Tryz.f149 (.many []) (TT.un [.leaf .slice, .leaf (.int .i64), .leaf (.int .i64), .leaf (.int .i64), .leaf .dyn] x) h = slices_rotateC_F T x.1 x.2.1 x.2.2.1 x.2.2.2.1 x.2.2.2.2 h := by
  intro x h
  kernel_rfl
noncomputable def slices_rotateC_F.e (T : Table) : Entry := mkX [.leaf .slice, .leaf (.int .i64), .leaf (.int .i64), .leaf (.int .i64), .leaf .dyn] (.many []) fun x h => slices_rotateC_F T x.1 x.2.1 x.2.2.1 x.2.2.2.1 x.2.2.2.2 h
theorem slices_rotateC_F.ok (T : Table) (hT : TabOK Tryz.prog T) : EntryOK Tryz.prog 149 (slices_rotateC_F.e T) := mkX_ok (slices_rotateC_F.tcok T hT) Tryz.mixed Tryz.func149 (by kernel_rfl) (slices_rotateC_F.eq T)
noncomputable def slices_symMergeC_F.tb (T : Table) : Table := tab [] [] T
theorem slices_symMergeC_F.tbok (T : Table) (hT : TabOK Tryz.prog T) : TabOK Tryz.prog (slices_symMergeC_F.tb T) := TabOK.tab (hT) (all_nil _) (all_nil _)
noncomputable def slices_symMergeC_F.loop1 (T : Table) (a0 : SV) (a1 : Int) (a4 : V) : (Int × Int) × H → Option (Stp ((Int × Int) × H) (Flow (Int) (Unit) × H)) := fun ((y1, y2), h3) =>
(bif (decide (y1 < y2)) then (let h4 : H := H.reserve h3 0
(guardO (0 ≤ (IntKind.wrap .i64 ((Int.fdiv (IntKind.wrap .u64 ((IntKind.wrap .i64 (y1 + y2)))) (2 ^ (min (Int.toNat 1) (IntKind.bits .u64)))))) ∧ (IntKind.wrap .i64 ((Int.fdiv (IntKind.wrap .u64 ((IntKind.wrap .i64 (y1 + y2)))) (2 ^ (min (Int.toNat 1) (IntKind.bits .u64)))))) < ((a0.len : Nat) : Int)) ((rdT (.agg FS) h4 (V.add a0.a (Int.toNat (IntKind.wrap .i64 ((Int.fdiv (IntKind.wrap .u64 ((IntKind.wrap .i64 (y1 + y2)))) (2 ^ (min (Int.toNat 1) (IntKind.bits .u64)))))) * 6))).bind fun (x5_0, x5_1, x5_2, x5_3, x5_4, x5_5) =>
(guardO (0 ≤ a1 ∧ a1 < ((a0.len : Nat) : Int)) ((rdT (.agg FS) h4 (V.add a0.a (Int.toNat a1 * 6))).bind fun (x6_0, x6_1, x6_2, x6_3, x6_4, x6_5) =>
(callV T.dy a4 [.agg [.int .i64 x5_0, .int .i64 x5_1, .int .i64 x5_2, .int .i64 x5_3, .slice x5_4.a x5_4.len x5_4.cap x5_4.tail, .slice x5_5.a x5_5.len x5_5.cap x5_5.tail], .agg [.int .i64 x6_0, .int .i64 x6_1, .int .i64 x6_2, .int .i64 x6_3, .slice x6_4.a x6_4.len x6_4.cap x6_4.tail, .slice x6_5.a x6_5.len x6_5.cap x6_5.tail]] h4 fun v7 h8 =>
(Res.pack (.one (.leaf (.int .i64))) v7).bind fun r9 =>
((bif (decide (r9 < 0)) then (some (.next ((IntKind.wrap .i64 ((IntKind.wrap .i64 ((Int.fdiv (IntKind.wrap .u64 ((IntKind.wrap .i64 (y1 + y2)))) (2 ^ (min (Int.toNat 1) (IntKind.bits .u64)))))) + 1)), y2), h8)) else (some (.next (y1, (IntKind.wrap .i64 ((Int.fdiv (IntKind.wrap .u64 ((IntKind.wrap .i64 (y1 + y2)))) (2 ^ (min (Int.toNat 1) (IntKind.bits .u64))))))), h8)) : Option (Flow (Int × Int) (Unit) × H)).bind fun (fl11, h10) => match fl11 with
| .next (y12, y13) =>
(some (.more ((y12, y13), h10)))
| .ret rr14 => (some (.done (.ret rr14, h10)))
| .ex0 _ => none
| .ex1 _ => none))))))) else (some (.done (.ex0 y1, h3))))
noncomputable def slices_symMergeC_F.loop2 (T : Table) (a0 : SV) (y18 : Int) : (Int) × H → Option (Stp ((Int) × H) (Flow (Unit) (Unit) × H)) := fun (y19, h20) =>
(bif (decide (y19 < (IntKind.wrap .i64 (y18 - 1)))) then (let h21 : H := H.reserve h20 0
(guardO (0 ≤ (IntKind.wrap .i64 (y19 + 1)) ∧ (IntKind.wrap .i64 (y19 + 1)) < ((a0.len : Nat) : Int)) ((rdT (.agg FS) h21 (V.add a0.a (Int.toNat (IntKind.wrap .i64 (y19 + 1)) * 6))).bind fun (x22_0, x22_1, x22_2, x22_3, x22_4, x22_5) =>
(guardO (0 ≤ y19 ∧ y19 < ((a0.len : Nat) : Int)) ((rdT (.agg FS) h21 (V.add a0.a (Int.toNat y19 * 6))).bind fun (x23_0, x23_1, x23_2, x23_3, x23_4, x23_5) =>
(guardO (0 ≤ y19 ∧ y19 < ((a0.len : Nat) : Int)) ((H.wrs h21 (V.add a0.a (Int.toNat y19 * 6)) [.int .i64 x22_0, .int .i64 x22_1, .int .i64 x22_2, .int .i64 x22_3, .slice x22_4.a x22_4.len x22_4.cap x22_4.tail, .slice x22_5.a x22_5.len x22_5.cap x22_5.tail]).bind fun h24 =>
(guardO (0 ≤ (IntKind.wrap .i64 (y19 + 1)) ∧ (IntKind.wrap .i64 (y19 + 1)) < ((a0.len : Nat) : Int)) ((H.wrs h24 (V.add a0.a (Int.toNat (IntKind.wrap .i64 (y19 + 1)) * 6)) [.int .i64 x23_0, .int .i64 x23_1, .int .i64 x23_2, .int .i64 x23_3, .slice x23_4.a x23_4.len x23_4.cap x23_4.tail, .slice x23_5.a x23_5.len x23_5.cap x23_5.tail]).bind fun h25 =>
(some (.more ((IntKind.wrap .i64 (y19 + 1)), h25)))))))))))) else (some (.done (.ex0 (), h20))))
noncomputable def slices_symMergeC_F.loop3 (T : Table) (a0 : SV) (a2 : Int) (a4 : V) : (Int × Int) × H → Option (Stp ((Int × Int) × H) (Flow (Int) (Unit) × H)) := fun ((y29, y30), h31) =>
(bif (decide (y29 < y30)) then (let h32 : H := H.reserve h31 0
(guardO (0 ≤ a2 ∧ a2 < ((a0.len : Nat) : Int)) ((rdT (.agg FS) h32 (V.add a0.a (Int.toNat a2 * 6))).bind fun (x33_0, x33_1, x33_2, x33_3, x33_4, x33_5) =>
(guardO (0 ≤ (IntKind.wrap .i64 ((Int.fdiv (IntKind.wrap .u64 ((IntKind.wrap .i64 (y29 + y30)))) (2 ^ (min (Int.toNat 1) (IntKind.bits .u64)))))) ∧ (IntKind.wrap .i64 ((Int.fdiv (IntKind.wrap .u64 ((IntKind.wrap .i64 (y29 + y30)))) (2 ^ (min (Int.toNat 1) (IntKind.bits .u64)))))) < ((a0.len : Nat) : Int)) ((rdT (.agg FS) h32 (V.add a0.a (Int.toNat (IntKind.wrap .i64 ((Int.fdiv (IntKind.wrap .u64 ((IntKind.wrap .i64 (y29 + y30)))) (2 ^ (min (Int.toNat 1) (IntKind.bits .u64)))))) * 6))).bind fun (x34_0, x34_1, x34_2, x34_3, x34_4, x34_5) =>
(callV T.dy a4 [.agg [.int .i64 x33_0, .int .i64 x33_1, .int .i64 x33_2, .int .i64 x33_3, .slice x33_4.a x33_4.len x33_4.cap x33_4.tail, .slice x33_5.a x33_5.len x33_5.cap x33_5.tail], .agg [.int .i64 x34_0, .int .i64 x34_1, .int .i64 x34_2, .int .i64 x34_3, .slice x34_4.a x34_4.len x34_4.cap x34_4.tail, .slice x34_5.a x34_5.len x34_5.cap x34_5.tail]] h32 fun v35 h36 =>
(Res.pack (.one (.leaf (.int .i64))) v35).bind fun r37 =>
((bif (!(decide (r37 < 0))) then (some (.next ((IntKind.wrap .i64 ((IntKind.wrap .i64 ((Int.fdiv (IntKind.wrap .u64 ((IntKind.wrap .i64 (y29 + y30)))) (2 ^ (min (Int.toNat 1) (IntKind.bits .u64)))))) + 1)), y30), h36)) else (some (.next (y29, (IntKind.wrap .i64 ((Int.fdiv (IntKind.wrap .u64 ((IntKind.wrap .i64 (y29 + y30)))) (2 ^ (min (Int.toNat 1) (IntKind.bits .u64))))))), h36)) : Option (Flow (Int × Int) (Unit) × H)).bind fun (fl39, h38) => match fl39 with
| .next (y40, y41) =>
(some (.more ((y40, y41), h38)))
| .ret rr42 => (some (.done (.ret rr42, h38)))
| .ex0 _ => none
| .ex1 _ => none))))))) else (some (.done (.ex0 y29, h31))))
noncomputable def slices_symMergeC_F.loop4 (T : Table) (a0 : SV) (y46 : Int) : (Int) × H → Option (Stp ((Int) × H) (Flow (Unit) (Unit) × H)) := fun (y47, h48) =>
(bif (decide (y46 < y47)) then (let h49 : H := H.reserve h48 0
(guardO (0 ≤ (IntKind.wrap .i64 (y47 - 1)) ∧ (IntKind.wrap .i64 (y47 - 1)) < ((a0.len : Nat) : Int)) ((rdT (.agg FS) h49 (V.add a0.a (Int.toNat (IntKind.wrap .i64 (y47 - 1)) * 6))).bind fun (x50_0, x50_1, x50_2, x50_3, x50_4, x50_5) =>
(guardO (0 ≤ y47 ∧ y47 < ((a0.len : Nat) : Int)) ((rdT (.agg FS) h49 (V.add a0.a (Int.toNat y47 * 6))).bind fun (x51_0, x51_1, x51_2, x51_3, x51_4, x51_5) =>
(guardO (0 ≤ y47 ∧ y47 < ((a0.len : Nat) : Int)) ((H.wrs h49 (V.add a0.a (Int.toNat y47 * 6)) [.int .i64 x50_0, .int .i64 x50_1, .int .i64 x50_2, .int .i64 x50_3, .slice x50_4.a x50_4.len x50_4.cap x50_4.tail, .slice x50_5.a x50_5.len x50_5.cap x50_5.tail]).bind fun h52 =>
(guardO (0 ≤ (IntKind.wrap .i64 (y47 - 1)) ∧ (IntKind.wrap .i64 (y47 - 1)) < ((a0.len : Nat) : Int)) ((H.wrs h52 (V.add a0.a (Int.toNat (IntKind.wrap .i64 (y47 - 1)) * 6)) [.int .i64 x51_0, .int .i64 x51_1, .int .i64 x51_2, .int .i64 x51_3, .slice x51_4.a x51_4.len x51_4.cap x51_4.tail, .slice x51_5.a x51_5.len x51_5.cap x51_5.tail]).bind fun h53 =>
(some (.more ((IntKind.wrap .i64 (y47 - 1)), h53)))))))))))) else (some (.done (.ex0 (), h48))))
noncomputable def slices_symMergeC_F.loop5 (T : Table) (a0 : SV) (a1 : Int) (a2 : Int) (a3 : Int) (a4 : V) : (Int × Int) × H → Option (Stp ((Int × Int) × H) (Flow (Int) (Unit) × H)) := fun ((y61, y62), h63) =>
(bif (decide (y61 < y62)) then (let h64 : H := H.reserve h63 0
(guardO (0 ≤ (IntKind.wrap .i64 ((IntKind.wrap .i64 ((IntKind.wrap .i64 ((IntKind.wrap .i64 ((Int.fdiv (IntKind.wrap .u64 ((IntKind.wrap .i64 (a1 + a3)))) (2 ^ (min (Int.toNat 1) (IntKind.bits .u64)))))) + a2)) - 1)) - (IntKind.wrap .i64 ((Int.fdiv (IntKind.wrap .u64 ((IntKind.wrap .i64 (y61 + y62)))) (2 ^ (min (Int.toNat 1) (IntKind.bits .u64)))))))) ∧ (IntKind.wrap .i64 ((IntKind.wrap .i64 ((IntKind.wrap .i64 ((IntKind.wrap .i64 ((Int.fdiv (IntKind.wrap .u64 ((IntKind.wrap .i64 (a1 + a3)))) (2 ^ (min (Int.toNat 1) (IntKind.bits .u64)))))) + a2)) - 1)) - (IntKind.wrap .i64 ((Int.fdiv (IntKind.wrap .u64 ((IntKind.wrap .i64 (y61 + y62)))) (2 ^ (min (Int.toNat 1) (IntKind.bits .u64)))))))) < ((a0.len : Nat) : Int)) ((rdT (.agg FS) h64 (V.add a0.a (Int.toNat (IntKind.wrap .i64 ((IntKind.wrap .i64 ((IntKind.wrap .i64 ((IntKind.wrap .i64 ((Int.fdiv (IntKind.wrap .u64 ((IntKind.wrap .i64 (a1 + a3)))) (2 ^ (min (Int.toNat 1) (IntKind.bits .u64)))))) + a2)) - 1)) - (IntKind.wrap .i64 ((Int.fdiv (IntKind.wrap .u64 ((IntKind.wrap .i64 (y61 + y62)))) (2 ^ (min (Int.toNat 1) (IntKind.bits .u64)))))))) * 6))).bind fun (x65_0, x65_1, x65_2, x65_3, x65_4, x65_5) =>
(guardO (0 ≤ (IntKind.wrap .i64 ((Int.fdiv (IntKind.wrap .u64 ((IntKind.wrap .i64 (y61 + y62)))) (2 ^ (min (Int.toNat 1) (IntKind.bits .u64)))))) ∧ (IntKind.wrap .i64 ((Int.fdiv (IntKind.wrap .u64 ((IntKind.wrap .i64 (y61 + y62)))) (2 ^ (min (Int.toNat 1) (IntKind.bits .u64)))))) < ((a0.len : Nat) : Int)) ((rdT (.agg FS) h64 (V.add a0.a (Int.toNat (IntKind.wrap .i64 ((Int.fdiv (IntKind.wrap .u64 ((IntKind.wrap .i64 (y61 + y62)))) (2 ^ (min (Int.toNat 1) (IntKind.bits .u64)))))) * 6))).bind fun (x66_0, x66_1, x66_2, x66_3, x66_4, x66_5) =>
(callV T.dy a4 [.agg [.int .i64 x65_0, .int .i64 x65_1, .int .i64 x65_2, .int .i64 x65_3, .slice x65_4.a x65_4.len x65_4.cap x65_4.tail, .slice x65_5.a x65_5.len x65_5.cap x65_5.tail], .agg [.int .i64 x66_0, .int .i64 x66_1, .int .i64 x66_2, .int .i64 x66_3, .slice x66_4.a x66_4.len x66_4.cap x66_4.tail, .slice x66_5.a x66_5.len x66_5.cap x66_5.tail]] h64 fun v67 h68 =>
(Res.pack (.one (.leaf (.int .i64))) v67).bind fun r69 =>
((bif (!(decide (r69 < 0))) then (some (.next ((IntKind.wrap .i64 ((IntKind.wrap .i64 ((Int.fdiv (IntKind.wrap .u64 ((IntKind.wrap .i64 (y61 + y62)))) (2 ^ (min (Int.toNat 1) (IntKind.bits .u64)))))) + 1)), y62), h68)) else (some (.next (y61, (IntKind.wrap .i64 ((Int.fdiv (IntKind.wrap .u64 ((IntKind.wrap .i64 (y61 + y62)))) (2 ^ (min (Int.toNat 1) (IntKind.bits .u64))))))), h68)) : Option (Flow (Int × Int) (Unit) × H)).bind fun (fl71, h70) => match fl71 with
| .next (y72, y73) =>
(some (.more ((y72, y73), h70)))
| .ret rr74 => (some (.done (.ret rr74, h70)))
| .ex0 _ => none
| .ex1 _ => none))))))) else (some (.done (.ex0 y61, h63))))
noncomputable def slices_symMergeC_F.step (T : Table) (rec : SV → Int → Int → Int → V → H → Option ((Unit) × H)) (a0 : SV) (a1 : Int) (a2 : Int) (a3 : Int) (a4 : V) (h : H) : Option ((Unit) × H) :=
(bif (decide ((IntKind.wrap .i64 (a2 - a1)) = 1)) then ((iter FUEL (slices_symMergeC_F.loop1 T a0 a1 a4) ((a2, a3), h)).bind fun (fl16, h15) => match fl16 with
| .next _ => none
| .ret rr17 => (some (rr17, h15))
| .ex0 y18 =>
((iter FUEL (slices_symMergeC_F.loop2 T a0 y18) (a1, h15)).bind fun (fl27, h26) => match fl27 with
| .next _ => none
| .ret rr28 => (some (rr28, h26))
| .ex0 _ =>
(some ((), h26))
| .ex1 _ => none)
| .ex1 _ => none) else (bif (decide ((IntKind.wrap .i64 (a3 - a2)) = 1)) then ((iter FUEL (slices_symMergeC_F.loop3 T a0 a2 a4) ((a1, a2), h)).bind fun (fl44, h43) => match fl44 with
| .next _ => none
| .ret rr45 => (some (rr45, h43))
| .ex0 y46 =>
((iter FUEL (slices_symMergeC_F.loop4 T a0 y46) (a2, h43)).bind fun (fl55, h54) => match fl55 with
| .next _ => none
| .ret rr56 => (some (rr56, h54))
| .ex0 _ =>
(some ((), h54))
| .ex1 _ => none)
| .ex1 _ => none) else ((bif (decide ((IntKind.wrap .i64 ((Int.fdiv (IntKind.wrap .u64 ((IntKind.wrap .i64 (a1 + a3)))) (2 ^ (min (Int.toNat 1) (IntKind.bits .u64)))))) < a2)) then (some (.next ((IntKind.wrap .i64 ((IntKind.wrap .i64 ((IntKind.wrap .i64 ((Int.fdiv (IntKind.wrap .u64 ((IntKind.wrap .i64 (a1 + a3)))) (2 ^ (min (Int.toNat 1) (IntKind.bits .u64)))))) + a2)) - a3)), (IntKind.wrap .i64 ((Int.fdiv (IntKind.wrap .u64 ((IntKind.wrap .i64 (a1 + a3)))) (2 ^ (min (Int.toNat 1) (IntKind.bits .u64))))))), h)) else (some (.next (a1, a2), h)) : Option (Flow (Int × Int) (Unit) × H)).bind fun (fl58, h57) => match fl58 with
| .next (y59, y60) =>
((iter FUEL (slices_symMergeC_F.loop5 T a0 a1 a2 a3 a4) ((y59, y60), h57)).bind fun (fl76, h75) => match fl76 with
| .next _ => none
| .ret rr77 => (some (rr77, h75))
| .ex0 y78 =>
(((bif (decide (y78 < a2)) then (some ((decide (a2 < (IntKind.wrap .i64 ((IntKind.wrap .i64 ((IntKind.wrap .i64 ((Int.fdiv (IntKind.wrap .u64 ((IntKind.wrap .i64 (a1 + a3)))) (2 ^ (min (Int.toNat 1) (IntKind.bits .u64)))))) + a2)) - y78)))), h75)) else (some (false, h75)))).bind fun (y79, h80) =>
((bif y79 then ((slices_rotateC_F (slices_symMergeC_F.tb T) a0 y78 a2 (IntKind.wrap .i64 ((IntKind.wrap .i64 ((IntKind.wrap .i64 ((Int.fdiv (IntKind.wrap .u64 ((IntKind.wrap .i64 (a1 + a3)))) (2 ^ (min (Int.toNat 1) (IntKind.bits .u64)))))) + a2)) - y78)) a4 h80).bind fun (_, h81) =>
(some (.next (), h81))) else (some (.next (), h80)) : Option (Flow (Unit) (Unit) × H)).bind fun (fl83, h82) => match fl83 with
| .next _ =>
(((bif (decide (a1 < y78)) then (some ((decide (y78 < (IntKind.wrap .i64 ((Int.fdiv (IntKind.wrap .u64 ((IntKind.wrap .i64 (a1 + a3)))) (2 ^ (min (Int.toNat 1) (IntKind.bits .u64)))))))), h82)) else (some (false, h82)))).bind fun (y84, h85) =>
((bif y84 then ((rec a0 a1 y78 (IntKind.wrap .i64 ((Int.fdiv (IntKind.wrap .u64 ((IntKind.wrap .i64 (a1 + a3)))) (2 ^ (min (Int.toNat 1) (IntKind.bits .u64)))))) a4 h85).bind fun (_, h86) =>
(some (.next (), h86))) else (some (.next (), h85)) : Option (Flow (Unit) (Unit) × H)).bind fun (fl88, h87) => match fl88 with
| .next _ =>
(((bif (decide ((IntKind.wrap .i64 ((Int.fdiv (IntKind.wrap .u64 ((IntKind.wrap .i64 (a1 + a3)))) (2 ^ (min (Int.toNat 1) (IntKind.bits .u64)))))) < (IntKind.wrap .i64 ((IntKind.wrap .i64 ((IntKind.wrap .i64 ((Int.fdiv (IntKind.wrap .u64 ((IntKind.wrap .i64 (a1 + a3)))) (2 ^ (min (Int.toNat 1) (IntKind.bits .u64)))))) + a2)) - y78)))) then (some ((decide ((IntKind.wrap .i64 ((IntKind.wrap .i64 ((IntKind.wrap .i64 ((Int.fdiv (IntKind.wrap .u64 ((IntKind.wrap .i64 (a1 + a3)))) (2 ^ (min (Int.toNat 1) (IntKind.bits .u64)))))) + a2)) - y78)) < a3)), h87)) else (some (false, h87)))).bind fun (y89, h90) =>
((bif y89 then ((rec a0 (IntKind.wrap .i64 ((Int.fdiv (IntKind.wrap .u64 ((IntKind.wrap .i64 (a1 + a3)))) (2 ^ (min (Int.toNat 1) (IntKind.bits .u64)))))) (IntKind.wrap .i64 ((IntKind.wrap .i64 ((IntKind.wrap .i64 ((Int.fdiv (IntKind.wrap .u64 ((IntKind.wrap .i64 (a1 + a3)))) (2 ^ (min (Int.toNat 1) (IntKind.bits .u64)))))) + a2)) - y78)) a3 a4 h90).bind fun (_, h91) =>
(some (.next (), h91))) else (some (.next (), h90)) : Option (Flow (Unit) (Unit) × H)).bind fun (fl93, h92) => match fl93 with
| .next _ =>
(some ((), h92))
| .ret rr94 => (some (rr94, h92))
| .ex0 _ => none
| .ex1 _ => none))
| .ret rr95 => (some (rr95, h87))
| .ex0 _ => none
| .ex1 _ => none))
| .ret rr96 => (some (rr96, h82))
| .ex0 _ => none
| .ex1 _ => none))
| .ex1 _ => none)
| .ret rr97 => (some (rr97, h57))
| .ex0 _ => none
| .ex1 _ => none)))
noncomputable def slices_symMergeC_F.lev (T : Table) (n : Nat) : SV → Int → Int → Int → V → H → Option ((Unit) × H) := Nat.rec (fun _a0 _a1 _a2 _a3 _a4 _ => none) (fun _ r => slices_symMergeC_F.step T r) n
noncomputable def slices_symMergeC_F (T : Table) (a0 : SV) (a1 : Int) (a2 : Int) (a3 : Int) (a4 : V) (h : H) : Option ((Unit) × H) := slices_symMergeC_F.lev T 40 a0 a1 a2 a3 a4 h
def slices_symMergeC_F.A : Ann := { lits := [], conds := [(50, [10, 11], [.leaf (.int .i64), .leaf (.int .i64)], none, none), (103, [14, 15], [.leaf (.int .i64), .leaf (.int .i64)], none, none), (140, [20, 21], [.leaf (.int .i64), .leaf (.int .i64)], none, none), (171, [20, 21], [.leaf (.int .i64), .leaf (.int .i64)], none, none), (185, [], [], none, none), (199, [], [], none, none), (213, [], [], none, none)], loops := [(3, [10, 11], [.leaf (.int .i64), .leaf (.int .i64)], [10], [.leaf (.int .i64)], some 0, none), (9, [13], [.leaf (.int .i64)], [], [], some 2, none), (15, [14, 15], [.leaf (.int .i64), .leaf (.int .i64)], [14], [.leaf (.int .i64)], some 4, none), (21, [17], [.leaf (.int .i64)], [], [], some 6, none), (33, [20, 21], [.leaf (.int .i64), .leaf (.int .i64)], [20], [.leaf (.int .i64)], some 8, none)], regs := [(39, [185], [.leaf .bool]), (41, [199], [.leaf .bool]), (43, [213], [.leaf .bool])] }
noncomputable def slices_symMergeC_F.tc (T : Table) : Table := tab [(149, slices_rotateC_F.e (slices_symMergeC_F.tb T))] [] (slices_symMergeC_F.tb T)
theorem slices_symMergeC_F.tcok (T : Table) (hT : TabOK Tryz.prog T) : TabOK Tryz.prog (slices_symMergeC_F.tc T) := TabOK.tab (slices_symMergeC_F.tbok T hT) (all_cons (slices_rotateC_F.ok _ (slices_symMergeC_F.tbok T hT)) (all_nil _)) (all_nil _)
noncomputable def slices_symMergeC_F.el (T : Table) (n : Nat) : Entry := mkX [.leaf .slice, .leaf (.int .i64), .leaf (.int .i64), .leaf (.int .i64), .leaf .dyn] (.many []) fun x h => slices_symMergeC_F.lev T n x.1 x.2.1 x.2.2.1 x.2.2.2.1 x.2.2.2.2 h
noncomputable def slices_symMergeC_F.tr (T : Table) (n : Nat) : Table := tab [(148, slices_symMergeC_F.el T n)] [] (slices_symMergeC_F.tc T)
theorem slices_symMergeC_F.eq (T : Table) : ∀ (n : Nat) (x : TT [.leaf .slice, .leaf (.int .i64), .leaf (.int .i64), .leaf (.int .i64), .leaf .dyn]) (h : H), evalFn Tryz.prog (slices_symMergeC_F.tr T n) slices_symMergeC_F.A Tryz.f148 (.many []) (TT.un [.leaf .slice, .leaf (.int .i64), .leaf (.int .i64), .leaf (.int .i64), .leaf .dyn] x) h = slices_symMergeC_F.lev T (n + 1) x.1 x.2.1 x.2.2.1 x.2.2.2.1 x.2.2.2.2 h := by
  intro n x h
  kernel_rfl
theorem slices_symMergeC_F.okl (T : Table) (hT : TabOK Tryz.prog T) (n : Nat) : EntryOK Tryz.prog 148 (slices_symMergeC_F.el T n) := by
  induction n with
  | zero => exact mkX_none
  | succ n ih => exact mkX_ok (TabOK.tab (slices_symMergeC_F.tcok T hT) (all_cons ih (all_nil _)) (all_nil _)) Tryz.mixed Tryz.func148 (by kernel_rfl) (slices_symMergeC_F.eq T n)
noncomputable def slices_symMergeC_F.e (T : Table) : Entry := slices_symMergeC_F.el T 40
theorem slices_symMergeC_F.ok (T : Table) (hT : TabOK Tryz.prog T) : EntryOK Tryz.prog 148 (slices_symMergeC_F.e T) := slices_symMergeC_F.okl T hT 40
noncomputable def slices_stableC_F.tb (T : Table) : Table := tab [] [] T
theorem slices_stableC_F.tbok (T : Table) (hT : TabOK Tryz.prog T) : TabOK Tryz.prog (slices_stableC_F.tb T) := TabOK.tab (hT) (all_nil _) (all_nil _)
noncomputable def slices_stableC_F.loop1 (T : Table) (a0 : SV) (a1 : Int) (a2 : V) : (Int × Int) × H → Option (Stp ((Int × Int) × H) (Flow (Int) (Unit) × H)) := fun ((y1, y2), h3) =>
(bif (decide (y2 ≤ a1)) then ((slices_insertionSortC_F (slices_stableC_F.tb T) a0 y1 y2 a2 h3).bind fun (_, h4) =>
(some (.more ((y2, (IntKind.wrap .i64 (y2 + 20))), h4)))) else (some (.done (.ex0 y1, h3))))
noncomputable def slices_stableC_F.loop2 (T : Table) (a0 : SV) (a1 : Int) (a2 : V) (y10 : Int) : (Int × Int) × H → Option (Stp ((Int × Int) × H) (Flow (Int) (Unit) × H)) := fun ((y12, y13), h14) =>
(bif (decide (y13 ≤ a1)) then ((slices_symMergeC_F (slices_stableC_F.tb T) a0 y12 (IntKind.wrap .i64 (y12 + y10)) y13 a2 h14).bind fun (_, h15) =>
(some (.more ((y13, (IntKind.wrap .i64 (y13 + (IntKind.wrap .i64 (2 * y10))))), h15)))) else (some (.done (.ex0 y12, h14))))
noncomputable def slices_stableC_F.loop3 (T : Table) (a0 : SV) (a1 : Int) (a2 : V) : (Int) × H → Option (Stp ((Int) × H) (Flow (Unit) (Unit) × H)) := fun (y10, h11) =>
(bif (decide (y10 < a1)) then ((iter FUEL (slices_stableC_F.loop2 T a0 a1 a2 y10) ((0, (IntKind.wrap .i64 (2 * y10))), h11)).bind fun (fl17, h16) => match fl17 with
| .next _ => none
| .ret rr18 => (some (.done (.ret rr18, h16)))
| .ex0 y19 =>
((bif (decide ((IntKind.wrap .i64 (y19 + y10)) < a1)) then ((slices_symMergeC_F (slices_stableC_F.tb T) a0 y19 (IntKind.wrap .i64 (y19 + y10)) a1 a2 h16).bind fun (_, h20) =>
(some (.next (), h20))) else (some (.next (), h16)) : Option (Flow (Unit) (Unit) × H)).bind fun (fl22, h21) => match fl22 with
| .next _ =>
(some (.more ((IntKind.wrap .i64 (y10 * 2)), h21)))
| .ret rr23 => (some (.done (.ret rr23, h21)))
| .ex0 _ => none
| .ex1 _ => none)
| .ex1 _ => none) else (some (.done (.ex0 (), h11))))
noncomputable def slices_stableC_F (T : Table) (a0 : SV) (a1 : Int) (a2 : V) (h : H) : Option ((Unit) × H) :=
((iter FUEL (slices_stableC_F.loop1 T a0 a1 a2) ((0, 20), h)).bind fun (fl6, h5) => match fl6 with
| .next _ => none
| .ret rr7 => (some (rr7, h5))
| .ex0 y8 =>
((slices_insertionSortC_F (slices_stableC_F.tb T) a0 y8 a1 a2 h5).bind fun (_, h9) =>
((iter FUEL (slices_stableC_F.loop3 T a0 a1 a2) (20, h9)).bind fun (fl25, h24) => match fl25 with
| .next _ => none
| .ret rr26 => (some (rr26, h24))
| .ex0 _ =>
(some ((), h24))
| .ex1 _ => none))
| .ex1 _ => none)
def slices_stableC_F.A : Ann := { lits := [], conds := [(54, [], [], none, none)], loops := [(2, [7, 8], [.leaf (.int .i64), .leaf (.int .i64)], [7], [.leaf (.int .i64)], some 0, none), (9, [7, 8], [.leaf (.int .i64), .leaf (.int .i64)], [7], [.leaf (.int .i64)], some 4, none), (7, [6], [.leaf (.int .i64)], [], [], some 2, none)], regs := [] }
noncomputable def slices_stableC_F.tc (T : Table) : Table := tab [(112, slices_insertionSortC_F.e (slices_stableC_F.tb T)), (148, slices_symMergeC_F.e (slices_stableC_F.tb T))] [] (slices_stableC_F.tb T)
theorem slices_stableC_F.tcok (T : Table) (hT : TabOK Tryz.prog T) : TabOK Tryz.prog (slices_stableC_F.tc T) := TabOK.tab (slices_stableC_F.tbok T hT) (all_cons (slices_insertionSortC_F.ok _ (slices_stableC_F.tbok T hT)) (all_cons (slices_symMergeC_F.ok _ (slices_stableC_F.tbok T hT)) (all_nil _))) (all_nil _)
theorem slices_stableC_F.eq (T : Table) : ∀ (x : TT [.leaf .slice, .leaf (.int .i64), .leaf .dyn]) (h : H), evalFn Tryz.prog (slices_stableC_F.tc T) slices_stableC_F.A Tryz.f145 (.many []) (TT.un [.leaf .slice, .leaf (.int .i64), .leaf .dyn] x) h = slices_stableC_F T x.1 x.2.1 x.2.2 h := by
  intro x h
  kernel_rfl
noncomputable def slices_stableC_F.e (T : Table) : Entry := mkX [.leaf .slice, .leaf (.int .i64), .leaf .dyn] (.many []) fun x h => slices_stableC_F T x.1 x.2.1 x.2.2 h
theorem slices_stableC_F.ok (T : Table) (hT : TabOK Tryz.prog T) : EntryOK Tryz.prog 145 (slices_stableC_F.e T) := mkX_ok (slices_stableC_F.tcok T hT) Tryz.mixed Tryz.func145 (by kernel_rfl) (slices_stableC_F.eq T)
noncomputable def slices_SortStableFunc_F2.tb (T : Table) : Table := tab [] [] T
theorem slices_SortStableFunc_F2.tbok (T : Table) (hT : TabOK Tryz.prog T) : TabOK Tryz.prog (slices_SortStableFunc_F2.tb T) := TabOK.tab (hT) (all_nil _) (all_nil _)
noncomputable def slices_SortStableFunc_F2 (T : Table) (a0 : SV) (a1 : V) (h : H) : Option ((Unit) × H) :=
((slices_stableC_F (slices_SortStableFunc_F2.tb T) a0 ((a0.len : Nat) : Int) a1 h).bind fun (_, h1) =>
(some ((), h1)))
def slices_SortStableFunc_F2.A : Ann := { lits := [], conds := [], loops := [], regs := [] }
noncomputable def slices_SortStableFunc_F2.tc (T : Table) : Table := tab [(145, slices_stableC_F.e (slices_SortStableFunc_F2.tb T))] [] (slices_SortStableFunc_F2.tb T)
theorem slices_SortStableFunc_F2.tcok (T : Table) (hT : TabOK Tryz.prog T) : TabOK Tryz.prog (slices_SortStableFunc_F2.tc T) := TabOK.tab (slices_SortStableFunc_F2.tbok T hT) (all_cons (slices_stableC_F.ok _ (slices_SortStableFunc_F2.tbok T hT)) (all_nil _)) (all_nil _)
theorem slices_SortStableFunc_F2.eq (T : Table) : ∀ (x : TT [.leaf .slice, .leaf .dyn]) (h : H), evalFn Tryz.prog (slices_SortStableFunc_F2.tc T) slices_SortStableFunc_F2.A Tryz.f131 (.many []) (TT.un [.leaf .slice, .leaf .dyn] x) h = slices_SortStableFunc_F2 T x.1 x.2 h := by
  intro x h
  kernel_rfl
noncomputable def slices_SortStableFunc_F2.e (T : Table) : Entry := mkX [.leaf .slice, .leaf .dyn] (.many []) fun x h => slices_SortStableFunc_F2 T x.1 x.2 h
theorem slices_SortStableFunc_F2.ok (T : Table) (hT : TabOK Tryz.prog T) : EntryOK Tryz.prog 131 (slices_SortStableFunc_F2.e T) := mkX_ok (slices_SortStableFunc_F2.tcok T hT) Tryz.mixed Tryz.func131 (by kernel_rfl) (slices_SortStableFunc_F2.eq T)
noncomputable def fact_Sort.tb : Table := tab [(130, fact_copiedP.e)] [(33, fact_CompareP.e)] Table.nil
theorem fact_Sort.tbok : TabOK Tryz.prog (fact_Sort.tb) := TabOK.tab (TabOK.nil Tryz.prog) (all_cons fact_copiedP.ok (all_nil _)) (all_cons fact_CompareP.ok (all_nil _))
noncomputable def fact_Sort.loop1 (a0 : SV) : (SV × Int) × H → Option (Stp ((SV × Int) × H) (Flow (SV) (SV) × H)) := fun ((y1, y2), h3) =>
(bif (decide (y2 < ((a0.len : Nat) : Int))) then (guardO (0 ≤ y2 ∧ y2 < ((a0.len : Nat) : Int)) ((rdT (.agg FS) h3 (V.add a0.a (Int.toNat y2 * 6))).bind fun (x4_0, x4_1, x4_2, x4_3, x4_4, x4_5) =>
(let h5 : H := H.new h3 [.int .i64 0, .int .i64 0, .int .i64 0, .int .i64 0, .slice .nil 0 0 false, .slice .nil 0 0 false] 6
((H.wrs h5 (.hp h3.next 6 0) [.int .i64 x4_0, .int .i64 x4_1, .int .i64 x4_2, .int .i64 x4_3, .slice x4_4.a x4_4.len x4_4.cap x4_4.tail, .slice x4_5.a x4_5.len x4_5.cap x4_5.tail]).bind fun h6 =>
((rdT (.agg FS) h6 (.hp h3.next 6 0)).bind fun (x7_0, x7_1, x7_2, x7_3, x7_4, x7_5) =>
((rdRow true h6 [.int .i64] x7_4).bind fun s9 =>
((rdRow true h6 [.str] x7_5).bind fun s10 =>
((fact_copiedP (x7_0, x7_1, x7_2, x7_3, s9, s10)).bind fun (r8_0, r8_1, r8_2, r8_3, r8_4, r8_5) =>
((appendS h6 none 6 80 y1 [.int .i64 r8_0, .int .i64 r8_1, .int .i64 r8_2, .int .i64 r8_3, .slice ((rowSV true [.int .i64] r8_4).a) r8_4.length r8_4.length true, .slice ((rowSV true [.str] r8_5).a) r8_5.length r8_5.length true] 1).bind fun (s13, h12) =>
(some (.more ((s13, (IntKind.wrap .i64 (y2 + 1))), h12)))))))))))) else (some (.done (.ex0 y1, h3))))
noncomputable def fact_Sort (a0 : SV) (h : H) : Option ((SV) × H) :=
((iter FUEL (fact_Sort.loop1 a0) ((⟨.nil, 0, 0, false⟩, 0), h)).bind fun (fl16, h15) => match fl16 with
| .next _ => none
| .ret rr17 => (some (rr17, h15))
| .ex0 y18 =>
((slices_SortStableFunc_F2 fact_Sort.tb y18 (.func 33 [] : V) h15).bind fun (_, h19) =>
(some (y18, h19)))
| .ex1 _ => none)
def fact_Sort.A : Ann := { lits := [], conds := [], loops := [(3, [3, 8], [.leaf .slice, .leaf (.int .i64)], [3], [.leaf .slice], some 0, none)], regs := [] }
noncomputable def fact_Sort.tc : Table := tab [(131, slices_SortStableFunc_F2.e (fact_Sort.tb))] [] (fact_Sort.tb)
theorem fact_Sort.tcok : TabOK Tryz.prog (fact_Sort.tc) := TabOK.tab (fact_Sort.tbok) (all_cons (slices_SortStableFunc_F2.ok _ (fact_Sort.tbok)) (all_nil _)) (all_nil _)
theorem fact_Sort.eq : ∀ (x : TT [.leaf .slice]) (h : H), evalFn Tryz.prog (fact_Sort.tc) fact_Sort.A Tryz.f97 (.one (.leaf .slice)) (TT.un [.leaf .slice] x) h = fact_Sort x h := by
  intro x h
  kernel_rfl
noncomputable def fact_Sort.e : Entry := mkX [.leaf .slice] (.one (.leaf .slice)) fun x h => fact_Sort x h
theorem fact_Sort.ok : EntryOK Tryz.prog 97 (fact_Sort.e) := mkX_ok (fact_Sort.tcok) Tryz.mixed Tryz.func97 (by kernel_rfl) (fact_Sort.eq)
noncomputable def arrival_set.tb : Table := tab [(97, fact_Sort.e)] [(70, arrival_sameP.e)] Table.nil
theorem arrival_set.tbok : TabOK Tryz.prog (arrival_set.tb) := TabOK.tab (TabOK.nil Tryz.prog) (all_cons fact_Sort.ok (all_nil _)) (all_cons arrival_sameP.ok (all_nil _))
noncomputable def arrival_set (a0 : SV) (h : H) : Option ((SV) × H) :=
((fact_Sort a0 h).bind fun (r1, h2) =>
((slices_CompactFunc_F2 arrival_set.tb r1 (.func 70 [] : V) h2).bind fun (r3, h4) =>
(some (r3, h4))))
def arrival_set.A : Ann := { lits := [], conds := [], loops := [], regs := [] }
noncomputable def arrival_set.tc : Table := tab [(96, slices_CompactFunc_F2.e (arrival_set.tb))] [] (arrival_set.tb)
theorem arrival_set.tcok : TabOK Tryz.prog (arrival_set.tc) := TabOK.tab (arrival_set.tbok) (all_cons (slices_CompactFunc_F2.ok _ (arrival_set.tbok)) (all_nil _)) (all_nil _)
theorem arrival_set.eq : ∀ (x : TT [.leaf .slice]) (h : H), evalFn Tryz.prog (arrival_set.tc) arrival_set.A Tryz.f67 (.one (.leaf .slice)) (TT.un [.leaf .slice] x) h = arrival_set x h := by
  intro x h
  kernel_rfl
noncomputable def arrival_set.e : Entry := mkX [.leaf .slice] (.one (.leaf .slice)) fun x h => arrival_set x h
theorem arrival_set.ok : EntryOK Tryz.prog 67 (arrival_set.e) := mkX_ok (arrival_set.tcok) Tryz.mixed Tryz.func67 (by kernel_rfl) (arrival_set.eq)
noncomputable def arrival_setP (a0 : (List Fct)) : Option ((List Fct)) := (arrival_set (rowSV false FC a0) H.empty).bind fun p => rdRes false p.2 (.one (.leaf (.row FC))) (Res.un (.one (.leaf .slice)) p.1)
theorem arrival_setP.eq : ∀ x : TT [.leaf (.row FC)], ((evalFn Tryz.prog (arrival_set.tc) arrival_set.A Tryz.f67 (.one (.leaf .slice)) (TT.lo false [.leaf (.row FC)] x) H.empty).bind fun p => rdRes false p.2 (.one (.leaf (.row FC))) (Res.un (.one (.leaf .slice)) p.1)) = arrival_setP x := by
  intro x
  rw [show TT.lo false [.leaf (.row FC)] x = TT.un [.leaf .slice] ((rowSV false FC x)) from rfl, arrival_set.eq]
  rfl
noncomputable def arrival_setP.e : Entry := mkP [.leaf (.row FC)] (.one (.leaf (.row FC))) fun x => arrival_setP x
theorem arrival_setP.ok : EntryOK Tryz.prog 67 (arrival_setP.e) := mkP_ok (arrival_set.tcok) Tryz.mixed Tryz.func67 (by kernel_rfl) arrival_setP.eq
noncomputable def slices_Equal_K2.tb : Table := tab [] [] Table.nil
theorem slices_Equal_K2.tbok : TabOK Tryz.prog (slices_Equal_K2.tb) := TabOK.tab (TabOK.nil Tryz.prog) (all_nil _) (all_nil _)
noncomputable def slices_Equal_K2.loop1 (a0 : SV) (a1 : SV) : (Int) × H → Option (Stp ((Int) × H) (Flow (Unit) (Bool) × H)) := fun (y1, h2) =>
(bif (decide (y1 < ((a0.len : Nat) : Int))) then (let h3 : H := H.reserve h2 0
(guardO (0 ≤ y1 ∧ y1 < ((a0.len : Nat) : Int)) ((rdT (.agg KC) h3 (V.add a0.a (Int.toNat y1 * 3))).bind fun (x4_0, x4_1, x4_2) =>
(guardO (0 ≤ y1 ∧ y1 < ((a1.len : Nat) : Int)) ((rdT (.agg KC) h3 (V.add a1.a (Int.toNat y1 * 3))).bind fun (x5_0, x5_1, x5_2) =>
(bif (!(decide (x4_0 = x5_0) && (decide (x4_1 = x5_1) && (decide (x4_2 = x5_2))))) then (some (.done (.ret false, h3))) else (some (.more ((IntKind.wrap .i64 (y1 + 1)), h3))))))))) else (some (.done (.ex0 (), h2))))
noncomputable def slices_Equal_K2 (a0 : SV) (a1 : SV) (h : H) : Option ((Bool) × H) :=
(bif (!(decide (((a0.len : Nat) : Int) = ((a1.len : Nat) : Int)))) then (some (false, h)) else ((iter FUEL (slices_Equal_K2.loop1 a0 a1) (0, h)).bind fun (fl7, h6) => match fl7 with
| .next _ => none
| .ret rr8 => (some (rr8, h6))
| .ex0 _ =>
(some (true, h6))
| .ex1 _ => none))
def slices_Equal_K2.A : Ann := { lits := [], conds := [], loops := [(4, [13], [.leaf (.int .i64)], [], [], some 0, none)], regs := [] }
theorem slices_Equal_K2.eq : ∀ (x : TT [.leaf .slice, .leaf .slice]) (h : H), evalFn Tryz.prog (slices_Equal_K2.tb) slices_Equal_K2.A Tryz.f18 (.one (.leaf .bool)) (TT.un [.leaf .slice, .leaf .slice] x) h = slices_Equal_K2 x.1 x.2 h := by
  intro x h
  kernel_rfl
noncomputable def slices_Equal_K2P (a0 : (List Ky)) (a1 : (List Ky)) : Option (Bool) := (slices_Equal_K2 (rowSV false KC a0) (rowSV false KC a1) H.empty).bind fun p => rdRes false p.2 (.one (.leaf .bool)) (Res.un (.one (.leaf .bool)) p.1)
theorem slices_Equal_K2P.eq : ∀ x : TT [.leaf (.row KC), .leaf (.row KC)], ((evalFn Tryz.prog (slices_Equal_K2.tb) slices_Equal_K2.A Tryz.f18 (.one (.leaf .bool)) (TT.lo false [.leaf (.row KC), .leaf (.row KC)] x) H.empty).bind fun p => rdRes false p.2 (.one (.leaf .bool)) (Res.un (.one (.leaf .bool)) p.1)) = slices_Equal_K2P x.1 x.2 := by
  intro x
  rw [show TT.lo false [.leaf (.row KC), .leaf (.row KC)] x = TT.un [.leaf .slice, .leaf .slice] ((rowSV false KC x.1), (rowSV false KC x.2)) from rfl, slices_Equal_K2.eq]
  rfl
noncomputable def slices_Equal_K2P.e : Entry := mkP [.leaf (.row KC), .leaf (.row KC)] (.one (.leaf .bool)) fun x => slices_Equal_K2P x.1 x.2
theorem slices_Equal_K2P.ok : EntryOK Tryz.prog 18 (slices_Equal_K2P.e) := mkP_ok (slices_Equal_K2.tbok) Tryz.mixed Tryz.func18 (by kernel_rfl) slices_Equal_K2P.eq
noncomputable def arrival_Add_1.tb : Table := tab [(70, arrival_sameP.e)] [] Table.nil
theorem arrival_Add_1.tbok : TabOK Tryz.prog (arrival_Add_1.tb) := TabOK.tab (TabOK.nil Tryz.prog) (all_cons arrival_sameP.ok (all_nil _)) (all_nil _)
noncomputable def arrival_Add_1 (a0 : Fsv) (a1 : V) (h : H) : Option ((Bool) × H) :=
(match a0 with
| (a0_0, a0_1, a0_2, a0_3, a0_4, a0_5) =>
(let h1 : H := H.new h [.int .i64 a0_0, .int .i64 a0_1, .int .i64 a0_2, .int .i64 a0_3, .slice a0_4.a a0_4.len a0_4.cap a0_4.tail, .slice a0_5.a a0_5.len a0_5.cap a0_5.tail] 6
((rdT (.agg FS) h1 a1).bind fun (x2_0, x2_1, x2_2, x2_3, x2_4, x2_5) =>
((rdT (.agg FS) h1 (.hp h.next 6 0)).bind fun (x3_0, x3_1, x3_2, x3_3, x3_4, x3_5) =>
((rdRow true h1 [.int .i64] x2_4).bind fun s5 =>
((rdRow true h1 [.str] x2_5).bind fun s6 =>
((rdRow true h1 [.int .i64] x3_4).bind fun s7 =>
((rdRow true h1 [.str] x3_5).bind fun s8 =>
((arrival_sameP (x2_0, x2_1, x2_2, x2_3, s5, s6) (x3_0, x3_1, x3_2, x3_3, s7, s8)).bind fun r4 =>
(some (r4, h1)))))))))))
def arrival_Add_1.A : Ann := { lits := [], conds := [], loops := [], regs := [] }
theorem arrival_Add_1.eq : ∀ (x : TT [.agg FS, .leaf .ptr]) (h : H), evalFn Tryz.prog (arrival_Add_1.tb) arrival_Add_1.A Tryz.f69 (.one (.leaf .bool)) (TT.un [.agg FS, .leaf .ptr] x) h = arrival_Add_1 x.1 x.2 h := by
  intro x h
  kernel_rfl
noncomputable def arrival_Add_1.e : Entry := mkX [.agg FS, .leaf .ptr] (.one (.leaf .bool)) fun x h => arrival_Add_1 x.1 x.2 h
theorem arrival_Add_1.ok : EntryOK Tryz.prog 69 (arrival_Add_1.e) := mkX_ok (arrival_Add_1.tbok) Tryz.mixed Tryz.func69 (by kernel_rfl) (arrival_Add_1.eq)
noncomputable def arrival_Add.tb : Table := tab [(52, arrival_checkP.e), (67, arrival_set.e), (68, fact_CheckP.e)] [(69, arrival_Add_1.e)] Table.nil
theorem arrival_Add.tbok : TabOK Tryz.prog (arrival_Add.tb) := TabOK.tab (TabOK.nil Tryz.prog) (all_cons arrival_checkP.ok (all_cons arrival_set.ok (all_cons fact_CheckP.ok (all_nil _)))) (all_cons arrival_Add_1.ok (all_nil _))
noncomputable def arrival_Add (a0 : SV) (a1 : Fsv) (h : H) : Option ((SV × Bool × Int) × H) :=
(match a1 with
| (a1_0, a1_1, a1_2, a1_3, a1_4, a1_5) =>
(let h1 : H := H.new h [.int .i64 a1_0, .int .i64 a1_1, .int .i64 a1_2, .int .i64 a1_3, .slice a1_4.a a1_4.len a1_4.cap a1_4.tail, .slice a1_5.a a1_5.len a1_5.cap a1_5.tail] 6
((rdRow true h1 FC a0).bind fun s3 =>
((arrival_checkP s3).bind fun r2 =>
((arrival_set a0 h1).bind fun (r4, h5) =>
(bif (!(decide (r2 = 0))) then (some ((⟨.nil, 0, 0, false⟩, false, r2), h5)) else ((rdT (.agg FS) h5 (.hp h.next 6 0)).bind fun (x6_0, x6_1, x6_2, x6_3, x6_4, x6_5) =>
((rdRow true h5 [.int .i64] x6_4).bind fun s8 =>
((rdRow true h5 [.str] x6_5).bind fun s9 =>
((fact_CheckP (x6_0, x6_1, x6_2, x6_3, s8, s9)).bind fun r7 =>
(bif (!(decide (r7 = 0))) then (some ((⟨.nil, 0, 0, false⟩, false, 1), h5)) else ((slices_ContainsFunc_F2 arrival_Add.tb r4 (.func 69 [.hp h.next 6 0] : V) h5).bind fun (r10, h11) =>
(((bif (decide (((r4.len : Nat) : Int) = 1024)) then (some ((!r10), h11)) else (some (false, h11)))).bind fun (y12, h13) =>
(bif y12 then (some ((⟨.nil, 0, 0, false⟩, false, 12), h13)) else ((rdT (.agg FS) h13 (.hp h.next 6 0)).bind fun (x14_0, x14_1, x14_2, x14_3, x14_4, x14_5) =>
((appendS h13 none 6 80 r4 [.int .i64 x14_0, .int .i64 x14_1, .int .i64 x14_2, .int .i64 x14_3, .slice x14_4.a x14_4.len x14_4.cap x14_4.tail, .slice x14_5.a x14_5.len x14_5.cap x14_5.tail] 1).bind fun (s17, h16) =>
((arrival_set s17 h16).bind fun (r19, h20) =>
(some ((r19, (!r10), 0), h20)))))))))))))))))))
def arrival_Add.A : Ann := { lits := [], conds := [], loops := [], regs := [(8, [31], [.leaf .bool])] }
noncomputable def arrival_Add.tc : Table := tab [(31, slices_ContainsFunc_F2.e (arrival_Add.tb))] [] (arrival_Add.tb)
theorem arrival_Add.tcok : TabOK Tryz.prog (arrival_Add.tc) := TabOK.tab (arrival_Add.tbok) (all_cons (slices_ContainsFunc_F2.ok _ (arrival_Add.tbok)) (all_nil _)) (all_nil _)
theorem arrival_Add.eq : ∀ (x : TT [.leaf .slice, .agg FS]) (h : H), evalFn Tryz.prog (arrival_Add.tc) arrival_Add.A Tryz.f20 (.many [.leaf .slice, .leaf .bool, .leaf (.int .i64)]) (TT.un [.leaf .slice, .agg FS] x) h = arrival_Add x.1 x.2 h := by
  intro x h
  kernel_rfl
noncomputable def arrival_AddP (a0 : (List Fct)) (a1 : Fct) : Option ((List Fct) × Bool × Int) := (arrival_Add (rowSV false FC a0) (a1.1, a1.2.1, a1.2.2.1, a1.2.2.2.1, rowSV false [.int .i64] a1.2.2.2.2.1, rowSV false [.str] a1.2.2.2.2.2) H.empty).bind fun p => rdRes false p.2 (.many [.leaf (.row FC), .leaf .bool, .leaf (.int .i64)]) (Res.un (.many [.leaf .slice, .leaf .bool, .leaf (.int .i64)]) p.1)
theorem arrival_AddP.eq : ∀ x : TT [.leaf (.row FC), .agg FC], ((evalFn Tryz.prog (arrival_Add.tc) arrival_Add.A Tryz.f20 (.many [.leaf .slice, .leaf .bool, .leaf (.int .i64)]) (TT.lo false [.leaf (.row FC), .agg FC] x) H.empty).bind fun p => rdRes false p.2 (.many [.leaf (.row FC), .leaf .bool, .leaf (.int .i64)]) (Res.un (.many [.leaf .slice, .leaf .bool, .leaf (.int .i64)]) p.1)) = arrival_AddP x.1 x.2 := by
  intro x
  rw [show TT.lo false [.leaf (.row FC), .agg FC] x = TT.un [.leaf .slice, .agg FS] ((rowSV false FC x.1), (x.2.1, x.2.2.1, x.2.2.2.1, x.2.2.2.2.1, rowSV false [.int .i64] x.2.2.2.2.2.1, rowSV false [.str] x.2.2.2.2.2.2)) from rfl, arrival_Add.eq]
  rfl
noncomputable def arrival_AddP.e : Entry := mkP [.leaf (.row FC), .agg FC] (.many [.leaf (.row FC), .leaf .bool, .leaf (.int .i64)]) fun x => arrival_AddP x.1 x.2
theorem arrival_AddP.ok : EntryOK Tryz.prog 20 (arrival_AddP.e) := mkP_ok (arrival_Add.tcok) Tryz.mixed Tryz.func20 (by kernel_rfl) arrival_AddP.eq
noncomputable def r53_Copy.tb : Table := tab [] [] Table.nil
theorem r53_Copy.tbok : TabOK Tryz.prog (r53_Copy.tb) := TabOK.tab (TabOK.nil Tryz.prog) (all_nil _) (all_nil _)
noncomputable def r53_Copy (a0 : Fsv) (h : H) : Option ((Fsv) × H) :=
(match a0 with
| (a0_0, a0_1, a0_2, a0_3, a0_4, a0_5) =>
(let h1 : H := H.new h [.int .i64 a0_0, .int .i64 a0_1, .int .i64 a0_2, .int .i64 a0_3, .slice a0_4.a a0_4.len a0_4.cap a0_4.tail, .slice a0_5.a a0_5.len a0_5.cap a0_5.tail] 6
(let h2 : H := H.new h1 [.int .i64 0, .int .i64 0, .int .i64 0, .int .i64 0, .slice .nil 0 0 false, .slice .nil 0 0 false] 6
((rdT (.leaf .slice) h2 (.hp h.next 6 4)).bind fun x3 =>
((cellsOf h2 (.slice x3.a x3.len x3.cap x3.tail : V) 1).bind fun (n6, cs6) =>
((appendS h2 none 1 8 (⟨.nil, 0, 0, false⟩) cs6 n6).bind fun (s6, h5) =>
((H.wrs h5 (.hp h.next 6 4) [.slice s6.a s6.len s6.cap s6.tail]).bind fun h9 =>
((rdT (.leaf .slice) h9 (.hp h.next 6 5)).bind fun x10 =>
((cellsOf h9 (.slice x10.a x10.len x10.cap x10.tail : V) 1).bind fun (n13, cs13) =>
((appendS h9 none 1 16 (⟨.nil, 0, 0, false⟩) cs13 n13).bind fun (s13, h12) =>
((H.wrs h12 (.hp h.next 6 5) [.slice s13.a s13.len s13.cap s13.tail]).bind fun h16 =>
((rdT (.agg FS) h16 (.hp h.next 6 0)).bind fun (x17_0, x17_1, x17_2, x17_3, x17_4, x17_5) =>
((H.wrs h16 (.hp h1.next 6 0) [.int .i64 x17_0, .int .i64 x17_1, .int .i64 x17_2, .int .i64 x17_3, .slice x17_4.a x17_4.len x17_4.cap x17_4.tail, .slice x17_5.a x17_5.len x17_5.cap x17_5.tail]).bind fun h18 =>
((rdT (.agg FS) h18 (.hp h1.next 6 0 : V)).bind fun (x19_0, x19_1, x19_2, x19_3, x19_4, x19_5) =>
(some ((x19_0, x19_1, x19_2, x19_3, x19_4, x19_5), h18))))))))))))))))
def r53_Copy.A : Ann := { lits := [], conds := [], loops := [], regs := [] }
theorem r53_Copy.eq : ∀ (x : TT [.agg FS]) (h : H), evalFn Tryz.prog (r53_Copy.tb) r53_Copy.A Tryz.f21 (.one (.agg FS)) (TT.un [.agg FS] x) h = r53_Copy x h := by
  intro x h
  kernel_rfl
noncomputable def r53_CopyP (a0 : Fct) : Option (Fct) := (r53_Copy (a0.1, a0.2.1, a0.2.2.1, a0.2.2.2.1, rowSV false [.int .i64] a0.2.2.2.2.1, rowSV false [.str] a0.2.2.2.2.2) H.empty).bind fun p => rdRes false p.2 (.one (.agg FC)) (Res.un (.one (.agg FS)) p.1)
theorem r53_CopyP.eq : ∀ x : TT [.agg FC], ((evalFn Tryz.prog (r53_Copy.tb) r53_Copy.A Tryz.f21 (.one (.agg FS)) (TT.lo false [.agg FC] x) H.empty).bind fun p => rdRes false p.2 (.one (.agg FC)) (Res.un (.one (.agg FS)) p.1)) = r53_CopyP x := by
  intro x
  rw [show TT.lo false [.agg FC] x = TT.un [.agg FS] ((x.1, x.2.1, x.2.2.1, x.2.2.2.1, rowSV false [.int .i64] x.2.2.2.2.1, rowSV false [.str] x.2.2.2.2.2)) from rfl, r53_Copy.eq]
  rfl
noncomputable def r53_CopyP.e : Entry := mkP [.agg FC] (.one (.agg FC)) fun x => r53_CopyP x
theorem r53_CopyP.ok : EntryOK Tryz.prog 21 (r53_CopyP.e) := mkP_ok (r53_Copy.tbok) Tryz.mixed Tryz.func21 (by kernel_rfl) r53_CopyP.eq
noncomputable def slices_BinarySearchFunc_F3.tb (T : Table) : Table := tab [] [] T
theorem slices_BinarySearchFunc_F3.tbok (T : Table) (hT : TabOK Tryz.prog T) : TabOK Tryz.prog (slices_BinarySearchFunc_F3.tb T) := TabOK.tab (hT) (all_nil _) (all_nil _)
noncomputable def slices_BinarySearchFunc_F3.loop1 (T : Table) (h : H) (a0 : SV) (a2 : V) : (Int × Int) × H → Option (Stp ((Int × Int) × H) (Flow (Int) (Int × Bool) × H)) := fun ((y2, y3), h4) =>
(bif (decide (y2 < y3)) then (let h5 : H := H.reserve h4 0
(guardO (0 ≤ (IntKind.wrap .i64 ((Int.fdiv (IntKind.wrap .u64 ((IntKind.wrap .i64 (y2 + y3)))) (2 ^ (min (Int.toNat 1) (IntKind.bits .u64)))))) ∧ (IntKind.wrap .i64 ((Int.fdiv (IntKind.wrap .u64 ((IntKind.wrap .i64 (y2 + y3)))) (2 ^ (min (Int.toNat 1) (IntKind.bits .u64)))))) < ((a0.len : Nat) : Int)) ((rdT (.agg FS) h5 (V.add a0.a (Int.toNat (IntKind.wrap .i64 ((Int.fdiv (IntKind.wrap .u64 ((IntKind.wrap .i64 (y2 + y3)))) (2 ^ (min (Int.toNat 1) (IntKind.bits .u64)))))) * 6))).bind fun (x6_0, x6_1, x6_2, x6_3, x6_4, x6_5) =>
((rdT (.agg FS) h5 (.hp h.next 6 0)).bind fun (x7_0, x7_1, x7_2, x7_3, x7_4, x7_5) =>
(callV T.dy a2 [.agg [.int .i64 x6_0, .int .i64 x6_1, .int .i64 x6_2, .int .i64 x6_3, .slice x6_4.a x6_4.len x6_4.cap x6_4.tail, .slice x6_5.a x6_5.len x6_5.cap x6_5.tail], .agg [.int .i64 x7_0, .int .i64 x7_1, .int .i64 x7_2, .int .i64 x7_3, .slice x7_4.a x7_4.len x7_4.cap x7_4.tail, .slice x7_5.a x7_5.len x7_5.cap x7_5.tail]] h5 fun v8 h9 =>
(Res.pack (.one (.leaf (.int .i64))) v8).bind fun r10 =>
((bif (decide (r10 < 0)) then (some (.next ((IntKind.wrap .i64 ((IntKind.wrap .i64 ((Int.fdiv (IntKind.wrap .u64 ((IntKind.wrap .i64 (y2 + y3)))) (2 ^ (min (Int.toNat 1) (IntKind.bits .u64)))))) + 1)), y3), h9)) else (some (.next (y2, (IntKind.wrap .i64 ((Int.fdiv (IntKind.wrap .u64 ((IntKind.wrap .i64 (y2 + y3)))) (2 ^ (min (Int.toNat 1) (IntKind.bits .u64))))))), h9)) : Option (Flow (Int × Int) (Int × Bool) × H)).bind fun (fl12, h11) => match fl12 with
| .next (y13, y14) =>
(some (.more ((y13, y14), h11)))
| .ret rr15 => (some (.done (.ret rr15, h11)))
| .ex0 _ => none
| .ex1 _ => none)))))) else (some (.done (.ex0 y2, h4))))
noncomputable def slices_BinarySearchFunc_F3 (T : Table) (a0 : SV) (a1 : Fsv) (a2 : V) (h : H) : Option ((Int × Bool) × H) :=
(match a1 with
| (a1_0, a1_1, a1_2, a1_3, a1_4, a1_5) =>
(let h1 : H := H.new h [.int .i64 a1_0, .int .i64 a1_1, .int .i64 a1_2, .int .i64 a1_3, .slice a1_4.a a1_4.len a1_4.cap a1_4.tail, .slice a1_5.a a1_5.len a1_5.cap a1_5.tail] 6
((iter FUEL (slices_BinarySearchFunc_F3.loop1 T h a0 a2) ((0, ((a0.len : Nat) : Int)), h1)).bind fun (fl17, h16) => match fl17 with
| .next _ => none
| .ret rr18 => (some (rr18, h16))
| .ex0 y19 =>
(((let h20 : H := H.reserve h16 0
(bif (decide (y19 < ((a0.len : Nat) : Int))) then (guardO (0 ≤ y19 ∧ y19 < ((a0.len : Nat) : Int)) ((rdT (.agg FS) h20 (V.add a0.a (Int.toNat y19 * 6))).bind fun (x21_0, x21_1, x21_2, x21_3, x21_4, x21_5) =>
((rdT (.agg FS) h20 (.hp h.next 6 0)).bind fun (x22_0, x22_1, x22_2, x22_3, x22_4, x22_5) =>
(callV T.dy a2 [.agg [.int .i64 x21_0, .int .i64 x21_1, .int .i64 x21_2, .int .i64 x21_3, .slice x21_4.a x21_4.len x21_4.cap x21_4.tail, .slice x21_5.a x21_5.len x21_5.cap x21_5.tail], .agg [.int .i64 x22_0, .int .i64 x22_1, .int .i64 x22_2, .int .i64 x22_3, .slice x22_4.a x22_4.len x22_4.cap x22_4.tail, .slice x22_5.a x22_5.len x22_5.cap x22_5.tail]] h20 fun v23 h24 =>
(Res.pack (.one (.leaf (.int .i64))) v23).bind fun r25 =>
(some ((y19, (decide (r25 = 0))), h24)))))) else (some ((y19, false), h20))))).bind fun ((y26, y27), h28) =>
(some ((y26, y27), h28)))
| .ex1 _ => none)))
def slices_BinarySearchFunc_F3.A : Ann := { lits := [], conds := [(31, [9, 10], [.leaf (.int .i64), .leaf (.int .i64)], none, none)], loops := [(3, [9, 10], [.leaf (.int .i64), .leaf (.int .i64)], [9], [.leaf (.int .i64)], some 0, none)], regs := [(8, [6, 7], [.leaf (.int .i64), .leaf .bool])] }
theorem slices_BinarySearchFunc_F3.eq (T : Table) : ∀ (x : TT [.leaf .slice, .agg FS, .leaf .dyn]) (h : H), evalFn Tryz.prog (slices_BinarySearchFunc_F3.tb T) slices_BinarySearchFunc_F3.A Tryz.f107 (.many [.leaf (.int .i64), .leaf .bool]) (TT.un [.leaf .slice, .agg FS, .leaf .dyn] x) h = slices_BinarySearchFunc_F3 T x.1 x.2.1 x.2.2 h := by
  intro x h
  kernel_rfl
noncomputable def slices_BinarySearchFunc_F3.e (T : Table) : Entry := mkX [.leaf .slice, .agg FS, .leaf .dyn] (.many [.leaf (.int .i64), .leaf .bool]) fun x h => slices_BinarySearchFunc_F3 T x.1 x.2.1 x.2.2 h
theorem slices_BinarySearchFunc_F3.ok (T : Table) (hT : TabOK Tryz.prog T) : EntryOK Tryz.prog 107 (slices_BinarySearchFunc_F3.e T) := mkX_ok (slices_BinarySearchFunc_F3.tbok T hT) Tryz.mixed Tryz.func107 (by kernel_rfl) (slices_BinarySearchFunc_F3.eq T)
noncomputable def arrival_without.tb : Table := tab [] [(33, fact_CompareP.e)] Table.nil
theorem arrival_without.tbok : TabOK Tryz.prog (arrival_without.tb) := TabOK.tab (TabOK.nil Tryz.prog) (all_nil _) (all_cons fact_CompareP.ok (all_nil _))
noncomputable def arrival_without.loop1 (a0 : SV) (a1 : SV) : (SV × Int) × H → Option (Stp ((SV × Int) × H) (Flow (SV) (SV) × H)) := fun ((y1, y2), h3) =>
(bif (decide (y2 < ((a0.len : Nat) : Int))) then (guardO (0 ≤ y2 ∧ y2 < ((a0.len : Nat) : Int)) ((rdT (.agg FS) h3 (V.add a0.a (Int.toNat y2 * 6))).bind fun (x4_0, x4_1, x4_2, x4_3, x4_4, x4_5) =>
(let h5 : H := H.new h3 [.int .i64 0, .int .i64 0, .int .i64 0, .int .i64 0, .slice .nil 0 0 false, .slice .nil 0 0 false] 6
((H.wrs h5 (.hp h3.next 6 0) [.int .i64 x4_0, .int .i64 x4_1, .int .i64 x4_2, .int .i64 x4_3, .slice x4_4.a x4_4.len x4_4.cap x4_4.tail, .slice x4_5.a x4_5.len x4_5.cap x4_5.tail]).bind fun h6 =>
((rdT (.agg FS) h6 (.hp h3.next 6 0)).bind fun (x7_0, x7_1, x7_2, x7_3, x7_4, x7_5) =>
((slices_BinarySearchFunc_F3 arrival_without.tb a1 (x7_0, x7_1, x7_2, x7_3, x7_4, x7_5) (.func 33 [] : V) h6).bind fun ((r8, r9), h10) =>
((bif (!r9) then ((rdT (.agg FS) h10 (.hp h3.next 6 0)).bind fun (x11_0, x11_1, x11_2, x11_3, x11_4, x11_5) =>
((appendS h10 none 6 80 y1 [.int .i64 x11_0, .int .i64 x11_1, .int .i64 x11_2, .int .i64 x11_3, .slice x11_4.a x11_4.len x11_4.cap x11_4.tail, .slice x11_5.a x11_5.len x11_5.cap x11_5.tail] 1).bind fun (s14, h13) =>
(some (.next s14, h13)))) else (some (.next y1, h10)) : Option (Flow (SV) (SV) × H)).bind fun (fl17, h16) => match fl17 with
| .next y18 =>
(some (.more ((y18, (IntKind.wrap .i64 (y2 + 1))), h16)))
| .ret rr19 => (some (.done (.ret rr19, h16)))
| .ex0 _ => none
| .ex1 _ => none))))))) else (some (.done (.ex0 y1, h3))))
noncomputable def arrival_without (a0 : SV) (a1 : SV) (h : H) : Option ((SV) × H) :=
((iter FUEL (arrival_without.loop1 a0 a1) ((⟨.nil, 0, 0, false⟩, 0), h)).bind fun (fl21, h20) => match fl21 with
| .next _ => none
| .ret rr22 => (some (rr22, h20))
| .ex0 y23 =>
(some (y23, h20))
| .ex1 _ => none)
def arrival_without.A : Ann := { lits := [], conds := [(23, [5], [.leaf .slice], none, none)], loops := [(3, [5, 12], [.leaf .slice, .leaf (.int .i64)], [5], [.leaf .slice], some 0, none)], regs := [] }
noncomputable def arrival_without.tc : Table := tab [(107, slices_BinarySearchFunc_F3.e (arrival_without.tb))] [] (arrival_without.tb)
theorem arrival_without.tcok : TabOK Tryz.prog (arrival_without.tc) := TabOK.tab (arrival_without.tbok) (all_cons (slices_BinarySearchFunc_F3.ok _ (arrival_without.tbok)) (all_nil _)) (all_nil _)
theorem arrival_without.eq : ∀ (x : TT [.leaf .slice, .leaf .slice]) (h : H), evalFn Tryz.prog (arrival_without.tc) arrival_without.A Tryz.f73 (.one (.leaf .slice)) (TT.un [.leaf .slice, .leaf .slice] x) h = arrival_without x.1 x.2 h := by
  intro x h
  kernel_rfl
noncomputable def arrival_without.e : Entry := mkX [.leaf .slice, .leaf .slice] (.one (.leaf .slice)) fun x h => arrival_without x.1 x.2 h
theorem arrival_without.ok : EntryOK Tryz.prog 73 (arrival_without.e) := mkX_ok (arrival_without.tcok) Tryz.mixed Tryz.func73 (by kernel_rfl) (arrival_without.eq)
noncomputable def arrival_Differ.tb : Table := tab [(52, arrival_checkP.e), (67, arrival_setP.e), (73, arrival_without.e)] [] Table.nil
theorem arrival_Differ.tbok : TabOK Tryz.prog (arrival_Differ.tb) := TabOK.tab (TabOK.nil Tryz.prog) (all_cons arrival_checkP.ok (all_cons arrival_setP.ok (all_cons arrival_without.ok (all_nil _)))) (all_nil _)
noncomputable def arrival_Differ.loop1 (a0 : SV) (a1 : SV) : (Int) × H → Option (Stp ((Int) × H) (Flow (Unit) (SV × SV × Int) × H)) := fun (y1, h2) =>
(bif (decide (y1 < 2)) then (guardO (0 ≤ y1 ∧ y1 < ((2 : Nat) : Int)) ((rdT (.leaf .slice) h2 (.lp true ([.slice a0.a a0.len a0.cap a0.tail, .slice a1.a a1.len a1.cap a1.tail]) (0 + (Int.toNat y1 * 1)))).bind fun x3 =>
(bif (decide ((1024 : Int) < ((x3.len : Nat) : Int))) then (some (.done (.ret (⟨.nil, 0, 0, false⟩, ⟨.nil, 0, 0, false⟩, 8), h2))) else (some (.more ((IntKind.wrap .i64 (y1 + 1)), h2)))))) else (some (.done (.ex0 (), h2))))
noncomputable def arrival_Differ (a0 : SV) (a1 : SV) (h : H) : Option ((SV × SV × Int) × H) :=
((iter FUEL (arrival_Differ.loop1 a0 a1) (0, h)).bind fun (fl5, h4) => match fl5 with
| .next _ => none
| .ret rr6 => (some (rr6, h4))
| .ex0 _ =>
((((rdRow true h4 FC a0).bind fun s8 =>
((arrival_checkP s8).bind fun r7 =>
(bif !(!(decide (r7 = 0))) then ((rdRow true h4 FC a1).bind fun s10 =>
((arrival_checkP s10).bind fun r9 =>
(some ((!(decide (r9 = 0))), h4)))) else (some (true, h4)))))).bind fun (y11, h12) =>
(bif y11 then (some ((⟨.nil, 0, 0, false⟩, ⟨.nil, 0, 0, false⟩, 1), h12)) else ((rdRow true h12 FC a0).bind fun s14 =>
((arrival_setP s14).bind fun r13 =>
((rdRow true h12 FC a1).bind fun s16 =>
((arrival_setP s16).bind fun r15 =>
((arrival_without (rowSV true FC r13) (rowSV true FC r15) h12).bind fun (r17, h18) =>
((arrival_without (rowSV true FC r15) (rowSV true FC r13) h18).bind fun (r19, h20) =>
(some ((r17, r19, 0), h20))))))))))
| .ex1 _ => none)
def arrival_Differ.A : Ann := { lits := [], conds := [], loops := [(2, [15], [.leaf (.int .i64)], [], [], some 0, none)], regs := [(7, [30], [.leaf .bool])] }
theorem arrival_Differ.eq : ∀ (x : TT [.leaf .slice, .leaf .slice]) (h : H), evalFn Tryz.prog (arrival_Differ.tb) arrival_Differ.A Tryz.f23 (.many [.leaf .slice, .leaf .slice, .leaf (.int .i64)]) (TT.un [.leaf .slice, .leaf .slice] x) h = arrival_Differ x.1 x.2 h := by
  intro x h
  kernel_rfl
noncomputable def arrival_DifferP (a0 : (List Fct)) (a1 : (List Fct)) : Option ((List Fct) × (List Fct) × Int) := (arrival_Differ (rowSV false FC a0) (rowSV false FC a1) H.empty).bind fun p => rdRes false p.2 (.many [.leaf (.row FC), .leaf (.row FC), .leaf (.int .i64)]) (Res.un (.many [.leaf .slice, .leaf .slice, .leaf (.int .i64)]) p.1)
theorem arrival_DifferP.eq : ∀ x : TT [.leaf (.row FC), .leaf (.row FC)], ((evalFn Tryz.prog (arrival_Differ.tb) arrival_Differ.A Tryz.f23 (.many [.leaf .slice, .leaf .slice, .leaf (.int .i64)]) (TT.lo false [.leaf (.row FC), .leaf (.row FC)] x) H.empty).bind fun p => rdRes false p.2 (.many [.leaf (.row FC), .leaf (.row FC), .leaf (.int .i64)]) (Res.un (.many [.leaf .slice, .leaf .slice, .leaf (.int .i64)]) p.1)) = arrival_DifferP x.1 x.2 := by
  intro x
  rw [show TT.lo false [.leaf (.row FC), .leaf (.row FC)] x = TT.un [.leaf .slice, .leaf .slice] ((rowSV false FC x.1), (rowSV false FC x.2)) from rfl, arrival_Differ.eq]
  rfl
noncomputable def arrival_DifferP.e : Entry := mkP [.leaf (.row FC), .leaf (.row FC)] (.many [.leaf (.row FC), .leaf (.row FC), .leaf (.int .i64)]) fun x => arrival_DifferP x.1 x.2
theorem arrival_DifferP.ok : EntryOK Tryz.prog 23 (arrival_DifferP.e) := mkP_ok (arrival_Differ.tbok) Tryz.mixed Tryz.func23 (by kernel_rfl) arrival_DifferP.eq
noncomputable def r53_number.tb : Table := tab [] [] Table.nil
theorem r53_number.tbok : TabOK Tryz.prog (r53_number.tb) := TabOK.tab (TabOK.nil Tryz.prog) (all_nil _) (all_nil _)
noncomputable def r53_number (a0 : Int) (a1 : Int) (h : H) : Option ((Int) × H) :=
(bif (decide (a0 < a1)) then (some ((-1), h)) else (bif (decide (a1 < a0)) then (some (1, h)) else (some (0, h))))
def r53_number.A : Ann := { lits := [], conds := [], loops := [], regs := [] }
theorem r53_number.eq : ∀ (x : TT [.leaf (.int .i64), .leaf (.int .i64)]) (h : H), evalFn Tryz.prog (r53_number.tb) r53_number.A Tryz.f78 (.one (.leaf (.int .i64))) (TT.un [.leaf (.int .i64), .leaf (.int .i64)] x) h = r53_number x.1 x.2 h := by
  intro x h
  kernel_rfl
noncomputable def r53_numberP (a0 : Int) (a1 : Int) : Option (Int) := (r53_number a0 a1 H.empty).bind fun p => rdRes false p.2 (.one (.leaf (.int .i64))) (Res.un (.one (.leaf (.int .i64))) p.1)
theorem r53_numberP.eq : ∀ x : TT [.leaf (.int .i64), .leaf (.int .i64)], ((evalFn Tryz.prog (r53_number.tb) r53_number.A Tryz.f78 (.one (.leaf (.int .i64))) (TT.lo false [.leaf (.int .i64), .leaf (.int .i64)] x) H.empty).bind fun p => rdRes false p.2 (.one (.leaf (.int .i64))) (Res.un (.one (.leaf (.int .i64))) p.1)) = r53_numberP x.1 x.2 := by
  intro x
  rw [show TT.lo false [.leaf (.int .i64), .leaf (.int .i64)] x = TT.un [.leaf (.int .i64), .leaf (.int .i64)] (x.1, x.2) from rfl, r53_number.eq]
  rfl
noncomputable def r53_numberP.e : Entry := mkP [.leaf (.int .i64), .leaf (.int .i64)] (.one (.leaf (.int .i64))) fun x => r53_numberP x.1 x.2
theorem r53_numberP.ok : EntryOK Tryz.prog 78 (r53_numberP.e) := mkP_ok (r53_number.tbok) Tryz.mixed Tryz.func78 (by kernel_rfl) r53_numberP.eq
noncomputable def r53_Keys.tb : Table := tab [(78, r53_numberP.e)] [] Table.nil
theorem r53_Keys.tbok : TabOK Tryz.prog (r53_Keys.tb) := TabOK.tab (TabOK.nil Tryz.prog) (all_cons r53_numberP.ok (all_nil _)) (all_nil _)
noncomputable def r53_Keys (a0 : Ky) (a1 : Ky) (h : H) : Option ((Int) × H) :=
(match a0 with
| (a0_0, a0_1, a0_2) =>
(match a1 with
| (a1_0, a1_1, a1_2) =>
(let h1 : H := H.new h [.int .i64 a0_0, .int .i64 a0_1, .int .i64 a0_2] 3
(let h2 : H := H.new h1 [.int .i64 a1_0, .int .i64 a1_1, .int .i64 a1_2] 3
((rdT (.leaf (.int .i64)) h2 (.hp h.next 3 0)).bind fun x3 =>
((rdT (.leaf (.int .i64)) h2 (.hp h1.next 3 0)).bind fun x4 =>
((r53_numberP x3 x4).bind fun r5 =>
(bif (!(decide (r5 = 0))) then (some (r5, h2)) else ((rdT (.leaf (.int .i64)) h2 (.hp h.next 3 1)).bind fun x6 =>
((rdT (.leaf (.int .i64)) h2 (.hp h1.next 3 1)).bind fun x7 =>
((r53_numberP x6 x7).bind fun r8 =>
(bif (!(decide (r8 = 0))) then (some (r8, h2)) else ((rdT (.leaf (.int .i64)) h2 (.hp h.next 3 2)).bind fun x9 =>
((rdT (.leaf (.int .i64)) h2 (.hp h1.next 3 2)).bind fun x10 =>
((r53_numberP x9 x10).bind fun r11 =>
(some (r11, h2)))))))))))))))))
def r53_Keys.A : Ann := { lits := [], conds := [], loops := [], regs := [] }
theorem r53_Keys.eq : ∀ (x : TT [.agg KC, .agg KC]) (h : H), evalFn Tryz.prog (r53_Keys.tb) r53_Keys.A Tryz.f77 (.one (.leaf (.int .i64))) (TT.un [.agg KC, .agg KC] x) h = r53_Keys x.1 x.2 h := by
  intro x h
  kernel_rfl
noncomputable def r53_KeysP (a0 : Ky) (a1 : Ky) : Option (Int) := (r53_Keys a0 a1 H.empty).bind fun p => rdRes false p.2 (.one (.leaf (.int .i64))) (Res.un (.one (.leaf (.int .i64))) p.1)
theorem r53_KeysP.eq : ∀ x : TT [.agg KC, .agg KC], ((evalFn Tryz.prog (r53_Keys.tb) r53_Keys.A Tryz.f77 (.one (.leaf (.int .i64))) (TT.lo false [.agg KC, .agg KC] x) H.empty).bind fun p => rdRes false p.2 (.one (.leaf (.int .i64))) (Res.un (.one (.leaf (.int .i64))) p.1)) = r53_KeysP x.1 x.2 := by
  intro x
  rw [show TT.lo false [.agg KC, .agg KC] x = TT.un [.agg KC, .agg KC] (x.1, x.2) from rfl, r53_Keys.eq]
  rfl
noncomputable def r53_KeysP.e : Entry := mkP [.agg KC, .agg KC] (.one (.leaf (.int .i64))) fun x => r53_KeysP x.1 x.2
theorem r53_KeysP.ok : EntryOK Tryz.prog 77 (r53_KeysP.e) := mkP_ok (r53_Keys.tbok) Tryz.mixed Tryz.func77 (by kernel_rfl) r53_KeysP.eq
noncomputable def r53_text.tb : Table := tab [] [] Table.nil
theorem r53_text.tbok : TabOK Tryz.prog (r53_text.tb) := TabOK.tab (TabOK.nil Tryz.prog) (all_nil _) (all_nil _)
noncomputable def r53_text (a0 : ByteArray) (a1 : ByteArray) (h : H) : Option ((Int) × H) :=
(bif (Op.bytesLess (ByteArray.toList a0) (ByteArray.toList a1)) then (some ((-1), h)) else (bif (!((Op.bytesLess (ByteArray.toList a0) (ByteArray.toList a1)) || (decide (a0 = a1)))) then (some (1, h)) else (some (0, h))))
def r53_text.A : Ann := { lits := [], conds := [], loops := [], regs := [] }
theorem r53_text.eq : ∀ (x : TT [.leaf .str, .leaf .str]) (h : H), evalFn Tryz.prog (r53_text.tb) r53_text.A Tryz.f79 (.one (.leaf (.int .i64))) (TT.un [.leaf .str, .leaf .str] x) h = r53_text x.1 x.2 h := by
  intro x h
  kernel_rfl
noncomputable def r53_textP (a0 : ByteArray) (a1 : ByteArray) : Option (Int) := (r53_text a0 a1 H.empty).bind fun p => rdRes false p.2 (.one (.leaf (.int .i64))) (Res.un (.one (.leaf (.int .i64))) p.1)
theorem r53_textP.eq : ∀ x : TT [.leaf .str, .leaf .str], ((evalFn Tryz.prog (r53_text.tb) r53_text.A Tryz.f79 (.one (.leaf (.int .i64))) (TT.lo false [.leaf .str, .leaf .str] x) H.empty).bind fun p => rdRes false p.2 (.one (.leaf (.int .i64))) (Res.un (.one (.leaf (.int .i64))) p.1)) = r53_textP x.1 x.2 := by
  intro x
  rw [show TT.lo false [.leaf .str, .leaf .str] x = TT.un [.leaf .str, .leaf .str] (x.1, x.2) from rfl, r53_text.eq]
  rfl
noncomputable def r53_textP.e : Entry := mkP [.leaf .str, .leaf .str] (.one (.leaf (.int .i64))) fun x => r53_textP x.1 x.2
theorem r53_textP.ok : EntryOK Tryz.prog 79 (r53_textP.e) := mkP_ok (r53_text.tbok) Tryz.mixed Tryz.func79 (by kernel_rfl) r53_textP.eq
noncomputable def r53_Compare.tb : Table := tab [(77, r53_KeysP.e), (78, r53_numberP.e), (79, r53_textP.e)] [] Table.nil
theorem r53_Compare.tbok : TabOK Tryz.prog (r53_Compare.tb) := TabOK.tab (TabOK.nil Tryz.prog) (all_cons r53_KeysP.ok (all_cons r53_numberP.ok (all_cons r53_textP.ok (all_nil _)))) (all_nil _)
noncomputable def r53_Compare.loop1 (h : H) (h1 : H) : (Int) × H → Option (Stp ((Int) × H) (Flow (Unit) (Int) × H)) := fun (y9, h10) =>
((((rdT (.leaf .slice) h10 (.hp h.next 6 4)).bind fun x11 =>
(bif (decide (y9 < ((x11.len : Nat) : Int))) then ((rdT (.leaf .slice) h10 (.hp h1.next 6 4)).bind fun x12 =>
(some ((decide (y9 < ((x12.len : Nat) : Int))), h10))) else (some (false, h10))))).bind fun (y13, h14) =>
(bif y13 then (let h15 : H := H.reserve h14 0
((rdT (.leaf .slice) h15 (.hp h.next 6 4)).bind fun x16 =>
(guardO (0 ≤ y9 ∧ y9 < ((x16.len : Nat) : Int)) ((rdT (.leaf (.int .i64)) h15 (V.add x16.a (Int.toNat y9 * 1))).bind fun x17 =>
((rdT (.leaf .slice) h15 (.hp h1.next 6 4)).bind fun x18 =>
(guardO (0 ≤ y9 ∧ y9 < ((x18.len : Nat) : Int)) ((rdT (.leaf (.int .i64)) h15 (V.add x18.a (Int.toNat y9 * 1))).bind fun x19 =>
((r53_numberP x17 x19).bind fun r20 =>
(bif (!(decide (r20 = 0))) then (some (.done (.ret r20, h15))) else (some (.more ((IntKind.wrap .i64 (y9 + 1)), h15)))))))))))) else (some (.done (.ex0 (), h14)))))
noncomputable def r53_Compare.loop2 (h : H) (h1 : H) : (Int) × H → Option (Stp ((Int) × H) (Flow (Unit) (Int) × H)) := fun (y27, h28) =>
((((rdT (.leaf .slice) h28 (.hp h.next 6 5)).bind fun x29 =>
(bif (decide (y27 < ((x29.len : Nat) : Int))) then ((rdT (.leaf .slice) h28 (.hp h1.next 6 5)).bind fun x30 =>
(some ((decide (y27 < ((x30.len : Nat) : Int))), h28))) else (some (false, h28))))).bind fun (y31, h32) =>
(bif y31 then (let h33 : H := H.reserve h32 0
((rdT (.leaf .slice) h33 (.hp h.next 6 5)).bind fun x34 =>
(guardO (0 ≤ y27 ∧ y27 < ((x34.len : Nat) : Int)) ((rdT (.leaf .str) h33 (V.add x34.a (Int.toNat y27 * 1))).bind fun x35 =>
((rdT (.leaf .slice) h33 (.hp h1.next 6 5)).bind fun x36 =>
(guardO (0 ≤ y27 ∧ y27 < ((x36.len : Nat) : Int)) ((rdT (.leaf .str) h33 (V.add x36.a (Int.toNat y27 * 1))).bind fun x37 =>
((r53_textP x35 x37).bind fun r38 =>
(bif (!(decide (r38 = 0))) then (some (.done (.ret r38, h33))) else (some (.more ((IntKind.wrap .i64 (y27 + 1)), h33)))))))))))) else (some (.done (.ex0 (), h32)))))
noncomputable def r53_Compare (a0 : Fsv) (a1 : Fsv) (h : H) : Option ((Int) × H) :=
(match a0 with
| (a0_0, a0_1, a0_2, a0_3, a0_4, a0_5) =>
(match a1 with
| (a1_0, a1_1, a1_2, a1_3, a1_4, a1_5) =>
(let h1 : H := H.new h [.int .i64 a0_0, .int .i64 a0_1, .int .i64 a0_2, .int .i64 a0_3, .slice a0_4.a a0_4.len a0_4.cap a0_4.tail, .slice a0_5.a a0_5.len a0_5.cap a0_5.tail] 6
(let h2 : H := H.new h1 [.int .i64 a1_0, .int .i64 a1_1, .int .i64 a1_2, .int .i64 a1_3, .slice a1_4.a a1_4.len a1_4.cap a1_4.tail, .slice a1_5.a a1_5.len a1_5.cap a1_5.tail] 6
((rdT (.agg KC) h2 (.hp h.next 6 0)).bind fun (x3_0, x3_1, x3_2) =>
((rdT (.agg KC) h2 (.hp h1.next 6 0)).bind fun (x4_0, x4_1, x4_2) =>
((r53_KeysP (x3_0, x3_1, x3_2) (x4_0, x4_1, x4_2)).bind fun r5 =>
(bif (!(decide (r5 = 0))) then (some (r5, h2)) else ((rdT (.leaf (.int .i64)) h2 (.hp h.next 6 3)).bind fun x6 =>
((rdT (.leaf (.int .i64)) h2 (.hp h1.next 6 3)).bind fun x7 =>
((r53_numberP x6 x7).bind fun r8 =>
(bif (!(decide (r8 = 0))) then (some (r8, h2)) else ((iter FUEL (r53_Compare.loop1 h h1) (0, h2)).bind fun (fl22, h21) => match fl22 with
| .next _ => none
| .ret rr23 => (some (rr23, h21))
| .ex0 _ =>
((rdT (.leaf .slice) h21 (.hp h.next 6 4)).bind fun x24 =>
((rdT (.leaf .slice) h21 (.hp h1.next 6 4)).bind fun x25 =>
((r53_numberP ((x24.len : Nat) : Int) ((x25.len : Nat) : Int)).bind fun r26 =>
(bif (!(decide (r26 = 0))) then (some (r26, h21)) else ((iter FUEL (r53_Compare.loop2 h h1) (0, h21)).bind fun (fl40, h39) => match fl40 with
| .next _ => none
| .ret rr41 => (some (rr41, h39))
| .ex0 _ =>
((rdT (.leaf .slice) h39 (.hp h.next 6 5)).bind fun x42 =>
((rdT (.leaf .slice) h39 (.hp h1.next 6 5)).bind fun x43 =>
((r53_numberP ((x42.len : Nat) : Int) ((x43.len : Nat) : Int)).bind fun r44 =>
(some (r44, h39)))))
| .ex1 _ => none)))))
| .ex1 _ => none)))))))))))))
def r53_Compare.A : Ann := { lits := [], conds := [], loops := [(8, [7], [.leaf (.int .i64)], [], [], some 0, none), (17, [10], [.leaf (.int .i64)], [], [], some 2, none)], regs := [(8, [39], [.leaf .bool]), (17, [77], [.leaf .bool])] }
theorem r53_Compare.eq : ∀ (x : TT [.agg FS, .agg FS]) (h : H), evalFn Tryz.prog (r53_Compare.tb) r53_Compare.A Tryz.f30 (.one (.leaf (.int .i64))) (TT.un [.agg FS, .agg FS] x) h = r53_Compare x.1 x.2 h := by
  intro x h
  kernel_rfl
noncomputable def r53_CompareP (a0 : Fct) (a1 : Fct) : Option (Int) := (r53_Compare (a0.1, a0.2.1, a0.2.2.1, a0.2.2.2.1, rowSV false [.int .i64] a0.2.2.2.2.1, rowSV false [.str] a0.2.2.2.2.2) (a1.1, a1.2.1, a1.2.2.1, a1.2.2.2.1, rowSV false [.int .i64] a1.2.2.2.2.1, rowSV false [.str] a1.2.2.2.2.2) H.empty).bind fun p => rdRes false p.2 (.one (.leaf (.int .i64))) (Res.un (.one (.leaf (.int .i64))) p.1)
theorem r53_CompareP.eq : ∀ x : TT [.agg FC, .agg FC], ((evalFn Tryz.prog (r53_Compare.tb) r53_Compare.A Tryz.f30 (.one (.leaf (.int .i64))) (TT.lo false [.agg FC, .agg FC] x) H.empty).bind fun p => rdRes false p.2 (.one (.leaf (.int .i64))) (Res.un (.one (.leaf (.int .i64))) p.1)) = r53_CompareP x.1 x.2 := by
  intro x
  rw [show TT.lo false [.agg FC, .agg FC] x = TT.un [.agg FS, .agg FS] ((x.1.1, x.1.2.1, x.1.2.2.1, x.1.2.2.2.1, rowSV false [.int .i64] x.1.2.2.2.2.1, rowSV false [.str] x.1.2.2.2.2.2), (x.2.1, x.2.2.1, x.2.2.2.1, x.2.2.2.2.1, rowSV false [.int .i64] x.2.2.2.2.2.1, rowSV false [.str] x.2.2.2.2.2.2)) from rfl, r53_Compare.eq]
  rfl
noncomputable def r53_CompareP.e : Entry := mkP [.agg FC, .agg FC] (.one (.leaf (.int .i64))) fun x => r53_CompareP x.1 x.2
theorem r53_CompareP.ok : EntryOK Tryz.prog 30 (r53_CompareP.e) := mkP_ok (r53_Compare.tbok) Tryz.mixed Tryz.func30 (by kernel_rfl) r53_CompareP.eq
noncomputable def r53_Same.tb : Table := tab [(30, r53_CompareP.e)] [] Table.nil
theorem r53_Same.tbok : TabOK Tryz.prog (r53_Same.tb) := TabOK.tab (TabOK.nil Tryz.prog) (all_cons r53_CompareP.ok (all_nil _)) (all_nil _)
noncomputable def r53_Same.loop1 (a0 : SV) (a1 : SV) : (Int) × H → Option (Stp ((Int) × H) (Flow (Unit) (Bool) × H)) := fun (y1, h2) =>
(bif (decide (y1 < ((a0.len : Nat) : Int))) then (let h3 : H := H.reserve h2 0
(guardO (0 ≤ y1 ∧ y1 < ((a0.len : Nat) : Int)) ((rdT (.agg FS) h3 (V.add a0.a (Int.toNat y1 * 6))).bind fun (x4_0, x4_1, x4_2, x4_3, x4_4, x4_5) =>
(guardO (0 ≤ y1 ∧ y1 < ((a1.len : Nat) : Int)) ((rdT (.agg FS) h3 (V.add a1.a (Int.toNat y1 * 6))).bind fun (x5_0, x5_1, x5_2, x5_3, x5_4, x5_5) =>
((rdRow true h3 [.int .i64] x4_4).bind fun s7 =>
((rdRow true h3 [.str] x4_5).bind fun s8 =>
((rdRow true h3 [.int .i64] x5_4).bind fun s9 =>
((rdRow true h3 [.str] x5_5).bind fun s10 =>
((r53_CompareP (x4_0, x4_1, x4_2, x4_3, s7, s8) (x5_0, x5_1, x5_2, x5_3, s9, s10)).bind fun r6 =>
(bif (!(decide (r6 = 0))) then (some (.done (.ret false, h3))) else (some (.more ((IntKind.wrap .i64 (y1 + 1)), h3)))))))))))))) else (some (.done (.ex0 (), h2))))
noncomputable def r53_Same (a0 : SV) (a1 : SV) (h : H) : Option ((Bool) × H) :=
(bif (!(decide (((a0.len : Nat) : Int) = ((a1.len : Nat) : Int)))) then (some (false, h)) else ((iter FUEL (r53_Same.loop1 a0 a1) (0, h)).bind fun (fl12, h11) => match fl12 with
| .next _ => none
| .ret rr13 => (some (rr13, h11))
| .ex0 _ =>
(some (true, h11))
| .ex1 _ => none))
def r53_Same.A : Ann := { lits := [], conds := [], loops := [(4, [5], [.leaf (.int .i64)], [], [], some 0, none)], regs := [] }
theorem r53_Same.eq : ∀ (x : TT [.leaf .slice, .leaf .slice]) (h : H), evalFn Tryz.prog (r53_Same.tb) r53_Same.A Tryz.f25 (.one (.leaf .bool)) (TT.un [.leaf .slice, .leaf .slice] x) h = r53_Same x.1 x.2 h := by
  intro x h
  kernel_rfl
noncomputable def r53_SameP (a0 : (List Fct)) (a1 : (List Fct)) : Option (Bool) := (r53_Same (rowSV false FC a0) (rowSV false FC a1) H.empty).bind fun p => rdRes false p.2 (.one (.leaf .bool)) (Res.un (.one (.leaf .bool)) p.1)
theorem r53_SameP.eq : ∀ x : TT [.leaf (.row FC), .leaf (.row FC)], ((evalFn Tryz.prog (r53_Same.tb) r53_Same.A Tryz.f25 (.one (.leaf .bool)) (TT.lo false [.leaf (.row FC), .leaf (.row FC)] x) H.empty).bind fun p => rdRes false p.2 (.one (.leaf .bool)) (Res.un (.one (.leaf .bool)) p.1)) = r53_SameP x.1 x.2 := by
  intro x
  rw [show TT.lo false [.leaf (.row FC), .leaf (.row FC)] x = TT.un [.leaf .slice, .leaf .slice] ((rowSV false FC x.1), (rowSV false FC x.2)) from rfl, r53_Same.eq]
  rfl
noncomputable def r53_SameP.e : Entry := mkP [.leaf (.row FC), .leaf (.row FC)] (.one (.leaf .bool)) fun x => r53_SameP x.1 x.2
theorem r53_SameP.ok : EntryOK Tryz.prog 25 (r53_SameP.e) := mkP_ok (r53_Same.tbok) Tryz.mixed Tryz.func25 (by kernel_rfl) r53_SameP.eq
noncomputable def arrival_made.tb : Table := tab [(55, arrival_targetP.e), (68, fact_CheckP.e)] [] Table.nil
theorem arrival_made.tbok : TabOK Tryz.prog (arrival_made.tb) := TabOK.tab (TabOK.nil Tryz.prog) (all_cons arrival_targetP.ok (all_cons fact_CheckP.ok (all_nil _))) (all_nil _)
noncomputable def arrival_made (a0 : Fsv) (h : H) : Option ((Fsv × Int) × H) :=
(match a0 with
| (a0_0, a0_1, a0_2, a0_3, a0_4, a0_5) =>
(let h1 : H := H.new h [.int .i64 a0_0, .int .i64 a0_1, .int .i64 a0_2, .int .i64 a0_3, .slice a0_4.a a0_4.len a0_4.cap a0_4.tail, .slice a0_5.a a0_5.len a0_5.cap a0_5.tail] 6
(let h2 : H := H.new h1 [.int .i64 0, .int .i64 0, .int .i64 0, .int .i64 0, .slice .nil 0 0 false, .slice .nil 0 0 false] 6
((rdT (.agg FS) h2 (.hp h.next 6 0)).bind fun (x3_0, x3_1, x3_2, x3_3, x3_4, x3_5) =>
((rdRow true h2 [.int .i64] x3_4).bind fun s5 =>
((rdRow true h2 [.str] x3_5).bind fun s6 =>
((fact_CheckP (x3_0, x3_1, x3_2, x3_3, s5, s6)).bind fun r4 =>
(bif (!(decide (r4 = 0))) then ((H.wrs h2 (.hp h1.next 6 0) [.int .i64 0, .int .i64 0, .int .i64 0, .int .i64 0, .slice .nil 0 0 false, .slice .nil 0 0 false]).bind fun h7 =>
((rdT (.agg FS) h7 (.hp h1.next 6 0 : V)).bind fun (x8_0, x8_1, x8_2, x8_3, x8_4, x8_5) =>
(some (((x8_0, x8_1, x8_2, x8_3, x8_4, x8_5), 1), h7)))) else ((rdT (.agg FS) h2 (.hp h.next 6 0)).bind fun (x9_0, x9_1, x9_2, x9_3, x9_4, x9_5) =>
((rdRow true h2 [.int .i64] x9_4).bind fun s12 =>
((rdRow true h2 [.str] x9_5).bind fun s13 =>
((arrival_targetP (x9_0, x9_1, x9_2, x9_3, s12, s13)).bind fun ((r10_0, r10_1, r10_2, r10_3, r10_4, r10_5), r11) =>
(let h14 : H := H.new h2 [.int .i64 0, .int .i64 0, .int .i64 0, .int .i64 0, .slice .nil 0 0 false, .slice .nil 0 0 false] 6
((H.wrs h14 (.hp h2.next 6 0) [.int .i64 r10_0, .int .i64 r10_1, .int .i64 r10_2, .int .i64 r10_3, .slice ((rowSV true [.int .i64] r10_4).a) r10_4.length r10_4.length true, .slice ((rowSV true [.str] r10_5).a) r10_5.length r10_5.length true]).bind fun h15 =>
(bif (!r11) then ((H.wrs h15 (.hp h1.next 6 0) [.int .i64 0, .int .i64 0, .int .i64 0, .int .i64 0, .slice .nil 0 0 false, .slice .nil 0 0 false]).bind fun h16 =>
((rdT (.agg FS) h16 (.hp h1.next 6 0 : V)).bind fun (x17_0, x17_1, x17_2, x17_3, x17_4, x17_5) =>
(some (((x17_0, x17_1, x17_2, x17_3, x17_4, x17_5), 1), h16)))) else ((rdT (.agg FS) h15 (.hp h.next 6 0)).bind fun (x18_0, x18_1, x18_2, x18_3, x18_4, x18_5) =>
((H.wrs h15 (.hp h1.next 6 0) [.int .i64 x18_0, .int .i64 x18_1, .int .i64 x18_2, .int .i64 x18_3, .slice x18_4.a x18_4.len x18_4.cap x18_4.tail, .slice x18_5.a x18_5.len x18_5.cap x18_5.tail]).bind fun h19 =>
((rdT (.agg FS) h19 (.hp h1.next 6 0 : V)).bind fun (x20_0, x20_1, x20_2, x20_3, x20_4, x20_5) =>
(some (((x20_0, x20_1, x20_2, x20_3, x20_4, x20_5), 0), h19))))))))))))))))))))
def arrival_made.A : Ann := { lits := [], conds := [], loops := [], regs := [] }
theorem arrival_made.eq : ∀ (x : TT [.agg FS]) (h : H), evalFn Tryz.prog (arrival_made.tb) arrival_made.A Tryz.f75 (.many [.agg FS, .leaf (.int .i64)]) (TT.un [.agg FS] x) h = arrival_made x h := by
  intro x h
  kernel_rfl
noncomputable def arrival_made.e : Entry := mkX [.agg FS] (.many [.agg FS, .leaf (.int .i64)]) fun x h => arrival_made x h
theorem arrival_made.ok : EntryOK Tryz.prog 75 (arrival_made.e) := mkX_ok (arrival_made.tbok) Tryz.mixed Tryz.func75 (by kernel_rfl) (arrival_made.eq)
noncomputable def arrival_Undo.tb : Table := tab [(75, arrival_made.e)] [] Table.nil
theorem arrival_Undo.tbok : TabOK Tryz.prog (arrival_Undo.tb) := TabOK.tab (TabOK.nil Tryz.prog) (all_cons arrival_made.ok (all_nil _)) (all_nil _)
noncomputable def arrival_Undo (a0 : Ky) (a1 : Ky) (h : H) : Option ((Fsv × Int) × H) :=
(match a0 with
| (a0_0, a0_1, a0_2) =>
(match a1 with
| (a1_0, a1_1, a1_2) =>
(let h1 : H := H.new h [.int .i64 a0_0, .int .i64 a0_1, .int .i64 a0_2] 3
(let h2 : H := H.new h1 [.int .i64 a1_0, .int .i64 a1_1, .int .i64 a1_2] 3
(let h3 : H := H.new h2 [.int .i64 0, .int .i64 0, .int .i64 0, .int .i64 0, .slice .nil 0 0 false, .slice .nil 0 0 false] 6
((rdT (.agg KC) h3 (.hp h.next 3 0)).bind fun (x4_0, x4_1, x4_2) =>
((rdT (.leaf (.int .i64)) h3 (.hp h1.next 3 0)).bind fun x5 =>
((rdT (.leaf (.int .i64)) h3 (.hp h1.next 3 1)).bind fun x6 =>
((rdT (.leaf (.int .i64)) h3 (.hp h1.next 3 2)).bind fun x7 =>
((arrival_made (x4_0, x4_1, x4_2, 91, ⟨.lp true ([.int .i64 x5, .int .i64 x6, .int .i64 x7]) 0, 3, 3, false⟩, ⟨.nil, 0, 0, false⟩) h3).bind fun (((r8_0, r8_1, r8_2, r8_3, r8_4, r8_5), r9), h10) =>
((H.wrs h10 (.hp h2.next 6 0) [.int .i64 r8_0, .int .i64 r8_1, .int .i64 r8_2, .int .i64 r8_3, .slice r8_4.a r8_4.len r8_4.cap r8_4.tail, .slice r8_5.a r8_5.len r8_5.cap r8_5.tail]).bind fun h11 =>
((rdT (.agg FS) h11 (.hp h2.next 6 0 : V)).bind fun (x12_0, x12_1, x12_2, x12_3, x12_4, x12_5) =>
(some (((x12_0, x12_1, x12_2, x12_3, x12_4, x12_5), r9), h11))))))))))))))
def arrival_Undo.A : Ann := { lits := [], conds := [], loops := [], regs := [] }
theorem arrival_Undo.eq : ∀ (x : TT [.agg KC, .agg KC]) (h : H), evalFn Tryz.prog (arrival_Undo.tb) arrival_Undo.A Tryz.f28 (.many [.agg FS, .leaf (.int .i64)]) (TT.un [.agg KC, .agg KC] x) h = arrival_Undo x.1 x.2 h := by
  intro x h
  kernel_rfl
noncomputable def arrival_UndoP (a0 : Ky) (a1 : Ky) : Option (Fct × Int) := (arrival_Undo a0 a1 H.empty).bind fun p => rdRes false p.2 (.many [.agg FC, .leaf (.int .i64)]) (Res.un (.many [.agg FS, .leaf (.int .i64)]) p.1)
theorem arrival_UndoP.eq : ∀ x : TT [.agg KC, .agg KC], ((evalFn Tryz.prog (arrival_Undo.tb) arrival_Undo.A Tryz.f28 (.many [.agg FS, .leaf (.int .i64)]) (TT.lo false [.agg KC, .agg KC] x) H.empty).bind fun p => rdRes false p.2 (.many [.agg FC, .leaf (.int .i64)]) (Res.un (.many [.agg FS, .leaf (.int .i64)]) p.1)) = arrival_UndoP x.1 x.2 := by
  intro x
  rw [show TT.lo false [.agg KC, .agg KC] x = TT.un [.agg KC, .agg KC] (x.1, x.2) from rfl, arrival_Undo.eq]
  rfl
noncomputable def arrival_UndoP.e : Entry := mkP [.agg KC, .agg KC] (.many [.agg FC, .leaf (.int .i64)]) fun x => arrival_UndoP x.1 x.2
theorem arrival_UndoP.ok : EntryOK Tryz.prog 28 (arrival_UndoP.e) := mkP_ok (arrival_Undo.tbok) Tryz.mixed Tryz.func28 (by kernel_rfl) arrival_UndoP.eq
noncomputable def law_key.tb : Table := tab [] [] Table.nil
theorem law_key.tbok : TabOK Tryz.prog (law_key.tb) := TabOK.tab (TabOK.nil Tryz.prog) (all_nil _) (all_nil _)
noncomputable def law_key (a0 : Int) (a1 : Int) (a2 : Int) (h : H) : Option ((Ky) × H) :=
(let h1 : H := H.new h [.int .i64 0, .int .i64 0, .int .i64 0] 3
((H.wrs h1 (.hp h.next 3 0) [.int .i64 a0, .int .i64 a1, .int .i64 a2]).bind fun h2 =>
((rdT (.agg KC) h2 (.hp h.next 3 0 : V)).bind fun (x3_0, x3_1, x3_2) =>
(some ((x3_0, x3_1, x3_2), h2)))))
def law_key.A : Ann := { lits := [], conds := [], loops := [], regs := [] }
theorem law_key.eq : ∀ (x : TT [.leaf (.int .i64), .leaf (.int .i64), .leaf (.int .i64)]) (h : H), evalFn Tryz.prog (law_key.tb) law_key.A Tryz.f43 (.one (.agg KC)) (TT.un [.leaf (.int .i64), .leaf (.int .i64), .leaf (.int .i64)] x) h = law_key x.1 x.2.1 x.2.2 h := by
  intro x h
  kernel_rfl
noncomputable def law_keyP (a0 : Int) (a1 : Int) (a2 : Int) : Option (Ky) := (law_key a0 a1 a2 H.empty).bind fun p => rdRes false p.2 (.one (.agg KC)) (Res.un (.one (.agg KC)) p.1)
theorem law_keyP.eq : ∀ x : TT [.leaf (.int .i64), .leaf (.int .i64), .leaf (.int .i64)], ((evalFn Tryz.prog (law_key.tb) law_key.A Tryz.f43 (.one (.agg KC)) (TT.lo false [.leaf (.int .i64), .leaf (.int .i64), .leaf (.int .i64)] x) H.empty).bind fun p => rdRes false p.2 (.one (.agg KC)) (Res.un (.one (.agg KC)) p.1)) = law_keyP x.1 x.2.1 x.2.2 := by
  intro x
  rw [show TT.lo false [.leaf (.int .i64), .leaf (.int .i64), .leaf (.int .i64)] x = TT.un [.leaf (.int .i64), .leaf (.int .i64), .leaf (.int .i64)] (x.1, x.2.1, x.2.2) from rfl, law_key.eq]
  rfl
noncomputable def law_keyP.e : Entry := mkP [.leaf (.int .i64), .leaf (.int .i64), .leaf (.int .i64)] (.one (.agg KC)) fun x => law_keyP x.1 x.2.1 x.2.2
theorem law_keyP.ok : EntryOK Tryz.prog 43 (law_keyP.e) := mkP_ok (law_key.tbok) Tryz.mixed Tryz.func43 (by kernel_rfl) law_keyP.eq
noncomputable def r53_Short.tb : Table := tab [] [] Table.nil
theorem r53_Short.tbok : TabOK Tryz.prog (r53_Short.tb) := TabOK.tab (TabOK.nil Tryz.prog) (all_nil _) (all_nil _)
noncomputable def r53_Short.loop1 (h : H) : (Int) × H → Option (Stp ((Int) × H) (Flow (Unit) (Bool) × H)) := fun (y2, h3) =>
((rdT (.leaf .slice) h3 (.hp h.next 6 5)).bind fun x4 =>
(bif (decide (y2 < ((x4.len : Nat) : Int))) then ((rdT (.leaf .slice) h3 (.hp h.next 6 5)).bind fun x5 =>
(guardO (0 ≤ y2 ∧ y2 < ((x5.len : Nat) : Int)) ((rdT (.leaf .str) h3 (V.add x5.a (Int.toNat y2 * 1))).bind fun x6 =>
(bif (decide ((70 : Int) < ((ByteArray.size x6 : Nat) : Int))) then (some (.done (.ret false, h3))) else (some (.more ((IntKind.wrap .i64 (y2 + 1)), h3))))))) else (some (.done (.ex0 (), h3)))))
noncomputable def r53_Short (a0 : Fsv) (h : H) : Option ((Bool) × H) :=
(match a0 with
| (a0_0, a0_1, a0_2, a0_3, a0_4, a0_5) =>
(let h1 : H := H.new h [.int .i64 a0_0, .int .i64 a0_1, .int .i64 a0_2, .int .i64 a0_3, .slice a0_4.a a0_4.len a0_4.cap a0_4.tail, .slice a0_5.a a0_5.len a0_5.cap a0_5.tail] 6
((iter FUEL (r53_Short.loop1 h) (0, h1)).bind fun (fl8, h7) => match fl8 with
| .next _ => none
| .ret rr9 => (some (rr9, h7))
| .ex0 _ =>
((((rdT (.leaf .slice) h7 (.hp h.next 6 4)).bind fun x10 =>
(bif (decide (((x10.len : Nat) : Int) ≤ 17)) then ((rdT (.leaf .slice) h7 (.hp h.next 6 5)).bind fun x11 =>
(some ((decide (((x11.len : Nat) : Int) ≤ 9)), h7))) else (some (false, h7))))).bind fun (y12, h13) =>
(some (y12, h13)))
| .ex1 _ => none)))
def r53_Short.A : Ann := { lits := [], conds := [], loops := [(2, [3], [.leaf (.int .i64)], [], [], some 0, none)], regs := [(6, [2], [.leaf .bool])] }
theorem r53_Short.eq : ∀ (x : TT [.agg FS]) (h : H), evalFn Tryz.prog (r53_Short.tb) r53_Short.A Tryz.f19 (.one (.leaf .bool)) (TT.un [.agg FS] x) h = r53_Short x h := by
  intro x h
  kernel_rfl
noncomputable def r53_ShortP (a0 : Fct) : Option (Bool) := (r53_Short (a0.1, a0.2.1, a0.2.2.1, a0.2.2.2.1, rowSV false [.int .i64] a0.2.2.2.2.1, rowSV false [.str] a0.2.2.2.2.2) H.empty).bind fun p => rdRes false p.2 (.one (.leaf .bool)) (Res.un (.one (.leaf .bool)) p.1)
theorem r53_ShortP.eq : ∀ x : TT [.agg FC], ((evalFn Tryz.prog (r53_Short.tb) r53_Short.A Tryz.f19 (.one (.leaf .bool)) (TT.lo false [.agg FC] x) H.empty).bind fun p => rdRes false p.2 (.one (.leaf .bool)) (Res.un (.one (.leaf .bool)) p.1)) = r53_ShortP x := by
  intro x
  rw [show TT.lo false [.agg FC] x = TT.un [.agg FS] ((x.1, x.2.1, x.2.2.1, x.2.2.2.1, rowSV false [.int .i64] x.2.2.2.2.1, rowSV false [.str] x.2.2.2.2.2)) from rfl, r53_Short.eq]
  rfl
noncomputable def r53_ShortP.e : Entry := mkP [.agg FC] (.one (.leaf .bool)) fun x => r53_ShortP x
theorem r53_ShortP.ok : EntryOK Tryz.prog 19 (r53_ShortP.e) := mkP_ok (r53_Short.tbok) Tryz.mixed Tryz.func19 (by kernel_rfl) r53_ShortP.eq
noncomputable def r53_Few.tb : Table := tab [(19, r53_ShortP.e)] [] Table.nil
theorem r53_Few.tbok : TabOK Tryz.prog (r53_Few.tb) := TabOK.tab (TabOK.nil Tryz.prog) (all_cons r53_ShortP.ok (all_nil _)) (all_nil _)
noncomputable def r53_Few.loop1 (a0 : SV) : (Int) × H → Option (Stp ((Int) × H) (Flow (Unit) (Bool) × H)) := fun (y1, h2) =>
(bif (decide (y1 < ((a0.len : Nat) : Int))) then (guardO (0 ≤ y1 ∧ y1 < ((a0.len : Nat) : Int)) ((rdT (.agg FS) h2 (V.add a0.a (Int.toNat y1 * 6))).bind fun (x3_0, x3_1, x3_2, x3_3, x3_4, x3_5) =>
((rdRow true h2 [.int .i64] x3_4).bind fun s5 =>
((rdRow true h2 [.str] x3_5).bind fun s6 =>
((r53_ShortP (x3_0, x3_1, x3_2, x3_3, s5, s6)).bind fun r4 =>
(bif (!r4) then (some (.done (.ret false, h2))) else (some (.more ((IntKind.wrap .i64 (y1 + 1)), h2))))))))) else (some (.done (.ex0 (), h2))))
noncomputable def r53_Few (a0 : SV) (a1 : Int) (h : H) : Option ((Bool) × H) :=
((iter FUEL (r53_Few.loop1 a0) (0, h)).bind fun (fl8, h7) => match fl8 with
| .next _ => none
| .ret rr9 => (some (rr9, h7))
| .ex0 _ =>
(some ((decide (((a0.len : Nat) : Int) ≤ a1)), h7))
| .ex1 _ => none)
def r53_Few.A : Ann := { lits := [], conds := [], loops := [(2, [5], [.leaf (.int .i64)], [], [], some 0, none)], regs := [] }
theorem r53_Few.eq : ∀ (x : TT [.leaf .slice, .leaf (.int .i64)]) (h : H), evalFn Tryz.prog (r53_Few.tb) r53_Few.A Tryz.f51 (.one (.leaf .bool)) (TT.un [.leaf .slice, .leaf (.int .i64)] x) h = r53_Few x.1 x.2 h := by
  intro x h
  kernel_rfl
noncomputable def r53_FewP (a0 : (List Fct)) (a1 : Int) : Option (Bool) := (r53_Few (rowSV false FC a0) a1 H.empty).bind fun p => rdRes false p.2 (.one (.leaf .bool)) (Res.un (.one (.leaf .bool)) p.1)
theorem r53_FewP.eq : ∀ x : TT [.leaf (.row FC), .leaf (.int .i64)], ((evalFn Tryz.prog (r53_Few.tb) r53_Few.A Tryz.f51 (.one (.leaf .bool)) (TT.lo false [.leaf (.row FC), .leaf (.int .i64)] x) H.empty).bind fun p => rdRes false p.2 (.one (.leaf .bool)) (Res.un (.one (.leaf .bool)) p.1)) = r53_FewP x.1 x.2 := by
  intro x
  rw [show TT.lo false [.leaf (.row FC), .leaf (.int .i64)] x = TT.un [.leaf .slice, .leaf (.int .i64)] ((rowSV false FC x.1), x.2) from rfl, r53_Few.eq]
  rfl
noncomputable def r53_FewP.e : Entry := mkP [.leaf (.row FC), .leaf (.int .i64)] (.one (.leaf .bool)) fun x => r53_FewP x.1 x.2
theorem r53_FewP.ok : EntryOK Tryz.prog 51 (r53_FewP.e) := mkP_ok (r53_Few.tbok) Tryz.mixed Tryz.func51 (by kernel_rfl) r53_FewP.eq
noncomputable def r54_Few.tb : Table := tab [(51, r53_FewP.e)] [] Table.nil
theorem r54_Few.tbok : TabOK Tryz.prog (r54_Few.tb) := TabOK.tab (TabOK.nil Tryz.prog) (all_cons r53_FewP.ok (all_nil _)) (all_nil _)
noncomputable def r54_Few (a0 : SV) (h : H) : Option ((Bool) × H) :=
((((rdRow true h FC a0).bind fun s2 =>
((r53_FewP s2 16).bind fun r1 =>
(bif !r1 then (bif (decide (((a0.len : Nat) : Int) = 1025)) then ((rdRow true h FC a0).bind fun s4 =>
((r53_FewP s4 ((a0.len : Nat) : Int)).bind fun r3 =>
(some (r3, h)))) else (some (false, h))) else (some (true, h)))))).bind fun (y5, h6) =>
(some (y5, h6)))
def r54_Few.A : Ann := { lits := [], conds := [], loops := [], regs := [(1, [2], [.leaf .bool])] }
theorem r54_Few.eq : ∀ (x : TT [.leaf .slice]) (h : H), evalFn Tryz.prog (r54_Few.tb) r54_Few.A Tryz.f11 (.one (.leaf .bool)) (TT.un [.leaf .slice] x) h = r54_Few x h := by
  intro x h
  kernel_rfl
noncomputable def r54_FewP (a0 : (List Fct)) : Option (Bool) := (r54_Few (rowSV false FC a0) H.empty).bind fun p => rdRes false p.2 (.one (.leaf .bool)) (Res.un (.one (.leaf .bool)) p.1)
theorem r54_FewP.eq : ∀ x : TT [.leaf (.row FC)], ((evalFn Tryz.prog (r54_Few.tb) r54_Few.A Tryz.f11 (.one (.leaf .bool)) (TT.lo false [.leaf (.row FC)] x) H.empty).bind fun p => rdRes false p.2 (.one (.leaf .bool)) (Res.un (.one (.leaf .bool)) p.1)) = r54_FewP x := by
  intro x
  rw [show TT.lo false [.leaf (.row FC)] x = TT.un [.leaf .slice] ((rowSV false FC x)) from rfl, r54_Few.eq]
  rfl
noncomputable def r54_FewP.e : Entry := mkP [.leaf (.row FC)] (.one (.leaf .bool)) fun x => r54_FewP x
theorem r54_FewP.ok : EntryOK Tryz.prog 11 (r54_FewP.e) := mkP_ok (r54_Few.tbok) Tryz.mixed Tryz.func11 (by kernel_rfl) r54_FewP.eq
noncomputable def slices_Clone_F2.tb : Table := tab [] [] Table.nil
theorem slices_Clone_F2.tbok : TabOK Tryz.prog (slices_Clone_F2.tb) := TabOK.tab (TabOK.nil Tryz.prog) (all_nil _) (all_nil _)
noncomputable def slices_Clone_F2 (a0 : SV) (h : H) : Option ((SV) × H) :=
(bif !(V.mayNil (a0.a : V)) then (bif (!(V.nn (a0.a : V))) then (some (⟨.nil, 0, 0, false⟩, h)) else ((cellsOf h (.slice a0.a a0.len a0.cap a0.tail : V) 6).bind fun (n3, cs3) =>
((appendS h none 6 80 (⟨.lp true ([]) 0, 0, 0, false⟩) cs3 n3).bind fun (s3, h2) =>
(some (s3, h2))))) else none)
def slices_Clone_F2.A : Ann := { lits := [], conds := [], loops := [], regs := [] }
theorem slices_Clone_F2.eq : ∀ (x : TT [.leaf .slice]) (h : H), evalFn Tryz.prog (slices_Clone_F2.tb) slices_Clone_F2.A Tryz.f59 (.one (.leaf .slice)) (TT.un [.leaf .slice] x) h = slices_Clone_F2 x h := by
  intro x h
  kernel_rfl
noncomputable def slices_Clone_F2.e : Entry := mkX [.leaf .slice] (.one (.leaf .slice)) (cloneX 6 80)
theorem slices_Clone_F2.ok : EntryOK Tryz.prog 59 slices_Clone_F2.e := cloneX_ok (g := slices_Clone_F2) (mkX_ok (slices_Clone_F2.tbok) Tryz.mixed Tryz.func59 (by kernel_rfl) (slices_Clone_F2.eq)) (fun s h => by kernel_rfl)
noncomputable def law_cp.tb : Table := tab [(21, r53_CopyP.e), (59, slices_Clone_F2.e)] [] Table.nil
theorem law_cp.tbok : TabOK Tryz.prog (law_cp.tb) := TabOK.tab (TabOK.nil Tryz.prog) (all_cons r53_CopyP.ok (all_cons slices_Clone_F2.ok (all_nil _))) (all_nil _)
noncomputable def law_cp.loop1 (r1 : SV) : (Int) × H → Option (Stp ((Int) × H) (Flow (Unit) (SV) × H)) := fun (y3, h4) =>
(bif (decide (y3 < ((r1.len : Nat) : Int))) then (guardO (0 ≤ y3 ∧ y3 < ((r1.len : Nat) : Int)) ((rdT (.agg FS) h4 (V.add r1.a (Int.toNat y3 * 6))).bind fun (x5_0, x5_1, x5_2, x5_3, x5_4, x5_5) =>
((rdRow true h4 [.int .i64] x5_4).bind fun s7 =>
((rdRow true h4 [.str] x5_5).bind fun s8 =>
((r53_CopyP (x5_0, x5_1, x5_2, x5_3, s7, s8)).bind fun (r6_0, r6_1, r6_2, r6_3, r6_4, r6_5) =>
(guardO (0 ≤ y3 ∧ y3 < ((r1.len : Nat) : Int)) ((H.wrs h4 (V.add r1.a (Int.toNat y3 * 6)) [.int .i64 r6_0, .int .i64 r6_1, .int .i64 r6_2, .int .i64 r6_3, .slice ((rowSV true [.int .i64] r6_4).a) r6_4.length r6_4.length true, .slice ((rowSV true [.str] r6_5).a) r6_5.length r6_5.length true]).bind fun h9 =>
(some (.more ((IntKind.wrap .i64 (y3 + 1)), h9)))))))))) else (some (.done (.ex0 (), h4))))
noncomputable def law_cp (a0 : SV) (h : H) : Option ((SV) × H) :=
((cloneX 6 80 a0 h).bind fun (r1, h2) =>
((iter FUEL (law_cp.loop1 r1) (0, h2)).bind fun (fl11, h10) => match fl11 with
| .next _ => none
| .ret rr12 => (some (rr12, h10))
| .ex0 _ =>
(some (r1, h10))
| .ex1 _ => none))
def law_cp.A : Ann := { lits := [], conds := [], loops := [(3, [9], [.leaf (.int .i64)], [], [], some 0, none)], regs := [] }
theorem law_cp.eq : ∀ (x : TT [.leaf .slice]) (h : H), evalFn Tryz.prog (law_cp.tb) law_cp.A Tryz.f13 (.one (.leaf .slice)) (TT.un [.leaf .slice] x) h = law_cp x h := by
  intro x h
  kernel_rfl
noncomputable def law_cp.e : Entry := mkX [.leaf .slice] (.one (.leaf .slice)) fun x h => law_cp x h
theorem law_cp.ok : EntryOK Tryz.prog 13 (law_cp.e) := mkX_ok (law_cp.tbok) Tryz.mixed Tryz.func13 (by kernel_rfl) (law_cp.eq)
noncomputable def law_cpP (a0 : (List Fct)) : Option ((List Fct)) := (law_cp (rowSV false FC a0) H.empty).bind fun p => rdRes false p.2 (.one (.leaf (.row FC))) (Res.un (.one (.leaf .slice)) p.1)
theorem law_cpP.eq : ∀ x : TT [.leaf (.row FC)], ((evalFn Tryz.prog (law_cp.tb) law_cp.A Tryz.f13 (.one (.leaf .slice)) (TT.lo false [.leaf (.row FC)] x) H.empty).bind fun p => rdRes false p.2 (.one (.leaf (.row FC))) (Res.un (.one (.leaf .slice)) p.1)) = law_cpP x := by
  intro x
  rw [show TT.lo false [.leaf (.row FC)] x = TT.un [.leaf .slice] ((rowSV false FC x)) from rfl, law_cp.eq]
  rfl
noncomputable def law_cpP.e : Entry := mkP [.leaf (.row FC)] (.one (.leaf (.row FC))) fun x => law_cpP x
theorem law_cpP.ok : EntryOK Tryz.prog 13 (law_cpP.e) := mkP_ok (law_cp.tbok) Tryz.mixed Tryz.func13 (by kernel_rfl) law_cpP.eq
noncomputable def spileref47_Between.tb : Table := tab [] [] Table.nil
theorem spileref47_Between.tbok : TabOK Tryz.prog (spileref47_Between.tb) := TabOK.tab (TabOK.nil Tryz.prog) (all_nil _) (all_nil _)
noncomputable def spileref47_Between (a0 : Int) (a1 : Int) (a2 : Int) (h : H) : Option ((Bool) × H) :=
(((bif (decide (a1 ≤ a0)) then (some ((decide (a0 ≤ a2)), h)) else (some (false, h)))).bind fun (y1, h2) =>
(some (y1, h2)))
def spileref47_Between.A : Ann := { lits := [], conds := [], loops := [], regs := [(1, [6], [.leaf .bool])] }
theorem spileref47_Between.eq : ∀ (x : TT [.leaf (.int .i64), .leaf (.int .i64), .leaf (.int .i64)]) (h : H), evalFn Tryz.prog (spileref47_Between.tb) spileref47_Between.A Tryz.f134 (.one (.leaf .bool)) (TT.un [.leaf (.int .i64), .leaf (.int .i64), .leaf (.int .i64)] x) h = spileref47_Between x.1 x.2.1 x.2.2 h := by
  intro x h
  kernel_rfl
noncomputable def spileref47_BetweenP (a0 : Int) (a1 : Int) (a2 : Int) : Option (Bool) := (spileref47_Between a0 a1 a2 H.empty).bind fun p => rdRes false p.2 (.one (.leaf .bool)) (Res.un (.one (.leaf .bool)) p.1)
theorem spileref47_BetweenP.eq : ∀ x : TT [.leaf (.int .i64), .leaf (.int .i64), .leaf (.int .i64)], ((evalFn Tryz.prog (spileref47_Between.tb) spileref47_Between.A Tryz.f134 (.one (.leaf .bool)) (TT.lo false [.leaf (.int .i64), .leaf (.int .i64), .leaf (.int .i64)] x) H.empty).bind fun p => rdRes false p.2 (.one (.leaf .bool)) (Res.un (.one (.leaf .bool)) p.1)) = spileref47_BetweenP x.1 x.2.1 x.2.2 := by
  intro x
  rw [show TT.lo false [.leaf (.int .i64), .leaf (.int .i64), .leaf (.int .i64)] x = TT.un [.leaf (.int .i64), .leaf (.int .i64), .leaf (.int .i64)] (x.1, x.2.1, x.2.2) from rfl, spileref47_Between.eq]
  rfl
noncomputable def spileref47_BetweenP.e : Entry := mkP [.leaf (.int .i64), .leaf (.int .i64), .leaf (.int .i64)] (.one (.leaf .bool)) fun x => spileref47_BetweenP x.1 x.2.1 x.2.2
theorem spileref47_BetweenP.ok : EntryOK Tryz.prog 134 (spileref47_BetweenP.e) := mkP_ok (spileref47_Between.tbok) Tryz.mixed Tryz.func134 (by kernel_rfl) spileref47_BetweenP.eq
noncomputable def r53_between.tb : Table := tab [(134, spileref47_BetweenP.e)] [] Table.nil
theorem r53_between.tbok : TabOK Tryz.prog (r53_between.tb) := TabOK.tab (TabOK.nil Tryz.prog) (all_cons spileref47_BetweenP.ok (all_nil _)) (all_nil _)
noncomputable def r53_between (a0 : Int) (a1 : Int) (a2 : Int) (h : H) : Option ((Bool) × H) :=
((spileref47_BetweenP a0 a1 a2).bind fun r1 =>
(some (r1, h)))
def r53_between.A : Ann := { lits := [], conds := [], loops := [], regs := [] }
theorem r53_between.eq : ∀ (x : TT [.leaf (.int .i64), .leaf (.int .i64), .leaf (.int .i64)]) (h : H), evalFn Tryz.prog (r53_between.tb) r53_between.A Tryz.f104 (.one (.leaf .bool)) (TT.un [.leaf (.int .i64), .leaf (.int .i64), .leaf (.int .i64)] x) h = r53_between x.1 x.2.1 x.2.2 h := by
  intro x h
  kernel_rfl
noncomputable def r53_betweenP (a0 : Int) (a1 : Int) (a2 : Int) : Option (Bool) := (r53_between a0 a1 a2 H.empty).bind fun p => rdRes false p.2 (.one (.leaf .bool)) (Res.un (.one (.leaf .bool)) p.1)
theorem r53_betweenP.eq : ∀ x : TT [.leaf (.int .i64), .leaf (.int .i64), .leaf (.int .i64)], ((evalFn Tryz.prog (r53_between.tb) r53_between.A Tryz.f104 (.one (.leaf .bool)) (TT.lo false [.leaf (.int .i64), .leaf (.int .i64), .leaf (.int .i64)] x) H.empty).bind fun p => rdRes false p.2 (.one (.leaf .bool)) (Res.un (.one (.leaf .bool)) p.1)) = r53_betweenP x.1 x.2.1 x.2.2 := by
  intro x
  rw [show TT.lo false [.leaf (.int .i64), .leaf (.int .i64), .leaf (.int .i64)] x = TT.un [.leaf (.int .i64), .leaf (.int .i64), .leaf (.int .i64)] (x.1, x.2.1, x.2.2) from rfl, r53_between.eq]
  rfl
noncomputable def r53_betweenP.e : Entry := mkP [.leaf (.int .i64), .leaf (.int .i64), .leaf (.int .i64)] (.one (.leaf .bool)) fun x => r53_betweenP x.1 x.2.1 x.2.2
theorem r53_betweenP.ok : EntryOK Tryz.prog 104 (r53_betweenP.e) := mkP_ok (r53_between.tbok) Tryz.mixed Tryz.func104 (by kernel_rfl) r53_betweenP.eq

end Go.Proofs.YtjkjcnadgpndoaaGreat
