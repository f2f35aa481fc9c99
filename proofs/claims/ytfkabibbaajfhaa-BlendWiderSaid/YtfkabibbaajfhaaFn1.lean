/- The functions of the program as Lean functions, each with the equation by which the evaluator is that function. Written by a program of this session (evdrive.py). Conditions: none. -/
import Derived.Test.YtfkabibbaajfhaaProg
import Derived.Test.YtfkabibbaajfhaaEvSpec
import Derived.Test.YtfkabibbaajfhaaFn0
namespace Go.Proofs.Ytfkabibbaajfhaa
open Go Go.Proofs.Ytfkabibbaajfhaa.Ev
set_option maxRecDepth 100000
set_option linter.unusedVariables false
/-! ### sort.Search: function 67 -/
noncomputable def sort_Search.tb (T : Table) : Table := tab [] [] T
theorem sort_Search.tbok (T : Table) (hT : TabOK Try.prog T) : TabOK Try.prog (sort_Search.tb T) := TabOK.tab (hT) (all_nil _) (all_nil _)
noncomputable def sort_Search.loop1 (T : Table) (a1 : V) : (Int × Int) × H → Option (Stp ((Int × Int) × H) (Flow (Int) (Int) × H)) := fun ((y1, y2), h3) =>
(bif (decide (y1 < y2)) then (callV T.dy a1 [.int .i64 (IntKind.wrap .i64 ((Int.fdiv (IntKind.wrap .u64 ((IntKind.wrap .i64 (y1 + y2)))) (2 ^ (min (Int.toNat 1) (IntKind.bits .u64))))))] h3 fun v4 h5 =>
(Res.pack (.one (.leaf .bool)) v4).bind fun r6 =>
((bif (!r6) then (some (.next ((IntKind.wrap .i64 ((IntKind.wrap .i64 ((Int.fdiv (IntKind.wrap .u64 ((IntKind.wrap .i64 (y1 + y2)))) (2 ^ (min (Int.toNat 1) (IntKind.bits .u64)))))) + 1)), y2), h5)) else (some (.next (y1, (IntKind.wrap .i64 ((Int.fdiv (IntKind.wrap .u64 ((IntKind.wrap .i64 (y1 + y2)))) (2 ^ (min (Int.toNat 1) (IntKind.bits .u64))))))), h5)) : Option (Flow (Int × Int) (Int) × H)).bind fun (fl8, h7) => match fl8 with
| .next (y9, y10) =>
(some (.more ((y9, y10), h7)))
| .ret rr11 => (some (.done (.ret rr11, h7)))
| .ex0 _ => none
| .ex1 _ => none)) else (some (.done (.ex0 y1, h3))))
noncomputable def sort_Search (T : Table) (a0 : Int) (a1 : V) (h : H) : Option ((Int) × H) :=
((iter FUEL (sort_Search.loop1 T a1) ((0, a0), h)).bind fun (fl13, h12) => match fl13 with
| .next _ => none
| .ret rr14 => (some (rr14, h12))
| .ex0 y15 =>
(some (y15, h12))
| .ex1 _ => none)
def sort_Search.A : Ann := { lits := [], conds := [(21, [5, 6], [.leaf (.int .i64), .leaf (.int .i64)], none, none)], loops := [(2, [5, 6], [.leaf (.int .i64), .leaf (.int .i64)], [5], [.leaf (.int .i64)], some 0, none)], regs := [] }
theorem sort_Search.eq (T : Table) : ∀ (x : TT [.leaf (.int .i64), .leaf .dyn]) (h : H), evalFn Try.prog (sort_Search.tb T) sort_Search.A Try.f67 (.one (.leaf (.int .i64))) (TT.un [.leaf (.int .i64), .leaf .dyn] x) h = sort_Search T x.1 x.2 h := by
  intro x h
  kernel_rfl
noncomputable def sort_Search.e (T : Table) : Entry := mkX [.leaf (.int .i64), .leaf .dyn] (.one (.leaf (.int .i64))) fun x h => sort_Search T x.1 x.2 h
theorem sort_Search.ok (T : Table) (hT : TabOK Try.prog T) : EntryOK Try.prog 67 (sort_Search.e T) := mkX_ok (sort_Search.tbok T hT) Try.mixed Try.func67 (by kernel_rfl) (sort_Search.eq T)

/-! ### spile/interpolate.at$1: function 104 -/
noncomputable def interpolate_at_1.tb : Table := tab [] [] Table.nil
theorem interpolate_at_1.tbok : TabOK Try.prog (interpolate_at_1.tb) := TabOK.tab (TabOK.nil Try.prog) (all_nil _) (all_nil _)
noncomputable def interpolate_at_1 (a0 : Int) (a1 : V) (a2 : V) (h : H) : Option ((Bool) × H) :=
(let h1 : H := H.reserve h 0
((rdT (.leaf .slice) h1 a1).bind fun x2 =>
(guardO (0 ≤ a0 ∧ a0 < ((x2.len : Nat) : Int)) (guardO (V.nn ((V.add x2.a (Int.toNat a0 * 2)) : V) = true) ((rdT (.leaf (.int .i64)) h1 (V.add (V.add x2.a (Int.toNat a0 * 2)) 0)).bind fun x3 =>
((rdT (.leaf (.int .i64)) h1 a2).bind fun x4 =>
(some ((decide (x4 ≤ x3)), h1))))))))
def interpolate_at_1.A : Ann := { lits := [], conds := [], loops := [], regs := [] }
theorem interpolate_at_1.eq : ∀ (x : TT [.leaf (.int .i64), .leaf .ptr, .leaf .ptr]) (h : H), evalFn Try.prog (interpolate_at_1.tb) interpolate_at_1.A Try.f104 (.one (.leaf .bool)) (TT.un [.leaf (.int .i64), .leaf .ptr, .leaf .ptr] x) h = interpolate_at_1 x.1 x.2.1 x.2.2 h := by
  intro x h
  kernel_rfl
noncomputable def interpolate_at_1.e : Entry := mkX [.leaf (.int .i64), .leaf .ptr, .leaf .ptr] (.one (.leaf .bool)) fun x h => interpolate_at_1 x.1 x.2.1 x.2.2 h
theorem interpolate_at_1.ok : EntryOK Try.prog 104 (interpolate_at_1.e) := mkX_ok (interpolate_at_1.tbok) Try.mixed Try.func104 (by kernel_rfl) (interpolate_at_1.eq)

/-! ### spile/interpolate.between: function 105 -/
noncomputable def interpolate_between.tb : Table := tab [] [] Table.nil
theorem interpolate_between.tbok : TabOK Try.prog (interpolate_between.tb) := TabOK.tab (TabOK.nil Try.prog) (all_nil _) (all_nil _)
noncomputable def interpolate_between (a0 : (Int × Int)) (a1 : (Int × Int)) (a2 : Int) (h : H) : Option ((Int) × H) :=
(match a0 with
| (a0_0, a0_1) =>
(match a1 with
| (a1_0, a1_1) =>
(let h1 : H := H.new h [.int .i64 a0_0, .int .i64 a0_1] 2
(let h2 : H := H.new h1 [.int .i64 a1_0, .int .i64 a1_1] 2
((rdT (.leaf (.int .i64)) h2 (.hp h1.next 2 0)).bind fun x3 =>
((rdT (.leaf (.int .i64)) h2 (.hp h.next 2 0)).bind fun x4 =>
((rdT (.leaf (.int .i64)) h2 (.hp h.next 2 1)).bind fun x5 =>
((rdT (.leaf (.int .i64)) h2 (.hp h1.next 2 0)).bind fun x6 =>
((rdT (.leaf (.int .i64)) h2 (.hp h1.next 2 1)).bind fun x7 =>
((rdT (.leaf (.int .i64)) h2 (.hp h.next 2 0)).bind fun x8 =>
(guardO ((IntKind.wrap .i64 (2 * (IntKind.wrap .i64 (x3 - x4)))) ≠ 0) (some ((IntKind.wrap .i64 (Int.tdiv (IntKind.wrap .i64 ((IntKind.wrap .i64 (2 * (IntKind.wrap .i64 ((IntKind.wrap .i64 (x5 * (IntKind.wrap .i64 (x6 - a2)))) + (IntKind.wrap .i64 (x7 * (IntKind.wrap .i64 (a2 - x8)))))))) + (IntKind.wrap .i64 (x3 - x4)))) (IntKind.wrap .i64 (2 * (IntKind.wrap .i64 (x3 - x4)))))), h2)))))))))))))
def interpolate_between.A : Ann := { lits := [], conds := [], loops := [], regs := [] }
theorem interpolate_between.eq : ∀ (x : TT [.agg [.int .i64, .int .i64], .agg [.int .i64, .int .i64], .leaf (.int .i64)]) (h : H), evalFn Try.prog (interpolate_between.tb) interpolate_between.A Try.f105 (.one (.leaf (.int .i64))) (TT.un [.agg [.int .i64, .int .i64], .agg [.int .i64, .int .i64], .leaf (.int .i64)] x) h = interpolate_between x.1 x.2.1 x.2.2 h := by
  intro x h
  kernel_rfl
noncomputable def interpolate_between.e : Entry := mkX [.agg [.int .i64, .int .i64], .agg [.int .i64, .int .i64], .leaf (.int .i64)] (.one (.leaf (.int .i64))) fun x h => interpolate_between x.1 x.2.1 x.2.2 h
theorem interpolate_between.ok : EntryOK Try.prog 105 (interpolate_between.e) := mkX_ok (interpolate_between.tbok) Try.mixed Try.func105 (by kernel_rfl) (interpolate_between.eq)
noncomputable def interpolate_betweenP (a0 : (Int × Int)) (a1 : (Int × Int)) (a2 : Int) : Option (Int) := (interpolate_between a0 a1 a2 H.empty).bind fun p => rdRes false p.2 (.one (.leaf (.int .i64))) (Res.un (.one (.leaf (.int .i64))) p.1)
theorem interpolate_betweenP.eq : ∀ x : TT [.agg [.int .i64, .int .i64], .agg [.int .i64, .int .i64], .leaf (.int .i64)], ((evalFn Try.prog (interpolate_between.tb) interpolate_between.A Try.f105 (.one (.leaf (.int .i64))) (TT.lo false [.agg [.int .i64, .int .i64], .agg [.int .i64, .int .i64], .leaf (.int .i64)] x) H.empty).bind fun p => rdRes false p.2 (.one (.leaf (.int .i64))) (Res.un (.one (.leaf (.int .i64))) p.1)) = interpolate_betweenP x.1 x.2.1 x.2.2 := by
  intro x
  rw [show TT.lo false [.agg [.int .i64, .int .i64], .agg [.int .i64, .int .i64], .leaf (.int .i64)] x = TT.un [.agg [.int .i64, .int .i64], .agg [.int .i64, .int .i64], .leaf (.int .i64)] (x.1, x.2.1, x.2.2) from rfl, interpolate_between.eq]
  rfl
noncomputable def interpolate_betweenP.e : Entry := mkP [.agg [.int .i64, .int .i64], .agg [.int .i64, .int .i64], .leaf (.int .i64)] (.one (.leaf (.int .i64))) fun x => interpolate_betweenP x.1 x.2.1 x.2.2
theorem interpolate_betweenP.ok : EntryOK Try.prog 105 (interpolate_betweenP.e) := mkP_ok (interpolate_between.tbok) Try.mixed Try.func105 (by kernel_rfl) interpolate_betweenP.eq

/-! ### spile/interpolate.at: function 96 -/
noncomputable def interpolate_at.tb : Table := tab [(105, interpolate_betweenP.e)] [(104, interpolate_at_1.e)] Table.nil
theorem interpolate_at.tbok : TabOK Try.prog (interpolate_at.tb) := TabOK.tab (TabOK.nil Try.prog) (all_cons interpolate_betweenP.ok (all_nil _)) (all_cons interpolate_at_1.ok (all_nil _))
noncomputable def interpolate_at (a0 : SV) (a1 : Int) (h : H) : Option ((Int) × H) :=
(let h1 : H := H.new h [.slice a0.a a0.len a0.cap a0.tail] 1
(let h2 : H := H.new h1 [.int .i64 a1] 1
((rdT (.leaf .slice) h2 (.hp h.next 1 0)).bind fun x3 =>
((sort_Search interpolate_at.tb ((x3.len : Nat) : Int) (.func 104 [.hp h.next 1 0, .hp h1.next 1 0] : V) h2).bind fun (r4, h5) =>
(let h6 : H := H.reserve h5 0
((rdT (.leaf .slice) h6 (.hp h.next 1 0)).bind fun x7 =>
(guardO (0 ≤ r4 ∧ r4 < ((x7.len : Nat) : Int)) (guardO (V.nn ((V.add x7.a (Int.toNat r4 * 2)) : V) = true) ((rdT (.leaf (.int .i64)) h6 (V.add (V.add x7.a (Int.toNat r4 * 2)) 0)).bind fun x8 =>
((rdT (.leaf (.int .i64)) h6 (.hp h1.next 1 0)).bind fun x9 =>
(bif (decide (x8 = x9)) then ((rdT (.leaf .slice) h6 (.hp h.next 1 0)).bind fun x10 =>
(guardO (0 ≤ r4 ∧ r4 < ((x10.len : Nat) : Int)) (guardO (V.nn ((V.add x10.a (Int.toNat r4 * 2)) : V) = true) ((rdT (.leaf (.int .i64)) h6 (V.add (V.add x10.a (Int.toNat r4 * 2)) 1)).bind fun x11 =>
(some (x11, h6)))))) else (let h12 : H := H.reserve h6 0
((rdT (.leaf .slice) h12 (.hp h.next 1 0)).bind fun x13 =>
(guardO (0 ≤ (IntKind.wrap .i64 (r4 - 1)) ∧ (IntKind.wrap .i64 (r4 - 1)) < ((x13.len : Nat) : Int)) ((rdT (.agg [.int .i64, .int .i64]) h12 (V.add x13.a (Int.toNat (IntKind.wrap .i64 (r4 - 1)) * 2))).bind fun (x14_0, x14_1) =>
((rdT (.leaf .slice) h12 (.hp h.next 1 0)).bind fun x15 =>
(guardO (0 ≤ r4 ∧ r4 < ((x15.len : Nat) : Int)) ((rdT (.agg [.int .i64, .int .i64]) h12 (V.add x15.a (Int.toNat r4 * 2))).bind fun (x16_0, x16_1) =>
((rdT (.leaf (.int .i64)) h12 (.hp h1.next 1 0)).bind fun x17 =>
((interpolate_betweenP (x14_0, x14_1) (x16_0, x16_1) x17).bind fun r18 =>
(some (r18, h12))))))))))))))))))))))
def interpolate_at.A : Ann := { lits := [], conds := [], loops := [], regs := [] }
noncomputable def interpolate_at.tc : Table := tab [(67, sort_Search.e (interpolate_at.tb))] [] (interpolate_at.tb)
theorem interpolate_at.tcok : TabOK Try.prog (interpolate_at.tc) := TabOK.tab (interpolate_at.tbok) (all_cons (sort_Search.ok _ (interpolate_at.tbok)) (all_nil _)) (all_nil _)
theorem interpolate_at.eq : ∀ (x : TT [.leaf .slice, .leaf (.int .i64)]) (h : H), evalFn Try.prog (interpolate_at.tc) interpolate_at.A Try.f96 (.one (.leaf (.int .i64))) (TT.un [.leaf .slice, .leaf (.int .i64)] x) h = interpolate_at x.1 x.2 h := by
  intro x h
  kernel_rfl
noncomputable def interpolate_at.e : Entry := mkX [.leaf .slice, .leaf (.int .i64)] (.one (.leaf (.int .i64))) fun x h => interpolate_at x.1 x.2 h
theorem interpolate_at.ok : EntryOK Try.prog 96 (interpolate_at.e) := mkX_ok (interpolate_at.tcok) Try.mixed Try.func96 (by kernel_rfl) (interpolate_at.eq)
noncomputable def interpolate_atP (a0 : (List (Int × Int))) (a1 : Int) : Option (Int) := (interpolate_at (rowSV false [.int .i64, .int .i64] a0) a1 H.empty).bind fun p => rdRes false p.2 (.one (.leaf (.int .i64))) (Res.un (.one (.leaf (.int .i64))) p.1)
theorem interpolate_atP.eq : ∀ x : TT [.leaf (.row [.int .i64, .int .i64]), .leaf (.int .i64)], ((evalFn Try.prog (interpolate_at.tc) interpolate_at.A Try.f96 (.one (.leaf (.int .i64))) (TT.lo false [.leaf (.row [.int .i64, .int .i64]), .leaf (.int .i64)] x) H.empty).bind fun p => rdRes false p.2 (.one (.leaf (.int .i64))) (Res.un (.one (.leaf (.int .i64))) p.1)) = interpolate_atP x.1 x.2 := by
  intro x
  rw [show TT.lo false [.leaf (.row [.int .i64, .int .i64]), .leaf (.int .i64)] x = TT.un [.leaf .slice, .leaf (.int .i64)] ((rowSV false [.int .i64, .int .i64] x.1), x.2) from rfl, interpolate_at.eq]
  rfl
noncomputable def interpolate_atP.e : Entry := mkP [.leaf (.row [.int .i64, .int .i64]), .leaf (.int .i64)] (.one (.leaf (.int .i64))) fun x => interpolate_atP x.1 x.2
theorem interpolate_atP.ok : EntryOK Try.prog 96 (interpolate_atP.e) := mkP_ok (interpolate_at.tcok) Try.mixed Try.func96 (by kernel_rfl) interpolate_atP.eq

/-! ### spile/interpolate.Density: function 79 -/
noncomputable def interpolate_Density.tb : Table := tab [(95, interpolate_rightP.e), (96, interpolate_atP.e)] [] Table.nil
theorem interpolate_Density.tbok : TabOK Try.prog (interpolate_Density.tb) := TabOK.tab (TabOK.nil Try.prog) (all_cons interpolate_rightP.ok (all_cons interpolate_atP.ok (all_nil _))) (all_nil _)
noncomputable def interpolate_Density (a0 : SV) (a1 : Int) (h : H) : Option ((Int × Int) × H) :=
((rdRow true h [.int .i64, .int .i64] a0).bind fun s2 =>
((interpolate_rightP s2).bind fun r1 =>
(bif (!r1) then (some ((0, 1), h)) else (((bif !(decide (a1 < 0)) then (some ((decide ((10000 : Int) < a1)), h)) else (some (true, h)))).bind fun (y3, h4) =>
(bif y3 then (some ((0, 2), h4)) else ((rdRow true h4 [.int .i64, .int .i64] a0).bind fun s6 =>
((interpolate_atP s6 a1).bind fun r5 =>
(some ((r5, 0), h4)))))))))
def interpolate_Density.A : Ann := { lits := [], conds := [], loops := [], regs := [(3, [10], [.leaf .bool])] }
theorem interpolate_Density.eq : ∀ (x : TT [.leaf .slice, .leaf (.int .i64)]) (h : H), evalFn Try.prog (interpolate_Density.tb) interpolate_Density.A Try.f79 (.many [.leaf (.int .i64), .leaf (.int .i64)]) (TT.un [.leaf .slice, .leaf (.int .i64)] x) h = interpolate_Density x.1 x.2 h := by
  intro x h
  kernel_rfl
noncomputable def interpolate_Density.e : Entry := mkX [.leaf .slice, .leaf (.int .i64)] (.many [.leaf (.int .i64), .leaf (.int .i64)]) fun x h => interpolate_Density x.1 x.2 h
theorem interpolate_Density.ok : EntryOK Try.prog 79 (interpolate_Density.e) := mkX_ok (interpolate_Density.tbok) Try.mixed Try.func79 (by kernel_rfl) (interpolate_Density.eq)
noncomputable def interpolate_DensityP (a0 : (List (Int × Int))) (a1 : Int) : Option (Int × Int) := (interpolate_Density (rowSV false [.int .i64, .int .i64] a0) a1 H.empty).bind fun p => rdRes false p.2 (.many [.leaf (.int .i64), .leaf (.int .i64)]) (Res.un (.many [.leaf (.int .i64), .leaf (.int .i64)]) p.1)
theorem interpolate_DensityP.eq : ∀ x : TT [.leaf (.row [.int .i64, .int .i64]), .leaf (.int .i64)], ((evalFn Try.prog (interpolate_Density.tb) interpolate_Density.A Try.f79 (.many [.leaf (.int .i64), .leaf (.int .i64)]) (TT.lo false [.leaf (.row [.int .i64, .int .i64]), .leaf (.int .i64)] x) H.empty).bind fun p => rdRes false p.2 (.many [.leaf (.int .i64), .leaf (.int .i64)]) (Res.un (.many [.leaf (.int .i64), .leaf (.int .i64)]) p.1)) = interpolate_DensityP x.1 x.2 := by
  intro x
  rw [show TT.lo false [.leaf (.row [.int .i64, .int .i64]), .leaf (.int .i64)] x = TT.un [.leaf .slice, .leaf (.int .i64)] ((rowSV false [.int .i64, .int .i64] x.1), x.2) from rfl, interpolate_Density.eq]
  rfl
noncomputable def interpolate_DensityP.e : Entry := mkP [.leaf (.row [.int .i64, .int .i64]), .leaf (.int .i64)] (.many [.leaf (.int .i64), .leaf (.int .i64)]) fun x => interpolate_DensityP x.1 x.2
theorem interpolate_DensityP.ok : EntryOK Try.prog 79 (interpolate_DensityP.e) := mkP_ok (interpolate_Density.tbok) Try.mixed Try.func79 (by kernel_rfl) interpolate_DensityP.eq

/-! ### spile/alcohol.of: function 66 -/
noncomputable def alcohol_of.tb : Table := tab [(79, interpolate_DensityP.e)] [] Table.nil
theorem alcohol_of.tbok : TabOK Try.prog (alcohol_of.tb) := TabOK.tab (TabOK.nil Try.prog) (all_cons interpolate_DensityP.ok (all_nil _)) (all_nil _)
noncomputable def alcohol_of (a0 : SV) (a1 : Int) (h : H) : Option ((Int) × H) :=
((rdRow true h [.int .i64, .int .i64] a0).bind fun s3 =>
((interpolate_DensityP s3 a1).bind fun (r1, r2) =>
(some (r1, h))))
def alcohol_of.A : Ann := { lits := [], conds := [], loops := [], regs := [] }
theorem alcohol_of.eq : ∀ (x : TT [.leaf .slice, .leaf (.int .i64)]) (h : H), evalFn Try.prog (alcohol_of.tb) alcohol_of.A Try.f66 (.one (.leaf (.int .i64))) (TT.un [.leaf .slice, .leaf (.int .i64)] x) h = alcohol_of x.1 x.2 h := by
  intro x h
  kernel_rfl
noncomputable def alcohol_of.e : Entry := mkX [.leaf .slice, .leaf (.int .i64)] (.one (.leaf (.int .i64))) fun x h => alcohol_of x.1 x.2 h
theorem alcohol_of.ok : EntryOK Try.prog 66 (alcohol_of.e) := mkX_ok (alcohol_of.tbok) Try.mixed Try.func66 (by kernel_rfl) (alcohol_of.eq)
noncomputable def alcohol_ofP (a0 : (List (Int × Int))) (a1 : Int) : Option (Int) := (alcohol_of (rowSV false [.int .i64, .int .i64] a0) a1 H.empty).bind fun p => rdRes false p.2 (.one (.leaf (.int .i64))) (Res.un (.one (.leaf (.int .i64))) p.1)
theorem alcohol_ofP.eq : ∀ x : TT [.leaf (.row [.int .i64, .int .i64]), .leaf (.int .i64)], ((evalFn Try.prog (alcohol_of.tb) alcohol_of.A Try.f66 (.one (.leaf (.int .i64))) (TT.lo false [.leaf (.row [.int .i64, .int .i64]), .leaf (.int .i64)] x) H.empty).bind fun p => rdRes false p.2 (.one (.leaf (.int .i64))) (Res.un (.one (.leaf (.int .i64))) p.1)) = alcohol_ofP x.1 x.2 := by
  intro x
  rw [show TT.lo false [.leaf (.row [.int .i64, .int .i64]), .leaf (.int .i64)] x = TT.un [.leaf .slice, .leaf (.int .i64)] ((rowSV false [.int .i64, .int .i64] x.1), x.2) from rfl, alcohol_of.eq]
  rfl
noncomputable def alcohol_ofP.e : Entry := mkP [.leaf (.row [.int .i64, .int .i64]), .leaf (.int .i64)] (.one (.leaf (.int .i64))) fun x => alcohol_ofP x.1 x.2
theorem alcohol_ofP.ok : EntryOK Try.prog 66 (alcohol_ofP.e) := mkP_ok (alcohol_of.tbok) Try.mixed Try.func66 (by kernel_rfl) alcohol_ofP.eq

/-! ### spile/alcohol.Check: function 64 -/
noncomputable def alcohol_Check.tb : Table := tab [(36, density_CheckP.e), (66, alcohol_ofP.e)] [] Table.nil
theorem alcohol_Check.tbok : TabOK Try.prog (alcohol_Check.tb) := TabOK.tab (TabOK.nil Try.prog) (all_cons density_CheckP.ok (all_cons alcohol_ofP.ok (all_nil _))) (all_nil _)
noncomputable def alcohol_Check (a0 : SV) (a1 : (Int × Int)) (h : H) : Option ((Int) × H) :=
(match a1 with
| (a1_0, a1_1) =>
(let h1 : H := H.new h [.int .i64 a1_0, .int .i64 a1_1] 2
((rdRow true h1 [.int .i64, .int .i64] a0).bind fun s4 =>
((density_CheckP s4).bind fun (r2, r3) =>
(bif (!(decide (r3 = 0))) then (some (1, h1)) else ((((rdT (.leaf (.int .i64)) h1 (.hp h.next 2 0)).bind fun x5 =>
(bif !(decide (x5 < 0)) then ((rdT (.leaf (.int .i64)) h1 (.hp h.next 2 0)).bind fun x6 =>
(bif !(decide ((10737418240000 : Int) < x6)) then ((rdT (.leaf (.int .i64)) h1 (.hp h.next 2 1)).bind fun x7 =>
(bif !(decide (x7 < 0)) then ((rdT (.leaf (.int .i64)) h1 (.hp h.next 2 1)).bind fun x8 =>
(some ((decide ((128849018880000 : Int) < x8)), h1))) else (some (true, h1)))) else (some (true, h1)))) else (some (true, h1))))).bind fun (y9, h10) =>
(bif y9 then (some (2, h10)) else (let h11 : H := H.reserve h10 0
((rdT (.leaf (.int .i64)) h11 (.hp h.next 2 0)).bind fun x12 =>
((rdRow true h11 [.int .i64, .int .i64] a0).bind fun s14 =>
((alcohol_ofP s14 10000).bind fun r13 =>
((rdT (.leaf (.int .i64)) h11 (.hp h.next 2 1)).bind fun x15 =>
(bif (decide ((IntKind.wrap .i64 (x15 * 10000)) < (IntKind.wrap .i64 (x12 * r13)))) then (some (10, h11)) else (some (0, h11)))))))))))))))
def alcohol_Check.A : Ann := { lits := [], conds := [], loops := [], regs := [(4, [15], [.leaf .bool])] }
theorem alcohol_Check.eq : ∀ (x : TT [.leaf .slice, .agg [.int .i64, .int .i64]]) (h : H), evalFn Try.prog (alcohol_Check.tb) alcohol_Check.A Try.f64 (.one (.leaf (.int .i64))) (TT.un [.leaf .slice, .agg [.int .i64, .int .i64]] x) h = alcohol_Check x.1 x.2 h := by
  intro x h
  kernel_rfl
noncomputable def alcohol_Check.e : Entry := mkX [.leaf .slice, .agg [.int .i64, .int .i64]] (.one (.leaf (.int .i64))) fun x h => alcohol_Check x.1 x.2 h
theorem alcohol_Check.ok : EntryOK Try.prog 64 (alcohol_Check.e) := mkX_ok (alcohol_Check.tbok) Try.mixed Try.func64 (by kernel_rfl) (alcohol_Check.eq)
noncomputable def alcohol_CheckP (a0 : (List (Int × Int))) (a1 : (Int × Int)) : Option (Int) := (alcohol_Check (rowSV false [.int .i64, .int .i64] a0) a1 H.empty).bind fun p => rdRes false p.2 (.one (.leaf (.int .i64))) (Res.un (.one (.leaf (.int .i64))) p.1)
theorem alcohol_CheckP.eq : ∀ x : TT [.leaf (.row [.int .i64, .int .i64]), .agg [.int .i64, .int .i64]], ((evalFn Try.prog (alcohol_Check.tb) alcohol_Check.A Try.f64 (.one (.leaf (.int .i64))) (TT.lo false [.leaf (.row [.int .i64, .int .i64]), .agg [.int .i64, .int .i64]] x) H.empty).bind fun p => rdRes false p.2 (.one (.leaf (.int .i64))) (Res.un (.one (.leaf (.int .i64))) p.1)) = alcohol_CheckP x.1 x.2 := by
  intro x
  rw [show TT.lo false [.leaf (.row [.int .i64, .int .i64]), .agg [.int .i64, .int .i64]] x = TT.un [.leaf .slice, .agg [.int .i64, .int .i64]] ((rowSV false [.int .i64, .int .i64] x.1), x.2) from rfl, alcohol_Check.eq]
  rfl
noncomputable def alcohol_CheckP.e : Entry := mkP [.leaf (.row [.int .i64, .int .i64]), .agg [.int .i64, .int .i64]] (.one (.leaf (.int .i64))) fun x => alcohol_CheckP x.1 x.2
theorem alcohol_CheckP.ok : EntryOK Try.prog 64 (alcohol_CheckP.e) := mkP_ok (alcohol_Check.tbok) Try.mixed Try.func64 (by kernel_rfl) alcohol_CheckP.eq

/-! ### spile/blend.fault$1: function 71 -/
noncomputable def blend_fault_1.tb : Table := tab [(64, alcohol_CheckP.e)] [] Table.nil
theorem blend_fault_1.tbok : TabOK Try.prog (blend_fault_1.tb) := TabOK.tab (TabOK.nil Try.prog) (all_cons alcohol_CheckP.ok (all_nil _)) (all_nil _)
noncomputable def blend_fault_1 (a0 : (Int × Int)) (a1 : V) (h : H) : Option ((Bool) × H) :=
(match a0 with
| (a0_0, a0_1) =>
(let h1 : H := H.new h [.int .i64 a0_0, .int .i64 a0_1] 2
((((rdT (.leaf .slice) h1 a1).bind fun x2 =>
((rdT (.agg [.int .i64, .int .i64]) h1 (.hp h.next 2 0)).bind fun (x3_0, x3_1) =>
((rdRow true h1 [.int .i64, .int .i64] x2).bind fun s5 =>
((alcohol_CheckP s5 (x3_0, x3_1)).bind fun r4 =>
(bif !(!(decide (r4 = 0))) then ((rdT (.leaf (.int .i64)) h1 (.hp h.next 2 1)).bind fun x6 =>
(bif !(decide (x6 < 1)) then ((rdT (.leaf (.int .i64)) h1 (.hp h.next 2 1)).bind fun x7 =>
(some ((decide ((1000000000 : Int) < x7)), h1))) else (some (true, h1)))) else (some (true, h1)))))))).bind fun (y8, h9) =>
(some (y8, h9)))))
def blend_fault_1.A : Ann := { lits := [], conds := [], loops := [], regs := [(1, [3], [.leaf .bool])] }
theorem blend_fault_1.eq : ∀ (x : TT [.agg [.int .i64, .int .i64], .leaf .ptr]) (h : H), evalFn Try.prog (blend_fault_1.tb) blend_fault_1.A Try.f71 (.one (.leaf .bool)) (TT.un [.agg [.int .i64, .int .i64], .leaf .ptr] x) h = blend_fault_1 x.1 x.2 h := by
  intro x h
  kernel_rfl
noncomputable def blend_fault_1.e : Entry := mkX [.agg [.int .i64, .int .i64], .leaf .ptr] (.one (.leaf .bool)) fun x h => blend_fault_1 x.1 x.2 h
theorem blend_fault_1.ok : EntryOK Try.prog 71 (blend_fault_1.e) := mkX_ok (blend_fault_1.tbok) Try.mixed Try.func71 (by kernel_rfl) (blend_fault_1.eq)

/-! ### spile/blend.fault: function 37 -/
noncomputable def blend_fault.tb : Table := tab [(51, blend_outside.e)] [(71, blend_fault_1.e), (77, blend_outside_1.e)] Table.nil
theorem blend_fault.tbok : TabOK Try.prog (blend_fault.tb) := TabOK.tab (TabOK.nil Try.prog) (all_cons blend_outside.ok (all_nil _)) (all_cons blend_fault_1.ok (all_cons blend_outside_1.ok (all_nil _)))
noncomputable def blend_fault.loop1 (x37 : SV) : (Int × Int) × H → Option (Stp ((Int × Int) × H) (Flow (Int) (Int) × H)) := fun ((y38, y39), h40) =>
(bif (decide (y39 < ((x37.len : Nat) : Int))) then (guardO (0 ≤ y39 ∧ y39 < ((x37.len : Nat) : Int)) ((rdT (.leaf (.int .i64)) h40 (V.add x37.a (Int.toNat y39 * 1))).bind fun x41 =>
(some (.more (((IntKind.wrap .i64 (y38 * (IntKind.wrap .i64 (x41 + 1)))), (IntKind.wrap .i64 (y39 + 1))), h40))))) else (some (.done (.ex0 y38, h40))))
noncomputable def blend_fault (a0 : SV) (a1 : (SV × SV × SV × Int × Int × Int)) (h : H) : Option ((Int) × H) :=
(match a1 with
| (a1_0, a1_1, a1_2, a1_3, a1_4, a1_5) =>
(let h1 : H := H.new h [.slice a0.a a0.len a0.cap a0.tail] 1
(let h2 : H := H.new h1 [.slice a1_0.a a1_0.len a1_0.cap a1_0.tail, .slice a1_1.a a1_1.len a1_1.cap a1_1.tail, .slice a1_2.a a1_2.len a1_2.cap a1_2.tail, .int .i64 a1_3, .int .i64 a1_4, .int .i64 a1_5] 6
((rdT (.leaf .slice) h2 (.hp h1.next 6 0)).bind fun x3 =>
(bif (decide (((x3.len : Nat) : Int) = 0)) then (some (9, h2)) else ((rdT (.leaf .slice) h2 (.hp h1.next 6 0)).bind fun x4 =>
(bif (decide ((4 : Int) < ((x4.len : Nat) : Int))) then (some (8, h2)) else ((((rdT (.leaf .slice) h2 (.hp h1.next 6 1)).bind fun x5 =>
((rdT (.leaf .slice) h2 (.hp h1.next 6 0)).bind fun x6 =>
(bif !(!(decide (((x5.len : Nat) : Int) = ((x6.len : Nat) : Int)))) then ((rdT (.leaf .slice) h2 (.hp h1.next 6 2)).bind fun x7 =>
((rdT (.leaf .slice) h2 (.hp h1.next 6 0)).bind fun x8 =>
(some ((!(decide (((x7.len : Nat) : Int) = ((x8.len : Nat) : Int)))), h2)))) else (some (true, h2)))))).bind fun (y9, h10) =>
(bif y9 then (some (10, h10)) else ((rdT (.leaf .slice) h10 (.hp h1.next 6 0)).bind fun x11 =>
((slices_ContainsFunc_api_Liquid_api_Liquid blend_fault.tb x11 (.func 71 [.hp h.next 1 0] : V) h10).bind fun (r12, h13) =>
(bif r12 then (some (1, h13)) else (((let h14 : H := H.reserve h13 0
((rdT (.leaf .slice) h14 (.hp h1.next 6 1)).bind fun x15 =>
((blend_outside.q 64).bind fun r16 =>
((slices_ContainsFunc_int_int blend_fault.tb x15 r16 h14).bind fun (r17, h18) =>
(bif !r17 then ((rdT (.leaf .slice) h18 (.hp h1.next 6 2)).bind fun x19 =>
((blend_outside.q 1000000).bind fun r20 =>
((slices_ContainsFunc_int_int blend_fault.tb x19 r20 h18).bind fun (r21, h22) =>
(some (r21, h22))))) else (some (true, h18)))))))).bind fun (y23, h24) =>
(bif y23 then (some (2, h24)) else (((let h25 : H := H.reserve h24 0
((rdT (.leaf (.int .i64)) h25 (.hp h1.next 6 3)).bind fun x26 =>
((rdT (.leaf (.int .i64)) h25 (.hp h1.next 6 4)).bind fun x27 =>
((blend_outside.q 10000).bind fun r28 =>
((slices_ContainsFunc_int_int blend_fault.tb ⟨.lp true ([.int .i64 x26, .int .i64 x27]) 0, 2, 2, false⟩ r28 h25).bind fun (r29, h30) =>
(bif !r29 then ((rdT (.leaf (.int .i64)) h30 (.hp h1.next 6 3)).bind fun x31 =>
((rdT (.leaf (.int .i64)) h30 (.hp h1.next 6 4)).bind fun x32 =>
(bif !(decide (x32 < x31)) then ((rdT (.leaf (.int .i64)) h30 (.hp h1.next 6 5)).bind fun x33 =>
(bif !(decide (x33 < 1)) then ((rdT (.leaf (.int .i64)) h30 (.hp h1.next 6 5)).bind fun x34 =>
(some ((decide ((256 : Int) < x34)), h30))) else (some (true, h30)))) else (some (true, h30))))) else (some (true, h30))))))))).bind fun (y35, h36) =>
(bif y35 then (some (2, h36)) else ((rdT (.leaf .slice) h36 (.hp h1.next 6 1)).bind fun x37 =>
((iter FUEL (blend_fault.loop1 x37) ((1, 0), h36)).bind fun (fl43, h42) => match fl43 with
| .next _ => none
| .ret rr44 => (some (rr44, h42))
| .ex0 y45 =>
(bif (decide ((4096 : Int) < y45)) then (some (8, h42)) else (some (0, h42)))
| .ex1 _ => none))))))))))))))))))
def blend_fault.A : Ann := { lits := [], conds := [], loops := [(16, [6, 81], [.leaf (.int .i64), .leaf (.int .i64)], [6], [.leaf (.int .i64)], some 1, none)], regs := [(6, [20], [.leaf .bool]), (10, [42], [.leaf .bool]), (12, [53], [.leaf .bool])] }
noncomputable def blend_fault.tc : Table := tab [(46, slices_ContainsFunc_api_Liquid_api_Liquid.e (blend_fault.tb)), (50, slices_ContainsFunc_int_int.e (blend_fault.tb))] [] (blend_fault.tb)
theorem blend_fault.tcok : TabOK Try.prog (blend_fault.tc) := TabOK.tab (blend_fault.tbok) (all_cons (slices_ContainsFunc_api_Liquid_api_Liquid.ok _ (blend_fault.tbok)) (all_cons (slices_ContainsFunc_int_int.ok _ (blend_fault.tbok)) (all_nil _))) (all_nil _)
theorem blend_fault.eq : ∀ (x : TT [.leaf .slice, .agg [.slice, .slice, .slice, .int .i64, .int .i64, .int .i64]]) (h : H), evalFn Try.prog (blend_fault.tc) blend_fault.A Try.f37 (.one (.leaf (.int .i64))) (TT.un [.leaf .slice, .agg [.slice, .slice, .slice, .int .i64, .int .i64, .int .i64]] x) h = blend_fault x.1 x.2 h := by
  intro x h
  kernel_rfl
noncomputable def blend_fault.e : Entry := mkX [.leaf .slice, .agg [.slice, .slice, .slice, .int .i64, .int .i64, .int .i64]] (.one (.leaf (.int .i64))) fun x h => blend_fault x.1 x.2 h
theorem blend_fault.ok : EntryOK Try.prog 37 (blend_fault.e) := mkX_ok (blend_fault.tcok) Try.mixed Try.func37 (by kernel_rfl) (blend_fault.eq)
noncomputable def blend_faultP (a0 : (List (Int × Int))) (a1 : ((List (Int × Int)) × (List (Int)) × (List (Int)) × Int × Int × Int)) : Option (Int) := (blend_fault (rowSV false [.int .i64, .int .i64] a0) (rowSV false [.int .i64, .int .i64] a1.1, rowSV false [.int .i64] a1.2.1, rowSV false [.int .i64] a1.2.2.1, a1.2.2.2.1, a1.2.2.2.2.1, a1.2.2.2.2.2) H.empty).bind fun p => rdRes false p.2 (.one (.leaf (.int .i64))) (Res.un (.one (.leaf (.int .i64))) p.1)
theorem blend_faultP.eq : ∀ x : TT [.leaf (.row [.int .i64, .int .i64]), .agg [.row [.int .i64, .int .i64], .row [.int .i64], .row [.int .i64], .int .i64, .int .i64, .int .i64]], ((evalFn Try.prog (blend_fault.tc) blend_fault.A Try.f37 (.one (.leaf (.int .i64))) (TT.lo false [.leaf (.row [.int .i64, .int .i64]), .agg [.row [.int .i64, .int .i64], .row [.int .i64], .row [.int .i64], .int .i64, .int .i64, .int .i64]] x) H.empty).bind fun p => rdRes false p.2 (.one (.leaf (.int .i64))) (Res.un (.one (.leaf (.int .i64))) p.1)) = blend_faultP x.1 x.2 := by
  intro x
  rw [show TT.lo false [.leaf (.row [.int .i64, .int .i64]), .agg [.row [.int .i64, .int .i64], .row [.int .i64], .row [.int .i64], .int .i64, .int .i64, .int .i64]] x = TT.un [.leaf .slice, .agg [.slice, .slice, .slice, .int .i64, .int .i64, .int .i64]] ((rowSV false [.int .i64, .int .i64] x.1), (rowSV false [.int .i64, .int .i64] x.2.1, rowSV false [.int .i64] x.2.2.1, rowSV false [.int .i64] x.2.2.2.1, x.2.2.2.2.1, x.2.2.2.2.2.1, x.2.2.2.2.2.2)) from rfl, blend_fault.eq]
  rfl
noncomputable def blend_faultP.e : Entry := mkP [.leaf (.row [.int .i64, .int .i64]), .agg [.row [.int .i64, .int .i64], .row [.int .i64], .row [.int .i64], .int .i64, .int .i64, .int .i64]] (.one (.leaf (.int .i64))) fun x => blend_faultP x.1 x.2
theorem blend_faultP.ok : EntryOK Try.prog 37 (blend_faultP.e) := mkP_ok (blend_fault.tcok) Try.mixed Try.func37 (by kernel_rfl) blend_faultP.eq

/-! ### spile/blend.Check: function 14 -/
noncomputable def blend_Check.tb : Table := tab [(36, density_CheckP.e), (37, blend_faultP.e)] [] Table.nil
theorem blend_Check.tbok : TabOK Try.prog (blend_Check.tb) := TabOK.tab (TabOK.nil Try.prog) (all_cons density_CheckP.ok (all_cons blend_faultP.ok (all_nil _))) (all_nil _)
noncomputable def blend_Check (a0 : SV) (a1 : (SV × SV × SV × Int × Int × Int)) (h : H) : Option ((Int) × H) :=
(match a1 with
| (a1_0, a1_1, a1_2, a1_3, a1_4, a1_5) =>
(let h1 : H := H.new h [.slice a1_0.a a1_0.len a1_0.cap a1_0.tail, .slice a1_1.a a1_1.len a1_1.cap a1_1.tail, .slice a1_2.a a1_2.len a1_2.cap a1_2.tail, .int .i64 a1_3, .int .i64 a1_4, .int .i64 a1_5] 6
((rdRow true h1 [.int .i64, .int .i64] a0).bind fun s4 =>
((density_CheckP s4).bind fun (r2, r3) =>
(bif (!(decide (r3 = 0))) then (some (1, h1)) else ((rdT (.agg [.slice, .slice, .slice, .int .i64, .int .i64, .int .i64]) h1 (.hp h.next 6 0)).bind fun (x5_0, x5_1, x5_2, x5_3, x5_4, x5_5) =>
((rdRow true h1 [.int .i64, .int .i64] a0).bind fun s7 =>
((rdRow true h1 [.int .i64, .int .i64] x5_0).bind fun s8 =>
((rdRow true h1 [.int .i64] x5_1).bind fun s9 =>
((rdRow true h1 [.int .i64] x5_2).bind fun s10 =>
((blend_faultP s7 (s8, s9, s10, x5_3, x5_4, x5_5)).bind fun r6 =>
(some (r6, h1)))))))))))))
def blend_Check.A : Ann := { lits := [], conds := [], loops := [], regs := [] }
theorem blend_Check.eq : ∀ (x : TT [.leaf .slice, .agg [.slice, .slice, .slice, .int .i64, .int .i64, .int .i64]]) (h : H), evalFn Try.prog (blend_Check.tb) blend_Check.A Try.f14 (.one (.leaf (.int .i64))) (TT.un [.leaf .slice, .agg [.slice, .slice, .slice, .int .i64, .int .i64, .int .i64]] x) h = blend_Check x.1 x.2 h := by
  intro x h
  kernel_rfl
noncomputable def blend_Check.e : Entry := mkX [.leaf .slice, .agg [.slice, .slice, .slice, .int .i64, .int .i64, .int .i64]] (.one (.leaf (.int .i64))) fun x h => blend_Check x.1 x.2 h
theorem blend_Check.ok : EntryOK Try.prog 14 (blend_Check.e) := mkX_ok (blend_Check.tbok) Try.mixed Try.func14 (by kernel_rfl) (blend_Check.eq)
noncomputable def blend_CheckP (a0 : (List (Int × Int))) (a1 : ((List (Int × Int)) × (List (Int)) × (List (Int)) × Int × Int × Int)) : Option (Int) := (blend_Check (rowSV false [.int .i64, .int .i64] a0) (rowSV false [.int .i64, .int .i64] a1.1, rowSV false [.int .i64] a1.2.1, rowSV false [.int .i64] a1.2.2.1, a1.2.2.2.1, a1.2.2.2.2.1, a1.2.2.2.2.2) H.empty).bind fun p => rdRes false p.2 (.one (.leaf (.int .i64))) (Res.un (.one (.leaf (.int .i64))) p.1)
theorem blend_CheckP.eq : ∀ x : TT [.leaf (.row [.int .i64, .int .i64]), .agg [.row [.int .i64, .int .i64], .row [.int .i64], .row [.int .i64], .int .i64, .int .i64, .int .i64]], ((evalFn Try.prog (blend_Check.tb) blend_Check.A Try.f14 (.one (.leaf (.int .i64))) (TT.lo false [.leaf (.row [.int .i64, .int .i64]), .agg [.row [.int .i64, .int .i64], .row [.int .i64], .row [.int .i64], .int .i64, .int .i64, .int .i64]] x) H.empty).bind fun p => rdRes false p.2 (.one (.leaf (.int .i64))) (Res.un (.one (.leaf (.int .i64))) p.1)) = blend_CheckP x.1 x.2 := by
  intro x
  rw [show TT.lo false [.leaf (.row [.int .i64, .int .i64]), .agg [.row [.int .i64, .int .i64], .row [.int .i64], .row [.int .i64], .int .i64, .int .i64, .int .i64]] x = TT.un [.leaf .slice, .agg [.slice, .slice, .slice, .int .i64, .int .i64, .int .i64]] ((rowSV false [.int .i64, .int .i64] x.1), (rowSV false [.int .i64, .int .i64] x.2.1, rowSV false [.int .i64] x.2.2.1, rowSV false [.int .i64] x.2.2.2.1, x.2.2.2.2.1, x.2.2.2.2.2.1, x.2.2.2.2.2.2)) from rfl, blend_Check.eq]
  rfl
noncomputable def blend_CheckP.e : Entry := mkP [.leaf (.row [.int .i64, .int .i64]), .agg [.row [.int .i64, .int .i64], .row [.int .i64], .row [.int .i64], .int .i64, .int .i64, .int .i64]] (.one (.leaf (.int .i64))) fun x => blend_CheckP x.1 x.2
theorem blend_CheckP.ok : EntryOK Try.prog 14 (blend_CheckP.e) := mkP_ok (blend_Check.tbok) Try.mixed Try.func14 (by kernel_rfl) blend_CheckP.eq
end Go.Proofs.Ytfkabibbaajfhaa
