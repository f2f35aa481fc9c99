/- One operation: what the evaluator says of it, the model does. Conditions: those of 'Rel', 'EnvOK' and 'TabOK'. -/
import Derived.Test.YtjkjcnadgpndoaaGreatEvMap
import Derived.Maps.RangeRun
namespace Go.Proofs.YtjkjcnadgpndoaaGreat.Ev
open Go Go.RowKit
set_option linter.unusedVariables false
set_option linter.unusedSimpArgs false

section step
variable {P : Program} {T : Table} {A : Ann} {base : Nat} {ρ : Ren} {h : H} {w : World} {a : Act} {env : Env} {next : Act → World → Prop} {Q : Exit → Act → World → Prop} {α : Type} {k : V → H → Option α} {res : α} {ro : Option Nat}

theorem run_of_info {t : TypeId} {i : TypeInfo} (hi : P.info? t = some i) (w : World) : (typeInfo t).run P w = .ok i w := by simp [typeInfo, hi]
theorem cellsOf_ok (hr : Rel base ρ h w) {v : V} {esz : Nat} {n : Nat} {cs : List V} (hs : cellsOf h v esz = some (n, cs)) {u : Value} (hu : R ρ v u) :
    ∃ p c' us, u = .slice p n c' ∧ RC ρ cs us ∧ us.length = n * esz ∧ ((n = 0 ∧ us = []) ∨ ∃ b o, p = some ⟨b, o, none⟩ ∧ ∀ j x, us[j]? = some x → w.cell? ((⟨b, o, none⟩ : Addr).add j) = some x) := by
  cases v <;> simp only [cellsOf, reduceCtorEq] at hs
  rename_i v l c tl
  obtain ⟨p, c', rfl, h1, h2, h3, h4, h5, h6, h7⟩ := R_slice hu
  split at hs
  · rename_i hl
    simp only [Option.some.injEq, Prod.mk.injEq] at hs
    obtain ⟨rfl, rfl⟩ := hs
    subst hl
    exact ⟨p, c', [], rfl, RC_nil, by simp, .inl ⟨rfl, rfl⟩⟩
  · rename_i hl
    simp only [Option.map_eq_some_iff, Prod.mk.injEq] at hs
    obtain ⟨cs', hs, rfl, rfl⟩ := hs
    have hr7 := h6 (by omega)
    obtain ⟨q, rfl⟩ : ∃ q, p = some q := by
      cases p with
      | none => have := h4 rfl; omega
      | some q => exact ⟨q, rfl⟩
    simp only [H.rds, Option.bind_eq_some_iff] at hs
    obtain ⟨cs0, hf, hh⟩ := hs
    split at hh
    · rename_i hle
      have hle := hle.1
      simp only [Option.some.injEq] at hh
      subst hh
      obtain ⟨b, o, us, he, hrc, hc⟩ := from_ok hr hf hr7
      cases he
      refine ⟨_, c', us.take (l * esz), rfl, hrc.take _, ?_, .inr ⟨b, o, rfl, fun j x hx => ?_⟩⟩
      · rw [List.length_take, ← hrc.length]; omega
      · rw [List.getElem?_take] at hx
        split at hx
        · rw [Addr.add_lit]; exact hc j x hx
        · cases hx
    · cases hh

theorem cellsT_ok {t : TypeId} {v : V} {u : Value} (hu : R ρ v u) {β : Type} {k : List V → Option β} {res : β} (hc : cellsT P t v k = some res) : ∃ cs, k cs = some res ∧ RC ρ cs u.cells.toList := by
  unfold cellsT at hc
  split at hc
  · obtain ⟨h1, h2⟩ := guardO_some hc
    refine ⟨_, h2, hu.one ?_⟩
    cases v <;> simp [V.isCell] at h1 <;> rfl
  · split at hc
    · exact ⟨_, hc, hu.one rfl⟩
    · cases hc
  · cases hc
theorem step_alloc {o : Oper} {at_ : Option Nat} (hr : Rel base ρ h w) (hat : ∀ i, at_ = some i → h.m i = .fresh ∧ i < h.next) {e : TypeId} (ho : o.op = .alloc e)
    (hs : ((zeroCells P e).bind fun z => newAt h at_ z z.length z.length k) = some res) (hg : Goes base ρ w k res o a next) : o.wpX ro P a w next Q := by
  simp only [Option.bind_eq_some_iff] at hs
  obtain ⟨z, hz, hs⟩ := hs
  obtain ⟨zv, hz1, hz2, rfl⟩ := zeroCells_of hz
  obtain ⟨ρ', id, h', g1, g2, g3, g4, g5⟩ := newAt_ok (t := e) (c := zv.cells) hr hat hs (RC_consts _ hz2)
  refine wp_value (val := .pointer (some ⟨w.heap.size, 0, none⟩)) (w' := w.alloc (.cells zv.cells e)) ?_ (hg ρ' _ h' _ _ g1 g2 g3 ?_ g5)
  · simp [execOp, ho, Instr.alloc, run_zero hz1, newVar, newRow]
  · simp only [R]; exact ⟨_, _, g4, rfl⟩
theorem step_box {o : Oper} {at_ : Option Nat} (hr : Rel base ρ h w) (he : EnvOK ρ env a) (hat : ∀ i, at_ = some i → h.m i = .fresh ∧ i < h.next) {e : TypeId} {x : Operand} (ho : o.op = .box e x)
    (hs : (cellsT P e (ev env x) fun z => bif A.ros.any fun t => o.dst == some t then k (.lp true z 0) h else newAt h at_ z z.length z.length k) = some res) (hg : Goes base ρ w k res o a next) : o.wpX ro P a w next Q := by
  obtain ⟨z, hs, hz⟩ := cellsT_ok (he.ev x) hs
  have hrun : (execOp a.eval o).run P w = .ok (.value (.pointer (some ⟨w.heap.size, 0, none⟩))) (w.alloc (.cells (a.eval x).cells e)) := by simp [execOp, ho, Instr.box, newVar, newRow]
  cases hA : A.ros.any fun t => o.dst == some t with
  | true =>
    rw [hA] at hs
    simp only [cond_true] at hs
    refine wp_value hrun (hg _ _ h _ _ Ren.froze_le (hr.lit (a.eval x).cells e) ((Below.refl base w).alloc hr.hb _) ?_ hs)
    simp only [R]
    exact .inr ⟨_, 0, (a.eval x).cells.toList, .inr (.inl ⟨rfl, rfl, rfl⟩), RC_mono Ren.froze_le _ _ hz, rfl⟩
  | false =>
    rw [hA] at hs
    simp only [cond_false] at hs
    obtain ⟨ρ', id, h', g1, g2, g3, g4, g5⟩ := newAt_ok (t := e) (c := (a.eval x).cells) hr hat hs hz
    refine wp_value hrun (hg ρ' _ h' _ _ g1 g2 g3 ?_ g5)
    simp only [R]; exact ⟨_, _, g4, rfl⟩
theorem step_build {o : Oper} (hr : Rel base ρ h w) (he : EnvOK ρ env a) {t : TypeId} {ps : Array (Nat × Operand)} (ho : o.op = .build t ps)
    (hs : (match zeroCells P t, placeIn P t with
    | some z, some place => (fillV place z (evParts env ps)).bind fun cs => k (.agg cs) h
    | _, _ => none) = some res) (hg : Goes base ρ w k res o a next) : o.wpX ro P a w next Q := by
  split at hs
  · rename_i z place hz hp
    simp only [Option.bind_eq_some_iff] at hs
    obtain ⟨cs, hf, hs⟩ := hs
    obtain ⟨zv, hz1, hz2, rfl⟩ := zeroCells_of hz
    obtain ⟨us, h1, h2⟩ := fill_ok he (place := place) ps.toList _ zv.cells.toList cs hf (RC_consts _ hz2)
    refine wp_value (val := .agg us.toArray) (w' := w) ?_ (hg.same hr (by simp only [R]; exact ⟨us, rfl, h2⟩) hs)
    unfold placeIn at hp
    have hps : (Array.map (fun x : Nat × Operand => (x.1, a.eval x.2)) ps).toList = ps.toList.map fun p => (p.1, a.eval p.2) := by simp
    have hps' : (ps.map fun (i, x) => (i, a.eval x)).toList = ps.toList.map fun p => (p.1, a.eval p.2) := by simp
    split at hp
    · rename_i fs hu
      cases hall : fs.toList.all fun f => (sizeT P f.type).isSome with
      | false => rw [hall] at hp; simp at hp
      | true =>
        rw [hall] at hp
        simp only [cond_true, Option.some.injEq] at hp
        have hm := run_mapM_array (P := P) (fun f : Field => (do pure (f.offset, ← sizeOf f.type) : Sem (Nat × Nat))) (fun f => (f.offset, (sizeT P f.type).getD 0)) fs w (fun f hf w => by
          have := List.all_eq_true.1 hall f hf
          obtain ⟨n, hn⟩ := Option.isSome_iff_exists.1 this
          simp [run_size hn, hn])
        have hfill : Instr.fill (fun i => (fs.map fun f => (f.offset, (sizeT P f.type).getD 0))[i]?) zv.cells (ps.map fun (i, x) => (i, a.eval x)).toList = some us.toArray := by
          rw [hps', ← h1, ← hp]
          congr 1
          funext i
          simp
        simp only [execOp, ho, Instr.build, Sem.run_bind, run_zero hz1, Result.andThen_ok, run_underlying hu, hm, hfill, Sem.run_pure]
    · rename_i n e hu
      simp only [Option.map_eq_some_iff] at hp
      obtain ⟨s, hsz, rfl⟩ := hp
      have hfill : Instr.fill (fun i => some (i * s, s)) zv.cells (ps.map fun (i, x) => (i, a.eval x)).toList = some us.toArray := by
        rw [hps', ← h1]
      simp only [execOp, ho, Instr.build, Sem.run_bind, run_zero hz1, Result.andThen_ok, run_underlying hu, run_size hsz, hfill, Sem.run_pure]
    · cases hp
  · cases hs
theorem step_buildSlice {o : Oper} {at_ : Option Nat} (hr : Rel base ρ h w) (he : EnvOK ρ env a) (hat : ∀ i, at_ = some i → h.m i = .fresh ∧ i < h.next) {t : TypeId} {n : Nat} {ps : Array (Nat × Operand)} (ho : o.op = .buildSlice t n ps)
    (hs : (match isSlice P t with
    | some e => match sizeT P e with
      | some esz => (if n * esz = 0 then some [] else (zeroCells P e).bind fun z => guardO (z.length = esz) (some (repeatCells z n))).bind fun c0 =>
        (fillV (fun i => some (i * esz, esz)) c0 (evParts env ps)).bind fun cs =>
          guardO (n * esz ≤ 2 ^ 20) (
          bif A.lits.any fun t => o.dst == some t then newAt h at_ cs esz cs.length fun p h' => k (.slice p n n false) h'
          else k (.slice (.lp true cs 0) n n false) h)
      | none => none
    | none => none) = some res) (hg : Goes base ρ w k res o a next) : o.wpX ro P a w next Q := by
  split at hs
  · rename_i e hsl
    split at hs
    · rename_i esz hsz
      simp only [Option.bind_eq_some_iff] at hs
      obtain ⟨c0, h0, cs, hf, hs⟩ := hs
      obtain ⟨hle, hs⟩ := guardO_some hs
      have hu := isSlice_of hsl
      -- the row before the parts are put in
      have hzero : ∃ us0 : List Value, RC ρ c0 us0 ∧ ∀ w : World, (do
          let zero ← if n * esz = 0 then pure #[] else do pure (← zeroValue e).cells
          pure ((Array.range (n * esz)).map (zero[· % zero.size]!)) : Sem (Array Value)).run P w = .ok us0.toArray w := by
        by_cases hn : n * esz = 0
        · rw [if_pos hn] at h0
          simp only [Option.some.injEq] at h0
          subst h0
          exact ⟨[], RC_nil, fun w => by simp [hn, Array.range_zero']⟩
        · rw [if_neg hn] at h0
          simp only [Option.bind_eq_some_iff] at h0
          obtain ⟨z, hz, h0⟩ := h0
          obtain ⟨hzl, h0⟩ := guardO_some h0
          simp only [Option.some.injEq] at h0
          subst h0
          obtain ⟨zv, hz1, hz2, rfl⟩ := zeroCells_of hz
          simp only [List.length_map, Array.length_toList] at hzl
          refine ⟨_, RC_repeat hz2 n, fun w => ?_⟩
          rw [← hzl] at hn ⊢
          simp only [hn, if_false, Sem.run_bind, run_zero hz1, Result.andThen_ok, Sem.run_pure, Array.toArray_toList]
      obtain ⟨us0, hrc0, hrun0⟩ := hzero
      obtain ⟨us, h1, h2⟩ := fill_ok he (place := fun i => some (i * esz, esz)) ps.toList c0 us0 cs hf hrc0
      have hps' : (ps.map fun (i, x) => (i, a.eval x)).toList = ps.toList.map fun p => (p.1, a.eval p.2) := by simp
      have hrun : ∀ w : World, (execOp a.eval o).run P w = .ok (.value (.slice (some ⟨w.heap.size, 0, none⟩) n n)) (w.alloc (.cells us.toArray e)) := fun w => by
        have hgt : ¬ n * esz > 2 ^ 24 := by
          have : (2 : Nat) ^ 20 ≤ 2 ^ 24 := by decide
          omega
        have h0 := hrun0 w
        simp only [Sem.run_bind] at h0
        simp only [execOp, ho, Instr.buildSlice, Sem.run_bind, run_underlying hu, Result.andThen_ok, run_size hsz, if_neg hgt, Sem.run_pure, Sem.run_ite] at h0 ⊢
        by_cases hn : n * esz = 0
        · simp only [hn, if_true, Result.andThen_ok] at h0 ⊢
          have he0 := (Result.ok.inj h0).1
          simp only [he0, hps', h1]
          simp [newRow]
        · simp only [hn, if_false] at h0 ⊢
          cases hzz : (zeroValue e).run P w with
          | halt x w' => rw [hzz] at h0; simp at h0
          | ok zv w' =>
            rw [hzz] at h0
            simp only [Result.andThen_ok] at h0 ⊢
            have he0 := (Result.ok.inj h0).1
            have he1 := (Result.ok.inj h0).2
            subst he1
            simp only [he0, hps', h1]
            simp [newRow]
      cases hA : A.lits.any fun t => o.dst == some t with
      | true =>
        rw [hA] at hs
        simp only [cond_true] at hs
        obtain ⟨ρ', id, h', g1, g2, g3, g4, g5⟩ := newAt_ok (t := e) (c := us.toArray) hr hat hs (by simpa using h2)
        refine wp_value (hrun w) (hg ρ' _ h' _ _ g1 g2 g3 ?_ g5)
        simp only [R]
        exact ⟨_, _, rfl, Nat.le_refl _, Nat.le_refl _, fun _ => rfl, fun hh => (by cases hh), .inr rfl, fun _ => ⟨_, _, g4, rfl⟩, fun _ _ _ _ hh => by cases hh⟩
      | false =>
        rw [hA] at hs
        simp only [cond_false] at hs
        refine wp_value (hrun w) (hg _ _ h _ _ Ren.froze_le (hr.lit us.toArray e) ((Below.refl base w).alloc hr.hb _) ?_ hs)
        simp only [R]
        exact ⟨_, _, rfl, Nat.le_refl _, Nat.le_refl _, fun _ => rfl, fun hh => (by cases hh), (by cases cs <;> simp [V.mayNil, V.nn]), fun _ => .inr ⟨_, 0, us, .inr (.inl ⟨rfl, rfl, rfl⟩), RC_mono Ren.froze_le _ _ h2, rfl⟩, fun _ _ _ hh => by cases hh⟩
    · cases hs
  · cases hs
/-- What is read without a heap is read with any. -/
theorem rdT_empty {h : H} {ty : Ty} {v : V} {y : ty.C} (hy : rdT ty H.empty v = some y) : rdT ty h v = some y := by
  cases v
  case lp f cs o => cases ty <;> exact hy
  case hp id g o => cases ty <;> simp [rdT, H.rd, H.rds, H.from, H.empty] at hy
  all_goals cases ty <;> simp [rdT, H.rd, H.rds, H.from] at hy
theorem step_load {o : Oper} (hr : Rel base ρ h w) (he : EnvOK ρ env a) {t : TypeId} {x : Operand} (ho : o.op = .load t x)
    {b : Bool} (hs : (match tyOf P t with
    | some ty => (rdT ty (bif b then H.empty else h) (ev env x)).bind fun x => k (ty.un x) h
    | none => none) = some res) (hg : Goes base ρ w k res o a next) : o.wpX ro P a w next Q := by
  split at hs
  · rename_i ty hty
    simp only [Option.bind_eq_some_iff] at hs
    obtain ⟨y, hy0, hs⟩ := hs
    have hy : rdT ty h (ev env x) = some y := by
      cases b with
      | false => exact hy0
      | true => exact rdT_empty hy0
    have hx := he.ev x
    have hp : ∃ p, a.eval x = .pointer (some p) := by
      cases hv : ev env x <;> rw [hv] at hy hx
      case hp => simp only [R] at hx; obtain ⟨b, _, _, hx⟩ := hx; exact ⟨_, hx⟩
      case lp =>
        simp only [R] at hx
        rcases hx with ⟨rfl, _⟩ | ⟨b, i, us, _, _, hx⟩
        · cases ty <;> simp [rdT, H.rd, H.rds, H.from] at hy
        · exact ⟨_, hx⟩
      all_goals cases ty <;> simp [rdT, H.rd, H.rds, H.from] at hy
    obtain ⟨p, hp⟩ := hp
    rw [hp] at hx
    obtain ⟨val, hl, hrv⟩ := loadVar_ok hr hty hy hx
    exact wp_value (val := val) (w' := w) (by simp [execOp, ho, Instr.loadAt, hp, Instr.sureAddr, hl]) (hg.same hr hrv hs)
  · cases hs
theorem step_store {o : Oper} (hr : Rel base ρ h w) (he : EnvOK ρ env a) {t : TypeId} {x y : Operand} (ho : o.op = .store t x y)
    (hs : (match sizeT P t with
    | some n => cellsT P t (ev env y) fun vs => if vs.length = n then (h.wrs (ev env x) vs).bind fun h' => k (.tuple []) h' else none
    | none => none) = some res) (hg : Goes base ρ w k res o a next) : o.wpX ro P a w next Q := by
  split at hs
  · rename_i n hn
    obtain ⟨vs, hs, hu⟩ := cellsT_ok (he.ev y) hs
    split at hs
    · rename_i hl
      simp only [Option.bind_eq_some_iff] at hs
      obtain ⟨h', hw, hs⟩ := hs
      have hx := he.ev x
      have hp : ∃ p, a.eval x = .pointer (some p) := by
        cases hvx : ev env x <;> rw [hvx] at hw hx
        case hp => simp only [R] at hx; obtain ⟨b, _, _, hx⟩ := hx; exact ⟨_, hx⟩
        all_goals simp [H.wrs] at hw
      obtain ⟨p, hp⟩ := hp
      rw [hp] at hx
      obtain ⟨w', h1, h2, h3⟩ := wrs_ok (P := P) hr hw hx hu
      have hsz : (a.eval y).cells.size = n := by have := hu.length; simp at this; omega
      refine wp_skipped (w' := w') ?_ (hg ρ _ h' _ w' (Ren.le.refl _) h2 h3 R_unit hs)
      simp [execOp, ho, Instr.storeAt, hp, Instr.sureAddr, storeVar, run_size hn, hsz, h1]
    · cases hs
  · cases hs

theorem step_move {o : Oper} (hr : Rel base ρ h w) (he : EnvOK ρ env a) {x : Operand} (ho : o.op = .move x ∨ o.op = .assign x) (hs : k (ev env x) h = some res) (hg : Goes base ρ w k res o a next) : o.wpX ro P a w next Q := by
  refine wp_value (val := a.eval x) (w' := w) ?_ (hg.same hr (he.ev x) hs)
  rcases ho with ho | ho <;> simp [execOp, ho]
theorem step_pick {o : Oper} (hr : Rel base ρ h w) (he : EnvOK ρ env a) {c x y : Operand} (ho : o.op = .pick c x y)
    (hs : (match ev env c, ev env x, ev env y with
    | .bool c, .bool p, .bool q => k (.bool (cond c p q)) h
    | .bool c, va, vb => cond c (k va h) (k vb h)
    | _, _, _ => none) = some res) (hg : Goes base ρ w k res o a next) : o.wpX ro P a w next Q := by
  have hc := he.ev c
  have hx := he.ev x
  have hy := he.ev y
  split at hs
  · rename_i b p q e1 e2 e3
    rw [e1, R_bool] at hc
    rw [e2, R_bool] at hx
    rw [e3, R_bool] at hy
    refine wp_value (val := .bool (cond b p q)) (w' := w) ?_ (hg.same hr (R_bool.2 rfl) hs)
    cases b <;> simp [execOp, ho, hc, hx, hy, asBool]
  · rename_i b e1 _
    rw [e1, R_bool] at hc
    cases b with
    | true => exact wp_value (val := a.eval x) (w' := w) (by simp [execOp, ho, hc, asBool]) (hg.same hr hx hs)
    | false => exact wp_value (val := a.eval y) (w' := w) (by simp [execOp, ho, hc, asBool]) (hg.same hr hy hs)
  · cases hs
theorem step_nilCheck {o : Oper} (hr : Rel base ρ h w) (he : EnvOK ρ env a) {x : Operand} (ho : o.op = .nilCheck x)
    (hs : guardO ((ev env x).nnf = true) (k (ev env x) h) = some res) (hg : Goes base ρ w k res o a next) : o.wpX ro P a w next Q := by
  have hx := he.ev x
  obtain ⟨hn, hs⟩ := guardO_some hs
  have hrun : (execOp a.eval o).run P w = .ok (.value (a.eval x)) w := by
    cases hv : ev env x <;> rw [hv] at hn hx <;> simp only [V.nnf, Bool.false_eq_true] at hn
    · simp only [R] at hx; obtain ⟨_, _, _, hu⟩ := hx; simp [execOp, ho, hu]
    · simp only [R] at hx
      rcases hx with ⟨rfl, _⟩ | ⟨_, _, _, _, _, hu⟩
      · simp at hn
      · simp [execOp, ho, hu]
    · simp only [R] at hx; obtain ⟨_, hu, _⟩ := hx; simp [execOp, ho, hu]
    · simp only [R] at hx; obtain ⟨_, _, _, hu⟩ := hx; simp [execOp, ho, hu]
  exact wp_value hrun (hg.same hr hx hs)
theorem binV_ok {op : BinOp} {t : TypeId} {x y : V} {ux uy : Value} (hx : R ρ x ux) (hy : R ρ y uy) {β : Type} {k : V → Option β} {res : β} (hs : binV P op t x y k = some res) (px py : Operand) (w : World) :
    ∃ v val, (do eqGuard op t px py ux uy; binOp op t ux uy : Sem Value).run P w = .ok val w ∧ R ρ v val ∧ k v = some res := by
  unfold binV at hs
  split at hs
  · rw [R_int] at hx hy; subst hx; subst hy; exact binInt_ok hs t px py w
  · rw [R_str] at hx hy; subst hx; subst hy; exact binStr_ok hs t px py w
  · rename_i b c
    rw [R_bool] at hx hy; subst hx; subst hy
    cases hb : isBool P t with
    | false => rw [hb] at hs; simp at hs
    | true =>
      have hu : P.underlying t = some .bool := by unfold isBool at hb; split at hb <;> simp_all
      rw [hb] at hs
      simp only [cond_true] at hs
      have hg : eqGuard op t px py (.bool b) (.bool c) = pure () := eqGuard_at_bool ..
      rw [hg]
      simp only [pure_bind]
      cases op <;> simp only [reduceCtorEq] at hs
      · exact ⟨_, _, run_eql_bool w t b c hu, R_bool.2 rfl, hs⟩
      · exact ⟨_, _, run_neq_bool w t b c hu, R_bool.2 rfl, hs⟩
  · rename_i v l c tl
    cases hb0 : ((isSlice P t).isSome && !v.mayNil) with
    | false => rw [hb0] at hs; simp at hs
    | true =>
      have hb : (isSlice P t).isSome = true := by simp_all
      have hmn : v.mayNil = false := by simp_all
      obtain ⟨e, hsl⟩ := Option.isSome_iff_exists.1 hb
      have hu := isSlice_of hsl
      rw [hb0] at hs
      simp only [cond_true] at hs
      obtain ⟨p, c', rfl, _, _, _, _, h5, _, _⟩ := R_slice hx
      obtain ⟨p', c2, rfl, q1, q2, q3, q4, q5, _, _⟩ := R_slice hy
      have h5 : p.isSome = v.nn := by rcases h5 with h5 | h5 <;> simp_all
      have hp' : p' = none := by cases p' <;> simp_all [V.nn, V.mayNil]
      subst hp'
      have hg : eqGuard op t px py (.slice p l c') (.slice none 0 c2) = pure () := eqGuard_at_slice ..
      rw [hg]
      simp only [pure_bind]
      have heq : (Op.equal t (.slice p l c') (.slice none 0 c2)).run P w = .ok (!v.nn) w := by
        have gen : ∀ d, (Op.equalIn (d + 1) t (.slice p l c') (.slice none 0 c2)).run P w = .ok (!v.nn) w := fun d => by
          rw [← h5]
          cases p <;> simp [Op.equalIn, run_underlying hu]
        exact gen 9999
      cases op <;> simp only [reduceCtorEq] at hs
      · exact ⟨_, .bool (!v.nn), by simp [binOp, heq], R_bool.2 rfl, hs⟩
      · exact ⟨_, .bool v.nn, by simp [binOp, heq], R_bool.2 rfl, hs⟩
  · rename_i xs ys
    split at hs
    · rename_i bs hf
      cases hl : (fits bs xs && fits bs ys) with
      | false => rw [hl] at hs; simp at hs
      | true =>
        rw [hl] at hs
        simp only [cond_true] at hs
        obtain ⟨lx, ly⟩ := Bool.and_eq_true_iff.1 hl
        simp only [R] at hx hy
        obtain ⟨us, rfl, hx⟩ := hx
        obtain ⟨vs, rfl, hy⟩ := hy
        unfold flatInts at hf
        split at hf
        · rename_i fs hu
          cases hall : (!(P.stoodInHeld t) && (fs.toList.zipIdx.all fun (f, i) => f.offset == i && f.name != "_" && ((intKindOf P f.type).isSome || isBool P f.type))) with
          | false => rw [hall] at hf; simp at hf
          | true =>
            rw [hall] at hf
            simp only [cond_true, Option.some.injEq] at hf
            subst hf
            simp only [Bool.and_eq_true, Bool.not_eq_true', List.all_eq_true] at hall
            obtain ⟨hst, hall⟩ := hall
            have hfs : ∀ p ∈ fs.toList.zipIdx 0, p.1.offset = p.2 ∧ p.1.name ≠ "_" ∧ ((intKindOf P p.1.type).isSome || isBool P p.1.type) = true := fun p hp => by
              have := hall p hp
              simpa [and_assoc] using this
            have hfo : P.fieldsOf t = fs := by simp [Program.fieldsOf, hu]
            have hguard : ∀ w, (eqGuard op t px py (.agg us.toArray) (.agg vs.toArray)).run P w = .ok () w := fun w => by
              have hneg : P.eqGuardType P.depth t = false := by
                have hd : ∃ d, P.depth = d + 2 := ⟨2 * (P.types.size + Made.depth), rfl⟩
                obtain ⟨d, hd⟩ := hd
                rw [hd]
                simp only [Program.eqGuardType, hu]
                rw [← Array.any_toList]
                rw [List.any_eq_false]
                intro f hf
                obtain ⟨i, hi, rfl⟩ := List.getElem_of_mem hf
                have := (hfs (fs.toList[i], i) (by rw [List.mem_zipIdx_iff_getElem?]; simp [hi])).2.2
                rcases Bool.or_eq_true_iff.1 this with this | this
                · obtain ⟨kf, hkf⟩ := Option.isSome_iff_exists.1 this
                  rw [intKind_of hkf]
                  simp
                · unfold isBool at this
                  split at this
                  · rename_i hu
                    rw [hu]
                    simp
                  · cases this
              cases op <;> simp [eqGuard, hneg]
            have key : ∀ r, eqInts xs ys = some r → (Op.equal t (.agg us.toArray) (.agg vs.toArray)).run P w = .ok r w := fun r hr => by
              have gen : ∀ d, (Op.equalIn (d + 2) t (.agg us.toArray) (.agg vs.toArray)).run P w = .ok r w := fun d => by
                rw [run_equalIn_struct w (d + 1) t us.toArray vs.toArray (by rw [hfo]; exact hu) hst, hfo]
                exact eqFields_ints (ρ := ρ) (P := P) d fs.toList 0 xs ys us vs r w hfs hx hy lx ly hr [] [] rfl rfl
              exact gen 9998
            cases op <;> simp only [Option.bind_eq_some_iff, reduceCtorEq] at hs
            · obtain ⟨r, hr, hs⟩ := hs
              exact ⟨_, .bool r, by simp only [Sem.run_bind, hguard, Result.andThen_ok, binOp, key r hr, Sem.run_pure], R_bool.2 rfl, hs⟩
            · obtain ⟨r, hr, hs⟩ := hs
              exact ⟨_, .bool (!r), by simp only [Sem.run_bind, hguard, Result.andThen_ok, binOp, key r hr, Sem.run_pure], R_bool.2 rfl, hs⟩
        · cases hf
    · cases hs
  · cases hs
theorem step_binOp {o : Oper} (hr : Rel base ρ h w) (he : EnvOK ρ env a) {op : BinOp} {t t' : TypeId} {x y : Operand} (ho : o.op = .binOp op t x y t') (hs : (binV P op t (ev env x) (ev env y) fun v => k v h) = some res)
    (hg : Goes base ρ w k res o a next) : o.wpX ro P a w next Q := by
  obtain ⟨v, val, h1, h2, h3⟩ := binV_ok (he.ev x) (he.ev y) hs x y w
  refine wp_value (val := val) (w' := w) ?_ (hg.same hr h2 h3)
  simp only [Sem.run_bind] at h1
  simp only [execOp, ho, Sem.run_bind, h1, Result.andThen_ok, Sem.run_pure]
theorem step_unOp {o : Oper} (hr : Rel base ρ h w) (he : EnvOK ρ env a) {op : UnOp} {t : TypeId} {x : Operand} (ho : o.op = .unOp op t x) (hs : (unV op (ev env x) fun v => k v h) = some res)
    (hg : Goes base ρ w k res o a next) : o.wpX ro P a w next Q := by
  have hx := he.ev x
  unfold unV at hs
  split at hs
  · rename_i kd n e
    rw [e, R_int] at hx
    exact wp_value (val := .int kd (kd.wrap (0 - n))) (w' := w) (by simp [execOp, ho, hx, Op.unary, Op.intArith]) (hg.same hr (R_int.2 rfl) hs)
  · rename_i b e
    rw [e, R_bool] at hx
    exact wp_value (val := .bool (!b)) (w' := w) (by simp [execOp, ho, hx, Op.unary]) (hg.same hr (R_bool.2 rfl) hs)
  · rename_i kd n e
    rw [e, R_int] at hx
    exact wp_value (val := .int kd (bitsI .xor kd (if kd.signed then -1 else kd.max) n)) (w' := w) (by simp [execOp, ho, hx, Op.unary, Op.intBits, bitsI]) (hg.same hr (R_int.2 rfl) hs)
  · cases hs
theorem step_convert {o : Oper} (hr : Rel base ρ h w) (he : EnvOK ρ env a) {src dst : TypeId} {x : Operand} (ho : o.op = .convert src dst x)
    (hs : (bif (P.underlying src).isNone then none else match intKindOf P dst, ev env x with
    | some kd, .int _ n => k (.int kd (kd.wrap n)) h
    | none, .str s => match P.underlying dst with
      | some .string => k (.str s) h
      | _ => none
    | _, _ => none) = some res) (hg : Goes base ρ w k res o a next) : o.wpX ro P a w next Q := by
  have hx := he.ev x
  cases hsrc : P.underlying src with
  | none => rw [hsrc] at hs; simp at hs
  | some d =>
    rw [hsrc] at hs
    simp only [Option.isNone_some, cond_false] at hs
    split at hs
    · rename_i kd k2 n hd e
      rw [e, R_int] at hx
      exact wp_value (val := .int kd (kd.wrap n)) (w' := w) (by simp [execOp, ho, hx, convert, run_underlying hsrc, run_underlying (intKind_of hd), Conv.intToInt]) (hg.same hr (R_int.2 rfl) hs)
    · rename_i s hd e
      rw [e, R_str] at hx
      split at hs
      · rename_i hu
        exact wp_value (val := .string s) (w' := w) (by simp [execOp, ho, hx, convert, run_underlying hsrc, run_underlying hu]) (hg.same hr (R_str.2 rfl) hs)
      · cases hs
    · cases hs
theorem step_makeFunc {o : Oper} (hr : Rel base ρ h w) (he : EnvOK ρ env a) {f : FuncId} {cs : Array Operand} (ho : o.op = .makeFunc (.func f) #[] cs) (hs : k (.func f (cs.toList.map (ev env))) h = some res)
    (hg : Goes base ρ w k res o a next) : o.wpX ro P a w next Q := by
  refine wp_value (val := .func (.func f) #[] (cs.map a.eval)) (w' := w) (by simp only [execOp, ho, Instr.makeFunc, Sem.run_bind, Sem.run_pure, Result.andThen_ok, Array.map_empty]) (hg.same hr ?_ hs)
  simp only [R]
  exact ⟨(cs.map a.eval).toList, by rw [Array.toArray_toList], he.args cs⟩
theorem step_makeSlice {o : Oper} {at_ : Option Nat} (hr : Rel base ρ h w) (he : EnvOK ρ env a) (hat : ∀ i, at_ = some i → h.m i = .fresh ∧ i < h.next) {t : TypeId} {x y : Operand} (ho : o.op = .makeSlice t x y)
    (hs : (match isSlice P t, ev env x, ev env y with
    | some e, .int .i64 l, .int .i64 c => match zeroCells P e, bytesT P e, sizeT P e with
      | some z, some bytes, some esz => guardO (0 ≤ l ∧ l ≤ c ∧ c ≤ roomCells ∧ bytes ≤ 2 ^ 11 ∧ z.length = esz)
          (newAt h at_ (repeatCells z c.toNat) esz (c.toNat * esz) fun p h' => k (.slice p l.toNat c.toNat true) h')
      | _, _, _ => none
    | _, _, _ => none) = some res) (hg : Goes base ρ w k res o a next) : o.wpX ro P a w next Q := by
  have hx := he.ev x
  have hy := he.ev y
  split at hs
  · rename_i e l c hsl e1 e2
    rw [e1, R_int] at hx
    rw [e2, R_int] at hy
    split at hs
    · rename_i z bytes esz hz hb hsz
      obtain ⟨⟨g1, g2, g3, g4, g5⟩, hs⟩ := guardO_some hs
      obtain ⟨zv, hz1, hz2, rfl⟩ := zeroCells_of hz
      obtain ⟨i, hi, hiz⟩ := info_of_zero hz1
      obtain ⟨i', hi', hib⟩ := info_of_bytes hb
      rw [hi] at hi'; cases hi'
      obtain ⟨i', hi', his⟩ := info_of_size hsz
      rw [hi] at hi'; cases hi'
      have hlen : (repeatCells (zv.cells.toList.map ofConst) c.toNat).length = c.toNat * esz := by rw [repeatCells_length, g5]
      rw [← hlen] at hs
      have hzs : zv.cells.size = esz := by simpa using g5
      have hroom : roomCells = 68719476736 := rfl
      rw [hroom] at g3
      have hp : (i.bytes : Int) * c ≤ 281474976710656 := by
        have h1 : (i.bytes : Int) ≤ 2048 := by rw [hib]; omega
        have h2 : (i.bytes : Int) * c ≤ 2048 * c := Int.mul_le_mul_of_nonneg_right h1 (by omega)
        omega
      have hrun := run_make (P := P) w t e i zv (isSlice_of hsl) hi hiz .i64 .i64 l c g1 g2 hp (by omega)
      obtain ⟨ρ', id, h', k1, k2, k3, k4, k5⟩ := newAt_ok (t := e) (c := madeCells zv.cells (c.toNat * i.size)) hr hat hs (by
        have := RC_repeat (ρ := ρ) hz2 c.toNat
        rw [his, ← hzs]
        exact this)
      refine wp_value (val := .slice (some ⟨w.heap.size, 0, none⟩) l.toNat c.toNat) (w' := w.alloc (.cells (madeCells zv.cells (c.toNat * i.size)) e)) (by simp only [execOp, ho, hx, hy, Sem.run_bind, hrun, Result.andThen_ok, Sem.run_pure]) (hg ρ' _ h' _ _ k1 k2 k3 ?_ k5)
      simp only [R]
      refine ⟨_, _, rfl, by omega, Nat.le_refl _, fun _ => rfl, fun hh => (by cases hh), .inr rfl, fun _ => ⟨_, _, k4, rfl⟩, fun id' g o' hh _ => ?_⟩
      cases hh
      exact ⟨_, _, k4, rfl⟩
    · cases hs
  · cases hs
theorem step_fieldAddr {o : Oper} (hr : Rel base ρ h w) (he : EnvOK ρ env a) {t : TypeId} {x : Operand} {f : Nat} (ho : o.op = .fieldAddr t x f)
    (hs : (match fieldOff P t f with
    | some (off, ft) => match sizeT P ft with
      | some (_ + 1) => guardO ((ev env x).nn = true) (k ((ev env x).add off) h)
      | _ => none
    | none => none) = some res) (hg : Goes base ρ w k res o a next) : o.wpX ro P a w next Q := by
  have hx := he.ev x
  split at hs
  · rename_i off ft hf
    split at hs
    · rename_i n hsz
      obtain ⟨hn, hs⟩ := guardO_some hs
      obtain ⟨q, hq⟩ := R_nn hn hx
      rw [hq] at hx
      unfold fieldOff at hf
      split at hf
      · rename_i fs hu
        simp only [Option.map_eq_some_iff, Prod.mk.injEq] at hf
        obtain ⟨fd, hfd, rfl, rfl⟩ := hf
        exact wp_value (val := .pointer (some (q.add fd.offset))) (w' := w) (by simp [execOp, ho, hq, Instr.fieldAt, run_underlying hu, hfd, Instr.sureAddr, fieldPlace, run_size hsz]) (hg.same hr (R_add (hq ▸ hx) _) hs)
      · cases hf
    · cases hs
  · cases hs
theorem part_ok {t : TypeId} {cs : List V} {off : Nat} {v : V} (hs : partV P t cs off = some v) {us : List Value} (hc : RC ρ cs us) (w : World) : ∃ u, (part t us.toArray off).run P w = .ok u w ∧ R ρ v u := by
  unfold partV at hs
  split at hs
  · rename_i l n hty
    obtain ⟨u, h1, h2, h3⟩ := hc.at hs
    exact ⟨u, by simp [part, run_agg (tyOf_leaf hty), h1], h3⟩
  · rename_i l n hty hsz
    split at hs
    · rename_i hle
      simp only [Option.some.injEq] at hs
      subst hs
      refine ⟨.agg (us.toArray.extract off (off + n)), by simp [part, run_agg (tyOf_agg hty).1, run_size hsz], ?_⟩
      simp only [R]
      refine ⟨(us.drop off).take n, ?_, (hc.drop off).take n⟩
      congr 1
      apply Array.ext'
      simp [List.extract_eq_take_drop]
    · cases hs
  · cases hs
theorem step_field {o : Oper} (hr : Rel base ρ h w) (he : EnvOK ρ env a) {t : TypeId} {x : Operand} {f : Nat} (ho : o.op = .field t x f)
    (hs : (match fieldOff P t f, ev env x with
    | some (off, ft), .agg cs => (partV P ft cs off).bind fun v => k v h
    | _, _ => none) = some res) (hg : Goes base ρ w k res o a next) : o.wpX ro P a w next Q := by
  have hx := he.ev x
  split at hs
  · rename_i off ft cs hf e
    simp only [Option.bind_eq_some_iff] at hs
    obtain ⟨v, hv, hs⟩ := hs
    rw [e] at hx
    simp only [R] at hx
    obtain ⟨us, hu, hc⟩ := hx
    obtain ⟨u, h1, h2⟩ := part_ok hv hc w
    unfold fieldOff at hf
    split at hf
    · rename_i fs hun
      simp only [Option.map_eq_some_iff, Prod.mk.injEq] at hf
      obtain ⟨fd, hfd, rfl, rfl⟩ := hf
      exact wp_value (val := u) (w' := w) (by simp [execOp, ho, hu, Instr.field, run_underlying hun, hfd, asAgg, h1]) (hg.same hr h2 hs)
    · cases hf
  · cases hs
theorem step_indexAddr {o : Oper} (hr : Rel base ρ h w) (he : EnvOK ρ env a) {t : TypeId} {x y : Operand} (ho : o.op = .indexAddr t x y)
    (hs : (match isSlice P t with
    | some e => match ev env x, ev env y with
      | .slice a len _ _, .int _ i => match sizeT P e with
        | some size => guardO (0 ≤ i ∧ i < len) (k (a.add (i.toNat * size)) h)
        | none => none
      | _, _ => none
    | none => match isArray P t, ev env y with
      | some (n, e), .int _ i => match sizeT P e with
        | some size => guardO ((ev env x).nn = true ∧ 0 ≤ i ∧ i < n) (k ((ev env x).add (i.toNat * size)) h)
        | none => none
      | _, _ => none) = some res) (hg : Goes base ρ w k res o a next) : o.wpX ro P a w next Q := by
  have hx := he.ev x
  have hy := he.ev y
  split at hs
  · rename_i e hsl
    split at hs
    · rename_i v len cap tl kd i e1 e2
      rw [e2, R_int] at hy
      rw [e1] at hx
      split at hs
      · rename_i size hsz
        obtain ⟨⟨g1, g2⟩, hs⟩ := guardO_some hs
        obtain ⟨p, c', hu, q1, q2, q3, q4, q5, q6, q7⟩ := R_slice hx
        have hv := q6 (by omega)
        cases p with
        | none => have := q4 rfl; omega
        | some q =>
          refine wp_value (val := .pointer (some (q.add (i.toNat * size)))) (w' := w) ?_ (hg.same hr (R_add hv _) hs)
          simp [execOp, ho, hu, hy, Instr.indexAt, asIntOf, run_underlying (isSlice_of hsl), g1, g2, run_size hsz]
      · cases hs
    · cases hs
  · split at hs
    · rename_i n e kd i harr e2
      rw [e2, R_int] at hy
      split at hs
      · rename_i size hsz
        obtain ⟨⟨g0, g1, g2⟩, hs⟩ := guardO_some hs
        obtain ⟨q, hq⟩ := R_nn g0 hx
        rw [hq] at hx
        refine wp_value (val := .pointer (some (q.add (i.toNat * size)))) (w' := w) ?_ (hg.same hr (R_add (hq ▸ hx) _) hs)
        simp [execOp, ho, hq, hy, Instr.indexAt, asIntOf, run_underlying (isArray_of harr), Instr.sureAddr, g1, g2, run_size hsz]
      · cases hs
    · cases hs
theorem step_index {o : Oper} (hr : Rel base ρ h w) (he : EnvOK ρ env a) {t : TypeId} {x y : Operand} (ho : o.op = .index t x y)
    (hs : (match ev env x, ev env y with
    | .agg cs, .int _ i => match isArray P t with
      | some (n, e) => match sizeT P e with
        | some size => guardO (0 ≤ i ∧ i < n) ((partV P e cs (i.toNat * size)).bind fun v => k v h)
        | none => none
      | none => none
    | .str s, .int _ i => match P.underlying t with
      | some .string => guardO (0 ≤ i ∧ i < s.size) (k (.int .u8 (((s.data[i.toNat]?).map UInt8.toNat).getD 0 : Nat)) h)
      | _ => none
    | _, _ => none) = some res) (hg : Goes base ρ w k res o a next) : o.wpX ro P a w next Q := by
  have hx := he.ev x
  have hy := he.ev y
  split at hs
  · rename_i cs kd i e1 e2
    rw [e2, R_int] at hy
    rw [e1] at hx
    simp only [R] at hx
    obtain ⟨us, hu, hc⟩ := hx
    split at hs
    · rename_i n e harr
      split at hs
      · rename_i size hsz
        obtain ⟨⟨g1, g2⟩, hs⟩ := guardO_some hs
        simp only [Option.bind_eq_some_iff] at hs
        obtain ⟨v, hv, hs⟩ := hs
        obtain ⟨u, h1, h2⟩ := part_ok hv hc w
        exact wp_value (val := u) (w' := w) (by simp [execOp, ho, hu, hy, Instr.index, asIntOf, run_underlying (isArray_of harr), g1, g2, run_size hsz, h1]) (hg.same hr h2 hs)
      · cases hs
    · cases hs
  · rename_i s kd i e1 e2
    rw [e2, R_int] at hy
    rw [e1, R_str] at hx
    split at hs
    · rename_i hu
      obtain ⟨⟨g1, g2⟩, hs⟩ := guardO_some hs
      have hlt : i.toNat < s.size := by omega
      have hget : s[i.toNat]? = some s[i.toNat] := by simp [hlt]
      refine wp_value (val := .int .u8 s[i.toNat].toNat) (w' := w) ?_ (hg.same hr (R_int.2 ?_) hs)
      · simp [execOp, ho, hx, hy, Instr.index, asIntOf, run_underlying hu, g1, hget]
      · have : s.data[i.toNat]? = some s[i.toNat] := by
          rw [Array.getElem?_eq_getElem hlt]; rfl
        rw [this]
        rfl
    · cases hs
  · cases hs
theorem step_extract {o : Oper} (hr : Rel base ρ h w) (he : EnvOK ρ env a) {x : Operand} {i : Nat} (ho : o.op = .extract x i)
    (hs : (match ev env x with
    | .tuple vs => (vs[i]?).bind fun v => k v h
    | _ => none) = some res) (hg : Goes base ρ w k res o a next) : o.wpX ro P a w next Q := by
  have hx := he.ev x
  split at hs
  · rename_i vs e
    simp only [Option.bind_eq_some_iff] at hs
    obtain ⟨v, hv, hs⟩ := hs
    rw [e] at hx
    simp only [R] at hx
    obtain ⟨us, hu, hl⟩ := hx
    obtain ⟨u, h1, h2⟩ := hl.at hv
    exact wp_value (val := u) (w' := w) (by simp [execOp, ho, hu, Instr.extract, h1]) (hg.same hr h2 hs)
  · cases hs
theorem step_slice {o : Oper} (hr : Rel base ρ h w) (he : EnvOK ρ env a) {t : TypeId} {x : Operand} {lo hi mx : Option Operand} (ho : o.op = .slice t x lo hi mx)
    (hs : (match isSlice P t with
    | some e => match ev env x with
      | .slice a len cap tail => match sizeT P e with
        | some size => sliceV size a len cap tail (lo.map (ev env)) (hi.map (ev env)) (mx.map (ev env)) fun v => k v h
        | none => none
      | _ => none
    | none => match isArray P t with
      | some (n, e) => match sizeT P e with
        | some size => guardO ((ev env x).nn = true) (sliceV size (ev env x) n n false (lo.map (ev env)) (hi.map (ev env)) (mx.map (ev env)) fun v => k v h)
        | none => none
      | none => none) = some res) (hg : Goes base ρ w k res o a next) : o.wpX ro P a w next Q := by
  have hx := he.ev x
  split at hs
  · rename_i e hsl
    split at hs
    · rename_i v len cap tl e1
      rw [e1] at hx
      split at hs
      · rename_i size hsz
        obtain ⟨p, c', hu, q1, q2, q3, q4, q5, q6, q7⟩ := R_slice hx
        obtain ⟨l', r', m', v', h1, h2, h3⟩ := sliceV_ok (P := P) he hs q1 q2 q3 q4 q5 q6 q7 true w
        refine wp_value (w' := w) ?_ (hg.same hr h2 h3)
        simp [execOp, ho, hu, Instr.sliceAt, Instr.slice, run_underlying (isSlice_of hsl), h1, run_size hsz]
      · cases hs
    · cases hs
  · split at hs
    · rename_i n e harr
      split at hs
      · rename_i size hsz
        obtain ⟨g0, hs⟩ := guardO_some hs
        obtain ⟨q, hq⟩ := R_nn g0 hx
        rw [hq] at hx
        obtain ⟨l', r', m', v', h1, h2, h3⟩ := sliceV_ok (P := P) (p := some q) (c' := n) he hs (Nat.le_refl _) (Nat.le_refl _) (fun _ => rfl) (fun hh => by cases hh) (.inr (by rw [g0]; rfl)) (fun _ => hx) (fun _ _ _ _ hh => by cases hh) false w
        refine wp_value (w' := w) ?_ (hg.same hr h2 h3)
        simp only [execOp, ho, hq, Instr.sliceAt, Sem.run_bind, run_underlying (isArray_of harr), Result.andThen_ok, Instr.sureAddr, Sem.run_pure, h1, run_size hsz]
        split <;> rfl
      · cases hs
    · cases hs
theorem retype_ok {t : TypeId} {v : V} {β : Type} {k : V → Option β} {res : β} (hs : retype P t v k = some res) : k v = some res := by
  unfold retype at hs
  split at hs
  · rename_i r hr
    simp only [Option.bind_eq_some_iff] at hs
    obtain ⟨x, hx, hs⟩ := hs
    rw [Res.un_pack r v x hx] at hs
    exact hs
  · cases hs
theorem retypeB_ok {b : Bool} {t : TypeId} {v : V} {β : Type} {k : V → Option β} {res : β} (hs : retypeB b P t v k = some res) : k v = some res := by
  cases b with
  | false => exact retype_ok hs
  | true =>
    simp only [retypeB, cond_true, retypeU] at hs
    split at hs
    · simp only [Option.bind_eq_some_iff] at hs
      obtain ⟨y, hy, hs⟩ := hs
      rw [Ty.un_pack _ _ y hy] at hs
      exact hs
    · cases hs
theorem run_callFunc {g : FuncId} {fn : Func} (hf : P.funcs[g]? = some fn) (hb : fn.body.isNone = false) (hn : (fn.name == "runtime.NumGoroutine") = false) (args : Array Value) (w : World) : (callFunc g args).run P w = .ok (.enter g args) w := by
  simp only [callFunc, Sem.run_bind, run_program, Result.andThen_ok, hf, hn, hb, Bool.false_eq_true, if_false, Sem.run_pure]
theorem step_call {o : Oper} (hT : TabW P T) (hY : YOK P base ρ T.dy.yl) (hr : Rel base ρ h w) (he : EnvOK ρ env a) {f : Operand} {args : Array Operand} {ts : Array TypeId} (ho : o.op = .call { callee := .value f, args := args, argTypes := ts })
    {q yy u : Bool} (hs : callB q yy (T.at f) (ev env f) (args.toList.map (ev env)) h (fun v h' => retypeB u P o.type v fun v => k v h') = some res) (hg : Goes base ρ w k res o a next) : o.wpX ro P a w next Q := by
  have hs := (callB_ok hs).1
  have hfv := he.ev f
  rcases callV_ok (hT.at _) hs with ⟨g, cs, r, h', hv, hc, hk⟩ | ⟨id, r, h', hv, hc, hk⟩
  · have hcall := (((hT.at _).1 g _ h).2 r h' hc).2
    have hk := retypeB_ok hk
    rw [hv] at hfv
    simp only [R] at hfv
    obtain ⟨us, hu, hl⟩ := hfv
    have hargs := (he.args args).append hl
    have hcalls := hcall base ρ w _ hr hargs
    have hrun : (execOp a.eval o).run P w = (callFunc g (#[] ++ args.map a.eval ++ us.toArray)).run P w := by
      simp only [execOp, ho, resolve, Sem.run_bind, hu, Deferred.ofValue, Sem.run_pure, Result.andThen_ok, invoke]
    have harr : ((args.map a.eval).toList ++ us).toArray = #[] ++ args.map a.eval ++ us.toArray := by
      apply Array.ext'
      simp
    rw [harr] at hcalls
    have hret : ∀ e w', Ret base ρ h' r w e w' → ∃ val, e = .returned val ∧ next (a.put o.dst val) w' := fun e w' he' => by
      obtain ⟨ρ', val, g1, g2, g3, rfl, g5⟩ := he'
      exact ⟨val, rfl, hg ρ' r h' val w' g1 g2 g3 g5 hk⟩
    unfold Oper.wpX
    rw [hrun]
    rcases hcalls with ⟨e1, e2⟩ | ⟨val, w', e1, e2⟩
    · rw [e1]
      refine ⟨fun h => (by cases h), ?_⟩
      have e3 : CallsIn (FW ro) (0 - 1) P g (#[] ++ args.map a.eval ++ us.toArray) w (Ret base ρ h' r w) := callsIn_wide.2 e2
      refine CallsIn.mono e3 fun e w' he' => ?_
      obtain ⟨val, rfl, hn⟩ := hret e w' he'
      exact hn
    · rw [e1]
      obtain ⟨val', hv', hn⟩ := hret _ _ e2
      cases hv'
      exact hn
  · have hk := retypeB_ok hk
    rw [Table.at_yl] at hc
    obtain ⟨id', as, hargs', hcall⟩ := hY _ _ _ _ hc
    cases hargs'
    rw [hv] at hfv
    simp only [R] at hfv
    obtain ⟨b, x, hb, hu⟩ := hfv
    obtain ⟨f', tmps, asg, bd, w', hy, hround⟩ := hcall ρ w _ b x (Ren.le.refl _) hr (he.args args) hb
    have hrun : (execOp a.eval o).run P w = .ok (.round b f' tmps asg bd) w' := by
      have harr : (#[] ++ args.map a.eval : Array Value) = (args.map a.eval).toList.toArray := by
        apply Array.ext'
        simp
      simp only [execOp, ho, resolve, Sem.run_bind, hu, Deferred.ofValue, Sem.run_pure, Result.andThen_ok, invoke, harr, hy]
    unfold Oper.wpX
    rw [hrun]
    refine ⟨fun h => (by cases h), ?_⟩
    have e3 : RoundIn (FW ro) (0 - 1) P b f' tmps asg bd w' (Ret base ρ h' r w) := hround
    refine RoundIn.mono e3 fun e w2 he' => ?_
    obtain ⟨ρ', val, g1, g2, g3, rfl, g5⟩ := he'
    exact hg ρ' r h' val w2 g1 g2 g3 g5 hk

/-! #### Built-in functions -/

theorem run_append_fit {ts : Array TypeId} {ty t u e e' : TypeId} {esz : Nat} (h0 : ts[0]? = some t) (h1 : ts[1]? = some u) (ht : P.underlying t = some (.slice e)) (hu : P.underlying u = some (.slice e')) (hsz : sizeT P e = some esz)
    {p px : Option Addr} {sl sc n cx : Nat} {news : List Value} {w w' : World} (hnew : (Builtin.firstCells esz n (.slice px n cx)).run P w = .ok news.toArray w) (hfit : sl + n ≤ sc)
    (hst : (p = none ∧ w' = w) ∨ ∃ q, p = some q ∧ (storeCells (q.add (sl * esz)) news).run P w = .ok () w') :
    (Builtin.append_ ts ty #[.slice p sl sc, .slice px n cx]).run P w = .ok (.slice p (sl + n) sc) w' := by
  rcases hst with ⟨rfl, rfl⟩ | ⟨q, rfl, hst⟩
  · simp [Builtin.append_, h0, h1, run_underlying ht, run_underlying hu, run_size hsz, Builtin.lenOf, hfit, hnew]
  · simp [Builtin.append_, h0, h1, run_underlying ht, run_underlying hu, run_size hsz, Builtin.lenOf, hfit, hnew, hst]
theorem run_append_new {ts : Array TypeId} {ty t u e e' : TypeId} {esz bytes : Nat} {z : Value} (h0 : ts[0]? = some t) (h1 : ts[1]? = some u) (ht : P.underlying t = some (.slice e)) (hu : P.underlying u = some (.slice e')) (hsz : sizeT P e = some esz)
    (hby : bytesT P e = some bytes) (hz : zeroOf P e = some z)
    {p px : Option Addr} {sl sc n cx : Nat} {olds news : List Value} {w : World} (hold : ∀ w', w'.heap = w.heap → (Builtin.firstCells esz sl (.slice p sl sc)).run P w' = .ok olds.toArray w')
    (hnew : ∀ w', w'.heap = w.heap → (Builtin.firstCells esz n (.slice px n cx)).run P w' = .ok news.toArray w') (hgt : sc < sl + n) (hroom : sl + n ≤ roomCells) (hb : bytes ≤ 2 ^ 11) :
    (Builtin.append_ ts ty #[.slice p sl sc, .slice px n cx]).run P w = .ok (.slice (some ⟨w.heap.size, 0, none⟩) (sl + n) (grownCap w (sl + n) sc e))
      (w.drew.alloc (.cells (olds.toArray ++ news.toArray ++ Builtin.zeroCells z.cells (grownCap w (sl + n) sc e - (sl + n))) e)) := by
  obtain ⟨i, hi, hib⟩ := info_of_bytes hby
  have hr : roomCells = 68719476736 := rfl
  rw [hr] at hroom
  have hbb : (sl + n) * i.bytes ≤ 140737488355328 := by
    have h1 : (sl + n) * i.bytes ≤ 68719476736 * 2048 := Nat.mul_le_mul hroom (by rw [hib]; simpa using hb)
    omega
  have hfit := growslice_fits (bytes := i.bytes) hgt hbb
  have hn : ¬ (sl + n ≤ sc) := by omega
  have h63' : ¬ (9223372036854775807 < ((sl : Int) + (n : Int))) := by omega
  have h48' : ¬ (281474976710656 < Builtin.nextslicecap (sl + n) sc * i.bytes) := by omega
  have hf1 := hold w.drew rfl
  have hf2 := hnew w.drew rfl
  simp [Builtin.append_, h0, h1, run_underlying ht, run_underlying hu, run_size hsz, typeInfo, hi, run_zero hz, Builtin.lenOf, hn, h63', h48', Question.forced, hf1, hf2, newRow, grownCap, -List.append_toArray, -List.append_assoc, -Array.append_assoc]
theorem firstCells_ok {esz n : Nat} {u : Value} {p : Option Addr} {c' : Nat} {us : List Value} {w w' : World} (hw : w'.heap = w.heap) (hlen : us.length = n * esz)
    (hc : (n = 0 ∧ us = []) ∨ ∃ b o, p = some ⟨b, o, none⟩ ∧ ∀ j x, us[j]? = some x → w.cell? ((⟨b, o, none⟩ : Addr).add j) = some x) (m : Nat) : (Builtin.firstCells esz n (.slice p m c')).run P w' = .ok us.toArray w' := by
  rcases hc with ⟨rfl, rfl⟩ | ⟨b, o, rfl, hc⟩
  · cases p <;> simp [Builtin.firstCells, loadCells, loadCellsFrom]
  · refine run_firstCells_some w' esz n _ m c' us hlen fun j v hv => ?_
    have := hc j v hv
    simpa [World.cell?, hw] using this
theorem grownCap_ge' (w : World) (need old : Nat) (e : TypeId) : need ≤ grownCap w need old e := grownCap_ge w need old e
theorem size_grown {z : Value} {us : List Value} {need cap esz : Nat} (hz : z.cells.size = esz) (hl : us.length = need * esz) (hc : need ≤ cap) : (us.toArray ++ Builtin.zeroCells z.cells (cap - need)).size = us.length + (cap - need) * esz := by
  simp [Builtin.zeroCells, hz]
theorem run_append_fit0 {ts : Array TypeId} {ty t u e : TypeId} {esz bytes : Nat} {z : Value} (h0 : ts[0]? = some t) (h1 : ts[1]? = some u) (ht : P.underlying t = some (.slice e)) (hu : P.underlying u = some (.int .i64)) (hsz : sizeT P e = some esz)
    (hby : bytesT P e = some bytes) (hz : zeroOf P e = some z) (hzs : z.cells.size = esz) {k : IntKind} {m : Int} (hm0 : 0 ≤ m) (hm : m ≤ roomCells) (hb : bytes ≤ 2 ^ 11)
    {p : Option Addr} {sl sc : Nat} {w w' : World} (hfit : sl + m.toNat ≤ sc)
    (hst : (p = none ∧ w' = w) ∨ ∃ q, p = some q ∧ (storeCells (q.add (sl * esz)) (Builtin.zeroCells z.cells m.toNat).toList).run P w = .ok () w') :
    (Builtin.append_ ts ty #[.slice p sl sc, .int k m]).run P w = .ok (.slice p (sl + m.toNat) sc) w' := by
  obtain ⟨i, hi, hib⟩ := info_of_bytes hby
  have hr : roomCells = 68719476736 := rfl
  rw [hr] at hm
  have hw : IntKind.i64.wrap m = m := by rw [IntKind.wrap_i64]; omega
  have hneg : ¬ m < 0 := by omega
  have hbb : ¬ (281474976710656 < m * (i.bytes : Int)) := by
    have h1 : (i.bytes : Int) ≤ 2048 := by rw [hib]; omega
    have h2 : m * (i.bytes : Int) ≤ m * 2048 := Int.mul_le_mul_of_nonneg_left h1 hm0
    omega
  by_cases h00 : m.toNat * esz = 0
  · have hzc : Builtin.zeroCells z.cells m.toNat = #[] := by simp [Builtin.zeroCells, hzs, h00]
    rw [hzc] at hst
    rcases hst with ⟨rfl, rfl⟩ | ⟨q, rfl, hst⟩
    · simp [Builtin.append_, h0, h1, run_underlying ht, run_underlying hu, run_size hsz, asInt, asIntOf, typeInfo, hi, hw, hneg, hbb, hfit, h00]
    · simp [Builtin.append_, h0, h1, run_underlying ht, run_underlying hu, run_size hsz, asInt, asIntOf, typeInfo, hi, hw, hneg, hbb, hfit, h00, hst]
  · rcases hst with ⟨rfl, rfl⟩ | ⟨q, rfl, hst⟩
    · simp [Builtin.append_, h0, h1, run_underlying ht, run_underlying hu, run_size hsz, asInt, asIntOf, typeInfo, hi, hw, hneg, hbb, hfit, h00, run_zero hz]
    · simp [Builtin.append_, h0, h1, run_underlying ht, run_underlying hu, run_size hsz, asInt, asIntOf, typeInfo, hi, hw, hneg, hbb, hfit, h00, run_zero hz, hst]
theorem run_append_new0 {ts : Array TypeId} {ty t u e : TypeId} {esz bytes : Nat} {z : Value} (h0 : ts[0]? = some t) (h1 : ts[1]? = some u) (ht : P.underlying t = some (.slice e)) (hu : P.underlying u = some (.int .i64)) (hsz : sizeT P e = some esz)
    (hby : bytesT P e = some bytes) (hz : zeroOf P e = some z) (hzs : z.cells.size = esz) {k : IntKind} {m : Int} (hm0 : 0 ≤ m) (hm : m ≤ roomCells) (hb : bytes ≤ 2 ^ 11)
    {p : Option Addr} {sl sc : Nat} {olds : List Value} {w : World} (hold : ∀ w', w'.heap = w.heap → (Builtin.firstCells esz sl (.slice p sl sc)).run P w' = .ok olds.toArray w')
    (hgt : sc < sl + m.toNat) (hroom : sl + m.toNat ≤ roomCells) :
    (Builtin.append_ ts ty #[.slice p sl sc, .int k m]).run P w = .ok (.slice (some ⟨w.heap.size, 0, none⟩) (sl + m.toNat) (grownCap w (sl + m.toNat) sc e))
      (w.drew.alloc (.cells (olds.toArray ++ (Builtin.zeroCells z.cells m.toNat).toList.toArray ++ Builtin.zeroCells z.cells (grownCap w (sl + m.toNat) sc e - (sl + m.toNat))) e)) := by
  obtain ⟨i, hi, hib⟩ := info_of_bytes hby
  have hr : roomCells = 68719476736 := rfl
  rw [hr] at hroom hm
  have hw : IntKind.i64.wrap m = m := by rw [IntKind.wrap_i64]; omega
  have hneg : ¬ m < 0 := by omega
  have hb2 : ¬ (281474976710656 < m * (i.bytes : Int)) := by
    have h1 : (i.bytes : Int) ≤ 2048 := by rw [hib]; omega
    have h2 : m * (i.bytes : Int) ≤ m * 2048 := Int.mul_le_mul_of_nonneg_left h1 hm0
    omega
  have hbb : (sl + m.toNat) * i.bytes ≤ 140737488355328 := by
    have h1 : (sl + m.toNat) * i.bytes ≤ 68719476736 * 2048 := Nat.mul_le_mul hroom (by rw [hib]; simpa using hb)
    omega
  have hfit := growslice_fits (bytes := i.bytes) hgt hbb
  have hn : ¬ (sl + m.toNat ≤ sc) := by omega
  have h63' : ¬ (9223372036854775807 < ((sl : Int) + (m.toNat : Int))) := by omega
  have h48' : ¬ (281474976710656 < Builtin.nextslicecap (sl + m.toNat) sc * i.bytes) := by omega
  have hf1 := hold w.drew rfl
  have h63'' : ¬ (9223372036854775807 < ((sl : Int) + max m 0)) := by omega
  by_cases h00 : m.toNat * esz = 0
  · have hzc : Builtin.zeroCells z.cells m.toNat = #[] := by simp [Builtin.zeroCells, hzs, h00]
    rw [hzc]
    simp [Builtin.append_, h0, h1, run_underlying ht, run_underlying hu, run_size hsz, asInt, asIntOf, hw, hneg, hb2, h00, typeInfo, hi, run_zero hz, hn, h63', h63'', h48', Question.forced, hf1, newRow, grownCap, -List.append_toArray, -List.append_assoc, -Array.append_assoc]
  · simp [Builtin.append_, h0, h1, run_underlying ht, run_underlying hu, run_size hsz, asInt, asIntOf, hw, hneg, hb2, h00, typeInfo, hi, run_zero hz, hn, h63', h63'', h48', Question.forced, hf1, newRow, grownCap, -List.append_toArray, -List.append_assoc, -Array.append_assoc]
theorem src_ok {ts : Array TypeId} {ty t u e : TypeId} {esz bytes : Nat} {zc : List V} (h0 : ts[0]? = some t) (h1 : ts[1]? = some u) (ht : P.underlying t = some (.slice e)) (hsz : sizeT P e = some esz)
    (hby : bytesT P e = some bytes) (hzc : zeroCells P e = some zc) (hzl : zc.length = esz) (hr : Rel base ρ h w)
    {x : V} {ux : Value} (hx : R ρ x ux) {n : Nat} {cs : List V} (hcs : srcCells P u zc bytes h x esz = some (n, cs)) :
    ∃ z news, zeroOf P e = some z ∧ z.cells.size = esz ∧ RC ρ cs news ∧ news.length = n * esz ∧
      (∀ {p : Option Addr} {sl sc : Nat} {w' : World}, sl + n ≤ sc → ((p = none ∧ w' = w) ∨ ∃ q, p = some q ∧ (storeCells (q.add (sl * esz)) news).run P w = .ok () w') → (Builtin.append_ ts ty #[.slice p sl sc, ux]).run P w = .ok (.slice p (sl + n) sc) w') ∧
      (∀ {p : Option Addr} {sl sc : Nat} {olds : List Value}, (∀ w', w'.heap = w.heap → (Builtin.firstCells esz sl (.slice p sl sc)).run P w' = .ok olds.toArray w') → sc < sl + n → sl + n ≤ roomCells → bytes ≤ 2 ^ 11 →
        (Builtin.append_ ts ty #[.slice p sl sc, ux]).run P w = .ok (.slice (some ⟨w.heap.size, 0, none⟩) (sl + n) (grownCap w (sl + n) sc e))
          (w.drew.alloc (.cells (olds.toArray ++ news.toArray ++ Builtin.zeroCells z.cells (grownCap w (sl + n) sc e - (sl + n))) e))) := by
  obtain ⟨z, hz1, hz2, rfl⟩ := zeroCells_of hzc
  have hzs : z.cells.size = esz := by simpa using hzl
  unfold srcCells at hcs
  split at hcs
  · rename_i e' hu
    have hu := isSlice_of hu
    obtain ⟨px, cx, news, rfl, hrc, hlen, hcell⟩ := cellsOf_ok hr hcs hx
    have hnew : ∀ w', w'.heap = w.heap → (Builtin.firstCells esz n (.slice px n cx)).run P w' = .ok news.toArray w' := fun w' hw => firstCells_ok (u := .nilFunc) hw hlen hcell n
    exact ⟨z, news, hz1, hzs, hrc, hlen, fun hf hst => run_append_fit h0 h1 ht hu hsz (hnew w rfl) hf hst, fun hold hgt hroom hb => run_append_new h0 h1 ht hu hsz hby hz1 hold hnew hgt hroom hb⟩
  · split at hcs
    · rename_i k m hu
      obtain ⟨⟨g1, g2, g3⟩, hcs⟩ := guardO_some hcs
      simp only [Option.some.injEq, Prod.mk.injEq] at hcs
      obtain ⟨rfl, rfl⟩ := hcs
      rw [R_int] at hx
      subst hx
      exact ⟨z, (Builtin.zeroCells z.cells m.toNat).toList, hz1, hzs, RC_repeat hz2 m.toNat, by simp [Builtin.zeroCells, hzs], fun hf hst => run_append_fit0 h0 h1 ht hu hsz hby hz1 hzs g1 g2 g3 hf hst, fun hold hgt hroom hb => run_append_new0 h0 h1 ht hu hsz hby hz1 hzs g1 g2 g3 hold hgt hroom⟩
    · cases hcs
theorem append_ok {ts : Array TypeId} {ty t u e : TypeId} {esz bytes : Nat} {zc : List V} (h0 : ts[0]? = some t) (h1 : ts[1]? = some u) (ht : P.underlying t = some (.slice e)) (hsz : sizeT P e = some esz)
    (hby : bytesT P e = some bytes) (hzc : zeroCells P e = some zc) (hzl : zc.length = esz) (hr : Rel base ρ h w) {at_ : Option Nat} (hat : ∀ i, at_ = some i → h.m i = .fresh ∧ i < h.next)
    {s x : V} {us ux : Value} (hs : R ρ s us) (hx : R ρ x ux) {n : Nat} {cs : List V} (hcs : srcCells P u zc bytes h x esz = some (n, cs)) (hk : appendV h at_ esz bytes s cs n k = some res) :
    ∃ ρ' v h' val w', (Builtin.append_ ts ty #[us, ux]).run P w = .ok val w' ∧ ρ.le ρ' ∧ Rel base ρ' h' w' ∧ Below base w w' ∧ R ρ' v val ∧ k v h' = some res := by
  obtain ⟨z, news, hz1, hzs, hrc, hlen, hF, hN⟩ := src_ok (ty := ty) h0 h1 ht hsz hby hzc hzl hr hx hcs
  cases s <;> simp only [appendV, reduceCtorEq] at hk
  rename_i v l c tl
  obtain ⟨p, c', rfl, q1, q2, q3, q4, q5, q6, q7⟩ := R_slice hs
  split at hk
  · rename_i hn
    subst hn
    have hnil : news = [] := List.eq_nil_of_length_eq_zero (by simpa using hlen)
    subst hnil
    have := hF (p := p) (sl := l) (sc := c') (w' := w) (by omega) (by
      cases p with
      | none => exact .inl ⟨rfl, rfl⟩
      | some q => exact .inr ⟨q, rfl, by simp [storeCells]⟩)
    exact ⟨ρ, _, h, _, w, this, Ren.le.refl _, hr, Below.refl _ _, by rw [Nat.add_zero]; exact hs, hk⟩
  · rename_i hn
    obtain ⟨⟨hroom, hbm⟩, hk'⟩ := guardO_some hk
    clear hk
    have hk := hk'
    clear hk'
    have hfresh : ∀ (old : List V) (olds : List Value), RC ρ old olds → olds.length = l * esz → c' < l + n → (∀ w', w'.heap = w.heap → (Builtin.firstCells esz l (.slice p l c')).run P w' = .ok olds.toArray w') →
        newAt h at_ (old ++ cs) esz ((l + n) * esz) (fun p h' => k (.slice p (l + n) (l + n) true) h') = some res →
        ∃ ρ' v h' val w', (Builtin.append_ ts ty #[.slice p l c', ux]).run P w = .ok val w' ∧ ρ.le ρ' ∧ Rel base ρ' h' w' ∧ Below base w w' ∧ R ρ' v val ∧ k v h' = some res := by
      intro old olds hro hol hgt hold hk
      have hrun := hN (p := p) (sl := l) (sc := c') (olds := olds) hold hgt hroom hbm
      have hge := grownCap_ge w (l + n) c' e
      generalize grownCap w (l + n) c' e = cap at hrun hge
      have hrn : RC ρ (old ++ cs) (olds ++ news) := hro.append hrc
      have hcl : (old ++ cs).length = (l + n) * esz := by rw [hrn.length, List.length_append, hol, hlen, Nat.add_mul]
      have hr' : Rel base ρ h w.drew := hr.ext (Below.refl _ _).drew
      have hrc' : RC ρ (old ++ cs) ((olds.toArray ++ news.toArray ++ Builtin.zeroCells z.cells (cap - (l + n))).toList.take (old ++ cs).length) := by
        have : (olds.toArray ++ news.toArray ++ Builtin.zeroCells z.cells (cap - (l + n))).toList = (olds ++ news) ++ (Builtin.zeroCells z.cells (cap - (l + n))).toList := by simp
        rw [this, hrn.length, List.take_left]
        exact hrn
      have hsize : (olds.toArray ++ news.toArray ++ Builtin.zeroCells z.cells (cap - (l + n))).size = (old ++ cs).length + (cap - (l + n)) * esz := by
        rw [hrn.length]
        simp [Builtin.zeroCells, hzs]
      have hbel : Below base w (w.drew.alloc (.cells (olds.toArray ++ news.toArray ++ Builtin.zeroCells z.cells (cap - (l + n))) e)) := (Below.refl base w).drew.alloc hr.hb _
      have fin : ∀ id h', k (.slice (.hp id ((l + n) * esz) 0) (l + n) (l + n) true) h' = some res → (ρ.le (ρ.with id (old ++ cs).length (w.drew.heap.size, cap - (l + n))) ∧ Rel base (ρ.with id (old ++ cs).length (w.drew.heap.size, cap - (l + n))) h' (w.drew.alloc (.cells (olds.toArray ++ news.toArray ++ Builtin.zeroCells z.cells (cap - (l + n))) e))) →
          ∃ ρ' v h' val w', (Builtin.append_ ts ty #[.slice p l c', ux]).run P w = .ok val w' ∧ ρ.le ρ' ∧ Rel base ρ' h' w' ∧ Below base w w' ∧ R ρ' v val ∧ k v h' = some res := by
        rintro id h' hk ⟨g1, g2⟩
        refine ⟨_, _, h', _, _, hrun, g1, g2, hbel, ?_, hk⟩
        have hmap : (ρ.with id (old ++ cs).length (w.drew.heap.size, cap - (l + n))).map id ((l + n) * esz) = some (w.heap.size, cap - (l + n)) := by rw [← hcl]; exact Ren.with_same _ _ _
        simp only [R]
        exact ⟨_, _, rfl, Nat.le_refl _, by omega, fun hh => (by cases hh), fun hh => (by cases hh), .inr rfl, fun _ => ⟨_, _, hmap, rfl⟩, fun id' g o hh _ => (by cases hh; exact ⟨_, _, hmap, by omega⟩)⟩
      cases at_ with
      | none => exact fin h.next _ hk (hr'.make (id := h.next) (hr.top _ (Nat.le_refl _)) hrc' hsize (h' := h.new (old ++ cs) esz) rfl (by simp [H.new]) (by simp [H.new]))
      | some i =>
        obtain ⟨hf, hi⟩ := hat i rfl
        exact fin i _ hk (hr'.make (id := i) hf hrc' hsize (h' := h.put i (.own (old ++ cs) esz)) rfl (by simp [H.put]) (by simpa [H.put] using hi))
    have hzero : ∀ (hc0 : c = 0 ∧ tl = false ∧ l = 0) (hk : newAt h at_ cs esz (n * esz) (fun p h' => k (.slice p n n true) h') = some res),
        ∃ ρ' v h' val w', (Builtin.append_ ts ty #[.slice p l c', ux]).run P w = .ok val w' ∧ ρ.le ρ' ∧ Rel base ρ' h' w' ∧ Below base w w' ∧ R ρ' v val ∧ k v h' = some res := by
      rintro ⟨rfl, rfl, rfl⟩ hk
      have hc0 : c' = 0 := q3 rfl
      subst hc0
      exact hfresh [] [] RC_nil (by simp) (by omega) (fun w' hw => by cases p <;> simp [Builtin.firstCells, loadCells, loadCellsFrom]) (by rw [Nat.zero_add]; exact hk)
    have hlit : ∀ (hc1 : tl = false ∧ c < l + n) (hk : (cellsOf h (.slice v l c tl) esz).bind (fun o => newAt h at_ (o.2 ++ cs) esz ((l + n) * esz) (fun p h' => k (.slice p (l + n) (l + n) true) h')) = some res),
        ∃ ρ' v h' val w', (Builtin.append_ ts ty #[.slice p l c', ux]).run P w = .ok val w' ∧ ρ.le ρ' ∧ Rel base ρ' h' w' ∧ Below base w w' ∧ R ρ' v val ∧ k v h' = some res := by
      rintro ⟨htl, hcn⟩ hk
      simp only [Option.bind_eq_some_iff] at hk
      obtain ⟨⟨m, old⟩, ho, hk⟩ := hk
      have hm : m = l := by
        simp only [cellsOf] at ho
        split at ho
        · rename_i h0; simp only [Option.some.injEq, Prod.mk.injEq] at ho; omega
        · simp only [Option.map_eq_some_iff, Prod.mk.injEq] at ho; obtain ⟨_, _, h0, _⟩ := ho; exact h0.symm
      subst hm
      obtain ⟨p2, c2, olds, he, hro, hol, hcell⟩ := cellsOf_ok hr ho hs
      simp only [Value.slice.injEq] at he
      obtain ⟨rfl, -, rfl⟩ := he
      have hce := q3 htl
      exact hfresh old olds hro hol (by omega) (fun w' hw => firstCells_ok (u := .nilFunc) hw hol hcell m) hk
    cases v
    case hp id gen off =>
      simp only at hk
      cases hm : h.m id with
      | own old e2 =>
        rw [hm] at hk
        simp only at hk
        by_cases hc0 : c = 0
        · rw [if_pos hc0] at hk
          split at hk
          · rename_i hz
            obtain ⟨z1, z2, rfl⟩ := hz
            exact hzero ⟨hc0, z1, z2⟩ hk
          · cases hk
        rw [if_neg hc0] at hk
        have hp := q6 hc0
        have hp' := hp
        simp only [R] at hp'
        obtain ⟨b, x0, hb, hpe⟩ := hp'
        simp only [Value.pointer.injEq] at hpe
        subst hpe
        by_cases hfit : l + n ≤ c
        · rw [if_pos hfit] at hk
          simp only [Option.bind_eq_some_iff] at hk
          obtain ⟨h', hw, hk⟩ := hk
          have ha : R ρ (.hp id gen (off + l * esz)) (.pointer (some ((⟨b, off, none⟩ : Addr).add (l * esz)))) := R_add (v := .hp id gen off) hp (l * esz)
          obtain ⟨w', s1, s2, s3⟩ := wrs_ok (P := P) hr hw ha hrc
          have := hF (p := some ⟨b, off, none⟩) (sl := l) (sc := c') (w' := w') (by omega) (.inr ⟨_, rfl, s1⟩)
          refine ⟨ρ, _, h', _, w', this, Ren.le.refl _, s2, s3, ?_, hk⟩
          simp only [R]
          exact ⟨_, _, rfl, hfit, q2, q3, q4, q5, fun _ => ⟨_, _, hb, rfl⟩, fun id' g' o' e1 e2 => q7 id' g' o' e1 e2⟩
        · rw [if_neg hfit] at hk
          split at hk
          · rename_i hcond
            obtain ⟨ho, htl, hgen, hee, hcap, hlc, hpos⟩ := hcond
            subst ho; subst hee
            obtain ⟨b', x', cur, ct, k1, k2, k3, k4, k5⟩ := hr.own id old e2 hm
            rw [hgen, hb] at k1
            cases k1
            obtain ⟨b'', x'', j1, j2⟩ := q7 id gen 0 rfl htl
            rw [hb] at j1
            cases j1
            have hold : old.length = c * e2 := by omega
            have hle : l * e2 ≤ c * e2 := Nat.mul_le_mul_right _ hlc
            have hcl : cs.length = n * e2 := by rw [hrc.length, hlen]
            have hnl : (old.take (l * e2) ++ cs).length = (l + n) * e2 := by
              rw [List.length_append, List.length_take, hcl, Nat.add_mul]; omega
            have hlt : old.length < (old.take (l * e2) ++ cs).length := by
              rw [hnl, hold]; exact Nat.mul_lt_mul_of_pos_right (by omega) hpos
            have hrold : RC ρ (old.take (l * e2)) (cur.toList.take (l * e2)) := by
              have := k5.take (l * e2)
              rw [List.take_take] at this
              rwa [Nat.min_eq_left (by omega)] at this
            have hrnew : RC ρ (old.take (l * e2) ++ cs) (cur.toList.take (l * e2) ++ news) := hrold.append hrc
            have fin : ∀ b2 x2 (w' : World) (val : Value), (Builtin.append_ ts ty #[.slice (some ⟨b, 0, none⟩) l c', ux]).run P w = .ok (.slice (some ⟨b2, 0, none⟩) (l + n) (l + n + x2)) w' → Below base w w' →
                (ρ.le (ρ.with id (old.take (l * e2) ++ cs).length (b2, x2)) ∧ Rel base (ρ.with id (old.take (l * e2) ++ cs).length (b2, x2)) (h.put id (.own (old.take (l * e2) ++ cs) e2)) w') →
                ∃ ρ' v h' val w', (Builtin.append_ ts ty #[.slice (some ⟨b, 0, none⟩) l c', ux]).run P w = .ok val w' ∧ ρ.le ρ' ∧ Rel base ρ' h' w' ∧ Below base w w' ∧ R ρ' v val ∧ k v h' = some res := by
              rintro b2 x2 w' val hrun hbel ⟨g1, g2⟩
              refine ⟨_, _, _, _, _, hrun, g1, g2, hbel, ?_, hk⟩
              have hmap : (ρ.with id (old.take (l * e2) ++ cs).length (b2, x2)).map id ((l + n) * e2) = some (b2, x2) := by rw [← hnl]; exact Ren.with_same _ _ _
              simp only [R]
              exact ⟨_, _, rfl, Nat.le_refl _, by omega, fun hh => (by cases hh), fun hh => (by cases hh), .inr rfl, fun _ => ⟨_, _, hmap, rfl⟩, fun id' g o hh _ => (by cases hh; exact ⟨_, _, hmap, rfl⟩)⟩
            by_cases hin : l + n ≤ c'
            · have hmul : (l + n) * e2 ≤ c' * e2 := Nat.mul_le_mul_right _ hin
              have hcsz : cur.size = c' * e2 := by rw [k4, hold, j2, Nat.add_mul]
              have hst := run_storeCells_at P b (l * e2) ct news 0 cur w k3 (by rw [Nat.add_mul] at hmul; omega) hrc.ones
              simp only [Nat.add_zero] at hst
              have hrun := hF (p := some ⟨b, 0, none⟩) (sl := l) (sc := c') hin (.inr ⟨_, rfl, by rw [Addr.add_lit, Nat.zero_add]; exact hst⟩)
              have hset := setRow_heap w b cur (cur.toList.take (l * e2) ++ news ++ cur.toList.drop (l * e2 + news.length)).toArray ct (0, 0) k3
              have hoth : ∀ j, j ≠ b → (w.setRow b (cur.toList.take (l * e2) ++ news ++ cur.toList.drop (l * e2 + news.length)).toArray).heap[j]? = w.heap[j]? := fun j hj => setRow_other w b j _ hj
              have hbel : Below base w (w.setRow b (cur.toList.take (l * e2) ++ news ++ cur.toList.drop (l * e2 + news.length)).toArray) := ⟨⟨rfl, rfl, rfl, by simp [World.setRow], fun j hj => hoth j (by omega)⟩, Nat.le_refl _⟩
              have hx2 : c' = l + n + (c' - (l + n)) := by omega
              refine fin b (c' - (l + n)) _ .nilFunc (by rw [← hx2]; exact hrun) hbel (hr.grow hm (by rw [hgen]; exact hb) hlt hbel (fun j _ hj => hoth j hj) (.inl rfl) hset ?_ ?_)
              · have hsz2 : (c' - (l + n)) * e2 = c' * e2 - (l + n) * e2 := Nat.sub_mul _ _ _
                rw [hnl, hsz2]
                simp only [List.size_toArray, List.length_append, List.length_take, List.length_drop, Array.length_toList]
                rw [Nat.add_mul] at hmul ⊢
                omega
              · have hl2 : (old.take (l * e2) ++ cs).length = (cur.toList.take (l * e2) ++ news).length := hrnew.length
                rw [hl2]
                simp only [List.take_left]
                exact hrnew
            · have hrun := hN (p := some ⟨b, 0, none⟩) (sl := l) (sc := c') (olds := cur.toList.take (l * e2)) (fun w' hw => by
                have hlen2 : (cur.toList.take (l * e2)).length = l * e2 := by
                  rw [List.length_take, Array.length_toList, k4]; omega
                refine run_firstCells_some w' e2 l _ l c' _ hlen2 fun j v hv => ?_
                rw [List.getElem?_take] at hv
                split at hv
                · rw [Addr.add_lit, Nat.zero_add]
                  simp only [World.cell?, hw, k3, Option.isSome_none, Bool.false_eq_true, if_false]
                  simpa using hv
                · cases hv) (by omega) hroom hbm
              have hge := grownCap_ge w (l + n) c' e
              generalize grownCap w (l + n) c' e = cap at hrun hge
              have hbel : Below base w (w.drew.alloc (.cells ((cur.toList.take (l * e2)).toArray ++ news.toArray ++ Builtin.zeroCells z.cells (cap - (l + n))) e)) := (Below.refl base w).drew.alloc hr.hb _
              have hx2 : cap = l + n + (cap - (l + n)) := by omega
              have hhn := heap_alloc_new w.drew (.cells ((cur.toList.take (l * e2)).toArray ++ news.toArray ++ Builtin.zeroCells z.cells (cap - (l + n))) e)
              refine fin w.heap.size (cap - (l + n)) _ .nilFunc (by rw [← hx2]; exact hrun) hbel (hr.grow hm (by rw [hgen]; exact hb) hlt hbel (fun j hj _ => heap_alloc_old w.drew _ hj) (.inr (Nat.le_refl _)) hhn ?_ ?_)
              · rw [hrnew.length]
                simp [Builtin.zeroCells, hzs]
              · have : ((cur.toList.take (l * e2)).toArray ++ news.toArray ++ Builtin.zeroCells z.cells (cap - (l + n))).toList = (cur.toList.take (l * e2) ++ news) ++ (Builtin.zeroCells z.cells (cap - (l + n))).toList := by simp
                rw [this, hrnew.length, List.take_left]
                exact hrnew
          · split at hk
            · rename_i hz
              obtain ⟨z1, rfl⟩ := hz
              exact hlit ⟨z1, by omega⟩ hk
            · cases hk
      | _ => rw [hm] at hk; simp at hk
    all_goals
      simp only at hk
      split at hk
      · rename_i hc0
        exact hzero hc0 hk
      · split at hk
        · rename_i hc1
          exact hlit hc1 hk
        · cases hk

theorem step_builtin {o : Oper} (hr : Rel base ρ h w) (he : EnvOK ρ env a) {at_ : Option Nat} (hat : ∀ i, at_ = some i → h.m i = .fresh ∧ i < h.next) {b : Builtin} {args : Array Operand} {ts : Array TypeId} (ho : o.op = .call { callee := .builtin b, args := args, argTypes := ts })
    (hs : builtinOp P b ts at_ (args.toList.map (ev env)) h k = some res) (hg : Goes base ρ w k res o a next) : o.wpX ro P a w next Q := by
  have hrun : ∀ (s : Sem Value) (val : Value) (w' : World), (∀ cs, builtin b ts o.type cs (args.map a.eval) = (do pure (.value (← s)))) → s.run P w = .ok val w' → (execOp a.eval o).run P w = .ok (.value val) w' := fun s val w' e1 e2 => by
    simp only [execOp, ho, resolve, Sem.run_bind, Sem.run_pure, Result.andThen_ok, invoke, e1, e2]
  have args1 : ∀ v, args.toList.map (ev env) = [v] → ∃ x, args = #[x] ∧ ev env x = v := fun v hv => by
    obtain ⟨l⟩ := args
    match l, hv with
    | [x], hv => exact ⟨x, rfl, by simpa using hv⟩
  have args2 : ∀ u v, args.toList.map (ev env) = [u, v] → ∃ x y, args = #[x, y] ∧ ev env x = u ∧ ev env y = v := fun u v hv => by
    obtain ⟨l⟩ := args
    match l, hv with
    | [x, y], hv => simp at hv; exact ⟨x, y, rfl, hv.1, hv.2⟩
  have args3 : ∀ t u v, args.toList.map (ev env) = [t, u, v] → ∃ x y z, args = #[x, y, z] ∧ ev env x = t ∧ ev env y = u ∧ ev env z = v := fun t u v hv => by
    obtain ⟨l⟩ := args
    match l, hv with
    | [x, y, z], hv => simp at hv; exact ⟨x, y, z, rfl, hv.1, hv.2.1, hv.2.2⟩
  unfold builtinOp at hs
  split at hs
  · rename_i v hv
    obtain ⟨x, rfl, rfl⟩ := args1 _ hv
    have hx := he.ev x
    split at hs
    · rename_i t ht
      split at hs
      · rename_i e v2 n c tl hu hxe
        rw [hxe] at hx
        obtain ⟨p, c', hu2, _⟩ := R_slice hx
        refine wp_value (hrun (Builtin.len_ ts o.type #[.slice p n c']) (goInt n) w (by simp [builtin, hu2]) ?_) (hg.same hr (R_int.2 rfl) hs)
        simp [Builtin.len_, ht, run_underlying hu]
      · rename_i s hu hxe
        rw [hxe, R_str] at hx
        refine wp_value (hrun (Builtin.len_ ts o.type #[.string s]) (goInt s.size) w (by simp [builtin, hx]) ?_) (hg.same hr (R_int.2 rfl) hs)
        simp [Builtin.len_, ht, run_underlying hu]
      · rename_i n e hu
        refine wp_value (hrun (Builtin.len_ ts o.type #[a.eval x]) (goInt n) w (by simp [builtin]) ?_) (hg.same hr (R_int.2 rfl) hs)
        simp [Builtin.len_, ht, run_underlying hu]
      · cases hs
    · cases hs
  · rename_i v n c t hv
    obtain ⟨x, rfl, hxe⟩ := args1 _ hv
    have hx := he.ev x
    rw [hxe] at hx
    split at hs
    · rename_i u hu
      cases hb : ((isSlice P u).isSome && !t) with
      | false => rw [hb] at hs; simp at hs
      | true =>
        rw [hb] at hs
        simp only [cond_true] at hs
        simp only [Bool.and_eq_true, Option.isSome_iff_exists, Bool.not_eq_true'] at hb
        obtain ⟨⟨e, hsl⟩, ht⟩ := hb
        obtain ⟨p, c', hu2, _, _, hcc, _⟩ := R_slice hx
        have hc' := hcc ht
        subst hc'
        refine wp_value (hrun (Builtin.cap_ ts o.type #[.slice p n c']) (goInt c') w (by simp [builtin, hu2]) ?_) (hg.same hr (R_int.2 rfl) hs)
        simp [Builtin.cap_, hu, run_underlying (isSlice_of hsl)]
    · cases hs
  · rename_i ka x kb y hv
    obtain ⟨p, q, rfl, e1, e2⟩ := args2 _ _ hv
    have h1 := he.ev p
    have h2 := he.ev q
    rw [e1, R_int] at h1
    rw [e2, R_int] at h2
    exact wp_value (hrun (Builtin.min_ ts o.type #[.int ka x, .int kb y]) _ w (by simp [builtin, h1, h2]) (run_min_int2 ..)) (hg.same hr (R_int.2 rfl) hs)
  · rename_i ka x kb y hv
    obtain ⟨p, q, rfl, e1, e2⟩ := args2 _ _ hv
    have h1 := he.ev p
    have h2 := he.ev q
    rw [e1, R_int] at h1
    rw [e2, R_int] at h2
    exact wp_value (hrun (Builtin.max_ ts o.type #[.int ka x, .int kb y]) _ w (by simp [builtin, h1, h2]) (run_max_int2 ..)) (hg.same hr (R_int.2 rfl) hs)
  · rename_i ka x kb y kc z hv
    obtain ⟨p, q, r, rfl, e1, e2, e3⟩ := args3 _ _ _ hv
    have h1 := he.ev p
    have h2 := he.ev q
    have h3 := he.ev r
    rw [e1, R_int] at h1
    rw [e2, R_int] at h2
    rw [e3, R_int] at h3
    refine wp_value (hrun (Builtin.min_ ts o.type #[.int ka x, .int kb y, .int kc z]) (.int ka (minI z (minI y x))) w (by simp [builtin, h1, h2, h3]) ?_) (hg.same hr (R_int.2 rfl) hs)
    simp only [Builtin.min_, List.foldlM_cons, List.foldlM_nil, Builtin.min2, pure_bind, Sem.run_pure, minI]
    rfl
  · rename_i ka x kb y kc z hv
    obtain ⟨p, q, r, rfl, e1, e2, e3⟩ := args3 _ _ _ hv
    have h1 := he.ev p
    have h2 := he.ev q
    have h3 := he.ev r
    rw [e1, R_int] at h1
    rw [e2, R_int] at h2
    rw [e3, R_int] at h3
    refine wp_value (hrun (Builtin.max_ ts o.type #[.int ka x, .int kb y, .int kc z]) (.int ka (maxI z (maxI y x))) w (by simp [builtin, h1, h2, h3]) ?_) (hg.same hr (R_int.2 rfl) hs)
    simp only [Builtin.max_, List.foldlM_cons, List.foldlM_nil, Builtin.max2, pure_bind, Sem.run_pure, maxI]
    rfl
  · rename_i s x hv
    obtain ⟨p, q, rfl, rfl, rfl⟩ := args2 _ _ hv
    split at hs
    · rename_i t u ht hu
      split at hs
      · rename_i e hst
        split at hs
        · rename_i esz bytes z hsz hby hz
          split at hs
          · rename_i hzl
            split at hs
            case h_2 => cases hs
            rename_i va vl vc vt hpe
            simp only [Option.bind_eq_some_iff] at hs
            obtain ⟨⟨n, cs⟩, hc, ⟨sv, h2⟩, hs, hk⟩ := hs
            have hep := he.ev p
            rw [hpe] at hep
            unfold appendS at hs
            obtain ⟨ρ', v, h', val, w', g1, g2, g3, g4, g5, g6⟩ := append_ok (ty := o.type) ht hu (isSlice_of hst) hsz hby hz hzl hr hat hep (he.ev q) hc hs
            have g6 : k v h' = some res := by
              split at g6
              · simp only [Option.some.injEq, Prod.mk.injEq] at g6
                obtain ⟨rfl, rfl⟩ := g6
                exact hk
              · cases g6
            exact wp_value (hrun (Builtin.append_ ts o.type #[a.eval p, a.eval q]) val w' (by simp [builtin]) g1) (hg ρ' v h' val w' g2 g3 g4 g5 g6)
          · cases hs
        · cases hs
      · cases hs
    · cases hs
  · rename_i v l c tl x hv
    obtain ⟨p, q, rfl, e1, rfl⟩ := args2 _ _ hv
    split at hs
    · rename_i t ht
      split at hs
      · rename_i e hst
        split at hs
        · rename_i esz hsz
          simp only [Option.bind_eq_some_iff] at hs
          obtain ⟨⟨n, cs⟩, hc, hs⟩ := hs
          have hd := he.ev p
          rw [e1] at hd
          obtain ⟨pd, cd, hud, q1, q2, q3, q4, q5, q6, q7⟩ := R_slice hd
          obtain ⟨px, cx, news, hux, hrc, hlen, hcell⟩ := cellsOf_ok hr hc (he.ev q)
          have hfirst : (Builtin.firstCells esz (min n l) (.slice px n cx)).run P w = .ok (news.take (min n l * esz)).toArray w := by
            refine firstCells_ok (u := .nilFunc) (w := w) rfl ?_ ?_ n
            · rw [List.length_take, hlen]
              exact Nat.min_eq_left (Nat.mul_le_mul_right _ (Nat.min_le_left _ _))
            · rcases hcell with ⟨rfl, rfl⟩ | ⟨b, ofs, rfl, hcell⟩
              · exact .inl ⟨by simp, by simp⟩
              · refine .inr ⟨b, ofs, rfl, fun j x hx => ?_⟩
                rw [List.getElem?_take] at hx
                split at hx
                · exact hcell j x hx
                · cases hx
          simp only at hs
          split at hs
          · rename_i hz
            rw [hz] at hfirst
            simp only [Nat.zero_mul, List.take_zero] at hfirst
            refine wp_value (hrun (Builtin.copy_ ts o.type #[.slice pd l cd, .slice px n cx]) (goInt 0) w (by simp [builtin, hud, hux]) ?_) (hg.same hr (R_int.2 rfl) hs)
            have hz' : Nat.min n l = 0 := hz
            cases pd <;> simp [Builtin.copy_, ht, run_underlying (isSlice_of hst), Builtin.lenOf, run_size hsz, hz', hfirst, storeCells]
          · rename_i hz
            simp only [Option.bind_eq_some_iff] at hs
            obtain ⟨h', hw, hs⟩ := hs
            have hpr := q6 (by omega)
            have hq : ∃ q, pd = some q := by
              cases hvv : v <;> rw [hvv] at hw <;> simp only [H.wrs, reduceCtorEq] at hw
              rw [hvv] at q5
              cases pd with
              | none => simp [V.nn, V.mayNil] at q5
              | some q => exact ⟨q, rfl⟩
            obtain ⟨qd, rfl⟩ := hq
            obtain ⟨w', s1, s2, s3⟩ := wrs_ok (P := P) hr hw hpr (hrc.take (min n l * esz))
            refine wp_value (hrun (Builtin.copy_ ts o.type #[.slice (some qd) l cd, .slice px n cx]) (goInt (min n l : Nat)) w' (by simp [builtin, hud, hux]) ?_) (hg ρ _ h' _ w' (Ren.le.refl _) s2 s3 (R_int.2 rfl) hs)
            have hm : Nat.min n l = min n l := rfl
            simp only [Builtin.copy_, List.getElem?_toArray, List.getElem?_cons_zero, List.getElem?_cons_succ, ht, Sem.run_bind, run_underlying (isSlice_of hst), Result.andThen_ok, Builtin.lenOf, Sem.run_pure, run_size hsz, hm, hfirst, s1]
        · cases hs
      · cases hs
    · cases hs
  · rename_i v l c tl hv
    obtain ⟨x, rfl, hxe⟩ := args1 _ hv
    have hx := he.ev x
    rw [hxe] at hx
    split at hs
    · rename_i t ht
      split at hs
      · rename_i e hst
        split at hs
        · rename_i z hz
          obtain ⟨zv, hz1, hz2, rfl⟩ := zeroCells_of hz
          obtain ⟨p, c', hu, q1, q2, q3, q4, q5, q6, q7⟩ := R_slice hx
          simp only [Option.bind_eq_some_iff] at hs
          obtain ⟨h', hw, hs⟩ := hs
          unfold clearH at hw
          split at hw
          · rename_i h0
            subst h0
            cases hw
            refine wp_value (hrun (Builtin.clear_ ts o.type #[.slice p 0 c']) undef w (by simp [builtin, hu]) ?_) (hg.same hr R_unit hs)
            cases p <;> simp [Builtin.clear_, ht, run_underlying (isSlice_of hst), undef]
          · rename_i h0
            have hpr := q6 (by omega)
            have hq : ∃ q, p = some q := by
              cases hvv : v <;> rw [hvv] at hw <;> simp only [H.wrs, reduceCtorEq] at hw
              rw [hvv] at q5
              cases p with
              | none => simp [V.nn, V.mayNil] at q5
              | some q => exact ⟨q, rfl⟩
            obtain ⟨q, rfl⟩ := hq
            obtain ⟨w', s1, s2, s3⟩ := wrs_ok (P := P) hr hw hpr (RC_repeat hz2 l)
            refine wp_value (hrun (Builtin.clear_ ts o.type #[.slice (some q) l c']) undef w' (by simp [builtin, hu]) ?_) (hg ρ _ h' _ w' (Ren.le.refl _) s2 s3 R_unit hs)
            have hl : l ≠ 0 := h0
            cases l with
            | zero => exact absurd rfl hl
            | succ l => simp only [Builtin.clear_, List.getElem?_toArray, List.getElem?_cons_zero, ht, Sem.run_bind, run_underlying (isSlice_of hst), Result.andThen_ok, run_zero hz1, Builtin.zeroCells, s1, Sem.run_pure, undef]
        · cases hs
      · cases hs
    · cases hs
  · cases hs

/-! #### Maps from numbers to numbers -/

theorem isMap_of {t : TypeId} {kk vk : IntKind} (h : isMap P t = some (kk, vk)) : ∃ a b, P.underlying t = some (.map a b) ∧ P.underlying a = some (.int kk) ∧ zeroOf P b = some (.int vk 0) := by
  unfold isMap at h
  split at h
  · rename_i a b hu
    split at h
    · rename_i k1 k2 h1 h2
      simp only [Option.some.injEq, Prod.mk.injEq] at h
      obtain ⟨rfl, rfl⟩ := h
      exact ⟨a, b, hu, h1, h2⟩
    · cases h
  · cases h
def entryM (kk vk : IntKind) (p : (Int × Int) × Nat) : MapEntry := { key := .int kk p.1.1, val := .int vk p.1.2, born := p.2 }
theorem entriesM_toList (kk vk : IntKind) (es : List (Int × Int)) : (entriesM kk vk es).toList = es.zipIdx.map (entryM kk vk) := rfl
theorem findNow_ok {kk vk : IntKind} {n : Int} : ∀ (es : List (Int × Int)) (b j : Nat), Instr.findNow (.int kk) (.int kk n) ((es.zipIdx b).map (entryM kk vk)) j = some ((placeM n es).map fun i => (j + i, .int vk ((es[i]?.getD (0, 0)).2)))
  | [], b, j => rfl
  | (a, v) :: es, b, j => by
    simp only [List.zipIdx_cons, List.map_cons, Instr.findNow, entryM, Instr.sameNow, if_true, placeM]
    by_cases h : n = a
    · subst h
      simp
    · rw [if_neg h]
      have hb : (n == a) = false := by simp [h]
      rw [hb]
      have := findNow_ok (kk := kk) (vk := vk) (n := n) es (b + 1) (j + 1)
      simp only [this]
      cases placeM n es with
      | none => rfl
      | some i => simp [Nat.add_comm, Nat.add_left_comm]
theorem getM_place {n : Int} : ∀ (es : List (Int × Int)), getM n es = (placeM n es).map fun i => (es[i]?.getD (0, 0)).2
  | [] => rfl
  | (a, v) :: es => by
    simp only [getM, placeM]
    by_cases h : n = a
    · simp [h]
    · rw [if_neg h, if_neg h, getM_place es]
      cases placeM n es <;> simp
theorem placeM_lt {n : Int} : ∀ {es : List (Int × Int)} {i : Nat}, placeM n es = some i → ∃ v, es[i]? = some (n, v)
  | [], i, h => by cases h
  | (a, v) :: es, i, h => by
    simp only [placeM] at h
    by_cases hn : n = a
    · rw [if_pos hn] at h; cases h; exact ⟨v, by simp [hn]⟩
    · rw [if_neg hn] at h
      cases hp : placeM n es with
      | none => rw [hp] at h; cases h
      | some j =>
        rw [hp] at h
        simp only [Option.map_some, Option.some.injEq] at h
        obtain ⟨w, hw⟩ := placeM_lt hp
        exact ⟨w, by rw [← h]; simpa using hw⟩
theorem setM_place {n v : Int} : ∀ (es : List (Int × Int)), setM n v es = match placeM n es with | some i => es.set i (n, v) | none => es ++ [(n, v)]
  | [] => rfl
  | (a, u) :: es => by
    simp only [setM, placeM]
    by_cases h : n = a
    · simp [h]
    · rw [if_neg h, if_neg h, setM_place es]
      cases placeM n es <;> simp
theorem entriesM_set {kk vk : IntKind} {n v : Int} {es : List (Int × Int)} {i : Nat} : (entriesM kk vk es).modify i (fun e => { e with key := .int kk n, val := .int vk v }) = entriesM kk vk (es.set i (n, v)) := by
  apply Array.ext'
  rw [entriesM_toList, Array.toList_modify, entriesM_toList]
  refine List.ext_getElem? fun j => ?_
  simp only [List.getElem?_modify, List.getElem?_map, List.getElem?_zipIdx, List.getElem?_set]
  by_cases hj : i = j
  · subst hj
    by_cases hl : i < es.length
    · simp [hl, entryM]
    · simp [hl]
  · simp [hj]
theorem entriesM_push {kk vk : IntKind} {n v : Int} {es : List (Int × Int)} : (entriesM kk vk es).push { key := .int kk n, val := .int vk v, born := es.length } = entriesM kk vk (es ++ [(n, v)]) := by
  apply Array.ext'
  rw [Array.toList_push, entriesM_toList, entriesM_toList, List.zipIdx_append, List.map_append]
  simp [entryM]
theorem unG_up {kt vt : Ty} : ∀ {es : List (V × V)} {l : List (kt.C × vt.C)}, unG kt vt es = some l → es = upG kt vt l
  | [], l, h => by cases h; rfl
  | (x, y) :: es, l, h => by
    simp only [unG, Option.bind_eq_some_iff, Option.some.injEq] at h
    obtain ⟨p, h1, q, h2, l', h3, rfl⟩ := h
    rw [unG_up h3]
    simp only [upG, List.map_cons, Ty.un_pack _ _ _ h1, Ty.un_pack _ _ _ h2]
theorem gmap_of {id : Nat} {kt vt : Ty} {l : List (kt.C × vt.C)} (h' : h.gmap id kt vt = some l) : h.m id = .gmap (upG kt vt l) := by
  unfold H.gmap at h'
  split at h'
  · rename_i es hm
    rw [hm, unG_up h']
  · cases h'
theorem RL_keys {a : TypeId} {kt : Ty} (hf : KeyForm P a kt) {β : Type} : ∀ (l : List (kt.C × β)) (us : List (Value × Value)), RL ρ (l.map fun p => kt.un p.1) (us.map (·.1)) → us.map (·.1) = l.map fun p => kt.kval p.1
  | [], us, h => by simpa [RL] using h
  | p :: l, [], h => by simp [RL] at h
  | p :: l, u :: us, h => by
    simp only [List.map_cons, RL, List.cons.injEq] at h
    obtain ⟨v, us', ⟨rfl, e⟩, h1, h2⟩ := h
    rw [← e] at h2
    simp only [List.map_cons, key_R hf h1, RL_keys hf l us h2]
/-- A map's place and its object. -/
theorem gmap_obj (hr : Rel base ρ h w) {id : Nat} {a : TypeId} {kt vt : Ty} (hf : KeyForm P a kt) {l : List (kt.C × vt.C)} (hm : h.gmap id kt vt = some l) {u : Value} (hu : R ρ (.map (some id)) u) :
    ∃ b us, u = .map (some b) ∧ ρ.map id 0 = some (b, 0) ∧ w.heap[b]? = some (.map (entriesG us) us.length) ∧ us.map (·.1) = l.map (fun p => kt.kval p.1) ∧ RL ρ (l.map fun p => kt.un p.1) (us.map (·.1)) ∧ RL ρ (l.map fun p => vt.un p.2) (us.map (·.2)) := by
  obtain ⟨b, o, k1, k2, k3, k4⟩ := hr.objs.obj _ _ (gmap_of hm) rfl
  simp only [R] at hu
  rcases hu with ⟨e, _⟩ | ⟨id', b', x, e, e2, e3⟩
  · cases e
  · cases e
    rw [k1] at e2
    cases e2
    simp only [RO, upG, List.map_map] at k4
    obtain ⟨us, rfl, q1, q2⟩ := k4
    exact ⟨b, us, e3, k1, k3, RL_keys hf l us q1, q1, q2⟩
theorem placeG_lt {kt : Ty} {β : Type} {x : kt.C} : ∀ {l : List (kt.C × β)} {i : Nat}, placeG kt x l = some i → ∃ p, l[i]? = some p ∧ kt.keyEq x p.1 = true
  | [], i, h => by cases h
  | p :: l, i, h => by
    simp only [placeG] at h
    cases hp : kt.keyEq x p.1 with
    | true => rw [hp] at h; simp at h; subst h; exact ⟨p, rfl, hp⟩
    | false =>
      rw [hp] at h
      simp only [cond_false, Option.map_eq_some_iff] at h
      obtain ⟨j, h1, rfl⟩ := h
      obtain ⟨q, h2, h3⟩ := placeG_lt h1
      exact ⟨q, by simpa using h2, h3⟩
theorem isGMap_of {t : TypeId} {kt vt : Ty} {zv : V} (h : isGMap P t = some (kt, vt, zv)) : ∃ a b z, P.underlying t = some (.map a b) ∧ KeyForm P a kt ∧ tyOf P b = some vt ∧ zeroOf P b = some z ∧ zv = ofZero z := by
  unfold isGMap at h
  split at h
  · rename_i a b hu
    split at h
    · rename_i kt' vt' z h1 h2 h3
      cases h
      exact ⟨a, b, z, hu, keyTy_form h1, h2, h3, rfl⟩
    · cases h
  · cases h
theorem key_of {kt : Ty} {v : V} {x : kt.C} {a : TypeId} {u : Value} (hp : kt.pack v = some x) (hf : KeyForm P a kt) (hv : R ρ v u) : u = kt.kval x := by
  rw [← Ty.un_pack _ _ _ hp] at hv
  exact key_R hf hv
theorem RL_set {vs : List V} {us : List Value} {i : Nat} {v : V} {u : Value} (h : RL ρ vs us) (h1 : R ρ v u) : RL ρ (vs.set i v) (us.set i u) := by
  rw [RL_iff] at h ⊢
  refine ⟨by simp [h.1], fun j v' u' e1 e2 => ?_⟩
  rw [List.getElem?_set] at e1 e2
  by_cases hj : i = j
  · subst hj
    by_cases hl : i < vs.length
    · rw [if_pos rfl, if_pos hl] at e1
      rw [if_pos rfl, if_pos (by rw [← h.1]; exact hl)] at e2
      cases e1; cases e2; exact h1
    · rw [if_pos rfl, if_neg hl] at e1; cases e1
  · rw [if_neg hj] at e1 e2
    exact h.2 j _ _ e1 e2
theorem RL_push {vs : List V} {us : List Value} {v : V} {u : Value} (h : RL ρ vs us) (h1 : R ρ v u) : RL ρ (vs ++ [v]) (us ++ [u]) := by
  rw [RL_iff] at h ⊢
  refine ⟨by simp [h.1], fun j v' u' e1 e2 => ?_⟩
  rw [List.getElem?_append] at e1 e2
  by_cases hj : j < vs.length
  · rw [if_pos hj] at e1
    rw [if_pos (by rw [← h.1]; exact hj)] at e2
    exact h.2 j _ _ e1 e2
  · rw [if_neg hj] at e1
    rw [if_neg (by rw [← h.1]; exact hj), ← h.1] at e2
    rcases Nat.eq_zero_or_pos (j - vs.length) with e | e
    · rw [e] at e1 e2; simp at e1 e2; subst e1; subst e2; exact h1
    · rw [List.getElem?_eq_none (by simp; omega)] at e1; cases e1
theorem step_makeMap {o : Oper} (hr : Rel base ρ h w) {t : TypeId} {r : Option Operand} (hs : (match r with
    | none => match isMap P t with
      | some (kk, vk) => k (.map (some h.next)) (h.newS (.imap kk vk []))
      | none => match isGMap P t with
        | some _ => k (.map (some h.next)) (h.newS (.gmap []))
        | none => none
    | some _ => none) = some res) (ho : o.op = .makeMap t r) (hg : Goes base ρ w k res o a next) : o.wpX ro P a w next Q := by
  split at hs
  · have fin : ∀ s : Slot, s.isObj = true → (∀ ρ' b, RO ρ' b s (.map #[] 0)) → k (.map (some h.next)) (h.newS s) = some res → o.wpX ro P a w next Q := fun s hso hro hs => by
      obtain ⟨le, rel⟩ := hr.newObj (s := s) hso none (o := .map #[] 0) (hro _ _)
      refine wp_value (val := .map (some w.heap.size)) (w' := w.alloc (.map #[] 0)) ?_ (hg _ _ _ _ _ le rel ((Below.refl base w).alloc hr.hb _) ?_ hs)
      · simp only [execOp, ho, Option.map_none, Instr.makeMap, Sem.run_bind, run_newObj_alloc, Result.andThen_ok, Sem.run_pure, pure_bind]
      · simp only [R]
        exact .inr ⟨_, _, _, rfl, Ren.with_same _ _ _, rfl⟩
    split at hs
    · exact fin _ rfl (fun _ _ => by simp only [RO]; rfl) hs
    · split at hs
      · exact fin (.gmap []) rfl (fun _ _ => by simp only [RO]; exact ⟨[], rfl, by simp [RL], by simp [RL]⟩) hs
      · cases hs
  · cases hs
theorem imap_of {id : Nat} {kk vk : IntKind} {es : List (Int × Int)} (h' : h.imap id kk vk = some es) : h.m id = .imap kk vk es := by
  unfold H.imap at h'
  split at h'
  · rename_i k1 v1 es1 hm
    split at h'
    · rename_i hc
      obtain ⟨rfl, rfl⟩ := hc
      cases h'
      exact hm
    · cases h'
  · cases h'
/-- A map's place and its object. -/
theorem map_obj (hr : Rel base ρ h w) {id : Nat} {kk vk : IntKind} {es : List (Int × Int)} (hm : h.m id = .imap kk vk es) {u : Value} (hu : R ρ (.map (some id)) u) :
    ∃ b, u = .map (some b) ∧ ρ.map id 0 = some (b, 0) ∧ w.heap[b]? = some (.map (entriesM kk vk es) es.length) := by
  obtain ⟨b, o, k1, k2, k3, k4⟩ := hr.objs.obj _ _ hm rfl
  simp only [R] at hu
  rcases hu with ⟨e, _⟩ | ⟨id', b', x, e, e2, e3⟩
  · cases e
  · cases e
    rw [k1] at e2
    cases e2
    simp only [RO] at k4
    subst k4
    exact ⟨b, e3, k1, k3⟩
theorem run_checkKey_int {empty : Bool} {a : TypeId} {kk kx : IntKind} {n : Int} (ha : P.underlying a = some (.int kk)) (w : World) : (Instr.checkKey empty 10000 a (.int kx n)).run P w = .ok () w := by
  unfold Instr.checkKey
  simp only [Sem.run_bind, run_underlying ha, Result.andThen_ok, Sem.run_pure]
theorem run_findKey_int {a : TypeId} {kk vk : IntKind} {n : Int} {es : List (Int × Int)} (ha : P.underlying a = some (.int kk)) (w : World) : (Instr.findKey a (.int kk n) (entriesM kk vk es).toList).run P w = .ok ((placeM n es).map fun i => (i, .int vk ((es[i]?.getD (0, 0)).2))) w := by
  unfold Instr.findKey
  have := findNow_ok (kk := kk) (vk := vk) (n := n) es 0 0
  simp only [Sem.run_bind, run_underlying ha, Result.andThen_ok, entriesM_toList, this, Sem.run_pure, Nat.zero_add]
theorem run_getMap {b n : Nat} {es : Array MapEntry} (h : w.heap[b]? = some (.map es n)) : (getObj b).run P w = .ok (.map es n) w := by simp [getObj, Sem.run, h]
theorem run_setMap {b n : Nat} {es : Array MapEntry} {ob : Obj} (h : w.heap[b]? = some (.map es n)) : (setObj b ob).run P w = .ok () (w.putObj b ob) := by simp [setObj, Sem.run, h, World.putObj]
/-- What stands under a key. -/
theorem val_ok {a b : TypeId} {kt vt : Ty} (z0 : Value) (z : vt.C) (hz : vt.un z = ofZero z0) {l : List (kt.C × vt.C)} {us : List (Value × Value)} (hk : us.map (·.1) = l.map fun p => kt.kval p.1) (hv : RL ρ (l.map fun p => vt.un p.2) (us.map (·.2))) (key : kt.C) :
    (placeG kt key l = none ∧ valG kt z key l = (z, false) ∧ R ρ (vt.un z) z0) ∨ ∃ i u p, placeG kt key l = some i ∧ l[i]? = some p ∧ us[i]? = some u ∧ u.1 = kt.kval p.1 ∧ kt.keyEq key p.1 = true ∧ valG kt z key l = (p.2, true) ∧ R ρ (vt.un p.2) u.2 := by
  unfold valG
  cases hpl : placeG kt key l with
  | none => exact .inl ⟨rfl, rfl, by rw [hz]; exact R_ofZero z0⟩
  | some i =>
    obtain ⟨q, hq, hq2⟩ := placeG_lt hpl
    have hlen : us.length = l.length := by simpa using congrArg List.length hk
    have hi : i < us.length := by rw [hlen]; exact (List.getElem?_eq_some_iff.1 hq).1
    refine .inr ⟨i, us[i], q, rfl, hq, List.getElem?_eq_getElem hi, ?_, hq2, by simp only [hq]; rfl, ?_⟩
    · have := congrArg (fun l : List Value => l[i]?) hk
      simp only [List.getElem?_map, hq, List.getElem?_eq_getElem hi, Option.map_some, Option.some.injEq] at this
      exact this
    · exact (RL_iff.1 hv).2 i _ _ (by rw [List.getElem?_map, hq]; rfl) (by rw [List.getElem?_map, List.getElem?_eq_getElem hi]; rfl)
theorem step_lookup {o : Oper} (hr : Rel base ρ h w) (he : EnvOK ρ env a) {t : TypeId} {m x : Operand} {c : Bool} (hs : (match isMap P t with
    | some (kk, vk) => match ev env m, ev env x, c with
      | .map r, .int kx n, false => guardO (kx = kk) (match r with
        | none => none
        | some id => (h.imap id kk vk).bind fun es => k (.int vk ((getM n es).getD 0)) h)
      | _, _, _ => none
    | none => match isGMap P t, ev env m with
      | some (kt, vt, zv), .map r => r.bind fun id => (kt.pack (ev env x)).bind fun key => (vt.pack zv).bind fun z => (lookG h id kt vt z key).bind fun p => k (cond c (.tuple [vt.un p.1, .bool p.2]) (vt.un p.1)) h
      | _, _ => none) = some res) (ho : o.op = .lookup t m x c) (hg : Goes base ρ w k res o a next) : o.wpX ro P a w next Q := by
  split at hs
  · rename_i kk vk hty
    split at hs
    · rename_i r kx n hm hx
      obtain ⟨rfl, hs⟩ := guardO_some hs
      cases r with
      | none => cases hs
      | some id =>
      simp only [Option.bind_eq_some_iff] at hs
      obtain ⟨es, hes, hs⟩ := hs
      obtain ⟨a', b', t1, t2, t3⟩ := isMap_of hty
      have h1 := he.ev m
      have h2 := he.ev x
      rw [hm] at h1
      rw [hx, R_int] at h2
      obtain ⟨b, e1, e2, e3⟩ := map_obj hr (imap_of hes) h1
      refine wp_value (val := .int vk ((getM n es).getD 0)) (w' := w) ?_ (hg.same hr (R_int.2 rfl) hs)
      have hobj : (getObj b).run P w = .ok (.map (entriesM kx vk es) es.length) w := by simp [getObj, Sem.run, e3]
      simp only [execOp, ho, Instr.lookup, h2, e1, Sem.run_bind, run_underlying t1, Result.andThen_ok, hobj, Sem.run_pure, run_checkKey_int t2, run_findKey_int t2]
      rw [getM_place]
      cases placeM n es with
      | none => simp [run_zero t3]
      | some i => simp
    · cases hs
  · split at hs
    · rename_i kt vt zv r hty hm
      simp only [Option.bind_eq_some_iff] at hs
      obtain ⟨id, rfl, key, hkey, z, hz, p, hp, hs⟩ := hs
      obtain ⟨a', b', z0, t1, hf, t2, t3, rfl⟩ := isGMap_of hty
      have h1 := he.ev m
      have h2 := key_of hkey hf (he.ev x)
      rw [hm] at h1
      unfold lookG at hp
      simp only [Option.map_eq_some_iff] at hp
      obtain ⟨l, hl, rfl⟩ := hp
      obtain ⟨b, us, e1, e2, e3, e4, e5, e6⟩ := gmap_obj hr hf hl h1
      have hfind := run_findG hf key l us e4 w
      have hchk := run_checkG (P := P) hf (entriesG us).isEmpty key w
      have fin : ∀ y ok, valG kt z key l = (ok : vt.C × Bool) → R ρ (vt.un ok.1) y → (execOp a.eval o).run P w = .ok (.value (if c then .tuple #[y, .bool ok.2] else y)) w → o.wpX ro P a w next Q := fun y ok h1 h2 h3 => by
        rw [h1] at hs
        refine wp_value h3 (hg.same hr ?_ hs)
        cases c with
        | false => exact h2
        | true =>
          simp only [cond_true, if_true, R]
          exact ⟨[y, .bool _], rfl, by simp only [RL]; exact ⟨_, _, rfl, h2, _, _, rfl, R_bool.2 rfl, rfl⟩⟩
      rcases val_ok (a := a') (b := b') z0 z (Ty.un_pack _ _ _ hz) e4 e6 key with ⟨p1, p2, p3⟩ | ⟨i, u, p, p1, p2, p3, _, _, p4, p5⟩
      · refine fin z0 _ p2 p3 ?_
        rw [p1] at hfind
        simp only [execOp, ho, Instr.lookup, h2, e1, Sem.run_bind, run_underlying t1, Result.andThen_ok, run_getMap e3, Sem.run_pure, hchk, hfind, Option.map_none, run_zero t3]
      · refine fin u.2 _ p4 p5 ?_
        rw [p1] at hfind
        simp only [execOp, ho, Instr.lookup, h2, e1, Sem.run_bind, run_underlying t1, Result.andThen_ok, run_getMap e3, Sem.run_pure, hchk, hfind, Option.map_some, p3, Option.getD_some]
    · cases hs
theorem modify_const {β : Type} {l : List β} {i : Nat} {x : β} : l.modify i (fun _ => x) = l.set i x := by
  refine List.ext_getElem? fun j => ?_
  rw [List.getElem?_modify, List.getElem?_set]
  by_cases hj : i = j
  · subst hj
    by_cases hi : i < l.length
    · simp [hi]
    · simp [hi]
  · simp [hj]
theorem modify_same {β : Type} {l : List β} {i : Nat} {x : β} {f : β → β} (h : l[i]? = some x) (hf : f x = x) : l.modify i f = l := by
  refine List.ext_getElem? fun j => ?_
  rw [List.getElem?_modify]
  by_cases hj : i = j
  · subst hj; simp [h, hf]
  · simp [hj]
theorem putObj_same {b : Nat} {o : Obj} (h : w.heap[b]? = some o) : w.putObj b o = w := by
  have : w.heap.setIfInBounds b o = w.heap := by
    apply Array.ext_getElem?
    intro j
    rw [Array.getElem?_setIfInBounds]
    by_cases hj : b = j
    · subst hj
      have hb := (Array.getElem?_eq_some_iff.1 h).1
      simp [hb, h.symm]
    · simp [hj]
  unfold World.putObj
  rw [this]
theorem findIdx_born {us : List (Value × Value)} {n : Nat} (h : n < us.length) : (entriesG us).findIdx? (fun e => (e.born : Int) == (n : Int)) = some n := by
  rw [Array.findIdx?_eq_some_iff_getElem]
  have hg : ∀ i (hi : i < (entriesG us).size), ((entriesG us)[i]).born = i := fun i hi => by
    have hi2 : i < us.length := by rw [entriesG_size] at hi; exact hi
    have : (entriesG us)[i]? = some (entryG us[i] i) := by rw [entriesG_get, List.getElem?_eq_getElem hi2]; rfl
    rw [Array.getElem?_eq_getElem hi] at this
    rw [Option.some.inj this]; rfl
  refine ⟨by rw [entriesG_size]; exact h, by rw [hg]; simp, fun j hj => ?_⟩
  rw [hg]
  simp
  omega
theorem map_places {kt : Ty} {β : Type} {l : List (kt.C × β)} {us : List (Value × Value)} (hk : us.map (·.1) = l.map fun p => kt.kval p.1) (key : kt.C) :
    (placeG kt key l = none) ∨ ∃ i u p, placeG kt key l = some i ∧ l[i]? = some p ∧ us[i]? = some u ∧ u.1 = kt.kval p.1 ∧ kt.keyEq key p.1 = true := by
  cases hpl : placeG kt key l with
  | none => exact .inl rfl
  | some i =>
    obtain ⟨q, hq, hq2⟩ := placeG_lt hpl
    have hlen : us.length = l.length := by simpa using congrArg List.length hk
    have hi : i < us.length := by rw [hlen]; exact (List.getElem?_eq_some_iff.1 hq).1
    refine .inr ⟨i, us[i], q, rfl, hq, List.getElem?_eq_getElem hi, ?_, hq2⟩
    have := congrArg (fun l : List Value => l[i]?) hk
    simp only [List.getElem?_map, hq, List.getElem?_eq_getElem hi, Option.map_some, Option.some.injEq] at this
    exact this
theorem RO_gpush {b : Nat} {kt vt : Ty} {l : List (kt.C × vt.C)} {us : List (Value × Value)} (h1 : RL ρ (l.map fun p => kt.un p.1) (us.map (·.1))) (h2 : RL ρ (l.map fun p => vt.un p.2) (us.map (·.2))) {x : kt.C} {v : vt.C} {kx y : Value} (hx : R ρ (kt.un x) kx) (hy : R ρ (vt.un v) y) :
    RO ρ b (.gmap (upG kt vt (l ++ [(x, v)]))) (.map (entriesG (us ++ [(kx, y)])) (us ++ [(kx, y)]).length) := by
  simp only [RO, upG, List.map_map]
  exact ⟨_, rfl, by simpa [Function.comp_def] using RL_push h1 hx, by simpa [Function.comp_def] using RL_push h2 hy⟩
theorem RO_gset {b : Nat} {kt vt : Ty} {l : List (kt.C × vt.C)} {us : List (Value × Value)} (h1 : RL ρ (l.map fun p => kt.un p.1) (us.map (·.1))) (h2 : RL ρ (l.map fun p => vt.un p.2) (us.map (·.2))) {x : kt.C} {v : vt.C} {kx y : Value} {i : Nat} (hx : R ρ (kt.un x) kx) (hy : R ρ (vt.un v) y) :
    RO ρ b (.gmap (upG kt vt (l.set i (x, v)))) (.map (entriesG (us.set i (kx, y))) us.length) := by
  simp only [RO, upG, List.map_map]
  exact ⟨us.set i (kx, y), by simp, by simpa [List.map_set, Function.comp_def] using RL_set h1 hx, by simpa [List.map_set, Function.comp_def] using RL_set h2 hy⟩
theorem map_modify_fst {α β : Type} {l : List (α × β)} {n : Nat} {v : β} : (l.modify n fun p => (p.1, v)).map (·.1) = l.map (·.1) := by
  refine List.ext_getElem? fun j => ?_
  simp only [List.getElem?_map, List.getElem?_modify]
  by_cases hj : n = j
  · subst hj; cases l[n]? <;> simp
  · cases l[j]? <;> simp [hj]
theorem map_modify_snd {α β γ : Type} {f : β → γ} {l : List (α × β)} {n : Nat} {v : β} : (l.modify n fun p => (p.1, v)).map (fun p => f p.2) = (l.map fun p => f p.2).set n (f v) := by
  refine List.ext_getElem? fun j => ?_
  simp only [List.getElem?_map, List.getElem?_modify, List.getElem?_set, List.length_map]
  by_cases hj : n = j
  · subst hj
    by_cases hi : n < l.length
    · simp [hi]
    · simp [hi]
  · cases l[j]? <;> simp [hj]
theorem RO_gval {b : Nat} {kt vt : Ty} {l : List (kt.C × vt.C)} {us : List (Value × Value)} (h1 : RL ρ (l.map fun p => kt.un p.1) (us.map (·.1))) (h2 : RL ρ (l.map fun p => vt.un p.2) (us.map (·.2))) {v : vt.C} {y : Value} {n : Nat} (hy : R ρ (vt.un v) y) :
    RO ρ b (.gmap (upG kt vt (l.modify n fun p => (p.1, v)))) (.map (entriesG (us.modify n fun p => (p.1, y))) us.length) := by
  have e1 : (l.modify n fun p => (p.1, v)).map (fun p => kt.un p.1) = l.map fun p => kt.un p.1 := by
    have := congrArg (List.map kt.un) (map_modify_fst (l := l) (n := n) (v := v))
    simpa only [List.map_map, Function.comp_def] using this
  have e2 := map_modify_snd (f := vt.un) (l := l) (n := n) (v := v)
  have e3 := map_modify_fst (l := us) (n := n) (v := y)
  have e4 := map_modify_snd (f := fun u : Value => u) (l := us) (n := n) (v := y)
  refine ⟨_, by rw [List.length_modify], ?_, ?_⟩
  · rw [e3]
    simp only [upG, List.map_map, Function.comp_def, e1]
    exact h1
  · rw [e4]
    simp only [upG, List.map_map, Function.comp_def, e2]
    exact RL_set h2 hy
theorem step_mapUpdate {o : Oper} (hr : Rel base ρ h w) (he : EnvOK ρ env a) {t : TypeId} {m x y : Operand} (ho : o.op = .mapUpdate t m x y)
    (hs : (match isMap P t with
    | some (kk, vk) => match ev env m, ev env x, ev env y with
      | .map r, .int kx n, .int ky v => guardO (kx = kk ∧ ky = vk) (match r with
        | none => none
        | some id => (h.imap id kk vk).bind fun es => k (.tuple []) (h.put id (.imap kk vk (setM n v es))))
      | _, _, _ => none
    | none => match isGMap P t, ev env m with
      | some (kt, vt, _), .map r => r.bind fun id => (kt.pack (ev env x)).bind fun key => (vt.pack (ev env y)).bind fun v => (setG h id kt vt key v).bind fun h' => k (.tuple []) h'
      | _, _ => none) = some res) (hg : Goes base ρ w k res o a next) : o.wpX ro P a w next Q := by
  split at hs
  · rename_i kk vk hty
    split at hs
    · rename_i r kx n ky v hm hx hy
      obtain ⟨⟨rfl, rfl⟩, hs⟩ := guardO_some hs
      cases r with
      | none => cases hs
      | some id =>
      simp only [Option.bind_eq_some_iff] at hs
      obtain ⟨es, hes, hs⟩ := hs
      obtain ⟨a', b', t1, t2, t3⟩ := isMap_of hty
      have h1 := he.ev m
      have h2 := he.ev x
      have h3 := he.ev y
      rw [hm] at h1
      rw [hx, R_int] at h2
      rw [hy, R_int] at h3
      obtain ⟨b, e1, e2, e3⟩ := map_obj hr (imap_of hes) h1
      obtain ⟨s1, s2⟩ := hr.setObj (s' := .imap kx ky (setM n v es)) (o' := .map (entriesM kx ky (setM n v es)) (setM n v es).length) (imap_of hes) rfl rfl e2 rfl
      refine wp_skipped (w' := w.putObj b (.map (entriesM kx ky (setM n v es)) (setM n v es).length)) ?_ (hg ρ _ _ undef _ (Ren.le.refl _) s1 s2 R_unit hs)
      have hobj : (getObj b).run P w = .ok (.map (entriesM kx ky es) es.length) w := by simp [getObj, Sem.run, e3]
      have hset : ∀ ob, (setObj b ob).run P w = .ok () (w.putObj b ob) := fun ob => by simp [setObj, Sem.run, e3, World.putObj]
      simp only [execOp, ho, Instr.mapUpdate, h2, h3, e1, Sem.run_bind, run_underlying t1, Result.andThen_ok, hobj, Sem.run_pure, run_checkKey_int t2, run_findKey_int t2]
      rw [setM_place]
      cases hp : placeM n es with
      | none =>
        simp only [Option.map_none, hset, Result.andThen_ok]
        rw [entriesM_push]
        simp
      | some i =>
        obtain ⟨u, hu⟩ := placeM_lt hp
        have hkey : ((entriesM kx ky es)[i]?.map (·.key)).getD (.int kx n) = .int kx n := by
          have : (entriesM kx ky es)[i]? = some (entryM kx ky ((n, u), i)) := by
            rw [← Array.getElem?_toList, entriesM_toList, List.getElem?_map, List.getElem?_zipIdx, hu]
            simp
          rw [this]; rfl
        simp only [Option.map_some, hkey, Instr.keyThatStays, Instr.sameBits, beq_self_eq_true, Bool.and_self, if_true, Sem.run_pure, Sem.run_bind, Result.andThen_ok, hset]
        rw [entriesM_set]
        simp
    · cases hs
  · split at hs
    · rename_i kt vt zv r hty hm
      simp only [Option.bind_eq_some_iff] at hs
      obtain ⟨id, rfl, key, hkey, v, hv, h', hp, hs⟩ := hs
      obtain ⟨a', b', z0, t1, hf, t2, t3, rfl⟩ := isGMap_of hty
      have h1 := he.ev m
      have h2 := key_of hkey hf (he.ev x)
      have h3 := he.ev y
      rw [← Ty.un_pack _ _ _ hv] at h3
      rw [hm] at h1
      unfold setG at hp
      simp only [Option.map_eq_some_iff] at hp
      obtain ⟨l, hl, rfl⟩ := hp
      obtain ⟨b, us, e1, e2, e3, e4, e5, e6⟩ := gmap_obj hr hf hl h1
      have hfind := run_findG hf key l us e4 w
      have hchk := run_checkG (P := P) hf false key w
      have hlen : us.length = l.length := by simpa using congrArg List.length e4
      unfold putG at hs
      rcases map_places e4 key with ⟨p1⟩ | ⟨i, u, p, p1, p2, p3, p4, p5⟩
      · rw [p1] at hfind hs
        simp only at hs
        obtain ⟨s1, s2⟩ := hr.setObj (s' := .gmap (upG kt vt (l ++ [(key, v)]))) (o' := .map (entriesG (us ++ [(kt.kval key, a.eval y)])) (us ++ [(kt.kval key, a.eval y)]).length) (gmap_of hl) rfl rfl e2 (RO_gpush e5 e6 (by rw [← h2, Ty.un_pack _ _ _ hkey]; exact he.ev x) h3)
        refine wp_skipped (w' := w.putObj b (.map (entriesG (us ++ [(kt.kval key, a.eval y)])) (us ++ [(kt.kval key, a.eval y)]).length)) ?_ (hg ρ _ _ undef _ (Ren.le.refl _) s1 s2 R_unit hs)
        simp only [execOp, ho, Instr.mapUpdate, h2, e1, Sem.run_bind, run_underlying t1, Result.andThen_ok, run_getMap e3, Sem.run_pure, hchk, hfind, Option.map_none, run_setMap e3]
        rw [entriesG_push]
        simp
      · rw [p1] at hfind hs
        simp only at hs
        have hx := he.ev x
        rw [h2] at hx
        obtain ⟨s1, s2⟩ := hr.setObj (s' := .gmap (upG kt vt (l.set i (key, v)))) (o' := .map (entriesG (us.set i (kt.kval key, a.eval y))) us.length) (gmap_of hl) rfl rfl e2 (RO_gset e5 e6 (by rw [Ty.un_pack _ _ _ hkey]; exact hx) h3)
        refine wp_skipped (w' := w.putObj b (.map (entriesG (us.set i (kt.kval key, a.eval y))) us.length)) ?_ (hg ρ _ _ undef _ (Ren.le.refl _) s1 s2 R_unit hs)
        have hold : ((entriesG us)[i]?.map (·.key)).getD (kt.kval key) = kt.kval key := by
          rw [entriesG_get, p3]
          simp [entryG, p4, ← keyEq_eq hf p5]
        have hmod : ∀ f : MapEntry → MapEntry, (∀ q, f (entryG q i) = entryG (kt.kval key, a.eval y) i) → (entriesG us).modify i f = entriesG (us.set i (kt.kval key, a.eval y)) := fun f hf => by
          rw [entriesG_modify (g := fun _ => (kt.kval key, a.eval y)) hf, modify_const]
        simp only [execOp, ho, Instr.mapUpdate, h2, e1, Sem.run_bind, run_underlying t1, Result.andThen_ok, run_getMap e3, Sem.run_pure, hchk, hfind, Option.map_some, hold, run_stays hf, run_setMap e3]
        rw [hmod _ (fun q => rfl)]
    · cases hs
theorem step_mapEntry {o : Oper} (hr : Rel base ρ h w) (he : EnvOK ρ env a) {t : TypeId} {m x : Operand} (ho : o.op = .mapEntry t m x)
    (hs : (match isMap P t with
    | some _ => none
    | none => match isGMap P t, ev env m with
      | some (kt, vt, zv), .map r => r.bind fun id => (kt.pack (ev env x)).bind fun key => (vt.pack zv).bind fun z => (entG h id kt vt z key).bind fun p => k (.tuple [vt.un p.1.1, .int .i64 p.1.2]) p.2
      | _, _ => none) = some res) (hg : Goes base ρ w k res o a next) : o.wpX ro P a w next Q := by
  split at hs
  · cases hs
  · split at hs
    · rename_i kt vt zv r hty hm
      simp only [Option.bind_eq_some_iff] at hs
      obtain ⟨id, rfl, key, hkey, z, hz, p, hp, hs⟩ := hs
      obtain ⟨a', b', z0, t1, hf, t2, t3, rfl⟩ := isGMap_of hty
      have h1 := he.ev m
      have h2 := key_of hkey hf (he.ev x)
      have hx := he.ev x
      rw [h2] at hx
      rw [hm] at h1
      unfold entG at hp
      simp only [Option.map_eq_some_iff] at hp
      obtain ⟨l, hl, rfl⟩ := hp
      obtain ⟨b, us, e1, e2, e3, e4, e5, e6⟩ := gmap_obj hr hf hl h1
      have hfind := run_findG hf key l us e4 w
      have hchk := run_checkG (P := P) hf false key w
      have hlen : us.length = l.length := by simpa using congrArg List.length e4
      have hRt : ∀ (v : V) (y : Value) (n : Int), R ρ v y → R ρ (.tuple [v, .int .i64 n]) (.tuple #[y, .int .i64 n]) := fun v y n hv => by
        simp only [R]
        exact ⟨[y, .int .i64 n], rfl, by simp only [RL]; exact ⟨_, _, rfl, hv, _, _, rfl, R_int.2 rfl, rfl⟩⟩
      rcases val_ok (a := a') (b := b') z0 z (Ty.un_pack _ _ _ hz) e4 e6 key with ⟨p1, p2, p3⟩ | ⟨i, u, p, p1, p2, p3, p4, p5, p6, p7⟩
      · rw [p1] at hfind hs
        simp only at hs
        obtain ⟨s1, s2⟩ := hr.setObj (s' := .gmap (upG kt vt (l ++ [(key, z)]))) (o' := .map (entriesG (us ++ [(kt.kval key, z0)])) (us ++ [(kt.kval key, z0)]).length) (gmap_of hl) rfl rfl e2 (RO_gpush e5 e6 (by rw [Ty.un_pack _ _ _ hkey]; exact hx) p3)
        refine wp_value (val := .tuple #[z0, .int .i64 (us.length : Int)]) (w' := w.putObj b (.map (entriesG (us ++ [(kt.kval key, z0)])) (us ++ [(kt.kval key, z0)]).length)) ?_ (hg ρ _ _ _ _ (Ren.le.refl _) s1 s2 (hRt _ _ _ p3) (by rw [hlen]; exact hs))
        simp only [execOp, ho, Instr.mapEntry, h2, e1, Sem.run_bind, run_underlying t1, Result.andThen_ok, run_getMap e3, Sem.run_pure, hchk, hfind, Option.map_none, run_zero t3, run_setMap e3]
        rw [entriesG_push]
        simp [goInt]
      · rw [p1] at hfind hs
        simp only [p2, Option.map_some, Option.getD_some] at hs
        have hold : ((entriesG us)[i]?.map (·.key)).getD (kt.kval key) = kt.kval key := by
          rw [entriesG_get, p3]
          simp [entryG, p4, ← keyEq_eq hf p5]
        have hmod : ∀ f : MapEntry → MapEntry, (∀ q, f (entryG q i) = entryG (kt.kval key, q.2) i) → (entriesG us).modify i f = entriesG us := fun f hf' => by
          rw [entriesG_modify (g := fun q => (kt.kval key, q.2)) hf', modify_same p3 (by obtain ⟨u1, u2⟩ := u; simp only at p4; rw [p4, ← keyEq_eq hf p5])]
        have hsame : w.putObj b (.map (entriesG us) us.length) = w := putObj_same e3
        refine wp_value (val := .tuple #[u.2, .int .i64 (i : Int)]) (w' := w) ?_ (hg.same hr (hRt _ _ _ p7) hs)
        simp only [execOp, ho, Instr.mapEntry, h2, e1, Sem.run_bind, run_underlying t1, Result.andThen_ok, run_getMap e3, Sem.run_pure, hchk, hfind, Option.map_some, hold, run_stays hf, run_setMap e3]
        rw [hmod _ (fun q => rfl), hsame, entriesG_get, p3]
        simp [goInt, entryG]
    · cases hs
theorem step_entryStore {o : Oper} (hr : Rel base ρ h w) (he : EnvOK ρ env a) {t : TypeId} {m i y : Operand} (ho : o.op = .entryStore t m i y)
    (hs : (match isMap P t with
    | some _ => none
    | none => match isGMap P t, ev env m, ev env i with
      | some (kt, vt, _), .map r, .int .i64 i => r.bind fun id => (vt.pack (ev env y)).bind fun v => (atG h id kt vt i v).bind fun h' => k (.tuple []) h'
      | _, _, _ => none) = some res) (hg : Goes base ρ w k res o a next) : o.wpX ro P a w next Q := by
  split at hs
  · cases hs
  · split at hs
    · rename_i kt vt zv r j hty hm hi
      simp only [Option.bind_eq_some_iff] at hs
      obtain ⟨id, rfl, v, hv, h', hp, hs⟩ := hs
      obtain ⟨a', b', z0, t1, hf, t2, t3, rfl⟩ := isGMap_of hty
      have h1 := he.ev m
      have h2 := he.ev i
      have h3 := he.ev y
      rw [← Ty.un_pack _ _ _ hv] at h3
      rw [hm] at h1
      rw [hi, R_int] at h2
      unfold atG at hp
      simp only [Option.bind_eq_some_iff] at hp
      obtain ⟨l, hl, hp⟩ := hp
      obtain ⟨⟨g1, g2⟩, hp⟩ := guardO_some hp
      cases hp
      obtain ⟨b, us, e1, e2, e3, e4, e5, e6⟩ := gmap_obj hr hf hl h1
      have hlen : us.length = l.length := by simpa using congrArg List.length e4
      obtain ⟨n, rfl⟩ : ∃ n : Nat, j = n := ⟨j.toNat, by omega⟩
      simp only [Int.toNat_natCast] at hs
      have hn : n < us.length := by omega
      have hfi : (entriesG us).findIdx? (fun e => (e.born : Int) == (n : Int)) = some n := findIdx_born hn
      have hro : RO ρ b (.gmap (upG kt vt (l.modify n fun p => (p.1, v)))) (.map (entriesG (us.modify n fun p => (p.1, a.eval y))) us.length) := RO_gval e5 e6 h3
      obtain ⟨s1, s2⟩ := hr.setObj (s' := .gmap (upG kt vt (l.modify n fun p => (p.1, v)))) (o' := .map (entriesG (us.modify n fun p => (p.1, a.eval y))) us.length) (gmap_of hl) rfl rfl e2 hro
      refine wp_skipped (w' := w.putObj b (.map (entriesG (us.modify n fun p => (p.1, a.eval y))) us.length)) ?_ (hg ρ _ _ undef _ (Ren.le.refl _) s1 s2 R_unit hs)
      have hmod : ∀ f : MapEntry → MapEntry, (∀ q, f (entryG q n) = entryG (q.1, a.eval y) n) → (entriesG us).modify n f = entriesG (us.modify n fun p => (p.1, a.eval y)) := fun f hf' => entriesG_modify hf'
      have hasi : (asInt (.int .i64 (n : Int)) : Sem Int).run P w = .ok (n : Int) w := by simp [asInt, asIntOf]
      simp only [execOp, ho, Instr.entryStore, h2, e1, hasi, Sem.run_bind, Result.andThen_ok, run_getMap e3, Sem.run_pure, hfi, run_setMap e3]
      rw [hmod _ (fun q => rfl)]
    · cases hs
/-! #### Ranges over maps -/
theorem step_range {o : Oper} (hr : Rel base ρ h w) (he : EnvOK ρ env a) {t : TypeId} {m : Operand} (ho : o.op = .range t m)
    (hs : (match isMap P t with
    | some _ => none
    | none => match isGMap P t, ev env m with
      | some (kt, vt, _), .map r => r.bind fun id => (h.gmap id kt vt).bind fun l => k (.hp h.next 0 0) (h.newS (.miter id l.length []))
      | _, _ => none) = some res) (hg : Goes base ρ w k res o a next) : o.wpX ro P a w next Q := by
  split at hs
  · cases hs
  · split at hs
    · rename_i kt vt zv r hty hm
      simp only [Option.bind_eq_some_iff] at hs
      obtain ⟨id, rfl, l, hl, hs⟩ := hs
      obtain ⟨a', b', z0, t1, hf, t2, t3, rfl⟩ := isGMap_of hty
      have h1 := he.ev m
      rw [hm] at h1
      obtain ⟨b, us, e1, e2, e3, e4, e5, e6⟩ := gmap_obj hr hf hl h1
      have hlen : us.length = l.length := by simpa using congrArg List.length e4
      have hne : id ≠ h.next := fun e => by
        have := gmap_of hl
        rw [e, hr.top h.next (Nat.le_refl _)] at this
        cases this
      obtain ⟨le, rel⟩ := hr.newObj (s := .miter id l.length []) rfl none (o := .mapIter (some b) us.length #[] us.length) (by
        simp only [RO]
        refine ⟨b, ?_, by rw [hlen]⟩
        rw [Ren.with_other (fun e => hne e.1)]
        exact e2)
      refine wp_value (val := .pointer (some ⟨w.heap.size, 0, none⟩)) (w' := w.alloc (.mapIter (some b) us.length #[] us.length)) ?_ (hg _ _ _ _ _ le rel ((Below.refl base w).alloc hr.hb _) ?_ hs)
      · simp only [execOp, ho, Instr.range, e1, Sem.run_bind, run_underlying t1, Result.andThen_ok, run_getMap e3, Sem.run_pure, run_newObj_alloc]
      · simp only [R]
        exact ⟨_, _, Ren.with_same _ _ _, rfl⟩
    · cases hs
theorem step_entry {o : Oper} (hr : Rel base ρ h w) (he : EnvOK ρ env a) {x : Operand} (ho : o.op = .entry x)
    (hs : (match o.dst with
    | some d => match getE d A.ents with
      | some (kt, vt) => (curG h (ev env x) kt vt).bind fun p => k (.tuple [kt.un p.1, vt.un p.2]) h
      | none => none
    | none => none) = some res) (hg : Goes base ρ w k res o a next) : o.wpX ro P a w next Q := by
  split at hs
  · split at hs
    · rename_i kt vt _
      simp only [Option.bind_eq_some_iff] at hs
      obtain ⟨p, hp, hs⟩ := hs
      unfold curG at hp
      have hx := he.ev x
      split at hp
      · rename_i iid hxe
        rw [hxe] at hx
        split at hp
        · rename_i mid n seen hit
          simp only [Option.bind_eq_some_iff] at hp
          obtain ⟨i, hi, l, hl, hp⟩ := hp
          obtain ⟨hn, hp⟩ := guardO_some hp
          simp only [R] at hx
          obtain ⟨bi, xi, q1, q2⟩ := hx
          obtain ⟨bi', oi, j1, j2, j3, j4⟩ := hr.objs.obj _ _ hit rfl
          rw [j1] at q1
          cases q1
          simp only [RO] at j4
          obtain ⟨bm, m1, rfl⟩ := j4
          obtain ⟨bm', om, k1, k2, k3, k4⟩ := hr.objs.obj _ _ (gmap_of hl) rfl
          obtain rfl : bm' = bm := by rw [k1] at m1; exact (Prod.mk.inj (Option.some.inj m1)).1
          simp only [RO, upG, List.map_map] at k4
          obtain ⟨us, rfl, r1, r2⟩ := k4
          have hlen : us.length = l.length := by have := r1.length; simpa using this.symm
          have hi2 : i < us.length := by rw [hlen]; exact (List.getElem?_eq_some_iff.1 hp).1
          have hn : us.length = n := by rw [hlen, hn]
          · have hsee : seen.toArray = (seen.dropLast.toArray).push i := by
              obtain ⟨s, rfl⟩ := List.getLast?_eq_some_iff.1 hi
              simp
            have hmem : entryG us[i] i ∈ (entriesG us).toList := by
              rw [entriesG_toList]
              exact List.mem_map.2 ⟨(us[i], i), List.mem_zipIdx_iff_getElem?.2 (by simp [hi2]), rfl⟩
            have hborn : ((entriesG us).toList.map (·.born)).Nodup := by
              rw [entriesG_toList, List.map_map]
              have : ((fun x : MapEntry => x.born) ∘ fun p : (Value × Value) × Nat => entryG p.1 p.2) = Prod.snd := rfl
              rw [this]
              simp [List.zipIdx_eq_zip_range', List.map_snd_zip, List.nodup_range']
            have hrun := run_entry_at (P := P) w bi bm' n seen.dropLast.toArray (entriesG us) us.length (entryG us[i] i) (by rw [j3, hsee, hn]; rfl) k3 hmem hborn
            refine wp_value (val := .tuple #[us[i].1, us[i].2]) (w' := w) ?_ (hg.same hr ?_ hs)
            · simp only [execOp, ho, q2, Sem.run_bind, hrun, Result.andThen_ok, Sem.run_pure]
              rfl
            · simp only [R]
              refine ⟨[us[i].1, us[i].2], rfl, ?_⟩
              simp only [RL]
              refine ⟨_, _, rfl, (RL_iff.1 r1).2 i _ _ (by rw [List.getElem?_map, hp]; rfl) (by rw [List.getElem?_map, List.getElem?_eq_getElem hi2]; rfl), _, _, rfl, (RL_iff.1 r2).2 i _ _ (by rw [List.getElem?_map, hp]; rfl) (by rw [List.getElem?_map, List.getElem?_eq_getElem hi2]; rfl), rfl⟩
        · cases hp
      · cases hp
    · cases hs
  · cases hs
theorem stepOp_sound {o : Oper} (hT : TabW P T) (hY : YOK P base ρ T.dy.yl) (hr : Rel base ρ h w) (he : EnvOK ρ env a) {at_ : Option Nat} (hat : ∀ i, at_ = some i → h.m i = .fresh ∧ i < h.next)
    (hs : stepOp P T A o at_ env h k = some res) (hg : Goes base ρ w k res o a next) : o.wpX ro P a w next Q := by
  unfold stepOp at hs
  split at hs
  · rename_i x ho; exact step_move hr he (.inl ho) hs hg
  · rename_i x ho; exact step_move hr he (.inr ho) hs hg
  · rename_i c x y ho; exact step_pick hr he ho hs hg
  · rename_i e ho; exact step_alloc hr hat ho hs hg
  · rename_i e x ho; exact step_box hr he hat ho hs hg
  · rename_i t ps ho; exact step_build hr he ho hs hg
  · rename_i t n ps ho; exact step_buildSlice hr he hat ho hs hg
  · rename_i t x ho; exact step_load hr he ho hs hg
  · rename_i t x y ho; exact step_store hr he ho hs hg
  · rename_i x ho; exact step_nilCheck hr he ho hs hg
  · rename_i op t x y t' ho; exact step_binOp hr he ho hs hg
  · rename_i op t x ho; exact step_unOp hr he ho hs hg
  · rename_i src dst x ho; exact step_convert hr he ho hs hg
  · rename_i f first cs ho
    split at hs
    · rename_i hf
      have hf' : first = #[] := by apply Array.ext'; simpa using hf
      subst hf'
      exact step_makeFunc hr he ho hs hg
    · cases hs
  · rename_i t l c ho; exact step_makeSlice hr he hat ho hs hg
  · rename_i t x lo hi mx ho; exact step_slice hr he ho hs hg
  · rename_i t x f ho; exact step_fieldAddr hr he ho hs hg
  · rename_i t x f ho; exact step_field hr he ho hs hg
  · rename_i t x y ho; exact step_indexAddr hr he ho hs hg
  · rename_i t x y ho; exact step_index hr he ho hs hg
  · rename_i x i ho; exact step_extract hr he ho hs hg
  · rename_i t r ho; exact step_makeMap hr hs ho hg
  · rename_i t m x c ho; exact step_lookup hr he hs ho hg
  · rename_i t m x y ho; exact step_mapUpdate hr he ho hs hg
  · rename_i t m x ho; exact step_mapEntry hr he ho hs hg
  · rename_i t m i y ho; exact step_entryStore hr he ho hs hg
  · rename_i t m ho; exact step_range hr he ho hs hg
  · rename_i x ho; exact step_entry hr he ho hs hg
  · rename_i c ho
    obtain ⟨callee, args, ts⟩ := c
    cases callee with
    | value f => exact step_call hT hY hr he ho hs hg
    | builtin b => exact step_builtin hr he hat ho hs hg
    | invoke _ _ => cases hs
  · cases hs
end step
end Go.Proofs.YtjkjcnadgpndoaaGreat.Ev
