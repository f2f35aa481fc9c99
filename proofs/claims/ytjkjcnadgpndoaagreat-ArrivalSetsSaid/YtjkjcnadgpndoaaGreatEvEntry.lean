/- Whole functions as entries of a table. Conditions: 'TabOK'; the program follows no compiler in mixed orders. -/
import Derived.Test.YtjkjcnadgpndoaaGreatEvFun
import Derived.Laws.Externs
namespace Go.Proofs.YtjkjcnadgpndoaaGreat.Ev
open Go Go.RowKit
set_option linter.unusedVariables false
set_option linter.unusedSimpArgs false

section fn
variable {P : Program} {T : Table} {A : Ann} {fn : Func} {rs : Res}
theorem setL_range {us : List Value} {ρ : Ren} : ∀ (args : List V) (n : Nat), ∀ t v, (setL (List.range' n args.length) args fun _ => V.undef) t = v → (v = .undef ∨ ∃ i, t = n + i ∧ args[i]? = some v)
  | [], n, t, v, h => .inl (by simpa [setL] using h.symm)
  | x :: args, n, t, v, h => by
    simp only [List.length_cons, List.range'_succ, setL, Env.set] at h
    by_cases ht : t = n
    · subst ht
      simp at h
      exact .inr ⟨0, rfl, by simp [h]⟩
    · simp only [beq_ne ht, cond_false] at h
      rcases setL_range (us := us) (ρ := ρ) args (n + 1) t v h with h | ⟨i, h1, h2⟩
      · exact .inl h
      · exact .inr ⟨i + 1, by omega, by simpa using h2⟩
/-- The marks are taken, one after the other. -/
theorem leaves_marks {f : FuncId} (hf : P.funcs[f]? = some fn) {base : Nat} {lo : Nat → Prop} {h : H} {tmps : Array Value} {val : Value} {R' : Ending → World → Prop} {w1 : World} (hres : ∀ w2, SameC w1 w2 → (results fn tmps).run P w2 = .ok val w2) :
    ∀ (Ds : List Nat) (ρ : Ren) (w : World), Rel base ρ h w → SameC w1 w → Ds.Nodup → (∀ D ∈ Ds, base ≤ D ∧ ρ.df D ∧ ¬ lo D) → (∀ D, lo D → ρ.df D) →
      (∀ ρ' w', ρ.le0 ρ' → (∀ b K, ρ.lp b = some K → ρ'.lp b = some K) → (∀ D, lo D → ρ'.df D) → Rel base ρ' h w' → Below base w w' → SameC w1 w' → R' (.returned val) w') →
      LeavesInM Fence.wide 0 P fn tmps R' (Ds.map fun D => { target := .collected D, args := #[] }) .returning w
  | [], ρ, w, hr, hs, _, _, hlo, hk => ⟨val, hres w hs, hk ρ w ⟨fun _ _ _ h => h, fun _ _ _ _ h => h⟩ (fun _ _ h => h) hlo hr (Below.refl _ _) hs⟩
  | D :: Ds, ρ, w, hr, hs, hn, hd, hlo, hk => by
    obtain ⟨d1, d2, d3⟩ := hd D (by simp)
    have hD := hr.objs.df D d2
    obtain ⟨r1, r2⟩ := hr.shutDef d1 d2
    have hn' := List.nodup_cons.1 hn
    refine ⟨by simp, .inl ⟨D, _, rfl, run_takeDeferred hD, ?_⟩⟩
    have hsame : SameC w1 (w.putObj D (.deferred none)) := fun b c t fr hb => by
      have := hs b c t fr hb
      by_cases he : b = D
      · subst he; rw [hD] at this; cases this
      · rw [World.putObj_heap_other he]; exact this
    refine leaves_marks (lo := lo) hf hres Ds _ _ r1 hsame hn'.2 (fun E hE => ?_) (fun E hE => ⟨fun e => by subst e; exact d3 hE, hlo E hE⟩) fun ρ' w' k1 k2 k3 k4 k5 k6 => hk ρ' w' ⟨fun id g x h => k1.1 id g x h, fun f b i us h => k1.2 f b i us h⟩ k2 k3 k4 (r2.trans k5) k6
    obtain ⟨e1, e2, e3⟩ := hd E (by simp [hE])
    exact ⟨e1, ⟨fun e => hn'.1 (e ▸ hE), e2⟩, e3⟩
theorem fn_calls (hT : TabW P T) (hm : P.follows .mixedOrders = true) {f : FuncId} (hf : P.funcs[f]? = some fn) {args : List V} {h h' : H} {r : rs.C}
    (he : evalFn P T A fn rs args h = some (r, h')) (hin : A.inr = false) : fn.body.isNone = false ∧ ∀ base ρ w us, YOK P base ρ T.dy.yl → Rel base ρ h w → RL ρ args us → Calls P f us.toArray w (Ret base ρ h' (rs.un r) w) := by
  unfold evalFn at he
  split at he
  · cases he
  · rename_i c hb
    cases hl : Nat.ble args.length fn.ntmps with
    | false => rw [hl] at he; simp at he
    | true =>
      rw [hl] at he
      simp only [Bool.not_true, cond_false] at he
      have hle : args.length ≤ fn.ntmps := by simpa using hl
      refine ⟨by rw [hb]; rfl, fun base ρ w us hyok hr hrl => ?_⟩
      have hlen := hrl.length
      refine callsIn_wide.1 (callsIn_of_wp_marks (F := Fence.wide) (n := 0) hf hb trivial (code_sound (base := base) (lo := ρ.df) hT hm c A none (fun _ => rfl) _ h _ (r, h') ρ _ w _ he ⟨hr, ?_, ?_, hyok, fun _ h => h, [], rfl, List.nodup_nil, fun _ h => by cases h⟩ ?_))
      · intro t
        rw [List.range_eq_range']
        rcases setL_range (us := us) (ρ := ρ) args 0 t _ rfl with h0 | ⟨i, h1, h2⟩
        · rw [h0]; simp [R]
        · simp only [Nat.zero_add] at h1
          subst h1
          generalize (setL (List.range' 0 args.length) args fun _ => V.undef) t = v at h2
          obtain ⟨u, hu, hru⟩ := hrl.at h2
          have hlt : t < us.length := (List.getElem?_eq_some_iff.1 hu).1
          have : (us.toArray ++ Array.replicate (fn.ntmps - us.toArray.size) undef).getD t undef = u := by
            rw [Array.getD_eq_getD_getElem?, Array.getElem?_append_left (by simpa using hlt)]
            simp [hu]
          rw [this]
          exact hru
      · simp; omega
      · intro e env' h2 ρ' a' w' g1 g2 g3 g4 g5 g6
        have fin : ∀ (v : V) (val : Value) (r' : rs.C), rs.pack v = some r' → r' = r → h2 = h' → R ρ' v val → (∀ w2, SameC w' w2 → (results fn a'.tmps).run P w2 = .ok val w2) → LeavesInM Fence.wide 0 P fn a'.tmps (Ret base ρ h' (rs.un r) w) a'.defers .returning w' := fun v val r' hr' e1 e2 hv hres => by
          subst e1 e2
          obtain ⟨hlo, Ds, hds, hnd, hall⟩ := g2.defers
          rw [hds]
          refine leaves_marks (lo := ρ.df) hf hres Ds ρ' w' g2.rel (fun _ _ _ _ h => h) hnd hall hlo fun ρ2 w2 k1 k2 k3 k4 k5 k6 => ?_
          refine ⟨ρ2, val, ⟨fun id g x hx => k1.1 _ _ _ (g1.1 _ _ _ hx), fun f b i us hx => k1.2 _ _ _ _ (g1.2.1 _ _ _ _ hx), k3, fun b K hx => k2 b K (g1.2.2.2 b K hx)⟩, k4, g3.trans k5, rfl, ?_⟩
          rw [Res.un_pack rs v r' hr']
          exact R_mono0 k1 _ _ hv
        cases e with
        | exit id => simp at g5
        | normal =>
          obtain ⟨v, val, k1, k2, k3⟩ := theResult_ok (P := P) g2.rel g2.env g5
          simp only [Option.bind_eq_some_iff, Option.some.injEq, Prod.mk.injEq] at k1
          obtain ⟨r', hr', e1, e2⟩ := k1
          exact fin v val r' hr' e1 e2 k2 k3
        | ret v =>
          simp only [Option.bind_eq_some_iff, Option.some.injEq, Prod.mk.injEq] at g5
          obtain ⟨r', hr', e1, e2⟩ := g5
          obtain ⟨val, k3, k2⟩ := g6
          exact fin v val r' hr' e1 e2 k2 k3
theorem fn_callsK (hT : TabW P T) (hm : P.follows .mixedOrders = true) {f : FuncId} (hf : P.funcs[f]? = some fn) {args : List V} {h : H} {α : Type} {k : rs.C → H → Option α} {res : α}
    (he : evalFnK P T A fn rs args h k = some res) (hin : A.inr = false) : fn.body.isNone = false ∧ ∀ base ρ w us, YOK P base ρ T.dy.yl → Rel base ρ h w → RL ρ args us → Calls P f us.toArray w (fun e w' => ∃ r h', k r h' = some res ∧ Ret base ρ h' (rs.un r) w e w') := by
  unfold evalFnK at he
  split at he
  · cases he
  · rename_i c hb
    cases hl : Nat.ble args.length fn.ntmps with
    | false => rw [hl] at he; simp at he
    | true =>
      rw [hl] at he
      simp only [Bool.not_true, cond_false] at he
      have hle : args.length ≤ fn.ntmps := by simpa using hl
      refine ⟨by rw [hb]; rfl, fun base ρ w us hyok hr hrl => ?_⟩
      have hlen := hrl.length
      refine callsIn_wide.1 (callsIn_of_wp_marks (F := Fence.wide) (n := 0) hf hb trivial (code_sound (base := base) (lo := ρ.df) hT hm c A none (fun _ => rfl) _ h _ res ρ _ w _ he ⟨hr, ?_, ?_, hyok, fun _ h => h, [], rfl, List.nodup_nil, fun _ h => by cases h⟩ ?_))
      · intro t
        rw [List.range_eq_range']
        rcases setL_range (us := us) (ρ := ρ) args 0 t _ rfl with h0 | ⟨i, h1, h2⟩
        · rw [h0]; simp [R]
        · simp only [Nat.zero_add] at h1
          subst h1
          generalize (setL (List.range' 0 args.length) args fun _ => V.undef) t = v at h2
          obtain ⟨u, hu, hru⟩ := hrl.at h2
          have hlt : t < us.length := (List.getElem?_eq_some_iff.1 hu).1
          have : (us.toArray ++ Array.replicate (fn.ntmps - us.toArray.size) undef).getD t undef = u := by
            rw [Array.getD_eq_getD_getElem?, Array.getElem?_append_left (by simpa using hlt)]
            simp [hu]
          rw [this]
          exact hru
      · simp; omega
      · intro e env' h2 ρ' a' w' g1 g2 g3 g4 g5 g6
        have fin : ∀ (v : V) (val : Value) (r' : rs.C), rs.pack v = some r' → k r' h2 = some res → R ρ' v val → (∀ w2, SameC w' w2 → (results fn a'.tmps).run P w2 = .ok val w2) → LeavesInM Fence.wide 0 P fn a'.tmps (fun e w' => ∃ r h', k r h' = some res ∧ Ret base ρ h' (rs.un r) w e w') a'.defers .returning w' := fun v val r' hr' e1 hv hres => by
          obtain ⟨hlo, Ds, hds, hnd, hall⟩ := g2.defers
          rw [hds]
          refine leaves_marks (lo := ρ.df) hf hres Ds ρ' w' g2.rel (fun _ _ _ _ h => h) hnd hall hlo fun ρ2 w2 k1 k2 k3 k4 k5 k6 => ?_
          refine ⟨r', h2, e1, ρ2, val, ⟨fun id g x hx => k1.1 _ _ _ (g1.1 _ _ _ hx), fun f b i us hx => k1.2 _ _ _ _ (g1.2.1 _ _ _ _ hx), k3, fun b K hx => k2 b K (g1.2.2.2 b K hx)⟩, k4, g3.trans k5, rfl, ?_⟩
          rw [Res.un_pack rs v r' hr']
          exact R_mono0 k1 _ _ hv
        cases e with
        | exit id => simp at g5
        | normal =>
          obtain ⟨v, val, k1, k2, k3⟩ := theResult_ok (P := P) g2.rel g2.env g5
          simp only [Option.bind_eq_some_iff] at k1
          obtain ⟨r', hr', e1⟩ := k1
          exact fin v val r' hr' e1 k2 k3
        | ret v =>
          simp only [Option.bind_eq_some_iff] at g5
          obtain ⟨r', hr', e1⟩ := g5
          obtain ⟨val, k3, k2⟩ := g6
          exact fin v val r' hr' e1 k2 k3
theorem fn_sound (hT : TabOK P T) (hm : P.follows .mixedOrders = true) {f : FuncId} (hf : P.funcs[f]? = some fn) (hn : (fn.name == "runtime.NumGoroutine") = false) {args : List V} {h h' : H} {r : rs.C}
    (he : evalFn P T A fn rs args h = some (r, h')) (hin : A.inr = false) : CallOK P f args h (rs.un r) h' := fun base ρ w us hr hrl =>
  have := fn_calls hT.1 hm hf he hin
  .inl ⟨run_callFunc hf this.1 hn _ w, this.2 base ρ w us (hT.2 _ _) hr hrl⟩
/-- A function that is ranged over. -/
theorem mkIt_ok {T : Entry → Table} (hT : ∀ Y, Natl Y → TabW P (T Y)) (hyl : ∀ Y, (T Y).dy.yl = Y) (hm : P.follows .mixedOrders = true) {f : FuncId} (hf : P.funcs[f]? = some fn) (hn : (fn.name == "runtime.NumGoroutine") = false) {ts : List Ty} {g : Entry → TT ts → H → Option (rs.C × H)}
    (he : ∀ Y x h, evalFn P (T Y) A fn rs (TT.un ts x) h = g Y x h) (hin : A.inr = false) : ItOK P f fun Y => mkX ts rs (g Y) := by
  intro Y hY
  refine fun base ρ0 hyok args h α k res hv ρ w us hle hr hrl => ?_
  simp only [mkX, Option.bind_eq_some_iff] at hv
  obtain ⟨x, hx, ⟨r, h2⟩, hg, hk⟩ := hv
  rw [← TT.un_pack ts args x hx] at hrl
  have := fn_calls (hT Y hY) hm hf (by rw [he]; exact hg) hin
  exact ⟨run_callFunc hf this.1 hn _ w, Calls.mono (this.2 base ρ w us (by rw [hyl]; exact hyok.mono hle) hr hrl) fun e w' hret => ⟨_, _, hk, hret⟩⟩
/-- A function that is ranged over, whose ranges over maps come in any order. -/
def mkXK (ts : List Ty) (rs : Res) (f : TT ts → H → {R : Type} → (rs.C → H → Option R) → Option R) : Entry :=
  { quiet := false, cps := fun args h _ k => (TT.pack ts args).bind fun x => f x h fun r h' => k (rs.un r) h' }
theorem mkItK_ok {T : Entry → Table} (hT : ∀ Y, Natl Y → TabW P (T Y)) (hyl : ∀ Y, (T Y).dy.yl = Y) (hm : P.follows .mixedOrders = true) {f : FuncId} (hf : P.funcs[f]? = some fn) (hn : (fn.name == "runtime.NumGoroutine") = false) {ts : List Ty} {g : Entry → TT ts → H → {R : Type} → (rs.C → H → Option R) → Option R}
    (he : ∀ Y x h (R : Type) (k : rs.C → H → Option R), evalFnK P (T Y) A fn rs (TT.un ts x) h k = g Y x h k) (hin : A.inr = false) : ItOK P f fun Y => mkXK ts rs (g Y) := by
  intro Y hY
  refine fun base ρ0 hyok args h α k res hv ρ w us hle hr hrl => ?_
  simp only [mkXK, Option.bind_eq_some_iff] at hv
  obtain ⟨x, hx, hg⟩ := hv
  rw [← TT.un_pack ts args x hx] at hrl
  rw [← he] at hg
  have := fn_callsK (hT Y hY) hm hf hg hin
  exact ⟨run_callFunc hf this.1 hn _ w, Calls.mono (this.2 base ρ w us (by rw [hyl]; exact hyok.mono hle) hr hrl) fun e w' ⟨r, h', h1, h2⟩ => ⟨_, _, h1, h2⟩⟩
/-- A function that works on the heap. -/
theorem mkX_ok (hT : TabOK P T) (hm : P.follows .mixedOrders = true) {f : FuncId} (hf : P.funcs[f]? = some fn) (hn : (fn.name == "runtime.NumGoroutine") = false) {ts : List Ty} {g : TT ts → H → Option (rs.C × H)}
    (he : ∀ x h, evalFn P T A fn rs (TT.un ts x) h = g x h) (hin : A.inr = false := by rfl) : EntryOK P f (mkX ts rs g) := by
  intro args h
  refine ⟨⟨(TT.pack ts args).bind fun x => (g x h).bind fun p => some (rs.un p.1, p.2), fun α k => ?_⟩, fun v h' hv => ⟨fun hq => (by cases hq), ?_⟩⟩
  · simp [mkX, Option.bind_assoc]
  · simp only [mkX, Option.bind_eq_some_iff, Option.some.injEq, Prod.mk.injEq] at hv
    obtain ⟨x, hx, ⟨r, h2⟩, hg, rfl, rfl⟩ := hv
    rw [← TT.un_pack ts args x hx]
    exact fn_sound hT hm hf hn (by rw [he]; exact hg) hin
/-- A function of which a part is printed. -/
theorem mkX_okI (hT : TabOK P T) (hm : P.follows .mixedOrders = true) {f : FuncId} (hf : P.funcs[f]? = some fn) (hn : (fn.name == "runtime.NumGoroutine") = false) {ts : List Ty} {g : TT ts → H → Option (rs.C × H)}
    (he : ∀ x h r, g x h = some r → evalFn P T A fn rs (TT.un ts x) h = some r) (hin : A.inr = false := by rfl) : EntryOK P f (mkX ts rs g) := by
  intro args h
  refine ⟨⟨(TT.pack ts args).bind fun x => (g x h).bind fun p => some (rs.un p.1, p.2), fun α k => ?_⟩, fun v h' hv => ⟨fun hq => (by cases hq), ?_⟩⟩
  · simp [mkX, Option.bind_assoc]
  · simp only [mkX, Option.bind_eq_some_iff, Option.some.injEq, Prod.mk.injEq] at hv
    obtain ⟨x, hx, ⟨r, h2⟩, hg, rfl, rfl⟩ := hv
    rw [← TT.un_pack ts args x hx]
    exact fn_sound hT hm hf hn (he _ _ _ hg) hin
/-- A function that leaves the heap as it is. -/
theorem mkQ_ok (hT : TabOK P T) (hm : P.follows .mixedOrders = true) {f : FuncId} (hf : P.funcs[f]? = some fn) (hn : (fn.name == "runtime.NumGoroutine") = false) {ts : List Ty} {g : TT ts → Option rs.C}
    (he : ∀ x h, evalFn P T A fn rs (TT.un ts x) h = (g x).bind fun p => some (p, h)) (hin : A.inr = false := by rfl) : EntryOK P f (mkQ ts rs g) := by
  intro args h
  refine ⟨⟨(TT.pack ts args).bind fun x => (g x).bind fun p => some (rs.un p, h), fun α k => ?_⟩, fun v h' hv => ?_⟩
  · simp [mkQ, Option.bind_assoc]
  · simp only [mkQ, Option.bind_eq_some_iff, Option.some.injEq, Prod.mk.injEq] at hv
    obtain ⟨x, hx, r, hg, rfl, rfl⟩ := hv
    refine ⟨fun _ => rfl, ?_⟩
    rw [← TT.un_pack ts args x hx]
    exact fn_sound hT hm hf hn (by rw [he, hg]; rfl) hin
theorem mkR_ok (hT : TabOK P T) (hm : P.follows .mixedOrders = true) {f : FuncId} (hf : P.funcs[f]? = some fn) (hn : (fn.name == "runtime.NumGoroutine") = false) {ts : List Ty} {g : TT ts → H → Option rs.C}
    (he : ∀ x h, evalFn P T A fn rs (TT.un ts x) h = (g x h).bind fun p => some (p, h)) (hin : A.inr = false := by rfl) : EntryOK P f (mkR ts rs g) := by
  intro args h
  refine ⟨⟨(TT.pack ts args).bind fun x => (g x h).bind fun p => some (rs.un p, h), fun α k => ?_⟩, fun v h' hv => ?_⟩
  · simp [mkR, Option.bind_assoc]
  · simp only [mkR, Option.bind_eq_some_iff, Option.some.injEq, Prod.mk.injEq] at hv
    obtain ⟨x, hx, r, hg, rfl, rfl⟩ := hv
    refine ⟨fun _ => rfl, ?_⟩
    rw [← TT.un_pack ts args x hx]
    exact fn_sound hT hm hf hn (by rw [he, hg]; rfl) hin
/-- A function that is not called so deep. -/
theorem mkX_none {f : FuncId} {ts : List Ty} {rs : Res} : EntryOK P f (mkX ts rs fun _ _ => none) := by
  intro args h
  refine ⟨⟨none, fun α k => ?_⟩, fun v h' hv => ?_⟩
  · cases hx : TT.pack ts args <;> simp [mkX, hx]
  · cases hx : TT.pack ts args <;> simp [mkX, hx] at hv
end fn

/-! ### Functions on rows -/

section rows
theorem mapO_iff {α β : Type} {f : α → Option β} : ∀ {vs : List α} {ds : List β}, mapO f vs = some ds ↔ vs.length = ds.length ∧ ∀ (i : Nat) v d, vs[i]? = some v → ds[i]? = some d → f v = some d := by
  intro vs
  induction vs with
  | nil => intro ds; cases ds <;> simp [mapO]
  | cons v vs ih =>
    intro ds
    simp only [mapO, Option.bind_eq_some_iff, Option.some.injEq]
    cases ds with
    | nil => simp
    | cons d ds =>
      simp only [List.cons.injEq, List.length_cons, Nat.add_right_cancel_iff]
      constructor
      · rintro ⟨x, hx, xs, hxs, rfl, rfl⟩
        obtain ⟨h1, h2⟩ := ih.1 hxs
        refine ⟨h1, fun i => ?_⟩
        cases i with
        | zero => intro a b e1 e2; simp at e1 e2; subst e1; subst e2; exact hx
        | succ i => intro a b e1 e2; simp at e1 e2; exact h2 i _ _ e1 e2
      · rintro ⟨h1, h2⟩
        exact ⟨d, h2 0 _ _ rfl rfl, ds, ih.2 ⟨h1, fun i a b e1 e2 => h2 (i + 1) a b (by simpa using e1) (by simpa using e2)⟩, rfl, rfl⟩
/-- The rows that a reading of the heap lays down. -/
def FzOf (lp : Bool) (ρ : Ren) (h : H) (w : World) (f : Bool) (b i : Nat) (us : List Value) : Prop :=
  f = (!lp) ∧ ((∃ f' i' us', (lp || f') = true ∧ ρ.fz f' b i' us' ∧ i' ≤ i ∧ ∀ (j : Nat) u, us[j]? = some u → us'[i - i' + j]? = some u) ∨
    ∃ id cs e x c t, h.m id = .own cs e ∧ ρ.map id cs.length = some (b, x) ∧ w.heap[b]? = some (.cells c t (0, 0)) ∧ ∀ (j : Nat) u, us[j]? = some u → c[i + j]? = some u)
def Ren.rows (lp : Bool) (ρ : Ren) (h : H) (w : World) : Ren := ⟨fun _ _ => none, FzOf lp ρ h w, fun _ => False, fun _ => none⟩
variable {base : Nat} {ρ : Ren} {h : H} {w : World} {lp : Bool} {α : Type}
/-- A reading of the heap, and the row that it lays down. -/
theorem from_rows (hr : Rel base ρ h w) {a : V} {cs : List V} (hf : h.from a = some cs) (hre : a.readable lp = true) {p : Addr} (ha : R ρ a (.pointer (some p))) :
    ∃ b o us, p = ⟨b, o, none⟩ ∧ RC ρ cs us ∧ (cs = [] ∨ ∀ n, FzOf lp ρ h w (!lp) b o (us.take n)) := by
  cases a <;> simp only [H.from, reduceCtorEq] at hf
  case lp fl cs0 off =>
    simp only [Option.some.injEq] at hf
    subst hf
    simp only [R] at ha
    rcases ha with ⟨_, hx⟩ | ⟨b, i, us, h1, h2, hx⟩
    · cases hx
    cases hx
    refine ⟨b, i + off, us.drop off, rfl, h2.drop off, ?_⟩
    rcases h1 with rfl | h1
    · exact .inl (by simp)
    · refine .inr fun n => ⟨rfl, .inl ⟨fl, i, us, hre, h1, by omega, fun j u hu => ?_⟩⟩
      rw [List.getElem?_take] at hu
      split at hu
      · rw [List.getElem?_drop] at hu
        rw [show i + off - i + j = off + j by omega]
        exact hu
      · cases hu
  case hp id gen off =>
    split at hf
    · rename_i cs0 e hm
      split at hf
      · rename_i hg
        simp only [Option.some.injEq] at hf
        subst hf
        simp only [R] at ha
        obtain ⟨b, x, h1, hx⟩ := ha
        cases hx
        obtain ⟨b', x', c, t, k1, k2, k3, k4, k5⟩ := hr.own id cs0 e hm
        rw [hg, h1] at k1; cases k1
        refine ⟨b, off, (c.toList.take cs0.length).drop off, rfl, k5.drop off, .inr fun n => ⟨rfl, .inr ⟨id, cs0, e, x, c, t, hm, by rw [hg]; exact h1, k3, fun j u hu => ?_⟩⟩⟩
        rw [List.getElem?_take] at hu
        split at hu
        · rw [List.getElem?_drop, List.getElem?_take] at hu
          split at hu
          · simpa using hu
          · cases hu
        · cases hu
      · cases hf
    · cases hf
theorem RC_chunks {ρ ρ' : Ren} {w : Nat} {α : Type} {f : List V → Option α} {g : α → List V} (hg : ∀ c x us, f c = some x → RC ρ c us → RC ρ' (g x) us) : ∀ (n : Nat) (cs : List V) (us : List Value) (xs : List α),
    n * w ≤ cs.length → mapO f (chunks w n cs) = some xs → RC ρ cs us → RC ρ' (xs.flatMap g) (us.take (n * w)) ∧ xs.length = n
  | 0, cs, us, xs, _, hm, hc => by
    simp only [chunks, mapO, Option.some.injEq] at hm
    subst hm
    simp [RC]
  | n + 1, cs, us, xs, hl, hm, hc => by
    simp only [chunks, mapO, Option.bind_eq_some_iff, Option.some.injEq] at hm
    obtain ⟨x, hx, ys, hys, rfl⟩ := hm
    have hl' : n * w + w ≤ cs.length := by rw [Nat.add_mul, Nat.one_mul] at hl; exact hl
    obtain ⟨h1, h2⟩ := RC_chunks hg n (cs.drop w) (us.drop w) ys (by rw [List.length_drop]; omega) hys (hc.drop w)
    refine ⟨?_, by simp [h2]⟩
    have h3 := (hg _ _ _ hx (hc.take w)).append h1
    simp only [List.flatMap_cons]
    have : us.take (w) ++ (us.drop w).take (n * w) = us.take ((n + 1) * w) := by
      rw [← List.take_add, Nat.add_mul, Nat.one_mul, Nat.add_comm]
    rwa [this] at h3
mutual
theorem rdLeaf_ok (hr : Rel base ρ h w) : ∀ (l : Leaf) (v : V) (x : l.C) (u : Value), rdLeaf lp h l v = some x → R ρ v u → R (ρ.rows lp h w) (l.lo (!lp) x) u
  | .int k, v, x, u, hs, hu => by
    cases v <;> simp only [rdLeaf, reduceCtorEq] at hs
    split at hs
    · rename_i hk
      subst hk
      cases hs
      simpa only [Leaf.lo, R] using hu
    · cases hs
  | .bool, v, x, u, hs, hu => by
    cases v <;> simp only [rdLeaf, reduceCtorEq] at hs
    cases hs
    simpa only [Leaf.lo, R] using hu
  | .str, v, x, u, hs, hu => by
    cases v <;> simp only [rdLeaf, reduceCtorEq] at hs
    cases hs
    simpa only [Leaf.lo, R] using hu
  | .ptr, v, x, u, hs, hu => by simp [rdLeaf] at hs
  | .slice, v, x, u, hs, hu => by simp [rdLeaf] at hs
  | .map, v, x, u, hs, hu => by simp [rdLeaf] at hs
  | .dyn, v, x, u, hs, hu => by simp [rdLeaf] at hs
  | .tok, v, x, u, hs, hu => by simp [Leaf.lo, R]
  | .row ls, v, x, u, hs, hu => by
    cases v <;> simp only [rdLeaf, reduceCtorEq] at hs
    rename_i a l c t
    obtain ⟨p, c', rfl, q1, q2, q3, q4, q5, q6, q7⟩ := R_slice hu
    split at hs
    · rename_i hl
      subst hl
      cases hs
      simp only [Leaf.lo, R]
      exact ⟨p, c', rfl, Nat.le_refl _, by simp, by simp, q4, .inl rfl, by simp, by simp⟩
    · rename_i hl
      simp only [Option.bind_eq_some_iff] at hs
      obtain ⟨cs, hcs, hs⟩ := hs
      cases hre : a.readable lp with
      | false => rw [hre] at hcs; cases hcs
      | true =>
        rw [hre] at hcs
        simp only [cond_true, H.rds, Option.bind_eq_some_iff] at hcs
        obtain ⟨cs0, hf, hh⟩ := hcs
        split at hh
        · rename_i hle
          cases hh
          obtain ⟨q, rfl⟩ : ∃ q, p = some q := by
            cases p with
            | none => have := q4 rfl; omega
            | some q => exact ⟨q, rfl⟩
          obtain ⟨b, o, us, rfl, hrc, hfz⟩ := from_rows (lp := lp) hr hf hre (q6 (by omega))
          obtain ⟨h1, h2⟩ := RC_chunks (ρ := ρ) (ρ' := ρ.rows lp h w) (g := fun x => LT.lo (!lp) ls x) (fun c x us e1 e2 => rdLT_ok hr ls c x us e1 e2) l _ (us.take (l * ls.length)) x (by rw [List.length_take]; omega) hs (hrc.take _)
          rw [List.take_take, Nat.min_self] at h1
          simp only [Leaf.lo, R]
          refine ⟨some ⟨b, o, none⟩, c', by rw [h2], Nat.le_refl _, by omega, by simp, by simp, ?_, fun _ => .inr ⟨b, o, us.take (l * ls.length), ?_, h1, rfl⟩, by simp⟩
          · simp only [V.mayNil, V.nn, Option.isSome_some]
            cases (List.flatMap (fun x => LT.lo (!lp) ls x) x).isEmpty <;> simp
          · rcases hfz with rfl | hfz
            · simp at hle
            · exact .inr (hfz _)
        · cases hh
theorem rdLT_ok (hr : Rel base ρ h w) : ∀ (ls : List Leaf) (vs : List V) (x : LT ls) (us : List Value), rdLT lp h ls vs = some x → RC ρ vs us → RC (ρ.rows lp h w) (LT.lo (!lp) ls x) us
  | [], [], x, us, hs, hu => by simpa only [LT.lo, RC] using hu
  | [], _ :: _, x, us, hs, hu => by simp [rdLT] at hs
  | [l], [], x, us, hs, hu => by simp [rdLT] at hs
  | [l], [v], x, us, hs, hu => by
    simp only [rdLT] at hs
    simp only [LT.lo, RC] at hu ⊢
    obtain ⟨u, us', e, o, r, e2⟩ := hu
    exact ⟨u, us', e, o, rdLeaf_ok hr l v x u hs r, e2⟩
  | [l], _ :: _ :: _, x, us, hs, hu => by simp [rdLT] at hs
  | l :: l' :: ls, [], x, us, hs, hu => by simp [rdLT] at hs
  | l :: l' :: ls, v :: vs, x, us, hs, hu => by
    simp only [rdLT, Option.bind_eq_some_iff, Option.some.injEq] at hs
    obtain ⟨y, hy, z, hz, rfl⟩ := hs
    simp only [RC] at hu
    obtain ⟨u, us', e, o, r, hu⟩ := hu
    simp only [LT.lo, RC]
    exact ⟨u, us', e, o, rdLeaf_ok hr l v y u hy r, rdLT_ok hr (l' :: ls) vs z us' hz hu⟩
end
theorem rdTy_ok (hr : Rel base ρ h w) : ∀ (t : Ty) (v : V) (x : t.C) (u : Value), rdTy lp h t v = some x → R ρ v u → R (ρ.rows lp h w) (t.lo (!lp) x) u
  | .leaf l, v, x, u, hs, hu => rdLeaf_ok hr l v x u hs hu
  | .agg ls, v, x, u, hs, hu => by
    cases v <;> simp only [rdTy, reduceCtorEq] at hs
    simp only [Ty.lo, R] at hu ⊢
    obtain ⟨us, e, hu⟩ := hu
    exact ⟨us, e, rdLT_ok hr ls _ x us hs hu⟩
theorem rdTT_ok (hr : Rel base ρ h w) : ∀ (ts : List Ty) (vs : List V) (x : TT ts) (us : List Value), rdTT lp h ts vs = some x → RL ρ vs us → RL (ρ.rows lp h w) (TT.lo (!lp) ts x) us
  | [], [], x, us, hs, hu => by simpa only [TT.lo, RL] using hu
  | [], _ :: _, x, us, hs, hu => by simp [rdTT] at hs
  | [l], [], x, us, hs, hu => by simp [rdTT] at hs
  | [l], [v], x, us, hs, hu => by
    simp only [rdTT] at hs
    simp only [TT.lo, RL] at hu ⊢
    obtain ⟨u, us', e, r, e2⟩ := hu
    exact ⟨u, us', e, rdTy_ok hr l v x u hs r, e2⟩
  | [l], _ :: _ :: _, x, us, hs, hu => by simp [rdTT] at hs
  | l :: l' :: ls, [], x, us, hs, hu => by simp [rdTT] at hs
  | l :: l' :: ls, v :: vs, x, us, hs, hu => by
    simp only [rdTT, Option.bind_eq_some_iff, Option.some.injEq] at hs
    obtain ⟨y, hy, z, hz, rfl⟩ := hs
    simp only [RL] at hu
    obtain ⟨u, us', e, r, hu⟩ := hu
    simp only [TT.lo, RL]
    exact ⟨u, us', e, rdTy_ok hr l v y u hy r, rdTT_ok hr (l' :: ls) vs z us' hz hu⟩
theorem rdRes_ok (hr : Rel base ρ h w) {r : Res} {v : V} {x : r.C} {u : Value} (hs : rdRes lp h r v = some x) (hu : R ρ v u) : R (ρ.rows lp h w) (r.lo (!lp) x) u := by
  cases r with
  | one t => exact rdTy_ok hr t v x u hs hu
  | many ts =>
    cases v <;> simp only [rdRes, reduceCtorEq] at hs
    simp only [Res.lo, R] at hu ⊢
    obtain ⟨us, e, hu⟩ := hu
    exact ⟨us, e, rdTT_ok hr ts _ x us hs hu⟩
end rows

theorem rdLTK_eq {lp : Bool} {h : H} {α : Type} : ∀ (ls : List Leaf) (vs : List V) (k : LT ls → Option α), rdLTK lp h ls vs k = (rdLT lp h ls vs).bind k
  | [], [], k => by simp [rdLTK, rdLT]
  | [], _ :: _, k => by simp [rdLTK, rdLT]
  | [l], [], k => by simp [rdLTK, rdLT]
  | [l], [v], k => by simp only [rdLTK, rdLT]
  | [l], _ :: _ :: _, k => by simp [rdLTK, rdLT]
  | l :: l' :: ls, [], k => by simp [rdLTK, rdLT]
  | l :: l' :: ls, v :: vs, k => by
    simp only [rdLTK, rdLT, Option.bind_assoc]
    congr 1; funext x
    rw [rdLTK_eq (l' :: ls)]
    cases rdLT lp h (l' :: ls) vs <;> rfl
theorem rdTyK_eq {lp : Bool} {h : H} {α : Type} : ∀ (t : Ty) (v : V) (k : t.C → Option α), rdTyK lp h t v k = (rdTy lp h t v).bind k
  | .leaf l, v, k => rfl
  | .agg ls, v, k => by cases v <;> first | rfl | exact rdLTK_eq ls _ k
theorem rdTTK_eq {lp : Bool} {h : H} {α : Type} : ∀ (ts : List Ty) (vs : List V) (k : TT ts → Option α), rdTTK lp h ts vs k = (rdTT lp h ts vs).bind k
  | [], [], k => by simp [rdTTK, rdTT]
  | [], _ :: _, k => by simp [rdTTK, rdTT]
  | [l], [], k => by simp [rdTTK, rdTT]
  | [l], [v], k => by simp only [rdTTK, rdTT]; exact rdTyK_eq l v k
  | [l], _ :: _ :: _, k => by simp [rdTTK, rdTT]
  | l :: l' :: ls, [], k => by simp [rdTTK, rdTT]
  | l :: l' :: ls, v :: vs, k => by
    simp only [rdTTK, rdTT, Option.bind_assoc]
    rw [rdTyK_eq l]
    congr 1; funext x
    rw [rdTTK_eq (l' :: ls)]
    cases rdTT lp h (l' :: ls) vs <;> rfl

section pure
variable {P : Program} {T : Table} {A : Ann} {fn : Func} {rs rq : Res}
/-- With rows alone nothing is the call's own. -/
theorem Rel.rows {base : Nat} {ρ : Ren} {h : H} {w : World} (hr : Rel base ρ h w) : Rel w.heap.size (ρ.rows true h w) H.empty w := by
  refine ⟨hr.gl.mono hr.hb, Nat.le_refl _, fun id g x hx => (by cases hx), fun id cs e hm => (by cases hm), fun id g x cs e _ hm => (by cases hm), fun _ _ => rfl, fun id id' cs cs' e e' b x b' x' _ hm => (by cases hm), fun f b i us hf => ?_, fun b i us hf => (by cases hf.1), fun f b i us id cs e x _ hm => (by cases hm),
    ⟨fun id s hm hs => (by subst hm; cases hs), fun id id' s s' b b' _ hm hs => (by subst hm; cases hs), fun D hD => hD.elim, fun b K hK => by cases hK⟩⟩
  rcases hf with ⟨_, ⟨f', i', us', _, hf, hi, hj⟩ | ⟨id, cs, e, x, c, t, hm, hb, hc, hj⟩⟩
  · obtain ⟨c, t, fr, h1, h2⟩ := hr.fzok f' b i' us' hf
    refine ⟨c, t, fr, h1, fun j u hu => ?_⟩
    have := h2 _ _ (hj j u hu)
    rwa [show i' + (i - i' + j) = i + j by omega] at this
  · exact ⟨c, t, (0, 0), hc, hj⟩
/-- A function on rows, out of what one call gives. -/
theorem mkP_ofK {f : FuncId} {ts : List Ty} {g : TT ts → Option rq.C}
    (he : ∀ x r, g x = some r → ∀ base ρ w us, Rel base ρ H.empty w → RL ρ (TT.lo false ts x) us → CRuns P f us.toArray w fun e w' => ∃ v h1, rdRes false h1 rq v = some r ∧ Ret base ρ h1 v w e w') : EntryOK P f (mkP ts rq g) := by
  intro args h
  refine ⟨⟨(rdTT true h ts args).bind fun y => (g y).bind fun r => some (rq.lo true r, h), fun α k => ?_⟩, fun v h' hv => ?_⟩
  · simp only [mkP, rdTTK_eq, Option.bind_assoc]
    congr 1
  · simp only [mkP, rdTTK_eq, Option.bind_eq_some_iff, Option.some.injEq, Prod.mk.injEq] at hv
    obtain ⟨y, hy, r, hr, rfl, rfl⟩ := hv
    refine ⟨fun _ => rfl, ?_⟩
    have hcall := he y r hr
    refine fun base ρ w us hrel hrl => ?_
    have hrows := rdTT_ok hrel ts args y us hy hrl
    refine CRuns.mono (hcall w.heap.size _ w us hrel.rows hrows) fun e w' hret => ?_
    obtain ⟨v0, h1, hsn, ρ1, val, g1, g2, g3, rfl, g5⟩ := hret
    have hval := rdRes_ok g2 hsn g5
    have hb : Below base w w' := g3.mono hrel.hb
    have hext := hrel.ext g3
    have hle : ρ.le ⟨ρ.map, fun f b i us => ρ.fz f b i us ∨ FzOf false ρ1 h1 w' f b i us, ρ.df, ρ.lp⟩ := ⟨fun _ _ _ h => h, fun _ _ _ _ h => .inl h, fun _ h => h, fun _ _ h => h⟩
    refine ⟨_, val, hle, ?_, hb, rfl, R_mono0 ⟨fun _ _ _ h => (by cases h), fun f b i us h => Or.inr h⟩ _ _ hval⟩
    refine ⟨hext.gl, hext.hb, hext.used, fun id cs e hm => ?_, hext.gens, hext.top, hext.sep, fun f b i us hf => ?_, fun b i us hf => ?_, fun f b i us id cs e x hf hm => ?_, hext.objs.keep hle (fun _ _ h _ => h) (fun _ h => h) (fun _ _ h => h) (fun _ _ e _ => e) (Nat.le_refl _)⟩
    · obtain ⟨b, x, c, t, k1, k2, k3, k4, k5⟩ := hext.own id cs e hm
      exact ⟨b, x, c, t, k1, k2, k3, k4, RC_mono hle _ _ k5⟩
    · rcases hf with hf | ⟨_, ⟨f', i', us', hf', hf, hi, hj⟩ | ⟨id, cs, e, x, c, t, hm, hb, hc, hj⟩⟩
      · exact hext.fzok f b i us hf
      · obtain ⟨c, t, fr, h1, h2⟩ := g2.fzok f' b i' us' hf
        refine ⟨c, t, fr, h1, fun j u hu => ?_⟩
        have := h2 _ _ (hj j u hu)
        rwa [show i' + (i - i' + j) = i + j by omega] at this
      · exact ⟨c, t, (0, 0), hc, hj⟩
    · rcases hf with hf | ⟨_, ⟨f', i', us', hf', hf, hi, hj⟩ | ⟨id', cs', e', x', c', t', hm', hb', hc', hj⟩⟩
      · exact hext.fznew b i us hf
      · simp only [Bool.false_or] at hf'
        subst hf'
        exact Nat.le_trans hrel.hb (g2.fznew b i' us' hf)
      · obtain ⟨b1, x1, c1, t1, k1, k2, k3, k4, k5⟩ := g2.own id' cs' e' hm'
        rw [hb'] at k1; cases k1
        exact Nat.le_trans hrel.hb k2
    · have new : w.heap.size ≤ b → ρ.map id cs.length ≠ some (b, x) := fun k2 hmap => by
        obtain ⟨b2, x2, c2, t2, j1, j2, j3, j4, j5⟩ := hrel.own id cs e hm
        rw [hmap] at j1; cases j1
        have := (Array.getElem?_eq_some_iff.1 j3).1
        omega
      rcases hf with hf | ⟨_, ⟨f', i', us', hf', hf, hi, hj⟩ | ⟨id', cs', e', x', c', t', hm', hb', hc', hj⟩⟩
      · exact hext.fzsep f b i us id cs e x hf hm
      · simp only [Bool.false_or] at hf'
        subst hf'
        exact new (g2.fznew b i' us' hf)
      · obtain ⟨b1, x1, c1, t1, k1, k2, k3, k4, k5⟩ := g2.own id' cs' e' hm'
        rw [hb'] at k1; cases k1
        exact new k2
theorem mkP_of {f : FuncId} {ts : List Ty} {g : TT ts → Option rq.C}
    (he : ∀ x r, g x = some r → ∃ v h1, CallOK P f (TT.lo false ts x) H.empty v h1 ∧ rdRes false h1 rq v = some r) : EntryOK P f (mkP ts rq g) :=
  mkP_ofK fun x r hr base ρ w us hrel hrl => let ⟨v, h1, h2, h3⟩ := he x r hr
    CRuns.mono (h2 base ρ w us hrel hrl) fun e w' hret => ⟨v, h1, h3, hret⟩
/-- A function on rows whose ranges over maps come in any order. -/
theorem mkPK_ok (hT : TabOK P T) (hm : P.follows .mixedOrders = true) {f : FuncId} (hf : P.funcs[f]? = some fn) (hn : (fn.name == "runtime.NumGoroutine") = false) {ts : List Ty} {g : TT ts → Option rq.C}
    (he : ∀ x, evalFnK P T A fn rs (TT.lo false ts x) H.empty (fun r h => rdRes false h rq (rs.un r)) = g x) (hin : A.inr = false := by rfl) : EntryOK P f (mkP ts rq g) := by
  refine mkP_ofK fun x r hr base ρ w us hrel hrl => ?_
  have hgy := he x
  rw [hr] at hgy
  obtain ⟨hb, hc⟩ := fn_callsK hT.1 hm hf hgy hin
  exact .inl ⟨run_callFunc hf hb hn _ w, Calls.mono (hc base ρ w us (hT.2 _ _) hrel hrl) fun e w' ⟨r0, h', h1, h2⟩ => ⟨_, h', h1, h2⟩⟩
/-- A function on rows. -/
theorem mkP_ok (hT : TabOK P T) (hm : P.follows .mixedOrders = true) {f : FuncId} (hf : P.funcs[f]? = some fn) (hn : (fn.name == "runtime.NumGoroutine") = false) {ts : List Ty} {g : TT ts → Option rq.C}
    (he : ∀ x, ((evalFn P T A fn rs (TT.lo false ts x) H.empty).bind fun p => rdRes false p.2 rq (rs.un p.1)) = g x) (hin : A.inr = false := by rfl) : EntryOK P f (mkP ts rq g) := by
  refine mkP_of fun x r hr => ?_
  have hgy := he x
  rw [hr] at hgy
  simp only [Option.bind_eq_some_iff] at hgy
  obtain ⟨⟨r0, h1⟩, hev, hsn⟩ := hgy
  exact ⟨rs.un r0, h1, fn_sound hT hm hf hn hev hin, hsn⟩
/-- A function that works on the heap, out of what one call gives. -/
theorem mkX_of {f : FuncId} {ts : List Ty} {g : TT ts → H → Option (rs.C × H)} (he : ∀ x h r h', g x h = some (r, h') → CallOK P f (TT.un ts x) h (rs.un r) h') : EntryOK P f (mkX ts rs g) := by
  intro args h
  refine ⟨⟨(TT.pack ts args).bind fun x => (g x h).bind fun p => some (rs.un p.1, p.2), fun α k => ?_⟩, fun v h' hv => ⟨fun hq => (by cases hq), ?_⟩⟩
  · simp [mkX, Option.bind_assoc]
  · simp only [mkX, Option.bind_eq_some_iff, Option.some.injEq, Prod.mk.injEq] at hv
    obtain ⟨x, hx, ⟨r, h2⟩, hg, rfl, rfl⟩ := hv
    rw [← TT.un_pack ts args x hx]
    exact he x h r h2 hg

/-! ### Functions that are walked by hand -/

/-- A row that lies there, made by the call: one more that nobody writes. -/
theorem Rel.found {base : Nat} {ρ : Ren} {h : H} {w w' : World} (hr : Rel base ρ h w) (hb : Below w.heap.size w w') {g : Nat} {c : Array Value} {t : TypeId} {fr : Nat × Nat} (hg : w.heap.size ≤ g) (hc : w'.heap[g]? = some (.cells c t fr)) {us : List Value} (hus : ∀ (j : Nat) u, us[j]? = some u → c[j]? = some u) :
    Rel base (ρ.froze g us) h w' := by
  have hext := hr.ext hb
  refine ⟨hext.gl, hext.hb, hext.used, fun id cs e hm => ?_, hext.gens, hext.top, hext.sep, fun f b i us' hf => ?_, fun b i us' hf => ?_, fun f b i us' id cs e x hf hm => ?_, hext.objs.keep Ren.froze_le (fun _ _ h _ => h) (fun _ h => h) (fun _ _ h => h) (fun _ _ e _ => e) (Nat.le_refl _)⟩
  · obtain ⟨b, x, c', t', h1, h2, h3, h4, h5⟩ := hext.own id cs e hm
    exact ⟨b, x, c', t', h1, h2, h3, h4, RC_mono Ren.froze_le _ _ h5⟩
  · rcases hf with ⟨rfl, rfl, rfl⟩ | hf
    · exact ⟨c, t, fr, hc, fun j u hu => by simpa using hus j u hu⟩
    · exact hext.fzok f b i us' hf
  · rcases hf with ⟨rfl, rfl, rfl⟩ | hf
    · exact Nat.le_trans hr.hb hg
    · exact hext.fznew b i us' hf
  · rcases hf with ⟨rfl, rfl, rfl⟩ | hf
    · intro he
      obtain ⟨b2, x2, c3, t3, k1, k2, k3, k4, k5⟩ := hr.own id cs e hm
      have he' : ρ.map id cs.length = some (b, x) := he
      rw [k1] at he'; cases he'
      have := (Array.getElem?_eq_some_iff.1 k3).1
      omega
    · exact hext.fzsep f b i us' id cs e x hf hm
/-- A function that is walked by hand, on rows: what the walk must say. -/
theorem mkP_walked {f : FuncId} {fn : Func} (hf : P.funcs[f]? = some fn) (hb : fn.body.isNone = false) (hn : (fn.name == "runtime.NumGoroutine") = false) {ts : List Ty} {g : TT ts → Option rq.C}
    (he : ∀ x r, g x = some r → ∃ v, rdRes false H.empty rq v = some r ∧ ∀ base ρ w us, Rel base ρ H.empty w → RL ρ (TT.lo false ts x) us → Calls P f us.toArray w (Ret base ρ H.empty v w)) : EntryOK P f (mkP ts rq g) :=
  mkP_of fun x r hr => let ⟨v, h1, h2⟩ := he x r hr
    ⟨v, H.empty, fun base ρ w us hrel hrl => .inl ⟨run_callFunc hf hb hn _ w, h2 base ρ w us hrel hrl⟩, h1⟩
/-- What an entry on rows says of the call at its rows. -/
theorem EntryOK.calls {f : FuncId} {ts : List Ty} {g : TT ts → Option rq.C} (hok : EntryOK P f (mkP ts rq g)) {args : List V} {y : TT ts} {r : rq.C} (hy : rdTT true H.empty ts args = some y) (hg : g y = some r) : CallOK P f args H.empty (rq.lo true r) H.empty :=
  ((hok args H.empty).2 (rq.lo true r) H.empty (by simp [mkP, rdTTK_eq, hy, hg])).2

/-! ### slices.Clone: whether a slice of no elements is nil does not matter -/

def cloneX (w bytes : Nat) (s : SV) (h : H) : Option (SV × H) :=
  if s.len = 0 then some (⟨.lp true [] 0, 0, 0, false⟩, h) else (cellsOf h (.slice s.a s.len s.cap s.tail) w).bind fun c => appendS h none w bytes ⟨.lp true [] 0, 0, 0, false⟩ c.2 c.1
def cloneP {α : Type} (bytes : Nat) (xs : List α) : Option (List α) := guardO (xs.length ≤ roomCells ∧ bytes ≤ 2 ^ 11) (some xs)
theorem CallOK.args {f : FuncId} {as bs : List V} {h h' : H} {v v' : V} (hfn : CallOK P f as h v h')
    (hall : ∀ ρ us, RL ρ bs us → ∃ as' v0, RL ρ as' us ∧ CallOK P f as' h v0 h' ∧ ∀ ρ' u, R ρ' v0 u → R ρ' v' u) : CallOK P f bs h v' h' := by
  refine fun base ρ w us hr hl => ?_
  obtain ⟨as', v0, k1, k2, k3⟩ := hall ρ us hl
  exact (k2 base ρ w us hr k1).mono fun e w' ⟨ρ', val, g1, g2, g3, g4, g5⟩ => ⟨ρ', val, g1, g2, g3, g4, k3 ρ' val g5⟩
theorem cloneX_ok {f : FuncId} {w bytes : Nat} {g : SV → H → Option (SV × H)} (hok : EntryOK P f (mkX [.leaf .slice] (.one (.leaf .slice)) g))
    (hg : ∀ s h, g s h = bif !(V.mayNil s.a) then (bif !(V.nn s.a) then some (⟨.nil, 0, 0, false⟩, h) else (cellsOf h (.slice s.a s.len s.cap s.tail) w).bind fun p => (appendS h none w bytes ⟨.lp true [] 0, 0, 0, false⟩ p.2 p.1).bind fun r => some (r.1, r.2)) else none) :
    EntryOK P f (mkX [.leaf .slice] (.one (.leaf .slice)) (cloneX w bytes)) := by
  have call : ∀ s h r h', g s h = some (r, h') → CallOK P f [.slice s.a s.len s.cap s.tail] h (.slice r.a r.len r.cap r.tail) h' := fun s h r h' hgs => by
    have := (hok [.slice s.a s.len s.cap s.tail] h).2 (.slice r.a r.len r.cap r.tail) h' (by
      show (g s h).bind _ = _
      rw [hgs]
      rfl)
    exact this.2
  refine mkX_of fun s h r h' hx => ?_
  show CallOK P f [.slice s.a s.len s.cap s.tail] h (.slice r.a r.len r.cap r.tail) h'
  unfold cloneX at hx
  split at hx
  · rename_i hl
    cases hx
    have c1 := call ⟨.nil, 0, 0, false⟩ h ⟨.nil, 0, 0, false⟩ h (by rw [hg]; rfl)
    have c2 := call ⟨.lp true [.nil] 0, 0, 0, true⟩ h ⟨.lp true [] 0, 0, 0, false⟩ h (by
      rw [hg]
      simp [V.mayNil, V.nn, cellsOf, appendS, appendV])
    refine c1.args fun ρ us hu => ?_
    simp only [RL] at hu
    obtain ⟨u, us', rfl, hu, rfl⟩ := hu
    rw [hl] at hu
    obtain ⟨p, c', rfl, q1, q2, q3, q4, q5, q6, q7⟩ := R_slice hu
    cases p with
    | none =>
      refine ⟨_, _, ?_, c1, fun ρ' u' hr => ?_⟩
      · simp only [RL]
        refine ⟨_, _, rfl, ?_, rfl⟩
        simp only [R]
        exact ⟨none, c', rfl, Nat.le_refl _, Nat.zero_le _, fun _ => q4 rfl, fun _ => q4 rfl, .inr rfl, fun hh => absurd rfl hh, fun _ _ _ hh => by cases hh⟩
      · obtain ⟨p, c', rfl, q1, q2, q3, q4, q5, q6, q7⟩ := R_slice hr
        simp only [R]
        exact ⟨p, c', rfl, Nat.le_refl _, q2, by simpa using q3, q4, .inl rfl, fun hh => absurd rfl hh, fun _ _ _ hh => by cases hh⟩
    | some q =>
      refine ⟨_, _, ?_, c2, fun ρ' u' hr => hr⟩
      simp only [RL]
      refine ⟨_, _, rfl, ?_, rfl⟩
      simp only [R]
      exact ⟨some q, c', rfl, Nat.le_refl _, Nat.zero_le _, fun hh => (by cases hh), fun hh => (by cases hh), .inr rfl, fun hh => absurd rfl hh, fun _ _ _ hh => by cases hh⟩
  · rename_i hl
    simp only [Option.bind_eq_some_iff] at hx
    obtain ⟨c, hc, hx⟩ := hx
    have hnn : s.a.mayNil = false ∧ s.a.nn = true := by
      cases ha : s.a <;> rw [ha] at hc <;> simp only [cellsOf, if_neg hl, H.rds, H.from, Option.bind_none, Option.map_none, reduceCtorEq] at hc
      · exact ⟨rfl, rfl⟩
      · rename_i fl cs o
        cases cs with
        | nil => simp at hc
        | cons _ _ => exact ⟨rfl, rfl⟩
    exact call s h r h' (by
      rw [hg, hnn.1, hnn.2]
      simp only [Bool.not_false, Bool.not_true, cond_true, cond_false, hc, Option.bind_some, hx])
end pure
end Go.Proofs.YtjkjcnadgpndoaaGreat.Ev
namespace Go.Proofs.YtjkjcnadgpndoaaGreat.Ev
open Go
theorem allI_nil (P : Program) : ∀ p ∈ ([] : List (FuncId × (Entry → Entry))), ItOK P p.1 p.2 := fun _ h => by cases h
theorem allI_cons {P : Program} {f : FuncId} {e : Entry → Entry} {l : List (FuncId × (Entry → Entry))} (h : ItOK P f e) (t : ∀ p ∈ l, ItOK P p.1 p.2) : ∀ p ∈ (f, e) :: l, ItOK P p.1 p.2 := fun p hp => by
  rcases List.mem_cons.1 hp with rfl | hp
  · exact h
  · exact t p hp
theorem all_nil (P : Program) : ∀ p ∈ ([] : List (FuncId × Entry)), EntryOK P p.1 p.2 := fun _ h => by cases h
theorem all_cons {P : Program} {f : FuncId} {e : Entry} {l : List (FuncId × Entry)} (h : EntryOK P f e) (t : ∀ p ∈ l, EntryOK P p.1 p.2) : ∀ p ∈ (f, e) :: l, EntryOK P p.1 p.2 := fun p hp => by
  rcases List.mem_cons.1 hp with rfl | hp
  · exact h
  · exact t p hp

/-! ### Functions that the model stands in for -/

/-- math/bits.Add64. -/
def add64X (x y c : Int) (h : H) : Option ((Int × Int) × H) := guardO (0 ≤ x ∧ 0 ≤ y ∧ 0 ≤ c ∧ c ≤ 1) (some (((x + y + c) % 18446744073709551616, (x + y + c) / 18446744073709551616), h))
def add64E : Entry := mkX [.leaf (.int .u64), .leaf (.int .u64), .leaf (.int .u64)] (.many [.leaf (.int .u64), .leaf (.int .u64)]) fun x h => add64X x.1 x.2.1 x.2.2 h
theorem add64_ok {P : Program} {f : FuncId} {fn : Func} (hf : P.funcs[f]? = some fn) (hname : (fn.name == "runtime.NumGoroutine") = false) (hb : fn.body.isNone = true) (hn : Extern.findNext fn = none) (he : Extern.find fn = some add64Entry) : EntryOK P f add64E := by
  refine mkX_of fun x h r h' hx => ?_
  obtain ⟨x, y, c⟩ := x
  simp only [add64X, guardO] at hx
  split at hx
  · rename_i hc
    cases hx
    intro base ρ w us hr hl
    simp only [TT.un, Ty.un, Leaf.un, RL, R] at hl
    obtain ⟨_, _, rfl, rfl, _, _, rfl, rfl, _, _, rfl, rfl, rfl⟩ := hl
    refine .inr ⟨.tuple #[.int .u64 ((x + y + c) % 18446744073709551616), .int .u64 ((x + y + c) / 18446744073709551616)], w, ?_, ρ, _, Ren.le.refl ρ, hr, Below.refl _ _, rfl, ?_⟩
    · rw [run_callFunc_extern hf hname hb hn he]
      have := run_add64 (P := P) x y c hc.1 hc.2.1 hc.2.2.1 hc.2.2.2 w
      rw [this]
      rfl
    · simp only [Res.un, TT.un, Ty.un, Leaf.un, R]
      exact ⟨[.int .u64 ((x + y + c) % 18446744073709551616), .int .u64 ((x + y + c) / 18446744073709551616)], rfl, by simp [RL, R]⟩
  · cases hx
end Go.Proofs.YtjkjcnadgpndoaaGreat.Ev
