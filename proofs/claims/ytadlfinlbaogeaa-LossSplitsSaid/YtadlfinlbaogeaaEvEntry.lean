/- Whole functions as entries of a table. Conditions: 'TabOK'; the program follows no compiler in mixed orders. -/
import Derived.Test.YtadlfinlbaogeaaEvFun
namespace Go.Proofs.Ytadlfinlbaogeaa.Ev
open Go Go.RowKit
set_option linter.unusedVariables false
set_option linter.unusedSimpArgs false

section fn
variable {P : Program} {T : Table} {A : Ann} {fn : Func} {rs : Res}
theorem setL_range {us : List Value} {ρ : Ren} : ∀ (args : List V) (n : Nat), ∀ t v, (setL (List.range' n args.length) args fun _ => V.undef) t = v → (v = .undef ∨ ∃ i, t = n + i ∧ args[i]? = some v)
  | [], n, t, v, h => .inl (by simpa [setL] using h.symm)
  | x :: args, n, t, v, h => by
    simp only [List.length_cons, List.range'_succ, setL, Env.set] at h
    by_cases ht : t = n
    · subst ht
      simp at h
      exact .inr ⟨0, rfl, by simp [h]⟩
    · simp only [beq_ne ht, cond_false] at h
      rcases setL_range (us := us) (ρ := ρ) args (n + 1) t v h with h | ⟨i, h1, h2⟩
      · exact .inl h
      · exact .inr ⟨i + 1, by omega, by simpa using h2⟩
theorem fn_sound (hT : TabOK P T) (hm : P.follows .mixedOrders = true) {f : FuncId} (hf : P.funcs[f]? = some fn) (hn : (fn.name == "runtime.NumGoroutine") = false) {args : List V} {h h' : H} {r : rs.C}
    (he : evalFn P T A fn rs args h = some (r, h')) : CallOK P f args h (rs.un r) h' := by
  unfold evalFn at he
  split at he
  · cases he
  · rename_i c hb
    cases hl : Nat.ble args.length fn.ntmps with
    | false => rw [hl] at he; simp at he
    | true =>
      rw [hl] at he
      simp only [Bool.not_true, cond_false] at he
      have hle : args.length ≤ fn.ntmps := by simpa using hl
      refine ⟨⟨fn, hf, by rw [hb]; rfl, hn⟩, fun base ρ w us hr hrl => ?_⟩
      have hlen := hrl.length
      refine calls_of_wp hf hb (code_sound (base := base) hT hm c _ h _ (r, h') ρ _ w _ he ⟨hr, ?_, ?_, rfl⟩ ?_)
      · intro t
        rw [List.range_eq_range']
        rcases setL_range (us := us) (ρ := ρ) args 0 t _ rfl with h0 | ⟨i, h1, h2⟩
        · rw [h0]; simp [R]
        · simp only [Nat.zero_add] at h1
          subst h1
          generalize (setL (List.range' 0 args.length) args fun _ => V.undef) t = v at h2
          obtain ⟨u, hu, hru⟩ := hrl.at h2
          have hlt : t < us.length := (List.getElem?_eq_some_iff.1 hu).1
          have : (us.toArray ++ Array.replicate (fn.ntmps - us.toArray.size) undef).getD t undef = u := by
            rw [Array.getD_eq_getD_getElem?, Array.getElem?_append_left (by simpa using hlt)]
            simp [hu]
          rw [this]
          exact hru
      · simp; omega
      · intro e env' h2 ρ' a' w' g1 g2 g3 g4 g5 g6
        cases e with
        | exit id => simp at g5
        | normal =>
          obtain ⟨v, val, k1, k2, k3⟩ := theResult_ok (P := P) g2.rel g2.env g5
          simp only [Option.bind_eq_some_iff, Option.some.injEq, Prod.mk.injEq] at k1
          obtain ⟨r', hr', rfl, rfl⟩ := k1
          refine ⟨g2.defers, val, k3, ρ', val, g1, g2.rel, g3, rfl, ?_⟩
          rw [Res.un_pack rs v r' hr']
          exact k2
        | ret v =>
          simp only [Option.bind_eq_some_iff, Option.some.injEq, Prod.mk.injEq] at g5
          obtain ⟨r', hr', rfl, rfl⟩ := g5
          obtain ⟨val, k3, k2⟩ := g6
          refine ⟨g2.defers, val, k3, ρ', val, g1, g2.rel, g3, rfl, ?_⟩
          rw [Res.un_pack rs v r' hr']
          exact k2
/-- A function that works on the heap. -/
theorem mkX_ok (hT : TabOK P T) (hm : P.follows .mixedOrders = true) {f : FuncId} (hf : P.funcs[f]? = some fn) (hn : (fn.name == "runtime.NumGoroutine") = false) {ts : List Ty} {g : TT ts → H → Option (rs.C × H)}
    (he : ∀ x h, evalFn P T A fn rs (TT.un ts x) h = g x h) : EntryOK P f (mkX ts rs g) := by
  intro args h
  refine ⟨⟨(TT.pack ts args).bind fun x => (g x h).bind fun p => some (rs.un p.1, p.2), fun α k => ?_⟩, fun v h' hv => ⟨fun hq => (by cases hq), ?_⟩⟩
  · simp [mkX, Option.bind_assoc]
  · simp only [mkX, Option.bind_eq_some_iff, Option.some.injEq, Prod.mk.injEq] at hv
    obtain ⟨x, hx, ⟨r, h2⟩, hg, rfl, rfl⟩ := hv
    rw [← TT.un_pack ts args x hx]
    exact fn_sound hT hm hf hn (by rw [he]; exact hg)
/-- A function that is not called so deep. -/
theorem mkX_none {f : FuncId} {ts : List Ty} {rs : Res} : EntryOK P f (mkX ts rs fun _ _ => none) := by
  intro args h
  refine ⟨⟨none, fun α k => ?_⟩, fun v h' hv => ?_⟩
  · cases hx : TT.pack ts args <;> simp [mkX, hx]
  · cases hx : TT.pack ts args <;> simp [mkX, hx] at hv
end fn

/-! ### Functions on rows -/

section snaps
theorem mapO_iff {f : V → Option V} : ∀ {vs ds : List V}, mapO f vs = some ds ↔ vs.length = ds.length ∧ ∀ (i : Nat) v d, vs[i]? = some v → ds[i]? = some d → f v = some d := by
  intro vs
  induction vs with
  | nil => intro ds; cases ds <;> simp [mapO]
  | cons v vs ih =>
    intro ds
    simp only [mapO, Option.bind_eq_some_iff, Option.some.injEq]
    cases ds with
    | nil => simp
    | cons d ds =>
      simp only [List.cons.injEq, List.length_cons, Nat.add_right_cancel_iff]
      constructor
      · rintro ⟨x, hx, xs, hxs, rfl, rfl⟩
        obtain ⟨h1, h2⟩ := ih.1 hxs
        refine ⟨h1, fun i => ?_⟩
        cases i with
        | zero => intro a b e1 e2; simp at e1 e2; subst e1; subst e2; exact hx
        | succ i => intro a b e1 e2; simp at e1 e2; exact h2 i _ _ e1 e2
      · rintro ⟨h1, h2⟩
        exact ⟨d, h2 0 _ _ rfl rfl, ds, ih.2 ⟨h1, fun i a b e1 e2 => h2 (i + 1) a b (by simpa using e1) (by simpa using e2)⟩, rfl, rfl⟩
/-- The rows that a reading of the heap lays down. -/
def FzOf (lp : Bool) (ρ : Ren) (h : H) (w : World) (f : Bool) (b i : Nat) (us : List Value) : Prop :=
  f = (!lp) ∧ ((lp = true ∧ ∃ f', ρ.fz f' b i us) ∨ (lp = false ∧ ρ.fz true b i us) ∨ ∃ id cs e x c t, h.m id = .own cs e ∧ ρ.map id cs.length = some (b, x) ∧ w.heap[b]? = some (.cells c t (0, 0)) ∧ i = 0 ∧ us = c.toList.take cs.length)
def Ren.rows (lp : Bool) (ρ : Ren) (h : H) (w : World) : Ren := ⟨fun _ _ => none, FzOf lp ρ h w⟩
theorem snap_nn {lp : Bool} {h : H} : ∀ {n : Nat} {v d : V}, snap lp h n v = some d → d.nn = v.nn ∧ ∀ id g o, d ≠ .hp id g o
  | 0, v, d, hs => by simp [snap] at hs
  | n + 1, v, d, hs => by
    cases v <;> simp only [snap, Option.some.injEq, Option.bind_eq_some_iff, reduceCtorEq] at hs
    case hp id gen off =>
      split at hs
      · split at hs
        · simp only [Option.bind_eq_some_iff, Option.some.injEq] at hs
          obtain ⟨ds, _, rfl⟩ := hs
          exact ⟨rfl, by simp⟩
        · cases hs
      · cases hs
    case lp fl cs off =>
      cases hb : (lp || fl) with
      | true =>
        rw [hb] at hs
        simp only [cond_true, Option.bind_eq_some_iff, Option.some.injEq] at hs
        obtain ⟨ds, _, rfl⟩ := hs
        exact ⟨rfl, by simp⟩
      | false =>
        rw [hb] at hs
        simp only [cond_false] at hs
        split at hs
        · cases hs; exact ⟨rfl, by simp⟩
        · cases hs
    all_goals first | (subst hs; exact ⟨rfl, by simp⟩) | (obtain ⟨ds, _, rfl⟩ := hs; exact ⟨rfl, by simp⟩)
theorem snap_ok {base : Nat} {ρ : Ren} {h : H} {w : World} (hr : Rel base ρ h w) {lp : Bool} : ∀ (n : Nat) (v d : V) (u : Value), snap lp h n v = some d → R ρ v u → R (ρ.rows lp h w) d u
  | 0, v, d, u, hs, _ => by simp [snap] at hs
  | n + 1, v, d, u, hs, hu => by
    have hRL : ∀ vs ds us, mapO (snap lp h n) vs = some ds → RL ρ vs us → RL (ρ.rows lp h w) ds us := fun vs ds us hm hl => by
      obtain ⟨h1, h2⟩ := mapO_iff.1 hm
      refine RL_iff.2 ⟨by rw [← h1]; exact hl.length, fun i d u e1 e2 => ?_⟩
      have hi : i < vs.length := by rw [h1]; exact (List.getElem?_eq_some_iff.1 e1).1
      have hv : vs[i]? = some vs[i] := List.getElem?_eq_getElem hi
      exact snap_ok hr n _ d u (h2 i _ d hv e1) ((RL_iff.1 hl).2 i _ u hv e2)
    have hRC : ∀ vs ds us, mapO (snap lp h n) vs = some ds → RC ρ vs us → RC (ρ.rows lp h w) ds us := fun vs ds us hm hl => by
      obtain ⟨h1, h2⟩ := mapO_iff.1 hm
      refine RC_iff.2 ⟨by rw [← h1]; exact hl.length, fun i d u e1 e2 => ?_⟩
      have hi : i < vs.length := by rw [h1]; exact (List.getElem?_eq_some_iff.1 e1).1
      have hv : vs[i]? = some vs[i] := List.getElem?_eq_getElem hi
      obtain ⟨k1, k2⟩ := (RC_iff.1 hl).2 i _ u hv e2
      exact ⟨k1, snap_ok hr n _ d u (h2 i _ d hv e1) k2⟩
    cases v <;> simp only [snap, Option.some.injEq, Option.bind_eq_some_iff, reduceCtorEq] at hs
    case bool b => subst hs; simpa only [R] using hu
    case int k x => subst hs; simpa only [R] using hu
    case str s => subst hs; simpa only [R] using hu
    case nil => subst hs; simpa only [R] using hu
    case nilFunc => subst hs; simpa only [R] using hu
    case nilIface => subst hs; simpa only [R] using hu
    case hp id gen off =>
      simp only [R] at hu
      obtain ⟨b, x, hb, rfl⟩ := hu
      split at hs
      · rename_i cs e hm
        split at hs
        · rename_i hg
          simp only [Option.bind_eq_some_iff, Option.some.injEq] at hs
          obtain ⟨ds, hds, rfl⟩ := hs
          obtain ⟨b', x', c, t, k1, k2, k3, k4, k5⟩ := hr.own id cs e hm
          rw [hg, hb] at k1; cases k1
          simp only [R]
          exact ⟨b, 0, c.toList.take cs.length, .inr ⟨rfl, .inr (.inr ⟨id, cs, e, x, c, t, hm, by rw [hg]; exact hb, k3, rfl, rfl⟩)⟩, hRC _ _ _ hds k5, by simp⟩
        · cases hs
      · cases hs
    case lp fl cs off =>
      simp only [R] at hu
      obtain ⟨b, i, us, h1, h2, rfl⟩ := hu
      cases hb : (lp || fl) with
      | true =>
        rw [hb] at hs
        simp only [cond_true, Option.bind_eq_some_iff, Option.some.injEq] at hs
        obtain ⟨ds, hds, rfl⟩ := hs
        simp only [R]
        refine ⟨b, i, us, ?_, hRC _ _ _ hds h2, rfl⟩
        rcases h1 with rfl | h1
        · simp only [mapO, Option.some.injEq] at hds
          subst hds
          exact .inl rfl
        · refine .inr ⟨rfl, ?_⟩
          cases lp with
          | true => exact .inl ⟨rfl, fl, h1⟩
          | false =>
            simp only [Bool.false_or] at hb
            subst hb
            exact .inr (.inl ⟨rfl, h1⟩)
      | false =>
        rw [hb] at hs
        simp only [cond_false] at hs
        split at hs
        · cases hs
          simp only [R]
          have : us = [] := by simpa [RC] using h2
          subst this
          exact ⟨b, i, [], .inl trivial, RC_nil, rfl⟩
        · cases hs
    case slice a l c t =>
      obtain ⟨d', hd, rfl⟩ := hs
      obtain ⟨p, c', rfl, q1, q2, q3, q4, q5, q6, q7⟩ := R_slice hu
      obtain ⟨n1, n2⟩ := snap_nn hd
      simp only [R]
      exact ⟨p, c', rfl, q1, q2, q3, q4, by rw [n1]; exact q5, fun hc => snap_ok hr n a d' _ hd (q6 hc), fun id g o e => absurd e (n2 id g o)⟩
    case func f cs =>
      obtain ⟨ds, hds, rfl⟩ := hs
      simp only [R] at hu ⊢
      obtain ⟨us, rfl, h2⟩ := hu
      exact ⟨us, rfl, hRL _ _ _ hds h2⟩
    case agg cs =>
      obtain ⟨ds, hds, rfl⟩ := hs
      simp only [R] at hu ⊢
      obtain ⟨us, rfl, h2⟩ := hu
      exact ⟨us, rfl, hRC _ _ _ hds h2⟩
    case tuple cs =>
      obtain ⟨ds, hds, rfl⟩ := hs
      simp only [R] at hu ⊢
      obtain ⟨us, rfl, h2⟩ := hu
      exact ⟨us, rfl, hRL _ _ _ hds h2⟩
variable {base : Nat} {ρ : Ren} {h : H} {w : World} {lp : Bool} {α : Type}
theorem snapLeaf_ok (hr : Rel base ρ h w) {l : Leaf} {x : l.C} {k : l.C → Option α} {res : α} (hs : snapLeaf lp h l x k = some res) :
    ∃ y, k y = some res ∧ ∀ u, R ρ (l.un x) u → R (ρ.rows lp h w) (l.un y) u := by
  cases l <;> simp only [snapLeaf, reduceCtorEq] at hs
  case int kd => exact ⟨x, hs, fun u hu => by simpa only [Leaf.un, R] using hu⟩
  case bool => exact ⟨x, hs, fun u hu => by simpa only [Leaf.un, R] using hu⟩
  case str => exact ⟨x, hs, fun u hu => by simpa only [Leaf.un, R] using hu⟩
  case ptr =>
    simp only [Option.bind_eq_some_iff] at hs
    obtain ⟨y, hy, hs⟩ := hs
    exact ⟨y, hs, fun u hu => snap_ok hr _ _ _ u hy hu⟩
  case dyn =>
    simp only [Option.bind_eq_some_iff] at hs
    obtain ⟨y, hy, hs⟩ := hs
    exact ⟨y, hs, fun u hu => snap_ok hr _ _ _ u hy hu⟩
  case slice =>
    simp only [Option.bind_eq_some_iff, snapS] at hs
    obtain ⟨y, ⟨d, hd, hy⟩, hs⟩ := hs
    split at hy
    · simp only [Option.some.injEq] at hy
      subst hy
      exact ⟨_, hs, fun u hu => snap_ok hr _ _ _ u hd hu⟩
    · cases hy
theorem snapLeaf_nat {l : Leaf} {x : l.C} {α : Type} (k : l.C → Option α) : snapLeaf lp h l x k = (snapLeaf lp h l x some).bind k := by
  cases l <;> simp [snapLeaf, Option.bind_assoc]
theorem snapLT_nat : ∀ (ls : List Leaf) (x : LT ls) {α : Type} (k : LT ls → Option α), snapLT lp h ls x k = (snapLT lp h ls x some).bind k
  | [], x, _, k => rfl
  | [l], x, _, k => snapLeaf_nat k
  | l :: l' :: ls, x, _, k => by
    simp only [snapLT]
    rw [snapLeaf_nat, snapLeaf_nat (k := fun y => snapLT lp h (l' :: ls) x.2 fun z => some (y, z)), Option.bind_assoc]
    congr 1; funext y
    rw [snapLT_nat (l' :: ls), snapLT_nat (l' :: ls) x.2 (fun z => some (y, z)), Option.bind_assoc]
    rfl
theorem snapTy_nat {t : Ty} {x : t.C} {α : Type} (k : t.C → Option α) : snapTy lp h t x k = (snapTy lp h t x some).bind k := by
  cases t with
  | leaf l => exact snapLeaf_nat k
  | agg ls => exact snapLT_nat ls x k
theorem snapTT_nat : ∀ (ts : List Ty) (x : TT ts) {α : Type} (k : TT ts → Option α), snapTT lp h ts x k = (snapTT lp h ts x some).bind k
  | [], x, _, k => rfl
  | [t], x, _, k => snapTy_nat k
  | t :: t' :: ts, x, _, k => by
    simp only [snapTT]
    rw [snapTy_nat, snapTy_nat (k := fun y => snapTT lp h (t' :: ts) x.2 fun z => some (y, z)), Option.bind_assoc]
    congr 1; funext y
    rw [snapTT_nat (t' :: ts), snapTT_nat (t' :: ts) x.2 (fun z => some (y, z)), Option.bind_assoc]
    rfl
theorem snapLT_ok (hr : Rel base ρ h w) : ∀ (ls : List Leaf) (x : LT ls) (k : LT ls → Option α) (res : α), snapLT lp h ls x k = some res →
    ∃ y, k y = some res ∧ ∀ us, RC ρ (LT.un ls x) us → RC (ρ.rows lp h w) (LT.un ls y) us
  | [], x, k, res, hs => ⟨(), hs, fun us hu => by simpa only [LT.un, RC] using hu⟩
  | [l], x, k, res, hs => by
    obtain ⟨y, h1, h2⟩ := snapLeaf_ok hr hs
    refine ⟨y, h1, fun us hu => ?_⟩
    simp only [LT.un, RC] at hu ⊢
    obtain ⟨u, us', e, o, r, e2⟩ := hu
    exact ⟨u, us', e, o, h2 u r, e2⟩
  | l :: l' :: ls, x, k, res, hs => by
    simp only [snapLT] at hs
    obtain ⟨y, h1, h2⟩ := snapLeaf_ok hr hs
    obtain ⟨z, h3, h4⟩ := snapLT_ok hr (l' :: ls) x.2 _ res h1
    refine ⟨(y, z), h3, fun us hu => ?_⟩
    simp only [LT.un, RC] at hu ⊢
    obtain ⟨u, us', e, o, r, hu⟩ := hu
    exact ⟨u, us', e, o, h2 u r, h4 us' hu⟩
theorem snapTy_ok (hr : Rel base ρ h w) {t : Ty} {x : t.C} {k : t.C → Option α} {res : α} (hs : snapTy lp h t x k = some res) :
    ∃ y, k y = some res ∧ ∀ u, R ρ (t.un x) u → R (ρ.rows lp h w) (t.un y) u := by
  cases t with
  | leaf l => exact snapLeaf_ok hr hs
  | agg ls =>
    obtain ⟨y, h1, h2⟩ := snapLT_ok hr ls x k res hs
    refine ⟨y, h1, fun u hu => ?_⟩
    simp only [Ty.un, R] at hu ⊢
    obtain ⟨us, e, hu⟩ := hu
    exact ⟨us, e, h2 us hu⟩
theorem snapTT_ok (hr : Rel base ρ h w) : ∀ (ts : List Ty) (x : TT ts) (k : TT ts → Option α) (res : α), snapTT lp h ts x k = some res →
    ∃ y, k y = some res ∧ ∀ us, RL ρ (TT.un ts x) us → RL (ρ.rows lp h w) (TT.un ts y) us
  | [], x, k, res, hs => ⟨(), hs, fun us hu => by simpa only [TT.un, RL] using hu⟩
  | [l], x, k, res, hs => by
    obtain ⟨y, h1, h2⟩ := snapTy_ok hr hs
    refine ⟨y, h1, fun us hu => ?_⟩
    simp only [TT.un, RL] at hu ⊢
    obtain ⟨u, us', e, r, e2⟩ := hu
    exact ⟨u, us', e, h2 u r, e2⟩
  | l :: l' :: ls, x, k, res, hs => by
    simp only [snapTT] at hs
    obtain ⟨y, h1, h2⟩ := snapTy_ok hr hs
    obtain ⟨z, h3, h4⟩ := snapTT_ok hr (l' :: ls) x.2 _ res h1
    refine ⟨(y, z), h3, fun us hu => ?_⟩
    simp only [TT.un, RL] at hu ⊢
    obtain ⟨u, us', e, r, hu⟩ := hu
    exact ⟨u, us', e, h2 u r, h4 us' hu⟩
theorem snapRes_ok (hr : Rel base ρ h w) {r : Res} {x : r.C} {k : r.C → Option α} {res : α} (hs : snapRes lp h r x k = some res) :
    ∃ y, k y = some res ∧ ∀ u, R ρ (r.un x) u → R (ρ.rows lp h w) (r.un y) u := by
  cases r with
  | one t => exact snapTy_ok hr hs
  | many ts =>
    obtain ⟨y, h1, h2⟩ := snapTT_ok hr ts x k res hs
    refine ⟨y, h1, fun u hu => ?_⟩
    simp only [Res.un, R] at hu ⊢
    obtain ⟨us, e, hu⟩ := hu
    exact ⟨us, e, h2 us hu⟩
end snaps

section pure
variable {P : Program} {T : Table} {A : Ann} {fn : Func} {rs : Res}
/-- With rows alone nothing is the call's own. -/
theorem Rel.rows {base : Nat} {ρ : Ren} {h : H} {w : World} (hr : Rel base ρ h w) : Rel w.heap.size (ρ.rows true h w) H.empty w := by
  refine ⟨Nat.le_refl _, fun id g x hx => (by cases hx), fun id cs e hm => (by cases hm), fun id g x cs e _ hm => (by cases hm), fun _ _ => rfl, fun id id' cs cs' e e' b x b' x' _ hm => (by cases hm), fun f b i us hf => ?_, fun b i us hf => (by cases hf.1), fun f b i us id cs e x _ hm => (by cases hm)⟩
  rcases hf with ⟨_, ⟨_, f', hf⟩ | ⟨hh, _⟩ | ⟨id, cs, e, x, c, t, hm, hb, hc, rfl, rfl⟩⟩
  · exact hr.fzok f' b i us hf
  · cases hh
  · refine ⟨c, t, (0, 0), hc, fun j u hu => ?_⟩
    rw [List.getElem?_take] at hu
    split at hu
    · simpa using hu
    · cases hu
/-- A function on rows. -/
theorem mkP_ok (hT : TabOK P T) (hm : P.follows .mixedOrders = true) {f : FuncId} (hf : P.funcs[f]? = some fn) (hn : (fn.name == "runtime.NumGoroutine") = false) {ts : List Ty} {g : TT ts → Option rs.C}
    (he : ∀ x, ((evalFn P T A fn rs (TT.un ts x) H.empty).bind fun p => snapRes false p.2 rs p.1 some) = g x) : EntryOK P f (mkP ts rs g) := by
  intro args h
  refine ⟨⟨(TT.pack ts args).bind fun x => (snapTT true h ts x some).bind fun y => (g y).bind fun r => some (rs.un r, h), fun α k => ?_⟩, fun v h' hv => ?_⟩
  · simp only [mkP, Option.bind_assoc]
    congr 1; funext x
    rw [snapTT_nat]
    cases snapTT true h ts x some with
    | none => rfl
    | some y => cases hgy : g y <;> simp [hgy]
  · simp only [mkP, Option.bind_eq_some_iff] at hv
    obtain ⟨x, hx, hv⟩ := hv
    have hh : h' = h := by
      rw [snapTT_nat] at hv
      simp only [Option.bind_eq_some_iff, Option.some.injEq, Prod.mk.injEq] at hv
      obtain ⟨_, _, _, _, _, rfl⟩ := hv
      rfl
    refine ⟨fun _ => hh, ?_⟩
    -- some start is wanted to read off what is called
    have hy0 : ∃ y r, snapTT true h ts x some = some y ∧ g y = some r ∧ v = rs.un r := by
      rw [snapTT_nat] at hv
      simp only [Option.bind_eq_some_iff, Option.some.injEq, Prod.mk.injEq] at hv
      obtain ⟨y, hy, r, hr, rfl, _⟩ := hv
      exact ⟨y, r, hy, hr, rfl⟩
    obtain ⟨y, r, hy, hr, rfl⟩ := hy0
    have hgy := he y
    rw [hr] at hgy
    simp only [Option.bind_eq_some_iff] at hgy
    obtain ⟨⟨r0, h1⟩, hev, hsn⟩ := hgy
    obtain ⟨hfn, hcall⟩ := fn_sound hT hm hf hn hev
    refine ⟨hfn, fun base ρ w us hrel hrl => ?_⟩
    rw [hh]
    rw [← TT.un_pack ts args x hx] at hrl
    obtain ⟨y', hy', hrows⟩ := snapTT_ok hrel ts x some y hy
    simp only [Option.some.injEq] at hy'
    subst hy'
    refine Calls.mono (hcall w.heap.size _ w us hrel.rows (hrows us hrl)) fun e w' hret => ?_
    obtain ⟨ρ1, val, g1, g2, g3, rfl, g5⟩ := hret
    obtain ⟨r', hr', hres⟩ := snapRes_ok g2 hsn
    simp only [Option.some.injEq] at hr'
    subst hr'
    have hval := hres val g5
    have hb : Below base w w' := g3.mono hrel.hb
    have hext := hrel.ext g3
    have hle : ρ.le ⟨ρ.map, fun f b i us => ρ.fz f b i us ∨ FzOf false ρ1 h1 w' f b i us⟩ := ⟨fun _ _ _ h => h, fun _ _ _ _ h => .inl h⟩
    refine ⟨_, val, hle, ?_, hb, rfl, R_mono ⟨fun _ _ _ h => (by cases h), fun f b i us h => Or.inr h⟩ _ _ hval⟩
    refine ⟨hext.hb, hext.used, fun id cs e hm => ?_, hext.gens, hext.top, hext.sep, fun f b i us hf => ?_, fun b i us hf => ?_, fun f b i us id cs e x hf hm => ?_⟩
    · obtain ⟨b, x, c, t, k1, k2, k3, k4, k5⟩ := hext.own id cs e hm
      exact ⟨b, x, c, t, k1, k2, k3, k4, RC_mono hle _ _ k5⟩
    · rcases hf with hf | ⟨_, ⟨hh, _⟩ | ⟨_, hf⟩ | ⟨id, cs, e, x, c, t, hm, hb, hc, rfl, rfl⟩⟩
      · exact hext.fzok f b i us hf
      · cases hh
      · exact g2.fzok true b i us hf
      · refine ⟨c, t, (0, 0), hc, fun j u hu => ?_⟩
        rw [List.getElem?_take] at hu
        split at hu
        · simpa using hu
        · cases hu
    · rcases hf with hf | ⟨_, ⟨hh, _⟩ | ⟨_, hf⟩ | ⟨id', cs', e', x', c', t', hm', hb', hc', rfl, rfl⟩⟩
      · exact hext.fznew b i us hf
      · cases hh
      · exact Nat.le_trans hrel.hb (g2.fznew b i us hf)
      · obtain ⟨b1, x1, c1, t1, k1, k2, k3, k4, k5⟩ := g2.own id' cs' e' hm'
        rw [hb'] at k1; cases k1
        exact Nat.le_trans hrel.hb k2
    · have new : w.heap.size ≤ b → ρ.map id cs.length ≠ some (b, x) := fun k2 hmap => by
        obtain ⟨b2, x2, c2, t2, j1, j2, j3, j4, j5⟩ := hrel.own id cs e hm
        rw [hmap] at j1; cases j1
        have := (Array.getElem?_eq_some_iff.1 j3).1
        omega
      rcases hf with hf | ⟨_, ⟨hh, _⟩ | ⟨_, hf⟩ | ⟨id', cs', e', x', c', t', hm', hb', hc', rfl, rfl⟩⟩
      · exact hext.fzsep f b i us id cs e x hf hm
      · cases hh
      · exact new (g2.fznew b i us hf)
      · intro hmap
        obtain ⟨b1, x1, c1, t1, k1, k2, k3, k4, k5⟩ := g2.own id' cs' e' hm'
        rw [hb'] at k1; cases k1
        obtain ⟨b2, x2, c2, t2, j1, j2, j3, j4, j5⟩ := hrel.own id cs e hm
        have hmap' : ρ.map id cs.length = some (b, x) := hmap
        rw [hmap'] at j1; cases j1
        have := (Array.getElem?_eq_some_iff.1 j3).1
        omega
end pure
end Go.Proofs.Ytadlfinlbaogeaa.Ev
namespace Go.Proofs.Ytadlfinlbaogeaa.Ev
open Go
theorem all_nil (P : Program) : ∀ p ∈ ([] : List (FuncId × Entry)), EntryOK P p.1 p.2 := fun _ h => by cases h
theorem all_cons {P : Program} {f : FuncId} {e : Entry} {l : List (FuncId × Entry)} (h : EntryOK P f e) (t : ∀ p ∈ l, EntryOK P p.1 p.2) : ∀ p ∈ (f, e) :: l, EntryOK P p.1 p.2 := fun p hp => by
  rcases List.mem_cons.1 hp with rfl | hp
  · exact h
  · exact t p hp
end Go.Proofs.Ytadlfinlbaogeaa.Ev
