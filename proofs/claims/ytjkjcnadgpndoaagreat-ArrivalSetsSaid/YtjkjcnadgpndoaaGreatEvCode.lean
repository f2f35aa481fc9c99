/- Regions and code: what the evaluator says of them, the model does. Conditions: 'TabOK', the program follows no compiler in mixed orders. -/
import Derived.Test.YtjkjcnadgpndoaaGreatEvSwap
import Derived.LoopNIn
import Derived.OrdersIn
namespace Go.Proofs.YtjkjcnadgpndoaaGreat.Ev
open Go Go.RowKit
set_option linter.unusedVariables false
set_option linter.unusedSimpArgs false

/-- Among the deferred calls there are marks alone, of blocks that are the call's own. -/
def Marks (base : Nat) (lo : Nat → Prop) (ρ : Ren) (ds : List Deferred) : Prop :=
  (∀ D, lo D → ρ.df D) ∧ ∃ Ds : List Nat, ds = Ds.map (fun D => { target := .collected D, args := #[] }) ∧ Ds.Nodup ∧ ∀ D ∈ Ds, base ≤ D ∧ ρ.df D ∧ ¬ lo D
theorem Marks.mono {base : Nat} {lo : Nat → Prop} {ρ ρ' : Ren} {ds : List Deferred} (h : Marks base lo ρ ds) (hl : ρ.le ρ') : Marks base lo ρ' ds :=
  let ⟨hb, Ds, e, hn, hd⟩ := h
  ⟨fun D hD => hl.2.2.1 D (hb D hD), Ds, e, hn, fun D hD => ⟨(hd D hD).1, hl.2.2.1 D (hd D hD).2.1, (hd D hD).2.2⟩⟩
structure St (P : Program) (T : Table) (base : Nat) (lo : Nat → Prop) (N : Nat) (ρ : Ren) (env : Env) (h : H) (a : Act) (w : World) : Prop where
  rel : Rel base ρ h w
  env : EnvOK ρ env a
  size : a.tmps.size = N
  yok : YOK P base ρ T.dy.yl
  defers : Marks base lo ρ a.defers

section regions
variable {P : Program} {T : Table} {A : Ann} {N base : Nat} {lo : Nat → Prop} {ops : Array Oper} {α : Type} {ro : Option Nat}

theorem wantedV_ok {ρ : Ren} {env : Env} {a : Act} (he : EnvOK ρ env a) {o : Oper} {b : Bool} (hw : wantedV ops env o = some b) : Region.wanted o (yielded ops a.tmps) = b := by
  unfold wantedV at hw
  unfold Region.wanted
  cases hg : o.guard with
  | none => rw [hg] at hw; simpa using hw
  | some gw =>
    obtain ⟨j, want⟩ := gw
    rw [hg] at hw
    simp only at hw ⊢
    unfold yielded
    cases ht : (ops[j]?).bind (·.dst) with
    | none => rw [ht] at hw; simp at hw
    | some t =>
      rw [ht] at hw
      simp only [Option.bind_some] at hw ⊢
      have hr := he t
      split at hw
      · rename_i g hv
        rw [hv, R_bool] at hr
        simp only [Option.some.injEq] at hw
        have : a.tmps[t]? = some (.bool g) := by
          rw [Array.getD_eq_getD_getElem?] at hr
          cases hx : a.tmps[t]? with
          | none => rw [hx] at hr; simp [undef] at hr
          | some x => rw [hx] at hr; simp at hr; rw [hr]
        rw [this, ← hw]
        cases g <;> cases want <;> rfl
      · rename_i hv
        rw [hv] at hr
        simp only [R] at hr
        obtain ⟨us, hu, hl⟩ := hr
        have : us = [] := by simpa [RL] using hl
        subst this
        simp only [Option.some.injEq] at hw
        subst hw
        rw [Array.getD_eq_getD_getElem?] at hu
        cases hx : a.tmps[t]? with
        | none => rfl
        | some x => rw [hx] at hu; simp at hu; subst hu; rfl
      · cases hw
theorem EnvOK.put {ρ : Ren} {env : Env} {a : Act} (he : EnvOK ρ env a) {d : Nat} {v : V} {val : Value} (hd : d < a.tmps.size) (hv : R ρ v val) : EnvOK ρ (env.set d v) (a.put (some d) val) := by
  intro t
  simp only [Env.set, Act.put]
  by_cases ht : t = d
  · subst ht
    simpa [hd] using hv
  · have := he t
    simp only [beq_ne ht, cond_false]
    simpa [Array.getElem?_setIfInBounds_ne (Ne.symm ht)] using this
theorem putD_some {dst : Option Tmp} {v : V} {env : Env} {k : Env → Option α} {res : α} (h : putD N dst v env k = some res) :
    ∃ env', k env' = some res ∧ ((dst = none ∧ env' = env) ∨ ∃ d, dst = some d ∧ d < N ∧ env' = env.set d v) := by
  unfold putD at h
  split at h
  · exact ⟨env, h, .inl ⟨rfl, rfl⟩⟩
  · rename_i d
    cases hb : Nat.blt d N with
    | false => rw [hb] at h; simp at h
    | true => rw [hb] at h; exact ⟨_, h, .inr ⟨d, rfl, by simpa using hb, rfl⟩⟩
theorem putD_eq {dst : Option Tmp} {v : V} {env env' : Env} {k : Env → Option α} (h : (dst = none ∧ env' = env) ∨ ∃ d, dst = some d ∧ d < N ∧ env' = env.set d v) : putD N dst v env k = k env' := by
  rcases h with ⟨rfl, rfl⟩ | ⟨d, rfl, hd, rfl⟩
  · rfl
  · have hb : Nat.blt d N = true := by simpa using hd
    simp only [putD, hb, cond_true]
/-- One operation with its guard. -/
theorem step1 (hT : TabW P T) {p : Oper × Option Nat} {ρ : Ren} {env : Env} {h : H} {a : Act} {w : World} {k : Env → H → Option α} {res : α} (hst : St P T base lo N ρ env h a w)
    (hat : ∀ i, p.2 = some i → h.m i = .fresh ∧ i < h.next)
    (hs : ((eff P T A ops p env h).bind fun q => putD N p.1.dst q.1 env fun env => k env q.2) = some res) {K : Act → World → Prop} {Q : Exit → Act → World → Prop}
    (hk : ∀ ρ' env' h' a' w', ρ.le ρ' → St P T base lo N ρ' env' h' a' w' → Below base w w' → (∀ t, p.1.dst ≠ some t → env' t = env t) → (∃ v, eff P T A ops p env h = some (v, h')) → k env' h' = some res → K a' w') :
    if Region.wanted p.1 (yielded ops a.tmps) then p.1.wpIn (FW ro) 0 P a w K Q else K (a.put p.1.dst undef) w := by
  simp only [Option.bind_eq_some_iff] at hs
  obtain ⟨⟨v, h'⟩, he, hs⟩ := hs
  obtain ⟨env', hs, hput⟩ := putD_some hs
  have fin : ∀ ρ' val w', ρ.le ρ' → Rel base ρ' h' w' → Below base w w' → R ρ' v val → K (a.put p.1.dst val) w' := fun ρ' val w' g1 g2 g3 g4 => by
    refine hk ρ' env' h' _ w' g1 ?_ g3 ?_ ⟨v, he⟩ hs
    · rcases hput with ⟨hd, rfl⟩ | ⟨d, hd, hlt, rfl⟩
      · rw [hd]; exact ⟨g2, hst.env.mono g1, hst.size, hst.yok.mono g1, hst.defers.mono g1⟩
      · rw [hd]; exact ⟨g2, (hst.env.mono g1).put (by rw [hst.size]; exact hlt) g4, by simp [Act.put, hst.size], hst.yok.mono g1, hst.defers.mono g1⟩
    · intro t ht
      rcases hput with ⟨hd, rfl⟩ | ⟨d, hd, hlt, rfl⟩
      · rfl
      · have : t ≠ d := fun e => ht (by rw [hd, e])
        simp [Env.set, beq_ne this]
  have he' := he
  unfold eff at he'
  cases hw : wantedV ops env p.1 with
  | none => rw [hw] at he'; simp at he'
  | some b =>
    rw [wantedV_ok hst.env hw]
    rw [hw] at he'
    cases b with
    | false =>
      simp only [Option.some.injEq, Prod.mk.injEq] at he'
      obtain ⟨rfl, rfl⟩ := he'
      simp only [Bool.false_eq_true, if_false]
      exact fin ρ _ w (Ren.le.refl _) hst.rel (Below.refl _ _) R_unit
    | true =>
      simp only [if_true]
      simp only at he'
      refine wpX_in (fun c hc => by unfold stepOp at he'; rw [hc] at he'; simp at he') (stepOp_sound hT hst.yok hst.rel hst.env hat he' fun ρ' v' h2 val w' g1 g2 g3 g4 g5 => ?_)
      simp only [Option.some.injEq, Prod.mk.injEq] at g5
      obtain ⟨rfl, rfl⟩ := g5
      exact fin ρ' val w' g1 g2 g3 g4
/-- A region in the text's order. -/
theorem plain_ok (hT : TabW P T) {ρ₀ : Ren} {env₀ : Env} {w₀ : World} {k : Env → H → Option α} {res : α} {Q : Exit → Act → World → Prop}
    (hk : ∀ ρ' env' h' a' w', ρ₀.le ρ' → St P T base lo N ρ' env' h' a' w' → Below base w₀ w' → (∀ t, t ∉ writesOps ops.toList → env' t = env₀ t) → k env' h' = some res → Q .normal a' w') :
    ∀ (l : List Oper) (j : Nat), ops.toList.drop j = l → ∀ ρ env h a w, ρ₀.le ρ → St P T base lo N ρ env h a w → Below base w₀ w → (∀ t, t ∉ writesOps ops.toList → env t = env₀ t) →
      runOps P T A N ops (l.map fun o => (o, none)) env h k = some res → wpOpsIn (FW ro) 0 P ops Q (List.range' j l.length) a w
  | [], j, hl, ρ, env, h, a, w, g1, g2, g3, g4, hs => hk ρ env h a w g1 g2 g3 g4 hs
  | o :: l, j, hl, ρ, env, h, a, w, g1, g2, g3, g4, hs => by
    have ho : ops[j]? = some o := by
      have : (ops.toList.drop j)[0]? = some o := by rw [hl]; rfl
      simpa using this
    have hmem : o ∈ ops.toList := by
      have : o ∈ ops.toList.drop j := by rw [hl]; simp
      exact List.mem_of_mem_drop this
    rw [List.map_cons, runOps_cons hT] at hs
    have := step1 (ro := ro) (K := wpOpsIn (FW ro) 0 P ops Q (List.range' (j + 1) l.length)) (Q := Q) hT (p := (o, none)) g2 (fun i hi => by cases hi) hs (fun ρ' env' h' a' w' k1 k2 k3 k4 _ k5 =>
      plain_ok hT hk l (j + 1) (by rw [← List.tail_drop, hl]; rfl) ρ' env' h' a' w' (g1.trans k1) k2 (g3.trans k3) (fun t ht => by
        rw [k4 t (fun hd => ht (List.mem_filterMap.2 ⟨o, hmem, hd⟩)), g4 t ht]) k5)
    simp only [List.length_cons, List.range'_succ, wpOpsIn, ho]
    simp only at this
    split
    · rename_i hw; rw [if_pos hw] at this; exact this
    · rename_i hw; rw [if_neg hw] at this; exact ⟨fun _ _ => trivial, this⟩

/-! ### A region that draws its order -/

theorem H.put_comm (h : H) {i j : Nat} (hne : i ≠ j) (s t : Slot) : (h.put i s).put j t = (h.put j t).put i s := by
  simp only [H.put]
  congr 1
  funext n
  by_cases hi : n = i
  · subst hi; simp [beq_ne hne]
  · by_cases hj : n = j
    · subst hj; simp [beq_ne (Ne.symm hne)]
    · simp [beq_ne hi, beq_ne hj]
theorem swap_heap (hT : TabW P T) {x y : Oper × Option Nat} {env : Env} (hp : pairOk (cls T A x.1) (cls T A y.1) = true ∨ (conflC (cls T A x.1) (cls T A y.1) = true ∧ apartA (addrOf x.1 x.2 env) (addrOf y.1 y.2 env) = true)) (hx : (cls T A x.1).isN = true → ∃ i, x.2 = some i) (hy : (cls T A y.1).isN = true → ∃ i, y.2 = some i)
    (hne : ∀ i j, x.2 = some i → y.2 = some j → i ≠ j) {h h1 h2 : H} {u v : V} (h1e : eff P T A ops x env h = some (u, h1)) (h2e : eff P T A ops y env h1 = some (v, h2)) (hfy : cls T A y.1 = .n → ∀ id, y.2 = some id → h.m id = .fresh ∧ id < h.next) (hus : cls T A y.1 = .l → ∀ id g o, addrOf y.1 y.2 env = .hp id g o → h.m id ≠ .fresh) :
    ∃ h1', eff P T A ops y env h = some (v, h1') ∧ eff P T A ops x env h1' = some (u, h2) := by
  have px : cls T A x.1 = .p → ∃ h1', eff P T A ops y env h = some (v, h1') ∧ eff P T A ops x env h1' = some (u, h2) := fun hc => by
    obtain ⟨r, hr⟩ := eff_p (P := P) (ops := ops) hc env
    rw [hr] at h1e
    cases r with
    | none => simp at h1e
    | some r =>
      simp at h1e
      obtain ⟨rfl, rfl⟩ := h1e
      exact ⟨h2, h2e, by rw [hr]; rfl⟩
  have py : cls T A y.1 = .p → ∃ h1', eff P T A ops y env h = some (v, h1') ∧ eff P T A ops x env h1' = some (u, h2) := fun hc => by
    obtain ⟨r, hr⟩ := eff_p (P := P) (ops := ops) hc env
    rw [hr] at h2e
    cases r with
    | none => simp at h2e
    | some r =>
      simp at h2e
      obtain ⟨rfl, rfl⟩ := h2e
      exact ⟨h, by rw [hr]; rfl, h1e⟩
  rcases hp with hp | ⟨hp, hap⟩
  rotate_left
  · have lx : ∃ up, Loc P T A ops x env h u h1 up := by
      cases hcx : cls T A x.1 with
      | l => exact ⟨none, loc_l hcx h1e⟩
      | w => exact loc_w hT hcx h1e
      | n =>
        obtain ⟨ox, ax⟩ := x
        obtain ⟨i, hi⟩ := hx (by rw [hcx]; rfl)
        simp only at hi hcx
        subst hi
        exact loc_n hcx h1e
      | g =>
        obtain ⟨ox, ax⟩ := x
        obtain ⟨i, hi⟩ := hx (by rw [hcx]; rfl)
        simp only at hi hcx
        subst hi
        exact loc_g hcx h1e (fun cs e => by rw [e] at hap; simp [apartA] at hap)
      | _ => rw [hcx] at hp; simp [conflC] at hp
    have ly : ∃ up, Loc P T A ops y env h1 v h2 up := by
      cases hcy : cls T A y.1 with
      | l => exact ⟨none, loc_l hcy h2e⟩
      | w => exact loc_w hT hcy h2e
      | n =>
        obtain ⟨oy, ay⟩ := y
        obtain ⟨i, hi⟩ := hy (by rw [hcy]; rfl)
        simp only at hi hcy
        subst hi
        exact loc_n hcy h2e
      | g =>
        obtain ⟨oy, ay⟩ := y
        obtain ⟨i, hi⟩ := hy (by rw [hcy]; rfl)
        simp only at hi hcy
        subst hi
        exact loc_g hcy h2e (fun cs e => by rw [e] at hap; revert hap; cases addrOf _ _ _ <;> simp [apartA])
      | _ => rw [hcy] at hp; cases hcx : cls T A x.1 <;> rw [hcx] at hp <;> simp [conflC] at hp
    obtain ⟨ux, lx⟩ := lx
    obtain ⟨uy, ly⟩ := ly
    exact loc_swap lx ly hap
  have rr : (cls T A x.1 = .r ∨ cls T A x.1 = .l ∨ cls T A x.1 = .m) → (cls T A y.1 = .r ∨ cls T A y.1 = .l ∨ cls T A y.1 = .m) → ∃ h1', eff P T A ops y env h = some (v, h1') ∧ eff P T A ops x env h1' = some (u, h2) := fun hcx hcy => by
    have e1 := eff_r hT hcx env h _ h1e
    simp only at e1
    subst e1
    have e2 := eff_r hT hcy env h1 _ h2e
    simp only at e2
    subst e2
    exact ⟨h2, h2e, h1e⟩
  cases hcx : cls T A x.1 <;> cases hcy : cls T A y.1 <;> rw [hcx, hcy] at hp <;> simp only [pairOk, Bool.false_eq_true] at hp <;> (try exact px hcx) <;> (try exact py hcy) <;> (try first | exact rr (.inl hcx) (.inl hcy) | exact rr (.inl hcx) (.inr (.inl hcy)) | exact rr (.inl hcx) (.inr (.inr hcy)) | exact rr (.inr (.inl hcx)) (.inl hcy) | exact rr (.inr (.inl hcx)) (.inr (.inl hcy)) | exact rr (.inr (.inl hcx)) (.inr (.inr hcy)) | exact rr (.inr (.inr hcx)) (.inl hcy) | exact rr (.inr (.inr hcx)) (.inr (.inl hcy)) | exact rr (.inr (.inr hcx)) (.inr (.inr hcy)))
  case m.n =>
    obtain ⟨oy, ay⟩ := y
    obtain ⟨j, hj⟩ := hy (by rw [hcy]; rfl)
    simp only at hj hcy
    subst hj
    have e1 := eff_r hT (.inr (.inr hcx)) env h _ h1e
    simp only at e1
    subst e1
    obtain ⟨s, hs⟩ := eff_n (P := P) (ops := ops) (i := j) hcy env
    rw [hs] at h2e ⊢
    cases s with
    | none => simp at h2e
    | some s =>
      obtain ⟨v', sv⟩ := s
      simp only [Option.map_some, Option.some.injEq, Prod.mk.injEq] at h2e
      obtain ⟨rfl, rfl⟩ := h2e
      refine ⟨_, rfl, ?_⟩
      cases sv with
      | none => exact h1e
      | some sl => exact eff_m hT hcx env sl (hfy hcy j rfl).1 _ h1e
  case y.n =>
    obtain ⟨oy, ay⟩ := y
    obtain ⟨j, hj⟩ := hy (by rw [hcy]; rfl)
    simp only at hj hcy
    subst hj
    obtain ⟨s, hs⟩ := eff_n (P := P) (ops := ops) (i := j) hcy env
    rw [hs] at h2e ⊢
    cases s with
    | none => simp at h2e
    | some s =>
      obtain ⟨v', sv⟩ := s
      simp only [Option.map_some, Option.some.injEq, Prod.mk.injEq] at h2e
      obtain ⟨rfl, rfl⟩ := h2e
      refine ⟨_, rfl, ?_⟩
      cases sv with
      | none => exact h1e
      | some sl => exact ((eff_y hT hcx env _ h1e).2.2 j sl (hfy hcy j rfl).2 (hfy hcy j rfl).1).2
  case y.l =>
    have e2 := (loc_l hcy h2e).here
    simp only [upd] at e2
    subst e2
    obtain ⟨_, k2, _⟩ := eff_y hT hcx env _ h1e
    have hall := (loc_l hcy h2e).all h fun id g o ha => (k2 id (hus hcy id g o ha)).symm
    exact ⟨h, hall, h1e⟩
  case l.y =>
    have e1 := (loc_l hcx h1e).here
    simp only [upd] at e1
    subst e1
    obtain ⟨_, k2, _⟩ := eff_y hT hcy env _ h2e
    exact ⟨h2, h2e, loc_l2 hcx h1e h2 fun id g o _ hf => k2 id hf⟩
  case n.n =>
    obtain ⟨ox, ax⟩ := x
    obtain ⟨oy, ay⟩ := y
    obtain ⟨i, hi⟩ := hx (by rw [hcx]; rfl)
    obtain ⟨j, hj⟩ := hy (by rw [hcy]; rfl)
    simp only at hi hj hcx hcy
    subst hi; subst hj
    have hij := hne i j rfl rfl
    obtain ⟨r, hr⟩ := eff_n (P := P) (ops := ops) (i := i) hcx env
    obtain ⟨s, hs⟩ := eff_n (P := P) (ops := ops) (i := j) hcy env
    rw [hr] at h1e
    rw [hs] at h2e
    cases r with
    | none => simp at h1e
    | some r =>
      cases s with
      | none => simp at h2e
      | some s =>
        obtain ⟨u', su⟩ := r
        obtain ⟨v', sv⟩ := s
        simp only [Option.map_some, Option.some.injEq, Prod.mk.injEq] at h1e h2e
        obtain ⟨rfl, rfl⟩ := h1e
        obtain ⟨rfl, rfl⟩ := h2e
        refine ⟨_, by rw [hs]; rfl, ?_⟩
        rw [hr]
        simp only [Option.map_some, Option.some.injEq, Prod.mk.injEq, true_and]
        cases su <;> cases sv <;> simp [H.put_comm _ hij]
theorem op_l {o : Oper} (hc : cls T A o = .l) : ∃ t x, o.op = .load t x := by
  obtain ⟨dst, op, type, pos, after, guard⟩ := o
  cases op <;> simp only [cls, reduceCtorEq] at hc
  case box e x => cases hl : litRo A dst <;> rw [hl] at hc <;> simp at hc
  case buildSlice t n ps => cases hl : litOwn A dst <;> rw [hl] at hc <;> simp at hc
  case call c =>
    obtain ⟨callee, args, ts⟩ := c
    cases callee with
    | invoke _ _ => simp at hc
    | builtin b => cases b <;> first | (simp at hc; done) | (revert hc; cases (A.apps.any fun t => dst == some t) <;> simp)
    | value f =>
      cases f with
      | func g => cases hqg : (T.st g).quiet <;> cases hqm : (T.st g).mono <;> cases hqf : (T.st g).free <;> cases hql : (T.st g).loc <;> simp [hqg, hqm, hqf, hql] at hc
      | _ => revert hc; (try dsimp only); cases (A.qd.any fun t => dst == some t) <;> cases (A.yd.any fun t => dst == some t) <;> simp
  case load t x => exact ⟨t, x, rfl⟩
theorem addr_n {o : Oper} {id : Nat} {env : Env} (hc : cls T A o = .n) : addrOf o (some id) env = .hp id 0 0 := by
  obtain ⟨dst, op, type, pos, after, guard⟩ := o
  cases op <;> simp only [cls, reduceCtorEq] at hc <;> try rfl
  case load t x => cases hl : litRol A dst <;> rw [hl] at hc <;> simp at hc
  case call c =>
    obtain ⟨callee, args, ts⟩ := c
    cases callee with
    | invoke _ _ => simp at hc
    | builtin b => cases b <;> first | (simp at hc; done) | rfl | (revert hc; cases (A.apps.any fun t => dst == some t) <;> simp)
    | value f =>
      cases f with
      | func g => cases hqg : (T.st g).quiet <;> cases hqm : (T.st g).mono <;> cases hqf : (T.st g).free <;> cases hql : (T.st g).loc <;> simp [hqg, hqm, hqf, hql] at hc
      | _ => rfl
/-- The number of a block that is still to come stays free. -/
theorem keeps_fresh (hT : TabW P T) {x y : Oper × Option Nat} {env : Env} (hp : pairOk (cls T A x.1) (cls T A y.1) = true ∨ (conflC (cls T A x.1) (cls T A y.1) = true ∧ apartA (addrOf x.1 x.2 env) (addrOf y.1 y.2 env) = true)) (hcy : cls T A y.1 = .n) (hx : (cls T A x.1).isN = true → ∃ i, x.2 = some i)
    (hne : ∀ i j, x.2 = some i → y.2 = some j → i ≠ j) {h h1 : H} {u : V} (h1e : eff P T A ops x env h = some (u, h1)) {id : Nat} (hid : y.2 = some id) (hf : h.m id = .fresh ∧ id < h.next) : h1.m id = .fresh ∧ id < h1.next := by
  have loc : ∀ up, Loc P T A ops x env h u h1 up → apartA (addrOf x.1 x.2 env) (addrOf y.1 y.2 env) = true → h1.m id = .fresh ∧ id < h1.next := fun up hl ha => by
    rw [hl.here]
    cases up with
    | none => exact hf
    | some q =>
      obtain ⟨i, s⟩ := q
      obtain ⟨g, o, e⟩ := hl.at_ i s rfl
      rw [e, hid, addr_n hcy] at ha
      have hn : id ≠ i := fun e => by subst e; simp [apartA] at ha
      simp [upd, H.put, beq_ne hn, hf.1, hf.2]
  have same : (cls T A x.1 = .r ∨ cls T A x.1 = .l ∨ cls T A x.1 = .m) → h1.m id = .fresh ∧ id < h1.next := fun hcx => by
    have e1 := eff_r hT hcx env h _ h1e
    simp only at e1
    rw [e1]; exact hf
  cases hcx : cls T A x.1 with
  | p =>
    obtain ⟨r, hr⟩ := eff_p (P := P) (ops := ops) hcx env
    rw [hr] at h1e
    cases r with
    | none => simp at h1e
    | some r => simp at h1e; rw [← h1e.2]; exact hf
  | r => exact same (.inl hcx)
  | l => exact same (.inr (.inl hcx))
  | m => exact same (.inr (.inr hcx))
  | n =>
    obtain ⟨ox, ax⟩ := x
    obtain ⟨i, hi⟩ := hx (by rw [hcx]; rfl)
    simp only at hi hcx
    subst hi
    have hn := hne i id rfl hid
    obtain ⟨r, hr⟩ := eff_n (P := P) (ops := ops) (i := i) hcx env
    rw [hr] at h1e
    cases r with
    | none => simp at h1e
    | some r =>
      obtain ⟨u', s⟩ := r
      simp only [Option.map_some, Option.some.injEq, Prod.mk.injEq] at h1e
      obtain ⟨rfl, rfl⟩ := h1e
      cases s with
      | none => exact hf
      | some s => simp [H.put, beq_ne (Ne.symm hn), hf.1, hf.2]
  | w =>
    rw [hcx, hcy] at hp
    rcases hp with hp | ⟨_, ha⟩
    · simp [pairOk] at hp
    · obtain ⟨up, hl⟩ := loc_w hT hcx h1e
      exact loc up hl ha
  | g =>
    rw [hcx, hcy] at hp
    rcases hp with hp | ⟨_, ha⟩
    · simp [pairOk] at hp
    · obtain ⟨ox, ax⟩ := x
      obtain ⟨i, hi⟩ := hx (by rw [hcx]; rfl)
      simp only at hi hcx
      subst hi
      obtain ⟨up, hl⟩ := loc_g hcx h1e (fun cs e => by rw [e] at ha; simp [apartA] at ha)
      exact loc up hl ha
  | y =>
    obtain ⟨k1, _, k2⟩ := eff_y hT hcx env _ h1e
    exact ⟨(k2 id .dead hf.2 hf.1).1, Nat.lt_of_lt_of_le hf.2 k1⟩
  | x =>
    rw [hcx, hcy] at hp
    rcases hp with hp | ⟨hp, _⟩
    · simp [pairOk] at hp
    · simp [conflC] at hp
/-- What a load reads is there as it was. -/
theorem keeps_used (hT : TabW P T) {x y : Oper × Option Nat} {env : Env} (hp : pairOk (cls T A x.1) (cls T A y.1) = true ∨ (conflC (cls T A x.1) (cls T A y.1) = true ∧ apartA (addrOf x.1 x.2 env) (addrOf y.1 y.2 env) = true)) (hcy : cls T A y.1 = .l) (hx : (cls T A x.1).isN = true → ∃ i, x.2 = some i)
    {h h1 : H} {u : V} (h1e : eff P T A ops x env h = some (u, h1)) {id g o : Nat} (ha : addrOf y.1 y.2 env = .hp id g o) (hf : h.m id ≠ .fresh) : h1.m id = h.m id := by
  have loc : ∀ up, Loc P T A ops x env h u h1 up → apartA (addrOf x.1 x.2 env) (addrOf y.1 y.2 env) = true → h1.m id = h.m id := fun up hl hap => by
    rw [hl.here]
    cases up with
    | none => rfl
    | some q =>
      obtain ⟨i, s⟩ := q
      obtain ⟨g', o', e⟩ := hl.at_ i s rfl
      rw [e, ha] at hap
      have hn : id ≠ i := fun e => by subst e; simp [apartA] at hap
      simp [upd, H.put, beq_ne hn]
  have same : (cls T A x.1 = .r ∨ cls T A x.1 = .l ∨ cls T A x.1 = .m) → h1.m id = h.m id := fun hcx => by
    have e1 := eff_r hT hcx env h _ h1e
    simp only at e1
    rw [e1]
  cases hcx : cls T A x.1 with
  | p =>
    obtain ⟨r, hr⟩ := eff_p (P := P) (ops := ops) hcx env
    rw [hr] at h1e
    cases r with
    | none => simp at h1e
    | some r => simp at h1e; rw [← h1e.2]
  | r => exact same (.inl hcx)
  | l => exact same (.inr (.inl hcx))
  | m => exact same (.inr (.inr hcx))
  | y => exact (eff_y hT hcx env _ h1e).2.1 id hf
  | n =>
    rw [hcx, hcy] at hp
    rcases hp with hp | ⟨_, hap⟩
    · simp [pairOk] at hp
    · obtain ⟨ox, ax⟩ := x
      obtain ⟨i, hi⟩ := hx (by rw [hcx]; rfl)
      simp only at hi hcx
      subst hi
      obtain ⟨up, hl⟩ := loc_n hcx h1e
      exact loc up hl hap
  | w =>
    rw [hcx, hcy] at hp
    rcases hp with hp | ⟨_, hap⟩
    · simp [pairOk] at hp
    · obtain ⟨up, hl⟩ := loc_w hT hcx h1e
      exact loc up hl hap
  | g =>
    rw [hcx, hcy] at hp
    rcases hp with hp | ⟨_, hap⟩
    · simp [pairOk] at hp
    · obtain ⟨ox, ax⟩ := x
      obtain ⟨i, hi⟩ := hx (by rw [hcx]; rfl)
      simp only at hi hcx
      subst hi
      obtain ⟨up, hl⟩ := loc_g hcx h1e (fun cs e => by rw [e] at hap; simp [apartA] at hap)
      exact loc up hl hap
  | x =>
    rw [hcx, hcy] at hp
    rcases hp with hp | ⟨hp, _⟩
    · simp [pairOk] at hp
    · simp [conflC] at hp
/-- A result in its slot. -/
def Put (N : Nat) (dst : Option Tmp) (v : V) (env env' : Env) : Prop := (dst = none ∧ env' = env) ∨ ∃ d, dst = some d ∧ d < N ∧ env' = env.set d v
/-- The operations of a list of places run, each about its address. -/
def Runs (P : Program) (T : Table) (A : Ann) (N : Nat) (ops : Array Oper) (ids : List (Oper × Option Nat)) (hot : Nat → Prop) (τ : Nat → V) : List Nat → Env → H → Env → H → Prop
  | [], env, h, env', h' => env' = env ∧ h' = h
  | i :: l, env, h, env', h' => ∃ p v h1 env1, ids[i]? = some p ∧ eff P T A ops p env h = some (v, h1) ∧ Put N p.1.dst v env env1 ∧ (hot i → addrOf p.1 p.2 env = τ i) ∧ Runs P T A N ops ids hot τ l env1 h1 env' h'
theorem addrOf_set {o : Oper} {at_ : Option Nat} {env : Env} {d : Nat} {v : V} (hd : d ∉ o.looksAt ops) : addrOf o at_ (env.set d v) = addrOf o at_ env := by
  have hx : ∀ x ∈ o.op.operands, ev (env.set d v) x = ev env x := fun x hx => ev_set fun e => hd (by
    subst e
    exact List.mem_append_left _ (List.mem_filterMap.2 ⟨.tmp d, by simpa using hx, rfl⟩))
  obtain ⟨dst, op, type, pos, after, guard⟩ := o
  cases op <;> simp only [Op.operands] at hx <;> simp only [addrOf]
  case load t x => exact hx x (by simp)
  case store t x y => exact hx x (by simp)
  case call c =>
    obtain ⟨callee, args, ts⟩ := c
    cases callee with
    | value f =>
      have hl : args.toList.map (ev (env.set d v)) = args.toList.map (ev env) := List.map_congr_left fun x hm => hx x (by simp [Call.operands]; exact .inr (by simpa using hm))
      cases f <;> simp only [hl]
    | invoke _ _ => rfl
    | builtin b =>
      cases b <;> try rfl
      have hl : args.toList.map (ev (env.set d v)) = args.toList.map (ev env) := List.map_congr_left fun x hm => hx x (by simp [Call.operands]; simpa using hm)
      simp only [hl]
section runs
variable {ids : List (Oper × Option Nat)} {hot : Nat → Prop} {τ : Nat → V}
/-- What one may say of two operations without an order. -/
def May (T : Table) (A : Ann) (ops : Array Oper) (hot : Nat → Prop) (τ : Nat → V) (i j : Nat) (x y : Oper × Option Nat) : Prop :=
  (pairOk (cls T A x.1) (cls T A y.1) = true ∨ (conflC (cls T A x.1) (cls T A y.1) = true ∧ hot i ∧ hot j ∧ apartA (τ i) (τ j) = true)) ∧ x.1.apart ops y.1 = true ∧
    ((cls T A x.1).isN = true → ∃ i, x.2 = some i) ∧ ((cls T A y.1).isN = true → ∃ i, y.2 = some i) ∧ ∀ i j, x.2 = some i → y.2 = some j → i ≠ j
theorem swap_ok (hT : TabW P T) {i j : Nat} {l : List Nat} {env env' : Env} {h h' : H} (hm : ∀ x y, ids[i]? = some x → ids[j]? = some y → May T A ops hot τ i j x y) (hfr : ∀ y, ids[j]? = some y → cls T A y.1 = .n → ∀ id, y.2 = some id → h.m id = .fresh ∧ id < h.next)
    (hus : ∀ y, ids[j]? = some y → cls T A y.1 = .l → ∀ id g o, addrOf y.1 y.2 env = .hp id g o → h.m id ≠ .fresh)
    (hs : Runs P T A N ops ids hot τ (i :: j :: l) env h env' h') : Runs P T A N ops ids hot τ (j :: i :: l) env h env' h' := by
  obtain ⟨x, u, h1, env1, hix, h1e, hput1, hax, y, v, h2, env2, hjy, h2e, hput2, hay, hs⟩ := hs
  obtain ⟨hp, hap, hx, hy, hne⟩ := hm x y hix hjy
  obtain ⟨a1, a2, a3⟩ := Oper.apart_spec hap
  have hay' : addrOf y.1 y.2 env1 = addrOf y.1 y.2 env := by
    rcases hput1 with ⟨_, rfl⟩ | ⟨d, hd, _, rfl⟩
    · rfl
    · exact addrOf_set (a1 d hd)
  have h2e' : eff P T A ops y env h1 = some (v, h2) := by
    rcases hput1 with ⟨_, rfl⟩ | ⟨d, hd, _, rfl⟩
    · exact h2e
    · rw [eff_set (a1 d hd)] at h2e; exact h2e
  have hp' : pairOk (cls T A x.1) (cls T A y.1) = true ∨ (conflC (cls T A x.1) (cls T A y.1) = true ∧ apartA (addrOf x.1 x.2 env) (addrOf y.1 y.2 env) = true) := by
    rcases hp with hp | ⟨hp, k1, k2, k3⟩
    · exact .inl hp
    · exact .inr ⟨hp, by rw [hax k1, ← hay', hay k2]; exact k3⟩
  obtain ⟨h1', k1, k2⟩ := swap_heap hT hp' hx hy hne h1e h2e' (hfr y hjy) (hus y hjy)
  rcases hput2 with ⟨hd2, rfl⟩ | ⟨d2, hd2, hl2, rfl⟩
  · exact ⟨y, v, h1', env, hjy, k1, .inl ⟨hd2, rfl⟩, fun hh => by rw [← hay']; exact hay hh, x, u, h2, _, hix, k2, hput1, hax, hs⟩
  · refine ⟨y, v, h1', env.set d2 v, hjy, k1, .inr ⟨d2, hd2, hl2, rfl⟩, fun hh => by rw [← hay']; exact hay hh, x, u, h2, _, hix, by rw [eff_set (a3 d2 hd2)]; exact k2, ?_, fun hh => by rw [addrOf_set (a3 d2 hd2)]; exact hax hh, hs⟩
    rcases hput1 with ⟨hd1, rfl⟩ | ⟨d1, hd1, hl1, rfl⟩
    · exact .inl ⟨hd1, rfl⟩
    · refine .inr ⟨d1, hd1, hl1, ?_⟩
      exact Env.set_comm env (fun e => a2 d1 hd1 (by rw [hd2, e])) u v
theorem runs_addr {j : Nat} {post : List Nat} {env' : Env} {h' : H} {y : Oper × Option Nat} (hy : ids[j]? = some y) (hj : hot j) : ∀ (pre : List Nat) (env : Env) (h : H), (∀ i ∈ pre, ∀ x, ids[i]? = some x → x.1.apart ops y.1 = true) → Runs P T A N ops ids hot τ (pre ++ j :: post) env h env' h' → addrOf y.1 y.2 env = τ j
  | [], env, h, _, ⟨p, v, h1, env1, hp, _, _, ha, _⟩ => by
    rw [hp] at hy; cases hy
    exact ha hj
  | i :: pre, env, h, hall, ⟨p, v, h1, env1, hp, _, hput, ha, hs⟩ => by
    have := runs_addr hy hj pre env1 h1 (fun z hz => hall z (by simp [hz])) hs
    obtain ⟨a1, _, _⟩ := Oper.apart_spec (hall i (by simp) p hp)
    rcases hput with ⟨_, rfl⟩ | ⟨d, hd, _, rfl⟩
    · exact this
    · rw [addrOf_set (a1 d hd)] at this; exact this
/-- An operation to the front. -/
theorem front_ok (hT : TabW P T) {j : Nat} {post : List Nat} {env' : Env} {h' : H} : ∀ (pre : List Nat) (env : Env) (h : H),
    (∀ i ∈ pre, ∀ x y, ids[i]? = some x → ids[j]? = some y → May T A ops hot τ i j x y) → (∀ y, ids[j]? = some y → cls T A y.1 = .n → ∀ id, y.2 = some id → h.m id = .fresh ∧ id < h.next) →
    (∀ y, ids[j]? = some y → cls T A y.1 = .l → ∀ id g o, addrOf y.1 y.2 env = .hp id g o → h.m id ≠ .fresh) →
    Runs P T A N ops ids hot τ (pre ++ j :: post) env h env' h' → Runs P T A N ops ids hot τ (j :: (pre ++ post)) env h env' h'
  | [], env, h, _, _, _, hs => hs
  | i :: pre, env, h, hall, hfr, hus, hs => by
    refine swap_ok hT (hall i (by simp)) hfr hus ?_
    obtain ⟨x, u, h1, env1, hix, h1e, hput1, hax, hs⟩ := hs
    have hpp : ∀ y, ids[j]? = some y → (pairOk (cls T A x.1) (cls T A y.1) = true ∨ (conflC (cls T A x.1) (cls T A y.1) = true ∧ apartA (addrOf x.1 x.2 env) (addrOf y.1 y.2 env) = true)) ∧ addrOf y.1 y.2 env1 = addrOf y.1 y.2 env := fun y hy => by
      obtain ⟨hp, hap, hx, hyN, hne⟩ := hall i (by simp) x y hix hy
      obtain ⟨a1, _, _⟩ := Oper.apart_spec hap
      have hay : addrOf y.1 y.2 env1 = addrOf y.1 y.2 env := by
        rcases hput1 with ⟨_, rfl⟩ | ⟨d, hd, _, rfl⟩
        · rfl
        · exact addrOf_set (a1 d hd)
      refine ⟨?_, hay⟩
      rcases hp with hp | ⟨hp, k1, k2, k3⟩
      · exact .inl hp
      · refine .inr ⟨hp, ?_⟩
        have := runs_addr hy k2 pre env1 h1 (fun z hz x' hx' => (hall z (by simp [hz]) x' y hx' hy).2.1) hs
        rw [← hay, this, hax k1]; exact k3
    refine ⟨x, u, h1, env1, hix, h1e, hput1, hax, front_ok hT pre env1 h1 (fun z hz => hall z (by simp [hz])) (fun y hy hcy id hid => ?_) (fun y hy hcy id g o ha => ?_) hs⟩
    · obtain ⟨hp, hap, hx, hyN, hne⟩ := hall i (by simp) x y hix hy
      exact keeps_fresh hT (hpp y hy).1 hcy hx hne h1e hid (hfr y hy hcy id hid)
    · obtain ⟨hp, hap, hx, hyN, hne⟩ := hall i (by simp) x y hix hy
      rw [(hpp y hy).2] at ha
      have hu := hus y hy hcy id g o ha
      rw [keeps_used hT (hpp y hy).1 hcy hx h1e ha hu]
      exact hu
/-- The run in the text's order, with the addresses off its last slots. -/
theorem runs_of (hT : TabW P T) (hids : ∀ (i : Nat) p, ids[i]? = some p → ops[i]? = some p.1) (hhot : ∀ i, hot i → steady ops i = true) {k : Env → H → Option α} {res : α} : ∀ (l : List (Oper × Option Nat)) (n : Nat) (env : Env) (h : H), ids.drop n = l →
    runOps P T A N ops l env h k = some res → ∃ env' h', k env' h' = some res ∧ (∀ t, (∀ p ∈ l, p.1.dst ≠ some t) → env' t = env t) ∧ Runs P T A N ops ids hot (addrAt ids env') (List.range' n l.length) env h env' h'
  | [], n, env, h, _, hs => ⟨env, h, hs, fun _ _ => rfl, rfl, rfl⟩
  | p :: l, n, env, h, hl, hs => by
    rw [runOps_cons hT] at hs
    simp only [Option.bind_eq_some_iff] at hs
    obtain ⟨⟨v, h1⟩, he, hs⟩ := hs
    obtain ⟨env1, hs, hput⟩ := putD_some hs
    obtain ⟨env', h', hk, hsame, hr⟩ := runs_of hT hids hhot l (n + 1) env1 h1 (by rw [← List.tail_drop, hl]; rfl) hs
    have hp : ids[n]? = some p := by
      have : (ids.drop n)[0]? = some p := by rw [hl]; rfl
      simpa using this
    have hsame' : ∀ t, (∀ q ∈ p :: l, q.1.dst ≠ some t) → env' t = env t := fun t ht => by
      rw [hsame t fun q hq => ht q (by simp [hq])]
      rcases hput with ⟨_, rfl⟩ | ⟨d, hd, _, rfl⟩
      · rfl
      · have : t ≠ d := fun e => ht p (by simp) (by rw [hd, e])
        simp [Env.set, beq_ne this]
    refine ⟨env', h', hk, hsame', ?_⟩
    rw [List.length_cons, List.range'_succ]
    refine ⟨p, v, h1, env1, hp, he, hput, fun hh => ?_, hr⟩
    have hst := hhot n hh
    have hop := hids n p hp
    simp only [addrAt, hp]
    unfold steady at hst
    rw [hop] at hst
    have hno : ∀ t, t ∈ addrTmps p.1 → env' t = env t := fun t ht => by
      simp only [List.all_eq_true] at hst
      have hst := hst t ht
      refine hsame' t fun q hq => ?_
      have hq' : q ∈ ids.drop n := by rw [hl]; exact hq
      obtain ⟨m, hm⟩ := List.mem_iff_getElem?.1 hq'
      rw [List.getElem?_drop] at hm
      have := hids _ q hm
      have hmem : q.1 ∈ ops.toList.drop n := by
        refine List.mem_iff_getElem?.2 ⟨m, ?_⟩
        rw [List.getElem?_drop]
        simpa using this
      simpa using hst q.1 hmem
    obtain ⟨⟨dst, op, type, pos, after, guard⟩, at_⟩ := p
    cases op <;> try rfl
    case load t x =>
      simp only [addrOf]
      cases x with
      | tmp t => exact (hno t (by simp [addrTmps])).symm
      | _ => rfl
    case store t x y =>
      simp only [addrOf]
      cases x with
      | tmp t => exact (hno t (by simp [addrTmps])).symm
      | _ => rfl
    case call c =>
      obtain ⟨callee, args, ts⟩ := c
      cases callee with
      | value f =>
        cases f <;> try rfl
        have hl : args.toList.map (ev env') = args.toList.map (ev env) := List.map_congr_left fun x hx => by
          cases x with
          | tmp t => exact (hno t (by simp only [addrTmps, List.mem_filterMap]; exact ⟨.tmp t, hx, rfl⟩))
          | _ => rfl
        simp only [addrOf, hl]
      | invoke _ _ => rfl
      | builtin b =>
        cases b <;> try rfl
        have hl : args.toList.map (ev env') = args.toList.map (ev env) := List.map_congr_left fun x hx => by
          cases x with
          | tmp t => exact hno t (by simp only [addrTmps, List.mem_filterMap]; exact ⟨.tmp t, hx, rfl⟩)
          | _ => rfl
        simp only [addrOf, hl]
theorem guardsC_some {env : Env} : ∀ {l : List (Nat × Nat)} {x : Option α} {res : α}, guardsC ids env l x = some res → x = some res ∧ ∀ i j, (i, j) ∈ l → apartA (addrAt ids env i) (addrAt ids env j) = true
  | [], x, res, h => ⟨h, by simp⟩
  | (i, j) :: l, x, res, h => by
    obtain ⟨h1, h2⟩ := guardO_some h
    obtain ⟨h3, h4⟩ := guardsC_some h2
    refine ⟨h3, fun a b hab => ?_⟩
    rcases List.mem_cons.1 hab with e | e
    · cases e; exact h1
    · exact h4 a b e
end runs

/-! #### The order that the edges lay down -/

theorem mask_fold (f : List Nat) (S : Nat → Prop) (hf : ∀ (j : Nat) m, f[j]? = some m → S j → ∀ i, m.testBit i = true → S i) : ∀ (es : List Edge) (s : Nat), (∀ i, s.testBit i = true → S i) → (∀ e ∈ es, Region.binds .any e = true → S e.on) →
    ∀ i, (es.foldl (fun s e => if Region.binds .any e then s ||| 2 ^ e.on ||| f.getD e.on 0 else s) s).testBit i = true → S i
  | [], s, hs, _, i, hi => hs i hi
  | e :: es, s, hs, he, i, hi => by
    simp only [List.foldl_cons] at hi
    refine mask_fold f S hf es _ (fun n hn => ?_) (fun e' h' => he e' (by simp [h'])) i hi
    split at hn
    · rename_i hb
      have hS := he e (by simp) hb
      simp only [Nat.testBit_or, Bool.or_eq_true, Nat.testBit_two_pow, decide_eq_true_eq] at hn
      rcases hn with (hn | hn) | hn
      · exact hs n hn
      · exact hn ▸ hS
      · cases hg : f[e.on]? with
        | none => simp [List.getD, hg] at hn
        | some m => simp [List.getD, hg] at hn; exact hf e.on m hg hS n hn
    · exact hs n hn
theorem masks_sound (S : Nat → Prop) : ∀ (l : List Oper) (acc : List Nat) (pre : List Oper), acc.length = pre.length →
    (∀ (j : Nat) o, (pre ++ l)[j]? = some o → S j → ∀ e ∈ o.after, Region.binds .any e = true → S e.on) → (∀ (j : Nat) m, acc[j]? = some m → S j → ∀ i, m.testBit i = true → S i) →
    ∀ (j : Nat) m, (masksOf l acc)[j]? = some m → S j → ∀ i, m.testBit i = true → S i
  | [], acc, pre, _, _, hacc => hacc
  | o :: l, acc, pre, hlen, hcl, hacc => by
    simp only [masksOf]
    refine masks_sound S l (acc ++ [maskOf acc o]) (pre ++ [o]) (by simp [hlen]) (by simpa using hcl) (fun j m hj hS i hi => ?_)
    rcases Nat.lt_or_ge j acc.length with hlt | hge
    · rw [List.getElem?_append_left hlt] at hj
      exact hacc j m hj hS i hi
    · rw [List.getElem?_append_right hge] at hj
      have hj0 : j - acc.length = 0 := by
        cases hq : j - acc.length with
        | zero => rfl
        | succ n => rw [hq] at hj; simp at hj
      rw [hj0] at hj
      simp at hj
      subst hj
      have hje : j = pre.length := by omega
      refine mask_fold acc S hacc o.after.toList 0 (by simp) (fun e he hb => hcl j o (by rw [hje]; simp) hS e (by simpa using he) hb) i hi

theorem withIds_length : ∀ (l : List Oper) (b : Nat), (withIds T A l b).length = l.length
  | [], b => rfl
  | o :: l, b => by
    simp only [withIds]
    cases (cls T A o).isN <;> simp [withIds_length l]
theorem withIds_get : ∀ (l : List Oper) (b i : Nat) (p : Oper × Option Nat), (withIds T A l b)[i]? = some p →
    l[i]? = some p.1 ∧ ((cls T A p.1).isN = true → ∃ id, p.2 = some id) ∧ (∀ id, p.2 = some id → (cls T A p.1).isN = true ∧ b ≤ id ∧ id < b + countN T A l)
  | [], b, i, p, h => by simp [withIds] at h
  | o :: l, b, i, p, h => by
    simp only [withIds, countN] at h ⊢
    cases hn : (cls T A o).isN with
    | true =>
      rw [hn] at h
      simp only [cond_true] at h ⊢
      cases i with
      | zero =>
        simp at h
        subst h
        exact ⟨rfl, fun _ => ⟨b, rfl⟩, fun id hid => by cases hid; exact ⟨hn, Nat.le_refl _, by omega⟩⟩
      | succ i =>
        simp at h
        obtain ⟨h1, h2, h3⟩ := withIds_get l (b + 1) i p h
        exact ⟨by simpa using h1, h2, fun id hid => by obtain ⟨k1, k2, k3⟩ := h3 id hid; exact ⟨k1, by omega, by omega⟩⟩
    | false =>
      rw [hn] at h
      simp only [cond_false] at h ⊢
      cases i with
      | zero =>
        simp at h
        subst h
        exact ⟨rfl, fun hc => (by rw [hc] at hn; cases hn), fun id hid => (by cases hid)⟩
      | succ i =>
        simp at h
        obtain ⟨h1, h2, h3⟩ := withIds_get l b i p h
        exact ⟨by simpa using h1, h2, h3⟩
theorem withIds_lt : ∀ (l : List Oper) (b i j : Nat) (p q : Oper × Option Nat), i < j → (withIds T A l b)[i]? = some p → (withIds T A l b)[j]? = some q → ∀ x y, p.2 = some x → q.2 = some y → x < y
  | [], b, i, j, p, q, _, h, _ => by simp [withIds] at h
  | o :: l, b, i, j, p, q, hij, hp, hq => by
    intro x y hx hy
    cases j with
    | zero => omega
    | succ j =>
      simp only [withIds] at hp hq
      cases hn : (cls T A o).isN with
      | true =>
        rw [hn] at hp hq
        simp only [cond_true, List.getElem?_cons_succ] at hp hq
        cases i with
        | zero =>
          simp at hp
          subst hp
          cases hx
          have := ((withIds_get l (b + 1) j q hq).2.2 y hy).2.1
          omega
        | succ i =>
          simp only [List.getElem?_cons_succ] at hp
          exact withIds_lt l (b + 1) i j p q (by omega) hp hq x y hx hy
      | false =>
        rw [hn] at hp hq
        simp only [cond_false, List.getElem?_cons_succ] at hp hq
        cases i with
        | zero => simp at hp; subst hp; cases hx
        | succ i =>
          simp only [List.getElem?_cons_succ] at hp
          exact withIds_lt l b i j p q (by omega) hp hq x y hx hy
theorem appendS_fresh {h h' : H} {i esz bytes n : Nat} {s sv : SV} {cs : List V} (he : appendS h (some i) esz bytes s cs n = some (sv, h')) : h'.next = h.next ∧ ∀ j, j ≠ i → h.m j = .fresh → h'.m j = .fresh := by
  obtain ⟨a, len, cap, tail⟩ := s
  unfold appendS appendV at he
  simp only at he
  split at he
  · simp only [Option.some.injEq, Prod.mk.injEq] at he
    obtain ⟨_, rfl⟩ := he
    exact ⟨rfl, fun _ _ h => h⟩
  · obtain ⟨_, he⟩ := guardO_some he
    have fresh : ∀ {x : Option (SV × H)}, (if cap = 0 ∧ tail = false ∧ len = 0 then newAt h (some i) cs esz (n * esz) (fun p h' => (match (V.slice p n n true) with | .slice a l c t => some ((⟨a, l, c, t⟩ : SV), h') | _ => none)) else if tail = false ∧ cap < len + n then (cellsOf h (.slice a len cap tail) esz).bind (fun o => newAt h (some i) (o.2 ++ cs) esz ((len + n) * esz) (fun p h' => (match (V.slice p (len + n) (len + n) true) with | .slice a l c t => some ((⟨a, l, c, t⟩ : SV), h') | _ => none))) else none) = some (sv, h') → h'.next = h.next ∧ ∀ j, j ≠ i → h.m j = .fresh → h'.m j = .fresh := fun hq => by
      split at hq
      · simp only [newAt, Option.some.injEq, Prod.mk.injEq] at hq
        obtain ⟨_, rfl⟩ := hq
        exact ⟨rfl, fun j hj hf => by simpa [H.put, beq_ne hj] using hf⟩
      · split at hq
        · simp only [Option.bind_eq_some_iff] at hq
          obtain ⟨o, _, hq⟩ := hq
          simp only [newAt, Option.some.injEq, Prod.mk.injEq] at hq
          obtain ⟨_, rfl⟩ := hq
          exact ⟨rfl, fun j hj hf => by simpa [H.put, beq_ne hj] using hf⟩
        · cases hq
    have put : ∀ id old e s', h.m id = .own old e → h' = h.put id s' → h'.next = h.next ∧ ∀ j, j ≠ i → h.m j = .fresh → h'.m j = .fresh := fun id old e s' hm hp => by
      subst hp
      refine ⟨rfl, fun j hj hf => ?_⟩
      have : j ≠ id := fun e => by subst e; rw [hm] at hf; cases hf
      simpa [H.put, beq_ne this] using hf
    cases a with
    | hp id gen off =>
      simp only at he
      split at he
      · rename_i old e hm
        split at he
        · simp at he
        · split at he
          · simp only [Option.bind_eq_some_iff] at he
            obtain ⟨h1, hw, he⟩ := he
            simp only [Option.some.injEq, Prod.mk.injEq] at he
            obtain ⟨_, rfl⟩ := he
            simp only [H.wrs, hm] at hw
            split at hw
            · simp only [Option.some.injEq] at hw
              exact put id old e _ hm hw.symm
            · cases hw
          · split at he
            · simp only [Option.some.injEq, Prod.mk.injEq] at he
              obtain ⟨_, hp⟩ := he
              exact put id old e _ hm hp.symm
            · simp at he
      · cases he
    | _ => exact fresh (x := none) he
theorem eff_fresh_g {o : Oper} {i : Nat} (hc : cls T A o = .g) {env : Env} {h h' : H} {v : V} (he : eff P T A ops (o, some i) env h = some (v, h')) : h'.next = h.next ∧ ∀ j, (some i : Option Nat) ≠ some j → h.m j = .fresh → h'.m j = .fresh := by
  unfold eff at he
  cases hw : wantedV ops env o with
  | none => simp only [hw] at he; simp at he
  | some b =>
    simp only [hw] at he
    cases b with
    | false => simp at he; obtain ⟨_, rfl⟩ := he; exact ⟨rfl, fun i _ hf => hf⟩
    | true =>
      simp only at he
      obtain ⟨dst, op, type, pos, after, guard⟩ := o
      cases op <;> simp only [cls, reduceCtorEq] at hc
      case box e x => cases hl : litRo A dst <;> rw [hl] at hc <;> simp at hc
      case load t x => cases hl : litRol A dst <;> rw [hl] at hc <;> simp at hc
      case buildSlice t n ps => cases hl : litOwn A dst <;> rw [hl] at hc <;> simp at hc
      case call c =>
        obtain ⟨callee, args, ts⟩ := c
        cases callee with
        | invoke _ _ => simp at hc
        | value f =>
          cases f with
          | func g => cases hqg : (T.st g).quiet <;> cases hqm : (T.st g).mono <;> cases hqf : (T.st g).free <;> cases hql : (T.st g).loc <;> simp [hqg, hqm, hqf, hql] at hc
          | _ => revert hc; (try dsimp only); cases (A.qd.any fun t => dst == some t) <;> cases (A.yd.any fun t => dst == some t) <;> simp
        | builtin b =>
          cases b
          case append =>
            have fin : ∀ {x : Option (Nat × List V)} {esz bytes : Nat} {sv0 : SV}, (x.bind fun c => (appendS h (some i) esz bytes sv0 c.2 c.1).bind fun r => some (V.slice r.1.a r.1.len r.1.cap r.1.tail, r.2)) = some (v, h') → h'.next = h.next ∧ ∀ j, (some i : Option Nat) ≠ some j → h.m j = .fresh → h'.m j = .fresh := fun he => by
              simp only [Option.bind_eq_some_iff, Option.some.injEq, Prod.mk.injEq] at he
              obtain ⟨c, hc1, ⟨sv, h1⟩, happ, rfl, rfl⟩ := he
              obtain ⟨k1, k2⟩ := appendS_fresh happ
              exact ⟨k1, fun j hj hf => k2 j (fun e => hj (by rw [e])) hf⟩
            simp only [stepOp] at he
            generalize args.toList.map (ev env) = l at he
            match l, he with
            | [], he => simp [builtinOp] at he
            | [_], he => simp [builtinOp] at he
            | _ :: _ :: _ :: _, he => simp [builtinOp] at he
            | [s, x], he =>
              simp only [builtinOp] at he
              split at he
              · split at he
                · split at he
                  · split at he
                    · split at he
                      · exact fin he
                      · cases he
                    · cases he
                  · cases he
                · cases he
              · cases he
          all_goals simp at hc
/-- What is fresh stays so, but for the number that is laid down. -/
theorem eff_fresh (hT : TabW P T) {p : Oper × Option Nat} (hx : cls T A p.1 ≠ .x) (hn : (cls T A p.1).isN = true → ∃ i, p.2 = some i) {env : Env} {h h' : H} {v : V} (he : eff P T A ops p env h = some (v, h')) :
    h.next ≤ h'.next ∧ ∀ i, p.2 ≠ some i → i < h.next → h.m i = .fresh → h'.m i = .fresh := by
  cases hc : cls T A p.1 with
  | p =>
    obtain ⟨r, hr⟩ := eff_p (P := P) (ops := ops) hc env
    rw [hr] at he
    cases r with
    | none => simp at he
    | some r => simp at he; obtain ⟨_, rfl⟩ := he; exact ⟨Nat.le_refl _, fun i _ _ hf => hf⟩
  | r =>
    have e := eff_r hT (.inl hc) env h _ he
    simp only at e
    subst e
    exact ⟨Nat.le_refl _, fun i _ _ hf => hf⟩
  | l =>
    have e := eff_r hT (.inr (.inl hc)) env h _ he
    simp only at e
    subst e
    exact ⟨Nat.le_refl _, fun i _ _ hf => hf⟩
  | m =>
    have e := eff_r hT (.inr (.inr hc)) env h _ he
    simp only at e
    subst e
    exact ⟨Nat.le_refl _, fun i _ _ hf => hf⟩
  | g =>
    obtain ⟨i, hi⟩ := hn (by rw [hc]; rfl)
    obtain ⟨o, at_⟩ := p
    simp only at hi hc
    subst hi
    obtain ⟨e1, e2⟩ := eff_fresh_g hc he
    exact ⟨Nat.le_of_eq e1.symm, fun i hi _ => e2 i hi⟩
  | n =>
    obtain ⟨i, hi⟩ := hn (by rw [hc]; rfl)
    obtain ⟨o, at_⟩ := p
    simp only at hi hc
    subst hi
    obtain ⟨r, hr⟩ := eff_n (P := P) (ops := ops) (i := i) hc env
    rw [hr] at he
    cases r with
    | none => simp at he
    | some r =>
      obtain ⟨u, s⟩ := r
      simp at he
      obtain ⟨_, rfl⟩ := he
      cases s with
      | none => exact ⟨Nat.le_refl _, fun i _ _ hf => hf⟩
      | some s =>
        refine ⟨Nat.le_refl _, fun j hj _ hf => ?_⟩
        have : j ≠ i := fun e => hj (by rw [e])
        simpa [H.put, beq_ne this] using hf
  | w =>
    obtain ⟨up, hl, hu⟩ := loc_w' hT hc he
    have e := hl.here
    cases up with
    | none => subst e; exact ⟨Nat.le_refl _, fun i _ _ hf => hf⟩
    | some q =>
      obtain ⟨id, s⟩ := q
      subst e
      refine ⟨Nat.le_refl _, fun i _ _ hf => ?_⟩
      have : i ≠ id := fun e => by subst e; exact hu _ _ rfl hf
      simpa [upd, H.put, beq_ne this] using hf
  | y =>
    obtain ⟨k1, _, k2⟩ := eff_y hT hc env _ he
    exact ⟨k1, fun i _ hlt hf => (k2 i .dead hlt hf).1⟩
  | x => exact absurd hc hx
/-- Whatever order is drawn. -/
theorem draw_ok (hT : TabW P T) (hd : drawOk T A ops = true) {b : Nat} {ρ₀ : Ren} {env₀ : Env} {w₀ : World} {k : Env → H → Option α} {res : α} {Q : Exit → Act → World → Prop}
    {τ : Nat → V} {ef : Env} {hf : H} (hkf : k ef hf = some res) (hτ : ∀ i j, (i, j) ∈ conflL T A ops → apartA (τ i) (τ j) = true)
    (hk : ∀ ρ' env' h' a' w', ρ₀.le ρ' → St P T base lo N ρ' env' h' a' w' → Below base w₀ w' → (∀ t, t ∉ writesOps ops.toList → env' t = env₀ t) → k env' h' = some res → Q .normal a' w') :
    ∀ (n : Nat) (rem : List Nat) (listed : Array Bool) ρ env h a w, rem.length = n → rem.Pairwise (· < ·) → (∀ i, i ∈ rem ↔ i < ops.size ∧ listed.getD i true = false) → listed.size = ops.size →
      (∀ (i : Nat) o, ops[i]? = some o → listed.getD i true = true → ∀ e ∈ o.after, Region.binds .any e = true → listed.getD e.on false = true) →
      (∀ i ∈ rem, ∀ p, (withIds T A ops.toList b)[i]? = some p → ∀ id, p.2 = some id → h.m id = .fresh ∧ id < h.next) →
      ρ₀.le ρ → St P T base lo N ρ env h a w → Below base w₀ w → (∀ t, t ∉ writesOps ops.toList → env t = env₀ t) →
      Runs P T A N ops (withIds T A ops.toList b) (fun i => ∃ j, (i, j) ∈ conflL T A ops ∨ (j, i) ∈ conflL T A ops) τ rem env h ef hf → wpAnyIn (FW ro) 0 P .any ops Q n listed a w := by
  simp only [drawOk, Bool.and_eq_true, List.all_eq_true] at hd
  obtain ⟨⟨⟨hsel, _⟩, hX⟩, hpairs⟩ := hd
  have hedge : ∀ (j : Nat) o, ops[j]? = some o → ∀ e ∈ o.after, Region.binds .any e = true → e.on < j := fun j o ho e he hb => by
    have := (hpairs (o, j) (by rw [List.mem_zipIdx_iff_getElem?]; simpa using ho)).1
    have := Array.all_eq_true_iff_forall_mem.1 this e he
    simpa [hb] using this
  have hpair : ∀ (i j : Nat) oi oj, i < j → ops[i]? = some oi → ops[j]? = some oj → ((masksOf ops.toList []).getD j 0).testBit i = true ∨ ((pairOk (cls T A oi) (cls T A oj) = true ∨ (conflC (cls T A oi) (cls T A oj) = true ∧ (((masksOf ops.toList []).getD j 0).testBit i = false → (i, j) ∈ conflL T A ops))) ∧ oi.apart ops oj = true) := fun i j oi oj hij hi hj => by
    have hmemc : conflC (cls T A oi) (cls T A oj) = true → ((masksOf ops.toList []).getD j 0).testBit i = false → (i, j) ∈ conflL T A ops := fun hc hb => by
      unfold conflL
      simp only
      refine List.mem_flatMap.2 ⟨(oj, j), by rw [List.mem_zipIdx_iff_getElem?]; simpa using hj, List.mem_filterMap.2 ⟨(oi, i), ?_, ?_⟩⟩
      · rw [List.mem_zipIdx_iff_getElem?]
        simp only [List.getElem?_take, hij, if_true]
        simpa using hi
      · simp only [hb, hc, Bool.not_false, Bool.and_self, cond_true]
    have := (hpairs (oj, j) (by rw [List.mem_zipIdx_iff_getElem?]; simpa using hj)).2 (oi, i) (by
      rw [List.mem_zipIdx_iff_getElem?]
      simp only [List.getElem?_take, hij, if_true]
      simpa using hi)
    simp only [Bool.or_eq_true, Bool.and_eq_true] at this
    rcases this with this | ⟨this | this, h2⟩
    · exact .inl this
    · exact .inr ⟨.inl this, h2⟩
    · exact .inr ⟨.inr ⟨this, hmemc this⟩, h2⟩
  intro n
  induction n with
  | zero =>
    intro rem listed ρ env h a w hlen hsort hmem hsize hcl hfr g1 g2 g3 g4 hs
    have hnil : rem = [] := List.eq_nil_of_length_eq_zero hlen
    subst hnil
    obtain ⟨rfl, rfl⟩ := hs
    refine ⟨?_, hk ρ ef hf a w g1 g2 g3 g4 hkf⟩
    rw [List.eq_nil_iff_forall_not_mem]
    intro j hj
    obtain ⟨h0, o, ho, _⟩ := mem_ready.1 hj
    exact absurd ((hmem j).2 ⟨(Array.getElem?_eq_some_iff.1 ho).1, h0⟩) (by simp)
  | succ n ih =>
    intro rem listed ρ env h a w hlen hsort hmem hsize hcl hfr g1 g2 g3 g4 hs
    have hat : ∀ i ∈ rem, ∃ p, (withIds T A ops.toList b)[i]? = some p ∧ ops[i]? = some p.1 := fun i hi => by
      have hlt := ((hmem i).1 hi).1
      have hl2 : i < (withIds T A ops.toList b).length := by rw [withIds_length]; simpa using hlt
      refine ⟨_, List.getElem?_eq_getElem hl2, ?_⟩
      have := (withIds_get ops.toList b i _ (List.getElem?_eq_getElem hl2)).1
      simpa using this
    refine ⟨fun hnone => ?_, fun i hi => ?_⟩
    · exfalso
      cases rem with
      | nil => simp at hlen
      | cons j rem =>
        obtain ⟨p, _, ho⟩ := hat j (by simp)
        have hj := (hmem j).1 (by simp)
        have : j ∈ Region.ready .any ops listed := mem_ready.2 ⟨hj.2, p.1, ho, fun e he hb => by
          have hlt := hedge j p.1 ho e he hb
          have hno : e.on ∉ j :: rem := fun hin => by
            rcases List.mem_cons.1 hin with he2 | he2
            · omega
            · have := (List.pairwise_cons.1 hsort).1 _ he2; omega
          have hlo : e.on < ops.size := by omega
          cases hq : listed.getD e.on false with
          | true => rfl
          | false =>
            refine absurd ((hmem e.on).2 ⟨hlo, ?_⟩) hno
            have : e.on < listed.size := by omega
            simp [this] at hq ⊢
            exact hq⟩
        rw [hnone] at this
        cases this
    · obtain ⟨hun, o, ho, hready⟩ := mem_ready.1 hi
      have hlt : i < ops.size := (Array.getElem?_eq_some_iff.1 ho).1
      have hin : i ∈ rem := (hmem i).2 ⟨hlt, hun⟩
      obtain ⟨p, hp, hpo⟩ := hat i hin
      rw [ho] at hpo
      have hpo' : p.1 = o := (Option.some.inj hpo).symm
      obtain ⟨pre, post, hsplit⟩ := List.append_of_mem hin
      subst hsplit
      have hsort' := List.pairwise_append.1 hsort
      have hpn : (cls T A p.1).isN = true → ∃ id, p.2 = some id := (withIds_get ops.toList b i p hp).2.1
      have hfrF : ∀ y, (withIds T A ops.toList b)[i]? = some y → cls T A y.1 = .n → ∀ id, y.2 = some id → h.m id = .fresh ∧ id < h.next := fun y hy _ id hid => hfr i (by simp) y hy id hid
      have hlF : ∀ y, (withIds T A ops.toList b)[i]? = some y → cls T A y.1 = .l → ∀ id g o, addrOf y.1 y.2 env = .hp id g o → h.m id ≠ .fresh := fun y _ hcy id g o ha => by
        obtain ⟨t, x, hop⟩ := op_l hcy
        have hR := g2.env.ev x
        have he : ev env x = .hp id g o := by rw [← ha]; unfold addrOf; rw [hop]
        rw [he] at hR
        simp only [R] at hR
        obtain ⟨b', x0, hb, _⟩ := hR
        exact g2.rel.used id g _ hb
      have hfront := front_ok hT pre env h (fun j hj x y hxj hyi => by
        rw [hp] at hyi
        cases hyi
        have hji : j < i := hsort'.2.2 j hj i (by simp)
        have hjx := (withIds_get ops.toList b j x hxj).1
        have hjx' : ops[j]? = some x.1 := by simpa using hjx
        have hjun : listed.getD j true = false := ((hmem j).1 (by simp [hj])).2
        have hnobit : ((masksOf ops.toList []).getD i 0).testBit j = false := by
          cases hbit : ((masksOf ops.toList []).getD i 0).testBit j with
          | false => rfl
          | true =>
            exfalso
            have hS := masks_sound (S := fun m => listed.getD m true = true ∨ m = i) ops.toList [] [] rfl (fun m om hom hSm e he hb => by
              have hom' : ops[m]? = some om := by simpa using hom
              have hbd : ∀ x, listed.getD x false = true → listed.getD x true = true := fun x hx => by
                rcases Nat.lt_or_ge x listed.size with hl | hl
                · simpa [hl] using hx
                · simp [Array.getElem?_eq_none hl]
              rcases hSm with hSm | rfl
              · exact .inl (hbd _ (hcl m om hom' hSm e he hb))
              · rw [ho] at hom'; cases hom'
                exact .inl (hbd _ (hready e he hb))) (by simp) i ((masksOf ops.toList []).getD i 0)
            have hml : i < (masksOf ops.toList []).length := by
              have : ∀ (l : List Oper) (acc : List Nat), (masksOf l acc).length = acc.length + l.length := by
                intro l
                induction l with
                | nil => intro acc; rfl
                | cons o l ihl => intro acc; simp only [masksOf, ihl, List.length_append, List.length_cons, List.length_nil]; omega
              rw [this]; simpa using hlt
            rcases hS (by simp [List.getD, List.getElem?_eq_getElem hml]) (.inr rfl) j hbit with h1 | h1
            · rw [hjun] at h1; cases h1
            · omega
        rcases hpair j i x.1 o hji hjx' ho with hbit | ⟨h1, h2⟩
        · rw [hnobit] at hbit; cases hbit
        · refine ⟨?_, by rw [hpo']; exact h2, (withIds_get ops.toList b j x hxj).2.1, hpn, fun u v hu hv => ?_⟩
          · rw [hpo']
            rcases h1 with h1 | ⟨h1, h3⟩
            · exact .inl h1
            · exact .inr ⟨h1, ⟨i, .inl (h3 hnobit)⟩, ⟨j, .inr (h3 hnobit)⟩, hτ j i (h3 hnobit)⟩
          · have := withIds_lt ops.toList b j i x p hji hxj hp u v hu hv
            omega) hfrF hlF hs
      obtain ⟨p', v', h1, env1, hp', he', hput', _, hfront⟩ := hfront
      rw [hp] at hp'
      cases hp'
      have hstep : ((eff P T A ops p env h).bind fun q => putD N p.1.dst q.1 env fun env => some (env, q.2)) = some (env1, h1) := by
        rw [he']
        simp only [Option.bind_some]
        rw [putD_eq hput']
      have hwp := step1 (ro := ro) (K := wpAnyIn (FW ro) 0 P .any ops Q n (listed.setIfInBounds i true)) (Q := Q) (k := fun env h => some (env, h)) (res := (env1, h1)) hT g2 (fun id hid => hfr i hin p hp id hid) hstep (fun ρ' env' h' a' w' k1 k2 k3 k4 k5 k6 => by
        obtain ⟨v, k5⟩ := k5
        simp only [Option.some.injEq, Prod.mk.injEq] at k6
        obtain ⟨rfl, rfl⟩ := k6
        refine ih (pre ++ post) (listed.setIfInBounds i true) ρ' env' h' a' w' ?_ ?_ ?_ (by simp [hsize]) ?_ ?_ (g1.trans k1) k2 (g3.trans k3) ?_ ?_
        · simp only [List.length_append, List.length_cons] at hlen ⊢; omega
        · refine List.pairwise_append.2 ⟨hsort'.1, (List.pairwise_cons.1 hsort'.2.1).2, fun x hx y hy => hsort'.2.2 x hx y (by simp [hy])⟩
        · intro j
          by_cases hji : j = i
          · subst hji
            constructor
            · intro hj
              exfalso
              rcases List.mem_append.1 hj with hj | hj
              · have := hsort'.2.2 j hj j (by simp); omega
              · have := (List.pairwise_cons.1 hsort'.2.1).1 j hj; omega
            · rintro ⟨_, hj⟩
              have hl : j < listed.size := by omega
              simp [hl] at hj
          · rw [getD_set_ne true (Ne.symm hji), ← hmem j]
            simp [hji]
        · intro j oj hoj hl e he hb
          by_cases hji : j = i
          · subst hji
            rw [ho] at hoj; cases hoj
            exact getD_set_true (hready e he hb)
          · rw [getD_set_ne true (Ne.symm hji)] at hl
            exact getD_set_true (hcl j oj hoj hl e he hb)
        · intro j hj q hq id hid
          have hj' : j ∈ pre ++ i :: post := by
            rcases List.mem_append.1 hj with hj | hj <;> simp [hj]
          obtain ⟨f1, f2⟩ := hfr j hj' q hq id hid
          have hnc := ((withIds_get ops.toList b j q hq).2.2 id hid)
          have hnx : cls T A p.1 ≠ .x := fun hx => by
            rcases Bool.or_eq_true_iff.1 hX with hX | hX
            · have hm : o ∈ ops.toList := by
                have := (withIds_get ops.toList b i p hp).1
                rw [hpo'] at this
                exact List.mem_of_getElem? this
              have := List.all_eq_true.1 hX o hm
              rw [← hpo', hx] at this
              simp [Cls.isX] at this
            · have : countN T A ops.toList = 0 := by simpa using hX
              omega
          obtain ⟨e1, e2⟩ := eff_fresh hT hnx hpn k5
          refine ⟨e2 id (fun hpid => ?_) f2 f1, Nat.lt_of_lt_of_le f2 e1⟩
          have hne : j ≠ i := fun e => by
            subst e
            rcases List.mem_append.1 hj with hj | hj
            · have := hsort'.2.2 j hj j (by simp); omega
            · have := (List.pairwise_cons.1 hsort'.2.1).1 j hj; omega
          rcases Nat.lt_or_gt_of_ne hne with hlt2 | hlt2
          · have := withIds_lt ops.toList b j i q p hlt2 hq hp id id hid hpid; omega
          · have := withIds_lt ops.toList b i j p q hlt2 hp hq id id hpid hid; omega
        · intro t ht
          rw [k4 t (fun hd => ht (List.mem_filterMap.2 ⟨o, List.mem_of_getElem? (by simpa using ho), by rw [← hpo']; exact hd⟩)), g4 t ht]
        · exact hfront)
      unfold wpOpIn
      rw [ho]
      rw [hpo'] at hwp
      simp only
      split
      · rename_i hw; rw [if_pos hw] at hwp; exact hwp
      · rename_i hw; rw [if_neg hw] at hwp; exact ⟨fun _ _ => trivial, hwp⟩
end regions
end Go.Proofs.YtjkjcnadgpndoaaGreat.Ev
