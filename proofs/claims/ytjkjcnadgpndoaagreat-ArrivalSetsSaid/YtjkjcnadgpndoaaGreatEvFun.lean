/- Code and whole functions: what the evaluator says, the model does. Conditions: 'TabOK'; the program follows no compiler in mixed orders. -/
import Derived.Test.YtjkjcnadgpndoaaGreatEvCode
import Derived.RangeFuncRecord
import Derived.RangeFuncCalls
namespace Go.Proofs.YtjkjcnadgpndoaaGreat.Ev
open Go Go.RowKit
set_option linter.unusedVariables false
set_option linter.unusedSimpArgs false

section code
variable {P : Program} {T : Table} {A : Ann} {base : Nat} {lo : Nat → Prop} {fn : Func} {rs : Res} {α : Type} {ro : Option Nat}
def exitOf : Ex → Exit
  | .normal => .normal
  | .exit id => .exit id
  | .ret _ => .ret
/-- Behind a return the results are there, whatever happens to what is no cells. -/
def exOK (P : Program) (fn : Func) (ρ : Ren) (a : Act) (w : World) : Ex → Prop
  | .ret v => ∃ val, (∀ w2, SameC w w2 → (results fn a.tmps).run P w2 = .ok val w2) ∧ R ρ v val
  | _ => True
/-- What is left to be shown behind a piece of code. -/
abbrev Then (P : Program) (T : Table) (fn : Func) (base : Nat) (lo : Nat → Prop) (ws : List Nat) (env : Env) (ρ : Ren) (w : World) (k : Ex → Env → H → Option α) (res : α) (Q : Exit → Act → World → Prop) : Prop :=
  ∀ e env' h' ρ' a' w', ρ.le ρ' → St P T base lo fn.ntmps ρ' env' h' a' w' → Below base w w' → (∀ t, t ∉ ws → env' t = env t) → k e env' h' = some res → exOK P fn ρ' a' w' e → Q (exitOf e) a' w'

theorem clearW_not {ws : List Nat} {env : Env} {t : Nat} (h : t ∉ ws) : clearW ws env t = env t := by
  have : ws.any (Nat.beq t) = false := by
    rw [List.any_eq_false]
    intro x hx
    have : t ≠ x := fun e => h (e ▸ hx)
    simp [beq_ne this]
  simp [clearW, this]
theorem clearW_in {ws : List Nat} {env : Env} {t : Nat} (h : t ∈ ws) : clearW ws env t = .undef := by
  have : ws.any (Nat.beq t) = true := by
    rw [List.any_eq_true]
    exact ⟨t, h, by simp⟩
  simp [clearW, this]
theorem setL_in {t : Nat} : ∀ (ks : List Nat) (env' env : Env), t ∈ ks → setL ks (ks.map env') env t = env' t
  | k :: ks, env', env, h => by
    simp only [List.map_cons, setL, Env.set]
    by_cases he : t = k
    · subst he; simp
    · simp only [beq_ne he, cond_false]
      exact setL_in ks env' env (by simpa [he] using h)
theorem setL_not {t : Nat} : ∀ (ks : List Nat) (vs : List V) (env : Env), t ∉ ks → setL ks vs env t = env t
  | [], _, _, _ => rfl
  | k :: ks, [], env, h => rfl
  | k :: ks, v :: vs, env, h => by
    have he : t ≠ k := fun e => h (by simp [e])
    simp only [setL, Env.set, beq_ne he, cond_false]
    exact setL_not ks vs env (fun hh => h (by simp [hh]))
/-- A frame whose slots are known but for some. -/
theorem EnvOK.forget {ρ : Ren} {env env' : Env} {a : Act} (he : EnvOK ρ env' a) {ws : List Nat} (hf : ∀ t, t ∉ ws → env' t = env t) : EnvOK ρ (clearW ws env) a := fun t => by
  by_cases ht : t ∈ ws
  · rw [clearW_in ht]; simp [R]
  · rw [clearW_not ht, ← hf t ht]; exact he t
theorem EnvOK.keep {ρ : Ren} {env env' : Env} {a : Act} (he : EnvOK ρ env' a) {ws ks : List Nat} (hf : ∀ t, t ∉ ws → env' t = env t) : EnvOK ρ (setL ks (ks.map env') (clearW ws env)) a := fun t => by
  by_cases hk : t ∈ ks
  · rw [setL_in ks env' _ hk]; exact he t
  · rw [setL_not ks _ _ hk]; exact he.forget hf t
theorem frame_keep {env env' : Env} {ws ks : List Nat} (hf : ∀ t, t ∉ ws → env' t = env t) (t : Nat) (ht : t ∉ ws) : setL ks (ks.map env') (clearW ws env) t = env t := by
  by_cases hk : t ∈ ks
  · rw [setL_in ks env' _ hk]; exact hf t ht
  · rw [setL_not ks _ _ hk, clearW_not ht]
theorem packK_un {ks : List Nat} {ts : List Ty} {env : Env} {t : TT ts} (h : packK ks ts env = some t) : TT.un ts t = ks.map env := TT.un_pack ts _ t h
/-- Out of a piece with a join, and on. -/
theorem join_ok {ks : List Nat} {ts : List Ty} {x0 x1 : Option Nat} {e : Ex} {env env' : Env} {h' : H} {fl : Flow (TT ts) rs.C × H} {k : Ex → Env → H → Option α} {res : α} {ws : List Nat}
    (h1 : leave rs ks ts x0 x1 e env' h' = some fl) (h2 : arrive rs ks ts x0 x1 (clearW ws env) k fl = some res) :
    ∃ env2, k e env2 h' = some res ∧ (env2 = setL ks (ks.map env') (clearW ws env) ∨ env2 = clearW ws env) := by
  cases e with
  | normal =>
    simp only [leave, Option.bind_eq_some_iff, Option.some.injEq] at h1
    obtain ⟨t, ht, rfl⟩ := h1
    simp only [arrive, packK_un ht] at h2
    exact ⟨_, h2, .inl rfl⟩
  | ret v =>
    simp only [leave, Option.bind_eq_some_iff, Option.some.injEq] at h1
    obtain ⟨r, hr, rfl⟩ := h1
    simp only [arrive, Res.un_pack rs v r hr] at h2
    exact ⟨_, h2, .inr rfl⟩
  | exit id =>
    simp only [leave] at h1
    split at h1
    · rename_i a b
      cases ha : Nat.beq id a with
      | true =>
        have : id = a := Nat.eq_of_beq_eq_true ha
        subst this
        rw [ha] at h1
        simp only [cond_true, Option.bind_eq_some_iff, Option.some.injEq] at h1
        obtain ⟨t, ht, rfl⟩ := h1
        simp only [arrive, packK_un ht] at h2
        exact ⟨_, h2, .inl rfl⟩
      | false =>
        rw [ha] at h1
        simp only [cond_false] at h1
        cases hb : Nat.beq id b with
        | true =>
          have : id = b := Nat.eq_of_beq_eq_true hb
          subst this
          rw [hb] at h1
          simp only [cond_true, Option.bind_eq_some_iff, Option.some.injEq] at h1
          obtain ⟨t, ht, rfl⟩ := h1
          simp only [arrive, packK_un ht] at h2
          exact ⟨_, h2, .inl rfl⟩
        | false => rw [hb] at h1; simp at h1
    · rename_i a
      cases ha : Nat.beq id a with
      | true =>
        have : id = a := Nat.eq_of_beq_eq_true ha
        subst this
        rw [ha] at h1
        simp only [cond_true, Option.bind_eq_some_iff, Option.some.injEq] at h1
        obtain ⟨t, ht, rfl⟩ := h1
        simp only [arrive, packK_un ht] at h2
        exact ⟨_, h2, .inl rfl⟩
      | false => rw [ha] at h1; simp at h1
    · cases h1
theorem arriveX_arrive {ks : List Nat} {ts : List Ty} {x0 x1 : Option Nat} {env : Env} {fl : Flow (TT ts) rs.C × H} {k : Ex → Env → H → Option α} {res : α}
    (h : arriveX rs ks ts x0 x1 env k fl = some res) : arrive rs ks ts x0 x1 env k fl = some res := by
  obtain ⟨fl, h2⟩ := fl
  cases fl with
  | next t => simp [arriveX] at h
  | ret r => exact h
  | ex0 t => exact h
  | ex1 t => exact h
theorem results_list {ρ : Ren} {env : Env} {h : H} {a : Act} {w : World} (hst : Rel base ρ h w) (he : EnvOK ρ env a) (f : ResultVar → Sem Value) (hf1 : ∀ t, f (.tmp t) = pure (a.tmps.getD t undef))
    (hf2 : ∀ x t, f (.cell x t) = (do loadVar t (← asAddr (a.tmps.getD x undef)))) : ∀ (l : List ResultVar) (k : List V → Option α) (res : α), resultsV P l env h k = some res →
    ∃ vs us, k vs = some res ∧ RL ρ vs us ∧ ∀ w2, SameC w w2 → (l.mapM f).run P w2 = .ok us w2
  | [], k, res, hs => ⟨[], [], hs, RL_nil, fun _ _ => by simp⟩
  | .tmp t :: l, k, res, hs => by
    simp only [resultsV] at hs
    obtain ⟨vs, us, h1, h2, h3⟩ := results_list hst he f hf1 hf2 l _ res hs
    refine ⟨_, a.tmps.getD t undef :: us, h1, ?_, ?_⟩
    · simp only [RL]; exact ⟨_, _, rfl, he t, h2⟩
    · intro w2 hw2
      simp only [List.mapM_cons, Sem.run_bind, hf1, Sem.run_pure, Result.andThen_ok, h3 w2 hw2]
  | .cell x t :: l, k, res, hs => by
    simp only [resultsV] at hs
    split at hs
    · rename_i ty hty
      simp only [Option.bind_eq_some_iff] at hs
      obtain ⟨y, hy, hs⟩ := hs
      have hx := he x
      have hp : ∃ p, a.tmps.getD x undef = .pointer (some p) := by
        cases hv : env x <;> rw [hv] at hy hx
        case hp => simp only [R] at hx; obtain ⟨b, _, _, hx⟩ := hx; exact ⟨_, hx⟩
        case lp =>
          simp only [R] at hx
          rcases hx with ⟨rfl, _⟩ | ⟨b, i, us, _, _, hx⟩
          · cases ty <;> simp [rdT, H.rd, H.rds, H.from] at hy
          · exact ⟨_, hx⟩
        all_goals cases ty <;> simp [rdT, H.rd, H.rds, H.from] at hy
      obtain ⟨p, hp⟩ := hp
      rw [hp] at hx
      obtain ⟨val, hl, hrv⟩ := loadVar_okS (P := P) hst hty hy hx
      obtain ⟨vs, us, h1, h2, h3⟩ := results_list hst he f hf1 hf2 l _ res hs
      have hfx : ∀ w2, SameC w w2 → (f (.cell x t)).run P w2 = .ok val w2 := fun w2 hw2 => by
        rw [hf2, hp]
        simp only [asAddr, pure_bind, hl w2 hw2]
      refine ⟨_, val :: us, h1, ?_, ?_⟩
      · simp only [RL]; exact ⟨_, _, rfl, hrv, h2⟩
      · intro w2 hw2
        simp only [List.mapM_cons, Sem.run_bind, hfx w2 hw2, Sem.run_pure, Result.andThen_ok, h3 w2 hw2]
    · cases hs
def resF (tmps : Array Value) : ResultVar → Sem Value
  | .tmp t => pure (tmps.getD t undef)
  | .cell x t => do loadVar t (← asAddr (tmps.getD x undef))
theorem results_eq (fn : Func) (tmps : Array Value) : results fn tmps = (do
    let vs ← fn.results.mapM (resF tmps)
    pure (if h : vs.size = 1 then vs[0] else .tuple vs)) := by
  have : (fun (r : ResultVar) => (match r with
    | .tmp t => pure (tmps.getD t undef)
    | .cell a t => do loadVar t (← asAddr (tmps.getD a undef)) : Sem Value)) = resF tmps := by
    funext r
    cases r <;> rfl
  unfold results
  rw [← this]
  rfl
theorem filterMap_range {β : Type} (l : List β) : (List.range l.length).filterMap (fun i => l[i]?) = l := by
  have h1 : (List.range l.length).map (fun i => l[i]?) = l.map some := by
    apply List.ext_getElem?
    intro i
    simp only [List.getElem?_map]
    rcases Nat.lt_or_ge i l.length with hi | hi
    · simp [hi]
    · have h2 : (List.range l.length)[i]? = none := List.getElem?_eq_none (by simpa using hi)
      have h3 : l[i]? = none := List.getElem?_eq_none hi
      rw [h2, h3]; rfl
  have h2 : (List.range l.length).filterMap (fun i => l[i]?) = ((List.range l.length).map (fun i => l[i]?)).filterMap (fun x => x) := by rw [List.filterMap_map]; rfl
  rw [h2, h1, List.filterMap_map]
  exact List.filterMap_some
theorem theResult_ok {ρ : Ren} {env : Env} {h : H} {a : Act} {w : World} (hst : Rel base ρ h w) (he : EnvOK ρ env a) {k : V → Option α} {res : α} (hs : theResult P fn env h k = some res) :
    ∃ v val, k v = some res ∧ R ρ v val ∧ ∀ w2, SameC w w2 → (results fn a.tmps).run P w2 = .ok val w2 := by
  unfold theResult at hs
  have hr : ∃ vs us, (match vs with
      | [v] => k v
      | vs => k (.tuple vs)) = some res ∧ RL ρ vs us ∧ ∀ w2, SameC w w2 → (results fn a.tmps).run P w2 = .ok (if h : us.toArray.size = 1 then us.toArray[0] else .tuple us.toArray) w2 := by
    obtain ⟨vs, us, h1, h2, h3⟩ := results_list (P := P) hst he (resF a.tmps) (fun _ => rfl) (fun _ _ => rfl) fn.results.toList _ res hs
    refine ⟨vs, us, h1, h2, fun w2 hw2 => ?_⟩
    rw [results_eq, Sem.run_bind, Array.mapM_eq_mapM_toList]
    simp only [Sem.run_map]
    rw [h3 w2 hw2]
    rfl
  obtain ⟨vs, us, h1, h2, hr⟩ := hr
  match vs, us, h1, h2, hr with
  | [v], [u], h1, h2, hr =>
    simp only [RL] at h2
    obtain ⟨u', us', e, h2, _⟩ := h2
    simp at e
    obtain ⟨rfl, rfl⟩ := e
    exact ⟨v, u, h1, h2, hr⟩
  | [], [], h1, h2, hr =>
    refine ⟨.tuple [], .tuple #[], h1, by simp only [R]; exact ⟨[], rfl, h2⟩, fun w2 hw2 => by simpa using hr w2 hw2⟩
  | v :: v' :: vs, u :: u' :: us, h1, h2, hr =>
    refine ⟨.tuple (v :: v' :: vs), .tuple (u :: u' :: us).toArray, h1, by simp only [R]; exact ⟨_, rfl, h2⟩, fun w2 hw2 => ?_⟩
    rw [hr w2 hw2]
    simp
  | [], _ :: _, _, h2, _ => simp [RL] at h2
  | [v], [], _, h2, _ => simp [RL] at h2
  | [v], _ :: _ :: _, _, h2, _ => have := h2.length; simp at this
  | _ :: _ :: _, [], _, h2, _ => have := h2.length; simp at this
  | _ :: _ :: _, [_], _, h2, _ => have := h2.length; simp at this
/-- The rounds of a loop. -/
theorem rounds_ok {S F : Type} {f : S → Option (Stp S F)} {c : Code} {Q : Exit → Act → World → Prop} {fl : F} {I : S → Act → World → Prop}
    (round : ∀ s r a w, f s = some r → I s a w → c.wpIn (FW ro) 0 P (fun e a' w' => (∃ s', r = .more s' ∧ e = .normal ∧ I s' a' w') ∨ (r = .done fl ∧ e ≠ .normal ∧ Q e a' w') ∨ (∃ x, r = .done x ∧ x ≠ fl)) a w) :
    ∀ n s a w, iter n f s = some fl → I s a w → Code.roundsIn (FW ro) 0 P c Q n a w
  | 0, s, a, w, h, _ => by simp [iter] at h
  | n + 1, s, a, w, h, hI => by
    simp only [iter, Option.bind_eq_some_iff] at h
    obtain ⟨r, hr, h⟩ := h
    rw [roundsIn_succ]
    refine wpIn_mono (round s r a w hr hI) fun e a' w' he => ?_
    rcases he with ⟨s', rfl, rfl, hI'⟩ | ⟨rfl, hne, hq⟩ | ⟨x, rfl, hx⟩
    · exact rounds_ok round n s' a' w' h hI'
    · cases e <;> first | exact absurd rfl hne | exact hq
    · simp at h; exact absurd h hx
theorem exitOf_ne {e : Ex} (h : e ≠ .normal) : exitOf e ≠ .normal := by cases e <;> simp [exitOf] at h ⊢

theorem TT_un_length : ∀ (ts : List Ty) (x : TT ts), (TT.un ts x).length = ts.length
  | [], _ => rfl
  | [_], _ => rfl
  | _ :: t' :: ts, x => by simp only [TT.un, List.length_cons, TT_un_length (t' :: ts) x.2]
theorem mkY_natl {ts : List Ty} {l : Nat} {f : TT ts → H → Option H} : Natl (mkY ts l f) := fun args h => by
  cases args with
  | nil => exact ⟨none, fun _ _ => rfl⟩
  | cons v as =>
    cases v
    case yld id =>
      refine ⟨bif Nat.beq id l then (TT.pack ts as).bind fun x => (f x h).bind fun h' => some (.bool true, h') else none, fun α k => ?_⟩
      show (bif Nat.beq id l then _ else _) = _
      cases Nat.beq id l
      · rfl
      · simp only [cond_true, Option.bind_assoc, Option.bind_some]
    all_goals exact ⟨none, fun _ _ => rfl⟩
theorem setL_congr {s : Nat} : ∀ (ks : List Nat) (vs : List V) (env env' : Env), env s = env' s → setL ks vs env s = setL ks vs env' s
  | [], _, _, _, h => h
  | _ :: _, [], _, _, h => h
  | k :: ks, v :: vs, env, env', h => by
    simp only [setL, Env.set]
    rw [setL_congr ks vs env env' h]
/-- The slots of a round's arguments. -/
theorem EnvOK.params {ρ : Ren} : ∀ (ps : List Nat) (vs : List V) (us : List Value) (env : Env) (a : Act), EnvOK ρ env a → ps.Nodup → ps.length = vs.length → RL ρ vs us → (∀ t ∈ ps, t < a.tmps.size) →
    EnvOK ρ (setL ps vs env) { a with tmps := (ps.zip us).foldl (fun tmps p => tmps.setIfInBounds p.1 p.2) a.tmps }
  | [], [], us, env, a, he, _, _, _, _ => by
    simp only [List.zip_nil_left, List.foldl_nil, setL]
    exact he
  | t :: ps, v :: vs, us, env, a, he, hn, hl, hr, hb => by
    simp only [RL] at hr
    obtain ⟨u, us', rfl, h1, h2⟩ := hr
    simp only [List.zip_cons_cons, List.foldl_cons]
    have hn' := List.nodup_cons.1 hn
    have h3 : EnvOK ρ (env.set t v) { a with tmps := a.tmps.setIfInBounds t u } := by
      have := he.put (d := t) (v := v) (val := u) (hb t (by simp)) h1
      simpa [Act.put] using this
    have h4 := EnvOK.params ps vs us' (env.set t v) { a with tmps := a.tmps.setIfInBounds t u } h3 hn'.2 (by simpa using hl) h2 (fun s hs => by simpa using hb s (by simp [hs]))
    intro s
    have h5 := h4 s
    simp only [setL, Env.set]
    by_cases hs : s = t
    · subst hs
      rw [setL_not _ _ _ hn'.1] at h5
      simp only [Env.set] at h5
      simpa using h5
    · rw [setL_congr ps vs (env.set t v) env (by simp [Env.set, beq_ne hs])] at h5
      simp only [beq_ne hs, cond_false]
      exact h5
theorem params_size : ∀ (l : List (Nat × Value)) (tmps : Array Value), (l.foldl (fun tmps p => tmps.setIfInBounds p.1 p.2) tmps).size = tmps.size
  | [], _ => rfl
  | p :: l, tmps => by rw [List.foldl_cons, params_size l]; simp

/-! ### Ranges over maps -/
theorem beqs_len : ∀ {l l' : List V}, V.beqs l l' = true → l.length = l'.length
  | [], [], _ => rfl
  | [], _ :: _, h => by simp [V.beqs] at h
  | _ :: _, [], h => by simp [V.beqs] at h
  | a :: l, b :: l', h => by
    simp only [V.beqs, Bool.and_eq_true] at h
    simp [beqs_len h.2]
theorem rangeOK_some {h h' : H} {iid mid n : Nat} {seen : List Nat} {es : List (V × V)} (hm : h.m mid = .gmap es) (hr : rangeOK h h' iid mid n seen = true) : (∃ es', h'.m mid = .gmap es' ∧ es'.length = es.length) ∧ h'.m iid = .miter mid n seen := by
  unfold rangeOK at hr
  rw [hm] at hr
  simp only [Bool.and_eq_true] at hr
  obtain ⟨h1, h2⟩ := hr
  constructor
  · split at h1
    · rename_i e1 e2 q1 q2
      cases q1
      simp only [Bool.and_eq_true] at h1
      have := beqs_len h1.1
      exact ⟨_, q2, by simpa using this.symm⟩
    · cases h1
  · split at h2
    · rename_i m' n' s' q
      simp only [Bool.and_eq_true, decide_eq_true_eq] at h2
      obtain ⟨⟨rfl, rfl⟩, rfl⟩ := h2
      exact q
    · cases h2
theorem iterAt_some {h : H} {a : V} {p : Nat × Nat × Nat} (hi : iterAt h a = some p) : a = .hp p.1 0 0 ∧ h.m p.1 = .miter p.2.1 p.2.2 [] ∧ (∃ es, h.m p.2.1 = .gmap es ∧ es.length = p.2.2) ∧ p.2.2 ≤ 2 ^ 40 := by
  unfold iterAt at hi
  split at hi
  · rename_i iid
    split at hi
    · rename_i mid n hm
      split at hi
      · rename_i es he
        obtain ⟨⟨g1, g2⟩, hi⟩ := guardO_some hi
        cases hi
        exact ⟨rfl, hm, ⟨es, he, g1⟩, g2⟩
      · cases hi
    · cases hi
  · cases hi
theorem agreeN_some {R : Type} {n : Nat} {F : List Nat → Option R} {r : R} (h : agreeN n F = some r) : ∀ π : List Nat, π.Perm (List.range n) → F π = some r := by
  unfold agreeN at h
  split at h
  · rename_i hx
    cases h
    exact Classical.choose_spec hx
  · cases h
theorem mapNext_some {N id : Nat} {ops : Array Oper} {dr : Bool} {it d : Tmp} {os : List Oper} (h : mapNext A N id ops dr = some (it, d, os)) : dr = false ∧ ∃ o, ops.toList = o :: os ∧ o.op = .next (.tmp it) false ∧ o.dst = some d ∧ o.guard = none ∧ d < N := by
  unfold mapNext at h
  cases hc : (dr || (getA id A.regs).isSome) with
  | true => rw [hc] at h; cases h
  | false =>
    rw [hc] at h
    simp only [cond_false] at h
    split at h
    · rename_i o os' ho
      split at h
      · rename_i it' d' h1 h2 h3
        cases hb : Nat.blt d' N with
        | false => rw [hb] at h; cases h
        | true =>
          rw [hb] at h
          cases h
          exact ⟨by simpa using (Bool.or_eq_false_iff.1 hc).1, o, ho, h1, h2, h3, by simpa using hb⟩
      · cases h
    · cases h
theorem perm_rest {n : Nat} {seen : List Nat} (h1 : seen.Nodup) (h2 : ∀ i ∈ seen, i < n) : (seen ++ (List.range n).filter (fun j => decide (j ∉ seen))).Perm (List.range n) := by
  refine (List.perm_ext_iff_of_nodup ?_ List.nodup_range).2 fun a => ?_
  · rw [List.nodup_append]
    refine ⟨h1, List.nodup_range.filter _, fun a ha b hb => ?_⟩
    have := of_decide_eq_true (List.mem_filter.1 hb).2
    exact fun e => this (e ▸ ha)
  · rw [List.mem_append, List.mem_filter, List.mem_range]
    constructor
    · rintro (h | ⟨h, _⟩)
      · exact h2 a h
      · exact h
    · intro h
      by_cases ha : a ∈ seen
      · exact .inl ha
      · exact .inr ⟨h, decide_eq_true ha⟩
theorem Rel.drawn {base : Nat} {ρ : Ren} {h : H} {w : World} (hr : Rel base ρ h w) : Rel base ρ h w.drew :=
  ⟨hr.gl, hr.hb, hr.used, hr.own, hr.gens, hr.top, hr.sep, hr.fzok, hr.fznew, hr.fzsep, hr.objs.keep (Ren.le.refl _) (fun _ _ h _ => h) (fun _ h => h) (fun _ _ h => h) (fun _ _ e _ => e) (Nat.le_refl _)⟩
/-- One step of a range over a map: nothing is left, or one that has not come yet. -/
theorem next_ok {base : Nat} {ρ : Ren} {h : H} {w : World} (hr : Rel base ρ h w) {iid mid n : Nat} {seen : List Nat} {es : List (V × V)} (h1 : h.m iid = .miter mid n seen) (h2 : h.m mid = .gmap es) (h3 : es.length = n) {u : Value} (hu : R ρ (.hp iid 0 0) u) (ty : TypeId) :
    ((∀ i, i < n → i ∈ seen) ∧ (Instr.next u false ty).run P w = .ok (.tuple #[.bool false]) w) ∨
    ∃ i k v w', i < n ∧ i ∉ seen ∧ (Instr.next u false ty).run P w = .ok (.tuple #[.bool true, k, v]) w' ∧ Rel base ρ (h.put iid (.miter mid n (seen ++ [i]))) w' ∧ Below base w w' := by
  obtain ⟨bi, oi, j1, j2, j3, j4⟩ := hr.objs.obj _ _ h1 rfl
  simp only [R] at hu
  obtain ⟨bi', xi, q1, rfl⟩ := hu
  obtain ⟨rfl, rfl⟩ : bi' = bi ∧ xi = 0 := by rw [j1] at q1; have := Option.some.inj q1; exact ⟨(Prod.mk.inj this).1.symm, (Prod.mk.inj this).2.symm⟩
  simp only [RO] at j4
  obtain ⟨bm, m1, rfl⟩ := j4
  obtain ⟨bm', om, k1, k2, k3, k4⟩ := hr.objs.obj _ _ h2 rfl
  obtain rfl : bm' = bm := by rw [k1] at m1; exact (Prod.mk.inj (Option.some.inj m1)).1
  simp only [RO] at k4
  obtain ⟨us, rfl, r1, r2⟩ := k4
  have hlen : us.length = n := by have := r1.length; simp at this; omega
  have hmem : ∀ x, x ∈ (entriesG us).toList ↔ ∃ i, ∃ hi : i < us.length, x = entryG us[i] i := fun x => by
    rw [entriesG_toList, List.mem_map]
    constructor
    · rintro ⟨⟨q, i⟩, hq, rfl⟩
      rw [List.mem_zipIdx_iff_getElem?] at hq
      obtain ⟨hi, he⟩ := List.getElem?_eq_some_iff.1 hq
      exact ⟨i, hi, by simp only at he; rw [he]⟩
    · rintro ⟨i, hi, rfl⟩
      exact ⟨(us[i], i), List.mem_zipIdx_iff_getElem?.2 (by simp [hi]), rfl⟩
  rcases run_next_at (P := P) w ty bi' bm' n n seen.toArray (entriesG us) us.length j3 k3 (fun x hx => by
      obtain ⟨i, hi, rfl⟩ := (hmem x).1 hx
      show i < n
      omega) (Nat.le_refl _) with ⟨h0, hrun⟩ | ⟨e, he, w1, hw1, hrun⟩
  · refine .inl ⟨fun i hi => ?_, hrun⟩
    have hl : leftOf (entriesG us) seen.toArray = #[] := Array.eq_empty_of_size_eq_zero h0
    unfold leftOf at hl
    rw [Array.filter_eq_empty_iff] at hl
    have := hl (entryG (us[i]'(by omega)) i) (by rw [← Array.mem_toList_iff]; exact (hmem _).2 ⟨i, by omega, rfl⟩)
    simpa [entryG] using this
  · unfold leftOf at he
    have he' : e ∈ (entriesG us).toList ∧ ¬ e.born ∈ seen := by simpa using he
    obtain ⟨i, hi, rfl⟩ := (hmem e).1 he'.1
    refine .inr ⟨i, us[i].1, us[i].2, _, by omega, he'.2, hrun, ?_⟩
    have hr1 : Rel base ρ h w1 := by rcases hw1 with rfl | rfl; exact hr; exact hr.drawn
    have hb1 : Below base w w1 := by rcases hw1 with rfl | rfl; exact Below.refl _ _; exact (Below.refl base w).drew
    have hset : ChangeMaps.setBlock w1 bi' (.mapIter (some bm') n (seen.toArray.push i) us.length) = w1.putObj bi' (.mapIter (some bm') n (seen.toArray.push i) us.length) := rfl
    obtain ⟨s1, s2⟩ := hr1.setObj (s' := .miter mid n (seen ++ [i])) (o' := .mapIter (some bm') n (seen.toArray.push i) us.length) h1 rfl rfl j1 (by
      simp only [RO]
      exact ⟨bm', k1, by rw [hlen]; simp⟩)
    show Rel base ρ _ (ChangeMaps.setBlock w1 bi' (.mapIter (some bm') n (seen.toArray.push i) us.length)) ∧ _
    rw [hset]
    exact ⟨s1, hb1.trans s2⟩
/-- What is to be shown of a piece of code. -/
def Snd (P : Program) (T : Table) (fn : Func) (rs : Res) (base : Nat) (lo : Nat → Prop) (c : Code) : Prop :=
  ∀ (A : Ann) (ro : Option Nat) (hro : A.inr = false → ro = none) (env : Env) (h : H) {α : Type} (k : Ex → Env → H → Option α) (res : α) (ρ : Ren) (a : Act) (w : World) (Q : Exit → Act → World → Prop),
    evalCode P T A fn rs c env h k = some res → St P T base lo fn.ntmps ρ env h a w → Then P T fn base lo (writes c) env ρ w k res Q → c.wpIn (FW ro) 0 P Q a w
/-- A range over a map: whatever the order, the same comes of it. -/
theorem map_loop (hT : TabW P T) {id : Nat} {ops : Array Oper} {dr : Bool} {rest : Code} {it d : Tmp} {os : List Oper} (hrest : ∀ r y, Code.seq (.region id ops dr) rest = .seq r y → Snd P T fn rs base lo y) {A : Ann} (hmap : mapNext A fn.ntmps id ops dr = some (it, d, os))
    {ro : Option Nat} (hro : A.inr = false → ro = none) {env : Env} {h : H} {α : Type} {k : Ex → Env → H → Option α} {res : α} {ρ : Ren} {a : Act} {w : World} {Q : Exit → Act → World → Prop} (hst : St P T base lo fn.ntmps ρ env h a w)
    (hk : Then P T fn base lo (writes (.loop (.seq (.region id ops dr) rest))) env ρ w k res Q) {ks : List Nat} {ts : List Ty} {kx : List Nat} {tx : List Ty} {x0 x1 : Option Nat} {t0 : TT ts} (ht0 : packK ks ts env = some t0) (hsub : ∀ t, t ∉ writes (.seq (.region id ops dr) rest) → t ∉ ks)
    (hs : (bif (writes (.seq (.region id ops dr) rest)).any (Nat.beq it) then none else
      (iterAt h (env it)).bind fun p => agreeN p.2.2 fun π =>
        (mrounds p.1 p.2.1 p.2.2
          (fun s : TT ts × H => runOps P T A fn.ntmps ops (os.map fun o => (o, none)) ((setL ks (TT.un ts s.1) (clearW (writes (.seq (.region id ops dr) rest)) env)).set d (.tuple [.bool true, .undef, .undef])) s.2 fun env' h' => evalCode P T A fn rs rest env' h' (turn rs ks ts kx tx x0 x1))
          (fun s : TT ts × H => runOps P T A fn.ntmps ops (os.map fun o => (o, none)) ((setL ks (TT.un ts s.1) (clearW (writes (.seq (.region id ops dr) rest)) env)).set d (.tuple [.bool false])) s.2 fun env' h' => evalCode P T A fn rs rest env' h' (turn rs ks ts kx tx x0 x1))
          [] π (t0, h)).bind (arriveX rs kx tx x0 x1 (clearW (writes (.seq (.region id ops dr) rest)) env) k)) = some res) : (Code.loop (.seq (.region id ops dr) rest)).wpIn (FW ro) 0 P Q a w := by
  have hsnd : Snd P T fn rs base lo rest := hrest _ _ rfl
  obtain ⟨rfl, o, hops, hop, hdst, hgu, hdN⟩ := mapNext_some hmap
  generalize hx : Code.seq (.region id ops false) rest = x at *
  cases hitw : (writes x).any (Nat.beq it) with
  | true => rw [hitw] at hs; simp at hs
  | false =>
  rw [hitw] at hs
  simp only [cond_false] at hs
  obtain ⟨⟨iid, mid, n⟩, hia, hag⟩ := Option.bind_eq_some_iff.1 hs
  obtain ⟨p1, p2, ⟨es, p3, p4⟩, p5⟩ := iterAt_some hia
  have hag := agreeN_some hag
  simp only at p1 p2 p3 p4 p5 hag
  have hitw : it ∉ writes x := fun hm => by
    have : (writes x).any (Nat.beq it) = true := List.any_eq_true.2 ⟨it, hm, by simp⟩
    rw [hitw] at this; cases this
  have hwx : writes x = writesOps ops.toList ++ writes rest := by rw [← hx]; rfl
  have hdw : d ∈ writesOps ops.toList := by
    rw [hops]
    exact List.mem_filterMap.2 ⟨o, by simp, hdst⟩
  have hlenw : ops.size = os.length + 1 := by
    have := congrArg List.length hops
    simpa using this
  -- the end of a round that does not go on
  have out : ∀ (fl : Flow (TT tx) rs.C × H) (env1 : Env) (ρ1 : Ren) (w1 : World), ρ.le ρ1 → Below base w w1 → (∀ t, t ∉ writes x → env1 t = env t) → arriveX rs kx tx x0 x1 (clearW (writes x) env) k fl = some res →
      ∀ e env' h' ρ' a' w', ρ1.le ρ' → St P T base lo fn.ntmps ρ' env' h' a' w' → Below base w1 w' → (∀ t, t ∉ writes x → env' t = env1 t) → exOK P fn ρ' a' w' e → leave rs kx tx x0 x1 e env' h' = some fl → Q (exitOf e) a' w' := by
    intro fl env1 ρ1 w1 g1 g2 g3 harr e env' h' ρ' a' w' k1 k2 k3 k4 k5 k6
    have harr := arriveX_arrive harr
    have hfr : ∀ t, t ∉ writes x → env' t = env t := fun t ht => by rw [k4 t ht, g3 t ht]
    obtain ⟨env2, j1, j2⟩ := join_ok k6 harr
    rcases j2 with rfl | rfl
    · exact hk e _ h' ρ' a' w' (g1.trans k1) ⟨k2.rel, k2.env.keep hfr, k2.size, k2.yok, k2.defers⟩ (g2.trans k3) (frame_keep hfr) j1 k5
    · exact hk e _ h' ρ' a' w' (g1.trans k1) ⟨k2.rel, k2.env.forget hfr, k2.size, k2.yok, k2.defers⟩ (g2.trans k3) (fun t ht => clearW_not ht) j1 k5
  refine wpIn_loop_rounds (n + 1) ?_
  -- all rounds
  have key : ∀ (N m : Nat) (seen : List Nat) (s : TT ts × H) (a1 : Act) (w1 : World) (ρ1 : Ren), seen.Nodup → (∀ i ∈ seen, i < n) → n = seen.length + m →
      (∀ π, (seen ++ π).Perm (List.range n) → (mrounds iid mid n
          (fun s : TT ts × H => runOps P T A fn.ntmps ops (os.map fun o => (o, none)) ((setL ks (TT.un ts s.1) (clearW (writes x) env)).set d (.tuple [.bool true, .undef, .undef])) s.2 fun env' h' => evalCode P T A fn rs rest env' h' (turn rs ks ts kx tx x0 x1))
          (fun s : TT ts × H => runOps P T A fn.ntmps ops (os.map fun o => (o, none)) ((setL ks (TT.un ts s.1) (clearW (writes x) env)).set d (.tuple [.bool false])) s.2 fun env' h' => evalCode P T A fn rs rest env' h' (turn rs ks ts kx tx x0 x1))
          seen π s).bind (arriveX rs kx tx x0 x1 (clearW (writes x) env) k) = some res) →
      ρ.le ρ1 → St P T base lo fn.ntmps ρ1 (setL ks (TT.un ts s.1) (clearW (writes x) env)) s.2 a1 w1 → Below base w w1 → s.2.m iid = .miter mid n seen → (∃ es, s.2.m mid = .gmap es ∧ es.length = n) →
      m < N → Code.roundsIn (FW ro) 0 P x Q N a1 w1 := by
    intro N
    induction N with
    | zero => exact fun m seen s a1 w1 ρ1 h1 h2 h3 h4 h5 h6 h7 h8 h9 hN => absurd hN (Nat.not_lt_zero _)
    | succ N ih =>
      intro m seen s a1 w1 ρ1 h1 h2 h3 h4 h5 h6 h7 h8 h9 hN
      obtain ⟨es1, e1, e2⟩ := h9
      rw [roundsIn_succ]
      have ho0 : ops[0]? = some o := by
        have : ops.toList[0]? = some o := by rw [hops]; rfl
        simpa using this
      have hfr1 : ∀ t, t ∉ writes x → setL ks (TT.un ts s.1) (clearW (writes x) env) t = env t := fun t ht => by rw [setL_not ks _ _ (hsub t ht), clearW_not ht]
      have hit : R ρ1 (.hp iid 0 0) (a1.eval (.tmp it)) := by
        have := h6.env.ev (.tmp it)
        simp only [ev, hfr1 it hitw, p1] at this
        exact this
      -- a round, once it is known what has come
      have go : ∀ (tv : V) (val : Value) (h2' : H) (w2 : World) (r : Stp (TT ts × H) (Flow (TT tx) rs.C × H)), (Instr.next (a1.eval (.tmp it)) false o.type).run P w1 = .ok val w2 → R ρ1 tv val → Rel base ρ1 h2' w2 → Below base w1 w2 →
          runOps P T A fn.ntmps ops (os.map fun o => (o, none)) ((setL ks (TT.un ts s.1) (clearW (writes x) env)).set d tv) h2' (fun env' h' => evalCode P T A fn rs rest env' h' (turn rs ks ts kx tx x0 x1)) = some r →
          (∀ e env' h' ρ' a' w', ρ1.le ρ' → St P T base lo fn.ntmps ρ' env' h' a' w' → Below base w1 w' → (∀ t, t ∉ writes x → env' t = setL ks (TT.un ts s.1) (clearW (writes x) env) t) → exOK P fn ρ' a' w' e → turn rs ks ts kx tx x0 x1 e env' h' = some r → Exit.then (Code.roundsIn (FW ro) 0 P x Q N) Q (exitOf e) a' w') →
          (Code.seq (.region id ops false) rest).wpIn (FW ro) 0 P (Exit.then (Code.roundsIn (FW ro) 0 P x Q N) Q) a1 w1 := by
        intro tv val h2' w2 r hrun htv hrel hbel hev hkont
        refine wpIn_seq (wpIn_region ?_)
        rw [hlenw, List.range_eq_range', List.range'_succ]
        simp only [wpOpsIn, ho0]
        have hwant : Region.wanted o (yielded ops a1.tmps) = true := by simp [Region.wanted, hgu]
        rw [if_pos hwant]
        refine wpX_in (fun c hc => by rw [hop] at hc; cases hc) ?_
        refine wp_value (val := val) (w' := w2) ?_ ?_
        · simp only [execOp, hop, Sem.run_bind, hrun, Result.andThen_ok, Sem.run_pure]
        · rw [hdst]
          have hd1 : d < a1.tmps.size := by rw [h6.size]; exact hdN
          refine plain_ok (ro := ro) (A := A) (ops := ops) (ρ₀ := ρ1) (env₀ := setL ks (TT.un ts s.1) (clearW (writes x) env)) (w₀ := w1) (res := r) hT (fun ρ' env' h' a' w' g1 g2 g3 g4 g5 => ?_) os 1 (by rw [hops]; rfl) ρ1 _ h2' (a1.put (some d) val) w2 (Ren.le.refl _)
            ⟨hrel, h6.env.put hd1 htv, by simp [Act.put, h6.size], h6.yok, h6.defers⟩ hbel (fun t ht => ?_) hev
          · refine hsnd A ro hro env' h' _ r ρ' a' w' _ g5 g2 fun e env'' h'' ρ'' a'' w'' k1 k2 k3 k4 k5 k6 => hkont e env'' h'' ρ'' a'' w'' (g1.trans k1) k2 (g3.trans k3) (fun t ht => ?_) k6 k5
            rw [hwx] at ht
            rw [k4 t (fun hh => ht (List.mem_append_right _ hh)), g4 t (fun hh => ht (List.mem_append_left _ hh))]
          · have : t ≠ d := fun e => ht (by rw [e]; exact hdw)
            simp [Env.set, beq_ne this]
      have goal' : (Code.seq (.region id ops false) rest).wpIn (FW ro) 0 P (Exit.then (Code.roundsIn (FW ro) 0 P x Q N) Q) a1 w1 := by
        rcases next_ok (P := P) h6.rel h8 e1 e2 hit o.type with ⟨hall, hrun⟩ | ⟨i, kv, vv, w2, hi, hns, hrun, hrel, hbel⟩
        · have hfil : (List.range n).filter (fun j => decide (j ∉ seen)) = [] := by
            rw [List.filter_eq_nil_iff]
            intro j hj
            have := hall j (List.mem_range.1 hj)
            simpa using this
          have hp := perm_rest h1 h2
          rw [hfil] at hp
          have h4' := h4 [] hp
          simp only [mrounds, Option.bind_eq_some_iff] at h4'
          obtain ⟨fl, ⟨r, hr, hr2⟩, harr⟩ := h4'
          cases r with
          | more _ => cases hr2
          | done fl' =>
            cases hr2
            refine go (.tuple [.bool false]) _ s.2 w1 _ hrun ?_ h6.rel (Below.refl _ _) hr fun e env' h' ρ' a' w' g1 g2 g3 g4 g5 g6 => ?_
            · simp only [R]
              exact ⟨[.bool false], rfl, by simp only [RL]; exact ⟨_, _, rfl, R_bool.2 rfl, rfl⟩⟩
            · have hout := out fl _ ρ1 w1 h5 h7 hfr1 harr e env' h' ρ' a' w' g1 g2 g3 g4 g5
              cases e with
              | normal =>
                simp only [turn, Option.bind_eq_some_iff, Option.some.injEq, reduceCtorEq, and_false, exists_false] at g6
              | exit id =>
                simp only [turn, Option.bind_eq_some_iff, Option.some.injEq, Stp.done.injEq, exists_eq_right] at g6
                exact hout g6
              | ret v =>
                simp only [turn, Option.bind_eq_some_iff, Option.some.injEq, Stp.done.injEq, exists_eq_right] at g6
                exact hout g6
        · have hnd : (seen ++ [i]).Nodup := by
            rw [List.nodup_append]
            refine ⟨h1, by simp, fun a ha b hb => ?_⟩
            simp at hb
            subst hb
            exact fun e => hns (e ▸ ha)
          have hlt : ∀ j ∈ seen ++ [i], j < n := fun j hj => by
            rcases List.mem_append.1 hj with hj | hj
            · exact h2 j hj
            · simp at hj; subst hj; exact hi
          have h4' : ∀ π, ((seen ++ [i]) ++ π).Perm (List.range n) → ∃ r, runOps P T A fn.ntmps ops (os.map fun o => (o, none)) ((setL ks (TT.un ts s.1) (clearW (writes x) env)).set d (.tuple [.bool true, .undef, .undef])) (s.2.put iid (.miter mid n (seen ++ [i]))) (fun env' h' => evalCode P T A fn rs rest env' h' (turn rs ks ts kx tx x0 x1)) = some r ∧
              (∀ fl, r = .done fl → arriveX rs kx tx x0 x1 (clearW (writes x) env) k fl = some res) ∧ (∀ s', r = .more s' → rangeOK (s.2.put iid (.miter mid n (seen ++ [i]))) s'.2 iid mid n (seen ++ [i]) = true ∧ (mrounds iid mid n
          (fun s : TT ts × H => runOps P T A fn.ntmps ops (os.map fun o => (o, none)) ((setL ks (TT.un ts s.1) (clearW (writes x) env)).set d (.tuple [.bool true, .undef, .undef])) s.2 fun env' h' => evalCode P T A fn rs rest env' h' (turn rs ks ts kx tx x0 x1))
          (fun s : TT ts × H => runOps P T A fn.ntmps ops (os.map fun o => (o, none)) ((setL ks (TT.un ts s.1) (clearW (writes x) env)).set d (.tuple [.bool false])) s.2 fun env' h' => evalCode P T A fn rs rest env' h' (turn rs ks ts kx tx x0 x1))
          (seen ++ [i]) π s').bind (arriveX rs kx tx x0 x1 (clearW (writes x) env) k) = some res) := fun π hπ => by
            have hq := h4 (i :: π) (by simpa using hπ)
            simp only [mrounds] at hq
            obtain ⟨fl, hq1, hq2⟩ := Option.bind_eq_some_iff.1 hq
            obtain ⟨r, hr, hr2⟩ := Option.bind_eq_some_iff.1 hq1
            refine ⟨r, hr, fun fl' e => ?_, fun s' e => ?_⟩
            · subst e; cases hr2; exact hq2
            · subst e
              simp only at hr2
              cases hro : rangeOK (s.2.put iid (.miter mid n (seen ++ [i]))) s'.2 iid mid n (seen ++ [i]) with
              | false => rw [hro] at hr2; cases hr2
              | true =>
                rw [hro] at hr2
                simp only [cond_true] at hr2
                exact ⟨rfl, by rw [hr2]; exact hq2⟩
          obtain ⟨r, hr, hdone, hmore⟩ := h4' _ (perm_rest hnd hlt)
          have hsame : ∀ π, ((seen ++ [i]) ++ π).Perm (List.range n) → ∀ s', r = .more s' → (mrounds iid mid n
          (fun s : TT ts × H => runOps P T A fn.ntmps ops (os.map fun o => (o, none)) ((setL ks (TT.un ts s.1) (clearW (writes x) env)).set d (.tuple [.bool true, .undef, .undef])) s.2 fun env' h' => evalCode P T A fn rs rest env' h' (turn rs ks ts kx tx x0 x1))
          (fun s : TT ts × H => runOps P T A fn.ntmps ops (os.map fun o => (o, none)) ((setL ks (TT.un ts s.1) (clearW (writes x) env)).set d (.tuple [.bool false])) s.2 fun env' h' => evalCode P T A fn rs rest env' h' (turn rs ks ts kx tx x0 x1))
          (seen ++ [i]) π s').bind (arriveX rs kx tx x0 x1 (clearW (writes x) env) k) = some res := fun π hπ s' e => by
            obtain ⟨r', hr', _, hm'⟩ := h4' π hπ
            obtain rfl : r' = r := by rw [hr] at hr'; exact (Option.some.inj hr').symm
            exact (hm' s' e).2
          refine go (.tuple [.bool true, .undef, .undef]) _ _ w2 r hrun ?_ hrel hbel hr fun e env' h' ρ' a' w' g1 g2 g3 g4 g5 g6 => ?_
          · simp only [R]
            exact ⟨[.bool true, kv, vv], rfl, by simp only [RL]; exact ⟨_, _, rfl, R_bool.2 rfl, _, _, rfl, by simp [R], _, _, rfl, by simp [R], rfl⟩⟩
          · cases e with
            | normal =>
              simp only [turn, Option.bind_eq_some_iff, Option.some.injEq] at g6
              obtain ⟨t', ht', rfl⟩ := g6
              obtain ⟨k1, k2⟩ := hmore _ rfl
              have hm2 : (s.2.put iid (.miter mid n (seen ++ [i]))).m mid = .gmap es1 := by
                have hne : mid ≠ iid := fun e => by rw [e, h8] at e1; cases e1
                simp [H.put, beq_ne hne, e1]
              obtain ⟨⟨es', q1, q2⟩, q3⟩ := rangeOK_some hm2 k1
              have hm0 : m ≠ 0 := fun e0 => by
                have hp := perm_rest hnd hlt
                have := hp.length_eq
                simp at this
                omega
              have hfr : ∀ t, t ∉ writes x → env' t = env t := fun t ht => by rw [g4 t ht, hfr1 t ht]
              refine ih (m - 1) (seen ++ [i]) (t', h') a' w' ρ' hnd hlt (by simp; omega) (fun π hπ => hsame π hπ _ rfl) (h5.trans g1) ?_ (h7.trans g3) q3 ⟨es', q1, by rw [q2]; exact e2⟩ (by omega)
              simp only [packK_un ht']
              exact ⟨g2.rel, g2.env.keep hfr, g2.size, g2.yok, g2.defers⟩
            | exit id =>
              simp only [turn, Option.bind_eq_some_iff, Option.some.injEq] at g6
              obtain ⟨fl, hfl, rfl⟩ := g6
              exact out fl _ ρ1 w1 h5 h7 hfr1 (hdone fl rfl) (.exit id) env' h' ρ' a' w' g1 g2 g3 g4 g5 hfl
            | ret v =>
              simp only [turn, Option.bind_eq_some_iff, Option.some.injEq] at g6
              obtain ⟨fl, hfl, rfl⟩ := g6
              exact out fl _ ρ1 w1 h5 h7 hfr1 (hdone fl rfl) (.ret v) env' h' ρ' a' w' g1 g2 g3 g4 g5 hfl
      rw [hx] at goal'
      exact goal'
  refine key (n + 1) n [] (t0, h) a w ρ List.nodup_nil (fun i hi => by cases hi) (by simp) (fun π hπ => hag π (by simpa using hπ)) (Ren.le.refl _) ?_ (Below.refl _ _) p2 ⟨es, p3, p4⟩ (by omega)
  simp only [packK_un ht0]
  exact ⟨hst.rel, hst.env.keep (fun _ _ => rfl), hst.size, hst.yok, hst.defers⟩
theorem code_sound2 (hT : TabW P T) (hm : P.follows .mixedOrders = true) : ∀ c : Code, Snd P T fn rs base lo c ∧ ∀ r x, c = .seq r x → Snd P T fn rs base lo x := by
  intro c
  induction c with
  | skip =>
    refine ⟨?_, fun _ _ e => by cases e⟩
    intro A ro hro env h α k res ρ a w Q hs hst hk
    exact wpIn_skip (hk .normal env h ρ a w (Ren.le.refl _) hst (Below.refl _ _) (fun _ _ => rfl) hs trivial)
  | label l =>
    refine ⟨?_, fun _ _ e => by cases e⟩
    intro A ro hro env h α k res ρ a w Q hs hst hk
    exact wpIn_label (hk .normal env h ρ a w (Ren.le.refl _) hst (Below.refl _ _) (fun _ _ => rfl) hs trivial)
  | exit id =>
    refine ⟨?_, fun _ _ e => by cases e⟩
    intro A ro hro env h α k res ρ a w Q hs hst hk
    exact wpIn_exit (hk (.exit id) env h ρ a w (Ren.le.refl _) hst (Below.refl _ _) (fun _ _ => rfl) hs trivial)
  | ret =>
    refine ⟨?_, fun _ _ e => by cases e⟩
    intro A ro hro env h α k res ρ a w Q hs hst hk
    simp only [evalCode] at hs
    obtain ⟨v, val, h1, h2, h3⟩ := theResult_ok (P := P) hst.rel hst.env hs
    exact wpIn_ret (hk (.ret v) env h ρ a w (Ren.le.refl _) hst (Below.refl _ _) (fun _ _ => rfl) h1 ⟨val, h3, h2⟩)
  | region id ops draw =>
    refine ⟨?_, fun _ _ e => by cases e⟩
    intro A ro hro env h α k res ρ a w Q hs hst hk
    have key : ∀ {β : Type} (k2 : Env → H → Option β) (r2 : β), (bif draw then (bif drawOk T A ops then runOps P T A fn.ntmps ops (withIds T A ops.toList h.next) env (h.reserve (countN T A ops.toList)) (fun env' h' => guardsC (withIds T A ops.toList h.next) env' (conflL T A ops) (k2 env' h')) else none)
        else runOps P T A fn.ntmps ops (ops.toList.map fun o => (o, none)) env h k2) = some r2 →
        (∀ ρ' env' h' a' w', ρ.le ρ' → St P T base lo fn.ntmps ρ' env' h' a' w' → Below base w w' → (∀ t, t ∉ writesOps ops.toList → env' t = env t) → k2 env' h' = some r2 → Q .normal a' w') → (Code.region id ops draw).wpIn (FW ro) 0 P Q a w := by
      intro β k2 r2 h2 hk2
      cases draw with
      | false =>
        simp only [cond_false] at h2
        refine wpIn_region ?_
        have := plain_ok (ro := ro) (Q := Q) (w₀ := w) hT hk2 ops.toList 0 rfl ρ env h a w (Ren.le.refl _) hst (Below.refl _ _) (fun _ _ => rfl) h2
        rw [List.range_eq_range']
        simpa using this
      | true =>
        simp only [cond_true] at h2
        cases hd : drawOk T A ops with
        | false => rw [hd] at h2; simp at h2
        | true =>
          rw [hd] at h2
          simp only [cond_true] at h2
          refine wpIn_region_any hm ?_
          have hr' : Rel base ρ (h.reserve (countN T A ops.toList)) w.drew :=
            ⟨hst.rel.gl, hst.rel.hb, hst.rel.used, hst.rel.own, hst.rel.gens, fun i hi => hst.rel.top i (by simp only [H.reserve] at hi; omega), hst.rel.sep, hst.rel.fzok, hst.rel.fznew, hst.rel.fzsep, hst.rel.objs.keep (Ren.le.refl _) (fun _ _ h _ => h) (fun _ h => h) (fun _ _ h => h) (fun _ _ e _ => e) (Nat.le_refl _)⟩
          have hbel : Below base w w.drew := (Below.refl base w).drew
          have hdo := hd
          simp only [drawOk, Bool.and_eq_true, List.all_eq_true] at hdo
          obtain ⟨ef, hf, hgs, _, hruns⟩ := runs_of (ids := withIds T A ops.toList h.next) (hot := fun i => ∃ j, (i, j) ∈ conflL T A ops ∨ (j, i) ∈ conflL T A ops) hT (fun i p hp => by simpa using (withIds_get ops.toList h.next i p hp).1)
            (fun i hi => by
              obtain ⟨j, hj | hj⟩ := hi
              · exact (hdo.1.1.2 _ hj).1
              · exact (hdo.1.1.2 _ hj).2) _ 0 env _ rfl h2
          obtain ⟨hkf, hτ⟩ := guardsC_some hgs
          refine draw_ok (ro := ro) (N := fn.ntmps) hT hd (b := h.next) (ρ₀ := ρ) (env₀ := env) (w₀ := w) hkf hτ hk2 ops.size (List.range ops.size) (Array.replicate ops.size false) ρ env (h.reserve (countN T A ops.toList)) a w.drew (by simp) List.pairwise_lt_range ?_ (by simp) ?_ ?_
            (Ren.le.refl _) ⟨hr', hst.env, hst.size, hst.yok, hst.defers⟩ hbel (fun _ _ => rfl) ?_
          · intro i
            simp only [List.mem_range]
            constructor
            · intro hi; exact ⟨hi, by simp [hi]⟩
            · exact fun hi => hi.1
          · intro i o ho hl e he hb
            have : i < ops.size := (Array.getElem?_eq_some_iff.1 ho).1
            simp [this] at hl
          · intro i hi p hp id hid
            obtain ⟨_, h2, h3⟩ := (withIds_get ops.toList h.next i p hp).2.2 id hid
            exact ⟨hst.rel.top id h2, by simp only [H.reserve]; exact h3⟩
          · have hl : ops.size = (withIds T A ops.toList h.next).length := by rw [withIds_length]; simp
            rw [List.range_eq_range', hl]
            exact hruns
    simp only [evalCode] at hs
    split at hs
    · exact key _ _ hs fun ρ' env' h' a' w' g1 g2 g3 g4 g5 => hk .normal env' h' ρ' a' w' g1 g2 g3 g4 g5 trivial
    · rename_i ks ts hj
      simp only [Option.bind_eq_some_iff] at hs
      obtain ⟨⟨t, h2⟩, hs1, hs2⟩ := hs
      refine key _ _ hs1 fun ρ' env' h' a' w' g1 g2 g3 g4 g5 => ?_
      simp only [Option.bind_eq_some_iff, Option.some.injEq, Prod.mk.injEq] at g5
      obtain ⟨t', ht, rfl, rfl⟩ := g5
      simp only [packK_un ht] at hs2
      exact hk .normal _ h' ρ' a' w' g1 ⟨g2.rel, g2.env.keep g4, g2.size, g2.yok, g2.defers⟩ g3 (frame_keep g4) hs2 trivial
  | seq x y ihx ihy =>
    refine ⟨?_, fun _ _ e => by cases e; exact ihy.1⟩
    intro A ro hro env h α k res ρ a w Q hs hst hk
    simp only [evalCode] at hs
    refine wpIn_seq (ihx.1 A ro hro env h _ res ρ a w _ hs hst fun e env' h' ρ' a' w' g1 g2 g3 g4 g5 g6 => ?_)
    have hw : ∀ t, t ∉ writes (.seq x y) → env' t = env t := fun t ht => g4 t fun hh => ht (by simp [writes, hh])
    cases e with
    | normal =>
      refine ihy.1 A ro hro env' h' k res ρ' a' w' Q g5 g2 fun e2 env2 h2 ρ2 a2 w2 k1 k2 k3 k4 k5 k6 => hk e2 env2 h2 ρ2 a2 w2 (g1.trans k1) k2 (g3.trans k3) (fun t ht => ?_) k5 k6
      rw [k4 t fun hh => ht (by simp [writes, hh]), hw t ht]
    | exit id => exact hk (.exit id) env' h' ρ' a' w' g1 g2 g3 hw g5 g6
    | ret v => exact hk (.ret v) env' h' ρ' a' w' g1 g2 g3 hw g5 g6
  | cond c x y ihx ihy =>
    refine ⟨?_, fun _ _ e => by cases e⟩
    intro A ro hro env h α k res ρ a w Q hs hst hk
    simp only [evalCode] at hs
    split at hs
    · rename_i g hg
      have hc := hst.env.ev c
      rw [hg, R_bool] at hc
      split at hs
      · cases g with
        | true =>
          exact wpIn_cond hc (ihx.1 A ro hro env h k res ρ a w Q hs hst fun e env' h' ρ' a' w' g1 g2 g3 g4 g5 g6 => hk e env' h' ρ' a' w' g1 g2 g3 (fun t ht => g4 t fun hh => ht (by simp [writes, hh])) g5 g6)
        | false =>
          exact wpIn_cond hc (ihy.1 A ro hro env h k res ρ a w Q hs hst fun e env' h' ρ' a' w' g1 g2 g3 g4 g5 g6 => hk e env' h' ρ' a' w' g1 g2 g3 (fun t ht => g4 t fun hh => ht (by simp [writes, hh])) g5 g6)
      · rename_i ks ts x0 x1 _
        simp only [Option.bind_eq_some_iff] at hs
        obtain ⟨fl, hs1, hs2⟩ := hs
        have fin : ∀ e env' h' ρ' a' w', ρ.le ρ' → St P T base lo fn.ntmps ρ' env' h' a' w' → Below base w w' → (∀ t, t ∉ writes (.cond c x y) → env' t = env t) → leave rs ks ts x0 x1 e env' h' = some fl → exOK P fn ρ' a' w' e → Q (exitOf e) a' w' := fun e env' h' ρ' a' w' g1 g2 g3 g4 g5 g6 => by
          obtain ⟨env2, j1, j2⟩ := join_ok g5 hs2
          rcases j2 with rfl | rfl
          · exact hk e _ h' ρ' a' w' g1 ⟨g2.rel, g2.env.keep g4, g2.size, g2.yok, g2.defers⟩ g3 (frame_keep g4) j1 g6
          · exact hk e _ h' ρ' a' w' g1 ⟨g2.rel, g2.env.forget g4, g2.size, g2.yok, g2.defers⟩ g3 (fun t ht => clearW_not ht) j1 g6
        cases g with
        | true =>
          exact wpIn_cond hc (ihx.1 A ro hro env h _ fl ρ a w Q hs1 hst fun e env' h' ρ' a' w' g1 g2 g3 g4 g5 g6 => fin e env' h' ρ' a' w' g1 g2 g3 (fun t ht => g4 t fun hh => ht (by simp [writes, hh])) g5 g6)
        | false =>
          exact wpIn_cond hc (ihy.1 A ro hro env h _ fl ρ a w Q hs1 hst fun e env' h' ρ' a' w' g1 g2 g3 g4 g5 g6 => fin e env' h' ρ' a' w' g1 g2 g3 (fun t ht => g4 t fun hh => ht (by simp [writes, hh])) g5 g6)
    · cases hs
  | block id x ih =>
    refine ⟨?_, fun _ _ e => by cases e⟩
    intro A ro hro env h α k res ρ a w Q hs hst hk
    simp only [evalCode] at hs
    refine wpIn_block (ih.1 A ro hro env h _ res ρ a w _ hs hst fun e env' h' ρ' a' w' g1 g2 g3 g4 g5 g6 => ?_)
    cases e with
    | normal => exact hk .normal env' h' ρ' a' w' g1 g2 g3 g4 g5 trivial
    | ret v => exact hk (.ret v) env' h' ρ' a' w' g1 g2 g3 g4 g5 g6
    | exit j =>
      simp only [exitOf, Exit.inBlock]
      simp only at g5
      by_cases hj : j = id
      · subst hj
        rw [if_pos rfl]
        simp only [show Nat.beq j j = true by simp, cond_true] at g5
        exact hk .normal env' h' ρ' a' w' g1 g2 g3 g4 g5 trivial
      · rw [if_neg hj]
        simp only [beq_ne hj, cond_false] at g5
        exact hk (.exit j) env' h' ρ' a' w' g1 g2 g3 g4 g5 trivial
  | loop x ih =>
    refine ⟨?_, fun _ _ e => by cases e⟩
    intro A ro hro env h α k res ρ a w Q hs hst hk
    simp only [evalCode] at hs
    split at hs
    · cases hs
    · rename_i ks ts kx tx x0 x1 _
      cases hin : !(ks.all fun t => (writes x).any (Nat.beq t)) with
      | true => rw [hin] at hs; simp at hs
      | false =>
      rw [hin] at hs
      have hsub : ∀ t, t ∉ writes x → t ∉ ks := fun t ht hk => ht (by
        simp only [Bool.not_eq_false', List.all_eq_true] at hin
        obtain ⟨y, hy, he⟩ := List.any_eq_true.1 (hin t hk)
        exact Nat.eq_of_beq_eq_true he ▸ hy)
      simp only [cond_false] at hs
      obtain ⟨t0, ht0, hs⟩ := Option.bind_eq_some_iff.1 hs
      have hplain : (iter FUEL (fun s : TT ts × H => evalCode P T A fn rs x (setL ks (TT.un ts s.1) (clearW (writes x) env)) s.2 (turn rs ks ts kx tx x0 x1)) (t0, h)).bind (arriveX rs kx tx x0 x1 (clearW (writes x) env) k) = some res → (Code.loop x).wpIn (FW ro) 0 P Q a w := fun hs => by
       simp only [Option.bind_eq_some_iff] at hs
       obtain ⟨fl, hs1, hs2⟩ := hs
       have hs2 := arriveX_arrive hs2
       refine wpIn_loop_rounds FUEL ?_
       refine rounds_ok (fl := fl) (I := fun (s : TT ts × H) a w' => ∃ ρ', ρ.le ρ' ∧ St P T base lo fn.ntmps ρ' (setL ks (TT.un ts s.1) (clearW (writes x) env)) s.2 a w' ∧ Below base w w') ?_ FUEL (t0, h) a w hs1 ?_
       · intro s r a1 w1 hr hI
         obtain ⟨ρ1, i1, i2, i3⟩ := hI
         refine ih.1 A ro hro _ s.2 _ r ρ1 a1 w1 _ hr i2 fun e env' h' ρ' a' w' g1 g2 g3 g4 g5 g6 => ?_
         have hfr : ∀ t, t ∉ writes x → env' t = env t := fun t ht => by
           rw [g4 t ht, setL_not ks _ _ (hsub t ht), clearW_not ht]
         have out : ∀ e, e ≠ .normal → exOK P fn ρ' a' w' e → (∃ fl', leave rs kx tx x0 x1 e env' h' = some fl' ∧ r = .done fl') →
             (∃ s', r = .more s' ∧ exitOf e = .normal ∧ ∃ ρ', ρ.le ρ' ∧ St P T base lo fn.ntmps ρ' (setL ks (TT.un ts s'.1) (clearW (writes x) env)) s'.2 a' w' ∧ Below base w w') ∨
               (r = .done fl ∧ exitOf e ≠ .normal ∧ Q (exitOf e) a' w') ∨ ∃ x, r = .done x ∧ x ≠ fl := by
           rintro e hne hex ⟨fl', hfl, rfl⟩
           by_cases hfe : fl' = fl
           · subst hfe
             refine .inr (.inl ⟨rfl, exitOf_ne hne, ?_⟩)
             obtain ⟨env2, j1, j2⟩ := join_ok hfl hs2
             rcases j2 with rfl | rfl
             · exact hk e _ h' ρ' a' w' (i1.trans g1) ⟨g2.rel, g2.env.keep hfr, g2.size, g2.yok, g2.defers⟩ (i3.trans g3) (frame_keep hfr) j1 hex
             · exact hk e _ h' ρ' a' w' (i1.trans g1) ⟨g2.rel, g2.env.forget hfr, g2.size, g2.yok, g2.defers⟩ (i3.trans g3) (fun t ht => clearW_not ht) j1 hex
           · exact .inr (.inr ⟨fl', rfl, hfe⟩)
         cases e with
         | normal =>
           simp only [turn, Option.bind_eq_some_iff, Option.some.injEq] at g5
           obtain ⟨t, ht, rfl⟩ := g5
           refine .inl ⟨_, rfl, rfl, ρ', i1.trans g1, ?_, i3.trans g3⟩
           simp only [packK_un ht]
           exact ⟨g2.rel, g2.env.keep hfr, g2.size, g2.yok, g2.defers⟩
         | exit id =>
           simp only [turn, Option.bind_eq_some_iff, Option.some.injEq] at g5
           obtain ⟨fl', hfl, rfl⟩ := g5
           exact out (.exit id) (by simp) g6 ⟨fl', hfl, rfl⟩
         | ret v =>
           simp only [turn, Option.bind_eq_some_iff, Option.some.injEq] at g5
           obtain ⟨fl', hfl, rfl⟩ := g5
           exact out (.ret v) (by simp) g6 ⟨fl', hfl, rfl⟩
       · refine ⟨ρ, Ren.le.refl _, ?_, Below.refl _ _⟩
         simp only [packK_un ht0]
         exact ⟨hst.rel, hst.env.keep (fun _ _ => rfl), hst.size, hst.yok, hst.defers⟩
      cases x with
      | seq r rest =>
        cases r with
        | region id ops dr =>
          simp only at hs
          split at hs
          · rename_i it d os hmap
            exact map_loop hT ih.2 hmap hro hst hk ht0 hsub hs
          · exact hplain hs
        | _ => exact hplain hs
      | _ => exact hplain hs
  | scope x ih => refine ⟨?_, fun _ _ e => by cases e⟩; intro A ro hro env h α k res ρ a w Q hs; simp [evalCode] at hs
  | goto l => refine ⟨?_, fun _ _ e => by cases e⟩; intro A ro hro env h α k res ρ a w Q hs; simp [evalCode] at hs
  | refuse s => refine ⟨?_, fun _ _ e => by cases e⟩; intro A ro hro env h α k res ρ a w Q hs; simp [evalCode] at hs
  | rangeFunc g ps as b iha ihb =>
    refine ⟨?_, fun _ _ e => by cases e⟩
    intro A ro hro env h α k res ρ a w Q hs hst hk
    simp only [evalCode] at hs
    cases hin : A.inr with
    | true => rw [hin] at hs; simp at hs
    | false =>
    have hro' := hro hin
    subst hro'
    rw [hin] at hs
    simp only [cond_false] at hs
    split at hs
    · cases hs
    · rename_i ts hts
      cases hok : (!(Nat.beq ps.size ts.length) || !(decide ps.toList.Nodup) || !(ps.toList.all fun t => Nat.blt t fn.ntmps)) with
      | true => rw [hok] at hs; simp at hs
      | false =>
      rw [hok] at hs
      simp only [Bool.or_eq_false_iff, Bool.not_eq_false', decide_eq_true_eq, List.all_eq_true] at hok
      obtain ⟨⟨hsz, hnd⟩, hlt⟩ := hok
      have hsz : ps.size = ts.length := Nat.eq_of_beq_eq_true hsz
      have hlt : ∀ t ∈ ps.toList, t < fn.ntmps := fun t ht => by simpa using hlt t ht
      simp only [cond_false] at hs
      have hcall := hs
      clear hs
      obtain ⟨Y, hY⟩ : ∃ Y, Y = mkY ts h.next fun x h1 => roundV h.next (fun h1 k => evalCode P T { A with inr := true } fn rs as (setL ps.toList (TT.un ts x) env) h1 k) (fun env1 h2 k => evalCode P T { A with inr := true } fn rs b env1 h2 k) h1 := ⟨_, rfl⟩
      rw [← hY] at hcall
      have hg := hst.env.ev g
      cases hv : ev env g <;> rw [hv] at hcall <;> simp only [callIt, reduceCtorEq] at hcall
      case func f cs =>
      rw [hv] at hg
      simp only [R] at hg
      obtain ⟨us, hgv, hgl⟩ := hg
      refine wpIn_rangeFunc fun fnid _ => ?_
      obtain ⟨K, hK⟩ : ∃ K : Loop, K = { state := .ready, pending := none, fn := fnid, tmps := a.tmps, params := ps, assign := as, body := b, defers := w.heap.size } := ⟨_, rfl⟩
      obtain ⟨le1, rel1⟩ := hst.rel.newDef
      have hsz1 : (w.alloc (.deferred (some []))).heap.size = w.heap.size + 1 := World.size_alloc ..
      generalize hρ1 : ({ ρ with df := fun D => D = w.heap.size ∨ ρ.df D } : Ren) = ρ1 at le1 rel1
      have hdf1 : ρ1.df w.heap.size := by rw [← hρ1]; exact .inl rfl
      obtain ⟨le2, rel2⟩ := rel1.newObj (s := .loop .ready) rfl (some K) (o := .loop K) ⟨K, if_pos rfl, by rw [hK]⟩
      have hm2 : ({ (ρ1.with h.next 0 ((w.alloc (.deferred (some []))).heap.size, 0)) with lp := fun b => if b = (w.alloc (.deferred (some []))).heap.size then some K else ρ1.lp b } : Ren).map h.next 0 = some (w.heap.size + 1, 0) := by
        show (ρ1.with h.next 0 _).map h.next 0 = _
        rw [Ren.with_same, hsz1]
      have hl2 : ({ (ρ1.with h.next 0 ((w.alloc (.deferred (some []))).heap.size, 0)) with lp := fun b => if b = (w.alloc (.deferred (some []))).heap.size then some K else ρ1.lp b } : Ren).lp (w.heap.size + 1) = some K := by
        show (if _ then _ else _) = _
        rw [hsz1, if_pos rfl]
      generalize ({ (ρ1.with h.next 0 ((w.alloc (.deferred (some []))).heap.size, 0)) with lp := fun b => if b = (w.alloc (.deferred (some []))).heap.size then some K else ρ1.lp b } : Ren) = ρ2 at le2 rel2 hm2 hl2
      have le02 := le1.trans le2
      have bel2 : Below base w ((w.alloc (.deferred (some []))).alloc (.loop K)) := ((Below.refl base w).alloc hst.rel.hb _).alloc (by rw [hsz1]; have := hst.rel.hb; omega) _
      -- the record, wherever one stands
      have recd : ∀ ρ' h' w' st, ρ2.le ρ' → Rel base ρ' h' w' → h'.m h.next = .loop st → ρ'.map h.next 0 = some (w.heap.size + 1, 0) ∧ ρ'.lp (w.heap.size + 1) = some K ∧ w'.heap[w.heap.size + 1]? = some (.loop { K with state := st, pending := none }) := fun ρ' h' w' st hle hrel hm => by
        obtain ⟨b', o, k1, k2, k3, k4⟩ := hrel.objs.obj _ _ hm rfl
        have e1 := hle.1 _ _ _ hm2
        rw [e1] at k1
        cases k1
        obtain ⟨K', j1, rfl⟩ := k4
        have e2 := hle.2.2.2 _ _ hl2
        rw [e2] at j1
        cases j1
        exact ⟨e1, e2, k3⟩
      have turn : ∀ ρ' h' w' st st', ρ2.le ρ' → Rel base ρ' h' w' → h'.m h.next = .loop st → Rel base ρ' (h'.put h.next (.loop st')) (w'.putObj (w.heap.size + 1) (.loop { K with state := st', pending := none })) ∧ Below base w' (w'.putObj (w.heap.size + 1) (.loop { K with state := st', pending := none })) := fun ρ' h' w' st st' hle hrel hm => by
        obtain ⟨k1, k2, k3⟩ := recd ρ' h' w' st hle hrel hm
        exact hrel.setObj hm rfl rfl k1 ⟨K, k2, rfl⟩
      have hYok : YOK P base ρ2 Y := by
        intro args hh v h' hv'
        rw [hY] at hv'
        cases args with
        | nil => simp [mkY] at hv'
        | cons v0 vs =>
          cases v0 <;> simp only [mkY, reduceCtorEq] at hv'
          rename_i id
          by_cases hid : id = h.next
          · subst hid
            have hbt : Nat.beq h.next h.next = true := by simp
            rw [hbt] at hv'
            simp only [cond_true, Option.bind_eq_some_iff, Option.some.injEq, Prod.mk.injEq] at hv'
            obtain ⟨x, hx, h'', hround, rfl, rfl⟩ := hv'
            refine ⟨_, _, rfl, fun ρ' w' us' bb xx hle hrel hrl hmap => ?_⟩
            have hun := TT.un_pack ts vs x hx
            simp only [roundV, Option.bind_eq_some_iff] at hround
            obtain ⟨hb0, hbeg0, hasg⟩ := hround
            have ready : ∀ (h1 h2 : H), h1.begin h.next = some h2 → h1.m h.next = .loop .ready ∧ h2 = h1.put h.next (.loop .busy) := fun h1 h2 e => by
              unfold H.begin at e
              split at e
              · rename_i hm; cases e; exact ⟨hm, rfl⟩
              · cases e
            obtain ⟨k1, k2, k3⟩ := recd ρ' hh w' .ready hle hrel (ready _ _ hbeg0).1
            rw [k1] at hmap
            cases hmap
            have hlen : us'.toArray.size = ps.size := by
              have e1 := hrl.length
              have e2 : vs.length = ts.length := by
                have : ∀ (ts : List Ty) (vs : List V) (x : TT ts), TT.pack ts vs = some x → vs.length = ts.length := fun ts => by
                  induction ts with
                  | nil => intro vs x h; cases vs <;> simp [TT.pack] at h ⊢
                  | cons t ts ih =>
                    intro vs x h
                    cases ts with
                    | nil => cases vs with
                      | nil => simp [TT.pack] at h
                      | cons v vs => cases vs with
                        | nil => rfl
                        | cons _ _ => simp [TT.pack] at h
                    | cons t' ts => cases vs with
                      | nil => simp [TT.pack] at h
                      | cons v vs =>
                        simp only [TT.pack, Option.bind_eq_some_iff] at h
                        obtain ⟨_, _, y, hy, _⟩ := h
                        have := ih vs y hy
                        simp only [List.length_cons] at this ⊢
                        omega
                exact this ts vs x hx
              simp only [List.size_toArray]
              omega
            refine ⟨_, _, _, _, w', run_yield k3 (by simpa [hK] using hlen), ?_⟩
            have hfold : ((({ K with state := .ready, pending := none } : Loop).params.zip us'.toArray).foldl (fun tmps (t, a) => tmps.setIfInBounds t a) ({ K with state := .ready, pending := none } : Loop).tmps) = (ps.toList.zip us').foldl (fun tmps p => tmps.setIfInBounds p.1 p.2) a.tmps := by
              rw [← Array.foldl_toList]
              simp [hK]
            rw [hfold, show ({ K with state := .ready, pending := none } : Loop).fn = fnid by rw [hK], show ({ K with state := .ready, pending := none } : Loop).assign = as by rw [hK], show ({ K with state := .ready, pending := none } : Loop).body = b by rw [hK]]
            refine roundIn_of_wpIn trivial ?_
            have hroA : ({ A with inr := true } : Ann).inr = false → (some (w.heap.size + 1) : Option Nat) = none := fun h => by cases h
            refine iha.1 { A with inr := true } (some (w.heap.size + 1)) hroA (setL ps.toList (TT.un ts x) env) hh _ h'' ρ' _ w' _ hasg ⟨hrel, ?_, ?_, ?_, ?_⟩ ?_
            · rw [hun]
              have := EnvOK.params ps.toList vs us' env { a with defers := [] } (fun t => (hst.env.mono (le02.trans hle)) t) hnd (by rw [Array.length_toList, hsz, ← hun]; exact (TT_un_length ts x).symm) hrl (fun t ht => by have := hlt t ht; rw [← hst.size] at this; exact this)
              exact this
            · rw [params_size]; exact hst.size
            · exact hst.yok.mono (le02.trans hle)
            · exact ⟨fun D hD => (hst.defers.mono (le02.trans hle)).1 D hD, [], rfl, List.nodup_nil, fun D hD => by cases hD⟩
            · intro e env1 h1 ρ1' a1 w1 g1 g2 g3 g4 g5 g6
              cases e with
              | exit id => simp at g5
              | ret v => simp at g5
              | normal =>
                simp only [Option.bind_eq_some_iff] at g5
                obtain ⟨h1b, hbeg1, hbody⟩ := g5
                obtain ⟨hr1, rfl⟩ := ready _ _ hbeg1
                obtain ⟨j1, j2, j3⟩ := recd ρ1' h1 w1 .ready (hle.trans g1) g2.rel hr1
                obtain ⟨t1, t2⟩ := turn ρ1' h1 w1 .ready .busy (hle.trans g1) g2.rel hr1
                refine ⟨_, run_beginRound j3 rfl, ?_⟩
                refine ihb.1 { A with inr := true } (some (w.heap.size + 1)) hroA env1 _ _ h'' ρ1' a1 _ _ hbody ⟨t1, g2.env, g2.size, g2.yok, g2.defers⟩ ?_
                intro e2 env2 h5 ρ2' a2 w2 l1 l2 l3 l4 l5 l6
                cases e2 with
                | exit id => simp at l5
                | ret v => simp at l5
                | normal =>
                  simp only at l5
                  unfold H.endR at l5
                  split at l5
                  · rename_i hm5
                    cases l5
                    obtain ⟨q1, q2, q3⟩ := recd ρ2' h5 w2 .busy ((hle.trans g1).trans l1) l2.rel hm5
                    obtain ⟨s1, s2⟩ := turn ρ2' h5 w2 .busy .ready ((hle.trans g1).trans l1) l2.rel hm5
                    refine ⟨_, _, run_endRound none q3, ρ2', _, g1.trans l1, s1, ((g3.trans t2).trans l3).trans s2, rfl, ?_⟩
                    rw [R_bool]
                    rfl
                  · cases l5
          · have hbt : Nat.beq id h.next = false := beq_ne hid
            rw [hbt] at hv'
            simp at hv'
      have hIt := hT.2.2.1 f Y (hY ▸ mkY_natl)
      have hrl2 : RL ρ2 ([.yld h.next] ++ cs) ([Value.func (.yield (w.heap.size + 1)) #[] #[]] ++ us) := by
        refine RL.append ?_ (RL_mono le02 _ _ hgl)
        simp only [RL, R]
        exact ⟨_, _, rfl, ⟨_, _, hm2, rfl⟩, rfl⟩
      obtain ⟨hrun, hcalls⟩ := hIt base ρ2 hYok _ _ _ _ _ hcall ρ2 _ _ (Ren.le.refl _) rel2 hrl2
      have harr : ([Value.func (.yield (w.heap.size + 1)) #[] #[]] ++ us).toArray = (#[] ++ #[Value.func (.yield (w.heap.size + 1)) #[] #[]]) ++ us.toArray := by
        apply Array.ext'
        simp
      rw [harr] at hrun hcalls
      obtain ⟨W2, hW2⟩ : ∃ W2, W2 = (w.alloc (.deferred (some []))).alloc (.loop K) := ⟨_, rfl⟩
      rw [← hW2] at hrun hcalls bel2
      refine ⟨w.heap.size + 1, [{ target := .collected w.heap.size, args := #[] }], W2, { target := .fn (.func f) us.toArray, args := #[] ++ #[Value.func (.yield (w.heap.size + 1)) #[] #[]] }, W2, f, (#[] ++ #[Value.func (.yield (w.heap.size + 1)) #[] #[]]) ++ us.toArray, W2, ?_, ?_, fun _ _ => trivial, ?_, fun h => (by cases h), ?_⟩
      · rw [hW2, hK]
        exact run_enterLoop_outer ..
      · have hev : a.eval (.const (.func (.yield (w.heap.size + 1)) #[] #[])) = .func (.yield (w.heap.size + 1)) #[] #[] := rfl
        simp only [resolve, rangeCall, hgv, Deferred.ofValue, Sem.run_pure, List.map_toArray, List.map_cons, List.map_nil, hev]
      · exact hrun
      · refine CallsIn.mono (callsIn_wide.2 hcalls) fun e w3 he => ?_
        obtain ⟨vr, h2, hs, ρ3, val, g1, g2, g3, rfl, g5⟩ := he
        simp only [Option.bind_eq_some_iff] at hs
        obtain ⟨h3, hend, hs⟩ := hs
        unfold H.endL at hend
        split at hend
        · rename_i hm3
          cases hend
          obtain ⟨q1, q2, q3⟩ := recd ρ3 _ w3 .ready g1 g2 hm3
          obtain ⟨s1, s2⟩ := turn ρ3 _ w3 .ready .exhausted g1 g2 hm3
          refine ⟨_, _, run_endLoop q3 (by simp), ?_⟩
          refine hk .normal env _ ρ3 _ _ (le02.trans g1) ⟨s1, ?_, hst.size, hst.yok.mono (le02.trans g1), ?_⟩ ?_ (fun _ _ => rfl) hs trivial
          · exact fun t => (hst.env.mono (le02.trans g1)) t
          · obtain ⟨hlo, Ds, e1, e2, e3⟩ := hst.defers
            refine ⟨fun D hD => (le02.trans g1).2.2.1 D (hlo D hD), w.heap.size :: Ds, by rw [e1]; rfl, List.nodup_cons.2 ⟨fun hin => ?_, e2⟩, fun D hD => ?_⟩
            · have := hst.rel.objs.df _ (e3 _ hin).2.1
              have := (Array.getElem?_eq_some_iff.1 this).1
              omega
            · rcases List.mem_cons.1 hD with rfl | hD
              · refine ⟨hst.rel.hb, (le2.trans g1).2.2.1 _ hdf1, fun hlo' => ?_⟩
                have := hst.rel.objs.df _ (hlo _ hlo')
                have := (Array.getElem?_eq_some_iff.1 this).1
                omega
              · exact ⟨(e3 D hD).1, (le02.trans g1).2.2.1 D (e3 D hD).2.1, (e3 D hD).2.2⟩
          · exact (bel2.trans g3).trans s2
        · cases hend
theorem code_sound (hT : TabW P T) (hm : P.follows .mixedOrders = true) (c : Code) : Snd P T fn rs base lo c := (code_sound2 hT hm c).1
end code
end Go.Proofs.YtjkjcnadgpndoaaGreat.Ev
