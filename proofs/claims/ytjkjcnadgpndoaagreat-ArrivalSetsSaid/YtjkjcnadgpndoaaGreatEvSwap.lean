/- Operations without an order between them may change places. Conditions: 'TabOK'. -/
import Derived.Test.YtjkjcnadgpndoaaGreatEvNat
namespace Go.Proofs.YtjkjcnadgpndoaaGreat.Ev
open Go Go.RowKit
set_option linter.unusedVariables false
set_option linter.unusedSimpArgs false

section swap
variable {P : Program} {T : Table} {A : Ann} {N : Nat} {ops : Array Oper} {α : Type}

/-! ### What an operation reads of the slots -/

theorem ev_set {env : Env} {d : Nat} {v : V} {x : Operand} (h : x ≠ .tmp d) : ev (env.set d v) x = ev env x := by
  cases x with
  | tmp t =>
    have : t ≠ d := fun e => h (by rw [e])
    simp [ev, Env.set, beq_ne this]
  | _ => rfl
theorem evs_set {env : Env} {d : Nat} {v : V} {xs : List Operand} (h : Operand.tmp d ∉ xs) : xs.map (ev (env.set d v)) = xs.map (ev env) :=
  List.map_congr_left fun x hx => ev_set fun e => h (e ▸ hx)
theorem stepOp_env {o : Oper} {at_ : Option Nat} {env : Env} {d : Nat} {v : V} {h : H} (hd : d ∉ o.looksAt ops) (k : V → H → Option α) :
    stepOp P T A o at_ (env.set d v) h k = stepOp P T A o at_ env h k := by
  have hx : ∀ x ∈ o.op.operands, ev (env.set d v) x = ev env x := fun x hx => ev_set fun e => hd (by
    subst e
    exact List.mem_append_left _ (List.mem_filterMap.2 ⟨.tmp d, by simpa using hx, rfl⟩))
  have hopt : ∀ (y : Option Operand), (∀ x, y = some x → ev (env.set d v) x = ev env x) → y.map (ev (env.set d v)) = y.map (ev env) := fun y hy => by
    cases y with
    | none => rfl
    | some x => simp [hy x rfl]
  obtain ⟨dst, op, type, pos, after, guard⟩ := o
  cases op <;> simp only [Op.operands] at hx <;> simp only [stepOp]
  case move x => rw [hx x (by simp)]
  case assign x => rw [hx x (by simp)]
  case pick c a b => rw [hx c (by simp), hx a (by simp), hx b (by simp)]
  case box e x => rw [hx x (by simp)]
  case build t ps =>
    have : evParts (env.set d v) ps = evParts env ps := List.map_congr_left fun p hp => by rw [hx p.2 (by simp; exact ⟨p.1, by simpa using hp⟩)]
    rw [this]
  case buildSlice t n ps =>
    have : evParts (env.set d v) ps = evParts env ps := List.map_congr_left fun p hp => by rw [hx p.2 (by simp; exact ⟨p.1, by simpa using hp⟩)]
    rw [this]
  case load t x => rw [hx x (by simp)]
  case store t x y => rw [hx x (by simp), hx y (by simp)]
  case nilCheck x => rw [hx x (by simp)]
  case binOp op t x y t' => rw [hx x (by simp), hx y (by simp)]
  case unOp op t x => rw [hx x (by simp)]
  case convert s t x => rw [hx x (by simp)]
  case makeFunc f first cs =>
    have : cs.toList.map (ev (env.set d v)) = cs.toList.map (ev env) := List.map_congr_left fun x hm => hx x (by simp; exact .inr (by simpa using hm))
    cases f <;> simp only [this]
  case makeSlice t l c => rw [hx l (by simp), hx c (by simp)]
  case slice t x lo hi mx =>
    rw [hx x (by simp), hopt lo (fun y hy => hx y (by simp [hy])), hopt hi (fun y hy => hx y (by simp [hy])), hopt mx (fun y hy => hx y (by simp [hy]))]
  case fieldAddr t x f => rw [hx x (by simp)]
  case field t x f => rw [hx x (by simp)]
  case indexAddr t x y => rw [hx x (by simp), hx y (by simp)]
  case index t x y => rw [hx x (by simp), hx y (by simp)]
  case extract x i => rw [hx x (by simp)]
  case lookup t m x c => rw [hx m (by simp), hx x (by simp)]
  case mapUpdate t m x y => rw [hx m (by simp), hx x (by simp), hx y (by simp)]
  case mapEntry t m x => rw [hx m (by simp), hx x (by simp)]
  case entryStore t m i y => rw [hx m (by simp), hx i (by simp), hx y (by simp)]
  case range t m => rw [hx m (by simp)]
  case entry x => rw [hx x (by simp)]
  case call c =>
    obtain ⟨callee, args, ts⟩ := c
    have hargs : args.toList.map (ev (env.set d v)) = args.toList.map (ev env) := List.map_congr_left fun x hm => hx x (by simp [Call.operands]; exact .inr (by simpa using hm))
    cases callee with
    | value f => simp only [hargs, hx f (by simp [Call.operands])]
    | builtin b => simp only [hargs]
    | invoke _ _ => rfl

/-! ### One operation with its guard -/

/-- Does the operation run? 'none': it cannot be said. -/
def wantedV (ops : Array Oper) (env : Env) (o : Oper) : Option Bool :=
  match o.guard with
  | none => some true
  | some (j, want) =>
    match (ops[j]?).bind (·.dst) with
    | none => none
    | some t => match env t with
      | .bool g => some (g == want)
      | .tuple [] => some false
      | _ => none
theorem Env.set_same (env : Env) (t : Nat) : env.set t (env t) = env := by
  funext i
  simp only [Env.set]
  by_cases hi : i = t
  · subst hi; simp
  · simp [beq_ne hi]
theorem Env.set_comm (env : Env) {s t : Nat} (hne : s ≠ t) (u v : V) : (env.set s u).set t v = (env.set t v).set s u := by
  funext i
  simp only [Env.set]
  by_cases hi : i = t
  · subst hi; simp [beq_ne (Ne.symm hne)]
  · by_cases hs : i = s
    · subst hs; simp [beq_ne hne]
    · simp [beq_ne hi, beq_ne hs]
theorem wantedV_set {o : Oper} {env : Env} {d : Nat} {v : V} (hd : d ∉ o.looksAt ops) : wantedV ops (env.set d v) o = wantedV ops env o := by
  unfold wantedV
  cases hg : o.guard with
  | none => rfl
  | some gw =>
    obtain ⟨j, want⟩ := gw
    simp only
    cases ht : (ops[j]?).bind (·.dst) with
    | none => rfl
    | some t =>
      have hne : t ≠ d := fun e => hd (by subst e; simp [Oper.looksAt, hg, ht])
      simp [Env.set, beq_ne hne]
/-- An operation's value and the heap behind it. -/
def eff (P : Program) (T : Table) (A : Ann) (ops : Array Oper) (p : Oper × Option Nat) (env : Env) (h : H) : Option (V × H) :=
  match wantedV ops env p.1 with
  | some true => stepOp P T A p.1 p.2 env h fun v h => some (v, h)
  | some false => some (.tuple [], h)
  | none => none
theorem runOps_cons (hT : TabW P T) (p : Oper × Option Nat) (os : List (Oper × Option Nat)) (env : Env) (h : H) (k : Env → H → Option α) :
    runOps P T A N ops (p :: os) env h k = (eff P T A ops p env h).bind fun q => putD N p.1.dst q.1 env fun env => runOps P T A N ops os env q.2 k := by
  obtain ⟨o, at_⟩ := p
  simp only [runOps, eff, wantedV]
  cases hg : o.guard with
  | none =>
    simp only
    rw [stepOp_nat hT]
  | some gw =>
    obtain ⟨j, want⟩ := gw
    simp only
    cases ht : (ops[j]?).bind (·.dst) with
    | none => rfl
    | some t =>
      simp only
      split
      · rename_i g he
        have hs : env.set t (.bool g) = env := by rw [← he]; exact Env.set_same env t
        simp only [he]
        cases g <;> cases want <;> simp only [cond_true, cond_false, Bool.not_true, Bool.not_false, BEq.rfl, Option.bind_some, beq_self_eq_true, hs, show (false == true) = false from rfl, show (true == false) = false from rfl]
        · exact stepOp_nat hT ..
        · exact stepOp_nat hT ..
      · rename_i he
        simp only [he]
        rfl
      · rename_i h1 h2
        have : (match env t with
          | .bool g => some (g == want)
          | .tuple [] => some false
          | _ => none) = (none : Option Bool) := by
          split
          · rename_i g he; exact absurd he (h1 g)
          · rename_i he; exact absurd he h2
          · rfl
        rw [this]
        rfl
theorem eff_set {p : Oper × Option Nat} {env : Env} {d : Nat} {v : V} {h : H} (hd : d ∉ p.1.looksAt ops) : eff P T A ops p (env.set d v) h = eff P T A ops p env h := by
  unfold eff
  rw [wantedV_set hd, stepOp_env hd]

/-! ### Classes -/

/-- It neither reads nor writes the heap. -/
theorem eff_p {p : Oper × Option Nat} (hc : cls T A p.1 = .p) (env : Env) : ∃ r : Option V, ∀ h, eff P T A ops p env h = r.map fun v => (v, h) := by
  obtain ⟨o, at_⟩ := p
  simp only at hc
  have key : ∃ r : Option V, ∀ h, stepOp P T A o at_ env h (fun v h => some (v, h)) = r.map fun v => (v, h) := by
    obtain ⟨dst, op, type, pos, after, guard⟩ := o
    have bindmap : ∀ (r : Option V) (h : H), (r.bind fun v => some (v, h)) = r.map fun v => (v, h) := fun r h => by cases r <;> rfl
    have gmap : ∀ {q : Prop} [Decidable q] (r : Option V) (h : H), guardO q (r.map fun v => (v, h)) = (guardO q r).map fun v => (v, h) := fun {q} _ r h => by unfold guardO; split <;> rfl
    cases op <;> simp only [cls, reduceCtorEq] at hc <;> simp only [stepOp]
    case move x => exact ⟨some (ev env x), fun h => rfl⟩
    case assign x => exact ⟨some (ev env x), fun h => rfl⟩
    case box e x =>
      have hl : (A.ros.any fun t => dst == some t) = true := by
        cases hb : litRo A dst with
        | false => rw [hb] at hc; simp at hc
        | true => exact hb
      refine ⟨cellsT P e (ev env x) fun z => some (.lp true z 0), fun h => ?_⟩
      simp only [hl, cond_true]
      rw [Option.map_eq_bind, cellsT_nat]
      rfl
    case load t x =>
      have hl : (A.rol.any fun t => dst == some t) = true := by
        cases hb : litRol A dst with
        | false => rw [hb] at hc; simp at hc
        | true => exact hb
      simp only [hl, cond_true]
      split
      · rename_i ty _
        refine ⟨(rdT ty H.empty (ev env x)).map ty.un, fun h => ?_⟩
        cases rdT ty H.empty (ev env x) <;> rfl
      · exact ⟨none, fun h => rfl⟩
    case pick c a b =>
      split
      · rename_i b p q _ _ _; exact ⟨some (.bool (cond b p q)), fun h => rfl⟩
      · rename_i b _ _; exact ⟨some (cond b (ev env a) (ev env ‹_›)), fun h => by cases b <;> rfl⟩
      · exact ⟨none, fun h => rfl⟩
    case build t ps =>
      split
      · rename_i z place _ _
        exact ⟨(fillV place z (evParts env ps)).map .agg, fun h => by cases fillV place z (evParts env ps) <;> rfl⟩
      · exact ⟨none, fun h => rfl⟩
    case buildSlice t n ps =>
      have hl : (A.lits.any fun t => dst == some t) = false := by
        cases hb : litOwn A dst with
        | true => rw [hb] at hc; simp at hc
        | false => exact hb
      split
      · rename_i e _
        split
        · rename_i esz _
          refine ⟨((if n * esz = 0 then some [] else (zeroCells P e).bind fun z => guardO (z.length = esz) (some (repeatCells z n))).bind fun c0 =>
            (fillV (fun i => some (i * esz, esz)) c0 (evParts env ps)).bind fun cs => guardO (n * esz ≤ 2 ^ 20) (some (.slice (.lp true cs 0) n n false))), fun h => ?_⟩
          simp only [hl, cond_false]
          rw [Option.map_bind]
          congr 1; funext c0
          simp only [Function.comp, Option.map_bind]
          congr 1; funext cs
          simp only [Function.comp]
          rw [← gmap]
          rfl
        · exact ⟨none, fun h => rfl⟩
      · exact ⟨none, fun h => rfl⟩
    case nilCheck x => exact ⟨guardO ((ev env x).nnf = true) (some (ev env x)), fun h => by rw [← gmap]; rfl⟩
    case binOp op t x y t' => exact ⟨binV P op t (ev env x) (ev env y) some, fun h => by rw [binV_nat, bindmap]⟩
    case unOp op t x => exact ⟨unV op (ev env x) some, fun h => by rw [unV_nat, bindmap]⟩
    case convert s t x =>
      cases (P.underlying s).isNone
      · simp only [cond_false]
        split
        · rename_i kd _ n _ _; exact ⟨some (.int kd (kd.wrap n)), fun h => rfl⟩
        · rename_i s _ _
          split
          · exact ⟨some (.str s), fun h => rfl⟩
          · exact ⟨none, fun h => rfl⟩
        · exact ⟨none, fun h => rfl⟩
      · exact ⟨none, fun h => rfl⟩
    case makeFunc f first cs =>
      cases f <;> simp only
      case func f =>
        split
        · exact ⟨some (.func f (cs.toList.map (ev env))), fun h => rfl⟩
        · exact ⟨none, fun h => rfl⟩
      all_goals exact ⟨none, fun h => rfl⟩
    case slice t x lo hi mx =>
      split
      · split
        · split
          · exact ⟨_, fun h => by rw [sliceV_nat, bindmap]⟩
          · exact ⟨none, fun h => rfl⟩
        · exact ⟨none, fun h => rfl⟩
      · split
        · split
          · exact ⟨_, fun h => by rw [sliceV_nat, bindmap, gmap]⟩
          · exact ⟨none, fun h => rfl⟩
        · exact ⟨none, fun h => rfl⟩
    case fieldAddr t x f =>
      split
      · rename_i off ft _
        split
        · exact ⟨guardO ((ev env x).nn = true) (some ((ev env x).add off)), fun h => by rw [← gmap]; rfl⟩
        · exact ⟨none, fun h => rfl⟩
      · exact ⟨none, fun h => rfl⟩
    case field t x f =>
      split
      · rename_i off ft cs _ _; exact ⟨partV P ft cs off, fun h => by rw [bindmap]⟩
      · exact ⟨none, fun h => rfl⟩
    case indexAddr t x y =>
      split
      · split
        · rename_i v l c tl kd i _ _
          split
          · rename_i size _; exact ⟨guardO (0 ≤ i ∧ i < l) (some (v.add (i.toNat * size))), fun h => by rw [← gmap]; rfl⟩
          · exact ⟨none, fun h => rfl⟩
        · exact ⟨none, fun h => rfl⟩
      · split
        · rename_i n e kd i _ _
          split
          · rename_i size _; exact ⟨guardO ((ev env x).nn = true ∧ 0 ≤ i ∧ i < n) (some ((ev env x).add (i.toNat * size))), fun h => by rw [← gmap]; rfl⟩
          · exact ⟨none, fun h => rfl⟩
        · exact ⟨none, fun h => rfl⟩
    case index t x y =>
      split
      · rename_i cs kd i _ _
        split
        · rename_i n e _
          split
          · rename_i size _; exact ⟨guardO (0 ≤ i ∧ i < n) (partV P e cs (i.toNat * size)), fun h => by rw [bindmap, gmap]⟩
          · exact ⟨none, fun h => rfl⟩
        · exact ⟨none, fun h => rfl⟩
      · rename_i s kd i _ _
        split
        · exact ⟨guardO (0 ≤ i ∧ i < s.size) (some (.int .u8 (((s.data[i.toNat]?).map UInt8.toNat).getD 0 : Nat))), fun h => by rw [← gmap]; rfl⟩
        · exact ⟨none, fun h => rfl⟩
      · exact ⟨none, fun h => rfl⟩
    case extract x i =>
      split
      · rename_i vs _; exact ⟨vs[i]?, fun h => by rw [bindmap]⟩
      · exact ⟨none, fun h => rfl⟩
    case call c =>
      obtain ⟨callee, args, ts⟩ := c
      cases callee with
      | value f =>
        cases f with
        | func g => cases hqg : (T.st g).quiet <;> cases hqm : (T.st g).mono <;> cases hqf : (T.st g).free <;> cases hql : (T.st g).loc <;> simp [hqg, hqm, hqf, hql] at hc
        | _ => revert hc; (try dsimp only); cases (A.qd.any fun t => dst == some t) <;> cases (A.yd.any fun t => dst == some t) <;> simp
      | invoke _ _ => simp at hc
      | builtin b =>
        cases b
        case append => revert hc; cases (A.apps.any fun t => dst == some t) <;> simp
        all_goals simp only [reduceCtorEq] at hc
        all_goals
          generalize args.toList.map (ev env) = l
          simp only [builtinOp]
          repeat' split
          all_goals first | exact ⟨none, fun h => rfl⟩ | exact ⟨some _, fun h => rfl⟩ | (exfalso; simp_all; done)
  unfold eff
  obtain ⟨r, hr⟩ := key
  cases wantedV ops env o with
  | none => exact ⟨none, fun h => rfl⟩
  | some b =>
    cases b with
    | false => exact ⟨some (.tuple []), fun h => rfl⟩
    | true => exact ⟨r, hr⟩
/-- It reads the heap. -/
theorem eff_r (hT : TabW P T) {p : Oper × Option Nat} (hc : cls T A p.1 = .r ∨ cls T A p.1 = .l ∨ cls T A p.1 = .m) (env : Env) (h : H) : ∀ q, eff P T A ops p env h = some q → q.2 = h := by
  obtain ⟨o, at_⟩ := p
  simp only at hc
  intro q hq
  unfold eff at hq
  cases hw : wantedV ops env o with
  | none => rw [hw] at hq; simp at hq
  | some b =>
    rw [hw] at hq
    cases b with
    | false => simp at hq; rw [← hq]
    | true =>
      simp only at hq
      obtain ⟨dst, op, type, pos, after, guard⟩ := o
      cases op <;> simp only [cls, reduceCtorEq, or_false, false_or, or_self] at hc <;> simp only [stepOp] at hq
      case load t x =>
        split at hq
        · simp only [Option.bind_eq_some_iff, Option.some.injEq] at hq
          obtain ⟨_, _, rfl⟩ := hq
          rfl
        · cases hq
      case lookup t m x c =>
        split at hq
        · split at hq
          · obtain ⟨_, hq⟩ := guardO_some hq
            split at hq
            · cases hq
            · simp only [Option.bind_eq_some_iff, Option.some.injEq] at hq
              obtain ⟨_, _, rfl⟩ := hq
              rfl
          · cases hq
        · split at hq
          · simp only [Option.bind_eq_some_iff, Option.some.injEq] at hq
            obtain ⟨_, _, _, _, _, _, _, _, rfl⟩ := hq
            rfl
          · cases hq
      case box e x => cases hl : litRo A dst <;> rw [hl] at hc <;> simp at hc
      case buildSlice t n ps => cases hl : litOwn A dst <;> rw [hl] at hc <;> simp at hc
      case call c =>
        obtain ⟨callee, args, ts⟩ := c
        cases callee with
        | invoke _ _ => simp at hc
        | builtin b => cases b <;> first | (simp at hc; done) | (revert hc; cases (A.apps.any fun t => dst == some t) <;> simp)
        | value f =>
          obtain ⟨hq, hqq, _⟩ := callB_ok hq
          obtain ⟨g, cs, hv0, hq2⟩ : ∃ g cs, ev env f = .func g cs ∧ ((T.at f).fn g).quiet = true := by
            cases f with
            | func g =>
              refine ⟨g, [], rfl, ?_⟩
              show (T.st g).quiet = true
              cases hb : (T.st g).quiet <;> cases hm : (T.st g).mono <;> cases hfr : (T.st g).free <;> cases hlo : (T.st g).loc <;> simp [hb, hm, hfr, hlo] at hc ⊢
            | _ =>
              refine hqq ?_
              cases hb : (A.qd.any fun t => dst == some t)
              · cases hy : (A.yd.any fun t => dst == some t) <;> simp [hb, hy] at hc
              · rfl
          obtain ⟨g', cs', r, h', hv, hcps, hk⟩ := (callV_ok (hT.at _) hq).resolve_right (fun ⟨id, _, _, e, _⟩ => by rw [hv0] at e; cases e)
          rw [hv0] at hv
          simp only [V.func.injEq] at hv
          obtain ⟨rfl, rfl⟩ := hv
          have := (((hT.at f).1 g _ h).2 r h' hcps).1 hq2
          have hk := retypeB_ok hk
          simp only [Option.some.injEq] at hk
          rw [← hk]
          exact this
/-- It does not matter to it whether there is a block more. -/
theorem eff_m (hT : TabW P T) {p : Oper × Option Nat} (hc : cls T A p.1 = .m) (env : Env) {h : H} {i : Nat} (s : Slot) (hf : h.m i = .fresh) : ∀ q, eff P T A ops p env h = some q → eff P T A ops p env (h.put i s) = some (q.1, q.2.put i s) := by
  obtain ⟨o, at_⟩ := p
  simp only at hc
  intro q hq
  unfold eff at hq ⊢
  cases hw : wantedV ops env o with
  | none => rw [hw] at hq; simp at hq
  | some b =>
    rw [hw] at hq
    cases b with
    | false => simp at hq ⊢; rw [← hq]; exact ⟨rfl, rfl⟩
    | true =>
      simp only at hq ⊢
      obtain ⟨dst, op, type, pos, after, guard⟩ := o
      cases op <;> simp only [cls, reduceCtorEq] at hc <;> simp only [stepOp] at hq ⊢
      case load t x => cases hl : litRol A dst <;> rw [hl] at hc <;> simp at hc
      case box e x => cases hl : litRo A dst <;> rw [hl] at hc <;> simp at hc
      case buildSlice t n ps => cases hl : litOwn A dst <;> rw [hl] at hc <;> simp at hc
      case call c =>
        obtain ⟨callee, args, ts⟩ := c
        cases callee with
        | invoke _ _ => simp at hc
        | builtin b => cases b <;> first | (simp at hc; done) | (revert hc; cases (A.apps.any fun t => dst == some t) <;> simp)
        | value f =>
          cases f with
          | func g =>
            have hqm : (T.st g).quiet = true ∧ (T.st g).mono = true := by
              cases hb : (T.st g).quiet <;> cases hm : (T.st g).mono <;> cases hfr : (T.st g).free <;> cases hlo : (T.st g).loc <;> simp [hb, hm, hfr, hlo] at hc ⊢
            simp only [ev] at hq ⊢
            have hst : ∀ {R : Type} (h : H) (k : V → H → Option R), callB (A.qd.any fun t => dst == some t) (ydOf A dst (.func g)) (T.at (.func g)) (.func g []) (args.toList.map (ev env)) h k = (T.st g).cps (args.toList.map (ev env)) h k := fun h k => by
              have hat : ∀ {R : Type} (k : V → H → Option R), ((T.at (.func g)).fn g).cps (args.toList.map (ev env) ++ []) h k = (T.st g).cps (args.toList.map (ev env)) h k := fun k => by
                rw [List.append_nil]; rfl
              cases (A.qd.any fun t => dst == some t) with
              | false => exact hat k
              | true =>
                show (bif ((T.at (.func g)).fn g).quiet then _ else _) = _
                rw [show ((T.at (.func g)).fn g).quiet = true from hqm.1]
                exact hat k
            rw [hst] at hq ⊢
            obtain ⟨⟨r, hn⟩, _⟩ := hT.1 g (args.toList.map (ev env)) h
            obtain ⟨⟨r', hn'⟩, _⟩ := hT.1 g (args.toList.map (ev env)) (h.put i s)
            rw [hn] at hq
            simp only [Option.bind_eq_some_iff] at hq
            obtain ⟨⟨v, h'⟩, hr, hq⟩ := hq
            have h1 : (T.st g).cps (args.toList.map (ev env)) h (fun v h => some (v, h)) = some (v, h') := by rw [hn, hr]; rfl
            have h2 := (T.st g).hmono hqm.2 _ h i s v h' hf h1
            rw [hn'] at h2 ⊢
            cases r' with
            | none => simp at h2
            | some r' =>
              obtain ⟨v', h''⟩ := r'
              simp only [Option.bind_some, Option.some.injEq, Prod.mk.injEq] at h2 ⊢
              obtain ⟨rfl, rfl⟩ := h2
              simp only at hq
              rw [retypeB_nat] at hq ⊢
              cases hrt : retypeB (A.toks.any fun t => dst == some t) P type v' some with
              | none => rw [hrt] at hq; simp at hq
              | some z =>
                rw [hrt] at hq
                simp only [Option.bind_some, Option.some.injEq] at hq ⊢
                rw [← hq]
          | _ => revert hc; (try dsimp only); cases (A.qd.any fun t => dst == some t) <;> cases (A.yd.any fun t => dst == some t) <;> simp
/-- The same of what may make blocks. -/
theorem eff_y (hT : TabW P T) {p : Oper × Option Nat} (hc : cls T A p.1 = .y) (env : Env) {h : H} : ∀ q, eff P T A ops p env h = some q → h.next ≤ q.2.next ∧ (∀ j, h.m j ≠ .fresh → q.2.m j = h.m j) ∧ ∀ (i : Nat) (s : Slot), i < h.next → h.m i = .fresh → q.2.m i = .fresh ∧ eff P T A ops p env (h.put i s) = some (q.1, q.2.put i s) := by
  obtain ⟨o, at_⟩ := p
  simp only at hc
  intro q hq
  unfold eff at hq ⊢
  cases hw : wantedV ops env o with
  | none => rw [hw] at hq; simp at hq
  | some b =>
    rw [hw] at hq
    cases b with
    | false =>
      simp at hq
      subst hq
      exact ⟨Nat.le_refl _, fun _ _ => rfl, fun i s _ hf => ⟨hf, by simp⟩⟩
    | true =>
      simp only at hq ⊢
      obtain ⟨dst, op, type, pos, after, guard⟩ := o
      cases op <;> simp only [cls, reduceCtorEq] at hc <;> simp only [stepOp] at hq ⊢
      case load t x => cases hl : litRol A dst <;> rw [hl] at hc <;> simp at hc
      case box e x => cases hl : litRo A dst <;> rw [hl] at hc <;> simp at hc
      case buildSlice t n ps => cases hl : litOwn A dst <;> rw [hl] at hc <;> simp at hc
      case call c =>
        obtain ⟨callee, args, ts⟩ := c
        cases callee with
        | invoke _ _ => simp at hc
        | builtin b => cases b <;> first | (simp at hc; done) | (revert hc; cases (A.apps.any fun t => dst == some t) <;> simp)
        | value f =>
          obtain ⟨hq', hqq, hyy⟩ := callB_ok hq
          obtain ⟨g, cs, hv0, hfr, hqf⟩ : ∃ g cs, ev env f = .func g cs ∧ ((T.at f).fn g).free = true ∧ ((A.qd.any fun t => dst == some t) = true → ((T.at f).fn g).quiet = true) := by
            cases f with
            | func g =>
              refine ⟨g, [], rfl, ?_, fun e => ?_⟩
              · show (T.st g).free = true
                cases hb : (T.st g).quiet <;> cases hm : (T.st g).mono <;> cases hfr : (T.st g).free <;> cases hlo : (T.st g).loc <;> simp [hb, hm, hfr, hlo] at hc ⊢
              · obtain ⟨g', cs', e1, e2⟩ := hqq e
                simp only [ev, V.func.injEq] at e1
                obtain ⟨rfl, rfl⟩ := e1
                exact e2
            | _ =>
              cases hb : (A.qd.any fun t => dst == some t)
              · cases hy : (A.yd.any fun t => dst == some t)
                · simp [hb, hy] at hc
                · obtain ⟨g, cs, e1, e2⟩ := hyy hb hy
                  exact ⟨g, cs, e1, e2, fun e => by cases e⟩
              · simp [hb] at hc
          obtain ⟨g', cs', v, h', hv, hcps, hk⟩ := (callV_ok (hT.at _) hq').resolve_right (fun ⟨id, _, _, e, _⟩ => by rw [hv0] at e; cases e)
          rw [hv0] at hv
          simp only [V.func.injEq] at hv
          obtain ⟨rfl, rfl⟩ := hv
          obtain ⟨k1, k3, k2⟩ := ((T.at f).fn g).hfree hfr _ h v h' hcps
          rw [retypeB_nat] at hk
          cases hrt : retypeB (A.toks.any fun t => dst == some t) P type v some with
          | none => rw [hrt] at hk; simp at hk
          | some z =>
            rw [hrt] at hk
            simp only [Option.bind_some, Option.some.injEq] at hk
            subst hk
            refine ⟨k1, k3, fun i s hlt hf => ⟨(k2 i s hlt hf).1, ?_⟩⟩
            simp only
            rw [hv0, callB_give (hT.at _) hqf (fun _ => hfr) (k2 i s hlt hf).2, retypeB_nat, hrt]
            rfl
/-- It makes a block, at the number that is laid down for it. -/
theorem eff_n {o : Oper} {i : Nat} (hc : cls T A o = .n) (env : Env) : ∃ r : Option (V × Option Slot), ∀ h, eff P T A ops (o, some i) env h = r.map fun v => (v.1, match v.2 with | some s => h.put i s | none => h) := by
  have key : ∃ r : Option (V × Slot), ∀ h, stepOp P T A o (some i) env h (fun v h => some (v, h)) = r.map fun v => (v.1, h.put i v.2) := by
    obtain ⟨dst, op, type, pos, after, guard⟩ := o
    cases op <;> simp only [cls, reduceCtorEq] at hc <;> simp only [stepOp, newAt]
    case load t x => cases hl : litRol A dst <;> rw [hl] at hc <;> simp at hc
    case alloc e => exact ⟨(zeroCells P e).map fun z => (.hp i z.length 0, .own z z.length), fun h => by cases zeroCells P e <;> rfl⟩
    case box e x =>
      have hl : (A.ros.any fun t => dst == some t) = false := by
        cases hb : litRo A dst with
        | true => rw [hb] at hc; simp at hc
        | false => exact hb
      refine ⟨cellsT P e (ev env x) fun z => some (.hp i z.length 0, .own z z.length), fun h => ?_⟩
      simp only [hl, cond_false]
      rw [Option.map_eq_bind, cellsT_nat]
      rfl
    case buildSlice t n ps =>
      have hl : (A.lits.any fun t => dst == some t) = true := by
        cases hb : litOwn A dst with
        | false => rw [hb] at hc; simp at hc
        | true => exact hb
      split
      · rename_i e _
        split
        · rename_i esz _
          refine ⟨((if n * esz = 0 then some [] else (zeroCells P e).bind fun z => guardO (z.length = esz) (some (repeatCells z n))).bind fun c0 =>
            (fillV (fun i => some (i * esz, esz)) c0 (evParts env ps)).bind fun cs => guardO (n * esz ≤ 2 ^ 20) (some (.slice (.hp i cs.length 0) n n false, .own cs esz))), fun h => ?_⟩
          simp only [hl, cond_true]
          rw [Option.map_bind]
          congr 1; funext c0
          simp only [Function.comp, Option.map_bind]
          congr 1; funext cs
          simp only [Function.comp, guardO]
          split <;> rfl
        · exact ⟨none, fun h => rfl⟩
      · exact ⟨none, fun h => rfl⟩
    case makeSlice t l c =>
      split
      · rename_i e l c _ _ _
        split
        · rename_i z bytes esz _ _ _
          refine ⟨guardO (0 ≤ l ∧ l ≤ c ∧ c ≤ roomCells ∧ bytes ≤ 2 ^ 11 ∧ z.length = esz) (some (.slice (.hp i (c.toNat * esz) 0) l.toNat c.toNat true, .own (repeatCells z c.toNat) esz)), fun h => ?_⟩
          simp only [guardO]
          split <;> rfl
        · exact ⟨none, fun h => rfl⟩
      · exact ⟨none, fun h => rfl⟩
    case call c =>
      obtain ⟨callee, args, ts⟩ := c
      cases callee with
      | value f =>
        cases f with
        | func g => cases hqg : (T.st g).quiet <;> cases hqm : (T.st g).mono <;> cases hqf : (T.st g).free <;> cases hql : (T.st g).loc <;> simp [hqg, hqm, hqf, hql] at hc
        | _ => revert hc; (try dsimp only); cases (A.qd.any fun t => dst == some t) <;> cases (A.yd.any fun t => dst == some t) <;> simp
      | invoke _ _ => simp at hc
      | builtin b => cases b <;> first | (simp at hc; done) | (revert hc; cases (A.apps.any fun t => dst == some t) <;> simp)
  unfold eff
  obtain ⟨r, hr⟩ := key
  cases wantedV ops env o with
  | none => exact ⟨none, fun h => rfl⟩
  | some b =>
    cases b with
    | false => exact ⟨some (.tuple [], none), fun h => rfl⟩
    | true => exact ⟨r.map fun v => (v.1, some v.2), fun h => by rw [hr]; cases r <;> rfl⟩
/-- What an operation about one block does: its address, and what it makes of the block. -/
def upd : Option (Nat × Slot) → H → H
  | none, h => h
  | some (i, s), h => h.put i s
structure Loc (P : Program) (T : Table) (A : Ann) (ops : Array Oper) (p : Oper × Option Nat) (env : Env) (h : H) (v : V) (h' : H) (up : Option (Nat × Slot)) : Prop where
  here : h' = upd up h
  at_ : ∀ i s, up = some (i, s) → ∃ g o, addrOf p.1 p.2 env = .hp i g o
  all : ∀ h₂ : H, (∀ id g o, addrOf p.1 p.2 env = .hp id g o → h₂.m id = h.m id) → eff P T A ops p env h₂ = some (v, upd up h₂)
theorem loc_skip {p : Oper × Option Nat} {env : Env} {h h' : H} {v : V} (hw : wantedV ops env p.1 = some false) (he : eff P T A ops p env h = some (v, h')) : Loc P T A ops p env h v h' none := by
  unfold eff at he
  rw [hw] at he
  simp only [Option.some.injEq, Prod.mk.injEq] at he
  obtain ⟨rfl, rfl⟩ := he
  refine ⟨rfl, (by simp), fun h₂ _ => ?_⟩
  unfold eff
  rw [hw]
  rfl
theorem H.from_agree {h h₂ : H} {a : V} (hh : ∀ id g o, a = .hp id g o → h₂.m id = h.m id) : h₂.from a = h.from a := by
  cases a <;> try rfl
  rename_i id g o
  simp only [H.from, hh id g o rfl]
theorem loc_l {p : Oper × Option Nat} (hc : cls T A p.1 = .l) {env : Env} {h h' : H} {v : V} (he : eff P T A ops p env h = some (v, h')) : Loc P T A ops p env h v h' none := by
  cases hw : wantedV ops env p.1 with
  | none => unfold eff at he; rw [hw] at he; cases he
  | some b =>
    cases b with
    | false => exact loc_skip hw he
    | true =>
      obtain ⟨o, at_⟩ := p
      have he0 := he
      unfold eff at he
      rw [hw] at he
      obtain ⟨dst, op, type, pos, after, guard⟩ := o
      simp only at hc he hw
      cases op <;> simp only [cls, reduceCtorEq] at hc
      case box e x => cases hl : litRo A dst <;> rw [hl] at hc <;> simp at hc
      case buildSlice t n ps => cases hl : litOwn A dst <;> rw [hl] at hc <;> simp at hc
      case call c =>
        obtain ⟨callee, args, ts⟩ := c
        cases callee with
        | invoke _ _ => simp at hc
        | builtin b => cases b <;> first | (simp at hc; done) | (revert hc; cases (A.apps.any fun t => dst == some t) <;> simp)
        | value f =>
          cases f with
          | func g => cases hqg : (T.st g).quiet <;> cases hqm : (T.st g).mono <;> cases hqf : (T.st g).free <;> cases hql : (T.st g).loc <;> simp [hqg, hqm, hqf, hql] at hc
          | _ => revert hc; (try dsimp only); cases (A.qd.any fun t => dst == some t) <;> cases (A.yd.any fun t => dst == some t) <;> simp
      case load t x =>
        have hrl : (A.rol.any fun t => dst == some t) = false := by
          cases hb : litRol A dst with
          | true => rw [hb] at hc; simp at hc
          | false => exact hb
        have key : ∀ h₂ : H, (∀ id g o, ev env x = .hp id g o → h₂.m id = h.m id) → ∀ ty, rdT ty h₂ (ev env x) = rdT ty h (ev env x) := fun h₂ hh ty => by
          cases ty <;> simp only [rdT, H.rd, H.rds, H.from_agree hh]
        refine ⟨?_, (by simp), fun h₂ hh => ?_⟩
        · simp only [stepOp, hrl, cond_false] at he
          split at he
          · simp only [Option.bind_eq_some_iff, Option.some.injEq, Prod.mk.injEq] at he
            obtain ⟨y, hy, rfl, rfl⟩ := he
            rfl
          · cases he
        · unfold eff
          rw [hw]
          simp only [stepOp, hrl, cond_false] at he ⊢
          split at he
          · rw [key h₂ hh]
            simp only [Option.bind_eq_some_iff, Option.some.injEq, Prod.mk.injEq] at he
            obtain ⟨y, hy, rfl, rfl⟩ := he
            rw [hy]; rfl
          · cases he
theorem rdT_agree {h h₂ : H} {a : V} {ty : Ty} {y : ty.C} (hh : ∀ id g o, a = .hp id g o → h.m id ≠ .fresh → h₂.m id = h.m id) (hy : rdT ty h a = some y) : rdT ty h₂ a = some y := by
  have key : h₂.from a = h.from a ∨ h.from a = none := by
    cases a <;> try exact .inl rfl
    rename_i id g o
    by_cases hf : h.m id = .fresh
    · exact .inr (by simp [H.from, hf])
    · exact .inl (by simp only [H.from, hh id g o rfl hf])
  rcases key with e | e
  · cases ty <;> simp only [rdT, H.rd, H.rds, e] at hy ⊢ <;> exact hy
  · cases ty <;> simp [rdT, H.rd, H.rds, e] at hy
theorem loc_l2 {p : Oper × Option Nat} (hc : cls T A p.1 = .l) {env : Env} {h h' : H} {v : V} (he : eff P T A ops p env h = some (v, h')) : ∀ h₂ : H, (∀ id g o, addrOf p.1 p.2 env = .hp id g o → h.m id ≠ .fresh → h₂.m id = h.m id) → eff P T A ops p env h₂ = some (v, h₂) := by
  cases hw : wantedV ops env p.1 with
  | none => unfold eff at he; rw [hw] at he; cases he
  | some b =>
    cases b with
    | false =>
      intro h₂ _
      unfold eff at he ⊢
      rw [hw] at he ⊢
      simp only [Option.some.injEq, Prod.mk.injEq] at he ⊢
      exact ⟨he.1, trivial⟩
    | true =>
      obtain ⟨o, at_⟩ := p
      have he0 := he
      unfold eff at he
      rw [hw] at he
      obtain ⟨dst, op, type, pos, after, guard⟩ := o
      simp only at hc he hw
      cases op <;> simp only [cls, reduceCtorEq] at hc
      case box e x => cases hl : litRo A dst <;> rw [hl] at hc <;> simp at hc
      case buildSlice t n ps => cases hl : litOwn A dst <;> rw [hl] at hc <;> simp at hc
      case call c =>
        obtain ⟨callee, args, ts⟩ := c
        cases callee with
        | invoke _ _ => simp at hc
        | builtin b => cases b <;> first | (simp at hc; done) | (revert hc; cases (A.apps.any fun t => dst == some t) <;> simp)
        | value f =>
          cases f with
          | func g => cases hqg : (T.st g).quiet <;> cases hqm : (T.st g).mono <;> cases hqf : (T.st g).free <;> cases hql : (T.st g).loc <;> simp [hqg, hqm, hqf, hql] at hc
          | _ => revert hc; (try dsimp only); cases (A.qd.any fun t => dst == some t) <;> cases (A.yd.any fun t => dst == some t) <;> simp
      case load t x =>
        have hrl : (A.rol.any fun t => dst == some t) = false := by
          cases hb : litRol A dst with
          | true => rw [hb] at hc; simp at hc
          | false => exact hb
        intro h₂ hh
        unfold eff
        rw [hw]
        simp only [stepOp, hrl, cond_false] at he ⊢
        split at he
        · simp only [Option.bind_eq_some_iff, Option.some.injEq, Prod.mk.injEq] at he
          obtain ⟨y, hy, rfl, rfl⟩ := he
          rw [rdT_agree (a := ev env x) hh hy]; rfl
        · cases he
theorem loc_n {o : Oper} {i : Nat} (hc : cls T A o = .n) {env : Env} {h h' : H} {v : V} (he : eff P T A ops (o, some i) env h = some (v, h')) : ∃ up, Loc P T A ops (o, some i) env h v h' up := by
  obtain ⟨r, hr⟩ := eff_n (P := P) (ops := ops) (i := i) hc env
  rw [hr] at he
  cases r with
  | none => simp at he
  | some r =>
    obtain ⟨u, s⟩ := r
    simp only [Option.map_some, Option.some.injEq, Prod.mk.injEq] at he
    obtain ⟨rfl, rfl⟩ := he
    have ha : addrOf o (some i) env = .hp i 0 0 := by
      obtain ⟨dst, op, type, pos, after, guard⟩ := o
      cases op <;> simp only [cls, reduceCtorEq] at hc <;> try rfl
      case load t x => cases hl : litRol A dst <;> rw [hl] at hc <;> simp at hc
      rename_i c
      obtain ⟨callee, args, ts⟩ := c
      cases callee with
      | invoke _ _ => simp at hc
      | builtin b => cases b <;> first | (simp at hc; done) | (revert hc; cases (A.apps.any fun t => dst == some t) <;> simp)
      | value f =>
        cases f with
        | func g => cases hqg : (T.st g).quiet <;> cases hqm : (T.st g).mono <;> cases hqf : (T.st g).free <;> cases hql : (T.st g).loc <;> simp [hqg, hqm, hqf, hql] at hc
        | _ => revert hc; (try dsimp only); cases (A.qd.any fun t => dst == some t) <;> cases (A.yd.any fun t => dst == some t) <;> simp
    cases s with
    | none => exact ⟨none, rfl, (by simp), fun h₂ _ => by rw [hr]; rfl⟩
    | some s =>
      refine ⟨some (i, s), rfl, fun j s' e => ?_, fun h₂ _ => by rw [hr]; rfl⟩
      simp only [Option.some.injEq, Prod.mk.injEq] at e
      obtain ⟨rfl, rfl⟩ := e
      exact ⟨0, 0, ha⟩
theorem loc_w' (hT : TabW P T) {p : Oper × Option Nat} (hc : cls T A p.1 = .w) {env : Env} {h h' : H} {v : V} (he : eff P T A ops p env h = some (v, h')) : ∃ up, Loc P T A ops p env h v h' up ∧ ∀ i s, up = some (i, s) → h.m i ≠ .fresh := by
  cases hw : wantedV ops env p.1 with
  | none => unfold eff at he; rw [hw] at he; cases he
  | some b =>
    cases b with
    | false => exact ⟨none, loc_skip hw he, by simp⟩
    | true =>
      obtain ⟨o, at_⟩ := p
      unfold eff at he
      rw [hw] at he
      obtain ⟨dst, op, type, pos, after, guard⟩ := o
      simp only at hc he hw
      cases op <;> simp only [cls, reduceCtorEq] at hc
      case box e x => cases hl : litRo A dst <;> rw [hl] at hc <;> simp at hc
      case load t x => cases hl : litRol A dst <;> rw [hl] at hc <;> simp at hc
      case buildSlice t n ps => cases hl : litOwn A dst <;> rw [hl] at hc <;> simp at hc
      case call c =>
        obtain ⟨callee, args, ts⟩ := c
        cases callee with
        | invoke _ _ => simp at hc
        | builtin b => cases b <;> first | (simp at hc; done) | (revert hc; cases (A.apps.any fun t => dst == some t) <;> simp)
        | value f =>
          cases f with
          | func g =>
            have hqm : (T.st g).quiet = false ∧ (T.st g).loc = true := by
              cases hqg : (T.st g).quiet <;> cases hqm : (T.st g).mono <;> cases hqf : (T.st g).free <;> cases hql : (T.st g).loc <;> simp [hqg, hqm, hqf, hql] at hc ⊢
            have hst : ∀ {R : Type} (h : H) (k : V → H → Option R), callB (A.qd.any fun t => dst == some t) (ydOf A dst (.func g)) (T.at (.func g)) (.func g []) (args.toList.map (ev env)) h k = bif (A.qd.any fun t => dst == some t) then none else (T.st g).cps (args.toList.map (ev env)) h k := fun h k => by
              have hat : ∀ {R : Type} (k : V → H → Option R), ((T.at (.func g)).fn g).cps (args.toList.map (ev env) ++ []) h k = (T.st g).cps (args.toList.map (ev env)) h k := fun k => by
                rw [List.append_nil]; rfl
              cases (A.qd.any fun t => dst == some t) with
              | false => exact hat k
              | true =>
                show (bif ((T.at (.func g)).fn g).quiet then _ else _) = _
                rw [show ((T.at (.func g)).fn g).quiet = false from hqm.1]
                rfl
            simp only [stepOp, ev] at he
            rw [hst] at he
            cases hqd : (A.qd.any fun t => dst == some t) with
            | true => rw [hqd] at he; cases he
            | false =>
              rw [hqd, cond_false] at he
              obtain ⟨⟨r, hn⟩, _⟩ := hT.1 g (args.toList.map (ev env)) h
              rw [hn] at he
              simp only [Option.bind_eq_some_iff] at he
              obtain ⟨⟨v0, h1⟩, hr, he⟩ := he
              have h1e : (T.st g).cps (args.toList.map (ev env)) h (fun v h => some (v, h)) = some (v0, h1) := by rw [hn, hr]; rfl
              obtain ⟨id, g0, o0, l0, c0, t0, rest, s, ha, hnf, rfl, hall⟩ := (T.st g).hloc hqm.2 _ h v0 h1 h1e
              simp only at he
              rw [retypeB_nat] at he
              cases hrt : retypeB (A.toks.any fun t => dst == some t) P type v0 some with
              | none => rw [hrt] at he; simp at he
              | some z =>
                rw [hrt] at he
                simp only [Option.bind_some, Option.some.injEq, Prod.mk.injEq] at he
                obtain ⟨rfl, rfl⟩ := he
                have haddr : addrOf { dst := dst, op := .call { callee := .value (.func g), args := args, argTypes := ts }, type := type, pos := pos, after := after, guard := guard } at_ env = .hp id g0 o0 := by
                  simp only [addrOf, ha, firstAddr]
                refine ⟨some (id, s), ⟨rfl, fun i s' e => ?_, fun h₂ hh => ?_⟩, fun i s' e => by cases e; exact hnf⟩
                · simp only [Option.some.injEq, Prod.mk.injEq] at e
                  obtain ⟨rfl, rfl⟩ := e
                  exact ⟨g0, o0, haddr⟩
                · have h2 := hall h₂ (hh id g0 o0 haddr)
                  unfold eff
                  rw [hw]
                  simp only [stepOp, ev]
                  rw [hst, hqd, cond_false]
                  obtain ⟨⟨r', hn'⟩, _⟩ := hT.1 g (args.toList.map (ev env)) h₂
                  rw [hn'] at h2 ⊢
                  cases r' with
                  | none => simp at h2
                  | some r' =>
                    obtain ⟨v', h''⟩ := r'
                    simp only [Option.bind_some, Option.some.injEq, Prod.mk.injEq] at h2 ⊢
                    obtain ⟨rfl, rfl⟩ := h2
                    rw [retypeB_nat, hrt]
                    rfl
          | _ => revert hc; (try dsimp only); cases (A.qd.any fun t => dst == some t) <;> cases (A.yd.any fun t => dst == some t) <;> simp
      case store t x y =>
        have key : ∃ r : H → Option H, (∀ h₂, stepOp P T A { dst := dst, op := .store t x y, type := type, pos := pos, after := after, guard := guard } at_ env h₂ (fun v h => some (v, h)) = (r h₂).map fun h' => (.tuple [], h')) ∧
            ∀ h1 h1', r h1 = some h1' → ∃ id g off s, ev env x = .hp id g off ∧ h1.m id ≠ .fresh ∧ h1' = h1.put id s ∧ ∀ h₂ : H, h₂.m id = h1.m id → r h₂ = some (h₂.put id s) := by
          have wrs_key : ∀ (a : V) (vs : List V) (h1 h1' : H), h1.wrs a vs = some h1' → ∃ id g off s, a = .hp id g off ∧ h1.m id ≠ .fresh ∧ h1' = h1.put id s ∧ ∀ h₂ : H, h₂.m id = h1.m id → h₂.wrs a vs = some (h₂.put id s) := fun a vs h1 h1' hq => by
            cases a <;> simp only [H.wrs, reduceCtorEq] at hq
            rename_i id gen off
            cases hm : h1.m id <;> rw [hm] at hq <;> simp only [reduceCtorEq] at hq
            rename_i cs e
            split at hq
            · rename_i hcond
              simp only [Option.some.injEq] at hq
              refine ⟨id, gen, off, _, rfl, by rw [hm]; simp, hq.symm, fun h₂ hh => ?_⟩
              simp only [H.wrs, hh, hm]
              rw [if_pos hcond]
            · cases hq
          have hcn : ∀ {γ : Type} (f : List V → Option γ), cellsT P t (ev env y) f = (cellsT P t (ev env y) some).bind f := fun f => by rw [cellsT_nat]; rfl
          refine ⟨fun h₂ => (sizeT P t).bind fun n => (cellsT P t (ev env y) some).bind fun vs => if vs.length = n then h₂.wrs (ev env x) vs else none, fun h₂ => ?_, fun h1 h1' hq => ?_⟩
          · simp only [stepOp]
            cases sizeT P t with
            | none => rfl
            | some n =>
              simp only [Option.bind_some]
              rw [hcn, Option.map_bind]
              congr 1; funext vs
              simp only [Function.comp]
              split
              · cases h₂.wrs (ev env x) vs <;> rfl
              · rfl
          · simp only [Option.bind_eq_some_iff] at hq
            obtain ⟨n, hn, vs, hvs, hq⟩ := hq
            split at hq
            · rename_i hl
              obtain ⟨id, g, off, s, j1, jf, j2, j3⟩ := wrs_key _ vs h1 h1' hq
              refine ⟨id, g, off, s, j1, jf, j2, fun h₂ hh => ?_⟩
              simp only [hn, hvs, Option.bind_some, hl, if_true, j3 h₂ hh]
            · cases hq
        obtain ⟨r, k1, k2⟩ := key
        rw [k1] at he
        cases hrh : r h with
        | none => rw [hrh] at he; simp at he
        | some h1 =>
          rw [hrh] at he
          simp only [Option.map_some, Option.some.injEq, Prod.mk.injEq] at he
          obtain ⟨rfl, rfl⟩ := he
          obtain ⟨id, g, off, s, j1, jf, j2, j3⟩ := k2 h h1 hrh
          refine ⟨some (id, s), ⟨j2, fun i s' e => ?_, fun h₂ hh => ?_⟩, fun i s' e => by cases e; exact jf⟩
          · simp only [Option.some.injEq, Prod.mk.injEq] at e
            obtain ⟨rfl, rfl⟩ := e
            exact ⟨g, off, j1⟩
          · unfold eff
            rw [hw]
            simp only
            rw [k1, j3 h₂ (hh id g off j1)]
            rfl
theorem loc_w (hT : TabW P T) {p : Oper × Option Nat} (hc : cls T A p.1 = .w) {env : Env} {h h' : H} {v : V} (he : eff P T A ops p env h = some (v, h')) : ∃ up, Loc P T A ops p env h v h' up :=
  let ⟨up, hl, _⟩ := loc_w' hT hc he
  ⟨up, hl⟩
/-- What an append does is about one block. -/
theorem appendS_loc {h h' : H} {i esz bytes n : Nat} {s sv : SV} {cs : List V} (he : appendS h (some i) esz bytes s cs n = some (sv, h')) :
    ∃ up, h' = upd up h ∧ (∀ j s', up = some (j, s') → (∃ g o, s.a = .hp j g o) ∨ ((∀ id g o, s.a ≠ .hp id g o) ∧ j = i)) ∧
      ∀ h₂ : H, (∀ id g o, s.a = .hp id g o → h₂.m id = h.m id) → appendS h₂ (some i) esz bytes s cs n = some (sv, upd up h₂) := by
  obtain ⟨a, len, cap, tail⟩ := s
  unfold appendS appendV at he ⊢
  simp only at he ⊢
  by_cases hn : n = 0
  · rw [if_pos hn] at he
    simp only [Option.some.injEq, Prod.mk.injEq] at he
    obtain ⟨rfl, rfl⟩ := he
    exact ⟨none, rfl, (by simp), fun h₂ _ => by rw [if_pos hn]; rfl⟩
  · rw [if_neg hn] at he
    obtain ⟨hg, he⟩ := guardO_some he
    have hg2 : ∀ {R : Type} (x : Option R), guardO (len + n ≤ roomCells ∧ bytes ≤ 2 ^ 11) x = x := fun x => by unfold guardO; rw [if_pos hg]
    have fresh : (∀ id g o, a ≠ .hp id g o) → (if cap = 0 ∧ tail = false ∧ len = 0 then newAt h (some i) cs esz (n * esz) (fun p h' => (match (V.slice p n n true) with | .slice a l c t => some ((⟨a, l, c, t⟩ : SV), h') | _ => none)) else if tail = false ∧ cap < len + n then (cellsOf h (.slice a len cap tail) esz).bind (fun o => newAt h (some i) (o.2 ++ cs) esz ((len + n) * esz) (fun p h' => (match (V.slice p (len + n) (len + n) true) with | .slice a l c t => some ((⟨a, l, c, t⟩ : SV), h') | _ => none))) else none) = some (sv, h') →
        ∃ up, h' = upd up h ∧ (∀ j s', up = some (j, s') → j = i) ∧ ∀ h₂ : H, (if cap = 0 ∧ tail = false ∧ len = 0 then newAt h₂ (some i) cs esz (n * esz) (fun p h' => (match (V.slice p n n true) with | .slice a l c t => some ((⟨a, l, c, t⟩ : SV), h') | _ => none)) else if tail = false ∧ cap < len + n then (cellsOf h₂ (.slice a len cap tail) esz).bind (fun o => newAt h₂ (some i) (o.2 ++ cs) esz ((len + n) * esz) (fun p h' => (match (V.slice p (len + n) (len + n) true) with | .slice a l c t => some ((⟨a, l, c, t⟩ : SV), h') | _ => none))) else none) = some (sv, upd up h₂) := fun hno hq => by
      have hsame : ∀ h₂ : H, cellsOf h₂ (.slice a len cap tail) esz = cellsOf h (.slice a len cap tail) esz := fun h₂ => by
        cases a <;> first | rfl | exact absurd rfl (hno _ _ _)
      split at hq
      · rename_i hc
        simp only [newAt, Option.some.injEq, Prod.mk.injEq] at hq
        obtain ⟨rfl, rfl⟩ := hq
        exact ⟨some (i, .own cs esz), rfl, fun j s' e => by cases e; rfl, fun h₂ => by rw [if_pos hc]; rfl⟩
      · rename_i hc
        split at hq
        · rename_i hc1
          simp only [Option.bind_eq_some_iff] at hq
          obtain ⟨o, ho, hq⟩ := hq
          simp only [newAt, Option.some.injEq, Prod.mk.injEq] at hq
          obtain ⟨rfl, rfl⟩ := hq
          exact ⟨some (i, .own (o.2 ++ cs) esz), rfl, fun j s' e => by cases e; rfl, fun h₂ => by rw [if_neg hc, if_pos hc1, hsame, ho]; rfl⟩
        · cases hq
    cases a with
    | hp id gen off =>
      simp only at he
      split at he
      · rename_i old e hm
        split at he
        · simp at he
        · rename_i hc0
          split at he
          · rename_i hfit
            simp only [Option.bind_eq_some_iff] at he
            obtain ⟨h1, hw, he⟩ := he
            simp only [Option.some.injEq, Prod.mk.injEq] at he
            obtain ⟨rfl, rfl⟩ := he
            simp only [H.wrs, hm] at hw
            split at hw
            · rename_i hcond
              simp only [Option.some.injEq] at hw
              subst hw
              refine ⟨some (id, _), rfl, fun j s' e => by cases e; exact .inl ⟨_, _, rfl⟩, fun h₂ hh => ?_⟩
              have hm2 := hh id gen off rfl
              rw [hm] at hm2
              rw [if_neg hn, hg2]
              simp only [hm2, if_neg hc0, if_pos hfit, H.wrs, if_pos hcond, Option.bind_some]
              rfl
            · cases hw
          · rename_i hfit
            split at he
            · rename_i hgrow
              simp only [Option.some.injEq, Prod.mk.injEq] at he
              obtain ⟨rfl, rfl⟩ := he
              refine ⟨some (id, _), rfl, fun j s' e => by cases e; exact .inl ⟨_, _, rfl⟩, fun h₂ hh => ?_⟩
              have hm2 := hh id gen off rfl
              rw [hm] at hm2
              rw [if_neg hn, hg2]
              simp only [hm2, if_neg hc0, if_neg hfit, if_pos hgrow]
              rfl
            · simp at he
      · cases he
    | _ =>
      obtain ⟨up, k1, k2, k3⟩ := fresh (fun _ _ _ e => by cases e) he
      refine ⟨up, k1, fun j s' e => .inr ⟨fun _ _ _ e => (by cases e), k2 j s' e⟩, fun h₂ _ => ?_⟩
      rw [if_neg hn, hg2]
      exact k3 h₂
theorem loc_g {o : Oper} {i : Nat} (hc : cls T A o = .g) {env : Env} {h h' : H} {v : V} (he : eff P T A ops (o, some i) env h = some (v, h')) (hna : ∀ cs, addrOf o (some i) env ≠ .agg cs) : ∃ up, Loc P T A ops (o, some i) env h v h' up := by
  cases hw : wantedV ops env o with
  | none => unfold eff at he; rw [hw] at he; cases he
  | some b =>
    cases b with
    | false => exact ⟨none, loc_skip hw he⟩
    | true =>
      unfold eff at he
      rw [hw] at he
      obtain ⟨dst, op, type, pos, after, guard⟩ := o
      simp only at hc he hw
      cases op <;> simp only [cls, reduceCtorEq] at hc
      case box e x => cases hl : litRo A dst <;> rw [hl] at hc <;> simp at hc
      case load t x => cases hl : litRol A dst <;> rw [hl] at hc <;> simp at hc
      case buildSlice t n ps => cases hl : litOwn A dst <;> rw [hl] at hc <;> simp at hc
      case call c =>
        obtain ⟨callee, args, ts⟩ := c
        cases callee with
        | invoke _ _ => simp at hc
        | value f =>
          cases f with
          | func g => cases hqg : (T.st g).quiet <;> cases hqm : (T.st g).mono <;> cases hqf : (T.st g).free <;> cases hql : (T.st g).loc <;> simp [hqg, hqm, hqf, hql] at hc
          | _ => revert hc; (try dsimp only); cases (A.qd.any fun t => dst == some t) <;> cases (A.yd.any fun t => dst == some t) <;> simp
        | builtin b =>
          cases b
          case append =>
            have hargs : ∃ s x, args.toList.map (ev env) = [s, x] := by
              simp only [addrOf] at hna
              match hl : args.toList.map (ev env) with
              | [s, x] => exact ⟨s, x, rfl⟩
              | [] => rw [hl] at hna; exact absurd rfl (hna [])
              | [_] => rw [hl] at hna; exact absurd rfl (hna [])
              | _ :: _ :: _ :: _ => rw [hl] at hna; exact absurd rfl (hna [])
            obtain ⟨s, x, hl⟩ := hargs
            have haddr : addrOf { dst := dst, op := .call { callee := .builtin .append, args := args, argTypes := ts }, type := type, pos := pos, after := after, guard := guard } (some i) env = appAddr s x (some i) := by
              simp only [addrOf, hl]
            rw [haddr] at hna
            have hx : ∃ f cs off len c t, x = .slice (.lp f cs off) len c t := by
              cases x with
              | slice a len c t =>
                cases a with
                | lp f cs off => exact ⟨f, cs, off, len, c, t, rfl⟩
                | _ => exact absurd rfl (hna [])
              | _ => exact absurd rfl (hna [])
            obtain ⟨f, xs, off, len, cp, t, rfl⟩ := hx
            have hcells : ∀ (h₁ h₂ : H) u z b esz, srcCells P u z b h₁ (.slice (.lp f xs off) len cp t) esz = srcCells P u z b h₂ (.slice (.lp f xs off) len cp t) esz := fun _ _ u _ _ _ => by
              unfold srcCells
              split
              · rfl
              · rfl
            have key : ∀ h₁ : H, stepOp P T A { dst := dst, op := .call { callee := .builtin .append, args := args, argTypes := ts }, type := type, pos := pos, after := after, guard := guard } (some i) env h₁ (fun v h => some (v, h)) = builtinOp P .append ts (some i) [s, .slice (.lp f xs off) len cp t] h₁ (fun v h => some (v, h)) := fun h₁ => by
              simp only [stepOp, hl]
            rw [key] at he
            simp only [builtinOp] at he
            split at he
            · rename_i t1 t2 ht1 ht2
              split at he
              · rename_i e1 he1
                split at he
                · rename_i esz bytes z hz1 hz2 hz3
                  split at he
                  · rename_i hzl
                    split at he
                    · rename_i a l cp2 tl
                      simp only [Option.bind_eq_some_iff, Option.some.injEq, Prod.mk.injEq] at he
                      obtain ⟨c, hc1, ⟨sv, h1⟩, happ, rfl, rfl⟩ := he
                      obtain ⟨up, k1, k2, k3⟩ := appendS_loc happ
                      refine ⟨up, k1, fun j s' e => ?_, fun h₂ hh => ?_⟩
                      · simp only [haddr]
                        rcases k2 j s' e with ⟨g, o, ha⟩ | ⟨hno, rfl⟩
                        · simp only at ha
                          subst ha
                          exact ⟨g, o, rfl⟩
                        · refine ⟨0, 0, ?_⟩
                          cases a
                          case hp id g o => exact absurd rfl (hno id g o)
                          all_goals rfl
                      · unfold eff
                        rw [hw]
                        simp only
                        rw [key]
                        simp only [builtinOp, ht1, ht2, he1, hz1, hz2, hz3, if_pos hzl]
                        rw [hcells h₂ h, hc1]
                        simp only [Option.bind_some]
                        rw [k3 h₂ (fun id g o ha => hh id g o (by
                          simp only at ha
                          subst ha
                          simp only [haddr]
                          rfl))]
                        rfl
                    · cases he
                  · cases he
                · cases he
              · cases he
            · cases he
          all_goals simp at hc
/-- Two operations about different blocks. -/
theorem loc_swap {x y : Oper × Option Nat} {env : Env} {h h1 h2 : H} {u v : V} {ux uy : Option (Nat × Slot)} (hx : Loc P T A ops x env h u h1 ux) (hy : Loc P T A ops y env h1 v h2 uy)
    (ha : apartA (addrOf x.1 x.2 env) (addrOf y.1 y.2 env) = true) : ∃ h1', eff P T A ops y env h = some (v, h1') ∧ eff P T A ops x env h1' = some (u, h2) := by
  have hne : ∀ i g o j g' o', addrOf x.1 x.2 env = .hp i g o → addrOf y.1 y.2 env = .hp j g' o' → i ≠ j := fun i g o j g' o' e1 e2 => by
    rw [e1, e2] at ha
    intro e
    subst e
    simp [apartA] at ha
  refine ⟨upd uy h, hy.all h fun id g o e => ?_, ?_⟩
  · rw [hx.here]
    cases ux with
    | none => rfl
    | some p =>
      obtain ⟨i, s⟩ := p
      obtain ⟨g', o', e'⟩ := hx.at_ i s rfl
      have := hne i g' o' id g o e' e
      simp [upd, H.put, beq_ne (Ne.symm this)]
  · rw [hx.all (upd uy h) fun id g o e => ?_, hy.here, hx.here]
    · congr 2
      cases ux with
      | none => rfl
      | some p =>
        obtain ⟨i, s⟩ := p
        cases uy with
        | none => rfl
        | some q =>
          obtain ⟨j, s'⟩ := q
          obtain ⟨g1, o1, e1⟩ := hx.at_ i s rfl
          obtain ⟨g2, o2, e2⟩ := hy.at_ j s' rfl
          have hij := hne i g1 o1 j g2 o2 e1 e2
          simp only [upd, H.put]
          congr 1
          funext n
          by_cases h1 : n = i
          · subst h1; simp [beq_ne hij]
          · by_cases h2 : n = j
            · subst h2; simp [beq_ne (Ne.symm hij)]
            · simp [beq_ne h1, beq_ne h2]
    · cases uy with
      | none => rfl
      | some p =>
        obtain ⟨i, s⟩ := p
        obtain ⟨g', o', e'⟩ := hy.at_ i s rfl
        have := hne id g o i g' o' e e'
        simp [upd, H.put, beq_ne this]
end swap
end Go.Proofs.YtjkjcnadgpndoaaGreat.Ev
