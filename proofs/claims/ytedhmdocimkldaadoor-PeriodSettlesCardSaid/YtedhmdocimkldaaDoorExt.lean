/- What was walked in the kit, as entries of the evaluator: the printing of a statement, its duties, its adjustments. Conditions: the numbers fit. -/
import Derived.Test.YtedhmdocimkldaaDoorPi
import Derived.Test.YtedhmdocimkldaaDoorFn4
namespace Go.Proofs.YtedhmdocimkldaaDoor
open Go Go.RowKit Go.Proofs.YtedhmdocimkldaaDoor.Ev
set_option linter.unusedVariables false
open Classical

abbrev Ch := Int × Int × Int × Int × Int × Int × Int × Int
abbrev St := Int × Int × List Ch × Int
def zOf (c : Ch) : Fin 8 → Int
  | ⟨0, _⟩ => c.1
  | ⟨1, _⟩ => c.2.1
  | ⟨2, _⟩ => c.2.2.1
  | ⟨3, _⟩ => c.2.2.2.1
  | ⟨4, _⟩ => c.2.2.2.2.1
  | ⟨5, _⟩ => c.2.2.2.2.2.1
  | ⟨6, _⟩ => c.2.2.2.2.2.2.1
  | ⟨_ + 7, _⟩ => c.2.2.2.2.2.2.2
/-- Item and duty of each charge. -/
def idsOf (s : St) : List (Int × Int) := s.2.2.1.map fun c => (c.1, c.2.2.2.2.2.2.2)
/-- All numbers are such as printing takes. -/
def okS (s : St) : Prop := s.2.2.1.length ≤ 64 ∧ Pa.Num s.1 ∧ Pa.Num s.2.1 ∧ Pa.Num s.2.2.2 ∧ ∀ c ∈ s.2.2.1, ∀ j, Pa.Num (zOf c j)
/-- Items and duties are numbers of 64 bits, and the charges are few. -/
def inS (s : St) : Prop := s.2.2.1.length ≤ 1000 ∧ ∀ c ∈ s.2.2.1, Pa.I64 c.1 ∧ Pa.I64 c.2.2.2.2.2.2.2
abbrev CH : List Leaf := [.int .i64, .int .i64, .int .i64, .int .i64, .int .i64, .int .i64, .int .i64, .int .i64]
abbrev ST : Ty := .agg [.int .i64, .int .i64, .row CH, .int .i64]
noncomputable def spileref49_PrintP (a0 : St) : Option (Unit × Int) := (spileref49_faultP a0).bind fun e => guardO (e = 0 → okS a0) (some ((), e))
noncomputable def spileref49_PrintP.e : Entry := mkP [ST] (.many [.leaf .tok, .leaf (.int .i64)]) fun x => spileref49_PrintP x
noncomputable def period_dutiesP (a0 : St) : Option (Unit × Bool) := (statement_printableP a0).bind fun e => guardO ((e = 0 → okS a0) ∧ inS a0) (some ((), decide (e = 0 ∧ ((idsOf a0).map Prod.fst).Nodup)))
noncomputable def period_dutiesP.e : Entry := mkP [ST] (.many [.leaf .tok, .leaf .bool]) fun x => period_dutiesP x
/-- The adjustments: the one list that they are. -/
noncomputable def adjOf (la lb : List (Int × Int)) : List (Int × Int) := if h : ∃ ts, Pa.AdjL la lb ts then h.choose else []
noncomputable def period_AdjustP (a0 a1 : St) : Option (List (Int × Int) × Int) :=
  (statement_printableP a0).bind fun e1 => (statement_printableP a1).bind fun e2 =>
    guardO (((e1 = 0 → okS a0) ∧ inS a0) ∧ (e2 = 0 → okS a1) ∧ inS a1)
      (some (if (e1 = 0 ∧ ((idsOf a0).map Prod.fst).Nodup) ∧ (e2 = 0 ∧ ((idsOf a1).map Prod.fst).Nodup) then (if a0.1 = a1.1 ∧ a0.2.1 = a1.2.1 then (adjOf (idsOf a0) (idsOf a1), 0) else ([], 10)) else ([], 1)))
noncomputable def period_AdjustP.e : Entry := mkP [ST, ST] (.many [.leaf (.row [.int .i64, .int .i64]), .leaf (.int .i64)]) fun x => period_AdjustP x.1 x.2

theorem sorted_ext : ∀ {l1 l2 : List (Int × Int)}, l1.Pairwise (fun x y => x.1 < y.1) → l2.Pairwise (fun x y => x.1 < y.1) → (∀ p, p ∈ l1 ↔ p ∈ l2) → l1 = l2
  | [], [], _, _, _ => rfl
  | [], b :: s, _, _, h => by have := (h b).2 (by simp); simp at this
  | a :: r, [], _, _, h => by have := (h a).1 (by simp); simp at this
  | a :: r, b :: s, h1, h2, h => by
    obtain ⟨a1, a2⟩ := List.pairwise_cons.1 h1
    obtain ⟨b1, b2⟩ := List.pairwise_cons.1 h2
    have hab : a = b := by
      rcases List.mem_cons.1 ((h a).1 (by simp)) with e | ha
      · exact e
      · rcases List.mem_cons.1 ((h b).2 (by simp)) with e | hb
        · exact e.symm
        · have := b1 a ha; have := a1 b hb; omega
    subst hab
    rw [sorted_ext a2 b2 (fun p => ⟨fun hp => by
      rcases List.mem_cons.1 ((h p).1 (by simp [hp])) with e | hp'
      · have := a1 p hp; rw [e] at this; omega
      · exact hp', fun hp => by
      rcases List.mem_cons.1 ((h p).2 (by simp [hp])) with e | hp'
      · have := b1 p hp; rw [e] at this; omega
      · exact hp'⟩)]
theorem adjOf_eq {la lb ts : List (Int × Int)} (h : Pa.AdjL la lb ts) : adjOf la lb = ts := by
  have he : ∃ ts, Pa.AdjL la lb ts := ⟨ts, h⟩
  unfold adjOf
  rw [dif_pos he]
  exact sorted_ext he.choose_spec.2 h.2 fun p => by rw [he.choose_spec.1 p, h.1 p]
/-- A statement among the arguments. -/
def Lies (s : St) (p : Option Addr) (w : World) : Prop :=
  s.2.2.1 = [] ∨ ∃ bk o, p = some ⟨bk, o, none⟩ ∧ bk < w.heap.size ∧ ∀ (k : Nat) c, s.2.2.1[k]? = some c → ∀ j : Fin 8, w.cell? ⟨bk, o + k * 8 + j, none⟩ = some (.int .i64 (zOf c j))
theorem st_arg {base : Nat} {ρ : Ren} {h : H} {w : World} (hr : Rel base ρ h w) {s : St} {u : Value} (hu : R ρ (ST.lo false s) u) :
    ∃ p c, u = .agg #[.int .i64 s.1, .int .i64 s.2.1, .slice p s.2.2.1.length c, .int .i64 s.2.2.2] ∧ Lies s p w := by
  obtain ⟨fr, to, cs, tot⟩ := s
  simp only [Ty.lo, LT.lo, Leaf.lo, R, RC] at hu
  obtain ⟨us, rfl, u0, us0, rfl, _, rfl, u1, us1, rfl, _, rfl, u2, us2, rfl, _, hs, u3, us3, rfl, _, rfl, rfl⟩ := hu
  obtain ⟨p, c', rfl, q1, q2, q3, q4, q5, q6, q7⟩ := hs
  refine ⟨p, c', rfl, ?_⟩
  cases hcs : cs with
  | nil => exact .inl rfl
  | cons c0 rest =>
    rw [← hcs]
    have hne : cs.length ≠ 0 := by rw [hcs]; simp
    rcases q6 hne with ⟨h0, _⟩ | ⟨b, i, us, h1, h2, h3⟩
    · rw [hcs] at h0; simp at h0
    · refine .inr ⟨b, i, by simpa using h3, ?_⟩
      have hf : ρ.fz false b i us := by
        rcases h1 with h1 | h1
        · rw [hcs] at h1; simp at h1
        · exact h1
      obtain ⟨c, t, f, k1, k2⟩ := hr.fzok false b i us hf
      refine ⟨(Array.getElem?_eq_some_iff.1 k1).1, fun k x hx j => ?_⟩
      have hg := Pa.flatMap_get (fun x : Ch => LT.lo false CH x) 8 (fun _ => rfl) (by omega) cs (k * 8 + j)
      have hd : (k * 8 + (j : Nat)) / 8 = k := by omega
      have hm : (k * 8 + (j : Nat)) % 8 = j := by omega
      rw [hd, hm, hx] at hg
      have hv : (LT.lo false CH x)[(j : Nat)]? = some (.int .i64 (zOf x j)) := by
        match j with
        | ⟨0, _⟩ => rfl
        | ⟨1, _⟩ => rfl
        | ⟨2, _⟩ => rfl
        | ⟨3, _⟩ => rfl
        | ⟨4, _⟩ => rfl
        | ⟨5, _⟩ => rfl
        | ⟨6, _⟩ => rfl
        | ⟨7, _⟩ => rfl
      rw [Option.bind_some, hv] at hg
      obtain ⟨u, e1, _, e2⟩ := h2.at hg
      simp only [R] at e2
      subst e2
      have := k2 _ _ e1
      simp only [World.cell?, k1, Option.isSome_none, Bool.false_eq_true, if_false]
      rw [Nat.add_assoc]
      exact this
/-- A function on rows that the evaluator has, called from a walk. -/
theorem pcall {P : Program} {f : FuncId} {fn : Func} (hf : P.funcs[f]? = some fn) (hb : fn.body.isNone = false) (hn : (fn.name == "runtime.NumGoroutine") = false) {ts : List Ty} {rq : Ev.Res} {g : TT ts → Option rq.C} (hok : EntryOK P f (mkP ts rq g)) {x : TT ts} {r : rq.C} (hx : rdTT true H.empty ts (TT.lo false ts x) = some x) (hg : g x = some r)
    {base : Nat} {ρ : Ren} {w : World} {us : List Value} (hr : Rel base ρ H.empty w) (hl : RL ρ (TT.lo false ts x) us) :
    Calls P f us.toArray w fun e w' => ∃ val ρ', e = .returned val ∧ Below w.heap.size w w' ∧ R ρ' (rq.lo true r) val := by
  have hc := hok.calls hx hg w.heap.size _ w us hr.rows (rdTT_ok hr ts _ x us hx hl)
  rcases hc with ⟨_, hc⟩ | ⟨val, w', hc, _⟩
  · exact hc.mono fun e w' ⟨ρ', val, _, _, h1, h2, h3⟩ => ⟨val, ρ', h2, h1, h3⟩
  · rw [run_callFunc hf hb hn _ w] at hc
    cases hc
theorem st_plain (s : St) : rdTT true H.empty [ST] (TT.lo false [ST] s) = some s := by
  show rdLT true H.empty [.int .i64, .int .i64, .row CH, .int .i64] (LT.lo false [.int .i64, .int .i64, .row CH, .int .i64] s) = some s
  exact rdLT_lo (lp := true) (f := false) (h := H.empty) rfl [.int .i64, .int .i64, .row CH, .int .i64] s rfl
theorem printable_at {s : St} {n : Int} (hg : statement_printableP s = some n) {base : Nat} {ρ : Ren} {w : World} {us : List Value} (hr : Rel base ρ H.empty w) (hl : RL ρ (TT.lo false [ST] s) us) :
    Calls Tryd.prog 60 us.toArray w fun e w' => e = .returned (.int .i64 n) ∧ Below w.heap.size w w' :=
  (pcall Tryd.func60 (by kernel_rfl) (by kernel_rfl) statement_printableP.ok (st_plain s) hg hr hl).mono fun e w' ⟨val, ρ', h1, h2, h3⟩ => by
    simp only [Res.lo, Ty.lo, Leaf.lo, R] at h3
    subst h3
    exact ⟨h1, h2⟩
theorem fault_at {s : St} {n : Int} (hg : spileref49_faultP s = some n) {base : Nat} {ρ : Ren} {w : World} {us : List Value} (hr : Rel base ρ H.empty w) (hl : RL ρ (TT.lo false [ST] s) us) :
    Calls Tryd.prog 75 us.toArray w fun e w' => e = .returned (.int .i64 n) ∧ Below w.heap.size w w' :=
  (pcall Tryd.func75 (by kernel_rfl) (by kernel_rfl) spileref49_faultP.ok (st_plain s) hg hr hl).mono fun e w' ⟨val, ρ', h1, h2, h3⟩ => by
    simp only [Res.lo, Ty.lo, Leaf.lo, R] at h3
    subst h3
    exact ⟨h1, h2⟩
theorem lies_n {s : St} {p : Option Addr} {w : World} (h : Lies s p w) (ho : okS s) : Pa.ChargesN p s.2.2.1.length w := by
  rcases h with h | ⟨bk, o, h1, h2, h3⟩
  · exact .inl (by rw [h]; rfl)
  · exact .inr ⟨bk, o, h1, h2, fun k hk => ⟨zOf s.2.2.1[k], fun j => ho.2.2.2.2 _ (List.getElem_mem hk) j, h3 k _ (List.getElem?_eq_getElem hk)⟩⟩
theorem num_word {z : Int} (h : Pa.Num z) : -9223372036854775808 ≤ z ∧ z ≤ 9223372036854775807 := by
  obtain ⟨h1, h2⟩ := h
  have : (10 : Int) ^ 18 = 1000000000000000000 := by decide
  omega
theorem lies_w {s : St} {p : Option Addr} {w : World} (h : Lies s p w) (ho : okS s) : Pa.Charges p s.2.2.1.length w := by
  rcases h with h | ⟨bk, o, h1, h2, h3⟩
  · exact .inl (by rw [h]; rfl)
  · exact .inr ⟨bk, o, h1, h2, fun k hk => ⟨zOf s.2.2.1[k], fun j => num_word (ho.2.2.2.2 _ (List.getElem_mem hk) j), h3 k _ (List.getElem?_eq_getElem hk)⟩⟩
theorem lies_d {s : St} {p : Option Addr} {w : World} (h : Lies s p w) (hi : inS s) : Pa.ChargesD p (idsOf s) w := by
  rcases h with h | ⟨bk, o, h1, h2, h3⟩
  · exact .inl (by unfold idsOf; rw [h]; rfl)
  · refine .inr ⟨bk, o, h1, h2, fun k x hx => ?_⟩
    simp only [idsOf, List.getElem?_map, Option.map_eq_some_iff] at hx
    obtain ⟨c, hc, rfl⟩ := hx
    have hm := hi.2 c (List.mem_of_getElem? hc)
    exact ⟨hm.1, hm.2, zOf c, rfl, rfl, h3 k c hc⟩
theorem Lies.below {s : St} {p : Option Addr} {w w1 : World} (h : Lies s p w) (hb : Below w.heap.size w w1) : Lies s p w1 := by
  rcases h with h | ⟨bk, o, h1, h2, h3⟩
  · exact .inl h
  · exact .inr ⟨bk, o, h1, Nat.lt_of_lt_of_le h2 hb.size, fun k c hc j => (hb.cell (p := ⟨bk, o + k * 8 + j, none⟩) h2).trans (h3 k c hc j)⟩
/-- The tables, off what the variables hold. -/
def keysC : Array Value := #[.string ⟨#[105, 116, 101, 109]⟩, .string ⟨#[99, 108, 97, 115, 115]⟩, .string ⟨#[100, 97, 121]⟩, .string ⟨#[97, 108, 99, 111, 104, 111, 108]⟩, .string ⟨#[98, 121]⟩, .string ⟨#[114, 101, 108, 105, 101, 118, 101, 100]⟩, .string ⟨#[114, 97, 116, 101]⟩, .string ⟨#[100, 117, 116, 121]⟩]
theorem tabs_of {base : Nat} {w : World} (h : GL base w) (hb : base ≤ w.heap.size) : Pa.Tabs w := by
  obtain ⟨h0, t0, f0, k0⟩ := h (0, keysC) (List.mem_cons_self)
  obtain ⟨h1, t1, f1, k1⟩ := h (1, _) (List.mem_cons_of_mem _ List.mem_cons_self)
  have hg : Tryd.prog.globalNamed "internal/strconv.uint64pow10" = some 1 := by kernel_rfl
  refine ⟨?_, ⟨1, hg, by omega⟩, by omega, fun j hj => ?_⟩
  · unfold Lib.TabIs World.var?
    rw [hg]
    simp only [Option.bind_some, k1]
    rfl
  · have hc : w.cell? ⟨0, j, none⟩ = keysC[j]? := by simp only [World.cell?, k0, Option.isSome_none, Bool.false_eq_true, if_false]
    rw [hc]
    match j, hj with
    | 0, _ => exact ⟨_, by decide, rfl⟩
    | 1, _ => exact ⟨_, by decide, rfl⟩
    | 2, _ => exact ⟨_, by decide, rfl⟩
    | 3, _ => exact ⟨_, by decide, rfl⟩
    | 4, _ => exact ⟨_, by decide, rfl⟩
    | 5, _ => exact ⟨_, by decide, rfl⟩
    | 6, _ => exact ⟨_, by decide, rfl⟩
    | 7, _ => exact ⟨_, by decide, rfl⟩
theorem one_arg {ρ : Ren} {t : Ty} {x : t.C} {us : List Value} (h : RL ρ (TT.lo false [t] x) us) : ∃ u, us = [u] ∧ R ρ (t.lo false x) u := by
  simp only [TT.lo, RL] at h
  obtain ⟨u, us', rfl, h1, rfl⟩ := h
  exact ⟨u, rfl, h1⟩
/-- statement.Print at a statement, in whatever world has come of the one where it lies. -/
theorem print_at {s : St} {n : Int} (hg : statement_printableP s = some n) (ho : n = 0 → okS s) {base : Nat} {ρ : Ren} {w : World} (hr : Rel base ρ H.empty w) {p : Option Addr} {c : Nat} (hl : R ρ (ST.lo false s) (.agg #[.int .i64 s.1, .int .i64 s.2.1, .slice p s.2.2.1.length c, .int .i64 s.2.2.2])) (hs : Lies s p w) (w1 : World) (hb : Below w.heap.size w w1) :
    Calls Tryd.prog 56 #[.agg #[.int .i64 s.1, .int .i64 s.2.1, .slice p s.2.2.1.length c, .int .i64 s.2.2.2]] w1 (Pa.Ans n w1) := by
  have hr1 := hr.ext hb
  refine Pa.print_any _ _ _ p _ c n w1 (tabs_of hr1.gl hr1.hb) (fun h0 => ?_) fun w2 hb2 => ?_
  · have ho := ho h0
    exact ⟨ho.1, lies_w (hs.below hb) ho, num_word ho.2.1, num_word ho.2.2.1, num_word ho.2.2.2.1⟩
  · exact printable_at hg (hr1.ext hb2) (us := [_]) (by simp only [TT.lo, RL]; exact ⟨_, _, rfl, hl, rfl⟩)
theorem spileref49_PrintP.ok : EntryOK Tryd.prog 59 spileref49_PrintP.e := by
  refine mkP_walked Tryd.func59 (by kernel_rfl) (by kernel_rfl) fun x r hx => ?_
  simp only [spileref49_PrintP, Option.bind_eq_some_iff] at hx
  obtain ⟨n, hn, hx⟩ := hx
  obtain ⟨ho, hx⟩ := guardO_some hx
  cases hx
  refine ⟨.tuple [.undef, .int .i64 n], rfl, fun base ρ w us hr hl => ?_⟩
  obtain ⟨u, rfl, hu⟩ := one_arg hl
  obtain ⟨p, c, rfl, hs⟩ := st_arg hr hu
  refine (Pa.printR_any _ _ _ p _ c n w (fun h0 => ?_) fun w1 hb => ?_).mono fun e w' ⟨s, he, hb⟩ => ⟨ρ, _, Ren.le.refl ρ, hr.ext hb, hb.mono hr.hb, he, ?_⟩
  · have ho := ho h0
    exact ⟨ho.1, lies_n hs ho, ho.2.1, ho.2.2.1, ho.2.2.2.1⟩
  · exact fault_at hn (hr.ext hb) (us := [_]) hl
  · simp only [R]
    exact ⟨[.string s, .int .i64 n], rfl, by simp [RL, R]⟩
/-- period.duties at a statement. -/
theorem duties_at {s : St} {n : Int} (hg : statement_printableP s = some n) (ho : n = 0 → okS s) (hi : inS s) {base : Nat} {ρ : Ren} {w : World} (hr : Rel base ρ H.empty w) {p : Option Addr} {c : Nat} (hl : R ρ (ST.lo false s) (.agg #[.int .i64 s.1, .int .i64 s.2.1, .slice p s.2.2.1.length c, .int .i64 s.2.2.2])) (hs : Lies s p w) (w1 : World) (hb : Below w.heap.size w w1) :
    Calls Tryd.prog 46 #[.agg #[.int .i64 s.1, .int .i64 s.2.1, .slice p s.2.2.1.length c, .int .i64 s.2.2.2]] w1 (Pa.Duties (idsOf s) (decide (n = 0 ∧ ((idsOf s).map Prod.fst).Nodup)) w1) := by
  have := Pa.duties_any s.1 s.2.1 s.2.2.2 p s.2.2.1.length c n (idsOf s) w1 (by simp [idsOf]) hi.1 (lies_d (hs.below hb) hi) fun w2 hb2 => print_at hg ho hr hl hs w2 (hb.trans (hb2.mono hb.size))
  exact this
theorem period_dutiesP.ok : EntryOK Tryd.prog 46 period_dutiesP.e := by
  refine mkP_walked Tryd.func46 (by kernel_rfl) (by kernel_rfl) fun x r hx => ?_
  simp only [period_dutiesP, Option.bind_eq_some_iff] at hx
  obtain ⟨n, hn, hx⟩ := hx
  obtain ⟨⟨ho, hi⟩, hx⟩ := guardO_some hx
  cases hx
  refine ⟨.tuple [.undef, .bool _], rfl, fun base ρ w us hr hl => ?_⟩
  obtain ⟨u, rfl, hu⟩ := one_arg hl
  obtain ⟨p, c, rfl, hs⟩ := st_arg hr hu
  refine (duties_at hn ho hi hr hu hs w (Below.refl _ _)).mono fun e w' ⟨b, D, he, _, _, _, hb⟩ => ⟨ρ, _, Ren.le.refl ρ, hr.ext hb, hb.mono hr.hb, he, ?_⟩
  simp only [R]
  exact ⟨[.map (some b), .bool _], rfl, by simp [RL, R]⟩
abbrev PA : List Leaf := [.int .i64, .int .i64]
abbrev RA : Ev.Res := .many [.leaf (.row PA), .leaf (.int .i64)]
theorem RC_enc {ρ : Ren} : ∀ (ts : List (Int × Int)), RC ρ (ts.flatMap fun x => LT.lo true PA x) (ts.flatMap Pa.encP)
  | [] => by simp [RC]
  | x :: ts => by
    rw [List.flatMap_cons, List.flatMap_cons]
    exact RC.append (by simp only [LT.lo, Leaf.lo, Pa.encP, RC, R]; exact ⟨_, _, rfl, rfl, rfl, _, _, rfl, rfl, rfl, rfl⟩) (RC_enc ts)
theorem adj_nil {ρ : Ren} (n : Int) : R ρ (RA.lo true ([], n)) (.tuple #[.slice none 0 0, .int .i64 n]) := by
  simp only [Res.lo, TT.lo, Ty.lo, Leaf.lo, R]
  refine ⟨[.slice none 0 0, .int .i64 n], rfl, ?_⟩
  simp only [RL, R]
  exact ⟨_, _, rfl, ⟨none, 0, rfl, Nat.le_refl _, Nat.le_refl _, fun _ => rfl, fun _ => rfl, .inl rfl, fun h => absurd rfl h, (fun _ _ _ h => by cases h)⟩, _, _, rfl, rfl, rfl⟩
theorem adj_read (r : List (Int × Int) × Int) : rdRes false H.empty RA (RA.lo true r) = some r := by
  show (rdTy false H.empty (.leaf (.row PA)) (Leaf.lo true (.row PA) r.1)).bind (fun x => (rdTy false H.empty (.leaf (.int .i64)) (.int .i64 r.2)).bind fun y => some (x, y)) = some r
  have : rdTy false H.empty (.leaf (.row PA)) (Leaf.lo true (.row PA) r.1) = some r.1 := rdLeaf_lo (lp := false) (f := true) (h := H.empty) rfl (.row PA) r.1 rfl
  rw [this]
  rfl
theorem adj_row {base : Nat} {ρ : Ren} {w w' : World} (hr : Rel base ρ H.empty w) (hb : Below w.heap.size w w') {v : Value} {ts : List (Int × Int)} (ho : w'.ownsRow w.heap.size 49 2 v ts.length (ts.flatMap Pa.encP)) :
    ∃ ρ', ρ.le ρ' ∧ Rel base ρ' H.empty w' ∧ R ρ' (RA.lo true (ts, 0)) (.tuple #[v, .int .i64 0]) := by
  obtain ⟨hl, ⟨rfl, h0⟩ | ⟨g, cap, cur, rfl, hg, hc, h1, h2, h3, h4⟩⟩ := ho
  · have : ts = [] := List.length_eq_zero_iff.1 h0
    subst this
    exact ⟨ρ, Ren.le.refl ρ, hr.ext hb, adj_nil 0⟩
  · refine ⟨_, Ren.froze_le, hr.found hb hg hc (us := ts.flatMap Pa.encP) (fun j u hu => ?_), ?_⟩
    · rw [← h4, List.getElem?_take] at hu
      split at hu
      · simpa using hu
      · cases hu
    · simp only [Res.lo, TT.lo, Ty.lo, Leaf.lo, R]
      refine ⟨[.slice (some ⟨g, 0, none⟩) ts.length cap, .int .i64 0], rfl, ?_⟩
      simp only [RL, R]
      refine ⟨_, _, rfl, ⟨some ⟨g, 0, none⟩, cap, rfl, Nat.le_refl _, h1, (fun h => by cases h), (fun h => by cases h), ?_, fun _ => .inr ⟨g, 0, ts.flatMap Pa.encP, .inr (.inl ⟨rfl, rfl, rfl⟩), RC_enc ts, rfl⟩, (fun _ _ _ h => by cases h)⟩, _, _, rfl, rfl, rfl⟩
      cases ts with
      | nil => exact .inl rfl
      | cons x ts => exact .inr rfl
theorem period_AdjustP.ok : EntryOK Tryd.prog 25 period_AdjustP.e := by
  refine mkP_walked Tryd.func25 (by kernel_rfl) (by kernel_rfl) fun x r hx => ?_
  obtain ⟨s1, s2⟩ := x
  simp only [period_AdjustP, Option.bind_eq_some_iff] at hx
  obtain ⟨n1, hn1, n2, hn2, hx⟩ := hx
  obtain ⟨⟨⟨ho1, hi1⟩, ho2, hi2⟩, hx⟩ := guardO_some hx
  simp only [Option.some.injEq] at hx
  subst hx
  refine ⟨RA.lo true _, adj_read _, fun base ρ w us hr hl => ?_⟩
  simp only [TT.lo, RL] at hl
  obtain ⟨u1, us1, rfl, hu1, u2, us2, rfl, hu2, rfl⟩ := hl
  obtain ⟨p1, c1, rfl, hs1⟩ := st_arg hr hu1
  obtain ⟨p2, c2, rfl, hs2⟩ := st_arg hr hu2
  have hA := duties_at hn1 ho1 hi1 hr hu1 hs1
  have hB := duties_at hn2 ho2 hi2 hr hu2 hs2
  by_cases hok : (n1 = 0 ∧ ((idsOf s1).map Prod.fst).Nodup) ∧ (n2 = 0 ∧ ((idsOf s2).map Prod.fst).Nodup)
  · rw [if_pos hok]
    rw [decide_eq_true hok.1] at hA
    rw [decide_eq_true hok.2] at hB
    by_cases hsame : s1.1 = s2.1 ∧ s1.2.1 = s2.2.1
    · rw [if_pos hsame]
      rw [← hsame.1, ← hsame.2] at hB ⊢
      have hN : ∀ (s : St), okS s → Pa.NumL (idsOf s) := fun s ho q hq => by
        obtain ⟨c, hc, rfl⟩ := List.mem_map.1 hq
        exact ⟨ho.2.2.2.2 c hc 0, ho.2.2.2.2 c hc 7⟩
      refine (Pa.adjust_yes _ _ _ _ _ _ (idsOf s1) _ _ _ _ (idsOf s2) w hA hB (by simp [idsOf]; exact hi1.1) (by simp [idsOf]; exact hi2.1) (hN _ (ho1 hok.1.1)) (hN _ (ho2 hok.2.1))).mono fun e w' ⟨v, ts, he, how, hadj, hb⟩ => ?_
      obtain ⟨ρ', h1, h2, h3⟩ := adj_row hr hb how
      rw [← adjOf_eq hadj] at h3
      exact ⟨ρ', _, h1, h2, hb.mono hr.hb, he, h3⟩
    · rw [if_neg hsame]
      exact (Pa.adjust_off _ _ _ _ _ _ (idsOf s1) _ _ _ _ _ _ (idsOf s2) w hA hB hsame).mono fun e w' ⟨he, hb⟩ => ⟨ρ, _, Ren.le.refl ρ, hr.ext hb, hb.mono hr.hb, he, adj_nil 10⟩
  · rw [if_neg hok]
    refine (Pa.adjust_no _ _ _ _ _ _ (idsOf s1) _ _ _ _ _ _ _ (idsOf s2) _ w hA hB ?_).mono fun e w' ⟨he, hb⟩ => ⟨ρ, _, Ren.le.refl ρ, hr.ext hb, hb.mono hr.hb, he, adj_nil 1⟩
    rw [Bool.and_eq_false_iff]
    by_cases h1 : n1 = 0 ∧ ((idsOf s1).map Prod.fst).Nodup
    · exact .inr (decide_eq_false fun h2 => hok ⟨h1, h2⟩)
    · exact .inl (decide_eq_false h1)
end Go.Proofs.YtedhmdocimkldaaDoor
