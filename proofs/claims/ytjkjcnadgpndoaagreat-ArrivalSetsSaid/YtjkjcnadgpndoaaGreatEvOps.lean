/- One operation: what the evaluator says of it, the model does. Conditions: those of 'Rel', 'EnvOK' and 'TabOK'. -/
import Derived.Test.YtjkjcnadgpndoaaGreatEvRel
namespace Go.Proofs.YtjkjcnadgpndoaaGreat.Ev
open Go Go.RowKit

/-- What is cells lies as it lay. -/
def SameC (w w2 : World) : Prop := ∀ (b : Nat) c t fr, w.heap[b]? = some (Obj.cells c t fr) → w2.heap[b]? = some (Obj.cells c t fr)
theorem SameC.cell {w w2 : World} (hs : SameC w w2) {a : Addr} {u : Value} (h : w.cell? a = some u) : w2.cell? a = some u := by
  unfold World.cell? at h ⊢
  cases hb : w.heap[a.block]? with
  | none => rw [hb] at h; cases h
  | some o =>
    rw [hb] at h
    cases o with
    | cells c t fr => rw [hs _ _ _ _ hb]; exact h
    | _ => cases h

/-! ### Tables -/

def Ret (base : Nat) (ρ : Ren) (h' : H) (v : V) (w : World) : Ending → World → Prop := fun e w' =>
  ∃ ρ' val, ρ.le ρ' ∧ Rel base ρ' h' w' ∧ Below base w w' ∧ e = .returned val ∧ R ρ' v val
/-- A call runs: a function with a body is entered; one that the model stands in for gives its value at once. -/
def CRuns (P : Program) (g : FuncId) (us : Array Value) (w : World) (Q : Ending → World → Prop) : Prop :=
  ((callFunc g us).run P w = .ok (.enter g us) w ∧ Calls P g us w Q) ∨ ∃ val w', (callFunc g us).run P w = .ok (.value val) w' ∧ Q (.returned val) w'
theorem CRuns.mono {P : Program} {g : FuncId} {us : Array Value} {w : World} {Q Q' : Ending → World → Prop} (h : CRuns P g us w Q) (hq : ∀ e w', Q e w' → Q' e w') : CRuns P g us w Q' := by
  rcases h with ⟨h1, h2⟩ | ⟨val, w', h1, h2⟩
  · exact .inl ⟨h1, Calls.mono h2 hq⟩
  · exact .inr ⟨val, w', h1, hq _ _ h2⟩
/-- The fence that lets all in, in a round or not. -/
def FW (ro : Option Nat) : Fence := { Fence.wide with round := ro }
/-- A call of 'yield' runs a round. -/
def YRuns (P : Program) (b : Nat) (us : Array Value) (w : World) (Q : Ending → World → Prop) : Prop :=
  ∃ f tmps assign body w', (Instr.yield b us).run P w = .ok (.round b f tmps assign body) w' ∧ RoundIn Fence.wide 0 P b f tmps assign body w' Q
/-- A Go function, called with these abstract arguments in this heap, comes back with that value and that heap. -/
def CallOK (P : Program) (g : FuncId) (args : List V) (h : H) (v : V) (h' : H) : Prop :=
  ∀ base ρ w us, Rel base ρ h w → RL ρ args us → CRuns P g us.toArray w (Ret base ρ h' v w)
/-- It hands its result on. -/
def Natl (e : Entry) : Prop := ∀ args h, ∃ r : Option (V × H), ∀ (α : Type) (k : V → H → Option α), e.cps args h k = r.bind fun p => k p.1 p.2
def EntryOK (P : Program) (g : FuncId) (e : Entry) : Prop :=
  ∀ args h, (∃ r : Option (V × H), ∀ (α : Type) (k : V → H → Option α), e.cps args h k = r.bind fun p => k p.1 p.2) ∧
    ∀ v h', e.cps args h (fun v h => some (v, h)) = some (v, h') → (e.quiet = true → h' = h) ∧ CallOK P g args h v h'
/-- What 'yield' does, from a state of the blocks on. -/
def YOK (P : Program) (base : Nat) (ρ0 : Ren) (Y : Entry) : Prop :=
  ∀ args h v h', Y.cps args h (fun v h => some (v, h)) = some (v, h') → ∃ id as, args = .yld id :: as ∧
    ∀ ρ w us b x, ρ0.le ρ → Rel base ρ h w → RL ρ as us → ρ.map id 0 = some (b, x) → YRuns P b us.toArray w (Ret base ρ h' v w)
theorem YOK.mono {P : Program} {base : Nat} {ρ ρ' : Ren} {Y : Entry} (h : YOK P base ρ Y) (hl : ρ.le ρ') : YOK P base ρ' Y := fun args hh v h' hv =>
  let ⟨id, as, e, k⟩ := h args hh v h' hv
  ⟨id, as, e, fun ρ2 w us b x g => k ρ2 w us b x (hl.trans g)⟩
theorem Natl.none : Natl Entry.none := fun _ _ => ⟨Option.none, fun _ _ => rfl⟩
theorem YOK.none {P : Program} {base : Nat} {ρ : Ren} : YOK P base ρ Entry.none := fun args h v h' hv => by simp [Entry.none] at hv
/-- A function that is ranged over. -/
def ItOK (P : Program) (g : FuncId) (I : Entry → Entry) : Prop :=
  ∀ Y, Natl Y → ∀ base ρ0, YOK P base ρ0 Y → ∀ args h (α : Type) (k : V → H → Option α) (res : α), (I Y).cps args h k = some res →
    ∀ ρ w us, ρ0.le ρ → Rel base ρ h w → RL ρ args us → (callFunc g us.toArray).run P w = .ok (.enter g us.toArray) w ∧ Calls P g us.toArray w fun e w' => ∃ v h', k v h' = some res ∧ Ret base ρ h' v w e w'
theorem ItOK.none (P : Program) (g : FuncId) : ItOK P g fun _ => Entry.none := fun Y hY => fun _ _ _ args h α k res hv => by simp [Entry.none] at hv
def DynOK (P : Program) (D : Dyn) : Prop := (∀ g, EntryOK P g (D.fn g)) ∧ (∀ g, ItOK P g (D.it g)) ∧ Natl D.yl
/-- What is said of a table, but for 'yield'; and with it. -/
def TabW (P : Program) (T : Table) : Prop := (∀ g, EntryOK P g (T.st g)) ∧ DynOK P T.dy
def TabOK (P : Program) (T : Table) : Prop := TabW P T ∧ ∀ base ρ, YOK P base ρ T.dy.yl
theorem Entry.none_ok (P : Program) (g : FuncId) : EntryOK P g Entry.none := by
  intro args h
  refine ⟨⟨Option.none, fun _ _ => rfl⟩, fun v h' hv => ?_⟩
  simp [Entry.none] at hv
theorem TabW.nil (P : Program) : TabW P Table.nil := ⟨Entry.none_ok P, Entry.none_ok P, ItOK.none P, Natl.none⟩
theorem TabOK.nil (P : Program) : TabOK P Table.nil := ⟨TabW.nil P, fun _ _ => YOK.none⟩
theorem look_ok {P : Program} {T : FuncId → Entry} (hT : ∀ g, EntryOK P g (T g)) : ∀ {l : List (FuncId × Entry)}, (∀ p ∈ l, EntryOK P p.1 p.2) → ∀ g, EntryOK P g (look l T g)
  | [], _ => hT
  | (f, e) :: l, h => by
    intro g
    simp only [look]
    by_cases hg : g = f
    · subst hg
      have := h (g, e) (by simp)
      simpa using this
    · have hb : Nat.beq g f = false := beq_ne hg
      simp only [hb, cond_false]
      exact look_ok hT (fun p hp => h p (by simp [hp])) g
theorem lookI_ok {P : Program} {T : FuncId → Entry → Entry} (hT : ∀ g, ItOK P g (T g)) : ∀ {l : List (FuncId × (Entry → Entry))}, (∀ p ∈ l, ItOK P p.1 p.2) → ∀ g, ItOK P g (lookI l T g)
  | [], _ => hT
  | (f, e) :: l, h => by
    intro g
    by_cases hg : g = f
    · subst hg
      have := h (g, e) (by simp)
      have he : lookI ((g, e) :: l) T g = e := by simp [lookI]
      rw [he]; exact this
    · have hb : Nat.beq g f = false := beq_ne hg
      have he : lookI ((f, e) :: l) T g = lookI l T g := by simp only [lookI, hb, cond_false]
      rw [he]
      exact lookI_ok hT (fun p hp => h p (by simp [hp])) g
theorem TabW.tab {P : Program} {T : Table} (hT : TabW P T) {ls ld : List (FuncId × Entry)} (h1 : ∀ p ∈ ls, EntryOK P p.1 p.2) (h2 : ∀ p ∈ ld, EntryOK P p.1 p.2) : TabW P (tab ls ld T) :=
  ⟨look_ok hT.1 h1, look_ok hT.2.1 h2, hT.2.2⟩
theorem TabW.tabI {P : Program} {T : Table} (hT : TabW P T) {l : List (FuncId × (Entry → Entry))} (h1 : ∀ p ∈ l, ItOK P p.1 p.2) : TabW P (tabI l T) :=
  ⟨hT.1, hT.2.1, lookI_ok hT.2.2.1 h1, hT.2.2.2⟩
theorem TabW.withY {P : Program} {T : Table} (hT : TabW P T) {Y : Entry} (hY : Natl Y) : TabW P (withY T Y) := ⟨hT.1, hT.2.1, hT.2.2.1, hY⟩
theorem TabW.at {P : Program} {T : Table} (hT : TabW P T) (f : Operand) : DynOK P (T.at f) := by
  cases f <;> first | exact ⟨hT.1, hT.2.2⟩ | exact hT.2
theorem TabOK.tab {P : Program} {T : Table} (hT : TabOK P T) {ls ld : List (FuncId × Entry)} (h1 : ∀ p ∈ ls, EntryOK P p.1 p.2) (h2 : ∀ p ∈ ld, EntryOK P p.1 p.2) : TabOK P (tab ls ld T) :=
  ⟨hT.1.tab h1 h2, hT.2⟩
theorem TabOK.tabI {P : Program} {T : Table} (hT : TabOK P T) {l : List (FuncId × (Entry → Entry))} (h1 : ∀ p ∈ l, ItOK P p.1 p.2) : TabOK P (tabI l T) :=
  ⟨hT.1.tabI h1, hT.2⟩
theorem Table.at_yl (T : Table) (f : Operand) : (T.at f).yl = T.dy.yl := by cases f <;> rfl

theorem callV_ok {P : Program} {T : Dyn} (hT : DynOK P T) {v : V} {args : List V} {h : H} {α : Type} {k : V → H → Option α} {res : α} (hs : callV T v args h k = some res) :
    (∃ g cs r h', v = .func g cs ∧ (T.fn g).cps (args ++ cs) h (fun v h => some (v, h)) = some (r, h') ∧ k r h' = some res) ∨
      ∃ id r h', v = .yld id ∧ T.yl.cps (.yld id :: args) h (fun v h => some (v, h)) = some (r, h') ∧ k r h' = some res := by
  cases v <;> simp only [callV, reduceCtorEq] at hs
  case func g cs =>
    obtain ⟨⟨r, hn⟩, _⟩ := hT.1 g (args ++ cs) h
    rw [hn] at hs
    cases r with
    | none => simp at hs
    | some p => exact .inl ⟨g, cs, p.1, p.2, rfl, by rw [hn]; rfl, by simpa using hs⟩
  case yld id =>
    obtain ⟨r, hn⟩ := hT.2.2 (.yld id :: args) h
    rw [hn] at hs
    cases r with
    | none => simp at hs
    | some p => exact .inr ⟨id, p.1, p.2, rfl, by rw [hn]; rfl, by simpa using hs⟩

theorem callB_ok {q y : Bool} {T : Dyn} {v : V} {args : List V} {h : H} {α : Type} {k : V → H → Option α} {res : α} (hs : callB q y T v args h k = some res) : callV T v args h k = some res ∧ (q = true → ∃ g cs, v = .func g cs ∧ (T.fn g).quiet = true) ∧ (q = false → y = true → ∃ g cs, v = .func g cs ∧ (T.fn g).free = true) := by
  cases q with
  | false =>
    cases y with
    | false => exact ⟨hs, fun h => (by cases h), fun _ h => (by cases h)⟩
    | true =>
      simp only [callB, cond_true, cond_false] at hs
      cases v <;> simp only [callF, reduceCtorEq] at hs
      rename_i g cs
      cases hq : (T.fn g).free with
      | false => rw [hq] at hs; cases hs
      | true => rw [hq] at hs; exact ⟨hs, fun h => (by cases h), fun _ _ => ⟨g, cs, rfl, hq⟩⟩
  | true =>
    simp only [callB, cond_true] at hs
    cases v <;> simp only [callQ, reduceCtorEq] at hs
    rename_i g cs
    cases hq : (T.fn g).quiet with
    | false => rw [hq] at hs; cases hs
    | true => rw [hq] at hs; exact ⟨hs, fun _ => ⟨g, cs, rfl, hq⟩, fun h => (by cases h)⟩
theorem callB_give {P : Program} {q y : Bool} {T : Dyn} (hT : DynOK P T) {g : FuncId} {cs args : List V} {h h' : H} {v : V} (hq : q = true → (T.fn g).quiet = true) (hy : y = true → (T.fn g).free = true) (hc : (T.fn g).cps (args ++ cs) h (fun v h => some (v, h)) = some (v, h')) {α : Type} {k : V → H → Option α} : callB q y T (.func g cs) args h k = k v h' := by
  obtain ⟨⟨r, hr⟩, _⟩ := hT.1 g (args ++ cs) h
  rw [hr] at hc
  cases r with
  | none => simp at hc
  | some r =>
    simp at hc
    obtain ⟨e1, e2⟩ := hc
    have hk : ∀ k : V → H → Option α, (T.fn g).cps (args ++ cs) h k = k v h' := fun k => by rw [hr, ← e1, ← e2]; rfl
    cases q with
    | true => simp only [callB, cond_true, callQ, hq rfl, hk]
    | false =>
      cases y with
      | true => simp only [callB, cond_true, cond_false, callF, hy rfl, hk]
      | false => exact hk k

/-! ### Values in slots -/

def EnvOK (ρ : Ren) (env : Env) (a : Act) : Prop := ∀ t, R ρ (env t) (a.tmps.getD t undef)
theorem EnvOK.mono {ρ ρ' : Ren} {env : Env} {a : Act} (h : EnvOK ρ env a) (hl : ρ.le ρ') : EnvOK ρ' env a := fun t => R_mono hl _ _ (h t)
theorem EnvOK.ev {ρ : Ren} {env : Env} {a : Act} (h : EnvOK ρ env a) (x : Operand) : R ρ (ev env x) (a.eval x) := by
  cases x with
  | tmp t => exact h t
  | const v => exact R_ofZero v
  | global g => simp [Ev.ev, R]
  | func f => simp only [Ev.ev, Act.eval, R]; exact ⟨[], rfl, by simp [RL]⟩
theorem EnvOK.args {ρ : Ren} {env : Env} {a : Act} (h : EnvOK ρ env a) (xs : Array Operand) : RL ρ (xs.toList.map (Ev.ev env)) (xs.map a.eval).toList := by
  rw [Array.toList_map]
  exact RL_map _ _ _ fun x _ => h.ev x

/-! ### The program's own tables -/

section tables
variable {P : Program} {t : TypeId}
theorem info_of_zero {z : Value} (h : zeroOf P t = some z) : ∃ i, P.info? t = some i ∧ i.zero = some z := by
  unfold zeroOf at h
  cases hi : P.info? t with
  | none => simp [hi] at h
  | some i => exact ⟨i, rfl, by simpa [hi] using h⟩
theorem info_of_size {n : Nat} (h : sizeT P t = some n) : ∃ i, P.info? t = some i ∧ i.size = n := by
  unfold sizeT at h
  cases hi : P.info? t with
  | none => simp [hi] at h
  | some i => exact ⟨i, rfl, by simpa [hi] using h⟩
theorem info_of_bytes {n : Nat} (h : bytesT P t = some n) : ∃ i, P.info? t = some i ∧ i.bytes = n := by
  unfold bytesT at h
  cases hi : P.info? t with
  | none => simp [hi] at h
  | some i => exact ⟨i, rfl, by simpa [hi] using h⟩
theorem run_zero {z : Value} (h : zeroOf P t = some z) (w : World) : (zeroValue t).run P w = .ok z w := by
  obtain ⟨i, h1, h2⟩ := info_of_zero h
  simp [zeroValue, typeInfo, h1, h2]
theorem run_size {n : Nat} (h : sizeT P t = some n) (w : World) : (sizeOf t).run P w = .ok n w := by
  obtain ⟨i, h1, h2⟩ := info_of_size h
  simp [sizeOf, typeInfo, h1, h2]
theorem run_agg {b : Bool} (h : aggT P t = some b) (w : World) : (isAgg t).run P w = .ok b w := by
  unfold aggT at h
  cases hu : P.underlying t with
  | none => simp [hu] at h
  | some d =>
    unfold isAgg
    rw [Sem.run_bind, run_underlying hu w]
    cases d <;> simp_all
theorem isSlice_of {e : TypeId} (h : isSlice P t = some e) : P.underlying t = some (.slice e) := by
  unfold isSlice at h
  split at h <;> simp_all
theorem isArray_of {n : Nat} {e : TypeId} (h : isArray P t = some (n, e)) : P.underlying t = some (.array n e) := by
  unfold isArray at h
  split at h <;> simp_all
theorem intKind_of {k : IntKind} (h : intKindOf P t = some k) : P.underlying t = some (.int k) := by
  unfold intKindOf at h
  split at h <;> simp_all
theorem zeroCells_of {cs : List V} (h : zeroCells P t = some cs) : ∃ z, zeroOf P t = some z ∧ z.cells.toList.all one = true ∧ cs = z.cells.toList.map ofConst := by
  unfold zeroCells at h
  split at h
  · rename_i z hz
    split at h
    · rename_i ho
      exact ⟨z, hz, ho, (Option.some.inj h).symm⟩
    · cases h
  · cases h
theorem tyOf_leaf {l : Leaf} (h : tyOf P t = some (.leaf l)) : aggT P t = some false := by
  unfold tyOf at h
  split at h <;> (try split at h) <;> simp_all
theorem tyOf_agg {ls : List Leaf} (h : tyOf P t = some (.agg ls)) : aggT P t = some true ∧ sizeT P t = some ls.length := by
  unfold tyOf at h
  split at h <;> (try split at h) <;> simp_all
  subst h
  simp
end tables

/-! ### Reading and writing -/

section cells
variable {P : Program} {base : Nat} {ρ : Ren} {h : H} {w : World}
theorem from_ok (hr : Rel base ρ h w) {a : V} {cs : List V} (hf : h.from a = some cs) {p : Addr} (ha : R ρ a (.pointer (some p))) :
    ∃ b o us, Value.pointer (some p) = .pointer (some ⟨b, o, none⟩) ∧ RC ρ cs us ∧ ∀ j u, us[j]? = some u → w.cell? ⟨b, o + j, none⟩ = some u := by
  cases a <;> simp only [H.from, reduceCtorEq] at hf
  case lp fl cs0 off =>
    simp only [Option.some.injEq] at hf
    subst hf
    simp only [R] at ha
    rcases ha with ⟨_, hx⟩ | ⟨b, i, us, h1, h2, hx⟩
    · cases hx
    cases hx
    rcases h1 with rfl | h1
    · refine ⟨b, i + off, us.drop off, rfl, h2.drop off, fun j u hu => ?_⟩
      have : us = [] := by simpa [RC] using h2
      subst this
      simp at hu
    obtain ⟨c, t, fr, h3, h4⟩ := hr.fzok fl b i us h1
    refine ⟨b, i + off, us.drop off, rfl, h2.drop off, fun j u hu => ?_⟩
    rw [List.getElem?_drop] at hu
    have := h4 _ _ hu
    simp only [World.cell?, h3, Option.isSome_none, Bool.false_eq_true, if_false]
    rw [show i + off + j = i + (off + j) by omega]
    exact this
  case hp id gen off =>
    split at hf
    · rename_i cs0 e hm
      split at hf
      · rename_i hg
        simp only [Option.some.injEq] at hf
        subst hf
        simp only [R] at ha
        obtain ⟨b, x, h1, hx⟩ := ha
        cases hx
        obtain ⟨b', x', c, t, k1, k2, k3, k4, k5⟩ := hr.own id cs0 e hm
        rw [hg, h1] at k1; cases k1
        refine ⟨b, off, (c.toList.take cs0.length).drop off, rfl, k5.drop off, fun j u hu => ?_⟩
        rw [List.getElem?_drop, List.getElem?_take] at hu
        split at hu
        · simp only [World.cell?, k3, Option.isSome_none, Bool.false_eq_true, if_false]
          simpa using hu
        · cases hu
      · cases hf
    · cases hf
theorem loadVar_okS (hr : Rel base ρ h w) {t : TypeId} {ty : Ty} (hty : tyOf P t = some ty) {a : V} {x : ty.C} (hx : rdT ty h a = some x) {p : Addr} (ha : R ρ a (.pointer (some p))) :
    ∃ val, (∀ w2, SameC w w2 → (loadVar t p).run P w2 = .ok val w2) ∧ R ρ (ty.un x) val := by
  cases ty with
  | leaf l =>
    simp only [rdT, Option.bind_eq_some_iff] at hx
    obtain ⟨v, hv, hp⟩ := hx
    simp only [H.rd, Option.bind_eq_some_iff] at hv
    obtain ⟨cs, hf, hh⟩ := hv
    obtain ⟨b, o, us, he, hrc, hc⟩ := from_ok hr hf ha
    cases he
    cases cs with
    | nil => simp at hh
    | cons v' cs =>
      simp at hh; subst hh
      simp only [RC] at hrc
      obtain ⟨u, us', rfl, h1, h2, h3⟩ := hrc
      have hcell := hc 0 u rfl
      refine ⟨u, ?_, by simp only [Ty.un, Leaf.un_pack l v' x hp]; exact h2⟩
      intro w2 hw2
      simp only [Nat.add_zero] at hcell
      have hcell := hw2.cell hcell
      simp [loadVar, run_agg (tyOf_leaf hty), hcell]
  | agg ls =>
    simp only [rdT, Option.bind_eq_some_iff] at hx
    obtain ⟨vs, hv, hp⟩ := hx
    simp only [H.rds, Option.bind_eq_some_iff] at hv
    obtain ⟨cs, hf, hh⟩ := hv
    split at hh
    · rename_i hn
      simp only [Option.some.injEq] at hh
      subst hh
      obtain ⟨b, o, us, he, hrc, hc⟩ := from_ok hr hf ha
      cases he
      obtain ⟨g1, g2⟩ := tyOf_agg hty
      have hlen : (us.take ls.length).length = ls.length := by rw [List.length_take, ← hrc.length]; omega
      have hload := fun w2 (hw2 : SameC w w2) => run_loadCells_list (P := P) w2 ⟨b, o, none⟩ (us.take ls.length) (fun j v hj => by
        rw [List.getElem?_take] at hj
        split at hj
        · rw [Addr.add_lit]; exact hw2.cell (hc j v hj)
        · cases hj)
      rw [hlen] at hload
      refine ⟨.agg (us.take ls.length).toArray, ?_, ?_⟩
      · intro w2 hw2
        simp [loadVar, run_agg g1, run_size g2, hload w2 hw2]
      · simp only [Ty.un, LT.un_pack ls _ x hp, R]
        exact ⟨_, rfl, hrc.take _⟩
    · cases hh
theorem loadVar_ok (hr : Rel base ρ h w) {t : TypeId} {ty : Ty} (hty : tyOf P t = some ty) {a : V} {x : ty.C} (hx : rdT ty h a = some x) {p : Addr} (ha : R ρ a (.pointer (some p))) :
    ∃ val, (loadVar t p).run P w = .ok val w ∧ R ρ (ty.un x) val :=
  let ⟨val, h1, h2⟩ := loadVar_okS hr hty hx ha
  ⟨val, h1 w (fun _ _ _ _ h => h), h2⟩
theorem wrs_ok (hr : Rel base ρ h w) {a : V} {vs : List V} {h' : H} (hw : h.wrs a vs = some h') {p : Addr} (ha : R ρ a (.pointer (some p))) {us : List Value} (hv : RC ρ vs us) :
    ∃ w', (storeCells p us).run P w = .ok () w' ∧ Rel base ρ h' w' ∧ Below base w w' := by
  cases a <;> simp only [H.wrs, reduceCtorEq] at hw
  rename_i id gen off
  split at hw
  · rename_i cs e hm
    split at hw
    · rename_i hg
      obtain ⟨hg, hle⟩ := hg
      simp only [Option.some.injEq] at hw
      subst hw
      simp only [R] at ha
      obtain ⟨b, x, h1, he⟩ := ha
      cases he
      obtain ⟨b', x', c, t, k1, k2, k3, k4, k5⟩ := hr.own id cs e hm
      rw [hg, h1] at k1; cases k1
      have hst := run_storeCells_at P b off t us 0 c w k3 (by rw [← hv.length]; omega) hv.ones
      simp only [Nat.add_zero] at hst
      have hlen : off + us.length ≤ c.toList.length := by simp only [Array.length_toList]; rw [← hv.length]; omega
      have hw' := hr.write (cs' := splice cs off vs) (c' := (c.toList.take off ++ us ++ c.toList.drop (off + us.length)).toArray) hm (by rw [hg]; exact h1) k3 (splice_length cs off vs hle)
        (by simp only [List.size_toArray, List.length_append, List.length_take, List.length_drop]; simp only [Array.length_toList] at *; omega)
        (by
          have hs := k5.splice hv off
          rw [splice_length cs off vs hle]
          simp only
          have : (c.toList.take off ++ us ++ c.toList.drop (off + us.length)).take cs.length = (c.toList.take cs.length).take off ++ us ++ (c.toList.take cs.length).drop (off + us.length) := by
            have hcl : cs.length ≤ c.toList.length := by simp only [Array.length_toList]; omega
            have hvl := hv.length
            rw [List.append_assoc, List.take_append, List.take_append]
            simp only [List.length_take, List.append_assoc]
            rw [List.take_take, List.take_take, List.take_drop]
            rw [List.drop_take]
            have e1 : min cs.length off = min off cs.length := Nat.min_comm _ _
            have e2 : us.take (cs.length - min off c.toList.length) = us := List.take_of_length_le (by omega)
            rw [e1, e2]
            congr 2
            rw [List.take_drop]
            congr 2
            omega
          rw [this]
          exact hs)
      exact ⟨_, hst, hw'.1, hw'.2⟩
    · cases hw
  · cases hw
end cells

/-! ### Operations -/

section ops
variable {P : Program} {T : Table} {A : Ann} {o : Oper} {base : Nat} {ρ : Ren} {h : H} {w : World} {a : Act} {env : Env} {next : Act → World → Prop} {Q : Exit → Act → World → Prop} {α : Type} {k : V → H → Option α} {res : α} {ro : Option Nat}
/-- What is left to be shown behind an operation. -/
abbrev Goes (base : Nat) (ρ : Ren) (w : World) (k : V → H → Option α) (res : α) (o : Oper) (a : Act) (next : Act → World → Prop) : Prop :=
  ∀ ρ' v h' val w', ρ.le ρ' → Rel base ρ' h' w' → Below base w w' → R ρ' v val → k v h' = some res → next (a.put o.dst val) w'
/-- An operation, in a round or not. -/
def _root_.Go.Oper.wpX (ro : Option Nat) (P : Program) (o : Oper) (a : Act) (w : World) (next : Act → World → Prop) (Q : Exit → Act → World → Prop) : Prop :=
  o.uponIn (FW ro) 0 P a next Q ((execOp a.eval o).run P w)
theorem wp_value {val : Value} {w' : World} (hrun : (execOp a.eval o).run P w = .ok (.value val) w') (hn : next (a.put o.dst val) w') : o.wpX ro P a w next Q := by
  unfold Oper.wpX; rw [hrun]; exact hn
theorem wp_skipped {w' : World} (hrun : (execOp a.eval o).run P w = .ok .skip w') (hn : next (a.put o.dst undef) w') : o.wpX ro P a w next Q := by
  unfold Oper.wpX; rw [hrun]; exact hn
theorem wpX_in (hnd : ∀ c, o.op ≠ .defer c) (h : o.wpX ro P a w next Q) : o.wpIn (FW ro) 0 P a w next Q := by
  refine ⟨fun _ _ => trivial, ?_⟩
  rw [show (FW ro).round = ro from rfl, Oper.semAt_eq ro a.eval o hnd]
  exact h
theorem Goes.same (hg : Goes base ρ w k res o a next) (hr : Rel base ρ h w) {v : V} {val : Value} (hv : R ρ v val) (hk : k v h = some res) : next (a.put o.dst val) w :=
  hg ρ v h val w (Ren.le.refl _) hr (Below.refl _ _) hv hk
theorem guardO_some {p : Prop} [Decidable p] {β : Type} {x : Option β} {y : β} (hh : guardO p x = some y) : p ∧ x = some y := by
  unfold guardO at hh
  split at hh
  · rename_i hp; exact ⟨hp, hh⟩
  · cases hh
theorem R_int {kd : IntKind} {n : Int} {u : Value} : R ρ (.int kd n) u ↔ u = .int kd n := by simp [R]
theorem R_bool {b : Bool} {u : Value} : R ρ (.bool b) u ↔ u = .bool b := by simp [R]
theorem R_str {b : ByteArray} {u : Value} : R ρ (.str b) u ↔ u = .string b := by simp [R]
theorem R_unit : R ρ (.tuple []) undef := by simp only [R]; exact ⟨[], rfl, by simp [RL]⟩

theorem binInt_ok {β : Type} {op : BinOp} {ka kb : IntKind} {x y : Int} {k : V → Option β} {res : β} (hs : binInt op ka x kb y k = some res) (t : TypeId) (px py : Operand) (w : World) :
    ∃ v val, (do eqGuard op t px py (.int ka x) (.int kb y); binOp op t (.int ka x) (.int kb y) : Sem Value).run P w = .ok val w ∧ R ρ v val ∧ k v = some res := by
  have hg : eqGuard op t px py (.int ka x) (.int kb y) = pure () := eqGuard_at_int ..
  rw [hg]
  simp only [pure_bind]
  cases op <;> simp only [binInt] at hs
  case shl =>
    obtain ⟨h0, h1⟩ := guardO_some hs
    refine ⟨_, _, ?_, R_int.2 rfl, h1⟩
    simp only [binOp, Op.shift]
    rw [if_neg (by omega)]
    rfl
  case shr =>
    obtain ⟨h0, h1⟩ := guardO_some hs
    refine ⟨_, _, ?_, R_int.2 rfl, h1⟩
    simp only [binOp, Op.shift]
    rw [if_neg (by omega)]
    rfl
  all_goals
    split at hs
    case isFalse => cases hs
    rename_i hk
    subst hk
  case quo =>
    obtain ⟨h0, h1⟩ := guardO_some hs
    refine ⟨_, _, ?_, R_int.2 rfl, h1⟩
    simp [binOp, Op.intDiv, h0]
  case rem =>
    obtain ⟨h0, h1⟩ := guardO_some hs
    refine ⟨_, _, ?_, R_int.2 rfl, h1⟩
    simp [binOp, Op.intDiv, h0]
  case eql => exact ⟨_, _, by simp [binOp, Op.intCmp]; rfl, R_bool.2 (by congr 1), hs⟩
  case neq => exact ⟨_, _, by simp [binOp, Op.intCmp]; rfl, R_bool.2 (by congr 1), hs⟩
  case lss => exact ⟨_, _, by simp [binOp, Op.intCmp], R_bool.2 rfl, hs⟩
  case leq => exact ⟨_, _, by simp [binOp, Op.intCmp], R_bool.2 rfl, hs⟩
  case gtr => exact ⟨_, _, by simp [binOp, Op.intCmp], R_bool.2 rfl, hs⟩
  case geq => exact ⟨_, _, by simp [binOp, Op.intCmp], R_bool.2 rfl, hs⟩
  all_goals exact ⟨_, _, by simp only [binOp, ne_eq, not_true_eq_false, if_false]; rfl, R_int.2 rfl, hs⟩

theorem bytes_beq (x y : ByteArray) : (x.toList == y.toList) = decide (x = y) := by
  rw [Bool.eq_iff_iff, beq_iff_eq, decide_eq_true_iff, ByteArray.toList_eq, ByteArray.toList_eq]
  constructor
  · intro hh
    cases x; cases y
    congr 1
    exact Array.toList_inj.1 hh
  · intro hh; rw [hh]
theorem binStr_ok {β : Type} {op : BinOp} {x y : ByteArray} {k : V → Option β} {res : β} (hs : binStr op x y k = some res) (t : TypeId) (px py : Operand) (w : World) :
    ∃ v val, (do eqGuard op t px py (.string x) (.string y); binOp op t (.string x) (.string y) : Sem Value).run P w = .ok val w ∧ R ρ v val ∧ k v = some res := by
  have hg : eqGuard op t px py (.string x) (.string y) = pure () := eqGuard_at_string ..
  rw [hg]
  simp only [pure_bind]
  cases op <;> simp only [binStr, reduceCtorEq] at hs
  all_goals exact ⟨_, _, by simp only [binOp, Op.stringOp]; rfl, R_bool.2 (by simp only [bytes_beq]), hs⟩
theorem eqFields_ints {P : Program} (d : Nat) : ∀ (fs : List Field) (i : Nat) (xs ys : List V) (us vs : List Value) (r : Bool) (w : World),
    (∀ p ∈ fs.zipIdx i, p.1.offset = p.2 ∧ p.1.name ≠ "_" ∧ ((intKindOf P p.1.type).isSome || isBool P p.1.type) = true) → RC ρ xs us → RC ρ ys vs → fits (fs.map fun f => isBool P f.type) xs = true → fits (fs.map fun f => isBool P f.type) ys = true → eqInts xs ys = some r →
    ∀ (us' vs' : List Value), us'.length = i → vs'.length = i → (Op.eqFields (d + 1) (us' ++ us).toArray (vs' ++ vs).toArray fs).run P w = .ok r w
  | [], i, xs, ys, us, vs, r, w, _, hx, hy, lx, ly, he, us', vs', _, _ => by
    have : xs = [] := by cases xs with | nil => rfl | cons _ _ => simp [fits] at lx
    have : ys = [] := by cases ys with | nil => rfl | cons _ _ => simp [fits] at ly
    subst_vars
    simp [eqInts] at he
    simp [Op.eqFields, ← he]
  | f :: fs, i, xs, ys, us, vs, r, w, hf, hx, hy, lx, ly, he, us', vs', l1, l2 => by
    cases xs with
    | nil => cases hb : isBool P f.type <;> simp [fits, hb] at lx
    | cons x xs =>
    cases ys with
    | nil => cases hb : isBool P f.type <;> simp [fits, hb] at ly
    | cons y ys =>
    simp only [RC] at hx hy
    obtain ⟨u, us1, rfl, o1, r1, hx⟩ := hx
    obtain ⟨v, vs1, rfl, o2, r2, hy⟩ := hy
    obtain ⟨q1, q2, q3⟩ := hf (f, i) (by simp [List.zipIdx_cons])
    have len : ∀ (bs : List Bool) (l : List V), fits bs l = true → l.length = bs.length := by
      intro bs
      induction bs with
      | nil => intro l h; cases l <;> simp [fits] at h ⊢
      | cons b bs ih =>
        intro l h
        cases l with
        | nil => cases b <;> simp [fits] at h
        | cons v l => cases b <;> cases v <;> simp [fits] at h <;> simp [ih _ h]
    cases hbk : isBool P f.type with
    | false =>
      rw [hbk, Bool.or_false] at q3
      simp only at q3
      obtain ⟨kf, hkf⟩ := Option.isSome_iff_exists.1 q3
      have hu := intKind_of hkf
      have hagg : (isAgg f.type).run P w = .ok false w := run_agg (by unfold aggT; rw [hu]) w
      have p1 : (part f.type (us' ++ u :: us1).toArray f.offset).run P w = .ok u w := by
        simp only at q1
        simp [part, hagg, q1, ← l1]
      have p2 : (part f.type (vs' ++ v :: vs1).toArray f.offset).run P w = .ok v w := by
        simp only at q1
        simp [part, hagg, q1, ← l2]
      simp only [List.map_cons, hbk] at lx ly
      have key : ∃ k1 n1 n2 r', x = .int k1 n1 ∧ y = .int k1 n2 ∧ eqInts xs ys = some r' ∧ r = (decide (n1 = n2) && r') ∧ fits (fs.map fun f => isBool P f.type) xs = true ∧ fits (fs.map fun f => isBool P f.type) ys = true := by
        cases x <;> simp only [fits, Bool.false_eq_true] at lx
        rename_i k1 n1
        cases y <;> simp only [fits, Bool.false_eq_true] at ly
        rename_i k2 n2
        have ll := (len _ _ lx).trans (len _ _ ly).symm
        cases xs with
        | nil =>
          cases ys with
          | nil =>
            simp only [eqInts] at he
            split at he
            · rename_i hk
              subst hk
              simp only [Option.some.injEq] at he
              exact ⟨k1, n1, n2, true, rfl, rfl, rfl, by simp [he], lx, ly⟩
            · cases he
          | cons _ _ => simp at ll
        | cons _ _ =>
          simp only [eqInts] at he
          split at he
          · rename_i hk
            subst hk
            simp only [Option.map_eq_some_iff] at he
            obtain ⟨r', h1, h2⟩ := he
            exact ⟨k1, n1, n2, r', rfl, rfl, h1, h2.symm, lx, ly⟩
          · cases he
      obtain ⟨k1, n1, n2, r', rfl, rfl, he', rfl, fx, fy⟩ := key
      rw [R_int] at r1 r2
      subst r1; subst r2
      have e1 := run_equalIn_int (P := P) w d f.type k1 kf n1 n2 hu
      have ih := eqFields_ints d fs (i + 1) xs ys us1 vs1 r' w (fun p hp => hf p (by simp [List.zipIdx_cons, hp])) hx hy fx fy he' (us' ++ [.int k1 n1]) (vs' ++ [.int k1 n2]) (by simp [l1]) (by simp [l2])
      simp only [List.append_assoc, List.singleton_append] at ih
      simp only [Op.eqFields, ne_eq, q2, not_false_eq_true, if_true, Sem.run_bind, p1, Result.andThen_ok, p2, e1]
      by_cases hn : n1 = n2
      · subst hn; simpa using ih
      · simp [hn]
    | true =>
      have hu : P.underlying f.type = some .bool := by
        unfold isBool at hbk
        split at hbk
        · assumption
        · cases hbk
      have hagg : (isAgg f.type).run P w = .ok false w := run_agg (by unfold aggT; rw [hu]) w
      have p1 : (part f.type (us' ++ u :: us1).toArray f.offset).run P w = .ok u w := by
        simp only at q1
        simp [part, hagg, q1, ← l1]
      have p2 : (part f.type (vs' ++ v :: vs1).toArray f.offset).run P w = .ok v w := by
        simp only at q1
        simp [part, hagg, q1, ← l2]
      simp only [List.map_cons, hbk] at lx ly
      have key : ∃ n1 n2 r', x = .bool n1 ∧ y = .bool n2 ∧ eqInts xs ys = some r' ∧ r = ((n1 == n2) && r') ∧ fits (fs.map fun f => isBool P f.type) xs = true ∧ fits (fs.map fun f => isBool P f.type) ys = true := by
        cases x <;> simp only [fits, Bool.false_eq_true] at lx
        rename_i n1
        cases y <;> simp only [fits, Bool.false_eq_true] at ly
        rename_i n2
        have ll := (len _ _ lx).trans (len _ _ ly).symm
        cases xs with
        | nil =>
          cases ys with
          | nil =>
            simp only [eqInts, Option.some.injEq] at he
            exact ⟨n1, n2, true, rfl, rfl, rfl, by simp [he], lx, ly⟩
          | cons _ _ => simp at ll
        | cons _ _ =>
          simp only [eqInts, Option.map_eq_some_iff] at he
          obtain ⟨r', h1, h2⟩ := he
          exact ⟨n1, n2, r', rfl, rfl, h1, h2.symm, lx, ly⟩
      obtain ⟨n1, n2, r', rfl, rfl, he', rfl, fx, fy⟩ := key
      simp only [R] at r1 r2
      subst r1; subst r2
      have e1 := run_equalIn_bool (P := P) w d f.type n1 n2 hu
      have ih := eqFields_ints d fs (i + 1) xs ys us1 vs1 r' w (fun p hp => hf p (by simp [List.zipIdx_cons, hp])) hx hy fx fy he' (us' ++ [.bool n1]) (vs' ++ [.bool n2]) (by simp [l1]) (by simp [l2])
      simp only [List.append_assoc, List.singleton_append] at ih
      simp only [Op.eqFields, ne_eq, q2, not_false_eq_true, if_true, Sem.run_bind, p1, Result.andThen_ok, p2, e1]
      cases n1 <;> cases n2 <;> first | (simp; done) | simpa using ih

theorem run_mapM_pure {P : Program} {β γ : Type} (f : β → Sem γ) (g : β → γ) : ∀ (l : List β) (w : World), (∀ x ∈ l, ∀ w, (f x).run P w = .ok (g x) w) → (l.mapM f).run P w = .ok (l.map g) w
  | [], w, _ => by simp
  | x :: l, w, h => by
    simp only [List.mapM_cons, Sem.run_bind, h x (by simp) w, Result.andThen_ok, run_mapM_pure f g l w (fun y hy => h y (by simp [hy])), List.map_cons, Sem.run_pure]
theorem run_mapM_array {P : Program} {β γ : Type} (f : β → Sem γ) (g : β → γ) (l : Array β) (w : World) (h : ∀ x ∈ l.toList, ∀ w, (f x).run P w = .ok (g x) w) : (l.mapM f).run P w = .ok (l.map g) w := by
  rw [Array.mapM_eq_mapM_toList]
  simp only [Sem.run_map, run_mapM_pure f g l.toList w h, Result.andThen_ok]
  congr 1
  apply Array.ext'
  simp
/-- Cells set one behind the other are a row put over those that were there. -/
theorem setFold : ∀ (us : List Value) (k off : Nat) (cells : Array Value), off + k + us.length ≤ cells.size →
    ((us.zipIdx k).foldl (fun cs (p : Value × Nat) => cs.setIfInBounds (off + p.2) p.1) cells).toList = cells.toList.take (off + k) ++ us ++ cells.toList.drop (off + k + us.length)
  | [], k, off, cells, _ => by simp
  | u :: us, k, off, cells, h => by
    simp only [List.length_cons] at h
    simp only [List.zipIdx_cons, List.foldl_cons]
    rw [setFold us (k + 1) off _ (by simp; omega)]
    have hlt : off + k < cells.toList.length := by simp; omega
    have e := list_seg_step cells.toList (off + k) u us (by simp; omega)
    simpa [Array.toList_setIfInBounds, Nat.add_assoc, Nat.add_comm, Nat.add_left_comm] using e
theorem fill_ok {env : Env} {a : Act} (he : EnvOK ρ env a) {place : Nat → Option (Nat × Nat)} : ∀ (ps : List (Nat × Operand)) (cells : List V) (us : List Value) (cs' : List V),
    fillV place cells (ps.map fun p => (p.1, ev env p.2)) = some cs' → RC ρ cells us → ∃ us', Instr.fill place us.toArray (ps.map fun p => (p.1, a.eval p.2)) = some us'.toArray ∧ RC ρ cs' us'
  | [], cells, us, cs', hs, hc => by
    simp only [List.map_nil, fillV, Option.some.injEq] at hs
    subst hs
    exact ⟨us, rfl, hc⟩
  | (i, x) :: ps, cells, us, cs', hs, hc => by
    simp only [List.map_cons, fillV] at hs
    split at hs
    · rename_i off size cs hp hv
      split at hs
      · rename_i hl
        obtain ⟨hl1, hl2⟩ := hl
        have hu := (he.ev x).one hv
        have hsz : (a.eval x).cells.size = size := by rw [← hl1, hu.length]; simp
        have hlen := hc.length
        have hul := hu.length
        simp only [Array.length_toList] at hul
        obtain ⟨us', h1, h2⟩ := fill_ok he ps _ (us.take off ++ (a.eval x).cells.toList ++ us.drop (off + (a.eval x).cells.toList.length)) cs' hs (hc.splice hu off)
        refine ⟨us', ?_, h2⟩
        simp only [List.map_cons, Instr.fill, hp]
        rw [if_neg (by simp only [hsz, ne_eq, not_true_eq_false, false_or, Bool.or_eq_true, decide_eq_true_eq, List.size_toArray]; omega)]
        rw [← h1]
        congr 1
        apply Array.ext'
        have hf := setFold (a.eval x).cells.toList 0 off us.toArray (by simp; omega)
        simp only [Nat.add_zero] at hf
        rw [← Array.foldl_toList, Array.toList_zipIdx]
        simpa using hf
      · cases hs
    · cases hs
theorem repeatCells_length (z : List V) (n : Nat) : (repeatCells z n).length = n * z.length := by
  induction n with
  | zero => simp [repeatCells]
  | succ n ih => simp only [repeatCells, List.length_append, ih, Nat.add_mul, Nat.one_mul]; omega
theorem repeatCells_get (z : List V) : ∀ (n i : Nat), i < n * z.length → (repeatCells z n)[i]? = z[i % z.length]?
  | 0, i, h => by simp at h
  | n + 1, i, h => by
    simp only [repeatCells]
    rcases Nat.lt_or_ge i z.length with hi | hi
    · rw [List.getElem?_append_left hi, Nat.mod_eq_of_lt hi]
    · rw [List.getElem?_append_right hi, repeatCells_get z n (i - z.length) (by rw [Nat.add_mul] at h; omega)]
      congr 1
      rw [Nat.mod_eq_sub_mod hi]
theorem RC_repeat {z : Value} (hz : z.cells.toList.all one = true) (n : Nat) : RC ρ (repeatCells (z.cells.toList.map ofConst) n) ((Array.range (n * z.cells.size)).map (z.cells[· % z.cells.size]!)).toList := by
  have hrc := RC_consts (ρ := ρ) z.cells.toList hz
  refine RC_iff.2 ⟨by simp [repeatCells_length], fun i v u e1 e2 => ?_⟩
  have hi : i < n * z.cells.size := by
    have := (List.getElem?_eq_some_iff.1 e1).1
    rw [repeatCells_length] at this
    simpa using this
  have hpos : 0 < z.cells.size := by
    rcases Nat.eq_zero_or_pos z.cells.size with h0 | h0
    · rw [h0] at hi; simp at hi
    · exact h0
  rw [repeatCells_get _ n i (by simpa using hi)] at e1
  simp only [List.length_map, Array.length_toList] at e1
  have hm : i % z.cells.size < z.cells.size := Nat.mod_lt _ hpos
  have e2' : u = z.cells[i % z.cells.size]! := by
    simp only [Array.toList_map, Array.toList_range, List.getElem?_map, List.getElem?_range hi, Option.map_some, Option.some.injEq] at e2
    exact e2.symm
  refine (RC_iff.1 hrc).2 (i % z.cells.size) v u e1 ?_
  rw [e2', getElem!_pos z.cells _ hm]
  simp
/-- A new block for a value. -/
theorem newAt_ok {at_ : Option Nat} (hr : Rel base ρ h w) (hat : ∀ i, at_ = some i → h.m i = .fresh ∧ i < h.next) {cs : List V} {e : Nat} {β : Type} {k : V → H → Option β} {res : β}
    (hs : newAt h at_ cs e cs.length k = some res) {c : Array Value} {t : TypeId} (hc : RC ρ cs c.toList) :
    ∃ ρ' id h', ρ.le ρ' ∧ Rel base ρ' h' (w.alloc (.cells c t)) ∧ Below base w (w.alloc (.cells c t)) ∧ ρ'.map id cs.length = some (w.heap.size, 0) ∧ k (.hp id cs.length 0) h' = some res := by
  have hl : c.size = cs.length + 0 * e := by have := hc.length; simp at this; omega
  have hc' : RC ρ cs (c.toList.take cs.length) := by rw [List.take_of_length_le (by rw [hc.length]; exact Nat.le_refl _)]; exact hc
  have hb : Below base w (w.alloc (.cells c t)) := (Below.refl base w).alloc hr.hb _
  cases at_ with
  | none =>
    simp only [newAt] at hs
    have := hr.make (id := h.next) (hr.top _ (Nat.le_refl _)) (t := t) hc' hl (h' := h.new cs e) rfl (by simp [H.new]) (by simp [H.new])
    exact ⟨_, h.next, _, this.1, this.2, hb, Ren.with_same _ _ _, hs⟩
  | some i =>
    simp only [newAt] at hs
    obtain ⟨hf, hi⟩ := hat i rfl
    have := hr.make (id := i) hf (t := t) hc' hl (h' := h.put i (.own cs e)) rfl (by simp [H.put]) (by simpa [H.put] using hi)
    exact ⟨_, i, _, this.1, this.2, hb, Ren.with_same _ _ _, hs⟩
theorem V.add_nn (v : V) (n : Nat) : (v.add n).nn = v.nn := by cases v <;> rfl
theorem V.add_mayNil (v : V) (n : Nat) : (v.add n).mayNil = v.mayNil := by cases v <;> rfl
theorem R_add {v : V} {q : Addr} (hq : R ρ v (.pointer (some q))) (n : Nat) : R ρ (v.add n) (.pointer (some (q.add n))) := by
  cases v <;> try (simp [R] at hq; done)
  case undef => simp [V.add, R]
  case hp id g o =>
    simp only [R, Value.pointer.injEq, Option.some.injEq] at hq
    obtain ⟨b, x, h1, rfl⟩ := hq
    simp only [V.add, R]
    exact ⟨b, x, h1, by rw [Addr.add_lit]⟩
  case lp fl cs o =>
    simp only [R, Value.pointer.injEq, Option.some.injEq, reduceCtorEq, and_false, false_or] at hq
    obtain ⟨b, i, us, h1, h2, rfl⟩ := hq
    simp only [V.add, R]
    exact .inr ⟨b, i, us, h1, h2, by rw [Addr.add_lit, Nat.add_assoc]⟩
theorem R_nn {v : V} (hn : v.nn = true) {u : Value} (hu : R ρ v u) : ∃ q, u = .pointer (some q) := by
  cases v <;> simp only [V.nn, Bool.false_eq_true] at hn
  · simp only [R] at hu; obtain ⟨b, x, _, rfl⟩ := hu; exact ⟨_, rfl⟩
  · simp only [R] at hu
    rcases hu with ⟨rfl, _⟩ | ⟨b, i, us, _, _, rfl⟩
    · simp at hn
    · exact ⟨_, rfl⟩

/-- A slice's parts. -/
theorem R_slice {v : V} {l c : Nat} {tl : Bool} {u : Value} (hu : R ρ (.slice v l c tl) u) : ∃ p c', u = .slice p l c' ∧ l ≤ c ∧ c ≤ c' ∧ (tl = false → c' = c) ∧ (p = none → c' = 0) ∧ (v.mayNil = true ∨ p.isSome = v.nn) ∧
      (c ≠ 0 → R ρ v (.pointer p)) ∧ (∀ id g o, v = .hp id g o → tl = true → ∃ b x, ρ.map id g = some (b, x) ∧ c' = c + x) := by simpa only [R] using hu
theorem sliceBound_ok {P : Program} {kd : IntKind} {i : Int} {y : Nat} (h0 : 0 ≤ i) (h1 : i ≤ y) (code : BoundsCode) (w : World) : (Instr.sliceBound (.int kd i) y code).run P w = .ok i.toNat w := by
  simp [Instr.sliceBound, asIntOf, h0, h1]
/-- The bounds of a slice expression, with and without the third one. -/
theorem sliceV_ok {size : Nat} {v : V} {l c : Nat} {tl : Bool} {lo hi mx : Option Operand} {env : Env} {a : Act} (he : EnvOK ρ env a) {β : Type} {k : V → Option β} {res : β} {p : Option Addr} {c' : Nat}
    (hs : sliceV size v l c tl (lo.map (ev env)) (hi.map (ev env)) (mx.map (ev env)) k = some res)
    (hlc : l ≤ c) (hcc : c ≤ c') (htl : tl = false → c' = c) (hp0 : p = none → c' = 0) (hpn : v.mayNil = true ∨ p.isSome = v.nn) (hpr : c ≠ 0 → R ρ v (.pointer p))
    (hsl : ∀ id g o, v = .hp id g o → tl = true → ∃ b x, ρ.map id g = some (b, x) ∧ c' = c + x) (isS : Bool) (w : World) :
    ∃ l' r' m' v', (Instr.sliceBounds isS l c' (lo.map a.eval) (hi.map a.eval) (mx.map a.eval)).run P w = .ok (l', r', m') w ∧
      R ρ v' (.slice (if m' = l' then p else p.map (·.add (l' * size))) (r' - l') (m' - l')) ∧ k v' = some res := by
  have bound : ∀ (x : Option Operand) (d : Nat) (f : Int → Option β), boundOr (x.map (ev env)) d f = some res →
      (x = none ∧ f d = some res) ∨ ∃ y kd n, x = some y ∧ a.eval y = .int kd n ∧ f n = some res := by
    intro x d f hf
    cases x with
    | none => exact .inl ⟨rfl, hf⟩
    | some y =>
      simp only [Option.map_some, boundOr] at hf
      split at hf
      · rename_i hh; cases hh
      · rename_i kd n hh
        have hy := he.ev y
        simp only [Option.some.injEq] at hh
        rw [hh, R_int] at hy
        exact .inr ⟨y, kd, n, rfl, hy, hf⟩
      · cases hf
  have fin : ∀ (ln rn mn : Nat) (tl' : Bool) (cn : Nat), ln ≤ rn → rn ≤ cn → cn ≤ c → (mn = cn + (c' - c) ∧ tl' = tl ∧ cn = c ∨ mn = cn ∧ tl' = false) →
      R ρ (.slice (v.add (ln * size)) (rn - ln) (cn - ln) tl') (.slice (if mn = ln then p else p.map (·.add (ln * size))) (rn - ln) (mn - ln)) := by
    intro ln rn mn tl' cn h1 h2 h3 h4
    simp only [R]
    have hmc : mn ≤ c' := by rcases h4 with ⟨h4, -, -⟩ | ⟨h4, -⟩ <;> omega
    refine ⟨_, _, rfl, by omega, by rcases h4 with ⟨h4, -, -⟩ | ⟨h4, -⟩ <;> omega, fun ht => ?_, fun hp => ?_, ?_, fun hne => ?_, fun id g o hv ht => ?_⟩
    · rcases h4 with ⟨h4, h5, h6⟩ | ⟨h4, -⟩
      · subst h5; have := htl ht; omega
      · omega
    · split at hp
      · have := hp0 hp; omega
      · have : p = none := by cases p <;> simp_all
        have := hp0 this; omega
    · rw [V.add_nn, V.add_mayNil]
      rcases hpn with hpn | hpn
      · exact .inl hpn
      · right
        rw [← hpn]
        split
        · rfl
        · cases p <;> rfl
    · have hc0 : c ≠ 0 := by omega
      have hr := hpr hc0
      have hne' : mn ≠ ln := by rcases h4 with ⟨h4, -, -⟩ | ⟨h4, -⟩ <;> omega
      rw [if_neg hne']
      cases p with
      | none => have := hp0 rfl; omega
      | some q => exact R_add hr _
    · rcases h4 with ⟨h4, h5, h6⟩ | ⟨h4, h5⟩
      · subst h5
        cases v <;> simp only [V.add, reduceCtorEq, V.hp.injEq] at hv
        obtain ⟨rfl, rfl, rfl⟩ := hv
        obtain ⟨b, x, k1, k2⟩ := hsl _ _ _ rfl ht
        exact ⟨b, x, k1, by omega⟩
      · subst h5; cases ht
  cases mx with
  | none =>
    simp only [Option.map_none, sliceV] at hs
    rcases bound lo 0 _ hs with ⟨e1, h1s⟩ | ⟨yl, kl, nl, e1, el, h1s⟩ <;> subst e1
    · rcases bound hi l _ h1s with ⟨e2, h2s⟩ | ⟨yr, kr, nr, e2, er, h2s⟩ <;> subst e2
      · obtain ⟨⟨g1, g2, g3⟩, h3s⟩ := guardO_some h2s
        refine ⟨0, l, c', _, by simp [Instr.sliceBounds], ?_, h3s⟩
        exact fin 0 l c' tl c (by omega) hlc (Nat.le_refl _) (.inl ⟨by omega, rfl, rfl⟩)
      · obtain ⟨⟨g1, g2, g3⟩, h3s⟩ := guardO_some h2s
        refine ⟨0, nr.toNat, c', _, ?_, ?_, h3s⟩
        · simp [Instr.sliceBounds, er, sliceBound_ok (P := P) (kd := kr) (i := nr) (y := c') (by omega) (by omega)]
        · exact fin 0 nr.toNat c' tl c (by omega) (by omega) (Nat.le_refl _) (.inl ⟨by omega, rfl, rfl⟩)
    · rcases bound hi l _ h1s with ⟨e2, h2s⟩ | ⟨yr, kr, nr, e2, er, h2s⟩ <;> subst e2
      · obtain ⟨⟨g1, g2, g3⟩, h3s⟩ := guardO_some h2s
        refine ⟨nl.toNat, l, c', _, ?_, ?_, h3s⟩
        · simp [Instr.sliceBounds, el, sliceBound_ok (P := P) (kd := kl) (i := nl) (y := l) (by omega) (by omega)]
        · exact fin nl.toNat l c' tl c (by omega) hlc (Nat.le_refl _) (.inl ⟨by omega, rfl, rfl⟩)
      · obtain ⟨⟨g1, g2, g3⟩, h3s⟩ := guardO_some h2s
        refine ⟨nl.toNat, nr.toNat, c', _, ?_, ?_, h3s⟩
        · simp [Instr.sliceBounds, el, er, sliceBound_ok (P := P) (kd := kr) (i := nr) (y := c') (by omega) (by omega), sliceBound_ok (P := P) (kd := kl) (i := nl) (y := nr.toNat) (by omega) (by omega)]
        · exact fin nl.toNat nr.toNat c' tl c (by omega) (by omega) (Nat.le_refl _) (.inl ⟨by omega, rfl, rfl⟩)
  | some m =>
    simp only [Option.map_some, sliceV] at hs
    cases hi with
    | none => simp at hs
    | some yr =>
      simp only [Option.map_some] at hs
      have b2 : ∀ (x : Operand) (f : Int → Option β), boundOr (some (ev env x)) 0 f = some res → ∃ kd n, a.eval x = .int kd n ∧ f n = some res := by
        intro x f hf
        rcases bound (some x) 0 f hf with ⟨h0, _⟩ | ⟨y, kd, n, h0, h1, h2⟩
        · cases h0
        · cases h0; exact ⟨kd, n, h1, h2⟩
      rcases bound lo 0 _ hs with ⟨e1, h1s⟩ | ⟨yl, kl, nl, e1, el, h1s⟩ <;> subst e1
      · obtain ⟨kr, nr, er, h2s⟩ := b2 _ _ h1s
        obtain ⟨km, nm, em, h3s⟩ := b2 _ _ h2s
        obtain ⟨⟨g1, g2, g3, g4⟩, h4s⟩ := guardO_some h3s
        refine ⟨0, nr.toNat, nm.toNat, _, ?_, ?_, h4s⟩
        · simp [Instr.sliceBounds, er, em, sliceBound_ok (P := P) (kd := km) (i := nm) (y := c') (by omega) (by omega), sliceBound_ok (P := P) (kd := kr) (i := nr) (y := nm.toNat) (by omega) (by omega)]
        · exact fin 0 nr.toNat nm.toNat false nm.toNat (by omega) (by omega) (by omega) (.inr ⟨rfl, rfl⟩)
      · obtain ⟨kr, nr, er, h2s⟩ := b2 _ _ h1s
        obtain ⟨km, nm, em, h3s⟩ := b2 _ _ h2s
        obtain ⟨⟨g1, g2, g3, g4⟩, h4s⟩ := guardO_some h3s
        refine ⟨nl.toNat, nr.toNat, nm.toNat, _, ?_, ?_, h4s⟩
        · simp [Instr.sliceBounds, el, er, em, sliceBound_ok (P := P) (kd := km) (i := nm) (y := c') (by omega) (by omega), sliceBound_ok (P := P) (kd := kr) (i := nr) (y := nm.toNat) (by omega) (by omega),
            sliceBound_ok (P := P) (kd := kl) (i := nl) (y := nr.toNat) (by omega) (by omega)]
        · exact fin nl.toNat nr.toNat nm.toNat false nm.toNat (by omega) (by omega) (by omega) (.inr ⟨rfl, rfl⟩)
end ops
end Go.Proofs.YtjkjcnadgpndoaaGreat.Ev
