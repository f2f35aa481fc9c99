/- From a law's arguments to abstract values, and from the evaluator's answer to the given row. Conditions: those of the row. -/
import Derived.Test.YtjkjcnadgpndoaaGreatEvEntry
import Derived.ProofKit
import Derived.DataReads
namespace Go.Proofs.YtjkjcnadgpndoaaGreat.Ev
open Go Go.RowKit
set_option linter.unusedVariables false
set_option linter.unusedSimpArgs false

/-- The shape of one cell of an argument. -/
inductive Sh where
  | int (k : IntKind)
  | bool
  | str
  | slice (l : List Sh)
/-- The shapes of a struct's fields, one behind the other. -/
def fieldsSh (P : Program) (sh : TypeId → Option (List Sh)) : List Field → Nat → Option (List Sh)
  | [], _ => some []
  | f :: fs, off => if f.offset = off then (sh f.type).bind fun l => if P.cellsOf f.type = l.length then (fieldsSh P sh fs (off + l.length)).map (l ++ ·) else none else none
def shapes (P : Program) : Nat → TypeId → Option (List Sh)
  | 0, _ => none
  | n + 1, t => match P.underlying t with
    | some .bool => some [.bool]
    | some (.int k) => some [.int k]
    | some .string => some [.str]
    | some (.slice e) => (shapes P n e).bind fun l => if 0 < l.length ∧ P.cellsOf e = l.length then some [.slice l] else none
    | some (.struct fs) => (fieldsSh P (shapes P n) fs.toList 0).bind fun l => if P.cellsOf t = l.length then some l else none
    | some (.array m e) => (shapes P n e).bind fun l => if P.cellsOf e = l.length ∧ P.cellsOf t = m * l.length then some (List.replicate m l).flatten else none
    | _ => none
/-- A cell of a shape. -/
inductive Dat : Sh → V → Prop
  | int (k : IntKind) (n : Int) (h : (Lit.int k n).wf = true) : Dat (.int k) (.int k n)
  | bool (b : Bool) : Dat .bool (.bool b)
  | str (s : ByteArray) (h : s.size ≤ maxLen) : Dat .str (.str s)
  | nil (l : List Sh) : Dat (.slice l) (.slice .nil 0 0 false)
  | slice (l : List Sh) (cs : List V) (n c : Nat) (hp : 0 < l.length) (hc : n ≤ c) (hm : c ≤ maxLen) (hl : cs.length = n * l.length)
      (h : ∀ (i j : Nat) s v, i < n → l[j]? = some s → cs[i * l.length + j]? = some v → Dat s v) : Dat (.slice l) (.slice (.lp false cs 0) n c false)
def Dats (l : List Sh) (vs : List V) : Prop := vs.length = l.length ∧ ∀ (j : Nat) s v, l[j]? = some s → vs[j]? = some v → Dat s v
theorem Dats.append {l l' : List Sh} {vs vs' : List V} (h : Dats l vs) (h' : Dats l' vs') : Dats (l ++ l') (vs ++ vs') := by
  refine ⟨by simp [h.1, h'.1], fun j s v hs hv => ?_⟩
  rcases Nat.lt_or_ge j l.length with hj | hj
  · rw [List.getElem?_append_left hj] at hs
    rw [List.getElem?_append_left (by rw [h.1]; exact hj)] at hv
    exact h.2 j s v hs hv
  · rw [List.getElem?_append_right hj] at hs
    rw [List.getElem?_append_right (by rw [h.1]; exact hj), h.1] at hv
    exact h'.2 _ s v hs hv
theorem Dats.nil : Dats [] [] := ⟨rfl, by simp⟩
theorem Dats.one {s : Sh} {v : V} (h : Dat s v) : Dats [s] [v] := by
  refine ⟨rfl, fun j s' v' h1 h2 => ?_⟩
  cases j with
  | zero => simp at h1 h2; subst h1; subst h2; exact h
  | succ j => simp at h1

/-- All that lies in the heap at the start. -/
def Ren.all (W : World) : Ren := ⟨fun _ _ => none, fun f b i us => f = false ∧ ∃ c t fr, W.heap[b]? = some (.cells c t fr) ∧ ∀ (j : Nat) u, us[j]? = some u → c[i + j]? = some u, fun _ => False, fun _ => none⟩
theorem Rel.all (W : World) (hg : GL W.heap.size W) : Rel W.heap.size (Ren.all W) H.empty W where
  gl := hg
  hb := Nat.le_refl _
  used := fun id g x h => by cases h
  own := fun id cs e h => by cases h
  gens := fun id g x cs e h => by cases h
  top := fun id _ => rfl
  sep := fun id id' cs cs' e e' b x b' x' _ h => by cases h
  fzok := fun f b i us h => h.2
  fznew := fun b i us h => by cases h.1
  fzsep := fun f b i us id cs e x _ h => by cases h
  objs := ⟨fun id s hm hs => (by subst hm; cases hs), fun id id' s s' b b' _ hm hs => (by subst hm; cases hs), fun D hD => hD.elim, fun b K hK => by cases hK⟩

section abs
variable {Hh : Type} {enc : TypeId × Value → Hh} {P : Program} {W : World} {base : Nat} {held : Bool}
theorem RC_append {ρ : Ren} {vs vs' : List V} {us us' : List Value} (h : RC ρ vs us) (h' : RC ρ vs' us') : RC ρ (vs ++ vs') (us ++ us') := by
  refine RC_iff.2 ⟨by simp [h.length, h'.length], fun i v u hv hu => ?_⟩
  rcases Nat.lt_or_ge i vs.length with hi | hi
  · rw [List.getElem?_append_left hi] at hv
    rw [List.getElem?_append_left (by rw [← h.length]; exact hi)] at hu
    exact (RC_iff.1 h).2 i v u hv hu
  · rw [List.getElem?_append_right hi] at hv
    rw [List.getElem?_append_right (by rw [← h.length]; exact hi), ← h.length] at hu
    exact (RC_iff.1 h').2 _ v u hv hu
theorem RC_one {ρ : Ren} {v : V} {u : Value} (h1 : u.oneCell' = true) (h2 : R ρ v u) : RC ρ [v] [u] := by
  simp only [RC]
  exact ⟨u, [], rfl, h1, h2, rfl⟩
/-- The cells of an argument as abstract values. -/
theorem abs_cells : ∀ (fuel n : Nat) (t : TypeId) (cs : List Value) (x : DataW Hh × List MemPlace) (l : List Sh), DataW.trod enc P W base (fun _ => true) held fuel t cs = some x → shapes P n t = some l →
    ∃ vs, RC (Ren.all W) vs cs ∧ Dats l vs
  | 0, n, t, cs, x, l, h, _ => by simp [DataW.trod] at h
  | fuel + 1, 0, t, cs, x, l, h, hs => by simp [shapes] at hs
  | fuel + 1, n + 1, t, cs, x, l, h, hs => by
    unfold DataW.trod at h
    unfold shapes at hs
    cases hu : P.underlying t with
    | none => rw [hu] at hs; simp at hs
    | some td =>
      rw [hu] at hs h
      cases td <;> simp only [reduceCtorEq] at hs
      case bool =>
        simp only [Option.some.injEq] at hs
        subst hs
        split at h <;> simp_all
        rename_i b
        exact ⟨[.bool b], RC_one rfl (by simp [R]), Dats.one (.bool b)⟩
      case int k =>
        simp only [Option.some.injEq] at hs
        subst hs
        split at h <;> simp only [reduceCtorEq, Option.some.injEq, TypeDesc.int.injEq] at *
        rename_i k1 k2 n' hk
        subst hk
        split at h
        · rename_i hc
          obtain ⟨rfl, hw⟩ := hc
          exact ⟨[.int _ n'], RC_one rfl (by simp [R]), Dats.one (.int _ n' hw)⟩
        · cases h
      case string =>
        simp only [Option.some.injEq] at hs
        subst hs
        split at h <;> simp_all
        rename_i s
        exact ⟨[.str s], RC_one rfl (by simp [R]), Dats.one (.str s h.1)⟩
      case slice e =>
        simp only [Option.bind_eq_some_iff] at hs
        obtain ⟨le, hle, hs⟩ := hs
        split at hs
        · rename_i hcond
          obtain ⟨hpos, hw⟩ := hcond
          simp only [Option.some.injEq] at hs
          subst hs
          split at h <;> simp only [reduceCtorEq, Option.some.injEq, TypeDesc.slice.injEq] at *
          · exact ⟨[.slice .nil 0 0 false], RC_one rfl (by simp only [R]; exact ⟨none, 0, rfl, Nat.le_refl _, Nat.le_refl _, fun _ => rfl, fun _ => rfl, .inr rfl, fun h => absurd rfl h, fun _ _ _ h => by cases h⟩), Dats.one (.nil le)⟩
          · rename_i e' a len cap he
            subst he
            split at h
            · rename_i hc
              obtain ⟨hb, hlc, hcm⟩ := hc
              simp only [if_true, Option.bind_eq_some_iff, Option.map_eq_some_iff] at h
              obtain ⟨elems, helems, rest, hrest, _⟩ := h
              -- each element
              have each : ∀ i, i < cap → ∃ us, us.length = le.length ∧ (∀ j, j < le.length → W.cell? ((a.add (i * le.length)).add j) = us[j]?) ∧ ∃ vs, RC (Ren.all W) vs us ∧ Dats le vs := fun i hi => by
                have hel : ∃ y, ((W.cells? base (a.add (i * P.cellsOf e)) (P.cellsOf e)).bind (DataW.trod enc P W base (fun _ => true) held fuel e)) = some y := by
                  rcases Nat.lt_or_ge i len with hlt | hge
                  · have hl := mapM_some_length helems
                    simp only [List.length_range] at hl
                    have hi' : i < elems.length := by omega
                    refine ⟨elems[i], ?_⟩
                    have := mapM_some_get helems i i (by simp [hlt])
                    rw [List.getElem?_eq_getElem hi'] at this
                    exact this
                  · have hl := mapM_some_length hrest
                    simp only [List.length_range] at hl
                    have hi' : i - len < rest.length := by omega
                    refine ⟨rest[i - len], ?_⟩
                    have := mapM_some_get hrest (i - len) (i - len) (by rw [List.getElem?_range]; omega)
                    rw [show len + (i - len) = i by omega] at this
                    rw [List.getElem?_eq_getElem hi'] at this
                    exact this
                obtain ⟨y, hy⟩ := hel
                simp only [Option.bind_eq_some_iff] at hy
                obtain ⟨us, hus, hy⟩ := hy
                obtain ⟨_, h2, h3⟩ := World.cells?_some hus
                obtain ⟨vs, k1, k2⟩ := abs_cells fuel n e us y le hy hle
                rw [hw] at h2 h3
                exact ⟨us, h2, h3, vs, k1, k2⟩
              -- the block
              have hblock : 0 < cap → ∃ c t fr, W.heap[a.block]? = some (.cells c t fr) ∧ a.spot = none := fun hcap => by
                obtain ⟨us, h2, h3, _⟩ := each 0 hcap
                have := h3 0 hpos
                have hu0 : us[0]? = some us[0] := List.getElem?_eq_getElem (by omega)
                rw [hu0] at this
                simp only [Nat.zero_mul, Addr.add, if_true] at this
                unfold World.cell? at this
                split at this
                · rename_i c t fr hh
                  split at this
                  · cases this
                  · rename_i hsn
                    exact ⟨c, t, fr, hh, by simpa using hsn⟩
                · cases this
              have hcell : ∀ c t fr, W.heap[a.block]? = some (.cells c t fr) → a.spot = none → ∀ m, W.cell? (a.add m) = c[a.off + m]? := fun c t fr hh hsn m => by
                unfold World.cell? Addr.add
                by_cases hm : m = 0
                · subst hm; simp [hh, hsn]
                · simp [hm, hh]
              have hrow : ∀ m, m ≤ cap → ∃ vs us, RC (Ren.all W) vs us ∧ us.length = m * le.length ∧ (∀ (j : Nat) u, us[j]? = some u → W.cell? (a.add j) = some u) ∧
                  ∀ (i j : Nat) s v, i < m → le[j]? = some s → vs[i * le.length + j]? = some v → Dat s v := fun m => by
                induction m with
                | zero => intro _; exact ⟨[], [], RC_nil, by simp, by simp, by simp⟩
                | succ m ih =>
                  intro hm
                  obtain ⟨vs, us, r1, r2, r3, r4⟩ := ih (by omega)
                  obtain ⟨us', h2, h3, vs', k1, k2⟩ := each m (by omega)
                  have hvl : vs.length = m * le.length := by rw [r1.length, r2]
                  refine ⟨vs ++ vs', us ++ us', RC_append r1 k1, by simp [r2, h2, Nat.succ_mul], fun j u hj => ?_, fun i j s v hi hs hv => ?_⟩
                  · rcases Nat.lt_or_ge j us.length with hlt | hge
                    · rw [List.getElem?_append_left hlt] at hj
                      exact r3 j u hj
                    · rw [List.getElem?_append_right hge] at hj
                      have hlt2 : j - us.length < us'.length := (List.getElem?_eq_some_iff.1 hj).1
                      have := h3 (j - us.length) (by omega)
                      rw [hj] at this
                      rw [← this]
                      congr 1
                      rw [r2] at hge ⊢
                      unfold Addr.add
                      by_cases hz : m * le.length = 0
                      · simp [hz]
                      · by_cases hz2 : j - m * le.length = 0
                        · have : j ≠ 0 := by omega
                          simp [hz, hz2, this]
                          omega
                        · have : j ≠ 0 := by omega
                          simp [hz, hz2, this]
                          omega
                  · have hjl : j < le.length := (List.getElem?_eq_some_iff.1 hs).1
                    rcases Nat.lt_or_ge i m with him | him
                    · have : i * le.length + j < vs.length := by
                        rw [hvl]
                        calc i * le.length + j < i * le.length + le.length := by omega
                          _ = (i + 1) * le.length := by rw [Nat.succ_mul]
                          _ ≤ m * le.length := Nat.mul_le_mul_right _ him
                      rw [List.getElem?_append_left this] at hv
                      exact r4 i j s v him hs hv
                    · have : i = m := by omega
                      subst this
                      rw [List.getElem?_append_right (by rw [hvl]; omega), hvl, show i * le.length + j - i * le.length = j by omega] at hv
                      exact k2.2 j s v hs hv
              obtain ⟨vs, us, r1, r2, r3, r4⟩ := hrow len hlc
              refine ⟨[.slice (.lp false vs 0) len cap false], RC_one rfl ?_, Dats.one (.slice le vs len cap hpos hlc hcm (by rw [r1.length, r2]) r4)⟩
              simp only [R]
              refine ⟨some a, cap, rfl, hlc, Nat.le_refl _, fun _ => rfl, fun h => (by cases h), (by cases vs <;> simp [V.mayNil, V.nn]), fun hcap => ?_, fun _ _ _ h => (by cases h)⟩
              obtain ⟨c, t, fr, hh, hsn⟩ := hblock (by omega)
              refine .inr ⟨a.block, a.off, us, ?_, r1, ?_⟩
              · by_cases hv : vs = []
                · exact .inl hv
                · refine .inr ⟨rfl, c, t, fr, hh, fun j u hj => ?_⟩
                  rw [← hcell c t fr hh hsn j]
                  exact r3 j u hj
              · obtain ⟨b, o, s⟩ := a
                simp only at hsn
                subst hsn
                rfl
            · cases h
        · cases hs
      case struct fs =>
        simp only [Option.bind_eq_some_iff] at hs
        obtain ⟨l', hl', hs⟩ := hs
        split at hs
        · rename_i hlen
          simp only [Option.some.injEq] at hs
          subst hs
          dsimp only at h
          split at h
          · rename_i hcl
            simp only [Option.map_eq_some_iff] at h
            obtain ⟨xs, hxs, _⟩ := h
            have key : ∀ (fs : List Field) (off : Nat) (l : List Sh) (xs : List (DataW Hh × List MemPlace)), (fs.mapM fun f => DataW.trod enc P W base (fun _ => true) held fuel f.type ((cs.drop f.offset).take (P.cellsOf f.type))) = some xs →
                fieldsSh P (shapes P n) fs off = some l → off + l.length = cs.length → ∃ vs, RC (Ren.all W) vs (cs.drop off) ∧ Dats l vs := by
              intro fs
              induction fs with
              | nil =>
                intro off l xs _ hf hl
                simp only [fieldsSh, Option.some.injEq] at hf
                subst hf
                refine ⟨[], ?_, Dats.nil⟩
                rw [List.drop_eq_nil_of_le (by simp at hl; omega)]
                exact RC_nil
              | cons f fs ih =>
                intro off l xs hm hf hl
                simp only [fieldsSh] at hf
                split at hf
                · rename_i hoff
                  simp only [Option.bind_eq_some_iff] at hf
                  obtain ⟨l1, hl1, hf⟩ := hf
                  split at hf
                  · rename_i hcf
                    simp only [Option.map_eq_some_iff] at hf
                    obtain ⟨l2, hl2, rfl⟩ := hf
                    simp only [List.mapM_cons, Option.bind_eq_bind, Option.bind_eq_some_iff] at hm
                    obtain ⟨y, hy, ys, hys, _⟩ := hm
                    obtain ⟨vs, k1, k2⟩ := ih (off + l1.length) l2 ys hys hl2 (by simp at hl; omega)
                    obtain ⟨vs', k3, k4⟩ := abs_cells fuel n f.type _ y l1 hy hl1
                    rw [hoff, hcf] at k3
                    refine ⟨vs' ++ vs, ?_, k4.append k2⟩
                    have := RC_append k3 k1
                    rw [← List.drop_drop, List.take_append_drop] at this
                    exact this
                  · cases hf
                · cases hf
            obtain ⟨vs, k1, k2⟩ := key fs.toList 0 l' xs hxs hl' (by omega)
            exact ⟨vs, by simpa using k1, k2⟩
          · cases h
        · cases hs
      case array m e =>
        simp only [Option.bind_eq_some_iff] at hs
        obtain ⟨le, hle, hs⟩ := hs
        split at hs
        · rename_i hcond
          obtain ⟨hw, hlen⟩ := hcond
          simp only [Option.some.injEq] at hs
          subst hs
          dsimp only at h
          split at h
          · rename_i hcl
            simp only [Option.map_eq_some_iff] at h
            obtain ⟨xs, hxs, _⟩ := h
            have hrow : ∀ k, k ≤ m → ∃ vs, RC (Ren.all W) vs (cs.take (k * le.length)) ∧ Dats (List.replicate k le).flatten vs := fun k => by
              induction k with
              | zero => intro _; exact ⟨[], by simp [RC], by simpa using Dats.nil⟩
              | succ k ih =>
                intro hk
                obtain ⟨vs, k1, k2⟩ := ih (by omega)
                have hl := mapM_some_length hxs
                simp only [List.length_range] at hl
                have := mapM_some_get hxs k k (by rw [List.getElem?_range]; omega)
                have hk' : k < xs.length := by omega
                rw [List.getElem?_eq_getElem hk'] at this
                obtain ⟨vs', k3, k4⟩ := abs_cells fuel n e _ _ le this hle
                rw [hw] at k3
                refine ⟨vs ++ vs', ?_, ?_⟩
                · have := RC_append k1 k3
                  rw [show (k + 1) * le.length = k * le.length + le.length by rw [Nat.succ_mul], List.take_add]
                  exact this
                · rw [List.replicate_succ', List.flatten_append]
                  simpa using k2.append (by simpa using k4)
            obtain ⟨vs, k1, k2⟩ := hrow m (Nat.le_refl _)
            refine ⟨vs, ?_, k2⟩
            rw [List.take_of_length_le (by omega)] at k1
            exact k1
          · cases h
        · cases hs
end abs

/-! ### The row -/

/-- An argument of a type. -/
def ArgOK (P : Program) (n : Nat) (t : TypeId) (v : V) : Prop :=
  ∃ l, shapes P n t = some l ∧ match aggT P t with
    | some true => ∃ cs, v = .agg cs ∧ Dats l cs
    | some false => ∃ s, l = [s] ∧ Dat s v
    | none => False
def Args (P : Program) (n : Nat) : List TypeId → List V → Prop
  | [], vs => vs = []
  | t :: ts, vs => ∃ v vs', vs = v :: vs' ∧ ArgOK P n t v ∧ Args P n ts vs'
/-! ### Arguments by their elements -/

mutual
def Sh.lf : Sh → Leaf
  | .int k => .int k
  | .bool => .bool
  | .str => .str
  | .slice l => .row (Sh.lfs l)
def Sh.lfs : List Sh → List Leaf
  | [] => []
  | s :: l => s.lf :: Sh.lfs l
end
theorem Sh.lfs_length : ∀ l, (Sh.lfs l).length = l.length
  | [] => rfl
  | _ :: l => by simp [Sh.lfs, Sh.lfs_length l]
mutual
/-- The numbers fit their types, and nothing is longer than a memory. -/
def Leaf.ok : (l : Leaf) → l.C → Prop
  | .int k, n => (Lit.int k n).wf = true
  | .str, s => s.size ≤ maxLen
  | .row ls, xs => xs.length ≤ maxLen ∧ ∀ x ∈ xs, LT.ok ls x
  | .bool, _ | .ptr, _ | .slice, _ | .map, _ | .dyn, _ | .tok, _ => True
def LT.ok : (ls : List Leaf) → LT ls → Prop
  | [], _ => True
  | [l], x => l.ok x
  | l :: l' :: ls, x => l.ok x.1 ∧ LT.ok (l' :: ls) x.2
end
def Ty.ok : (t : Ty) → t.C → Prop
  | .leaf l, x => l.ok x
  | .agg ls, x => LT.ok ls x
def TT.ok : (ts : List Ty) → TT ts → Prop
  | [], _ => True
  | [t], x => t.ok x
  | t :: t' :: ts, x => t.ok x.1 ∧ TT.ok (t' :: ts) x.2
theorem chunks_get (w : Nat) : ∀ (n : Nat) (cs : List V) (i : Nat), i < n → (chunks w n cs)[i]? = some ((cs.drop (i * w)).take w)
  | 0, _, _, h => by omega
  | n + 1, cs, 0, _ => by simp [chunks]
  | n + 1, cs, i + 1, h => by
    simp only [chunks, List.getElem?_cons_succ]
    rw [chunks_get w n _ i (by omega), List.drop_drop, Nat.add_mul, Nat.one_mul, Nat.add_comm w]
theorem chunks_length (w : Nat) : ∀ (n : Nat) (cs : List V), (chunks w n cs).length = n
  | 0, _ => rfl
  | n + 1, cs => by simp [chunks, chunks_length w n]
theorem mapO_all {α β : Type} {f : α → Option β} {p : β → Prop} : ∀ {vs : List α}, (∀ v ∈ vs, ∃ x, f v = some x ∧ p x) → ∃ xs, mapO f vs = some xs ∧ (∀ x ∈ xs, p x) ∧ xs.length = vs.length
  | [], _ => ⟨[], rfl, by simp, rfl⟩
  | v :: vs, h => by
    obtain ⟨x, h1, h2⟩ := h v (by simp)
    obtain ⟨xs, h3, h4, h5⟩ := mapO_all (vs := vs) fun v hv => h v (by simp [hv])
    exact ⟨x :: xs, by simp [mapO, h1, h3], by simpa using ⟨h2, h4⟩, by simp [h5]⟩
mutual
theorem Dat.read : ∀ (s : Sh) (v : V), Dat s v → ∃ x : s.lf.C, rdLeaf true H.empty s.lf v = some x ∧ s.lf.ok x
  | .int k, v, h => by
    cases h with
    | int k n h => exact ⟨n, by simp [Sh.lf, rdLeaf], by simpa [Sh.lf, Leaf.ok] using h⟩
  | .bool, v, h => by
    cases h with
    | bool b => exact ⟨b, by simp [Sh.lf, rdLeaf], trivial⟩
  | .str, v, h => by
    cases h with
    | str s h => exact ⟨s, by simp [Sh.lf, rdLeaf], by simpa [Sh.lf, Leaf.ok] using h⟩
  | .slice l, v, h => by
    cases h with
    | nil => exact ⟨([] : List (LT (Sh.lfs l))), by simp [Sh.lf, rdLeaf], by simp [Sh.lf, Leaf.ok, maxLen]⟩
    | slice l cs n c hp hc hm hl h =>
      by_cases hn : n = 0
      · subst hn
        exact ⟨([] : List (LT (Sh.lfs l))), by simp [Sh.lf, rdLeaf], by simp [Sh.lf, Leaf.ok, maxLen]⟩
      · · have hpos : 0 < n * l.length := Nat.mul_pos (by omega) (by omega)
          obtain ⟨xs, h1, h2, h3⟩ := mapO_all (f := fun c => rdLT true H.empty (Sh.lfs l) c) (p := LT.ok (Sh.lfs l)) (vs := chunks l.length n cs) fun c hc => by
            obtain ⟨i, hi⟩ := List.getElem?_of_mem hc
            have hin : i < n := by
              have := (List.getElem?_eq_some_iff.1 hi).1
              rwa [chunks_length] at this
            rw [chunks_get _ _ _ _ hin] at hi
            cases hi
            have hle : i * l.length + l.length ≤ cs.length := by
              rw [hl]
              calc i * l.length + l.length = (i + 1) * l.length := by rw [Nat.succ_mul]
                _ ≤ n * l.length := Nat.mul_le_mul_right _ hin
            refine Dats.read l _ ⟨by rw [List.length_take, List.length_drop]; omega, fun j s v hs hv => ?_⟩
            rw [List.getElem?_take] at hv
            split at hv
            · rw [List.getElem?_drop] at hv
              exact h i j s v hin hs hv
            · cases hv
          refine ⟨xs, ?_, ?_⟩
          · simp only [Sh.lf, rdLeaf, if_neg hn, V.readable, Bool.true_or, cond_true, Sh.lfs_length, H.rds, H.from, List.drop_zero, Option.bind_some]
            rw [if_pos ⟨by omega, by omega⟩, List.take_of_length_le (by omega)]
            exact h1
          · simp only [Sh.lf, Leaf.ok]
            exact ⟨by rw [h3, chunks_length]; omega, h2⟩
theorem Dats.read : ∀ (l : List Sh) (vs : List V), Dats l vs → ∃ x : LT (Sh.lfs l), rdLT true H.empty (Sh.lfs l) vs = some x ∧ LT.ok (Sh.lfs l) x
  | [], vs, h => by
    have : vs = [] := List.eq_nil_of_length_eq_zero h.1
    subst this
    exact ⟨(), by simp [Sh.lfs, rdLT], by simp [Sh.lfs, LT.ok]⟩
  | [s], vs, h => by
    obtain ⟨h1, h2⟩ := h
    cases vs with
    | nil => simp at h1
    | cons v vs =>
      have : vs = [] := List.eq_nil_of_length_eq_zero (by simpa using h1)
      subst this
      obtain ⟨x, k1, k2⟩ := Dat.read s v (h2 0 s v rfl rfl)
      exact ⟨x, by simpa [Sh.lfs, rdLT] using k1, by simpa [Sh.lfs, LT.ok] using k2⟩
  | s :: s' :: l, vs, h => by
    obtain ⟨h1, h2⟩ := h
    cases vs with
    | nil => simp at h1
    | cons v vs =>
      obtain ⟨x, k1, k2⟩ := Dat.read s v (h2 0 s v rfl rfl)
      obtain ⟨y, k3, k4⟩ := Dats.read (s' :: l) vs ⟨by simpa using h1, fun j t u e1 e2 => h2 (j + 1) t u (by simpa using e1) (by simpa using e2)⟩
      exact ⟨(x, y), by simp only [Sh.lfs, rdLT, k1, Option.bind_some]; simp only [Sh.lfs] at k3; rw [k3]; rfl, by simp only [Sh.lfs, LT.ok]; exact ⟨k2, by simpa only [Sh.lfs] using k4⟩⟩
end
section row
open Go.ChangeShapes Go.WideShapes
variable {Hh : Type} {enc : TypeId × Value → Hh} {P : Program} {W : World}
theorem not_agg {t : TypeId} {base : Nat} {r : Reach} {cs : Array Value} (h : Cell.okWide P W r base t (.agg cs)) : False := by
  unfold Cell.okWide at h
  split at h <;> simp_all
  unfold Cell.ok at h
  split at h <;> simp_all
theorem abs_arg {n : Nat} {t : TypeId} {u : Value} {d : DataW Hh} {ps : List MemPlace} {base : Nat} {r : Reach} (h : DataW.Trod enc P W 0 (fun _ => true) true t u d ps) (hok : Value.okWide P W r base t u)
    (hs : (shapes P n t).isSome = true) : ∃ v, R (Ren.all W) v u ∧ ArgOK P n t v := by
  obtain ⟨l, hl⟩ := Option.isSome_iff_exists.1 hs
  obtain ⟨fuel, hf⟩ := h
  obtain ⟨vs, h1, h2⟩ := abs_cells fuel n t _ _ l hf hl
  unfold ArgOK
  unfold Value.okWide at hok
  unfold aggT
  cases n with
  | zero => simp [shapes] at hl
  | succ n =>
    have hl' := hl
    unfold shapes at hl
    cases hu : P.underlying t with
    | none => rw [hu] at hl; simp at hl
    | some td =>
      rw [hu] at hok hl
      have one : ∀ s, l = [s] → Cell.okWide P W r base t u → ∃ v, R (Ren.all W) v u ∧ ∃ s, l = [s] ∧ Dat s v := fun s hl hok => by
        subst hl
        obtain ⟨g1, g2⟩ := h2
        have hu' : u.cells.toList = [u] := by
          cases u <;> try rfl
          exact (not_agg hok).elim
        rw [hu'] at h1
        cases vs with
        | nil => simp at g1
        | cons v vs =>
          simp only [RC] at h1
          obtain ⟨u', us', e, _, hr, _⟩ := h1
          simp only [List.cons.injEq] at e
          obtain ⟨rfl, _⟩ := e
          exact ⟨v, hr, s, rfl, g2 0 s v rfl rfl⟩
      have aggs : (∃ cs, u = .agg cs ∧ cs.size = P.cellsOf t ∧ Row.okWide P W r base t cs) → ∃ v, R (Ren.all W) v u ∧ ∃ cs, v = .agg cs ∧ Dats l cs := fun ⟨cs, e, _⟩ => by
        subst e
        exact ⟨.agg vs, by simp only [R]; exact ⟨cs.toList, rfl, h1⟩, vs, rfl, h2⟩
      cases td <;> simp only [reduceCtorEq] at hl
      case bool => obtain ⟨v, k1, k2⟩ := one _ (Option.some.inj hl).symm hok; exact ⟨v, k1, l, hl', k2⟩
      case int k => obtain ⟨v, k1, k2⟩ := one _ (Option.some.inj hl).symm hok; exact ⟨v, k1, l, hl', k2⟩
      case string => obtain ⟨v, k1, k2⟩ := one _ (Option.some.inj hl).symm hok; exact ⟨v, k1, l, hl', k2⟩
      case slice e =>
        simp only [Option.bind_eq_some_iff] at hl
        obtain ⟨l', _, hl⟩ := hl
        split at hl
        · obtain ⟨v, k1, k2⟩ := one _ (Option.some.inj hl).symm hok; exact ⟨v, k1, l, hl', k2⟩
        · cases hl
      case struct fs => obtain ⟨v, k1, k2⟩ := aggs hok; exact ⟨v, k1, l, hl', k2⟩
      case array m e => obtain ⟨v, k1, k2⟩ := aggs hok; exact ⟨v, k1, l, hl', k2⟩
theorem abs_args {n : Nat} {base : Nat} {r : Reach} : ∀ (ts : List TypeId) (us : List Value) (ds : List (DataW Hh)) (ps : List MemPlace), DataW.TrodAll enc P W 0 (fun _ => true) true ts us ds ps →
    (∀ (j : Nat) t u, ts[j]? = some t → us[j]? = some u → Value.okWide P W r base t u) → (∀ t ∈ ts, (shapes P n t).isSome = true) → ∃ vs, RL (Ren.all W) vs us ∧ Args P n ts vs ∧ ds.length = ts.length
  | [], us, ds, ps, h, _, _ => by
    cases us <;> cases ds <;> simp_all [DataW.TrodAll]
    exact ⟨[], RL_nil, rfl⟩
  | t :: ts, us, ds, ps, h, hok, hs => by
    cases us with
    | nil => cases ds <;> simp [DataW.TrodAll] at h
    | cons u us =>
      cases ds with
      | nil => simp [DataW.TrodAll] at h
      | cons d ds =>
        simp only [DataW.TrodAll] at h
        obtain ⟨p, q, h1, h2, _⟩ := h
        obtain ⟨v, k1, k2⟩ := abs_arg (n := n) h1 (hok 0 t u rfl rfl) (hs t (by simp))
        obtain ⟨vs, k3, k4, k5⟩ := abs_args ts us ds q h2 (fun j t u e1 e2 => hok (j + 1) t u (by simpa using e1) (by simpa using e2)) (fun t ht => hs t (by simp [ht]))
        refine ⟨v :: vs, ?_, ⟨v, vs, rfl, k2, k4⟩, by simp [k5]⟩
        simp only [RL]
        exact ⟨u, us, rfl, k1, k3⟩
theorem trodAll_stays (hl : laidOutB P = true) {W' : World} (hb : Below W.heap.size W W') : ∀ (ts : List TypeId) (us : List Value) (ds : List (DataW Hh)) (ps : List MemPlace), DataW.TrodAll enc P W 0 (fun _ => true) true ts us ds ps →
    (∀ t ∈ ts, P.readableRec t = true ∧ t < P.types.size) → (∀ x ∈ ps, x.block < W.heap.size) → DataW.TrodAll enc P W' 0 (fun b => decide (b < W.heap.size)) true ts us ds ps
  | [], us, ds, ps, h, _, _ => by cases us <;> cases ds <;> simp_all [DataW.TrodAll]
  | t :: ts, us, ds, ps, h, hr, hlt => by
    cases us with
    | nil => cases ds <;> simp [DataW.TrodAll] at h
    | cons u us =>
      cases ds with
      | nil => simp [DataW.TrodAll] at h
      | cons d ds =>
        simp only [DataW.TrodAll] at h ⊢
        obtain ⟨p, q, h1, h2, rfl⟩ := h
        exact ⟨p, q, Go.RowKit.Below.trod hl (hr t (by simp)).1 (hr t (by simp)).2 h1 hb.kit (fun x hx => hlt x (by simp [hx])), trodAll_stays hl hb ts us ds q h2 (fun t ht => hr t (by simp [ht])) (fun x hx => hlt x (by simp [hx])), rfl⟩
/-- The types of the arguments, by their elements. -/
def tyIn (P : Program) (n : Nat) (t : TypeId) : Option Ty :=
  match shapes P n t, aggT P t with
  | some l, some true => some (.agg (Sh.lfs l))
  | some [s], some false => some (.leaf s.lf)
  | _, _ => none
def tysIn (P : Program) (n : Nat) : List TypeId → Option (List Ty)
  | [] => some []
  | t :: ts => (tyIn P n t).bind fun y => (tysIn P n ts).map (y :: ·)
theorem tyIn_shapes {n : Nat} {t : TypeId} {y : Ty} (h : tyIn P n t = some y) : (shapes P n t).isSome = true := by
  unfold tyIn at h
  cases hs : shapes P n t with
  | none => rw [hs] at h; simp at h
  | some l => rfl
theorem tysIn_shapes {n : Nat} : ∀ (ts : List TypeId) (ys : List Ty), tysIn P n ts = some ys → ∀ t ∈ ts, (shapes P n t).isSome = true
  | [], _, _ => by simp
  | t :: ts, ys, h => by
    simp only [tysIn, Option.bind_eq_some_iff, Option.map_eq_some_iff] at h
    obtain ⟨y, hy, ys', hys, rfl⟩ := h
    intro t' ht'
    rcases List.mem_cons.1 ht' with rfl | ht'
    · exact tyIn_shapes hy
    · exact tysIn_shapes ts ys' hys t' ht'
theorem ArgOK.read {n : Nat} {t : TypeId} {v : V} {y : Ty} (h : ArgOK P n t v) (hy : tyIn P n t = some y) : ∃ x : y.C, rdTy true H.empty y v = some x ∧ y.ok x := by
  obtain ⟨l, hl, h⟩ := h
  unfold tyIn at hy
  rw [hl] at hy
  cases ha : aggT P t with
  | none => rw [ha] at h; exact h.elim
  | some b =>
    rw [ha] at h hy
    cases b with
    | true =>
      obtain ⟨cs, rfl, h⟩ := h
      cases hy
      obtain ⟨x, h1, h2⟩ := Dats.read l cs h
      exact ⟨x, by simpa [rdTy] using h1, by simpa [Ty.ok] using h2⟩
    | false =>
      obtain ⟨s, rfl, h⟩ := h
      cases hy
      obtain ⟨x, h1, h2⟩ := Dat.read s v h
      exact ⟨x, by simpa [rdTy] using h1, by simpa [Ty.ok] using h2⟩
theorem Args.read {n : Nat} : ∀ (ts : List TypeId) (vs : List V) (ys : List Ty), Args P n ts vs → tysIn P n ts = some ys → ∃ x : TT ys, rdTT true H.empty ys vs = some x ∧ TT.ok ys x
  | [], vs, ys, h, hy => by
    simp only [tysIn, Option.some.injEq] at hy
    subst hy
    simp only [Args] at h
    subst h
    exact ⟨(), by simp [rdTT], by simp [TT.ok]⟩
  | t :: ts, vs, ys, h, hy => by
    simp only [tysIn, Option.bind_eq_some_iff, Option.map_eq_some_iff] at hy
    obtain ⟨y, hy1, ys', hys, rfl⟩ := hy
    obtain ⟨v, vs', rfl, h1, h2⟩ := h
    obtain ⟨x, k1, k2⟩ := h1.read hy1
    obtain ⟨z, k3, k4⟩ := Args.read ts vs' ys' h2 hys
    cases ys' with
    | nil =>
      cases vs' with
      | nil => exact ⟨x, by simpa [rdTT] using k1, by simpa [TT.ok] using k2⟩
      | cons _ _ => simp [rdTT] at k3
    | cons y' ys' => exact ⟨(x, z), by simp only [rdTT, k1, Option.bind_some, k3], by simpa [TT.ok] using ⟨k2, k4⟩⟩
/-- What a row of the template 'for every input the law returns true' asks of the call. -/
theorem law_contract {T : Table} {A : Ann} {f : FuncId} {fn : Func} {s : ChangeSpec} {n : Nat} {tb : TypeId} {ts : List Ty} {g : TT ts → Option Bool} (hT : TabOK P T) (hm : P.follows .mixedOrders = true) (hf : P.funcs[f]? = some fn) (hn : (fn.name == "runtime.NumGoroutine") = false)
    (hlaid : laidOutB P = true) (hread : ∀ t ∈ fn.params.toList, P.readableRec t = true ∧ t < P.types.size) (hts : tysIn P n fn.params.toList = some ts) (hrt : fn.resultTypes = #[tb]) (htb : P.underlying tb = some .bool)
    (hvars : s.vars = []) (hspec : ∀ ds : List (DataW Hh), ds.length = fn.params.toList.length → s.fn Hh ds = { results := [.lit (.bool true)], args := ds })
    (he : ∀ x, ((evalFn P T A fn (.one (.leaf .bool)) (TT.lo false ts x) H.empty).bind fun p => rdRes false p.2 (.one (.leaf .bool)) (Res.un (.one (.leaf .bool)) p.1)) = g x)
    (hlaw : ∀ x : TT ts, TT.ok ts x → g x = some true) (hgl : GL W.heap.size W) (hin : A.inr = false := by rfl)
    {base : Nat} {args : Array Value} {ds gs : List (DataW Hh)} {before : List MemPlace} (hval : ∀ (j : Nat) t v, fn.params[j]? = some t → args[j]? = some v → Value.okWide P W .any base t v)
    (hW : DataW.Whole enc P fn.params.toList s.vars false W args.toList ds gs before) :
    Calls P f args W fun e W' => ∃ v, e = .returned v ∧ s.post enc P fn false true false false W args v W' := by
  have hW' := hW
  obtain ⟨p, q, hA, hV, rfl, hfz, hnd⟩ := hW
  rw [hvars] at hV
  obtain ⟨rfl, rfl⟩ := trodVars_none hV
  obtain ⟨vs, h1, h2, h3⟩ := abs_args (n := n) (base := base) (r := .any) _ _ _ _ hA (fun j t u e1 e2 => hval j t u (by simpa using e1) (by simpa using e2)) (tysIn_shapes _ _ hts)
  obtain ⟨x, hx, hok⟩ := Args.read _ _ _ h2 hts
  have hgx := he x
  rw [hlaw x hok] at hgx
  simp only [Option.bind_eq_some_iff] at hgx
  obtain ⟨⟨b, h'⟩, hh, hb⟩ := hgx
  have hb' : b = true := by simpa [rdRes, rdTy, rdLeaf, Res.un, Ty.un, Leaf.un] using hb
  subst hb'
  obtain ⟨_, hcall⟩ := fn_calls hT.1 hm hf hh hin
  have := hcall W.heap.size _ W args.toList (hT.2 _ _) (Rel.all W hgl).rows (rdTT_ok (Rel.all W hgl) ts vs x args.toList hx h1)
  simp only [Array.toArray_toList] at this
  refine this.mono fun e W' ⟨ρ', val, _, hrel, hbel, he, hr⟩ => ⟨val, he, ?_⟩
  simp only [Res.un, Ty.un, Leaf.un, R] at hr
  subst hr
  refine ⟨ds, [], p ++ [], [], p, [], hW', ?_, ?_, ?_, hbel.kit.frame _, fun h => by cases h⟩
  · rw [List.append_nil, hspec ds h3, hrt]
    exact trodAll_mk1 (shut_bool htb true)
  · rw [List.append_nil, hspec ds h3]
    exact trodAll_stays hlaid hbel _ _ _ _ hA hread (fun x hx => hW'.lt x (by simp [hx]))
  · rw [List.append_nil, hspec ds h3, hvars]
    rfl
end row
theorem wf_i64 {n : Int} (h : Leaf.ok (.int .i64) n) : -9223372036854775808 ≤ n ∧ n ≤ 9223372036854775807 := by
  simp only [Leaf.ok, Lit.wf, Bool.and_eq_true, decide_eq_true_eq] at h
  exact ⟨h.1, h.2⟩
end Go.Proofs.YtjkjcnadgpndoaaGreat.Ev
