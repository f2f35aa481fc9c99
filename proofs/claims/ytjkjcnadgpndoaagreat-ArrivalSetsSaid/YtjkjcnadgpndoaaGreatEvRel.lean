/- The relation between abstract values and heaps and the model's, and what keeps it. Conditions: none. -/
import Derived.Test.YtjkjcnadgpndoaaGreatEvDefs
import Derived.WalkKit
import Derived.RangeFuncRecord
namespace Go.Proofs.YtjkjcnadgpndoaaGreat.Ev
open Go Go.RowKit

/-- What lies below a block stands as it stood; no draw is taken back. -/
structure Below (B : Nat) (w w' : World) : Prop where
  kit : Go.RowKit.Below B w w'
  drawn : w.drawn ≤ w'.drawn
theorem Below.refl (B : Nat) (w : World) : Below B w w := ⟨Go.RowKit.Below.refl B w, Nat.le_refl _⟩
theorem Below.trans {B : Nat} {a b c : World} (h : Below B a b) (k : Below B b c) : Below B a c := ⟨h.kit.trans k.kit, Nat.le_trans h.drawn k.drawn⟩
theorem Below.mono {B B' : Nat} {w w' : World} (h : Below B w w') (hB : B' ≤ B) : Below B' w w' := ⟨h.kit.mono hB, h.drawn⟩
theorem Below.drew {B : Nat} {a w : World} (h : Below B a w) : Below B a w.drew := ⟨h.kit.drew, Nat.le_trans h.drawn (Nat.le_succ _)⟩
theorem Below.alloc {B : Nat} {a w : World} (h : Below B a w) (hB : B ≤ w.heap.size) (o : Obj) : Below B a (w.alloc o) := ⟨h.kit.alloc hB o, h.drawn⟩
theorem Below.size {B : Nat} {w w' : World} (h : Below B w w') : w.heap.size ≤ w'.heap.size := h.kit.size
theorem Below.block {B : Nat} {w w' : World} (h : Below B w w') : ∀ k, k < B → w'.heap[k]? = w.heap[k]? := h.kit.block

/-- Where the abstract blocks lie: the block and its spare room (in elements) by number and size; and which rows nobody writes. -/
structure Ren where
  map : Nat → Nat → Option (Nat × Nat)
  fz : Bool → Nat → Nat → List Value → Prop
  df : Nat → Prop
  lp : Nat → Option Loop

mutual
def R (ρ : Ren) : V → Value → Prop
  | .undef, _ => True
  | .bool b, w => w = .bool b
  | .int k n, w => w = .int k n
  | .str s, w => w = .string s
  | .nil, w => w = .pointer none
  | .hp id g o, w => ∃ b x, ρ.map id g = some (b, x) ∧ w = .pointer (some ⟨b, o, none⟩)
  | .lp f cs o, w => (cs = [] ∧ w = .pointer none) ∨ ∃ b i us, (cs = [] ∨ ρ.fz f b i us) ∧ RC ρ cs us ∧ w = .pointer (some ⟨b, i + o, none⟩)
  | .slice a l c t, w => ∃ p c', w = .slice p l c' ∧ l ≤ c ∧ c ≤ c' ∧ (t = false → c' = c) ∧ (p = none → c' = 0) ∧ (a.mayNil = true ∨ p.isSome = a.nn) ∧
      (c ≠ 0 → R ρ a (.pointer p)) ∧ (∀ id g o, a = .hp id g o → t = true → ∃ b x, ρ.map id g = some (b, x) ∧ c' = c + x)
  | .map r, w => (r = none ∧ w = .map none) ∨ (∃ id b x, r = some id ∧ ρ.map id 0 = some (b, x) ∧ w = .map (some b))
  | .func f cs, w => ∃ us : List Value, w = .func (.func f) #[] us.toArray ∧ RL ρ cs us
  | .nilFunc, w => w = .nilFunc
  | .nilIface, w => w = .nilIface
  | .agg cs, w => ∃ us : List Value, w = .agg us.toArray ∧ RC ρ cs us
  | .tuple cs, w => ∃ us : List Value, w = .tuple us.toArray ∧ RL ρ cs us
  | .yld id, w => ∃ b x, ρ.map id 0 = some (b, x) ∧ w = .func (.yield b) #[] #[]
def RL (ρ : Ren) : List V → List Value → Prop
  | [], us => us = []
  | v :: vs, us => ∃ u us', us = u :: us' ∧ R ρ v u ∧ RL ρ vs us'
def RC (ρ : Ren) : List V → List Value → Prop
  | [], us => us = []
  | v :: vs, us => ∃ u us', us = u :: us' ∧ u.oneCell' = true ∧ R ρ v u ∧ RC ρ vs us'
end

def Ren.le (ρ ρ' : Ren) : Prop :=
  (∀ id g x, ρ.map id g = some x → ρ'.map id g = some x) ∧ (∀ f b i us, ρ.fz f b i us → ρ'.fz f b i us) ∧ (∀ b, ρ.df b → ρ'.df b) ∧ ∀ b K, ρ.lp b = some K → ρ'.lp b = some K
/-- The part of it that values are about. -/
def Ren.le0 (ρ ρ' : Ren) : Prop :=
  (∀ id g x, ρ.map id g = some x → ρ'.map id g = some x) ∧ ∀ f b i us, ρ.fz f b i us → ρ'.fz f b i us
theorem Ren.le.refl (ρ : Ren) : ρ.le ρ := ⟨fun _ _ _ h => h, fun _ _ _ _ h => h, fun _ h => h, fun _ _ h => h⟩
theorem Ren.le.trans {a b c : Ren} (h : a.le b) (k : b.le c) : a.le c := ⟨fun _ _ _ e => k.1 _ _ _ (h.1 _ _ _ e), fun _ _ _ _ e => k.2.1 _ _ _ _ (h.2.1 _ _ _ _ e), fun _ e => k.2.2.1 _ (h.2.2.1 _ e), fun _ _ e => k.2.2.2 _ _ (h.2.2.2 _ _ e)⟩
theorem Ren.le.le0 {a b : Ren} (h : a.le b) : a.le0 b := ⟨h.1, h.2.1⟩

mutual
theorem R_mono0 {ρ ρ' : Ren} (hl : ρ.le0 ρ') : ∀ (v : V) (w : Value), R ρ v w → R ρ' v w
  | .undef, _, _ => by simp [R]
  | .bool b, w, h => by simpa [R] using h
  | .int k n, w, h => by simpa [R] using h
  | .str s, w, h => by simpa [R] using h
  | .nil, w, h => by simpa [R] using h
  | .hp id g o, w, h => by
    simp only [R] at h ⊢
    obtain ⟨b, x, h1, h2⟩ := h
    exact ⟨b, x, hl.1 _ _ _ h1, h2⟩
  | .lp f cs o, w, h => by
    simp only [R] at h ⊢
    rcases h with h | ⟨b, i, us, h1, h2, h3⟩
    · exact .inl h
    · exact .inr ⟨b, i, us, h1.imp id (hl.2 _ _ _ _), RC_mono0 hl cs us h2, h3⟩
  | .slice a l c t, w, h => by
    simp only [R] at h ⊢
    obtain ⟨p, c', h1, h2, h3, h4, h5, h6, h7, h8⟩ := h
    exact ⟨p, c', h1, h2, h3, h4, h5, h6, fun hc => R_mono0 hl a _ (h7 hc), fun id g o e et => let ⟨b, x, e1, e2⟩ := h8 id g o e et; ⟨b, x, hl.1 _ _ _ e1, e2⟩⟩
  | .map r, w, h => by
    simp only [R] at h ⊢
    rcases h with h | ⟨id, b, x, h1, h2, h3⟩
    · exact .inl h
    · exact .inr ⟨id, b, x, h1, hl.1 _ _ _ h2, h3⟩
  | .func f cs, w, h => by
    simp only [R] at h ⊢
    obtain ⟨us, h1, h2⟩ := h
    exact ⟨us, h1, RL_mono0 hl cs us h2⟩
  | .nilFunc, w, h => by simpa [R] using h
  | .nilIface, w, h => by simpa [R] using h
  | .agg cs, w, h => by
    simp only [R] at h ⊢
    obtain ⟨us, h1, h2⟩ := h
    exact ⟨us, h1, RC_mono0 hl cs us h2⟩
  | .tuple cs, w, h => by
    simp only [R] at h ⊢
    obtain ⟨us, h1, h2⟩ := h
    exact ⟨us, h1, RL_mono0 hl cs us h2⟩
  | .yld id, w, h => by
    simp only [R] at h ⊢
    obtain ⟨b, x, h1, h2⟩ := h
    exact ⟨b, x, hl.1 _ _ _ h1, h2⟩
theorem RL_mono0 {ρ ρ' : Ren} (hl : ρ.le0 ρ') : ∀ (vs : List V) (us : List Value), RL ρ vs us → RL ρ' vs us
  | [], us, h => by simpa [RL] using h
  | v :: vs, us, h => by
    simp only [RL] at h ⊢
    obtain ⟨u, us', h1, h2, h3⟩ := h
    exact ⟨u, us', h1, R_mono0 hl v u h2, RL_mono0 hl vs us' h3⟩
theorem RC_mono0 {ρ ρ' : Ren} (hl : ρ.le0 ρ') : ∀ (vs : List V) (us : List Value), RC ρ vs us → RC ρ' vs us
  | [], us, h => by simpa [RC] using h
  | v :: vs, us, h => by
    simp only [RC] at h ⊢
    obtain ⟨u, us', h1, h2, h3, h4⟩ := h
    exact ⟨u, us', h1, h2, R_mono0 hl v u h3, RC_mono0 hl vs us' h4⟩
end

theorem R_mono {ρ ρ' : Ren} (hl : ρ.le ρ') (v : V) (w : Value) : R ρ v w → R ρ' v w := R_mono0 hl.le0 v w
theorem RL_mono {ρ ρ' : Ren} (hl : ρ.le ρ') (vs : List V) (us : List Value) : RL ρ vs us → RL ρ' vs us := RL_mono0 hl.le0 vs us
theorem RC_mono {ρ ρ' : Ren} (hl : ρ.le ρ') (vs : List V) (us : List Value) : RC ρ vs us → RC ρ' vs us := RC_mono0 hl.le0 vs us

/-! ### Rows of values, cell by cell -/

section rows
variable {ρ : Ren}
theorem RL_iff : ∀ {vs : List V} {us : List Value}, RL ρ vs us ↔ vs.length = us.length ∧ ∀ (i : Nat) v u, vs[i]? = some v → us[i]? = some u → R ρ v u := by
  intro vs
  induction vs with
  | nil => intro us; cases us <;> simp [RL]
  | cons v vs ih =>
    intro us
    cases us with
    | nil => simp [RL]
    | cons u us =>
      simp only [RL, List.cons.injEq, List.length_cons, Nat.add_right_cancel_iff]
      constructor
      · rintro ⟨u', us', ⟨rfl, rfl⟩, h1, h2⟩
        obtain ⟨h3, h4⟩ := ih.1 h2
        refine ⟨h3, fun i => ?_⟩
        cases i with
        | zero => intro v' u' e1 e2; simp at e1 e2; subst e1; subst e2; exact h1
        | succ i => intro v' u' e1 e2; simp at e1 e2; exact h4 i _ _ e1 e2
      · rintro ⟨h1, h2⟩
        exact ⟨u, us, ⟨rfl, rfl⟩, h2 0 _ _ rfl rfl, ih.2 ⟨h1, fun i v' u' e1 e2 => h2 (i + 1) v' u' (by simpa using e1) (by simpa using e2)⟩⟩
theorem RC_iff : ∀ {vs : List V} {us : List Value}, RC ρ vs us ↔ vs.length = us.length ∧ ∀ (i : Nat) v u, vs[i]? = some v → us[i]? = some u → u.oneCell' = true ∧ R ρ v u := by
  intro vs
  induction vs with
  | nil => intro us; cases us <;> simp [RC]
  | cons v vs ih =>
    intro us
    cases us with
    | nil => simp [RC]
    | cons u us =>
      simp only [RC, List.cons.injEq, List.length_cons, Nat.add_right_cancel_iff]
      constructor
      · rintro ⟨u', us', ⟨rfl, rfl⟩, h0, h1, h2⟩
        obtain ⟨h3, h4⟩ := ih.1 h2
        refine ⟨h3, fun i => ?_⟩
        cases i with
        | zero => intro v' u' e1 e2; simp at e1 e2; subst e1; subst e2; exact ⟨h0, h1⟩
        | succ i => intro v' u' e1 e2; simp at e1 e2; exact h4 i _ _ e1 e2
      · rintro ⟨h1, h2⟩
        exact ⟨u, us, ⟨rfl, rfl⟩, (h2 0 _ _ rfl rfl).1, (h2 0 _ _ rfl rfl).2, ih.2 ⟨h1, fun i v' u' e1 e2 => h2 (i + 1) v' u' (by simpa using e1) (by simpa using e2)⟩⟩
theorem RC.RL {vs : List V} {us : List Value} (h : RC ρ vs us) : RL ρ vs us := RL_iff.2 ⟨(RC_iff.1 h).1, fun i v u e1 e2 => ((RC_iff.1 h).2 i v u e1 e2).2⟩
theorem RC.length {vs : List V} {us : List Value} (h : RC ρ vs us) : vs.length = us.length := (RC_iff.1 h).1
theorem RL.length {vs : List V} {us : List Value} (h : RL ρ vs us) : vs.length = us.length := (RL_iff.1 h).1
theorem RC.at {vs : List V} {us : List Value} (h : RC ρ vs us) {i : Nat} {v : V} (hv : vs[i]? = some v) : ∃ u, us[i]? = some u ∧ u.oneCell' = true ∧ R ρ v u := by
  have hlt : i < us.length := by rw [← h.length]; exact (List.getElem?_eq_some_iff.1 hv).1
  exact ⟨us[i], List.getElem?_eq_getElem hlt, (RC_iff.1 h).2 i v _ hv (List.getElem?_eq_getElem hlt)⟩
theorem RL.at {vs : List V} {us : List Value} (h : RL ρ vs us) {i : Nat} {v : V} (hv : vs[i]? = some v) : ∃ u, us[i]? = some u ∧ R ρ v u := by
  have hlt : i < us.length := by rw [← h.length]; exact (List.getElem?_eq_some_iff.1 hv).1
  exact ⟨us[i], List.getElem?_eq_getElem hlt, (RL_iff.1 h).2 i v _ hv (List.getElem?_eq_getElem hlt)⟩
theorem RC.ones {vs : List V} {us : List Value} (h : RC ρ vs us) : ∀ u ∈ us, u.oneCell' = true := by
  intro u hu
  obtain ⟨i, hi, rfl⟩ := List.getElem_of_mem hu
  have hl : i < vs.length := by rw [h.length]; exact hi
  exact ((RC_iff.1 h).2 i vs[i] _ (List.getElem?_eq_getElem hl) (List.getElem?_eq_getElem hi)).1
theorem RC.append {a b : List V} {x y : List Value} (h : RC ρ a x) (k : RC ρ b y) : RC ρ (a ++ b) (x ++ y) := by
  refine RC_iff.2 ⟨by simp [h.length, k.length], fun i v u e1 e2 => ?_⟩
  rcases Nat.lt_or_ge i a.length with hi | hi
  · rw [List.getElem?_append_left hi] at e1
    rw [List.getElem?_append_left (by rw [← h.length]; exact hi)] at e2
    exact (RC_iff.1 h).2 i v u e1 e2
  · rw [List.getElem?_append_right hi] at e1
    rw [List.getElem?_append_right (by rw [← h.length]; exact hi), ← h.length] at e2
    exact (RC_iff.1 k).2 _ v u e1 e2
theorem RL.append {a b : List V} {x y : List Value} (h : RL ρ a x) (k : RL ρ b y) : RL ρ (a ++ b) (x ++ y) := by
  refine RL_iff.2 ⟨by simp [h.length, k.length], fun i v u e1 e2 => ?_⟩
  rcases Nat.lt_or_ge i a.length with hi | hi
  · rw [List.getElem?_append_left hi] at e1
    rw [List.getElem?_append_left (by rw [← h.length]; exact hi)] at e2
    exact (RL_iff.1 h).2 i v u e1 e2
  · rw [List.getElem?_append_right hi] at e1
    rw [List.getElem?_append_right (by rw [← h.length]; exact hi), ← h.length] at e2
    exact (RL_iff.1 k).2 _ v u e1 e2
theorem RC.take {a : List V} {x : List Value} (h : RC ρ a x) (n : Nat) : RC ρ (a.take n) (x.take n) := by
  refine RC_iff.2 ⟨by simp [h.length], fun i v u e1 e2 => ?_⟩
  rw [List.getElem?_take] at e1 e2
  split at e1
  · rename_i hi
    rw [if_pos hi] at e2
    exact (RC_iff.1 h).2 i v u e1 e2
  · cases e1
theorem RC.drop {a : List V} {x : List Value} (h : RC ρ a x) (n : Nat) : RC ρ (a.drop n) (x.drop n) := by
  refine RC_iff.2 ⟨by simp [h.length], fun i v u e1 e2 => ?_⟩
  rw [List.getElem?_drop] at e1 e2
  exact (RC_iff.1 h).2 _ v u e1 e2
theorem RC.splice {a vs : List V} {x us : List Value} (h : RC ρ a x) (k : RC ρ vs us) (o : Nat) : RC ρ (splice a o vs) (x.take o ++ us ++ x.drop (o + us.length)) := by
  unfold Ev.splice
  rw [← k.length]
  exact ((h.take o).append k).append (h.drop _)
theorem RC_nil : RC ρ [] [] := by simp [RC]
theorem RL_nil : RL ρ [] [] := by simp [RL]
theorem RL_map {α : Type} (l : List α) (f : α → V) (g : α → Value) (h : ∀ x ∈ l, R ρ (f x) (g x)) : RL ρ (l.map f) (l.map g) := by
  induction l with
  | nil => simp [RL]
  | cons x l ih => simp only [List.map_cons, RL]; exact ⟨_, _, rfl, h x (by simp), ih fun y hy => h y (by simp [hy])⟩
theorem splice_length (cs : List V) (o : Nat) (vs : List V) (h : o + vs.length ≤ cs.length) : (splice cs o vs).length = cs.length := by
  simp only [Ev.splice, List.length_append, List.length_take, List.length_drop]
  omega
/-- One value in one cell. -/
theorem R.one {v : V} {u : Value} (h : R ρ v u) {cs : List V} (hc : v.cells = some cs) : RC ρ cs u.cells.toList := by
  cases v <;> simp only [V.cells, Option.some.injEq, reduceCtorEq] at hc <;> try subst hc
  case bool b => have h' := h; simp only [R] at h'; subst h'; exact ⟨_, _, rfl, rfl, h, by simp [RC]⟩
  case yld id => have h' := h; simp only [R] at h'; obtain ⟨b, x, _, rfl⟩ := h'; exact ⟨_, _, rfl, rfl, h, by simp [RC]⟩
  case int k n => have h' := h; simp only [R] at h'; subst h'; exact ⟨_, _, rfl, rfl, h, by simp [RC]⟩
  case str s => have h' := h; simp only [R] at h'; subst h'; exact ⟨_, _, rfl, rfl, h, by simp [RC]⟩
  case nil => have h' := h; simp only [R] at h'; subst h'; exact ⟨_, _, rfl, rfl, h, by simp [RC]⟩
  case nilFunc => have h' := h; simp only [R] at h'; subst h'; exact ⟨_, _, rfl, rfl, h, by simp [RC]⟩
  case nilIface => have h' := h; simp only [R] at h'; subst h'; exact ⟨_, _, rfl, rfl, h, by simp [RC]⟩
  case hp id g o =>
    have h' := h
    simp only [R] at h'
    obtain ⟨b, x, _, rfl⟩ := h'
    exact ⟨_, _, rfl, rfl, h, by simp [RC]⟩
  case lp fl c o =>
    have h' := h
    simp only [R] at h'
    rcases h' with ⟨_, rfl⟩ | ⟨b, i, us, _, _, rfl⟩
    · exact ⟨_, _, rfl, rfl, h, by simp [RC]⟩
    · exact ⟨_, _, rfl, rfl, h, by simp [RC]⟩
  case slice a l c t =>
    have h' := h
    simp only [R] at h'
    obtain ⟨p, c', rfl, _⟩ := h'
    exact ⟨_, _, rfl, rfl, h, by simp [RC]⟩
  case map r =>
    have h' := h
    simp only [R] at h'
    rcases h' with ⟨_, rfl⟩ | ⟨_, _, _, _, _, rfl⟩
    · exact ⟨_, _, rfl, rfl, h, by simp [RC]⟩
    · exact ⟨_, _, rfl, rfl, h, by simp [RC]⟩
  case func f c =>
    have h' := h
    simp only [R] at h'
    obtain ⟨us, rfl, _⟩ := h'
    exact ⟨_, _, rfl, rfl, h, by simp [RC]⟩
  case agg c =>
    simp only [R] at h
    obtain ⟨us, rfl, h⟩ := h
    simpa [Value.cells] using h
theorem one_oneCell (u : Value) : one u = u.oneCell' := by cases u <;> rfl
theorem R_ofConst (u : Value) : R ρ (ofConst u) u := by
  unfold ofConst
  split
  case h_5 => exact ⟨none, 0, rfl, Nat.le_refl _, Nat.le_refl _, fun _ => rfl, fun _ => rfl, .inr rfl, fun h => absurd rfl h, fun _ _ _ h => by cases h⟩
  all_goals simp [R]
theorem beq_ne {i id : Nat} (h : i ≠ id) : Nat.beq i id = false := by
  cases hb : Nat.beq i id with
  | false => rfl
  | true => exact absurd (Nat.eq_of_beq_eq_true hb) h
theorem RC_consts (us : List Value) (h : us.all one = true) : RC ρ (us.map ofConst) us := by
  refine RC_iff.2 ⟨by simp, fun i v u e1 e2 => ?_⟩
  rw [List.getElem?_map, e2] at e1
  simp at e1
  subst e1
  exact ⟨by rw [← one_oneCell]; exact List.all_eq_true.1 h u (List.mem_of_getElem? e2), R_ofConst u⟩
theorem R_ofZero (u : Value) : R ρ (ofZero u) u := by
  unfold ofZero
  split
  · rename_i cs
    split
    · rename_i h
      simp only [R]
      exact ⟨cs.toList, by simp, RC_consts _ h⟩
    · simp [R]
  · exact R_ofConst u
end rows

/-! ### Spelling a value by its type changes nothing -/

theorem Leaf.un_pack : ∀ (l : Leaf) (v : V) (x : l.C), l.pack v = some x → l.un x = v := by
  intro l v x h
  cases l <;> cases v <;> simp [Leaf.pack] at h <;> (try subst h) <;> (try rfl)
  obtain ⟨rfl, rfl⟩ := h
  rfl
theorem LT.un_pack : ∀ (ls : List Leaf) (vs : List V) (x : LT ls), LT.pack ls vs = some x → LT.un ls x = vs
  | [], [], x, h => by simp [LT.un]
  | [], _ :: _, x, h => by simp [LT.pack] at h
  | [l], [], x, h => by simp [LT.pack] at h
  | [l], [v], x, h => by simp only [LT.pack] at h; simp only [LT.un, Leaf.un_pack l v x h]
  | [l], _ :: _ :: _, x, h => by simp [LT.pack] at h
  | l :: l' :: ls, [], x, h => by simp [LT.pack] at h
  | l :: l' :: ls, v :: vs, x, h => by
    simp only [LT.pack, Option.bind_eq_some_iff, Option.some.injEq] at h
    obtain ⟨y, hy, z, hz, rfl⟩ := h
    simp only [LT.un, Leaf.un_pack l v y hy, LT.un_pack (l' :: ls) vs z hz]
theorem Ty.un_pack : ∀ (t : Ty) (v : V) (x : t.C), t.pack v = some x → t.un x = v
  | .leaf l, v, x, h => Leaf.un_pack l v x h
  | .agg ls, v, x, h => by
    cases v <;> simp only [Ty.pack, reduceCtorEq] at h
    simp only [Ty.un, LT.un_pack _ _ _ h]
theorem TT.un_pack : ∀ (ts : List Ty) (vs : List V) (x : TT ts), TT.pack ts vs = some x → TT.un ts x = vs
  | [], [], x, h => by simp [TT.un]
  | [], _ :: _, x, h => by simp [TT.pack] at h
  | [l], [], x, h => by simp [TT.pack] at h
  | [l], [v], x, h => by simp only [TT.pack] at h; simp only [TT.un, Ty.un_pack l v x h]
  | [l], _ :: _ :: _, x, h => by simp [TT.pack] at h
  | l :: l' :: ls, [], x, h => by simp [TT.pack] at h
  | l :: l' :: ls, v :: vs, x, h => by
    simp only [TT.pack, Option.bind_eq_some_iff, Option.some.injEq] at h
    obtain ⟨y, hy, z, hz, rfl⟩ := h
    simp only [TT.un, Ty.un_pack l v y hy, TT.un_pack (l' :: ls) vs z hz]
theorem Res.un_pack : ∀ (r : Res) (v : V) (x : r.C), r.pack v = some x → r.un x = v
  | .one t, v, x, h => Ty.un_pack t v x h
  | .many ts, v, x, h => by
    cases v <;> simp only [Res.pack, reduceCtorEq] at h
    simp only [Res.un, TT.un_pack _ _ _ h]

/-! ### Heaps -/

/-- The entries of a map from numbers to numbers. -/
def entriesM (kk vk : IntKind) (es : List (Int × Int)) : Array MapEntry := (es.zipIdx.map fun (e, i) => ({ key := .int kk e.1, val := .int vk e.2, born := i } : MapEntry)).toArray
/-- The entries of a map. -/
def entryG (e : Value × Value) (i : Nat) : MapEntry := { key := e.1, val := e.2, born := i }
def entriesG (us : List (Value × Value)) : Array MapEntry := (us.zipIdx.map fun p => entryG p.1 p.2).toArray
/-- A map, or the record of a loop. -/
def RO (ρ : Ren) (b : Nat) : Slot → Obj → Prop
  | .miter mid n seen, o => ∃ bm, ρ.map mid 0 = some (bm, 0) ∧ o = .mapIter (some bm) n seen.toArray n
  | .gmap es, o => ∃ us, o = .map (entriesG us) us.length ∧ RL ρ (es.map (·.1)) (us.map (·.1)) ∧ RL ρ (es.map (·.2)) (us.map (·.2))
  | .loop st, o => ∃ K, ρ.lp b = some K ∧ o = .loop { K with state := st, pending := none }
  | .imap kk vk es, o => o = .map (entriesM kk vk es) es.length
  | _, _ => False
theorem RO_mono0 {ρ ρ' : Ren} (hl : ρ.le0 ρ') (hp : ∀ b K, ρ.lp b = some K → ρ'.lp b = some K) {b : Nat} {s : Slot} {o : Obj} (h : RO ρ b s o) : RO ρ' b s o := by
  cases s <;> simp only [RO] at h ⊢
  · exact h
  · obtain ⟨us, h1, h2, h3⟩ := h
    exact ⟨us, h1, RL_mono0 hl _ _ h2, RL_mono0 hl _ _ h3⟩
  · obtain ⟨bm, h1, h2⟩ := h
    exact ⟨bm, hl.1 _ _ _ h1, h2⟩
  · obtain ⟨K, h1, h2⟩ := h
    exact ⟨K, hp _ _ h1, h2⟩
theorem RO_mono {ρ ρ' : Ren} (hl : ρ.le ρ') {b : Nat} {s : Slot} {o : Obj} (h : RO ρ b s o) : RO ρ' b s o := RO_mono0 hl.le0 hl.2.2.2 h
theorem RO_cells {ρ : Ren} {b : Nat} {s : Slot} {o : Obj} (h : RO ρ b s o) : (∀ c t f, o ≠ .cells c t f) ∧ ∀ d, o ≠ .deferred d := by
  cases s <;> simp only [RO] at h
  · subst h; exact ⟨fun _ _ _ e => (by cases e), fun _ e => (by cases e)⟩
  · obtain ⟨us, rfl, _⟩ := h
    exact ⟨fun _ _ _ e => (by cases e), fun _ e => (by cases e)⟩
  · obtain ⟨bm, _, rfl⟩ := h
    exact ⟨fun _ _ _ e => (by cases e), fun _ e => (by cases e)⟩
  · obtain ⟨K, h1, rfl⟩ := h
    exact ⟨fun _ _ _ e => (by cases e), fun _ e => (by cases e)⟩
structure Objs (base : Nat) (ρ : Ren) (h : H) (w : World) : Prop where
  obj : ∀ id s, h.m id = s → s.isObj = true → ∃ b o, ρ.map id 0 = some (b, 0) ∧ base ≤ b ∧ w.heap[b]? = some o ∧ RO ρ b s o
  sep : ∀ id id' s s' b b', id ≠ id' → h.m id = s → s.isObj = true → h.m id' = s' → s'.isObj = true → ρ.map id 0 = some (b, 0) → ρ.map id' 0 = some (b', 0) → b ≠ b'
  df : ∀ D, ρ.df D → w.heap[D]? = some (.deferred (some []))
  lp : ∀ b K, ρ.lp b = some K → b < w.heap.size
theorem Objs.keep {base : Nat} {ρ ρ' : Ren} {h h' : H} {w w' : World} (ho : Objs base ρ h w) (hle : ρ.le ρ') (hm : ∀ id s, h'.m id = s → s.isObj = true → h.m id = s) (hdf : ∀ D, ρ'.df D → ρ.df D) (hlp : ∀ b K, ρ'.lp b = some K → ρ.lp b = some K)
    (hw : ∀ (b : Nat) (o : Obj), w.heap[b]? = some o → (∀ c t f, o ≠ Obj.cells c t f) → w'.heap[b]? = some o) (hsz : w.heap.size ≤ w'.heap.size) : Objs base ρ' h' w' := by
  have back : ∀ id s b, h'.m id = s → s.isObj = true → ρ'.map id 0 = some b → ρ.map id 0 = some b := fun id s b h1 h2 h3 => by
    obtain ⟨b0, o, k1, _, _, _⟩ := ho.obj id s (hm id s h1 h2) h2
    rw [hle.1 _ _ _ k1] at h3
    rw [k1, h3]
  refine ⟨fun id s h1 h2 => ?_, fun id id' s s' b b' hne h1 h2 h3 h4 h5 h6 => ?_, fun D hD => ?_, fun b K hb => Nat.lt_of_lt_of_le (ho.lp b K (hlp b K hb)) hsz⟩
  · obtain ⟨b, o, k1, k2, k3, k4⟩ := ho.obj id s (hm id s h1 h2) h2
    exact ⟨b, o, hle.1 _ _ _ k1, k2, hw b o k3 (RO_cells k4).1, RO_mono hle k4⟩
  · exact ho.sep id id' s s' b b' hne (hm id s h1 h2) h2 (hm id' s' h3 h4) h4 (back id s _ h1 h2 h5) (back id' s' _ h3 h4 h6)
  · exact hw D _ (ho.df D (hdf D hD)) (fun _ _ _ e => by cases e)
/-- The listed variables hold what they hold. -/
def GL (base : Nat) (w : World) : Prop := ∀ p ∈ gls, p.1 < base ∧ ∃ t fr, w.heap[p.1]? = some (.cells p.2 t fr)
theorem GL.below {base : Nat} {w w' : World} (h : GL base w) (hb : Below base w w') : GL base w' := fun p hp =>
  let ⟨h1, t, fr, h2⟩ := h p hp
  ⟨h1, t, fr, by rw [hb.block _ h1]; exact h2⟩
theorem GL.mono {base base' : Nat} {w : World} (h : GL base w) (hb : base ≤ base') : GL base' w := fun p hp => ⟨Nat.lt_of_lt_of_le (h p hp).1 hb, (h p hp).2⟩
structure Rel (base : Nat) (ρ : Ren) (h : H) (w : World) : Prop where
  gl : GL base w
  hb : base ≤ w.heap.size
  used : ∀ id g x, ρ.map id g = some x → h.m id ≠ .fresh
  own : ∀ id cs e, h.m id = .own cs e → ∃ b x c t, ρ.map id cs.length = some (b, x) ∧ base ≤ b ∧ w.heap[b]? = some (.cells c t (0, 0)) ∧
    c.size = cs.length + x * e ∧ RC ρ cs (c.toList.take cs.length)
  gens : ∀ id g x cs e, ρ.map id g = some x → h.m id = .own cs e → g ≤ cs.length
  top : ∀ id, h.next ≤ id → h.m id = .fresh
  sep : ∀ id id' cs cs' e e' b x b' x', id ≠ id' → h.m id = .own cs e → h.m id' = .own cs' e' → ρ.map id cs.length = some (b, x) → ρ.map id' cs'.length = some (b', x') → b ≠ b'
  fzok : ∀ f b i us, ρ.fz f b i us → ∃ c t fr, w.heap[b]? = some (.cells c t fr) ∧ ∀ j u, us[j]? = some u → c[i + j]? = some u
  fznew : ∀ b i us, ρ.fz true b i us → base ≤ b
  fzsep : ∀ f b i us id cs e x, ρ.fz f b i us → h.m id = .own cs e → ρ.map id cs.length ≠ some (b, x)
  objs : Objs base ρ h w

section heaps
variable {base : Nat} {ρ : Ren} {h : H} {w : World}
/-- What was there stays: the relation stays. -/
theorem Rel.ext (hr : Rel base ρ h w) {w' : World} (hx : Below w.heap.size w w') : Rel base ρ h w' := by
  have hk : ∀ (b : Nat) (o : Obj), w.heap[b]? = some o → w'.heap[b]? = some o := fun b o e => by
    rw [hx.block b (Array.getElem?_eq_some_iff.1 e).1]; exact e
  refine ⟨hr.gl.below (hx.mono hr.hb), Nat.le_trans hr.hb hx.size, hr.used, fun id cs e hm => ?_, hr.gens, hr.top, hr.sep, fun f b i us hf => ?_, hr.fznew, hr.fzsep, hr.objs.keep (Ren.le.refl _) (fun _ _ h _ => h) (fun _ h => h) (fun _ _ h => h) (fun b o e _ => hk b o e) hx.size⟩
  · obtain ⟨b, x, c, t, h1, h2, h3, h4, h5⟩ := hr.own id cs e hm
    exact ⟨b, x, c, t, h1, h2, hk _ _ h3, h4, h5⟩
  · obtain ⟨c, t, fr, h1, h2⟩ := hr.fzok f b i us hf
    exact ⟨c, t, fr, hk _ _ h1, h2⟩
/-- A name more for a block. -/
def Ren.with (ρ : Ren) (id g : Nat) (x : Nat × Nat) : Ren := { ρ with map := fun i j => if i = id ∧ j = g then some x else ρ.map i j }
theorem Ren.with_le {id g : Nat} {x : Nat × Nat} (hn : ρ.map id g = none) : ρ.le (ρ.with id g x) := by
  refine ⟨fun i j y hy => ?_, fun _ _ _ _ h => h, fun _ h => h, fun _ _ h => h⟩
  simp only [Ren.with]
  split
  · rename_i hc; obtain ⟨rfl, rfl⟩ := hc; rw [hn] at hy; cases hy
  · exact hy
theorem Ren.with_same (id g : Nat) (x : Nat × Nat) : (ρ.with id g x).map id g = some x := by simp [Ren.with]
theorem Ren.with_other {id g i j : Nat} {x : Nat × Nat} (hn : ¬ (i = id ∧ j = g)) : (ρ.with id g x).map i j = ρ.map i j := by simp [Ren.with, hn]
/-- A new block of the call's own, under a number that is fresh. -/
theorem Rel.make (hr : Rel base ρ h w) {id : Nat} (hf : h.m id = .fresh) {cs : List V} {e x : Nat} {c : Array Value} {t : TypeId} (hc : RC ρ cs (c.toList.take cs.length))
    (hs : c.size = cs.length + x * e) {h' : H} (hm : h'.m = fun i => bif Nat.beq i id then .own cs e else h.m i) (hn : h.next ≤ h'.next) (hid : id < h'.next) :
    ρ.le (ρ.with id cs.length (w.heap.size, x)) ∧ Rel base (ρ.with id cs.length (w.heap.size, x)) h' (w.alloc (.cells c t)) := by
  have hnone : ∀ g, ρ.map id g = none := fun g => by
    cases hq : ρ.map id g with
    | none => rfl
    | some y => exact absurd hf (hr.used id g y hq)
  have hle : ρ.le (ρ.with id cs.length (w.heap.size, x)) := Ren.with_le (hnone _)
  have hsame : h'.m id = .own cs e := by rw [hm]; simp
  have hother : ∀ i, i ≠ id → h'.m i = h.m i := fun i hi => by
    rw [hm]
    have : Nat.beq i id = false := beq_ne hi
    simp [this]
  have hb0 := Below.refl w.heap.size w
  have hext := hr.ext (hb0.alloc (Nat.le_refl _) (.cells c t))
  refine ⟨hle, ⟨hext.gl, hext.hb, fun i g y hy => ?_, fun i cs' e' hi => ?_, fun i g y cs' e' hy hi => ?_, fun i hi => ?_, ?_, fun f b i us hfz => ?_, hr.fznew, ?_, hext.objs.keep hle (fun i s hi hs => by
    by_cases hii : i = id
    · subst hii; rw [hsame] at hi; subst hi; cases hs
    · rw [← hother i hii]; exact hi) (fun _ h => h) (fun _ _ h => h) (fun _ _ e _ => e) (Nat.le_refl _)⟩⟩
  · by_cases hi : i = id
    · subst hi; rw [hsame]; simp
    · rw [hother i hi]
      rw [Ren.with_other (fun hh => hi hh.1)] at hy
      exact hr.used i g y hy
  · by_cases hii : i = id
    · subst hii
      rw [hsame] at hi
      cases hi
      refine ⟨w.heap.size, x, c, t, Ren.with_same _ _ _, hr.hb, heap_alloc_new w _, hs, RC_mono hle _ _ hc⟩
    · rw [hother i hii] at hi
      obtain ⟨b, y, c', t', h1, h2, h3, h4, h5⟩ := hext.own i cs' e' hi
      exact ⟨b, y, c', t', hle.1 _ _ _ h1, h2, h3, h4, RC_mono hle _ _ h5⟩
  · by_cases hii : i = id
    · subst hii
      rw [hsame] at hi
      cases hi
      by_cases hg : g = cs.length
      · omega
      · rw [Ren.with_other (fun hh => hg hh.2), hnone g] at hy; cases hy
    · rw [hother i hii] at hi
      rw [Ren.with_other (fun hh => hii hh.1)] at hy
      exact hr.gens i g y cs' e' hy hi
  · rw [hother i (by omega)]; exact hr.top i (by omega)
  · intro i i' c1 c2 e1 e2 b y b' y' hne h1 h2 h3 h4
    by_cases hi : i = id
    · subst hi
      rw [hsame] at h1; cases h1
      rw [Ren.with_same] at h3; cases h3
      rw [hother i' (Ne.symm hne)] at h2
      rw [Ren.with_other (fun hh => hne hh.1.symm)] at h4
      obtain ⟨b2, x2, c3, t3, k1, k2, k3, k4, k5⟩ := hr.own i' c2 e2 h2
      rw [k1] at h4; cases h4
      have := (Array.getElem?_eq_some_iff.1 k3).1
      omega
    · by_cases hi' : i' = id
      · subst hi'
        rw [hsame] at h2; cases h2
        rw [Ren.with_same] at h4; cases h4
        rw [hother i hi] at h1
        rw [Ren.with_other (fun hh => hi hh.1)] at h3
        obtain ⟨b2, x2, c3, t3, k1, k2, k3, k4, k5⟩ := hr.own i c1 e1 h1
        rw [k1] at h3; cases h3
        have := (Array.getElem?_eq_some_iff.1 k3).1
        omega
      · rw [hother i hi] at h1
        rw [hother i' hi'] at h2
        rw [Ren.with_other (fun hh => hi hh.1)] at h3
        rw [Ren.with_other (fun hh => hi' hh.1)] at h4
        exact hr.sep i i' c1 c2 e1 e2 b y b' y' hne h1 h2 h3 h4
  · exact hext.fzok f b i us hfz
  · intro f b i us id' cs' e' y hfz hi
    by_cases hii : id' = id
    · subst hii
      rw [hsame] at hi; cases hi
      rw [Ren.with_same]
      intro he; cases he
      obtain ⟨c3, t3, fr, k1, _⟩ := hr.fzok f _ i us hfz
      have := (Array.getElem?_eq_some_iff.1 k1).1
      omega
    · rw [hother id' hii] at hi
      rw [Ren.with_other (fun hh => hii hh.1)]
      exact hr.fzsep f b i us id' cs' e' y hfz hi
/-- A row more that nobody writes. -/
def Ren.froze (ρ : Ren) (b : Nat) (us : List Value) : Ren := { ρ with fz := fun f b' i us' => (b' = b ∧ i = 0 ∧ us' = us) ∨ ρ.fz f b' i us' }
theorem Ren.froze_le {b : Nat} {us : List Value} : ρ.le (ρ.froze b us) := ⟨fun _ _ _ h => h, fun _ _ _ _ h => .inr h, fun _ h => h, fun _ _ h => h⟩
theorem Rel.lit (hr : Rel base ρ h w) (c : Array Value) (t : TypeId) : Rel base (ρ.froze w.heap.size c.toList) h (w.alloc (.cells c t)) := by
  have hext := hr.ext ((Below.refl w.heap.size w).alloc (Nat.le_refl _) (.cells c t))
  refine ⟨hext.gl, hext.hb, hext.used, fun id cs e hm => ?_, hext.gens, hext.top, hext.sep, fun f b i us hf => ?_, fun b i us hf => ?_, fun f b i us id cs e x hf hm => ?_, hext.objs.keep Ren.froze_le (fun _ _ h _ => h) (fun _ h => h) (fun _ _ h => h) (fun _ _ e _ => e) (Nat.le_refl _)⟩
  · obtain ⟨b, x, c', t', h1, h2, h3, h4, h5⟩ := hext.own id cs e hm
    exact ⟨b, x, c', t', h1, h2, h3, h4, RC_mono Ren.froze_le _ _ h5⟩
  · rcases hf with ⟨rfl, rfl, rfl⟩ | hf
    · exact ⟨c, t, (0, 0), heap_alloc_new w _, fun j u hu => by simpa using hu⟩
    · exact hext.fzok f b i us hf
  · rcases hf with ⟨rfl, rfl, rfl⟩ | hf
    · exact hr.hb
    · exact hr.fznew b i us hf
  · rcases hf with ⟨rfl, rfl, rfl⟩ | hf
    · intro he
      obtain ⟨b2, x2, c3, t3, k1, k2, k3, k4, k5⟩ := hr.own id cs e hm
      have he' : ρ.map id cs.length = some (w.heap.size, x) := he
      rw [k1] at he'; cases he'
      have := (Array.getElem?_eq_some_iff.1 k3).1
      omega
    · exact hext.fzsep f b i us id cs e x hf hm
/-- A block of the call's own is written: its size stays. -/
theorem Rel.write (hr : Rel base ρ h w) {id : Nat} {cs cs' : List V} {e b x : Nat} {c c' : Array Value} {t : TypeId} (hm : h.m id = .own cs e) (hb : ρ.map id cs.length = some (b, x))
    (hc : w.heap[b]? = some (.cells c t (0, 0))) (hl : cs'.length = cs.length) (hs : c'.size = c.size) (hrc : RC ρ cs' (c'.toList.take cs'.length)) :
    Rel base ρ (h.put id (.own cs' e)) (w.setRow b c') ∧ Below base w (w.setRow b c') := by
  have hsame : (h.put id (.own cs' e)).m id = .own cs' e := by simp [H.put]
  have hother : ∀ i, i ≠ id → (h.put id (.own cs' e)).m i = h.m i := fun i hi => by
    have : Nat.beq i id = false := beq_ne hi
    simp [H.put, this]
  obtain ⟨b0, x0, c0, t0, k1, k2, k3, k4, k5⟩ := hr.own id cs e hm
  rw [hb] at k1; cases k1
  rw [hc] at k3; cases k3
  have hset : (w.setRow b c').heap[b]? = some (.cells c' t (0, 0)) := setRow_heap w b c c' t (0, 0) hc
  have hoth : ∀ k, k ≠ b → (w.setRow b c').heap[k]? = w.heap[k]? := fun k hk => setRow_other w b k c' hk
  have hsz : (w.setRow b c').heap.size = w.heap.size := by simp [World.setRow]
  refine ⟨⟨hr.gl.below ⟨⟨rfl, rfl, rfl, by rw [hsz]; exact Nat.le_refl _, fun k hk => hoth k (by omega)⟩, Nat.le_refl _⟩, by rw [hsz]; exact hr.hb, fun i g y hy => ?_, fun i cs1 e1 hi => ?_, fun i g y cs1 e1 hy hi => ?_, fun i hi => ?_, ?_, fun f b1 i us hf => ?_, hr.fznew, ?_, hr.objs.keep (Ren.le.refl _) (fun i s hi hs => by
    by_cases hii : i = id
    · subst hii; rw [hsame] at hi; subst hi; cases hs
    · rw [← hother i hii]; exact hi) (fun _ h => h) (fun _ _ h => h) (fun k o e hn => by
      rw [hoth k (fun he => by subst he; rw [hc] at e; cases e; exact hn _ _ _ rfl)]; exact e) (by rw [hsz]; exact Nat.le_refl _)⟩, ⟨⟨rfl, rfl, rfl, by rw [hsz]; exact Nat.le_refl _, fun k hk => hoth k (by omega)⟩, Nat.le_refl _⟩⟩
  · by_cases hi : i = id
    · subst hi; rw [hsame]; simp
    · rw [hother i hi]; exact hr.used i g y hy
  · by_cases hii : i = id
    · subst hii
      rw [hsame] at hi; cases hi
      exact ⟨b, x, c', t, by rw [hl]; exact hb, k2, hset, by rw [hs, hl]; exact k4, hrc⟩
    · rw [hother i hii] at hi
      obtain ⟨b1, y, c1, t1, h1, h2, h3, h4, h5⟩ := hr.own i cs1 e1 hi
      exact ⟨b1, y, c1, t1, h1, h2, by rw [hoth b1 (hr.sep i id cs1 cs e1 e b1 y b x hii hi hm h1 hb)]; exact h3, h4, h5⟩
  · by_cases hii : i = id
    · subst hii
      rw [hsame] at hi; cases hi
      rw [hl]; exact hr.gens i g y cs e hy hm
    · rw [hother i hii] at hi; exact hr.gens i g y cs1 e1 hy hi
  · have hi' : h.next ≤ i := hi
    by_cases hii : i = id
    · subst hii; rw [hr.top i hi'] at hm; cases hm
    · rw [hother i hii]; exact hr.top i hi'
  · intro i i' c1 c2 e1 e2 b1 y b' y' hne h1 h2 h3 h4
    by_cases hi : i = id
    · subst hi
      rw [hsame] at h1; cases h1
      rw [hl] at h3
      rw [hother i' (Ne.symm hne)] at h2
      exact hr.sep i i' cs c2 e e2 b1 y b' y' hne hm h2 h3 h4
    · by_cases hi' : i' = id
      · subst hi'
        rw [hsame] at h2; cases h2
        rw [hl] at h4
        rw [hother i hi] at h1
        exact hr.sep i i' c1 cs e1 e b1 y b' y' hne h1 hm h3 h4
      · rw [hother i hi] at h1
        rw [hother i' hi'] at h2
        exact hr.sep i i' c1 c2 e1 e2 b1 y b' y' hne h1 h2 h3 h4
  · obtain ⟨c1, t1, fr, h1, h2⟩ := hr.fzok f b1 i us hf
    exact ⟨c1, t1, fr, by rw [hoth b1 (fun he => hr.fzsep f b1 i us id cs e x hf hm (he ▸ hb))]; exact h1, h2⟩
  · intro f b1 i us id' cs1 e1 y hf hi
    by_cases hii : id' = id
    · subst hii
      rw [hsame] at hi; cases hi
      rw [hl]; exact hr.fzsep f b1 i us id' cs e y hf hm
    · rw [hother id' hii] at hi
      exact hr.fzsep f b1 i us id' cs1 e1 y hf hi
/-- A block of the call's own grows: into its spare room, or into a block made anew. -/
theorem Rel.grow (hr : Rel base ρ h w) {id : Nat} {cs cs' : List V} {e b x b' x' : Nat} {c' : Array Value} {t : TypeId} {w' : World} (hm : h.m id = .own cs e) (hb : ρ.map id cs.length = some (b, x))
    (hl : cs.length < cs'.length) (hbel : Below base w w') (hoth : ∀ k, k < w.heap.size → k ≠ b → w'.heap[k]? = w.heap[k]?) (hb' : b' = b ∨ w.heap.size ≤ b')
    (hc : w'.heap[b']? = some (.cells c' t (0, 0))) (hs : c'.size = cs'.length + x' * e) (hrc : RC ρ cs' (c'.toList.take cs'.length)) :
    ρ.le (ρ.with id cs'.length (b', x')) ∧ Rel base (ρ.with id cs'.length (b', x')) (h.put id (.own cs' e)) w' := by
  have hsame : (h.put id (.own cs' e)).m id = .own cs' e := by simp [H.put]
  have hother : ∀ i, i ≠ id → (h.put id (.own cs' e)).m i = h.m i := fun i hi => by
    have : Nat.beq i id = false := beq_ne hi
    simp [H.put, this]
  have hnone : ρ.map id cs'.length = none := by
    cases hq : ρ.map id cs'.length with
    | none => rfl
    | some y => have := hr.gens id _ y cs e hq hm; omega
  have hle : ρ.le (ρ.with id cs'.length (b', x')) := Ren.with_le hnone
  obtain ⟨b0, x0, c0, t0, k1, k2, k3, k4, k5⟩ := hr.own id cs e hm
  rw [hb] at k1; cases k1
  have hbb : base ≤ b' := by have := hr.hb; rcases hb' with rfl | hb' <;> omega
  refine ⟨hle, ⟨hr.gl.below hbel, Nat.le_trans hr.hb hbel.size, fun i g y hy => ?_, fun i cs1 e1 hi => ?_, fun i g y cs1 e1 hy hi => ?_, fun i hi => ?_, ?_, fun f b1 i us hf => ?_, hr.fznew, ?_, hr.objs.keep hle (fun i s hi hs => by
    by_cases hii : i = id
    · subst hii; rw [hsame] at hi; subst hi; cases hs
    · rw [← hother i hii]; exact hi) (fun _ h => h) (fun _ _ h => h) (fun k o e hn => by
      rw [hoth k (Array.getElem?_eq_some_iff.1 e).1 (fun he => by subst he; rw [k3] at e; cases e; exact hn _ _ _ rfl)]; exact e) hbel.size⟩⟩
  · by_cases hi : i = id
    · subst hi; rw [hsame]; simp
    · rw [hother i hi]
      rw [Ren.with_other (fun hh => hi hh.1)] at hy
      exact hr.used i g y hy
  · by_cases hii : i = id
    · subst hii
      rw [hsame] at hi; cases hi
      exact ⟨b', x', c', t, Ren.with_same _ _ _, hbb, hc, hs, RC_mono hle _ _ hrc⟩
    · rw [hother i hii] at hi
      obtain ⟨b1, y, c1, t1, h1, h2, h3, h4, h5⟩ := hr.own i cs1 e1 hi
      exact ⟨b1, y, c1, t1, hle.1 _ _ _ h1, h2, by rw [hoth b1 (Array.getElem?_eq_some_iff.1 h3).1 (hr.sep i id cs1 cs e1 e b1 y b x hii hi hm h1 hb)]; exact h3, h4, RC_mono hle _ _ h5⟩
  · by_cases hii : i = id
    · subst hii
      rw [hsame] at hi; cases hi
      by_cases hg : g = cs'.length
      · omega
      · rw [Ren.with_other (fun hh => hg hh.2)] at hy
        have := hr.gens i g y cs e hy hm
        omega
    · rw [hother i hii] at hi
      rw [Ren.with_other (fun hh => hii hh.1)] at hy
      exact hr.gens i g y cs1 e1 hy hi
  · have hi' : h.next ≤ i := hi
    by_cases hii : i = id
    · subst hii; rw [hr.top i hi'] at hm; cases hm
    · rw [hother i hii]; exact hr.top i hi'
  · have key : ∀ i c1 e1 b1 y, i ≠ id → h.m i = .own c1 e1 → ρ.map i c1.length = some (b1, y) → b1 ≠ b' := fun i c1 e1 b1 y hne h1 h3 => by
      obtain ⟨b2, y2, c2, t2, j1, j2, j3, j4, j5⟩ := hr.own i c1 e1 h1
      rw [h3] at j1; cases j1
      have hlt := (Array.getElem?_eq_some_iff.1 j3).1
      rcases hb' with rfl | hb'
      · exact hr.sep i id c1 cs e1 e b1 y b' x hne h1 hm h3 hb
      · omega
    intro i i' c1 c2 e1 e2 b1 y b2 y' hne h1 h2 h3 h4
    by_cases hi : i = id
    · subst hi
      rw [hsame] at h1; cases h1
      rw [Ren.with_same] at h3; cases h3
      rw [hother i' (Ne.symm hne)] at h2
      rw [Ren.with_other (fun hh => hne hh.1.symm)] at h4
      exact (key i' c2 e2 b2 y' (Ne.symm hne) h2 h4).symm
    · by_cases hi' : i' = id
      · subst hi'
        rw [hsame] at h2; cases h2
        rw [Ren.with_same] at h4; cases h4
        rw [hother i hi] at h1
        rw [Ren.with_other (fun hh => hi hh.1)] at h3
        exact key i c1 e1 b1 y hi h1 h3
      · rw [hother i hi] at h1
        rw [hother i' hi'] at h2
        rw [Ren.with_other (fun hh => hi hh.1)] at h3
        rw [Ren.with_other (fun hh => hi' hh.1)] at h4
        exact hr.sep i i' c1 c2 e1 e2 b1 y b2 y' hne h1 h2 h3 h4
  · obtain ⟨c1, t1, fr, h1, h2⟩ := hr.fzok f b1 i us hf
    exact ⟨c1, t1, fr, by rw [hoth b1 (Array.getElem?_eq_some_iff.1 h1).1 (fun he => hr.fzsep f b1 i us id cs e x hf hm (he ▸ hb))]; exact h1, h2⟩
  · intro f b1 i us id' cs1 e1 y hf hi
    by_cases hii : id' = id
    · subst hii
      rw [hsame] at hi; cases hi
      rw [Ren.with_same]
      intro he; cases he
      rcases hb' with rfl | hb'
      · exact hr.fzsep f _ i us id' cs e x hf hm hb
      · obtain ⟨c1, t1, fr, h1, h2⟩ := hr.fzok f _ i us hf
        have := (Array.getElem?_eq_some_iff.1 h1).1
        omega
    · rw [hother id' hii] at hi
      rw [Ren.with_other (fun hh => hii hh.1)]
      exact hr.fzsep f b1 i us id' cs1 e1 y hf hi
/-- A map more, or the record of a loop. -/
theorem Rel.newObj (hr : Rel base ρ h w) {s : Slot} (hs : s.isObj = true) (K : Option Loop) {o : Obj} (hro : RO { (ρ.with h.next 0 (w.heap.size, 0)) with lp := fun b => if b = w.heap.size then K else ρ.lp b } w.heap.size s o) :
    ρ.le { (ρ.with h.next 0 (w.heap.size, 0)) with lp := fun b => if b = w.heap.size then K else ρ.lp b } ∧ Rel base { (ρ.with h.next 0 (w.heap.size, 0)) with lp := fun b => if b = w.heap.size then K else ρ.lp b } (h.newS s) (w.alloc o) := by
  have hfresh : h.m h.next = .fresh := hr.top _ (Nat.le_refl _)
  have hnone : ∀ g, ρ.map h.next g = none := fun g => by
    cases hq : ρ.map h.next g with
    | none => rfl
    | some y => exact absurd hfresh (hr.used h.next g y hq)
  generalize hρ : ({ (ρ.with h.next 0 (w.heap.size, 0)) with lp := fun b => if b = w.heap.size then K else ρ.lp b } : Ren) = ρ' at *
  have hmap : ρ'.map = (ρ.with h.next 0 (w.heap.size, 0)).map := by rw [← hρ]
  have hfz : ρ'.fz = ρ.fz := by rw [← hρ]; rfl
  have hdf : ρ'.df = ρ.df := by rw [← hρ]; rfl
  have hlp : ∀ b, b ≠ w.heap.size → ρ'.lp b = ρ.lp b := fun b hb => by rw [← hρ]; simp [hb]
  have hle : ρ.le ρ' := ⟨fun i g x hx => by rw [hmap]; exact (Ren.with_le (hnone 0)).1 i g x hx, fun _ _ _ _ h => by rw [hfz]; exact h, fun _ h => by rw [hdf]; exact h, fun b K' h => by
    rw [hlp b (Nat.ne_of_lt (hr.objs.lp b K' h))]; exact h⟩
  have hsame : (h.newS s).m h.next = s := by simp [H.newS]
  have hother : ∀ i, i ≠ h.next → (h.newS s).m i = h.m i := fun i hi => by
    have : Nat.beq i h.next = false := beq_ne hi
    simp [H.newS, this]
  have hsown : ∀ cs e, s ≠ .own cs e := fun cs e he => by subst he; cases hs
  have hext := hr.ext ((Below.refl w.heap.size w).alloc (Nat.le_refl _) o)
  have hmo : ∀ i g, i ≠ h.next → ρ'.map i g = ρ.map i g := fun i g hi => by rw [hmap]; exact Ren.with_other (fun hh => hi hh.1)
  have hms : ρ'.map h.next 0 = some (w.heap.size, 0) := by rw [hmap]; exact Ren.with_same _ _ _
  have hown : ∀ i cs e, (h.newS s).m i = .own cs e → i ≠ h.next ∧ h.m i = .own cs e := fun i cs e hi => by
    by_cases hii : i = h.next
    · subst hii; rw [hsame] at hi; exact absurd hi (hsown _ _)
    · exact ⟨hii, by rw [← hother i hii]; exact hi⟩
  refine ⟨hle, ⟨hext.gl, hext.hb, fun i g y hy => ?_, fun i cs e hi => ?_, fun i g y cs e hy hi => ?_, fun i hi => ?_, ?_, fun f b i us hf => ?_, fun b i us hf => ?_, ?_, ?_⟩⟩
  · by_cases hi : i = h.next
    · subst hi; rw [hsame]; intro he; subst he; cases hs
    · rw [hother i hi]; rw [hmo i g hi] at hy; exact hr.used i g y hy
  · obtain ⟨hii, hi⟩ := hown i cs e hi
    obtain ⟨b, x, c, t, k1, k2, k3, k4, k5⟩ := hext.own i cs e hi
    exact ⟨b, x, c, t, hle.1 _ _ _ k1, k2, k3, k4, RC_mono hle _ _ k5⟩
  · obtain ⟨hii, hi⟩ := hown i cs e hi
    rw [hmo i g hii] at hy
    exact hr.gens i g y cs e hy hi
  · have hi' : h.next + 1 ≤ i := hi
    rw [hother i (by omega)]; exact hr.top i (by omega)
  · intro i i' c1 c2 e1 e2 b y b' y' hne h1 h2 h3 h4
    obtain ⟨hi1, h1⟩ := hown i c1 e1 h1
    obtain ⟨hi2, h2⟩ := hown i' c2 e2 h2
    rw [hmo _ _ hi1] at h3
    rw [hmo _ _ hi2] at h4
    exact hr.sep i i' c1 c2 e1 e2 b y b' y' hne h1 h2 h3 h4
  · rw [hfz] at hf; exact hext.fzok f b i us hf
  · rw [hfz] at hf; exact hr.fznew b i us hf
  · intro f b i us id cs e x hf hi
    obtain ⟨hii, hi⟩ := hown id cs e hi
    rw [hmo _ _ hii]; rw [hfz] at hf
    exact hr.fzsep f b i us id cs e x hf hi
  · have hobj : ∀ i s', (h.newS s).m i = s' → s'.isObj = true → i ≠ h.next → ∃ b o, ρ.map i 0 = some (b, 0) ∧ base ≤ b ∧ b < w.heap.size ∧ (w.alloc (Obj.cells #[] 0)).heap[b]? = some o ∧ RO ρ b s' o := fun i s' h1 h2 hii => by
      rw [hother i hii] at h1
      obtain ⟨b, o', k1, k2, k3, k4⟩ := hr.objs.obj i s' h1 h2
      have hlt := (Array.getElem?_eq_some_iff.1 k3).1
      exact ⟨b, o', k1, k2, hlt, by rw [Go.RowKit.Below.heap_alloc w _ b hlt]; exact k3, k4⟩
    refine ⟨fun i s' h1 h2 => ?_, fun i i' s1 s2 b b' hne h1 h2 h3 h4 h5 h6 => ?_, fun D hD => ?_, fun b K' hb => ?_⟩
    · by_cases hii : i = h.next
      · subst hii
        rw [hsame] at h1
        subst h1
        exact ⟨w.heap.size, o, hms, hr.hb, heap_alloc_new w _, hro⟩
      · rw [hother i hii] at h1
        obtain ⟨b, o', k1, k2, k3, k4⟩ := hext.objs.obj i s' h1 h2
        exact ⟨b, o', hle.1 _ _ _ k1, k2, k3, RO_mono hle k4⟩
    · have key : ∀ i s' b, (h.newS s).m i = s' → s'.isObj = true → i ≠ h.next → ρ'.map i 0 = some (b, 0) → b < w.heap.size := fun i s' b h1 h2 hii h3 => by
        obtain ⟨b0, o', k1, k2, k3, _⟩ := hobj i s' h1 h2 hii
        rw [hmo i 0 hii, k1] at h3
        cases h3; exact k3
      by_cases hi1 : i = h.next
      · subst hi1
        rw [hms] at h5; cases h5
        have := key i' s2 b' h3 h4 (Ne.symm hne) h6
        omega
      · by_cases hi2 : i' = h.next
        · subst hi2
          rw [hms] at h6; cases h6
          have := key i s1 b h1 h2 hi1 h5
          omega
        · rw [hother i hi1] at h1
          rw [hother i' hi2] at h3
          rw [hmo i 0 hi1] at h5
          rw [hmo i' 0 hi2] at h6
          exact hr.objs.sep i i' s1 s2 b b' hne h1 h2 h3 h4 h5 h6
    · rw [hdf] at hD; exact hext.objs.df D hD
    · rw [World.size_alloc]
      by_cases hbb : b = w.heap.size
      · omega
      · rw [hlp b hbb] at hb
        have := hr.objs.lp b K' hb
        omega
/-- A map, or the record of a loop, is turned. -/
theorem Rel.setObj (hr : Rel base ρ h w) {id b : Nat} {s s' : Slot} {o' : Obj} (hm : h.m id = s) (hs : s.isObj = true) (hs' : s'.isObj = true) (hb : ρ.map id 0 = some (b, 0)) (hro : RO ρ b s' o') :
    Rel base ρ (h.put id s') (w.putObj b o') ∧ Below base w (w.putObj b o') := by
  have hsame : (h.put id s').m id = s' := by simp [H.put]
  have hother : ∀ i, i ≠ id → (h.put id s').m i = h.m i := fun i hi => by
    have : Nat.beq i id = false := beq_ne hi
    simp [H.put, this]
  obtain ⟨b0, o, k1, k2, k3, k4⟩ := hr.objs.obj id s hm hs
  rw [hb] at k1; cases k1
  have hlt := (Array.getElem?_eq_some_iff.1 k3).1
  have hset : (w.putObj b o').heap[b]? = some o' := World.putObj_heap_same hlt
  have hoth : ∀ k, k ≠ b → (w.putObj b o').heap[k]? = w.heap[k]? := fun k hk => World.putObj_heap_other hk
  have hsz : (w.putObj b o').heap.size = w.heap.size := World.putObj_size
  have hne : ∀ k c t f, w.heap[k]? = some (.cells c t f) → k ≠ b := fun k c t f hk he => by
    subst he; rw [k3] at hk; cases hk; exact (RO_cells k4).1 _ _ _ rfl
  have hown : ∀ i cs e, (h.put id s').m i = .own cs e → i ≠ id ∧ h.m i = .own cs e := fun i cs e hi => by
    by_cases hii : i = id
    · subst hii; rw [hsame] at hi; subst hi; cases hs'
    · exact ⟨hii, by rw [← hother i hii]; exact hi⟩
  refine ⟨⟨hr.gl.below ⟨⟨rfl, rfl, rfl, by rw [hsz]; exact Nat.le_refl _, fun k hk => hoth k (by omega)⟩, Nat.le_refl _⟩, by rw [hsz]; exact hr.hb, fun i g y hy => ?_, fun i cs e hi => ?_, fun i g y cs e hy hi => ?_, fun i hi => ?_, ?_, fun f b1 i us hf => ?_, hr.fznew, ?_, ?_⟩, ⟨⟨rfl, rfl, rfl, by rw [hsz]; exact Nat.le_refl _, fun k hk => hoth k (by omega)⟩, Nat.le_refl _⟩⟩
  · by_cases hi : i = id
    · subst hi; rw [hsame]; intro he; subst he; cases hs'
    · rw [hother i hi]; exact hr.used i g y hy
  · obtain ⟨hii, hi⟩ := hown i cs e hi
    obtain ⟨b1, x, c, t, j1, j2, j3, j4, j5⟩ := hr.own i cs e hi
    exact ⟨b1, x, c, t, j1, j2, by rw [hoth b1 (hne _ _ _ _ j3)]; exact j3, j4, j5⟩
  · exact hr.gens i g y cs e hy (hown i cs e hi).2
  · have hi' : h.next ≤ i := hi
    by_cases hii : i = id
    · subst hii; rw [hr.top i hi'] at hm; subst hm; cases hs
    · rw [hother i hii]; exact hr.top i hi'
  · intro i i' c1 c2 e1 e2 b1 y b' y' hnn h1 h2 h3 h4
    exact hr.sep i i' c1 c2 e1 e2 b1 y b' y' hnn (hown _ _ _ h1).2 (hown _ _ _ h2).2 h3 h4
  · obtain ⟨c, t, fr, h1, h2⟩ := hr.fzok f b1 i us hf
    exact ⟨c, t, fr, by rw [hoth b1 (hne _ _ _ _ h1)]; exact h1, h2⟩
  · intro f b1 i us id' cs e x hf hi
    exact hr.fzsep f b1 i us id' cs e x hf (hown _ _ _ hi).2
  · have hob : ∀ i s1, (h.put id s').m i = s1 → s1.isObj = true → i ≠ id → h.m i = s1 := fun i s1 h1 h2 hii => by rw [← hother i hii]; exact h1
    refine ⟨fun i s1 h1 h2 => ?_, fun i i' s1 s2 b1 b2 hnn h1 h2 h3 h4 h5 h6 => ?_, fun D hD => ?_, fun b1 K hb1 => by rw [hsz]; exact hr.objs.lp b1 K hb1⟩
    · by_cases hii : i = id
      · subst hii
        rw [hsame] at h1; subst h1
        exact ⟨b, o', hb, k2, hset, hro⟩
      · obtain ⟨b1, o1, j1, j2, j3, j4⟩ := hr.objs.obj i s1 (hob i s1 h1 h2 hii) h2
        exact ⟨b1, o1, j1, j2, by rw [hoth b1 (hr.objs.sep i id s1 s b1 b hii (hob i s1 h1 h2 hii) h2 hm hs j1 hb)]; exact j3, j4⟩
    · have pick : ∀ i s1, (h.put id s').m i = s1 → s1.isObj = true → ∃ s2, h.m i = s2 ∧ s2.isObj = true := fun i s1 h1 h2 => by
        by_cases hii : i = id
        · subst hii; exact ⟨s, hm, hs⟩
        · exact ⟨s1, hob i s1 h1 h2 hii, h2⟩
      obtain ⟨t1, u1, u2⟩ := pick i s1 h1 h2
      obtain ⟨t2, v1, v2⟩ := pick i' s2 h3 h4
      exact hr.objs.sep i i' t1 t2 b1 b2 hnn u1 u2 v1 v2 h5 h6
    · rw [hoth D (fun he => by subst he; have := hr.objs.df D hD; rw [k3] at this; cases this; exact (RO_cells k4).2 _ rfl)]
      exact hr.objs.df D hD
/-- A block for deferred calls more. -/
theorem Rel.newDef (hr : Rel base ρ h w) : ρ.le { ρ with df := fun D => D = w.heap.size ∨ ρ.df D } ∧ Rel base { ρ with df := fun D => D = w.heap.size ∨ ρ.df D } h (w.alloc (.deferred (some []))) := by
  have hle : ρ.le { ρ with df := fun D => D = w.heap.size ∨ ρ.df D } := ⟨fun _ _ _ h => h, fun _ _ _ _ h => h, fun _ h => .inr h, fun _ _ h => h⟩
  have hext := hr.ext ((Below.refl w.heap.size w).alloc (Nat.le_refl _) (.deferred (some [])))
  refine ⟨hle, ⟨hext.gl, hext.hb, hext.used, fun id cs e hm => ?_, hext.gens, hext.top, hext.sep, hext.fzok, hext.fznew, hext.fzsep, ⟨fun id s h1 h2 => ?_, hext.objs.sep, fun D hD => ?_, hext.objs.lp⟩⟩⟩
  · obtain ⟨b, x, c, t, k1, k2, k3, k4, k5⟩ := hext.own id cs e hm
    exact ⟨b, x, c, t, k1, k2, k3, k4, RC_mono hle _ _ k5⟩
  · obtain ⟨b, o, k1, k2, k3, k4⟩ := hext.objs.obj id s h1 h2
    exact ⟨b, o, k1, k2, k3, RO_mono hle k4⟩
  · rcases hD with rfl | hD
    · exact heap_alloc_new w _
    · exact hext.objs.df D hD
/-- A block for deferred calls is shut. -/
theorem Rel.shutDef (hr : Rel base ρ h w) {D : Nat} (hb : base ≤ D) (hD : ρ.df D) : Rel base { ρ with df := fun E => E ≠ D ∧ ρ.df E } h (w.putObj D (.deferred none)) ∧ Below base w (w.putObj D (.deferred none)) := by
  have k3 := hr.objs.df D hD
  have hoth : ∀ k, k ≠ D → (w.putObj D (.deferred none)).heap[k]? = w.heap[k]? := fun k hk => World.putObj_heap_other hk
  have hsz : (w.putObj D (.deferred none)).heap.size = w.heap.size := World.putObj_size
  have hne : ∀ k c t f, w.heap[k]? = some (.cells c t f) → k ≠ D := fun k c t f hk he => by
    subst he; rw [k3] at hk; cases hk
  have h0 : ρ.le0 { ρ with df := fun E => E ≠ D ∧ ρ.df E } := ⟨fun _ _ _ h => h, fun _ _ _ _ h => h⟩
  refine ⟨⟨hr.gl.below ⟨⟨rfl, rfl, rfl, by rw [hsz]; exact Nat.le_refl _, fun k hk => hoth k (by omega)⟩, Nat.le_refl _⟩, by rw [hsz]; exact hr.hb, hr.used, fun i cs e hi => ?_, hr.gens, hr.top, hr.sep, fun f b1 i us hf => ?_, hr.fznew, hr.fzsep, ⟨fun i s h1 h2 => ?_, hr.objs.sep, fun E hE => ?_, fun b K hK => by rw [hsz]; exact hr.objs.lp b K hK⟩⟩, ⟨⟨rfl, rfl, rfl, by rw [hsz]; exact Nat.le_refl _, fun k hk => hoth k (by omega)⟩, Nat.le_refl _⟩⟩
  · obtain ⟨b1, x, c, t, j1, j2, j3, j4, j5⟩ := hr.own i cs e hi
    exact ⟨b1, x, c, t, j1, j2, by rw [hoth b1 (hne _ _ _ _ j3)]; exact j3, j4, RC_mono0 h0 _ _ j5⟩
  · obtain ⟨c, t, fr, h1, h2⟩ := hr.fzok f b1 i us hf
    exact ⟨c, t, fr, by rw [hoth b1 (hne _ _ _ _ h1)]; exact h1, h2⟩
  · obtain ⟨b1, o1, j1, j2, j3, j4⟩ := hr.objs.obj i s h1 h2
    have : RO { ρ with df := fun E => E ≠ D ∧ ρ.df E } b1 s o1 := RO_mono0 h0 (fun _ _ e => e) j4
    exact ⟨b1, o1, j1, j2, by rw [hoth b1 (fun he => by subst he; rw [k3] at j3; cases j3; exact (RO_cells j4).2 _ rfl)]; exact j3, this⟩
  · rw [hoth E hE.1]; exact hr.objs.df E hE.2
end heaps
end Go.Proofs.YtjkjcnadgpndoaaGreat.Ev
