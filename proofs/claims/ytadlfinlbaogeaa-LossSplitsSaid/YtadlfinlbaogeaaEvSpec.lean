/- Small laws for reasoning about the printed functions: loops, rows of flat cells, ranges of numbers. Conditions: those of each law. -/
import Derived.Test.YtadlfinlbaogeaaEvEntry
import Derived.IntWalk
namespace Go.Proofs.Ytadlfinlbaogeaa.Ev
open Go
set_option linter.unusedVariables false
set_option linter.unusedSimpArgs false

theorem guardO_pos {p : Prop} [Decidable p] {R : Type} (h : p) (x : Option R) : guardO p x = x := by simp [guardO, h]
/-- A loop that takes m rounds and ends. -/
theorem iter_run {S F : Type} {f : S → Option (Stp S F)} {x : F} (st : Nat → S) : ∀ (m n : Nat), (∀ i, i < m → f (st i) = some (.more (st (i + 1)))) → f (st m) = some (.done x) → m < n → iter n f (st 0) = some x
  | 0, 0, _, _, h => by omega
  | 0, n + 1, _, hd, _ => by simp [iter, hd]
  | m + 1, 0, _, _, h => by omega
  | m + 1, n + 1, hs, hd, h => by
    simp only [iter, hs 0 (by omega), Option.bind_some]
    exact iter_run (fun i => st (i + 1)) m n (fun i hi => hs (i + 1) (by omega)) hd (by omega)
/-- A loop with an invariant and a measure that ends. -/
theorem iter_inv {S F : Type} {f : S → Option (Stp S F)} {Inv : S → Prop} {Post : F → Prop} (μ : S → Nat)
    (step : ∀ s, Inv s → (∃ s', f s = some (.more s') ∧ Inv s' ∧ μ s' < μ s) ∨ ∃ x, f s = some (.done x) ∧ Post x) : ∀ (n : Nat) (s : S), Inv s → μ s < n → ∃ x, iter n f s = some x ∧ Post x
  | 0, s, _, h => by omega
  | n + 1, s, hi, h => by
    rcases step s hi with ⟨s', h1, h2, h3⟩ | ⟨x, h1, h2⟩
    · obtain ⟨x, k1, k2⟩ := iter_inv μ step n s' h2 (by omega)
      exact ⟨x, by simp only [iter, h1, Option.bind_some]; exact k1, k2⟩
    · exact ⟨x, by simp [iter, h1], h2⟩

/-! ### Rows of flat cells -/

def flatV : V → Bool
  | .bool _ | .int .. | .str _ | .nil | .nilFunc | .nilIface => true
  | _ => false
theorem snap_flat {lp : Bool} {h : H} {n : Nat} {v : V} (hv : flatV v = true) : snap lp h (n + 1) v = some v := by
  cases v <;> simp_all [flatV, snap]
theorem mapO_flat {lp : Bool} {h : H} {n : Nat} : ∀ {vs : List V}, vs.all flatV = true → mapO (snap lp h (n + 1)) vs = some vs
  | [], _ => rfl
  | v :: vs, hv => by
    simp only [List.all_cons, Bool.and_eq_true] at hv
    simp only [mapO, snap_flat hv.1, Option.bind_some, mapO_flat hv.2]
/-- A slice's cells, of w cells an element. -/
def In (h : H) (s : SV) (w : Nat) (cs : List V) : Prop :=
  cs.length = s.len * w ∧ s.len ≤ s.cap ∧ ((cs = [] ∧ s.a = .nil) ∨ ∃ pre post, (pre ++ cs ++ post).all flatV = true ∧ ((∃ f, s.a = .lp f (pre ++ cs ++ post) pre.length) ∨ ∃ id e, s.a = .hp id (pre ++ cs ++ post).length pre.length ∧ h.m id = .own (pre ++ cs ++ post) e))
/-- Rows that nobody writes: in whatever heap. -/
def Ro (s : SV) (w : Nat) (cs : List V) : Prop := ∀ h, In h s w cs
theorem Ro.lp {f : Bool} {cs : List V} {n w c : Nat} {t : Bool} (hl : cs.length = n * w) (hc : n ≤ c) (hf : cs.all flatV = true) : Ro ⟨.lp f cs 0, n, c, t⟩ w cs := fun h =>
  ⟨hl, hc, .inr ⟨[], [], by simpa using hf, .inl ⟨f, by simp⟩⟩⟩
theorem Ro.nil {w c : Nat} {t : Bool} : Ro ⟨.nil, 0, c, t⟩ w [] := fun h => ⟨by simp, Nat.zero_le _, .inl ⟨rfl, rfl⟩⟩
theorem In.from {h : H} {s : SV} {w : Nat} {cs : List V} (hi : In h s w cs) : cs = [] ∨ ∃ post, h.from s.a = some (cs ++ post) := by
  obtain ⟨h1, h2, h3⟩ := hi
  rcases h3 with ⟨rfl, h4⟩ | ⟨pre, post, hf, ⟨f, ha⟩ | ⟨id, e, ha, hm⟩⟩
  · exact .inl rfl
  · refine .inr ⟨post, ?_⟩
    rw [ha]
    simp [H.from, List.append_assoc]
  · refine .inr ⟨post, ?_⟩
    rw [ha]
    simp [H.from, hm, List.append_assoc]
theorem from_add {h : H} {a : V} {l : List V} (n : Nat) (hf : h.from a = some l) : h.from (a.add n) = some (l.drop n) := by
  cases a <;> simp only [H.from, reduceCtorEq, Option.some.injEq] at hf
  · rename_i id gen off
    split at hf
    · split at hf
      · cases hf
        simp_all [V.add, H.from, List.drop_drop]
      · cases hf
    · cases hf
  · subst hf
    simp [V.add, H.from, List.drop_drop]
/-- One number of a row. -/
theorem In.rd {h : H} {s : SV} {cs : List V} {w : Nat} (hi : In h s w cs) {i : Nat} {k : IntKind} {x : Int} (hx : cs[i]? = some (.int k x)) : rdT (.leaf (.int k)) h (s.a.add i) = some x := by
  rcases hi.from with rfl | ⟨post, hf⟩
  · simp at hx
  · have hlt : i < cs.length := (List.getElem?_eq_some_iff.1 hx).1
    simp only [rdT, H.rd, from_add i hf, Option.bind_some]
    rw [List.head?_drop, List.getElem?_append_left hlt, hx]
    simp [Leaf.pack]
/-- The cells of an element. -/
theorem In.rds {h : H} {s : SV} {cs : List V} {w : Nat} (hi : In h s w cs) {i n : Nat} (hn : i + n ≤ cs.length) (hw : 0 < n) : h.rds (s.a.add i) n = some ((cs.drop i).take n) := by
  rcases hi.from with rfl | ⟨post, hf⟩
  · simp at hn; omega
  · simp only [H.rds, from_add i hf, Option.bind_some]
    rw [if_pos (by simp; omega), List.drop_append_of_le_length (by omega), List.take_append_of_le_length (by simp; omega)]
theorem snap_lp {lp f : Bool} {h : H} {n o : Nat} {cs : List V} (hb : (lp || f) = true) : Ev.snap lp h (n + 1) (.lp f cs o) = (mapO (Ev.snap lp h n) cs).bind fun ds => some (.lp (!lp) ds o) := by
  unfold Ev.snap
  dsimp only
  rw [hb]
  rfl
theorem snap_hp {lp : Bool} {h : H} {n id g o e : Nat} {cs : List V} (hm : h.m id = .own cs e) (hg : cs.length = g) : Ev.snap lp h (n + 1) (.hp id g o) = (mapO (Ev.snap lp h n) cs).bind fun ds => some (.lp (!lp) ds o) := by
  rw [Ev.snap]; simp only [hm, hg, if_true]
theorem snapS_eq {lp : Bool} {h : H} (s : SV) : snapS lp h s = (Ev.snap lp h (6 + 1) s.a).bind fun d => some ⟨d, s.len, s.cap, s.tail⟩ := by
  show ((Ev.snap lp h ((6 + 1) + 1) (.slice s.a s.len s.cap s.tail)).bind _) = _
  rw [Ev.snap]
  cases Ev.snap lp h (6 + 1) s.a <;> rfl
theorem In.snap {lp : Bool} {h : H} {s : SV} {cs : List V} {w : Nat} (hi : In h s w cs) (hlp : lp = true ∨ ∀ f l o, s.a = .lp f l o → f = true) : ∃ s', snapS lp h s = some s' ∧ Ro s' w cs ∧ s'.len = s.len ∧ (∀ f l o, s'.a = .lp f l o → f = !lp) ∧ s'.a.nn = s.a.nn := by
  obtain ⟨h1, h2, h3⟩ := hi
  obtain ⟨a, l, c, t⟩ := s
  simp only at h1 h2 h3 hlp
  rcases h3 with ⟨rfl, rfl⟩ | ⟨pre, post, hf, ⟨f, rfl⟩ | ⟨id, e, rfl, hm⟩⟩
  · refine ⟨⟨.nil, l, c, t⟩, by rw [snapS_eq]; simp [Ev.snap], fun h => ⟨h1, h2, .inl ⟨rfl, rfl⟩⟩, rfl, by simp, rfl⟩
  · have hb : (lp || f) = true := by
      rcases hlp with rfl | hlp
      · rfl
      · rw [hlp f _ _ rfl]; simp
    refine ⟨⟨.lp (!lp) (pre ++ cs ++ post) pre.length, l, c, t⟩, ?_, fun h => ⟨h1, h2, .inr ⟨pre, post, hf, .inl ⟨_, rfl⟩⟩⟩, rfl, fun f l o e => by cases e; rfl, rfl⟩
    rw [snapS_eq]
    rw [snap_lp hb, mapO_flat (n := 5) hf]
    rfl
  · refine ⟨⟨.lp (!lp) (pre ++ cs ++ post) pre.length, l, c, t⟩, ?_, fun h => ⟨h1, h2, .inr ⟨pre, post, hf, .inl ⟨_, rfl⟩⟩⟩, rfl, fun f l o e => by cases e; rfl, rfl⟩
    rw [snapS_eq]
    rw [snap_hp hm rfl, mapO_flat (n := 5) hf]
    rfl
theorem Ro.snap {h : H} {s : SV} {cs : List V} {w : Nat} (hi : Ro s w cs) : ∃ s', snapS true h s = some s' ∧ Ro s' w cs ∧ s'.len = s.len := by
  obtain ⟨s', h1, h2, h3, _⟩ := (hi h).snap (lp := true) (.inl rfl)
  exact ⟨s', h1, h2, h3⟩

/-! ### Rows of numbers -/

/-- A slice of numbers. -/
def Ints (h : H) (s : SV) (xs : List Int) : Prop := In h s 1 (xs.map (V.int .i64))
def RoInts (s : SV) (xs : List Int) : Prop := Ro s 1 (xs.map (V.int .i64))
theorem Ints.len {h : H} {s : SV} {xs : List Int} (hi : Ints h s xs) : s.len = xs.length := by
  have := hi.1
  simp at this
  omega
theorem RoInts.len {s : SV} {xs : List Int} (hi : RoInts s xs) : s.len = xs.length := Ints.len (hi H.empty)
theorem Ints.at {h : H} {s : SV} {xs : List Int} (hi : Ints h s xs) {i : Nat} {x : Int} (hx : xs[i]? = some x) : rdT (.leaf (.int .i64)) h (s.a.add (i * 1)) = some x := by
  rw [Nat.mul_one]
  exact In.rd hi (by simp [hx])
theorem flat_ints (xs : List Int) : (xs.map (V.int .i64)).all flatV = true := by
  simp [List.all_eq_true, flatV]
theorem RoInts.lp {f : Bool} {xs : List Int} {n c : Nat} {t : Bool} (hl : xs.length = n) (hc : n ≤ c) : RoInts ⟨.lp f (xs.map (V.int .i64)) 0, n, c, t⟩ xs := Ro.lp (by simp [hl]) hc (flat_ints xs)
theorem RoInts.snap {h : H} {s : SV} {xs : List Int} (hi : RoInts s xs) : ∃ s', snapS true h s = some s' ∧ RoInts s' xs := by
  obtain ⟨s', h1, h2, _⟩ := Ro.snap (h := h) hi
  exact ⟨s', h1, h2⟩

/-! ### Straight lines over heaps that are written down -/

section line
variable {h : H} {cs : List V} {e n i : Nat} {s : Slot}
theorem new_m : (H.new h cs e).m i = if i = h.next then .own cs e else h.m i := by
  simp only [H.new]
  by_cases hi : i = h.next
  · subst hi; simp
  · rw [if_neg hi, beq_ne hi]; rfl
theorem put_m {j : Nat} : (H.put h j s).m i = if i = j then s else h.m i := by
  simp only [H.put]
  by_cases hi : i = j
  · subst hi; simp
  · rw [if_neg hi, beq_ne hi]; rfl
theorem new_next : (H.new h cs e).next = h.next + 1 := rfl
theorem put_next {j : Nat} : (H.put h j s).next = h.next := rfl
theorem reserve_next : (H.reserve h n).next = h.next + n := rfl
theorem reserve_m : (H.reserve h n).m i = h.m i := rfl
theorem empty_next : H.empty.next = 0 := rfl
theorem rd_hp {l : Leaf} {id g o : Nat} : rdT (.leaf l) h (.hp id g o) = (match h.m id with
    | .own cs _ => if cs.length = g then (cs[o]?).bind l.pack else none
    | _ => none) := by
  simp only [rdT, H.rd, H.from]
  cases h.m id <;> try rfl
  rename_i cs e
  simp only
  by_cases hg : cs.length = g
  · simp [hg, List.head?_drop]
  · simp [hg]
theorem rds_hp {ls : List Leaf} {id g o : Nat} : rdT (.agg ls) h (.hp id g o) = (match h.m id with
    | .own cs _ => if cs.length = g ∧ ls.length ≤ cs.length - o then LT.pack ls ((cs.drop o).take ls.length) else none
    | _ => none) := by
  simp only [rdT, H.rds, H.from]
  cases h.m id <;> try rfl
  rename_i cs e
  simp only
  by_cases hg : cs.length = g
  · subst hg
    by_cases hl : ls.length ≤ cs.length - o
    · simp [hl]
    · simp [hl]
  · simp [hg]
theorem wrs_hp {id g o : Nat} {vs : List V} : H.wrs h (.hp id g o) vs = (match h.m id with
    | .own cs e => if cs.length = g ∧ o + vs.length ≤ cs.length then some (h.put id (.own (splice cs o vs) e)) else none
    | _ => none) := rfl
theorem snap_lit {lp f : Bool} {n c : Nat} {tl : Bool} {o : Nat} (hf : cs.all flatV = true) (hb : (lp || f) = true) : snapS lp h ⟨.lp f cs o, n, c, tl⟩ = some ⟨.lp (!lp) cs o, n, c, tl⟩ := by
  rw [snapS_eq, snap_lp hb, mapO_flat (n := 5) hf]
  rfl
theorem cond_some {α : Type} {b : Bool} {x y : α} : (bif b then some x else some y) = some (bif b then x else y) := by cases b <;> rfl
theorem cond_pair {α β : Type} {b : Bool} {x y : α} {z : β} : (bif b then (x, z) else (y, z)) = (bif b then x else y, z) := by cases b <;> rfl
theorem cond_pair2 {α β : Type} {b : Bool} {x y : α} {z w : β} : (bif b then (x, z) else (y, w)) = (bif b then x else y, bif b then z else w) := by cases b <;> rfl
theorem cond_same {α : Type} {b : Bool} {x : α} : (bif b then x else x) = x := by cases b <;> rfl
theorem snap_int {lp : Bool} {k : IntKind} {x : Int} : snapRes lp h (.one (.leaf (.int k))) x some = some x := rfl
theorem snap_bool {lp : Bool} {x : Bool} : snapRes lp h (.one (.leaf .bool)) x some = some x := rfl
theorem snap_arg {f : Bool} {n c : Nat} {tl : Bool} {o : Nat} (hf : cs.all flatV = true) : snapS true h ⟨.lp f cs o, n, c, tl⟩ = some ⟨.lp false cs o, n, c, tl⟩ := snap_lit hf rfl
theorem law_of {x : Option (Bool × H)} (hx : x.map Prod.fst = some true) : ∃ h', x = some (true, h') := by
  cases x with
  | none => cases hx
  | some p =>
    obtain ⟨b, h'⟩ := p
    simp only [Option.map_some, Option.some.injEq] at hx
    exact ⟨h', by rw [hx]⟩
theorem cond_fst {α β : Type} {b : Bool} {x y : α × β} : (bif b then x else y).1 = bif b then x.1 else y.1 := by cases b <;> rfl
theorem cond_map {α β : Type} {b : Bool} {x y : Option α} {f : α → β} : (bif b then x else y).map f = bif b then x.map f else y.map f := by cases b <;> rfl
end line
end Go.Proofs.Ytadlfinlbaogeaa.Ev
