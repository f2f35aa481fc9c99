/- period.Adjust up to its sort: the adjustments in whatever order the maps give them. -/
import Derived.Test.YtedhmdocimkldaaDoorPe
namespace Go.Proofs.YtedhmdocimkldaaDoor.Pa
open Go.RowKit Go.Extern.Stop Go.Stop Go.Extern Go.Shelf Go.Sort Go.Maps

def key (left : Lit → Bool) (k : Int) : Bool := left (.int .i64 k)
theorem key_strike (left : Lit → Bool) (x k : Int) : key (fun z => left z && !z.sameKey (.int .i64 x)) k = (key left k && !decide (k = x)) := by
  simp only [key]
  by_cases h : k = x
  · subst h; simp [Lit.sameKey]
  · simp [Lit.sameKey, h]
/-- What the second loop has made of the first map. -/
def subM (fb fa : Int → Option Int) (left : Lit → Bool) (k : Int) : Option Int :=
  match fa k with
  | some n => if key left k then fb k else some ((fb k).getD 0 - n)
  | none => fb k
def subE (fb fa : Int → Option Int) (k : Int) : Option Int :=
  match fa k with
  | some n => some ((fb k).getD 0 - n)
  | none => fb k
/-- The pairs that the third loop has met. -/
def Met (h : Int → Option Int) (left : Lit → Bool) (ds : List (Int × Int)) : Prop :=
  (∀ p : Int × Int, p ∈ ds ↔ h p.1 = some p.2 ∧ p.2 ≠ 0 ∧ key left p.1 = false) ∧ (ds.map Prod.fst).Nodup
def encP (p : Int × Int) : List Value := [.int .i64 p.1, .int .i64 p.2]
def NumL (l : List (Int × Int)) : Prop := ∀ p ∈ l, Num p.1 ∧ Num p.2
def Res2 (n : Int) (w : World) (e : Ending) (w' : World) : Prop := e = .returned (.tuple #[.slice none 0 0, .int .i64 n]) ∧ Below w.heap.size w w'
/-- The two boxes of the arguments. -/
def Boxes (w : World) (x0 x1 x2 x3 y0 y1 y2 y3 : Value) : World := (w.alloc (.cells #[x0, x1, x2, x3] 40)).alloc (.cells #[y0, y1, y2, y3] 40)
theorem boxes_cells {w w1 : World} {x0 x1 x2 x3 y0 y1 y2 y3 : Value} (hb : Below (w.heap.size + 2) (Boxes w x0 x1 x2 x3 y0 y1 y2 y3) w1) :
    (w1.cell? ⟨w.heap.size, 0, none⟩ = some x0 ∧ w1.cell? ⟨w.heap.size, 1, none⟩ = some x1) ∧
    (w1.cell? ⟨w.heap.size + 1, 0, none⟩ = some y0 ∧ w1.cell? ⟨w.heap.size + 1, 1, none⟩ = some y1 ∧ w1.cell? ⟨w.heap.size + 1, 2, none⟩ = some y2 ∧ w1.cell? ⟨w.heap.size + 1, 3, none⟩ = some y3) ∧ w.heap.size + 1 < w1.heap.size := by
  have kx : ∀ j, w1.cell? ⟨w.heap.size, j, none⟩ = #[x0, x1, x2, x3][j]? := fun j =>
    ((hb.cell (p := ⟨w.heap.size, j, none⟩) (by simp)).trans ((below_alloc _ _).cell (p := ⟨w.heap.size, j, none⟩) (by simp))).trans (cell_last w _ _ _ j rfl)
  have ky : ∀ j, w1.cell? ⟨w.heap.size + 1, j, none⟩ = #[y0, y1, y2, y3][j]? := fun j => (hb.cell (p := ⟨w.heap.size + 1, j, none⟩) (by simp)).trans (cell_last _ _ _ _ j (by simp))
  have hs := hb.size
  simp [Boxes] at hs
  exact ⟨⟨kx 0, kx 1⟩, ⟨ky 0, ky 1, ky 2, ky 3⟩, by omega⟩
theorem below_boxes (w : World) (x0 x1 x2 x3 y0 y1 y2 y3 : Value) : Below w.heap.size w (Boxes w x0 x1 x2 x3 y0 y1 y2 y3) := (below_alloc w _).alloc (by simp) _
theorem boxes_size (w : World) (x0 x1 x2 x3 y0 y1 y2 y3 : Value) : (Boxes w x0 x1 x2 x3 y0 y1 y2 y3).heap.size = w.heap.size + 2 := by simp [Boxes]
set_option maxHeartbeats 3200000 in
set_option maxRecDepth 100000 in
theorem adjust_no (fa ta sa : Int) (pa : Option Addr) (ma ca : Nat) (la : List (Int × Int)) (oka : Bool) (fb tb sb : Int) (pb : Option Addr) (mb cb : Nat) (lb : List (Int × Int)) (okb : Bool) (w : World)
    (hA : ∀ w1, Below w.heap.size w w1 → Calls Tryd.prog 46 #[.agg #[.int .i64 fa, .int .i64 ta, .slice pa ma ca, .int .i64 sa]] w1 (Duties la oka w1))
    (hB : ∀ w1, Below w.heap.size w w1 → Calls Tryd.prog 46 #[.agg #[.int .i64 fb, .int .i64 tb, .slice pb mb cb, .int .i64 sb]] w1 (Duties lb okb w1))
    (hok : (oka && okb) = false) :
    Calls Tryd.prog 25 #[.agg #[.int .i64 fa, .int .i64 ta, .slice pa ma ca, .int .i64 sa], .agg #[.int .i64 fb, .int .i64 tb, .slice pb mb cb, .int .i64 sb]] w (Res2 1 w) := by
  have HA := Lib.hid hA
  have HB := Lib.hid hB
  clear hA hB
  have fin : ∀ (oka okb : Bool), (oka && okb) = false → (oka = false) ∨ (oka = true ∧ okb = false) := by decide
  rcases fin _ _ hok with rfl | ⟨rfl, rfl⟩
  · clear hok fin
    go_enter Tryd.func25, Tryd.ntmps25
    go_wp2_with (first
      | (go_at_call 46; (with_reducible refine (HA.out _ ?_).mono ?_); exact below_boxes w _ _ _ _ _ _ _ _; rintro e w1 ⟨ba, Da, rfl, hba, hoa, hma, hb1⟩; have HMA := Lib.hid hma; clear hma; obtain ⟨k1, ⟨y0, y1, y2, y3⟩, hz1⟩ := boxes_cells (hb1.mono (by simp)); have hw1 : Below w.heap.size w w1 := (below_boxes w _ _ _ _ _ _ _ _).trans (hb1.mono (by simp; omega)))
      | (go_at_call 46; (with_reducible refine (HB.out _ ?_).mono ?_); exact hw1; rintro e w2 ⟨bb, Db, rfl, hbb, hob, hmb, hb2⟩; have HMB := Lib.hid hmb; clear hmb))
    go_ret2
    exact ⟨rfl, hw1.trans (hb2.mono (by omega))⟩
  · clear hok fin
    go_enter Tryd.func25, Tryd.ntmps25
    go_wp2_with (first
      | (go_at_call 46; (with_reducible refine (HA.out _ ?_).mono ?_); exact below_boxes w _ _ _ _ _ _ _ _; rintro e w1 ⟨ba, Da, rfl, hba, hoa, hma, hb1⟩; have HMA := Lib.hid hma; clear hma; obtain ⟨k1, ⟨y0, y1, y2, y3⟩, hz1⟩ := boxes_cells (hb1.mono (by simp)); have hw1 : Below w.heap.size w w1 := (below_boxes w _ _ _ _ _ _ _ _).trans (hb1.mono (by simp; omega)))
      | (go_at_call 46; (with_reducible refine (HB.out _ ?_).mono ?_); exact hw1; rintro e w2 ⟨bb, Db, rfl, hbb, hob, hmb, hb2⟩; have HMB := Lib.hid hmb; clear hmb))
    go_ret2
    exact ⟨rfl, hw1.trans (hb2.mono (by omega))⟩
set_option maxHeartbeats 3200000 in
set_option maxRecDepth 100000 in
theorem adjust_off (fa ta sa : Int) (pa : Option Addr) (ma ca : Nat) (la : List (Int × Int)) (fb tb sb : Int) (pb : Option Addr) (mb cb : Nat) (lb : List (Int × Int)) (w : World)
    (hA : ∀ w1, Below w.heap.size w w1 → Calls Tryd.prog 46 #[.agg #[.int .i64 fa, .int .i64 ta, .slice pa ma ca, .int .i64 sa]] w1 (Duties la true w1))
    (hB : ∀ w1, Below w.heap.size w w1 → Calls Tryd.prog 46 #[.agg #[.int .i64 fb, .int .i64 tb, .slice pb mb cb, .int .i64 sb]] w1 (Duties lb true w1))
    (hne : ¬ (fa = fb ∧ ta = tb)) :
    Calls Tryd.prog 25 #[.agg #[.int .i64 fa, .int .i64 ta, .slice pa ma ca, .int .i64 sa], .agg #[.int .i64 fb, .int .i64 tb, .slice pb mb cb, .int .i64 sb]] w (Res2 10 w) := by
  have HA := Lib.hid hA
  have HB := Lib.hid hB
  clear hA hB
  by_cases h1 : fa = fb
  · have h2 : (ta == tb) = false := beq_eq_false_iff_ne.2 fun e => hne ⟨h1, e⟩
    subst h1
    clear hne
    go_enter Tryd.func25, Tryd.ntmps25
    go_wp2_with (first
      | (go_at_call 46; (with_reducible refine (HA.out _ ?_).mono ?_); exact below_boxes w _ _ _ _ _ _ _ _; rintro e w1 ⟨ba, Da, rfl, hba, hoa, hma, hb1⟩; have HMA := Lib.hid hma; clear hma; obtain ⟨⟨x0, x1⟩, ⟨y0, y1, y2, y3⟩, hz1⟩ := boxes_cells (hb1.mono (by simp)); have hw1 : Below w.heap.size w w1 := (below_boxes w _ _ _ _ _ _ _ _).trans (hb1.mono (by simp; omega)))
      | (go_at_call 46; (with_reducible refine (HB.out _ ?_).mono ?_); exact hw1; rintro e w2 ⟨bb, Db, rfl, hbb, hob, hmb, hb2⟩; have HMB := Lib.hid hmb; clear hmb; have f0 := (hb2.cell (p := ⟨w.heap.size, 0, none⟩) (Nat.lt_of_succ_lt hz1)).trans x0; have f1 := (hb2.cell (p := ⟨w.heap.size, 1, none⟩) (Nat.lt_of_succ_lt hz1)).trans x1; have g0 := (hb2.cell (p := ⟨w.heap.size + 1, 0, none⟩) hz1).trans y0; have g1 := (hb2.cell (p := ⟨w.heap.size + 1, 1, none⟩) hz1).trans y1))
    go_ret2
    exact ⟨rfl, hw1.trans (hb2.mono (by omega))⟩
  · have h2 : (fa == fb) = false := beq_eq_false_iff_ne.2 h1
    clear hne
    go_enter Tryd.func25, Tryd.ntmps25
    go_wp2_with (first
      | (go_at_call 46; (with_reducible refine (HA.out _ ?_).mono ?_); exact below_boxes w _ _ _ _ _ _ _ _; rintro e w1 ⟨ba, Da, rfl, hba, hoa, hma, hb1⟩; have HMA := Lib.hid hma; clear hma; obtain ⟨⟨x0, x1⟩, ⟨y0, y1, y2, y3⟩, hz1⟩ := boxes_cells (hb1.mono (by simp)); have hw1 : Below w.heap.size w w1 := (below_boxes w _ _ _ _ _ _ _ _).trans (hb1.mono (by simp; omega)))
      | (go_at_call 46; (with_reducible refine (HB.out _ ?_).mono ?_); exact hw1; rintro e w2 ⟨bb, Db, rfl, hbb, hob, hmb, hb2⟩; have HMB := Lib.hid hmb; clear hmb; have f0 := (hb2.cell (p := ⟨w.heap.size, 0, none⟩) (Nat.lt_of_succ_lt hz1)).trans x0; have f1 := (hb2.cell (p := ⟨w.heap.size, 1, none⟩) (Nat.lt_of_succ_lt hz1)).trans x1; have g0 := (hb2.cell (p := ⟨w.heap.size + 1, 0, none⟩) hz1).trans y0; have g1 := (hb2.cell (p := ⟨w.heap.size + 1, 1, none⟩) hz1).trans y1))
    go_ret2
    exact ⟨rfl, hw1.trans (hb2.mono (by omega))⟩
def RelB (w2 : World) (bb n : Nat) (Db : DataW Unit) (wr : World) : Prop :=
  ∃ (left : Lit → Bool) (cnt : Nat) (Dout : DataW Unit), wr.ranges Tryd.prog 3 (plainElem Tryd.prog 3) bb (w2.heap.size + 1) n Db left cnt ∧ cnt ≤ Maps.size Db ∧
    wr.ownsMap Tryd.prog 3 (plainElem Tryd.prog 3) w2.heap.size (Maps.size Db - cnt) Dout ∧ Agree Dout Db left ∧ Below w2.heap.size w2 wr
theorem zero_at {D : DataW Unit} {x c0 : Int} (h : has D (.int .i64 x) = false) (h2 : D.atKey (.int .i64 x) (.lit (.int .i64 0)) = .lit (.int .i64 c0)) : c0 = 0 := by
  rw [atKey_of_not_has h] at h2
  simpa using h2.symm
theorem size_le {P : Program} {k b n : Nat} {R : Value → Option (DataW Unit × List MemPlace)} {D : DataW Unit} {w : World} (h : w.ownsMap P k R b n D) : Maps.size D ≤ n := by
  obtain ⟨es, clock, _, _, h2, rfl⟩ := h
  have e1 : Maps.size (DataW.map ((es.toList.map (WideElems.rg P k R)).foldr DataW.insert [])) = es.size := by simp [Maps.size, length_sorted]
  omega
theorem lookI_mem (k n : Int) : ∀ (l : List (Int × Int)), lookI l k = some n → (k, n) ∈ l := by
  suffices h : ∀ (l : List (Int × Int)) (f : Int → Option Int), l.foldl (fun f p => setI f p.1 p.2) f k = some n → f k = some n ∨ (k, n) ∈ l by
    intro l hl
    rcases h l _ hl with h | h
    · cases h
    · exact h
  intro l
  induction l with
  | nil => intro f h; exact .inl h
  | cons p l ih =>
    intro f h
    rcases ih _ h with h | h
    · simp only [setI] at h
      split at h
      · rename_i hk
        cases h
        exact .inr (by simp [hk])
      · exact .inl h
    · exact .inr (by simp [h])
/-- An entry of a map as read. -/
theorem Mp.at {D : DataW Unit} {f : Int → Option Int} {x c : Int} (h : Mp D f) (hat : ∀ zd, D.atKey (.int .i64 x) zd = .lit (.int .i64 c)) : f x = some c := by
  have h1 : has D (.int .i64 x) = true := has_true_of_atKey hat
  rw [(h x).1] at h1
  obtain ⟨n, hn⟩ := Option.isSome_iff_exists.1 h1
  have := (h x).2 n hn .nil
  rw [hat] at this
  simp at this
  rw [hn, this]
theorem num_at {D : DataW Unit} {l : List (Int × Int)} {x c : Int} (h : Mp D (lookI l)) (hn : NumL l) (hat : ∀ zd, D.atKey (.int .i64 x) zd = .lit (.int .i64 c)) : 0 ≤ c ∧ c ≤ 1000000000000000000 := by
  have := hn _ (lookI_mem x c l (h.at hat))
  have h2 := this.2.2
  exact ⟨this.2.1, by omega⟩
theorem key_has {D : DataW Unit} {f : Int → Option Int} (h : Mp D f) (k : Int) : key (has D) k = (f k).isSome := (h k).1
theorem subM_start {D : DataW Unit} {fa fb : Int → Option Int} (h : Mp D fa) : subM fb fa (has D) = fb := by
  funext k
  unfold subM
  cases hk : fa k with
  | none => rfl
  | some n => simp [key_has h, hk]
theorem Mp.get {D : DataW Unit} {f : Int → Option Int} {x c0 : Int} (h : Mp D f) (h2 : D.atKey (.int .i64 x) (.lit (.int .i64 0)) = .lit (.int .i64 c0)) : c0 = (f x).getD 0 := by
  cases hf : f x with
  | none =>
    have h1 := (h x).1
    rw [hf] at h1
    exact zero_at h1 h2
  | some n =>
    have := (h x).2 n hf (.lit (.int .i64 0))
    rw [h2] at this
    simpa using this
theorem sub_val {D : DataW Unit} {la lb : List (Int × Int)} {left : Lit → Bool} {x c c0 : Int} (h : Mp D (subM (lookI lb) (lookI la) left)) (hl : lookI la x = some c) (hk : left (.int .i64 x) = true) (h2 : D.atKey (.int .i64 x) (.lit (.int .i64 0)) = .lit (.int .i64 c0)) :
    c0 = (lookI lb x).getD 0 := by
  have := h.get h2
  rw [this, subM, hl]
  simp [key, hk]
theorem getD_num {lb : List (Int × Int)} {k c0 : Int} (hn : NumL lb) (h : c0 = (lookI lb k).getD 0) : 0 ≤ c0 ∧ c0 ≤ 1000000000000000000 := by
  subst h
  cases hl : lookI lb k with
  | none => simp
  | some n =>
    have := (hn _ (lookI_mem k n lb hl)).2
    have h2 := this.2
    exact ⟨this.1, by simp at h2 ⊢; omega⟩
theorem subM_step {fa fb : Int → Option Int} {left : Lit → Bool} {x c : Int} (hl : fa x = some c) : setI (subM fb fa left) x ((fb x).getD 0 - c) = subM fb fa (fun z => left z && !z.sameKey (.int .i64 x)) := by
  funext k
  simp only [setI, subM, key_strike]
  by_cases hk : k = x
  · subst hk
    simp [hl]
  · simp [hk]
def RelA (w2 wa : World) (ba n m : Nat) (Da : DataW Unit) (fb fa : Int → Option Int) (wr : World) : Prop :=
  ∃ (left : Lit → Bool) (cnt : Nat) (D2 : DataW Unit), wr.ranges Tryd.prog 3 (plainElem Tryd.prog 3) ba wa.heap.size n Da left cnt ∧ cnt ≤ Maps.size Da ∧
    wr.ownsMap Tryd.prog 3 (plainElem Tryd.prog 3) w2.heap.size (m + (Maps.size Da - cnt)) D2 ∧ Mp D2 (subM fb fa left) ∧ Below w2.heap.size w2 wr
theorem info49 : (Tryd.prog.info? 49).map (fun i => (i.zero, i.size, i.bytes)) = some (some (.agg #[.int .i64 0, .int .i64 0]), 2, 16) := by kernel_rfl
theorem subM_end {fa fb : Int → Option Int} {left : Lit → Bool} (hl : ∀ kl, left kl = false) : subM fb fa left = subE fb fa := by
  funext k
  unfold subM subE key
  rw [hl]
  simp
theorem met_start {D : DataW Unit} {h : Int → Option Int} (hM : Mp D h) : Met h (has D) [] := by
  refine ⟨fun p => ?_, by simp⟩
  rw [key_has hM]
  constructor
  · intro h; simp at h
  · rintro ⟨h1, _, h3⟩; rw [h1] at h3; simp at h3
theorem own_ne {w : World} {v : Value} {b r n cnt base m : Nat} {e : TypeId} {D : DataW Unit} {left : Lit → Bool} {xs : List Value} (h : w.ownsRow base e 2 v m xs) (hr : w.ranges Tryd.prog 3 (plainElem Tryd.prog 3) b r n D left cnt) :
    v.ownBlock = none ∨ v.ownBlock ≠ some r := by
  rcases h.2 with ⟨rfl, _⟩ | ⟨g, cap, cur, rfl, _, hg, _⟩
  · exact .inl rfl
  · refine .inr fun e => ?_
    obtain ⟨_, _, _, _, _, _, _, _, _, hrr, _⟩ := hr
    simp [Value.ownBlock] at e
    subst e
    rw [hg] at hrr
    cases hrr
theorem own_ne_map {w : World} {v : Value} {b r n cnt base m : Nat} {e : TypeId} {D : DataW Unit} {left : Lit → Bool} {xs : List Value} (h : w.ownsRow base e 2 v m xs) (hr : w.ranges Tryd.prog 3 (plainElem Tryd.prog 3) b r n D left cnt) :
    some b ≠ v.ownBlock := by
  rcases h.2 with ⟨rfl, _⟩ | ⟨g, cap, cur, rfl, _, hg, _⟩
  · simp [Value.ownBlock]
  · intro e
    obtain ⟨_, _, hb, _⟩ := hr.owns
    simp [Value.ownBlock] at e
    subst e
    rw [hg] at hb
    cases hb
theorem own_ne_it {w : World} {v : Value} {b r n cnt base m : Nat} {e : TypeId} {D : DataW Unit} {left : Lit → Bool} {xs : List Value} (h : w.ownsRow base e 2 v m xs) (hr : w.ranges Tryd.prog 3 (plainElem Tryd.prog 3) b r n D left cnt) :
    some r ≠ v.ownBlock := by
  rcases own_ne h hr with h | h
  · rw [h]; simp
  · exact fun e => h e.symm
theorem met_zero {h : Int → Option Int} {left : Lit → Bool} {ds : List (Int × Int)} {x : Int} (hm : Met h left ds) (hx : h x = some 0) : Met h (fun z => left z && !z.sameKey (.int .i64 x)) ds := by
  refine ⟨fun p => ?_, hm.2⟩
  rw [hm.1 p, key_strike]
  by_cases hp : p.1 = x
  · constructor
    · rintro ⟨h1, h2, _⟩; rw [hp, hx] at h1; simp at h1; exact absurd h1.symm h2
    · rintro ⟨h1, h2, _⟩; rw [hp, hx] at h1; simp at h1; exact absurd h1.symm h2
  · simp [hp]
theorem met_more {h : Int → Option Int} {left : Lit → Bool} {ds : List (Int × Int)} {x c : Int} (hm : Met h left ds) (hl : left (.int .i64 x) = true) (hx : h x = some c) (hc : c ≠ 0) : Met h (fun z => left z && !z.sameKey (.int .i64 x)) (ds ++ [(x, c)]) := by
  have hni : ∀ p ∈ ds, p.1 ≠ x := fun p hp e => by
    have := ((hm.1 p).1 hp).2.2
    rw [e] at this
    simp [key, hl] at this
  refine ⟨fun p => ?_, ?_⟩
  · rw [List.mem_append, hm.1 p, key_strike, List.mem_singleton]
    by_cases hp : p.1 = x
    · constructor
      · rintro (⟨_, _, h3⟩ | rfl)
        · rw [hp] at h3; simp [key, hl] at h3
        · exact ⟨hx, hc, by simp⟩
      · rintro ⟨h1, _, _⟩
        rw [hp, hx] at h1
        exact .inr (Prod.ext hp (by simpa using h1.symm))
    · have hne : p ≠ (x, c) := fun e => hp (by rw [e])
      simp [hp, hne]
  · rw [List.map_append, List.nodup_append]
    exact ⟨hm.2, by simp, fun a ha b hb => by
      simp at hb
      subst hb
      obtain ⟨p, hp, rfl⟩ := List.mem_map.1 ha
      exact hni p hp⟩
def RelC (w2 wb : World) (n : Nat) (D2 : DataW Unit) (h : Int → Option Int) (v : Value) (wr : World) : Prop :=
  ∃ (left : Lit → Bool) (cnt : Nat) (ao : Option Addr) (cv : Nat) (ds : List (Int × Int)), wr.ranges Tryd.prog 3 (plainElem Tryd.prog 3) w2.heap.size wb.heap.size n D2 left cnt ∧ ds.length + cnt ≤ Maps.size D2 ∧
    v = .slice ao ds.length cv ∧ wr.ownsRow (w2.heap.size + 1) 49 2 v ds.length (ds.flatMap encP) ∧ Met h left ds ∧ Below w2.heap.size w2 wr
end Go.Proofs.YtedhmdocimkldaaDoor.Pa
