/- period.duties: the duties of a statement by items. -/
import Derived.Test.YtedhmdocimkldaaDoorPd
import Derived.Maps.Ext
import Derived.Maps.RangeWalk
import Derived.Maps.OwnSet
import Derived.Deep.QuietTactic
import Derived.BigQuiet
namespace Go.Proofs.YtedhmdocimkldaaDoor.Pa
open Go.RowKit Go.Extern.Stop Go.Stop Go.Extern Go.Shelf Go.Sort Go.Maps

/-! ### Plain -/
def setI (f : Int → Option Int) (k v : Int) : Int → Option Int := fun x => if x = k then some v else f x
def lookI (l : List (Int × Int)) : Int → Option Int := l.foldl (fun f p => setI f p.1 p.2) fun _ => none
theorem lookI_snoc (l : List (Int × Int)) (p : Int × Int) : lookI (l ++ [p]) = setI (lookI l) p.1 p.2 := by simp [lookI]
theorem lookI_none (k : Int) : ∀ (l : List (Int × Int)), (lookI l k).isSome = true ↔ k ∈ l.map Prod.fst := by
  suffices h : ∀ (l : List (Int × Int)) (f : Int → Option Int), (l.foldl (fun f p => setI f p.1 p.2) f k).isSome = true ↔ (f k).isSome = true ∨ k ∈ l.map Prod.fst by
    intro l; rw [lookI, h]; simp
  intro l
  induction l with
  | nil => intro f; simp
  | cons p l ih =>
    intro f
    rw [List.foldl_cons, ih]
    simp only [setI, List.map_cons, List.mem_cons]
    by_cases hk : k = p.1
    · simp [hk]
    · simp [hk]
/-- A map as read, and a function. -/
def Mp {H : Type} (D : DataW H) (f : Int → Option Int) : Prop := ∀ k : Int, has D (.int .i64 k) = (f k).isSome ∧ ∀ n, f k = some n → ∀ z, D.atKey (.int .i64 k) z = .lit (.int .i64 n)
theorem Mp.start {H : Type} : Mp (H := H) (.map []) fun _ => none := fun k => ⟨rfl, fun n h => by cases h⟩
theorem Mp.put {H : Type} {D : DataW H} {f : Int → Option Int} (h : Mp D f) (hm : IsMap D) (k v : Int) : Mp (D.put (.int .i64 k) (.lit (.int .i64 v))) (setI f k v) := by
  intro x
  have hkl : WideAt.IsKeyLit (Lit.int .i64 k) := trivial
  by_cases hx : x = k
  · subst hx
    simp only [setI, if_true]
    exact ⟨has_put_same hm hkl _, fun n hn z => by cases hn; exact atKey_put_same hm hkl _ _⟩
  · have hne : Lit.int .i64 x ≠ Lit.int .i64 k := fun e => hx (by simpa using e)
    simp only [setI, if_neg hx]
    rw [has_put_other hne]
    exact ⟨(h x).1, fun n hn z => by rw [atKey_put_other hne]; exact (h x).2 n hn z⟩

theorem law3 : Keyed Tryd.prog 3 := int_keyed Tryd.underlying3
def I64 (n : Int) : Prop := -9223372036854775808 ≤ n ∧ n ≤ 9223372036854775807
theorem wf_of {n : Int} (h : I64 n) : (Lit.int .i64 n).wf = true := by
  show (decide (IntKind.min .i64 ≤ n) && decide (n ≤ IntKind.max .i64)) = true
  simp only [Bool.and_eq_true, decide_eq_true_eq]
  exact h
/-- What a statement's charges hold: item and duty. -/
def ChargesD (p : Option Addr) (l : List (Int × Int)) (w : World) : Prop :=
  l = [] ∨ ∃ bk o, p = some ⟨bk, o, none⟩ ∧ bk < w.heap.size ∧ ∀ k x, l[k]? = some x → I64 x.1 ∧ I64 x.2 ∧ ∃ z : Fin 8 → Int, z 0 = x.1 ∧ z 7 = x.2 ∧ ∀ j : Fin 8, w.cell? ⟨bk, o + k * 8 + j, none⟩ = some (.int .i64 (z j))
def RelD (w1 : World) (b : Nat) (l : List (Int × Int)) (i : Value) (wr : World) : Prop :=
  ∃ (k : Nat) (D : DataW Unit), k ≤ l.length ∧ i = .int .i64 k ∧ wr.ownsMap Tryd.prog 3 (plainElem Tryd.prog 3) b k D ∧ Mp D (lookI (l.take k)) ∧ Maps.size D ≤ k ∧ (Maps.size D = k ↔ ((l.take k).map Prod.fst).Nodup) ∧ Below b w1 wr ∧ b < wr.heap.size
theorem relD_next {w1 w2 : World} {b : Nat} {l : List (Int × Int)} {k : Nat} {D : DataW Unit} {x : Int × Int} (hx : l[k]? = some x) (hT : Tidy D) (hM : Mp D (lookI (l.take k))) (hsz : Maps.size D ≤ k)
    (hnd : Maps.size D = k ↔ ((l.take k).map Prod.fst).Nodup) (hown : w2.ownsMap Tryd.prog 3 (plainElem Tryd.prog 3) b (k + 1) (D.put (.int .i64 x.1) (.lit (.int .i64 x.2)))) (hb : Below b w1 w2) (hlt : b < w2.heap.size) :
    RelD w1 b l (.int .i64 (k + 1)) w2 := by
  have hkl : k < l.length := (List.getElem?_eq_some_iff.1 hx).1
  have ht : l.take (k + 1) = l.take k ++ [x] := by rw [List.take_add_one, hx]; rfl
  have hs := size_put (k := .int .i64 x.1) hT (.lit (.int .i64 x.2))
  have hh : has D (.int .i64 x.1) = true ↔ x.1 ∈ (l.take k).map Prod.fst := by rw [(hM x.1).1, lookI_none]
  refine ⟨k + 1, _, hkl, by simp, hown, by rw [ht, lookI_snoc]; exact hM.put hT.isMap _ _, by rw [hs]; split <;> omega, ?_, hb, hlt⟩
  rw [hs, ht, List.map_append, List.nodup_append]
  by_cases hin : has D (.int .i64 x.1) = true
  · rw [if_pos hin]
    constructor
    · intro h; omega
    · rintro ⟨_, _, h3⟩
      exact absurd rfl (h3 _ (hh.1 hin) x.1 (by simp))
  · rw [if_neg hin]
    have hni : x.1 ∉ (l.take k).map Prod.fst := fun h => hin (hh.2 h)
    constructor
    · intro h
      exact ⟨hnd.1 (by omega), by simp, fun a ha b hb => by simp at hb; subst hb; exact fun e => hni (e ▸ ha)⟩
    · rintro ⟨h1, _, _⟩
      have := hnd.2 h1
      omega
def Duties (l : List (Int × Int)) (ok : Bool) (w : World) (e : Ending) (w' : World) : Prop :=
  ∃ (b : Nat) (D : DataW Unit), e = .returned (.tuple #[.map (some b), .bool ok]) ∧ w.heap.size ≤ b ∧ w'.ownsMap Tryd.prog 3 (plainElem Tryd.prog 3) b l.length D ∧ Mp D (lookI l) ∧ Below w.heap.size w w'
set_option maxHeartbeats 3200000 in
set_option maxRecDepth 100000 in
theorem duties_any (fr to tot : Int) (p : Option Addr) (m c : Nat) (n : Int) (l : List (Int × Int)) (w : World) (hl : l.length = m) (hm : m ≤ 1000) (hc : ChargesD p l w)
    (hp : ∀ w1, Below w.heap.size w w1 → Calls Tryd.prog 56 #[.agg #[.int .i64 fr, .int .i64 to, .slice p m c, .int .i64 tot]] w1 (Ans n w1)) :
    Calls Tryd.prog 46 #[.agg #[.int .i64 fr, .int .i64 to, .slice p m c, .int .i64 tot]] w (Duties l (decide (n = 0 ∧ (l.map Prod.fst).Nodup)) w) := by
  have HP := Lib.hid hp
  have HL := Lib.hid hl
  have HC := Lib.hid hc
  clear hp hl hc
  have hmm := @run_makeMap Tryd.prog
  go_enter Tryd.func46, Tryd.ntmps46
  go_wp2_with (first
    | (go_at_call 56; refine (HP.out _ (below_alloc w _)).mono ?_; rintro e w1 ⟨t, rfl, hb1⟩; obtain ⟨s0, s1, s2, s3, hz1⟩ := box_cells hb1; have hw1 : Below w.heap.size w w1 := (below_alloc w _).trans (hb1.mono (by simp))))
  go_loopw [18] (fun i wr => RelD w1 w1.heap.size l i wr) (fun i _ => m - (intOf i).toNat)
  case atStart => exact ⟨0, .map [], Nat.zero_le _, rfl, World.ownsMap_made _ _ _ _, Mp.start, Nat.le_refl _, by simp [Maps.size_eq], below_alloc _ _, by simp⟩
  case round =>
    obtain ⟨k, D, hk, rfl, hown, hM, hsz, hnd, hnx, hbw⟩ := hrel
    have HN := Lib.hid (And.intro hM (And.intro hsz hnd))
    clear hM hsz hnd
    by_cases hkm : k < m
    · obtain ⟨bk, o, rfl, hbk, hch⟩ : ∃ bk o, p = some ⟨bk, o, none⟩ ∧ bk < w.heap.size ∧ ∀ k x, l[k]? = some x → I64 x.1 ∧ I64 x.2 ∧ ∃ z : Fin 8 → Int, z 0 = x.1 ∧ z 7 = x.2 ∧ ∀ j : Fin 8, w.cell? ⟨bk, o + k * 8 + j, none⟩ = some (.int .i64 (z j)) :=
        HC.out.elim (fun h => absurd hkm (by rw [← HL.out, h]; simp)) id
      obtain ⟨x, hx⟩ : ∃ x, l[k]? = some x := ⟨_, List.getElem?_eq_getElem (by rw [HL.out]; exact hkm)⟩
      obtain ⟨hx1, hx2, z, hz0, hz7, hz⟩ := hch k x hx
      have HX := Lib.hid (And.intro hx (And.intro hx1 (And.intro hx2 (And.intro hz0 hz7))))
      have hq : ∀ j : Fin 8, wr.cell? ⟨bk, o + k * 8 + j, none⟩ = some (.int .i64 (z j)) := fun j => ((hw1.trans (hnx.mono (by omega))).cell (p := ⟨bk, o + k * 8 + j, none⟩) hbk).trans (hz j)
      clear hx hx1 hx2 hz0 hz7 hz hch
      have q0 : wr.cell? ⟨bk, o + k * 8, none⟩ = some (.int .i64 (z 0)) := hq 0
      have q1 : wr.cell? ⟨bk, o + k * 8 + 1, none⟩ = some (.int .i64 (z 1)) := hq 1
      have q2 : wr.cell? ⟨bk, o + k * 8 + 2, none⟩ = some (.int .i64 (z 2)) := hq 2
      have q3 : wr.cell? ⟨bk, o + k * 8 + 3, none⟩ = some (.int .i64 (z 3)) := hq 3
      have q4 : wr.cell? ⟨bk, o + k * 8 + 4, none⟩ = some (.int .i64 (z 4)) := hq 4
      have q5 : wr.cell? ⟨bk, o + k * 8 + 5, none⟩ = some (.int .i64 (z 5)) := hq 5
      have q6 : wr.cell? ⟨bk, o + k * 8 + 6, none⟩ = some (.int .i64 (z 6)) := hq 6
      have q7 : wr.cell? ⟨bk, o + k * 8 + 7, none⟩ = some (.int .i64 (z 7)) := hq 7
      clear hq
      have hmx : k < maxLen := by unfold maxLen; omega
      go_wp2_with (first
        | (at_mapUpdate; refine wpList_mapUpdate_own _ rfl _ _ _ 68 rfl 3 3 law3 Tryd.underlying68 _ w1.heap.size k D rfl (hown.alloc _) hmx _ _ _ rfl rfl (keyOf_int_mk Tryd.underlying3 (by rw [HX.out.2.2.2.1]; exact wf_of HX.out.2.1)) _ [] (plainElem_int Tryd.underlying3 (by rw [HX.out.2.2.2.2]; exact wf_of HX.out.2.2.1)) ?_; intro w2 hown2 hg2; go_frame)
        | go_in)
      refine ⟨relD_next HX.out.1 (hown.tidy law3) HN.out.1 HN.out.2.1 HN.out.2.2 (by rw [← HX.out.2.2.2.1, ← HX.out.2.2.2.2]; exact hown2) ((hnx.alloc (by omega) _).grown hg2 (by simp; omega) (fun q hq => by cases hq; exact Nat.le_refl _)) (by have := hg2.size; simp at this; omega), by simp [intOf]; omega⟩
    · have hkl : k ≤ m := by rw [← HL.out]; exact hk
      obtain rfl : k = m := by omega
      have t2 := (hnx.cell (p := ⟨w.heap.size, 2, none⟩) hz1).trans s2
      have hlen : ∀ q ty, (Builtin.len_ #[68] ty #[.map (some w1.heap.size)]).run Tryd.prog (wr.drewN q) = .ok (.int .i64 (Maps.size D)) (wr.drewN q) := fun q ty => World.ownsMap.len (w := wr.drewN q) hown Tryd.underlying68 ty
      have HO := Lib.hid hown
      clear hown
      by_cases hn : n = 0
      · subst hn
        have hval : (((Maps.size D : Nat) : Int) == (k : Int)) = decide ((0 : Int) = 0 ∧ (l.map Prod.fst).Nodup) := by
          have h2 := HN.out.2.2
          have h3 : l.take k = l := by rw [← HL.out, List.take_length]
          rw [h3] at h2
          rw [Bool.eq_iff_iff]
          simp only [beq_iff_eq, decide_eq_true_eq]
          exact ⟨fun h => ⟨trivial, h2.1 (by omega)⟩, fun h => by have := h2.2 h.2; omega⟩
        have HV := Lib.hid hval
        clear hval
        go_wp2
        go_quiet (fail)
        go_wp2
        go_ret2
        have hval := HV.out
        have hB : Below w.heap.size w wr := hw1.trans (hnx.mono (Nat.le_of_lt hz1))
        exact ⟨w1.heap.size, D, congrArg Ending.returned (congrArg Value.tuple (congrArg (fun x => #[Value.map (some w1.heap.size), Value.bool x]) hval)), Nat.le_of_lt hz1, by rw [HL.out]; exact HO.out, by have := HN.out.1; rwa [← HL.out, List.take_length] at this, ⟨hB.os, hB.tape, hB.output, hB.size, hB.block⟩⟩
      · have hnb : (n == 0) = false := beq_eq_false_iff_ne.2 hn
        have hval : false = decide (n = 0 ∧ (l.map Prod.fst).Nodup) := by simp [hn]
        have HV := Lib.hid hval
        clear hval
        go_wp2
        go_quiet (fail)
        go_wp2
        go_ret2
        have hval := HV.out
        have hB : Below w.heap.size w wr := hw1.trans (hnx.mono (Nat.le_of_lt hz1))
        exact ⟨w1.heap.size, D, congrArg Ending.returned (congrArg Value.tuple (congrArg (fun x => #[Value.map (some w1.heap.size), Value.bool x]) hval)), Nat.le_of_lt hz1, by rw [HL.out]; exact HO.out, by have := HN.out.1; rwa [← HL.out, List.take_length] at this, ⟨hB.os, hB.tape, hB.output, hB.size, hB.block⟩⟩
end Go.Proofs.YtedhmdocimkldaaDoor.Pa
