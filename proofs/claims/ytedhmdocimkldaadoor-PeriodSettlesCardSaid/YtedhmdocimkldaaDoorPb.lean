/- A statement's text: statement.Print answers whatever it prints. -/
import Derived.Test.YtedhmdocimkldaaDoorPa
namespace Go.Proofs.YtedhmdocimkldaaDoor.Pa
open Go.RowKit Go.Extern.Stop Go.Stop Go.Extern Go.Shelf Go.Sort

theorem cell_last (w : World) (c : Array Value) (t : TypeId) (b j : Nat) (hb : b = w.heap.size) : (w.alloc (.cells c t)).cell? ⟨b, j, none⟩ = c[j]? := by
  subst hb; exact Lib.cell_of_heap (heap_alloc_new w _) j
/-- Eight numbers in a row of their own. -/
def Eight (z : Fin 8 → Int) (w : World) (e : Ending) (w' : World) : Prop :=
  ∃ g : Nat, e = .returned (.slice (some ⟨g, 0, none⟩) 8 8) ∧ Below w.heap.size w w' ∧ w.heap.size ≤ g ∧ g < w'.heap.size ∧ ∀ (j : Fin 8), w'.cell? ⟨g, j, none⟩ = some (.int .i64 (z j))
theorem numbers_any (z : Fin 8 → Int) (w : World) :
    Calls Tryd.prog 63 #[.agg #[.int .i64 (z 0), .int .i64 (z 1), .int .i64 (z 2), .int .i64 (z 3), .int .i64 (z 4), .int .i64 (z 5), .int .i64 (z 6), .int .i64 (z 7)]] w (Eight z w) := by
  go_enter Tryd.func63, Tryd.ntmps63
  go_wp2
  go_ret
  refine ⟨w.heap.size + 1 + 1, rfl, (((Below.refl _ w).alloc (Nat.le_refl _) _).alloc (by simp) _).alloc (by simp; omega) _, by omega, by simp, fun j => ?_⟩
  rw [cell_last _ _ _ _ _ (by simp)]
  match j with
  | ⟨0, _⟩ => rfl
  | ⟨1, _⟩ => rfl
  | ⟨2, _⟩ => rfl
  | ⟨3, _⟩ => rfl
  | ⟨4, _⟩ => rfl
  | ⟨5, _⟩ => rfl
  | ⟨6, _⟩ => rfl
  | ⟨7, _⟩ => rfl
/-- What behind the world below stands, a builder keeps. -/
theorem builder_below {T e : TypeId} {B b : Nat} {bs : List Value} {w w' : World} (h : Lib.IsBuilderF T e B b bs w) (hb : Below w.heap.size w w') : Lib.IsBuilderF T e B b bs w' := by
  have hg : w.grownBy w' none := ⟨hb.os, hb.tape, hb.output, hb.size, fun k hk _ => hb.block k hk⟩
  have key : ∀ p, Lib.BuilderAtF T e B b p bs w → Lib.BuilderAtF T e B b p bs w' := fun p ⟨h1, v, h2, h3, h4⟩ =>
    ⟨h1, v, by rw [hb.block b (Array.getElem?_eq_some_iff.1 h2).1]; exact h2, h3.kept hg (by cases v.ownBlock with | none => exact .inl rfl | some _ => exact .inr (by simp)), h4⟩
  exact h.elim (fun x => .inl (key _ x)) (fun x => .inr (key _ x))
/-- A builder that holds so many bytes at most. -/
def Bld (b n : Nat) (w : World) : Prop := ∃ l : List UInt8, l.length ≤ n ∧ Lib.IsBuilderF 88 5 b b (Lib.byteCells l) w
theorem write_any (b n m : Nat) (s : ByteArray) (w : World) (h : Bld b n w) (hn : n + m ≤ 140737488355328) (hm : s.size ≤ m) (hb : b ≤ w.heap.size) :
    Calls Tryd.prog 61 #[.pointer (some ⟨b, 0, none⟩), .string s] w fun e w' => e = .returned (.tuple #[.int .i64 s.size, .nilIface]) ∧ Bld b (n + m) w' ∧ Below b w w' ∧ Lib.OthersKept 5 (some b) w w' := by
  obtain ⟨l, hl, h⟩ := h
  refine (ws_k b b (Lib.byteCells l) s w h (by rw [Lib.byteCells, List.length_map]; omega) hb).mono fun e w' ⟨he, h1, h2, h3⟩ => ⟨he, ⟨l ++ s.data.toList, Nat.le_trans (Nat.le_of_eq List.length_append) (Nat.add_le_add hl (Nat.le_trans (Nat.le_of_eq Array.length_toList) hm)), .inr ?_⟩, h2, h3⟩
  rw [Lib.strCells_eq] at h1
  simpa [Lib.byteCells] using h1
theorem string_any (b n : Nat) (w : World) (h : Bld b n w) (hb : b ≤ w.heap.size) :
    Calls Tryd.prog 64 #[.pointer (some ⟨b, 0, none⟩)] w fun e w' => (∃ s, e = .returned (.string s) ∧ s.size ≤ n) ∧ Below b w w' := by
  obtain ⟨l, hl, h⟩ := h
  exact (Tryd.Builder_String_any_k b b l w h hb).mono fun e w' ⟨he, _, h2, _⟩ => ⟨⟨_, he, by rw [size_of_list]; exact hl⟩, h2⟩

/-- The charges of a statement, as they lie. -/
def Charges (p : Option Addr) (m : Nat) (w : World) : Prop :=
  m = 0 ∨ ∃ bk o, p = some ⟨bk, o, none⟩ ∧ bk < w.heap.size ∧ ∀ k, k < m → ∃ z : Fin 8 → Int, (∀ j, -9223372036854775808 ≤ z j ∧ z j ≤ 9223372036854775807) ∧ ∀ j : Fin 8, w.cell? ⟨bk, o + k * 8 + j, none⟩ = some (.int .i64 (z j))
/-- The tables that printing reads. -/
def Tabs (w : World) : Prop :=
  Lib.TabIs Tryd.prog w "internal/strconv.uint64pow10" .u64 Lib.pow10Tab ∧ (∃ g, Tryd.prog.globalNamed "internal/strconv.uint64pow10" = some g ∧ g < w.heap.size) ∧
    0 < w.heap.size ∧ ∀ j, j < 8 → ∃ s : ByteArray, s.size ≤ 20 ∧ w.cell? ⟨0, j, none⟩ = some (.string s)
def Ans (n : Int) (w : World) (e : Ending) (w' : World) : Prop := ∃ s : ByteArray, e = .returned (.tuple #[.string s, .int .i64 n]) ∧ Below w.heap.size w w'
theorem box_cells {w w1 : World} {x0 x1 x2 x3 : Value} (hb : Below (w.alloc (.cells #[x0, x1, x2, x3] 40)).heap.size (w.alloc (.cells #[x0, x1, x2, x3] 40)) w1) :
    w1.cell? ⟨w.heap.size, 0, none⟩ = some x0 ∧ w1.cell? ⟨w.heap.size, 1, none⟩ = some x1 ∧ w1.cell? ⟨w.heap.size, 2, none⟩ = some x2 ∧ w1.cell? ⟨w.heap.size, 3, none⟩ = some x3 ∧ w.heap.size < w1.heap.size := by
  have k : ∀ j, w1.cell? ⟨w.heap.size, j, none⟩ = #[x0, x1, x2, x3][j]? := fun j => (hb.cell (p := ⟨w.heap.size, j, none⟩) (by simp)).trans (cell_last w _ _ _ j rfl)
  have hs := hb.size
  simp at hs
  exact ⟨k 0, k 1, k 2, k 3, by omega⟩
theorem Tabs.below {w w1 : World} (h : Tabs w) (hb : Below w.heap.size w w1) : Tabs w1 := by
  obtain ⟨h1, ⟨g, h2, h3⟩, h4, h5⟩ := h
  have hs := hb.size
  exact ⟨var?_below hb h2 h3 h1, ⟨g, h2, by omega⟩, by omega, fun j hj => let ⟨s, k1, k2⟩ := h5 j hj; ⟨s, k1, (hb.cell (p := ⟨0, j, none⟩) h4).trans k2⟩⟩
/-- A line of words that are laid for it. -/
theorem line_new (w : World) (cs : Array Value) (b n : Nat) (hcs : ∀ u ∈ cs.toList, Word u) (hb : b = w.heap.size) (hn : cs.size = n) (h100 : n ≤ 100) (ht : Tabs w) :
    Calls Tryd.prog 62 #[.slice (some ⟨b, 0, none⟩) n n] (w.alloc (.cells cs 20)) (Some (22 * n + 1) (w.alloc (.cells cs 20))) := by
  obtain ⟨h1, h2, h3, h4⟩ := ht.below ((Below.refl _ w).alloc (Nat.le_refl _) (.cells cs 20))
  refine line_any b 0 n n _ h100 (by subst hb; simp) (fun j hj => ?_) h1 h2
  have hj' : j < cs.size := by omega
  refine ⟨cs[j], ?_, hcs _ (by simp)⟩
  rw [Nat.zero_add, cell_last w cs 20 b j hb]
  simp [hj']
theorem bld_new (w : World) : Bld w.heap.size 0 (w.alloc (.cells #[.pointer none, .slice none 0 0] 88)) :=
  ⟨[], Nat.le_refl _, Lib.IsBuilderF.of (Lib.fresh_isBuilder 88 5 w)⟩
theorem Bld.below {b n : Nat} {w w1 : World} (h : Bld b n w) (hb : Below w.heap.size w w1) : Bld b n w1 := let ⟨l, h1, h2⟩ := h; ⟨l, h1, builder_below h2 hb⟩
theorem Bld.mono {b n n' : Nat} {w : World} (h : Bld b n w) (hb : n ≤ n') : Bld b n' w := let ⟨l, h1, h2⟩ := h; ⟨l, by omega, h2⟩
theorem word_s (s : ByteArray) (h : s.size ≤ 20) : Word (.iface 9 (.string s)) := .inr ⟨s, h, rfl⟩
theorem word_i {k : Int} (h : -9223372036854775808 ≤ k ∧ k ≤ 9223372036854775807) : Word (.iface 3 (.int .i64 k)) := .inl ⟨k, h.1, h.2, rfl⟩
theorem words2 {x y : Value} (hx : Word x) (hy : Word y) : ∀ u ∈ (#[x, y] : Array Value).toList, Word u := by
  intro u hu; simp at hu; rcases hu with rfl | rfl <;> assumption
theorem words3 {x y z : Value} (hx : Word x) (hy : Word y) (hz : Word z) : ∀ u ∈ (#[x, y, z] : Array Value).toList, Word u := by
  intro u hu; simp at hu; rcases hu with rfl | rfl | rfl <;> assumption
theorem below_alloc (w : World) (o : Obj) : Below w.heap.size w (w.alloc o) := (Below.refl _ w).alloc (Nat.le_refl _) o
theorem info20 : (Tryd.prog.info? 20).map (fun i => (i.zero, i.size, i.bytes)) = some (some .nilIface, 1, 16) := by kernel_rfl
def RelI (w4 : World) (v i : Value) (wi : World) : Prop :=
  ∃ (k : Nat) (ao : Option Addr) (cv : Nat) (xs : List Value), k ≤ 8 ∧ i = .int .i64 k ∧ v = .slice ao (2 * k) cv ∧ (∀ u ∈ xs, Word u) ∧ wi.ownsRow w4.heap.size 20 1 v (2 * k) xs ∧ Below w4.heap.size w4 wi
theorem relI_next {w4 w5 : World} {k : Nat} {xs : List Value} {v' x y : Value} (hk : k < 8) (hxs : ∀ u ∈ xs, Word u) (hx : Word x) (hy : Word y)
    (hb : Below w4.heap.size w4 w5) (hown' : w5.ownsRow w4.heap.size 20 1 v' (2 * k + 2) (xs ++ [x, y])) : RelI w4 v' (.int .i64 (k + 1)) w5 := by
  obtain ⟨g3, cap3, hv3⟩ : ∃ g3 cap3, v' = .slice (some ⟨g3, 0, none⟩) (2 * k + 2) cap3 := by
    rcases hown'.2 with ⟨_, h⟩ | ⟨g3, cap3, _, h, _⟩
    · exact absurd h (by simp)
    · exact ⟨g3, cap3, h⟩
  exact ⟨k + 1, _, cap3, xs ++ [x, y], by omega, by simp, hv3, fun u hu => (List.mem_append.1 hu).elim (hxs u) (fun h => by simp at h; rcases h with rfl | rfl <;> assumption), hown', hb⟩
/-- A line of words that lie in a row of the call's own. -/
theorem line_own (ao : Option Addr) (cv n B : Nat) (xs : List Value) (w : World) (h0 : 0 < n) (hn : n ≤ 100) (hxs : ∀ u ∈ xs, Word u) (hown : w.ownsRow B 20 1 (.slice ao n cv) n xs) (ht : Tabs w) :
    Calls Tryd.prog 62 #[.slice ao n cv] w (Some (22 * n + 1) w) := by
  obtain ⟨g, hao⟩ : ∃ g, ao = some ⟨g, 0, none⟩ := by
    rcases hown.2 with ⟨h, _⟩ | ⟨g, cap, _, h, _⟩
    · simp at h; omega
    · simp only [Value.slice.injEq] at h
      exact ⟨g, h.1⟩
  subst hao
  have hl := hown.1
  have hcell : ∀ j, j < n → ∃ u, w.cell? ⟨g, 0 + j, none⟩ = some u ∧ Word u := fun j hj => by
    have hjl : j < xs.length := by omega
    refine ⟨xs[j], ?_, hxs _ (List.getElem_mem hjl)⟩
    rw [Nat.zero_add, hown.cellAt j (by omega)]
    simp [hjl]
  obtain ⟨u, hu, _⟩ := hcell 0 h0
  exact line_any g 0 n cv w hn (World.block_lt_of_cell? _ _ hu) hcell ht.1 ht.2.1
def RelO (w1 : World) (m : Nat) (i : Value) (wr : World) : Prop :=
  ∃ k : Nat, k ≤ m ∧ i = .int .i64 k ∧ Bld w1.heap.size (1000 * (k + 1)) wr ∧ Below w1.heap.size w1 wr ∧ w1.heap.size < wr.heap.size
set_option maxHeartbeats 3200000 in
set_option maxRecDepth 100000 in
theorem print_any (fr to tot : Int) (p : Option Addr) (m c : Nat) (n : Int) (w : World) (ht : Tabs w)
    (hok : n = 0 → m ≤ 64 ∧ Charges p m w ∧ (-9223372036854775808 ≤ fr ∧ fr ≤ 9223372036854775807) ∧ (-9223372036854775808 ≤ to ∧ to ≤ 9223372036854775807) ∧ (-9223372036854775808 ≤ tot ∧ tot ≤ 9223372036854775807))
    (hp : ∀ w1, Below w.heap.size w w1 → Calls Tryd.prog 60 #[.agg #[.int .i64 fr, .int .i64 to, .slice p m c, .int .i64 tot]] w1 fun e w' => e = .returned (.int .i64 n) ∧ Below w1.heap.size w1 w') :
    Calls Tryd.prog 56 #[.agg #[.int .i64 fr, .int .i64 to, .slice p m c, .int .i64 tot]] w (Ans n w) := by
  have HP := Lib.hid hp
  clear hp
  by_cases hn : n = 0
  · subst hn
    obtain ⟨hm', hc, hfr, hto, htot⟩ := hok rfl
    have HR := Lib.hid (And.intro hfr (And.intro hto htot))
    have HT := Lib.hid (And.intro ht hc)
    clear hok hfr hto htot ht hc
    go_enter Tryd.func56, Tryd.ntmps56
    go_wp2_with (first
      | (go_at_call 60; refine (HP.out _ (below_alloc w _)).mono ?_; rintro e w1 ⟨rfl, hb1⟩; obtain ⟨s0, s1, s2, s3, hz1⟩ := box_cells hb1; have hw1 : Below w.heap.size w w1 := (below_alloc w _).trans (hb1.mono (by simp)); have HT1 := Lib.hid (HT.out.1.below hw1))
      | (go_at_call 62; refine (line_new (w1.alloc (.cells #[.pointer none, .slice none 0 0] 88)) _ _ 3 (words3 (word_s _ (by decide)) (word_i HR.out.1) (word_i HR.out.2.1)) (by simp) rfl (by decide) (HT1.out.below (below_alloc w1 _))).mono ?_; rintro e w2 ⟨x, rfl, hx, hb2⟩; have HX := Lib.hid hx; clear hx; have hs2 := hb2.size; simp at hs2)
      | (go_at_call 61; refine (write_any w1.heap.size 0 100 x w2 (((bld_new w1).below (below_alloc _ _)).below hb2) (by omega) (by have := HX.out; omega) (by omega)).mono ?_; rintro e w3 ⟨rfl, HB3, hb3, hk3⟩; have hbb : Below w1.heap.size w1 w3 := (((below_alloc w1 _).trans ((below_alloc _ _).mono (by simp))).trans (hb2.mono (by simp; omega))).trans hb3; have t2 := (hbb.cell (p := ⟨w.heap.size, 2, none⟩) hz1).trans s2; have hz3 : w1.heap.size < w3.heap.size := Nat.lt_of_lt_of_le (by omega) hb3.size))
    go_loopw [29] (fun i wr => RelO w1 m i wr) (fun i _ => m - (intOf i).toNat)
    case atStart => exact ⟨0, Nat.zero_le _, rfl, HB3.mono (by omega), hbb, hz3⟩
    case round =>
      obtain ⟨wo, rfl⟩ : ∃ wo, wo = wr := ⟨_, rfl⟩
      obtain ⟨k, hk, rfl, HB, hnx, hzr⟩ := hrel
      by_cases hkm : k < m
      · obtain ⟨bk, o, rfl, hbk, hch⟩ : ∃ bk o, p = some ⟨bk, o, none⟩ ∧ bk < w.heap.size ∧ ∀ k, k < m → ∃ z : Fin 8 → Int, (∀ j, -9223372036854775808 ≤ z j ∧ z j ≤ 9223372036854775807) ∧ ∀ j : Fin 8, w.cell? ⟨bk, o + k * 8 + j, none⟩ = some (.int .i64 (z j)) :=
          HT.out.2.elim (fun h => absurd h (by omega)) id
        obtain ⟨z, hzb, hz⟩ := hch k hkm
        have HZ := Lib.hid hzb
        have hq : ∀ j : Fin 8, wo.cell? ⟨bk, o + k * 8 + j, none⟩ = some (.int .i64 (z j)) := fun j => ((hw1.trans (hnx.mono (by omega))).cell (p := ⟨bk, o + k * 8 + j, none⟩) hbk).trans (hz j)
        clear hzb hz hch
        have q0 : wo.cell? ⟨bk, o + k * 8, none⟩ = some (.int .i64 (z 0)) := hq 0
        have q1 : wo.cell? ⟨bk, o + k * 8 + 1, none⟩ = some (.int .i64 (z 1)) := hq 1
        have q2 : wo.cell? ⟨bk, o + k * 8 + 2, none⟩ = some (.int .i64 (z 2)) := hq 2
        have q3 : wo.cell? ⟨bk, o + k * 8 + 3, none⟩ = some (.int .i64 (z 3)) := hq 3
        have q4 : wo.cell? ⟨bk, o + k * 8 + 4, none⟩ = some (.int .i64 (z 4)) := hq 4
        have q5 : wo.cell? ⟨bk, o + k * 8 + 5, none⟩ = some (.int .i64 (z 5)) := hq 5
        have q6 : wo.cell? ⟨bk, o + k * 8 + 6, none⟩ = some (.int .i64 (z 6)) := hq 6
        have q7 : wo.cell? ⟨bk, o + k * 8 + 7, none⟩ = some (.int .i64 (z 7)) := hq 7
        clear hq
        go_wp2_with (first
          | (go_at_call 63; refine (numbers_any z _).mono ?_; rintro e w4 ⟨g, rfl, hb4, hg0, hg1, hg⟩))
        have hs4 := hb4.size
        simp at hs4
        have hr4 : Below wo.heap.size wo w4 := ((below_alloc wo _).trans (hb4.mono (by simp)))
        have HT4 := Lib.hid (HT1.out.below ((hnx.mono (Nat.le_refl _)).trans (hr4.mono (by omega))))
        obtain ⟨i20, hi, hz0, hz1', hz2⟩ := info_parts info20
        go_loopw [8, 36] (fun v i wr => RelI w4 v i wr) (fun _ i _ => 8 - (intOf i).toNat)
        case atStart => exact ⟨0, none, 0, [], Nat.zero_le _, rfl, rfl, by simp, World.ownsRow_nil _ _ _ _, Below.refl _ _⟩
        case round =>
          obtain ⟨j, ao, cv, xs, hj, rfl, rfl, hxs, hown, hni⟩ := hrel
          have hsi := hni.size
          have HXS := Lib.hid hxs
          clear hxs
          by_cases hj8 : j < 8
          · obtain ⟨s, hs, hkey⟩ := (HT4.out.below hni).2.2.2 j hj8
            have hnum : wr.cell? ⟨g, j, none⟩ = some (.int .i64 (z ⟨j, hj8⟩)) := (hni.cell (p := ⟨g, j, none⟩) hg1).trans (hg ⟨j, hj8⟩)
            have HS := Lib.hid hs
            clear hs
            go_wp2_with (at_builtin; refine wpList_append_own _ rfl _ _ 94 rfl w4.heap.size 20 i20 .nilIface 1 16 Tryd.underlying94 hi hz0 hz1' hz2 rfl (by decide) _ _ _ rfl (hown.alloc _) ⟨wr.heap.size, 0, none⟩ 2 2 [.iface 9 (.string s), .iface 3 (.int .i64 (z ⟨j, hj8⟩))] rfl rfl (cell_two_new _ _ _ _) (fun x hx => by simp at hx; rcases hx with rfl | rfl <;> rfl) (by unfold maxLen; omega) (by omega) (by simp; omega) ?_; intro v' w5 hown' hgrow5 hnil5)
            go_roundw
            case rel => exact relI_next hj8 HXS.out (word_s s HS.out) (word_i (HZ.out _)) ((hni.alloc hsi _).grown hgrow5 (by simp; omega) (fun q hq => (hown.lt q hq).1)) hown'
            case measure => simp [intOf]; omega
          · obtain rfl : j = 8 := by omega
            go_wp2_with (first
              | (go_at_call 62; refine (line_own ao cv 16 w4.heap.size xs wr (by omega) (by omega) HXS.out hown (HT4.out.below hni)).mono ?_; rintro e w5 ⟨x, rfl, hx, hb5⟩; have HX := Lib.hid hx; clear hx; have hs5 := hb5.size)
              | (go_at_call 61; refine (write_any w1.heap.size (1000 * (k + 1)) 1000 x w5 (HB.below (hr4.trans ((hni.mono (by omega)).trans (hb5.mono (by omega))))) (by omega) (by have := HX.out; omega) (by omega)).mono ?_; rintro e w6 ⟨rfl, HB6, hb6, hk6⟩))
            have hs6 := hb6.size
            exact ⟨⟨k + 1, by omega, by simp, HB6.mono (by omega), (hnx.trans ((hr4.trans ((hni.mono (by omega)).trans (hb5.mono (by omega)))).mono (by omega))).trans hb6, by omega⟩, by simp [intOf]; omega⟩
      · obtain rfl : k = m := by omega
        have t3 := (hnx.cell (p := ⟨w.heap.size, 3, none⟩) hz1).trans s3
        go_wp2_with (first
          | (go_at_call 62; refine (line_new wo _ _ 2 (words2 (word_s _ (by decide)) (word_i HR.out.2.2)) (by simp) rfl (by decide) (HT1.out.below hnx)).mono ?_; rintro e w4 ⟨x, rfl, hx, hb4⟩; have HX := Lib.hid hx; clear hx; have hs4 := hb4.size; simp at hs4)
          | (go_at_call 61; refine (write_any w1.heap.size (1000 * (k + 1)) 100 x w4 (HB.below ((below_alloc _ _).trans (hb4.mono (by simp)))) (by omega) (by have := HX.out; omega) (by omega)).mono ?_; rintro e w5 ⟨rfl, HB5, hb5, hk5⟩; have hs5 := hb5.size)
          | (go_at_call 64; refine (string_any w1.heap.size _ w5 HB5 (by omega)).mono ?_; rintro e w6 ⟨⟨y, rfl, hy⟩, hb6⟩))
        go_ret2
        exact ⟨_, rfl, (((hw1.trans (hnx.mono (by omega))).trans (((below_alloc wo _).trans (hb4.mono (by simp))).mono (by omega))).trans (hb5.mono (by omega))).trans (hb6.mono (by omega))⟩
  · have hnb : (n == 0) = false := beq_eq_false_iff_ne.2 hn
    clear hok ht
    go_enter Tryd.func56, Tryd.ntmps56
    go_wp2_with (go_at_call 60; refine (HP.out _ ((Below.refl _ w).alloc (Nat.le_refl _) _)).mono ?_; rintro e w1 ⟨rfl, hb1⟩)
    go_ret2
    exact ⟨_, rfl, ((Below.refl _ w).alloc (Nat.le_refl _) _).trans (hb1.mono (by simp))⟩
end Go.Proofs.YtedhmdocimkldaaDoor.Pa
