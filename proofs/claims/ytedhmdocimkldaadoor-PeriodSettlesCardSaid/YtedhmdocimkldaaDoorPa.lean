/- The words of a line: statement.line joins whatever words it gets. -/
import Derived.Test.YtedhmdocimkldaaDoorShelf
import Derived.WalkKit
import Derived.BigCall
import Derived.Maps.AppendAt
import Derived.WalkSmall
import Derived.Lib.ItoaLen
import Derived.Shelf.Strings.BuilderK
namespace Go.Proofs.YtedhmdocimkldaaDoor.Pa
open Go.RowKit Go.Extern.Stop Go.Stop Go.Extern Go.Shelf Go.Sort

theorem info9 : (Tryd.prog.info? 9).map (fun i => (i.zero, i.size, i.bytes)) = some (some (.string ByteArray.empty), 1, 16) := by kernel_rfl
theorem ws_k (B b : Nat) (bs : List Value) (s : ByteArray) (w : World) (h : Lib.IsBuilderF 88 5 B b bs w) (hlen : bs.length + s.size ≤ 140737488355328) (hBw : B ≤ w.heap.size) :
    Calls Tryd.prog 61 #[.pointer (some ⟨b, 0, none⟩), .string s] w fun e w' => e = .returned (.tuple #[.int .i64 s.size, .nilIface]) ∧ (Lib.BuilderAtF 88 5 B b (.pointer (some ⟨b, 0, none⟩)) (bs ++ Lib.strCells s) w' ∧ Below B w w' ∧ Lib.OthersKept 5 (some b) w w') :=
  Any.Builder_WriteString_k { Tryd.lays156 with } Tryd.Builder_Extra_156 B b bs s w h hlen hBw

/-- A word: a number, or a short string. -/
def Word (u : Value) : Prop := (∃ k : Int, -9223372036854775808 ≤ k ∧ k ≤ 9223372036854775807 ∧ u = .iface 3 (.int .i64 k)) ∨ ∃ s : ByteArray, s.size ≤ 20 ∧ u = .iface 9 (.string s)
/-- Some string of at most so many bytes, and the world behind it. -/
def Some (n : Nat) (w : World) (e : Ending) (w' : World) : Prop := ∃ s : ByteArray, e = .returned (.string s) ∧ s.size ≤ n ∧ Below w.heap.size w w'
/-- What the loop keeps. -/
def Rel1 (w : World) (n : Nat) (v i : Value) (wr : World) : Prop :=
  ∃ (k : Nat) (ao : Option Addr) (cv : Nat) (xs : List ByteArray), k ≤ n ∧ i = .int .i64 k ∧ v = .slice ao k cv ∧ xs.length = k ∧ (∀ x ∈ xs, x.size ≤ 21) ∧ wr.ownsRow w.heap.size 9 1 v k (xs.map Value.string) ∧ Below w.heap.size w wr

theorem as93 (v : Value) (w : World) : (Instr.typeAssert (.iface 9 v) 20 3 true).run Tryd.prog w = .ok (.tuple #[.int .i64 0, .bool false]) w := by
  simp [Instr.typeAssert, run_underlying Tryd.underlying3, go_sem, Tryd.zeroValue3, Result.andThen]
theorem as33 (v : Value) (w : World) : (Instr.typeAssert (.iface 3 v) 20 3 true).run Tryd.prog w = .ok (.tuple #[v, .bool true]) w := by
  simp [Instr.typeAssert, run_underlying Tryd.underlying3, go_sem, Result.andThen]
theorem as99 (v : Value) (w : World) : (Instr.typeAssert (.iface 9 v) 20 9 true).run Tryd.prog w = .ok (.tuple #[v, .bool true]) w := by
  simp [Instr.typeAssert, run_underlying Tryd.underlying9, go_sem, Result.andThen]
theorem size_of_list (l : List UInt8) : ByteArray.size ⟨l.toArray⟩ = l.length := by simp [ByteArray.size]
theorem below_grow {w : World} (k : Nat) (os : Array Obj) : Below w.heap.size w (grow (w.drewN k) os) :=
  ⟨rfl, rfl, rfl, by show w.heap.size ≤ (w.heap ++ os).size; rw [Array.size_append]; omega, fun j hj => by
    show ((w.drewN k).heap ++ os)[j]? = _
    rw [Array.getElem?_append_left (by show j < w.heap.size; omega)]
    rfl⟩
theorem kept_below {w w' : World} {base n : Nat} {e : TypeId} {v : Value} {xs : List Value} (h : w.ownsRow base e 1 v n xs) (hb : Below w.heap.size w w') : w'.ownsRow base e 1 v n xs :=
  h.kept (row := none) ⟨hb.os, hb.tape, hb.output, hb.size, fun k hk _ => hb.block k hk⟩ (by cases v.ownBlock with | none => exact .inl rfl | some _ => exact .inr (by simp))
/-- strconv.Itoa gives some short string. -/
theorem itoa_any (m : Int) (w : World) (h : -9223372036854775808 ≤ m ∧ m ≤ 9223372036854775807) (htab : Lib.TabIs Tryd.prog w "internal/strconv.uint64pow10" .u64 Lib.pow10Tab) :
    Calls Tryd.prog 83 #[.int .i64 m] w (Some 21 w) :=
  (Tryd.strconv_Itoa m h.1 h.2 w htab).mono fun e w' ⟨he, k, os, hw⟩ => ⟨_, he, by rw [size_of_list]; exact Lib.itoa_length_le m h.1 h.2, by subst hw; exact below_grow k os⟩
theorem join_len : ∀ (xs : List ByteArray), (∀ x ∈ xs, x.size ≤ 21) → (Lib.join (xs.map (·.data.toList)) [32]).length ≤ 22 * xs.length
  | [], _ => by simp [Lib.join, List.intercalate]
  | [x], h => by
    have h1 := h x (by simp)
    simp only [Lib.join, List.intercalate, List.map_cons, List.map_nil, List.intersperse_singleton, List.flatten_cons, List.flatten_nil, List.append_nil, List.length_cons, List.length_nil, ByteArray.size, Array.length_toList] at h1 ⊢
    omega
  | x :: y :: xs, h => by
    have h1 := h x (by simp)
    have h2 := join_len (y :: xs) (fun z hz => h z (by simp [hz]))
    simp only [Lib.join, List.intercalate, List.map_cons, List.intersperse_cons_cons, List.flatten_cons, List.length_append, List.length_cons, List.length_nil, ByteArray.size, Array.length_toList] at h1 h2 ⊢
    omega
/-- strings.Join of some short strings. -/
theorem join_any (ao : Option Addr) (cv k B : Nat) (xs : List ByteArray) (w : World) (hl : xs.length = k) (hx : ∀ x ∈ xs, x.size ≤ 21) (hk : k ≤ 100) (hown : w.ownsRow B 9 1 (.slice ao k cv) k (xs.map Value.string)) :
    Calls Tryd.prog 84 #[.slice ao k cv, .string ⟨#[32]⟩] w (Some (22 * k) w) := by
  rcases Nat.eq_zero_or_pos k with h0 | h0
  · subst h0
    exact (Tryd.strings_Join_none ao cv ⟨#[32]⟩ w).mono fun e w' ⟨he, hw⟩ => ⟨_, he, by simp [ByteArray.size], by subst hw; exact Below.refl _ _⟩
  · obtain ⟨g, hao⟩ : ∃ g, ao = some ⟨g, 0, none⟩ := by
      rcases hown.2 with ⟨_, h⟩ | ⟨g, cap, _, h, _⟩
      · omega
      · simp only [Value.slice.injEq] at h
        exact ⟨g, h.1⟩
    subst hao
    have hcells : ∀ (j : Nat) x, xs[j]? = some x → w.cell? ⟨g, 0 + j, none⟩ = some (.string x) := by
      intro j x hj
      have hjl := (List.getElem?_eq_some_iff.1 hj).1
      rw [Nat.zero_add, hown.cellAt j (by omega)]
      simp [hj]
    have hgl : g < w.heap.size := World.block_lt_of_cell? _ _ (hcells 0 _ (List.getElem?_eq_getElem (by omega)))
    have hcap : xs.length ≤ cv := by
      rcases hown.2 with ⟨h, _⟩ | ⟨g', cap, _, h, _, _, hn, _⟩
      · cases h
      · simp only [Value.slice.injEq] at h
        omega
    have hj := join_len xs hx
    have := Tryd.strings_Join g 0 cv xs ⟨#[32]⟩ w hcells hgl (by omega) hcap (by show (Lib.join (xs.map (·.data.toList)) [32]).length ≤ _; omega)
    rw [hl] at this
    exact this.mono fun e w' ⟨he, hb⟩ => ⟨_, he, by rw [size_of_list]; show (Lib.join (xs.map (·.data.toList)) [32]).length ≤ _; omega, hb⟩

/-- The round is over: the next one begins with what the loop keeps. -/
theorem rel_next {w : World} {n k : Nat} {xs : List ByteArray} {w3 : World} {v' : Value} {x : ByteArray} (hk : k < n) (hxl : xs.length = k) (hxs : ∀ x ∈ xs, x.size ≤ 21) (hx : x.size ≤ 21)
    (hb : Below w.heap.size w w3) (hown' : w3.ownsRow w.heap.size 9 1 v' (k + 1) (xs.map Value.string ++ [.string x])) : Rel1 w n v' (.int .i64 (k + 1)) w3 := by
  obtain ⟨g3, cap3, hv3⟩ : ∃ g3 cap3, v' = .slice (some ⟨g3, 0, none⟩) (k + 1) cap3 := by
    rcases hown'.2 with ⟨_, h⟩ | ⟨g3, cap3, _, h, _⟩
    · exact absurd h (by simp)
    · exact ⟨g3, cap3, h⟩
  exact ⟨k + 1, _, cap3, xs ++ [x], by omega, by simp, hv3, by simp [hxl], fun y hy => (List.mem_append.1 hy).elim (hxs y) (fun h => by simp at h; subst h; exact hx), by rw [List.map_append]; exact hown', hb⟩

set_option maxHeartbeats 1600000 in
set_option maxRecDepth 100000 in
theorem line_any (bk o n c : Nat) (w : World) (hn : n ≤ 100) (hlt : bk < w.heap.size) (hw : ∀ j, j < n → ∃ u, w.cell? ⟨bk, o + j, none⟩ = some u ∧ Word u)
    (htab : Lib.TabIs Tryd.prog w "internal/strconv.uint64pow10" .u64 Lib.pow10Tab) (hg : ∃ g, Tryd.prog.globalNamed "internal/strconv.uint64pow10" = some g ∧ g < w.heap.size) :
    Calls Tryd.prog 62 #[.slice (some ⟨bk, o, none⟩) n c] w (Some (22 * n + 1) w) := by
  obtain ⟨i0, hi, hz0, hz1, hz2⟩ := info_parts info9
  have HT : Hid (Lib.TabIs Tryd.prog w "internal/strconv.uint64pow10" .u64 Lib.pow10Tab ∧ ∃ g, Tryd.prog.globalNamed "internal/strconv.uint64pow10" = some g ∧ g < w.heap.size) := Lib.hid ⟨htab, hg⟩
  clear htab hg
  have as93 := as93
  have as33 := as33
  have as99 := as99
  go_enter Tryd.func62, Tryd.ntmps62
  go_wp2
  go_loopw [3, 10] (fun v i wr => Rel1 w n v i wr) (fun _ i _ => n - (intOf i).toNat)
  case atStart => exact ⟨0, none, 0, [], Nat.zero_le _, rfl, rfl, rfl, by simp, World.ownsRow_nil _ _ _ _, Below.refl _ _⟩
  case round =>
    obtain ⟨k, ao, cv, xs, hk, rfl, rfl, hxl, hxs, hown, hnx⟩ := hrel
    have hsize := hnx.size
    have HX := Lib.hid (And.intro hxl hxs)
    clear hxl hxs
    by_cases hkn : k < n
    · obtain ⟨u, hu, hW⟩ := hw k hkn
      have hu' : wr.cell? ⟨bk, o + k, none⟩ = some u := (hnx.cell (p := ⟨bk, o + k, none⟩) hlt).trans hu
      clear hu hw
      rcases hW with ⟨m, hm0, hm1, rfl⟩ | ⟨s, hs, rfl⟩
      · have HM := Lib.hid (And.intro hm0 hm1)
        clear hm0 hm1
        go_wp2_with (first
          | (go_at_call 83; refine (itoa_any m _ HM.out (by obtain ⟨h0, g, h1, h2⟩ := HT.out; exact var?_below hnx h1 h2 h0)).mono ?_; rintro e w1 ⟨x, rfl, hx, hb1⟩; have hown1 := kept_below hown hb1; have hs1 := hb1.size; have HXX := Lib.hid hx; clear hx)
          | (at_builtin; refine wpList_append_own _ rfl _ _ 112 rfl w.heap.size 9 i0 (.string ByteArray.empty) 1 16 Tryd.underlying112 hi hz0 hz1 hz2 rfl (by decide) _ _ _ rfl (hown1.alloc _) ⟨w1.heap.size, 0, none⟩ 1 1 [.string x] rfl rfl (cell_one_new _ _ _) (fun x hx => by simp at hx; subst hx; rfl) (by unfold maxLen; omega) (by omega) (by simp; omega) ?_; intro v' w3 hown' hgrow3 hnil3))
        go_roundw
        case rel =>
          exact rel_next hkn HX.out.1 HX.out.2 HXX.out (((hnx.trans (hb1.mono hsize)).alloc (by omega) _).grown hgrow3 (by simp; omega) (fun q hq => (hown1.lt q hq).1)) hown'
        case measure => simp [intOf]; omega
      · go_wp2_with (at_builtin; refine wpList_append_own _ rfl _ _ 112 rfl w.heap.size 9 i0 (.string ByteArray.empty) 1 16 Tryd.underlying112 hi hz0 hz1 hz2 rfl (by decide) _ _ _ rfl (hown.alloc _) ⟨wr.heap.size, 0, none⟩ 1 1 [.string s] rfl rfl (cell_one_new _ _ _) (fun x hx => by simp at hx; subst hx; rfl) (by unfold maxLen; omega) (by omega) (by simp; omega) ?_; intro v' w3 hown' hgrow3 hnil3)
        go_roundw
        case rel =>
          exact rel_next hkn HX.out.1 HX.out.2 (by omega) ((hnx.alloc hsize _).grown hgrow3 (by simp; omega) (fun q hq => (hown.lt q hq).1)) hown'
        case measure => simp [intOf]; omega
    · obtain rfl : k = n := by omega
      go_wp2_with (go_at_call 84; refine (join_any ao cv k w.heap.size xs _ HX.out.1 HX.out.2 hn hown).mono ?_; rintro e w1 ⟨x, rfl, hx, hb1⟩)
      have hmx : x.size + 1 ≤ 9223372036854775807 := by omega
      go_wp2
      go_ret
      exact ⟨_, rfl, by rw [ByteArray.size_append]; show _ + 1 ≤ _; omega, hnx.trans (hb1.mono hsize)⟩
end Go.Proofs.YtedhmdocimkldaaDoor.Pa
