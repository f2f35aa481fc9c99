/- The sort of the adjustments, on a row of the call's own. -/
import Derived.Test.YtedhmdocimkldaaDoorPg
import Derived.Shelf.SlSortCmp.NoneTotal
namespace Go.Proofs.YtedhmdocimkldaaDoor.Pa
open Go.RowKit Go.Extern.Stop Go.Stop Go.Extern Go.Shelf Go.Sort Go.Maps

theorem flatMap_get {α β : Type} (f : α → List β) (k : Nat) (hk : ∀ x, (f x).length = k) (h0 : 0 < k) : ∀ (l : List α) (t : Nat), (l.flatMap f)[t]? = (l[t / k]?).bind fun x => (f x)[t % k]?
  | [], t => by simp
  | x :: l, t => by
    rw [List.flatMap_cons]
    rcases Nat.lt_or_ge t k with h | h
    · rw [List.getElem?_append_left (by rw [hk]; exact h), Nat.div_eq_of_lt h, Nat.mod_eq_of_lt h]
      simp
    · rw [List.getElem?_append_right (by rw [hk]; exact h), hk, flatMap_get f k hk h0 l]
      have h1 : t / k = (t - k) / k + 1 := by rw [Nat.div_eq_sub_div h0 h]
      have h2 : t % k = (t - k) % k := by rw [Nat.mod_eq_sub_mod h]
      rw [h1, h2]
      simp
theorem encA_len (x : Adj) : (encA x).length = 2 := rfl
theorem flatK_eq (d : Array Adj) : (flatK encA 2 d).toList = d.toList.flatMap encA := by
  apply List.ext_getElem?
  intro t
  rw [flatMap_get encA 2 encA_len (by omega)]
  by_cases ht : t < d.size * 2
  · have h1 : t / 2 < d.size := by omega
    rw [Array.getElem?_toList, Array.getElem?_eq_getElem (by rw [size_flatK]; exact ht)]
    have h2 := get_flatK encA 2 d t ht
    rw [getElem!_pos (flatK encA 2 d) t (by rw [size_flatK]; exact ht)] at h2
    rw [h2, Array.getElem?_toList, Array.getElem?_eq_getElem h1, getElem!_pos d (t / 2) h1, Option.bind_some]
    have h3 : t % 2 < (encA d[t / 2]).length := by rw [encA_len]; omega
    rw [getElem!_pos (encA d[t / 2]) (t % 2) h3, List.getElem?_eq_getElem h3]
  · rw [List.getElem?_eq_none (by rw [Array.length_toList, size_flatK]; omega), List.getElem?_eq_none (l := d.toList) (by rw [Array.length_toList]; omega)]
    rfl
theorem holds_own {w : World} {g : Nat} {cur : Array Value} {e : TypeId} {d : Array Adj} (hb : w.heap[g]? = some (.cells cur e (0, 0))) (ht : cur.toList.take (d.size * 2) = d.toList.flatMap encA) : HoldsK encA 2 w g 0 d := by
  intro j hj
  have hj' : j < d.size * 2 := by simpa using hj
  refine ⟨?_, by simp [World.frozen?, hb]⟩
  have h1 : (cur.toList.take (d.size * 2))[j]? = (flatK encA 2 d).toList[j]? := by rw [ht, flatK_eq]
  rw [List.getElem?_take_of_lt hj', Array.getElem?_toList (xs := flatK encA 2 d), Array.getElem?_eq_getElem hj] at h1
  simp only [World.cell?, hb, Nat.zero_add]
  simp only [Option.isSome_none, Bool.false_eq_true, if_false]
  rw [← Array.getElem?_toList, h1, getElem!_pos _ j hj]
  rfl
theorem heap_own {w : World} {g n : Nat} {os : Array Obj} {cur : Array Value} {e : TypeId} {fr : Nat × Nat} (d : Array Adj) (hb : w.heap[g]? = some (.cells cur e fr)) :
    (sortWorldK encA 2 w g 0 n d os).heap[g]? = some (.cells (putCells id 0 (flatK encA 2 d) cur) e fr) := by
  have hg : g < w.heap.size := (Array.getElem?_eq_some_iff.1 hb).1
  unfold sortWorldK
  rw [heap_grow_old _ _ (by simpa [putRowK] using hg)]
  simp [putRowK, putRow, mapBlock, Sort.ahead, Array.getElem?_modify, hb, onCells]
theorem below_sorted {w : World} {g n B : Nat} {os : Array Obj} (d : Array Adj) (hB : B ≤ g) (hg : g < w.heap.size) : RowKit.Below B w (sortWorldK encA 2 w g 0 n d os) := by
  refine ⟨rfl, rfl, rfl, by simp [sortWorldK, putRowK], fun k hk => ?_⟩
  unfold sortWorldK
  rw [heap_grow_old _ _ (by simp [putRowK]; omega)]
  have : g ≠ k := by omega
  simp [putRowK, putRow, mapBlock, Sort.ahead, Array.getElem?_modify, this]
theorem take_put (cur : Array Value) (d : Array Value) (h : d.size ≤ cur.size) : (putCells id 0 d cur).toList.take d.size = d.toList := by
  apply List.ext_getElem?
  intro j
  by_cases hj : j < d.size
  · rw [List.getElem?_take_of_lt hj, Array.getElem?_toList]
    simp [putCells, hj, show j < cur.size by omega]
  · rw [List.getElem?_take_eq_none (by omega), List.getElem?_eq_none (by simp; omega)]
/-- Behind the sort: the same pairs, by their items. -/
def SortedA (ds : List (Int × Int)) (B : Nat) (v : Value) (w : World) (e : Ending) (w' : World) : Prop :=
  e = .returned (.tuple #[]) ∧ ∃ ts : List (Int × Int), ts.Perm ds ∧ ts.Pairwise (fun x y => x.1 ≤ y.1) ∧ w'.ownsRow B 49 2 v ds.length (ts.flatMap encP) ∧ RowKit.Below B w w'
theorem sort_own (ds : List (Int × Int)) (hds : ∀ p ∈ ds, 0 ≤ p.1 ∧ p.1 ≤ 1000000000000000000) (ao : Option Addr) (cv B : Nat) (w : World) (hB : B ≤ w.heap.size) (hl : ds.length ≤ 100000) (hown : w.ownsRow B 49 2 (.slice ao ds.length cv) ds.length (ds.flatMap encP)) :
    Calls Tryd.prog 47 #[.slice ao ds.length cv, .func (.func 48) #[] #[]] w (SortedA ds B (.slice ao ds.length cv) w) := by
  cases hnil : ds with
  | nil =>
    subst hnil
    exact (AnyF.slices_SortFunc_none Tryd.sortAdj ao cv (.func (.func 48) #[] #[]) w).mono fun e w' ⟨he, hw⟩ => ⟨he, [], List.Perm.refl _, List.Pairwise.nil, by subst hw; exact hown, by subst hw; exact RowKit.Below.refl _ _⟩
  | cons p0 rest =>
    rw [← hnil]
    have hpos : 0 < ds.length := by rw [hnil]; simp
    obtain ⟨g, cap, cur, hv, hbase, hb, h1, h2, h3, h4⟩ : ∃ g cap cur, Value.slice ao ds.length cv = .slice (some ⟨g, 0, none⟩) ds.length cap ∧ B ≤ g ∧ w.heap[g]? = some (.cells cur 49 (0, 0)) ∧ ds.length ≤ cap ∧ cap ≤ maxLen ∧ cur.size = cap * 2 ∧ cur.toList.take (ds.length * 2) = ds.flatMap encP := by
      rcases hown.2 with ⟨_, h⟩ | h
      · omega
      · exact h
    simp only [Value.slice.injEq, true_and] at hv
    obtain ⟨rfl, rfl⟩ := hv
    let d : Array Adj := (ds.attach.map fun x => (⟨x.1, hds x.1 x.2⟩ : Adj)).toArray
    have hd : d.toList.map Subtype.val = ds := by
      show (ds.attach.map fun x => (⟨x.1, hds x.1 x.2⟩ : Adj)).map Subtype.val = ds
      rw [List.map_map]
      exact List.attach_map_subtype_val ds
    have hdl : d.size = ds.length := by simp [d]
    have hfm : ∀ (l : List Adj), l.flatMap encA = (l.map Subtype.val).flatMap encP := fun l => by rw [List.flatMap_map]; rfl
    have hg : g < w.heap.size := (Array.getElem?_eq_some_iff.1 hb).1
    have hH : HoldsK encA 2 w g 0 d := holds_own hb (by rw [hdl, h4, hfm, hd])
    have := sort_whole g 0 cv d w hH hg (by omega)
    rw [hdl] at this
    refine this.mono fun e w' ⟨he, d', n, os, hp, hs, hw⟩ => ⟨he, d'.toList.map Subtype.val, ?_, ?_, ?_, ?_⟩
    · obtain ⟨q1, _, q3⟩ := hp
      have e1 : d'.extract 0 ds.length = d' := by rw [← hdl, ← q1]; exact Array.extract_size
      have e2 : d.extract 0 ds.length = d := by rw [← hdl]; exact Array.extract_size
      rw [e1, e2] at q3
      have := q3.map Subtype.val
      rwa [hd] at this
    · rw [List.pairwise_map, List.pairwise_iff_getElem]
      intro i j hi hj hij
      have q1 := hp.1
      rw [Array.length_toList] at hi hj
      have := hs i j (by omega) hij (by omega)
      rw [ltA, getElem!_pos d' j hj, getElem!_pos d' i hi] at this
      simp only [decide_eq_false_iff_not] at this
      simp only [Array.getElem_toList]
      omega
    · have q1 := hp.1
      subst hw
      refine ⟨by rw [← hfm, ← flatK_eq, Array.length_toList, size_flatK, q1, hdl], .inr ⟨g, cv, _, rfl, hbase, heap_own d' hb, h1, h2, by simp [putCells, h3], ?_⟩⟩
      have h5 : (flatK encA 2 d').size = ds.length * 2 := by rw [size_flatK, q1, hdl]
      rw [← h5, take_put _ _ (by rw [h5, h3]; omega), flatK_eq, hfm]
    · subst hw
      exact below_sorted d' hbase hg
end Go.Proofs.YtedhmdocimkldaaDoor.Pa
