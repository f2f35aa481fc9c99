/- period.Adjust of two statements that it takes. -/
import Derived.Test.YtedhmdocimkldaaDoorPh
namespace Go.Proofs.YtedhmdocimkldaaDoor.Pa
open Go.RowKit Go.Extern.Stop Go.Stop Go.Extern Go.Shelf Go.Sort Go.Maps

/-- The adjustments, said plainly. -/
def AdjL (la lb : List (Int × Int)) (ts : List (Int × Int)) : Prop :=
  (∀ p : Int × Int, p ∈ ts ↔ subE (lookI lb) (lookI la) p.1 = some p.2 ∧ p.2 ≠ 0) ∧ ts.Pairwise (fun x y => x.1 < y.1)
def AdjRes (la lb : List (Int × Int)) (w : World) (e : Ending) (w' : World) : Prop :=
  ∃ (v : Value) (ts : List (Int × Int)), e = .returned (.tuple #[v, .int .i64 0]) ∧ w'.ownsRow w.heap.size 49 2 v ts.length (ts.flatMap encP) ∧ AdjL la lb ts ∧ RowKit.Below w.heap.size w w'
theorem own_mono {w : World} {base base' : Nat} {e : TypeId} {size : Nat} {v : Value} {n : Nat} {xs : List Value} (h : w.ownsRow base e size v n xs) (hb : base' ≤ base) : w.ownsRow base' e size v n xs :=
  ⟨h.1, h.2.imp id fun ⟨g, cap, cur, h1, h2, h3⟩ => ⟨g, cap, cur, h1, by omega, h3⟩⟩
theorem met_end {h : Int → Option Int} {left : Lit → Bool} {ds : List (Int × Int)} (hm : Met h left ds) (hl : ∀ kl, left kl = false) : (∀ p : Int × Int, p ∈ ds ↔ h p.1 = some p.2 ∧ p.2 ≠ 0) ∧ (ds.map Prod.fst).Nodup :=
  ⟨fun p => by rw [hm.1 p]; simp [key, hl], hm.2⟩
theorem subE_num {la lb : List (Int × Int)} (hn : NumL la ∧ NumL lb) {x c : Int} (h : subE (lookI lb) (lookI la) x = some c) : 0 ≤ x ∧ x ≤ 1000000000000000000 := by
  unfold subE at h
  cases hl : lookI la x with
  | some n =>
    have := (hn.1 _ (lookI_mem x n la hl)).1
    have h2 := this.2
    exact ⟨this.1, by simp at h2; omega⟩
  | none =>
    rw [hl] at h
    have := (hn.2 _ (lookI_mem x c lb h)).1
    have h2 := this.2
    exact ⟨this.1, by simp at h2; omega⟩
theorem adjL_of {la lb ds ts : List (Int × Int)} (hm : (∀ p : Int × Int, p ∈ ds ↔ subE (lookI lb) (lookI la) p.1 = some p.2 ∧ p.2 ≠ 0) ∧ (ds.map Prod.fst).Nodup) (hp : ts.Perm ds) (hs : ts.Pairwise fun x y => x.1 ≤ y.1) : AdjL la lb ts := by
  refine ⟨fun p => by rw [hp.mem_iff]; exact hm.1 p, ?_⟩
  have hn : (ts.map Prod.fst).Nodup := (hp.map Prod.fst).nodup_iff.2 hm.2
  have hn2 : ts.Pairwise fun x y => x.1 ≠ y.1 := List.pairwise_map.1 hn
  exact (hs.and hn2).imp fun {a b} h => by omega
set_option maxHeartbeats 6400000 in
set_option maxRecDepth 100000 in
theorem adjust_yes (fa ta sa : Int) (pa : Option Addr) (ma ca : Nat) (la : List (Int × Int)) (sb : Int) (pb : Option Addr) (mb cb : Nat) (lb : List (Int × Int)) (w : World)
    (hA : ∀ w1, Below w.heap.size w w1 → Calls Tryd.prog 46 #[.agg #[.int .i64 fa, .int .i64 ta, .slice pa ma ca, .int .i64 sa]] w1 (Duties la true w1))
    (hB : ∀ w1, Below w.heap.size w w1 → Calls Tryd.prog 46 #[.agg #[.int .i64 fa, .int .i64 ta, .slice pb mb cb, .int .i64 sb]] w1 (Duties lb true w1))
    (hla : la.length ≤ 1000) (hlb : lb.length ≤ 1000) (hna : NumL la) (hnb : NumL lb) :
    Calls Tryd.prog 25 #[.agg #[.int .i64 fa, .int .i64 ta, .slice pa ma ca, .int .i64 sa], .agg #[.int .i64 fa, .int .i64 ta, .slice pb mb cb, .int .i64 sb]] w (AdjRes la lb w) := by
  have HA := Lib.hid hA
  have HB := Lib.hid hB
  have HN := Lib.hid (And.intro hna hnb)
  clear hA hB hna hnb
  have hmm := @run_makeMap Tryd.prog
  go_enter Tryd.func25, Tryd.ntmps25
  go_wp2_with (first
    | (go_at_call 46; (with_reducible refine (HA.out _ ?_).mono ?_); exact below_boxes w _ _ _ _ _ _ _ _; rintro e w1 ⟨ba, Da, rfl, hba, hoa, hma, hb1⟩; have HMA := Lib.hid hma; clear hma; obtain ⟨⟨x0, x1⟩, ⟨y0, y1, y2, y3⟩, hz1⟩ := boxes_cells (hb1.mono (by simp)); have hw1 : Below w.heap.size w w1 := (below_boxes w _ _ _ _ _ _ _ _).trans (hb1.mono (by simp; omega)))
    | (go_at_call 46; (with_reducible refine (HB.out _ ?_).mono ?_); exact hw1; rintro e w2 ⟨bb, Db, rfl, hbb, hob, hmb, hb2⟩; have HMB := Lib.hid hmb; clear hmb; have f0 := (hb2.cell (p := ⟨w.heap.size, 0, none⟩) (Nat.lt_of_succ_lt hz1)).trans x0; have f1 := (hb2.cell (p := ⟨w.heap.size, 1, none⟩) (Nat.lt_of_succ_lt hz1)).trans x1; have g0 := (hb2.cell (p := ⟨w.heap.size + 1, 0, none⟩) hz1).trans y0; have g1 := (hb2.cell (p := ⟨w.heap.size + 1, 1, none⟩) hz1).trans y1)
    | (at_range; refine wpList_range_own _ rfl _ 68 rfl 3 3 law3 Tryd.underlying68 _ bb lb.length Db rfl (hob.alloc _) ?_; intro w3 hrg3 hg3 hs3)
    | go_in)
  have e1 : (w2.alloc (.map #[] 0)).heap.size = w2.heap.size + 1 := by simp
  have hbl := hob.lt
  have hsB := size_le hob
  go_frame
  rw [e1] at hrg3 hs3 ⊢
  go_loopw [11] (fun _ wr => RelB w2 bb lb.length Db wr) (fun _ wr => wr.rangeLeft bb (w2.heap.size + 1))
  case atStart => exact ⟨_, _, .map [], hrg3, Nat.le_refl _, ((World.ownsMap_made _ _ _ _).kept hg3 (by simp)).mono (Nat.zero_le _), agree_start Db, ((Below.refl _ _).alloc (Nat.le_refl _) _).grown hg3 (by simp) (fun j hj => by cases hj)⟩
  case round =>
    obtain ⟨left, cnt, Dout, hrg, hcs, hout, hA, hnx⟩ := hrel
    have HAg := Lib.hid hA
    clear hA
    go_wp2_with (first
      | (at_next; refine wpList_next_ranges_ii _ rfl _ rfl 3 3 .i64 .i64 law3 Tryd.underlying3 Tryd.underlying3 bb (w2.heap.size + 1) lb.length _ _ _ rfl hrg ?_ ?_)
      | go_in)
    · intro hc0 hl0
      obtain ⟨wa, rfl⟩ : ∃ wa, wa = wr := ⟨_, rfl⟩
      subst hc0
      have e := agree_end HAg.out hl0 (hout.canon law3) (hob.canon law3)
      subst e
      clear hl0 HAg
      have hoa2 := (hoa.kept (row := none) ⟨hb2.os, hb2.tape, hb2.output, hb2.size, fun k hk _ => hb2.block k hk⟩ (by simp)).kept (row := none) ⟨hnx.os, hnx.tape, hnx.output, hnx.size, fun k hk _ => hnx.block k hk⟩ (by simp)
      have hbl2 := hoa.lt
      have hsA := size_le hoa
      have hsz2 := hnx.size
      have hol := hout.lt
      go_wp2_with (first
        | (at_range; refine wpList_range_own _ rfl _ 68 rfl 3 3 law3 Tryd.underlying68 _ ba la.length Da rfl hoa2 ?_; intro w6 hrg6 hg6 hs6)
        | go_in)
      go_frame
      go_loopw [13] (fun _ wr => RelA w2 wa ba la.length (Maps.size Dout) Da (lookI lb) (lookI la) wr) (fun _ wr => wr.rangeLeft ba wa.heap.size)
      case atStart => exact ⟨_, _, Dout, hrg6, Nat.le_refl _, (hout.kept hg6 (by simp)).mono (by omega), by rw [subM_start HMA.out]; exact HMB.out, hnx.grown hg6 hnx.size (fun j hj => by cases hj)⟩
      case round =>
        obtain ⟨left, cnt, D2, hrg, hcs, hout, hA, hnx2⟩ := hrel
        have HMp := Lib.hid hA
        clear hA
        go_wp2_with (first
          | (at_next; refine wpList_next_ranges_ii _ rfl _ rfl 3 3 .i64 .i64 law3 Tryd.underlying3 Tryd.underlying3 ba wa.heap.size la.length _ _ _ rfl hrg ?_ ?_)
          | go_in)
        · intro hc0 hl0
          obtain ⟨wb, rfl⟩ : ∃ wb, wb = wr := ⟨_, rfl⟩
          subst hc0
          have hM3 := HMp.out
          rw [subM_end hl0] at hM3
          have HM3 := Lib.hid hM3
          clear hl0 HMp hM3
          have hsz3 := hnx2.size
          have hol3 := hout.lt
          have hs3 := size_le hout
          obtain ⟨i49, hi, hz0, hz1', hz2⟩ := info_parts info49
          go_wp2_with (first
            | (at_range; refine wpList_range_own _ rfl _ 68 rfl 3 3 law3 Tryd.underlying68 _ w2.heap.size _ D2 rfl hout ?_; intro w6 hrg6 hg6 hs6)
            | go_in)
          go_frame
          go_loopw [15, 16] (fun v _ wr => RelC w2 wb (Maps.size Dout + (Maps.size Da - 0)) D2 (subE (lookI lb) (lookI la)) v wr) (fun _ _ wr => wr.rangeLeft w2.heap.size wb.heap.size)
          case atStart => exact ⟨_, _, none, 0, [], hrg6, by simp, rfl, World.ownsRow_nil _ _ _ _, met_start HM3.out, hnx2.grown hg6 hnx2.size (fun j hj => by cases hj)⟩
          case round =>
            obtain ⟨left, cnt, ao, cv, ds, hrg, hcs, rfl, hown, hmet, hnx3⟩ := hrel
            have HMet := Lib.hid hmet
            clear hmet
            have hszr := hnx3.size
            go_wp2_with (first
              | (at_next; refine wpList_next_ranges_ii _ rfl _ rfl 3 3 .i64 .i64 law3 Tryd.underlying3 Tryd.underlying3 w2.heap.size wb.heap.size _ _ _ _ rfl hrg ?_ ?_)
              | go_in)
            · intro hc0 hl0
              have hmet := met_end HMet.out hl0
              have HM9 := Lib.hid hmet
              clear hmet hl0
              have hlen : ds.length ≤ 100000 := by omega
              have hB9 : RowKit.Below w.heap.size w wr := (hw1.trans (hb2.mono (by omega))).trans (hnx3.mono (by omega))
              have hrl := hrg.lt
              go_wp2_with (first
                | (go_at_call 47; refine (sort_own ds (fun p hp => subE_num HN.out ((HM9.out.1 p).1 hp).1) ao cv (w2.heap.size + 1) wr (by omega) hlen hown).mono ?_; rintro e w7 ⟨rfl, ts, hp, hs, ho7, hb7⟩)
                | go_in)
              go_ret2
              exact ⟨_, ts, rfl, by rw [hp.length_eq]; exact own_mono ho7 (by omega), adjL_of HM9.out hp hs, hB9.trans (hb7.mono (by omega))⟩
            · intro x c w4 cnt1 hwx hwc hlx hat hrg1 hlt hg1 hs1 hen
              have hval := HM3.out.at hat
              have HVAL := Lib.hid hval
              clear hval
              have hown1 := hown.kept hg1 (own_ne hown hrg)
              have hrl := hrg.lt
              have hsz4 : w2.heap.size + 1 ≤ w4.heap.size := by omega
              have hB4 : Below w2.heap.size w2 w4 := hnx3.grown hg1 hszr (fun j hj => by cases hj; omega)
              have HS1 := Lib.hid hs1
              clear hs1
              by_cases hc : c = 0
              · subst hc
                go_wp2
                exact ⟨⟨_, cnt1, ao, cv, ds, hrg1, by omega, rfl, hown1, met_zero HMet.out HVAL.out, hB4⟩, by rw [hrg1.left_eq, hrg.left_eq]; exact hlt⟩
              · have hcb : (c == 0) = false := beq_eq_false_iff_ne.2 hc
                have hlen : 16 * ds.length ≤ 100000 := by omega
                go_wp2_with (first
                  | (at_builtin; refine wpList_append_own _ rfl _ _ 41 rfl (w2.heap.size + 1) 49 i49 (.agg #[.int .i64 0, .int .i64 0]) 2 16 Tryd.underlying41 hi hz0 hz1' hz2 rfl (by decide) _ _ _ rfl (hown1.alloc _) ⟨w4.heap.size, 0, none⟩ 1 1 [.int .i64 x, .int .i64 c] rfl rfl (cell_two_new _ _ _ _) (fun x hx => by simp at hx; rcases hx with rfl | rfl <;> rfl) (by unfold maxLen; omega) (by omega) (by simp; omega) ?_; intro v' w5 hown' hgrow5 hnil5; go_frame)
                  | go_in)
                have hrg2 := (hrg1.alloc (.cells #[.int .i64 x, .int .i64 c] 49)).kept hgrow5 (own_ne_map hown1 hrg1) (own_ne_it hown1 hrg1)
                obtain ⟨g3, cap3, hv3⟩ : ∃ g3 cap3, v' = .slice (some ⟨g3, 0, none⟩) (ds.length + 1) cap3 := by
                  rcases hown'.2 with ⟨_, h⟩ | ⟨g3, cap3, _, h, _⟩
                  · exact absurd h (by simp)
                  · exact ⟨g3, cap3, h⟩
                exact ⟨⟨_, cnt1, _, cap3, ds ++ [(x, c)], hrg2, by simp; omega, by simpa using hv3, by simpa [encP] using hown', met_more HMet.out hlx HVAL.out hc,
                  (hB4.alloc (by omega) _).grown hgrow5 (by simp; omega) (fun q hq => by have := (hown1.lt q hq).1; omega)⟩, by rw [hrg2.left_eq, hrg.left_eq]; exact hlt⟩
        · intro x c w4 cnt1 hwx hwc hlx hat hrg1 hlt hg1 hs1 hen
          have hout1 := hout.kept hg1 (by simp; omega)
          obtain ⟨hb0, hb9⟩ := num_at HMA.out HN.out.1 hat
          have hlk : lookI la x = some c := HMA.out.at hat
          have HLK := Lib.hid hlk
          clear hlk
          go_wp2_with (first
            | (at_lookup; refine wpList_lookup_own_int _ rfl _ _ 68 rfl 3 3 .i64 law3 Tryd.underlying68 Tryd.underlying3 (Tryd.zeroValue3 _) w2.heap.size _ _ rfl hout1 _ _ rfl (keyOf_int_mk Tryd.underlying3 hwx) ?_; intro c0 hc0 hwc0; have HC0 := Lib.hid (And.intro hc0 (sub_val (lb := lb) HMp.out HLK.out hlx hc0)); obtain ⟨hd0, hd9⟩ := getD_num (k := x) HN.out.2 HC0.out.2; clear hc0 hwc0)
            | (at_mapUpdate; refine wpList_mapUpdate_own _ rfl _ _ _ 68 rfl 3 3 law3 Tryd.underlying68 _ w2.heap.size _ _ rfl hout1 (by unfold maxLen; omega) _ _ _ rfl rfl (keyOf_int_mk Tryd.underlying3 hwx) _ [] (plainElem_int Tryd.underlying3 (wf_of (by unfold I64; omega))) ?_; intro w5 hout2 hg2; go_frame)
            | go_in)
          have hrg2 := hrg1.kept hg2 (fun e => by have := Option.some.inj e; omega) (fun e => by have := Option.some.inj e; omega)
          have hM2 := HMp.out.put hout1.isMap x (c0 - c)
          rw [HC0.out.2, subM_step HLK.out, ← HC0.out.2] at hM2
          exact ⟨⟨_, cnt1, _, hrg2, by omega, hout2.mono (by omega), hM2,
            (hnx2.grown hg1 hnx2.size (fun j hj => by cases hj; omega)).grown hg2 (by have := hnx2.size; omega) (fun j hj => by cases hj; exact Nat.le_refl _)⟩, by rw [hrg2.left_eq, hrg.left_eq]; exact hlt⟩
    · intro x c w4 cnt1 hwx hwc hlx hat hrg1 hlt hg1 hs1 hen
      have hout1 := hout.kept hg1 (by simp)
      obtain ⟨hb0, hb9⟩ := num_at HMB.out HN.out.2 hat
      have hx0 : has Dout (.int .i64 x) = false := by rw [HAg.out.1, hlx]; simp
      go_wp2_with (first
        | (at_lookup; refine wpList_lookup_own_int _ rfl _ _ 68 rfl 3 3 .i64 law3 Tryd.underlying68 Tryd.underlying3 (Tryd.zeroValue3 _) w2.heap.size _ _ rfl hout1 _ _ rfl (keyOf_int_mk Tryd.underlying3 hwx) ?_; intro c0 hc0 hwc0; obtain rfl : c0 = 0 := zero_at hx0 hc0)
        | (at_mapUpdate; refine wpList_mapUpdate_own _ rfl _ _ _ 68 rfl 3 3 law3 Tryd.underlying68 _ w2.heap.size _ _ rfl hout1 (by unfold maxLen; have := hcs; omega) _ _ _ rfl rfl (keyOf_int_mk Tryd.underlying3 hwx) _ [] (plainElem_int Tryd.underlying3 (wf_of (by unfold I64; omega))) ?_; intro w5 hout2 hg2; go_frame)
        | go_in)
      have hrg2 := hrg1.kept hg2 (fun e => by have := Option.some.inj e; omega) (fun e => by have := Option.some.inj e; omega)
      exact ⟨⟨_, cnt1, _, hrg2, by omega, hout2.mono (by omega), agree_step HAg.out hout1.isMap trivial hat,
        (hnx.grown hg1 hnx.size (fun j hj => by cases hj; exact Nat.le_succ _)).grown hg2 (by have := hnx.size; omega) (fun j hj => by cases hj; exact Nat.le_refl _)⟩, by rw [hrg2.left_eq, hrg.left_eq]; exact hlt⟩
end Go.Proofs.YtedhmdocimkldaaDoor.Pa
