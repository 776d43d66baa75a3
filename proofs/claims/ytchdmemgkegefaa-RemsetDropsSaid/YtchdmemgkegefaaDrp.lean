/- remset.Drop, slices.DeleteFunc and IndexFunc at sets. No condition beyond sets that read as a list. -/
import Derived.Test.YtchdmemgkegefaaMem
import Derived.Test.YtchdmemgkegefaaSpo
import Derived.Lib.SliceRun
namespace Go.Proofs.Ytchdmemgkegefaa
open Go.RowKit
set_option linter.unusedVariables false
set_option linter.unusedSimpArgs false

/-- of a set: neither frame is among some -/
def Kp (fs : List Int) (x : St) : Bool := !(fs.contains x.fr || fs.contains x.to)
theorem kp_iff {fs : List Int} {x : St} : Kp fs x = true ↔ ¬ (x.fr ∈ fs ∨ x.to ∈ fs) := by
  unfold Kp
  simp
/-- frames, as the closure finds them -/
structure FrW (w0 : World) (fb : Nat) (fv : Value) (fs : List Int) : Prop where
  rd : Rd i64E w0 fv fs
  box : w0.heap[fb]? = some (.cells #[fv] 25 (0, 0))
theorem FrW.keep {w0 W : World} {fb : Nat} {fv : Value} {fs : List Int} (h : FrW w0 fb fv fs) (hb : Below w0.heap.size w0 W) : FrW W fb fv fs := ⟨h.rd.below hb, below_block hb (block_lt h.box) h.box⟩

set_option maxRecDepth 100000 in
set_option maxHeartbeats 4000000 in
theorem dr1_any (w : World) (fb : Nat) (fv : Value) (fs : List Int) (h : FrW w fb fv fs) (x : St) (u : Value) :
    Calls Try.prog 66 #[.agg #[.int .i64 x.fr, .int .i64 x.to, u], .pointer (some ⟨fb, 0, none⟩)] w fun e w' => e = .returned (.bool (!Kp fs x)) ∧ Below w.heap.size w w' := by
  have H := Lib.hid h
  obtain ⟨fa, fc, rfl, _⟩ := h.rd
  have hb0 : w.cell? ⟨fb, 0, none⟩ = some (.slice fa fs.length fc) := by rw [cell_block h.box]; rfl
  have hlt := block_lt h.box
  have HB0 := Lib.hid h.box
  clear h
  go_enter Try.func66, Try.ntmps66
  go_wp2_with (go_at_call 60; fail)
  refine (contains_any _ fs _ (H.out.rd.below ((Below.refl _ _).alloc (Nat.le_refl _) _)) x.fr).mono ?_
  rintro e w1 ⟨⟨b1, rfl, h1⟩, hb1⟩
  have H1 := Lib.hid h1
  have HB1 : Hid (Below w.heap.size w w1) := Lib.hid (((Below.refl _ _).alloc (Nat.le_refl _) _).trans (hb1.mono (by simp)))
  clear h1
  cases b1 with
  | true =>
    have HK : Hid (Kp fs x = false) := Lib.hid (by unfold Kp; rw [show fs.contains x.fr = true by simpa using H1.out.1 rfl]; rfl)
    clear hb1
    go_wp2
    go_ret
    exact ⟨by rw [HK.out]; rfl, HB1.out⟩
  | false =>
    have HF : Hid (fs.contains x.fr = false) := Lib.hid (by simpa using fun h => absurd (H1.out.2 h) (by decide))
    have c1 : w1.cell? ⟨fb, 0, none⟩ = some (.slice fa fs.length fc) := by rw [cell_block (below_block HB1.out hlt HB0.out)]; rfl
    have d1 : w1.cell? ⟨w.heap.size, 1, none⟩ = some (.int .i64 x.to) := by rw [cell_block (below_block hb1 (by simp) (heap_alloc_new w _))]; rfl
    clear hb1 hb0
    go_wp2_with (go_at_call 60; fail)
    refine (contains_any _ fs _ (H.out.rd.below HB1.out) x.to).mono ?_
    rintro e w2 ⟨⟨b2, rfl, h2⟩, hb2⟩
    have HB2 := Lib.hid (HB1.out.trans (hb2.mono HB1.out.size))
    have HK : Hid (Kp fs x = !b2) := Lib.hid (by
      unfold Kp
      rw [HF.out, Bool.false_or]
      congr 1
      rw [Bool.eq_iff_iff, h2]
      simp)
    clear h2 hb2 c1 d1
    go_wp2
    go_ret
    exact ⟨by rw [HK.out, Bool.not_not]; rfl, HB2.out⟩

/-- what IndexFunc says: the first that is not kept -/
def IfP (xs : List St) (fs : List Int) (e : Ending) : Prop := (e = .returned (.int .i64 (-1)) ∧ ∀ x ∈ xs, Kp fs x = true) ∨ ∃ k : Nat, e = .returned (.int .i64 k) ∧ ∃ h : k < xs.length, Kp fs xs[k] = false ∧ ∀ j (h : j < xs.length), j < k → Kp fs xs[j] = true
set_option maxRecDepth 100000 in
set_option maxHeartbeats 4000000 in
theorem idxf_any (v : Value) (xs : List St) (w : World) (hv : Rd setE w v xs) (fb : Nat) (fv : Value) (fs : List Int) (h : FrW w fb fv fs) :
    Calls Try.prog 80 #[v, .func (.func 66) #[] #[.pointer (some ⟨fb, 0, none⟩)]] w fun e w' => IfP xs fs e ∧ Below w.heap.size w w' := by
  have H := Lib.hid h
  have HV := Lib.hid hv
  obtain ⟨a, cap, rfl, hl, hm, _⟩ := id hv
  clear h hv
  unfold maxLen at hm
  go_enter Try.func80, Try.ntmps80
  go_wp2_with fail
  go_loopw [8] (fun i wr => ∃ k : Nat, k ≤ xs.length ∧ i = .int .i64 k ∧ Below w.heap.size w wr ∧ ∀ j (h : j < xs.length), j < k → Kp fs xs[j] = true) (fun i _ => xs.length - (intOf i).toNat)
  case atStart => exact ⟨0, by omega, rfl, Below.refl _ _, fun j _ h => absurd h (Nat.not_lt_zero _)⟩
  case round =>
    obtain ⟨k, hk, rfl, hbel, hno⟩ := hrel
    have HNO := Lib.hid hno
    have HBE := Lib.hid hbel
    clear hno
    by_cases hlt : k < xs.length
    · obtain ⟨b, off, rfl⟩ := rd_addr HV.out (by omega)
      obtain ⟨hq, ra, rc, x0, x1, x2, hrs⟩ := set_cells HV.out hlt
      have y0 : wr.cell? ⟨b, off + k * 3, none⟩ = some (.int .i64 xs[k].fr) := (hbel.cell (p := ⟨b, off + k * 3, none⟩) hq).trans x0
      have y1 : wr.cell? ⟨b, off + k * 3 + 1, none⟩ = some (.int .i64 xs[k].to) := (hbel.cell (p := ⟨b, off + k * 3 + 1, none⟩) hq).trans x1
      have y2 : wr.cell? ⟨b, off + k * 3 + 2, none⟩ = some (.slice ra xs[k].slots.length rc) := (hbel.cell (p := ⟨b, off + k * 3 + 2, none⟩) hq).trans x2
      have hq2 : b < wr.heap.size := Nat.lt_of_lt_of_le hq hbel.size
      clear x0 x1 x2 hrs hbel
      go_wp2_with (go_at_call 66; fail)
      refine (dr1_any wr fb fv fs (H.out.keep HBE.out) xs[k] _).mono ?_
      rintro e w1 ⟨rfl, hb1⟩
      have HB1 := Lib.hid (HBE.out.trans (hb1.mono HBE.out.size))
      clear hb1
      by_cases he : Kp fs xs[k] = true
      · have HE := Lib.hid he
        rw [he, Bool.not_true]
        clear he
        go_wp2
        go_roundw
        case rel => exact ⟨k + 1, by omega, by go_num, HB1.out, fun j h hj => by
          rcases Nat.lt_succ_iff_lt_or_eq.1 hj with h3 | h3
          · exact HNO.out j h h3
          · subst h3; exact HE.out⟩
        case measure => simp [intOf]; omega
      · have he' : Kp fs xs[k] = false := by simpa using he
        have HE := Lib.hid he'
        rw [he', Bool.not_false]
        clear he he'
        go_wp2
        go_ret
        exact ⟨.inr ⟨k, rfl, hlt, HE.out, HNO.out⟩, HB1.out⟩
    · have HM : Hid (∀ x ∈ xs, Kp fs x = true) := Lib.hid fun x hx => by
        obtain ⟨j, hj, rfl⟩ := List.mem_iff_getElem.1 hx
        exact HNO.out j hj (by omega)
      go_wp2
      go_ret
      exact ⟨.inl ⟨rfl, HM.out⟩, hbel⟩

theorem rd_keep_ne {g : Nat} {w w' : World} {v : Value} {xs : List Int} (h : Rd i64E w v xs) (ho : v.ownBlock ≠ some g) (hg : w.grownBy w' (some g)) : Rd i64E w' v xs := by
  obtain ⟨a, cap, rfl, h2, h3, h4⟩ := h
  refine ⟨a, cap, rfl, h2, h3, ?_⟩
  rcases h4 with h4 | ⟨b, off, rfl, h6⟩
  · exact .inl h4
  · refine .inr ⟨b, off, rfl, fun i hi => ?_⟩
    obtain ⟨cs, r, c⟩ := h6 i hi
    refine ⟨cs, r, fun j hj => ?_⟩
    have hl := i64E.len _ _ _ r
    have hc := c j hj
    have hlt : b < w.heap.size := World.block_lt_of_cell? w (a := ⟨b, off + i * i64E.sz + j, none⟩) (u := cs[j]'(by omega)) (by rw [hc, List.getElem?_eq_getElem])
    rw [← hc]
    exact World.cell?_of_block (hg.block b hlt (fun e => ho e))
/-- at place m of block g lies a set -/
def At3 (W : World) (g m : Nat) (x : St) (u : Value) : Prop := W.cell? ⟨g, m * 3, none⟩ = some (.int .i64 x.fr) ∧ W.cell? ⟨g, m * 3 + 1, none⟩ = some (.int .i64 x.to) ∧ W.cell? ⟨g, m * 3 + 2, none⟩ = some u ∧ Rd i64E W u x.slots ∧ u.ownBlock ≠ some g
theorem At3.below {W W' : World} {g m : Nat} {x : St} {u : Value} (h : At3 W g m x u) (hb : Below W.heap.size W W') : At3 W' g m x u := by
  obtain ⟨h1, h2, h3, h4, h5⟩ := h
  have hg := World.block_lt_of_cell? W (a := ⟨g, m * 3, none⟩) h1
  exact ⟨(hb.cell (p := ⟨g, m * 3, none⟩) hg).trans h1, (hb.cell (p := ⟨g, m * 3 + 1, none⟩) hg).trans h2, (hb.cell (p := ⟨g, m * 3 + 2, none⟩) hg).trans h3, h4.below hb, h5⟩
theorem cell_set {W : World} {g o o' : Nat} {v : Value} {cur : Array Value} {T : TypeId} (h : W.heap[g]? = some (.cells cur T (0, 0))) (ho : o < cur.size) : (W.setCell ⟨g, o, none⟩ v).cell? ⟨g, o', none⟩ = if o = o' then some v else W.cell? ⟨g, o', none⟩ := by
  rw [cell_block (setCell_block h v), cell_block h, Array.getElem?_setIfInBounds]
  by_cases e : o = o'
  · subst e; rw [if_pos rfl, if_pos rfl, if_pos ho]
  · rw [if_neg e, if_neg e]
/-- three words written at place p -/
theorem store3 {W : World} {g p : Nat} {a b c : Value} {cur : Array Value} {T : TypeId} (h : W.heap[g]? = some (.cells cur T (0, 0))) (hp : p * 3 + 2 < cur.size) :
    ∃ W', W' = ((W.setCell ⟨g, p * 3, none⟩ a).setCell ⟨g, p * 3 + 1, none⟩ b).setCell ⟨g, p * 3 + 2, none⟩ c ∧ W.grownBy W' (some g) ∧ (∃ cur', W'.heap[g]? = some (.cells cur' T (0, 0)) ∧ cur'.size = cur.size) ∧
      W'.cell? ⟨g, p * 3, none⟩ = some a ∧ W'.cell? ⟨g, p * 3 + 1, none⟩ = some b ∧ W'.cell? ⟨g, p * 3 + 2, none⟩ = some c ∧ ∀ o, (o < p * 3 ∨ p * 3 + 2 < o) → W'.cell? ⟨g, o, none⟩ = W.cell? ⟨g, o, none⟩ := by
  have h1 := setCell_block (o := p * 3) h a
  have h2 := setCell_block (o := p * 3 + 1) h1 b
  have h3 := setCell_block (o := p * 3 + 2) h2 c
  have s1 : p * 3 < cur.size := by omega
  have s2 : p * 3 + 1 < (cur.setIfInBounds (p * 3) a).size := by rw [Array.size_setIfInBounds]; omega
  have s3 : p * 3 + 2 < ((cur.setIfInBounds (p * 3) a).setIfInBounds (p * 3 + 1) b).size := by rw [Array.size_setIfInBounds, Array.size_setIfInBounds]; omega
  refine ⟨_, rfl, grown_trans (grown_setCell' _ _ _) (grown_trans (grown_setCell' _ _ _) (grown_setCell' _ _ _)), ⟨_, h3, by simp⟩, ?_, ?_, ?_, fun o ho => ?_⟩
  · rw [cell_set h2 s3, if_neg (by omega), cell_set h1 s2, if_neg (by omega), cell_set h s1, if_pos rfl]
  · rw [cell_set h2 s3, if_neg (by omega), cell_set h1 s2, if_pos rfl]
  · rw [cell_set h2 s3, if_pos rfl]
  · rw [cell_set h2 s3, if_neg (by omega), cell_set h1 s2, if_neg (by omega), cell_set h s1, if_neg (by omega)]
theorem At3.store {W W' : World} {g m p : Nat} {x : St} {u : Value} (h : At3 W g m x u) (hg : W.grownBy W' (some g)) (ho : ∀ o, (o < p * 3 ∨ p * 3 + 2 < o) → W'.cell? ⟨g, o, none⟩ = W.cell? ⟨g, o, none⟩) (hm : m ≠ p) : At3 W' g m x u := by
  obtain ⟨h1, h2, h3, h4, h5⟩ := h
  exact ⟨(ho _ (by omega)).trans h1, (ho _ (by omega)).trans h2, (ho _ (by omega)).trans h3, rd_keep_ne h4 h5 hg, h5⟩

/-- the state while sets are moved: the kept among the first j lie at the head, the others lie where they lay -/
structure DlW (w0 : World) (g c : Nat) (xs : List St) (fs : List Int) (j : Nat) (W : World) : Prop where
  bel : Below w0.heap.size w0 W
  row : ∃ cur, W.heap[g]? = some (.cells cur 77 (0, 0)) ∧ cur.size = c * 3
  head : ∀ m (h : m < ((xs.take j).filter (Kp fs)).length), ∃ u, At3 W g m ((xs.take j).filter (Kp fs))[m] u
  tail : ∀ m (h : m < xs.length), j ≤ m → ∃ u, At3 W g m xs[m] u
theorem DlW.below {w0 : World} {g c : Nat} {xs : List St} {fs : List Int} {j : Nat} {W W' : World} (h : DlW w0 g c xs fs j W) (hb : Below W.heap.size W W') : DlW w0 g c xs fs j W' := by
  obtain ⟨cur, hc, hs⟩ := h.row
  exact ⟨h.bel.trans (hb.mono h.bel.size), ⟨cur, below_block hb (block_lt hc) hc, hs⟩, fun m hm => by obtain ⟨u, k⟩ := h.head m hm; exact ⟨u, k.below hb⟩, fun m hm hj => by obtain ⟨u, k⟩ := h.tail m hm hj; exact ⟨u, k.below hb⟩⟩
theorem filter_snoc {xs : List St} {fs : List Int} {j : Nat} (h : j < xs.length) : (xs.take (j + 1)).filter (Kp fs) = (xs.take j).filter (Kp fs) ++ if Kp fs xs[j] then [xs[j]] else [] := by
  rw [List.take_succ_eq_append_getElem h, List.filter_append]
  congr 1
  cases hk : Kp fs xs[j] <;> simp [List.filter, hk]
theorem DlW.skip {w0 : World} {g c : Nat} {xs : List St} {fs : List Int} {j : Nat} {W : World} (h : DlW w0 g c xs fs j W) (hj : j < xs.length) (hk : Kp fs xs[j] = false) : DlW w0 g c xs fs (j + 1) W := by
  have e := filter_snoc (fs := fs) hj
  rw [hk] at e
  simp only [Bool.false_eq_true, if_false, List.append_nil] at e
  exact ⟨h.bel, h.row, fun m hm => by
    have hm' := hm
    rw [e] at hm'
    obtain ⟨u, k⟩ := h.head m hm'
    refine ⟨u, ?_⟩
    have : ((xs.take (j + 1)).filter (Kp fs))[m] = ((xs.take j).filter (Kp fs))[m] := by congr 1
    rw [this]; exact k, fun m hm hjm => h.tail m hm (by omega)⟩
theorem DlW.move {w0 : World} {g c : Nat} {xs : List St} {fs : List Int} {j i : Nat} {W W' : World} {u : Value} (h : DlW w0 g c xs fs j W) (hj : j < xs.length) (hk : Kp fs xs[j] = true) (hB : w0.heap.size ≤ g)
    (hi : i = ((xs.take j).filter (Kp fs)).length) (hg : W.grownBy W' (some g)) (hr : ∃ cur, W'.heap[g]? = some (.cells cur 77 (0, 0)) ∧ cur.size = c * 3)
    (ha : At3 W g j xs[j] u) (h0 : W'.cell? ⟨g, i * 3, none⟩ = some (.int .i64 xs[j].fr)) (h1 : W'.cell? ⟨g, i * 3 + 1, none⟩ = some (.int .i64 xs[j].to)) (h2 : W'.cell? ⟨g, i * 3 + 2, none⟩ = some u)
    (ho : ∀ o, (o < i * 3 ∨ i * 3 + 2 < o) → W'.cell? ⟨g, o, none⟩ = W.cell? ⟨g, o, none⟩) : DlW w0 g c xs fs (j + 1) W' := by
  have e := filter_snoc (fs := fs) hj
  rw [hk] at e
  simp only [if_true] at e
  have hij : i ≤ j := by rw [hi]; exact Nat.le_trans (List.length_filter_le _ _) (by rw [List.length_take]; omega)
  refine ⟨h.bel.grown hg h.bel.size (fun q e => by cases e; exact hB), hr, fun m hm => ?_, fun m hm hjm => ?_⟩
  · have hm' := hm
    rw [e, List.length_append, List.length_singleton] at hm'
    by_cases hmi : m < i
    · obtain ⟨u', k⟩ := h.head m (by omega)
      refine ⟨u', ?_⟩
      have : ((xs.take (j + 1)).filter (Kp fs))[m] = ((xs.take j).filter (Kp fs))[m]'(by omega) := by simp only [e]; rw [List.getElem_append_left]
      rw [this]
      exact k.store hg ho (by omega)
    · obtain rfl : m = i := by omega
      refine ⟨u, ?_⟩
      have : ((xs.take (j + 1)).filter (Kp fs))[m] = xs[j] := by simp only [e]; rw [List.getElem_append_right (by omega)]; simp
      rw [this]
      exact ⟨h0, h1, h2, rd_keep_ne ha.2.2.2.1 ha.2.2.2.2 hg, ha.2.2.2.2⟩
  · obtain ⟨u', k⟩ := h.tail m hm (by omega)
    exact ⟨u', k.store hg ho (by omega)⟩
/-- the kept, read -/
theorem rd_head {W : World} {g c n : Nat} {ys : List St} (hn : n = ys.length) (hc : n ≤ c) (hm : c ≤ maxLen) (h : ∀ m (h : m < ys.length), ∃ u, At3 W g m ys[m] u) : Rd setE W (.slice (some ⟨g, 0, none⟩) n c) ys := by
  subst hn
  refine ⟨_, c, rfl, hc, hm, .inr ⟨g, 0, rfl, fun i hi => ?_⟩⟩
  obtain ⟨u, h0, h1, h2, h3, _⟩ := h i hi
  refine ⟨[.int .i64 ys[i].fr, .int .i64 ys[i].to, u], ⟨u, rfl, h3⟩, fun j hj => ?_⟩
  have hj3 : j < 3 := hj
  rw [show setE.sz = 3 from rfl, Nat.zero_add]
  match j, hj3 with
  | 0, _ => exact h0
  | 1, _ => exact h1
  | 2, _ => exact h2
theorem dl_start {w0 w : World} {g c n : Nat} {xs : List St} {fs : List Int} {k : Nat} (h : Own (setO w0.heap.size) w w0.heap.size 77 (.slice (some ⟨g, 0, none⟩) n c) xs) (hb : Below w0.heap.size w0 w) (hk : k ≤ xs.length) (hall : ∀ j (h : j < xs.length), j < k → Kp fs xs[j] = true) : DlW w0 g c xs fs k w := by
  have hfull : ∀ m (h : m < xs.length), ∃ u, At3 w g m xs[m] u := by
    intro m hm
    obtain ⟨D, ⟨hl, hrow⟩, hel⟩ := h
    rcases hrow with ⟨hv, hn⟩ | ⟨g', cap, cur, hv, hB, hh, hc, hm', hs, ht⟩
    · rw [hn] at hm; omega
    simp only [Value.slice.injEq, Option.some.injEq, Addr.mk.injEq, and_true] at hv
    obtain ⟨rfl, hn, rfl⟩ := hv
    obtain ⟨u, e, ho⟩ := hel m hm
    simp only [show (setO w0.heap.size).sz = 3 from rfl] at e ht hl hs
    have hcell : ∀ j, j < 3 → cur[m * 3 + j]? = [Value.int .i64 xs[m].fr, .int .i64 xs[m].to, u][j]? := fun j hj => by
      have := congrArg (fun l : List Value => l[j]?) e
      rw [← ht] at this
      simp only [List.getElem?_take_of_lt hj, List.getElem?_drop] at this
      rw [List.getElem?_take_of_lt (by omega)] at this
      simpa using this
    refine ⟨u, ?_, ?_, ?_, ho.rd, fun e => ho.ne_block hh (by decide) e.symm⟩
    · rw [cell_block hh]; simpa using hcell 0 (by decide)
    · rw [cell_block hh]; simpa using hcell 1 (by decide)
    · rw [cell_block hh]; simpa using hcell 2 (by decide)
  have hf : (xs.take k).filter (Kp fs) = xs.take k := List.filter_eq_self.2 fun x hx => by
    obtain ⟨j, hj, rfl⟩ := List.mem_iff_getElem.1 hx
    rw [List.length_take] at hj
    rw [List.getElem_take]
    exact hall j (by omega) (by omega)
  refine ⟨hb, ?_, fun m hm => ?_, fun m hm _ => hfull m hm⟩
  · obtain ⟨D, ⟨hl, hrow⟩, hel⟩ := h
    rcases hrow with ⟨hv, hn⟩ | ⟨g', cap, cur, hv, hB, hh, hc, hm', hs, ht⟩
    · simp at hv
    · simp only [Value.slice.injEq, Option.some.injEq, Addr.mk.injEq, and_true] at hv
      obtain ⟨rfl, hn, rfl⟩ := hv
      exact ⟨cur, hh, hs⟩
  · have hm' := hm
    rw [hf, List.length_take] at hm'
    obtain ⟨u, k'⟩ := hfull m (by omega)
    refine ⟨u, ?_⟩
    have : ((xs.take k).filter (Kp fs))[m] = xs[m]'(by omega) := by simp only [hf]; rw [List.getElem_take]
    rw [this]
    exact k'

/-- clear of a slice of sets -/
theorem run_clear_set (W : World) (g o n c : Nat) (hn : 0 < n) (hc : ∀ j, j < n * 3 → (W.cell? ⟨g, o + j, none⟩).isSome = true) (hf : ∀ j, j < n * 3 → W.frozen? ⟨g, o + j, none⟩ = false) :
    ∃ zs : List Value, zs.length = n * 3 ∧ ∀ ty : TypeId, (Builtin.clear_ #[41] ty #[.slice (some ⟨g, o, none⟩) n c]).run Try.prog W = .ok (.tuple #[]) (W.setCells g o zs) := by
  have hz : ∀ w, (zeroValue 77).run Try.prog w = .ok (.agg #[.int .i64 0, .int .i64 0, .slice none 0 0]) w := Try.zeroValue77
  refine ⟨(Builtin.zeroCells #[.int .i64 0, .int .i64 0, .slice none 0 0] n).toList, by rw [Array.length_toList, zeroCells_length]; rfl, fun ty => ?_⟩
  have hst := run_storeCells_cells (P := Try.prog) g o (Builtin.zeroCells #[.int .i64 0, .int .i64 0, .slice none 0 0] n).toList 0 W (by
    intro j hj
    rw [Array.length_toList, zeroCells_length] at hj
    simpa using hc j hj) (by
    intro j hj
    rw [Array.length_toList, zeroCells_length] at hj
    simpa using hf j hj) (by
    intro v hv
    simp only [Builtin.zeroCells, Array.toList_map, Array.toList_range, List.mem_map, List.mem_range] at hv
    obtain ⟨i, _, rfl⟩ := hv
    have : i % 3 = 0 ∨ i % 3 = 1 ∨ i % 3 = 2 := by omega
    rcases this with h | h | h <;> simp [h, Value.oneCell'])
  simp only [Nat.add_zero] at hst
  obtain ⟨m, rfl⟩ : ∃ m, n = m + 1 := ⟨n - 1, by omega⟩
  simp [Builtin.clear_, run_underlying Try.underlying41, hz, Value.cells, hst]

def DelP (xs : List St) (fs : List Int) (e : Ending) (w' : World) : Prop := ∃ r, e = .returned r ∧ Rd setE w' r (xs.filter (Kp fs))
set_option maxRecDepth 100000 in
set_option maxHeartbeats 8000000 in
theorem delf_any (w0 w : World) (v : Value) (xs : List St) (h : Own (setO w0.heap.size) w w0.heap.size 77 v xs) (hb : Below w0.heap.size w0 w) (fb : Nat) (fv : Value) (fs : List Int) (hfr : FrW w0 fb fv fs) :
    Calls Try.prog 65 #[v, .func (.func 66) #[] #[.pointer (some ⟨fb, 0, none⟩)]] w fun e w' => DelP xs fs e w' ∧ Below w0.heap.size w0 w' := by
  have H := Lib.hid hfr
  have HO := Lib.hid h
  have HB := Lib.hid hb
  obtain ⟨a, n, cp, rfl⟩ := own_sl h
  have hsz := hb.size
  obtain ⟨hcp, hne, hcm⟩ := own_cap h
  subst hne
  clear hfr h hb
  unfold maxLen at hcm
  go_enter Try.func65, Try.ntmps65
  go_wp2_with (go_at_call 80; fail)
  refine (idxf_any _ xs _ HO.out.rd.own fb fv fs (H.out.keep HB.out)).mono ?_
  rintro e w1 ⟨(⟨rfl, hall⟩ | ⟨k, rfl, hk, hkk, hkb⟩), hb1⟩
  · have HR : Hid (Rd setE w1 (.slice a xs.length cp) (xs.filter (Kp fs))) := Lib.hid (by rw [List.filter_eq_self.2 hall]; exact HO.out.rd.own.below hb1)
    have HB1 := Lib.hid (HB.out.trans (hb1.mono hsz))
    clear hall hb1
    go_wp2
    go_ret
    exact ⟨⟨_, rfl, HR.out⟩, HB1.out⟩
  · obtain ⟨g, c', e0⟩ := own_form HO.out (by omega)
    simp only [Value.slice.injEq, true_and] at e0
    obtain ⟨rfl, rfl⟩ := e0
    obtain ⟨_, _, hgB, _⟩ := own_row HO.out
    have HD : Hid (DlW w0 g cp xs fs (k + 1) w1) := Lib.hid (((dl_start HO.out HB.out (Nat.le_of_lt hk) hkb).skip hk hkk).below hb1)
    have hki : ((xs.take (k + 1)).filter (Kp fs)).length = k := by
      rw [filter_snoc hk, hkk, List.filter_eq_self.2 fun x hx => by
        obtain ⟨j, hj, rfl⟩ := List.mem_iff_getElem.1 hx
        rw [List.length_take] at hj
        rw [List.getElem_take]
        exact hkb j (by omega) (by omega)]
      simp
      omega
    have HLT : Hid (∀ j, k < j → ((xs.take j).filter (Kp fs)).length < j) := Lib.hid fun j hj => by
      have e1 : xs.take j = xs.take (k + 1) ++ (xs.take j).drop (k + 1) := by
        have := (List.take_append_drop (k + 1) (xs.take j)).symm
        rwa [List.take_take, Nat.min_eq_left hj] at this
      rw [e1, List.filter_append, List.length_append, hki]
      have := List.length_filter_le (Kp fs) ((xs.take j).drop (k + 1))
      rw [List.length_drop, List.length_take] at this
      omega
    have HKI := Lib.hid hki
    have hkw : IntKind.i64.wrap ((k : Int) + 1) = (k : Int) + 1 := IntWalk.i64_in _ (by omega)
    have hkm : ((k : Int) == -1) = false := by simp
    clear hkk hkb hb1 hki
    go_wp2_with fail
    go_loopw [5, 6] (fun iv jv W => ∃ j : Nat, j ≤ xs.length ∧ k < j ∧ jv = .int .i64 j ∧ iv = .int .i64 (((xs.take j).filter (Kp fs)).length : Nat) ∧ DlW w0 g cp xs fs j W) (fun _ jv _ => xs.length - (intOf jv).toNat)
    case atStart => exact ⟨k + 1, by omega, by omega, by go_num, by rw [HKI.out], HD.out⟩
    case round =>
      obtain ⟨j, hj, hkj, rfl, rfl, hd⟩ := hrel
      have HD2 := Lib.hid hd
      have hi := HLT.out j hkj
      obtain ⟨cur, hcur, hcs⟩ := hd.row
      generalize hiv : ((xs.take j).filter (Kp fs)).length = i at *
      by_cases hlt : j < xs.length
      · obtain ⟨u, hat⟩ := hd.tail j hlt (Nat.le_refl _)
        obtain ⟨x0, x1, x2, hu, hun⟩ := id hat
        have HAT := Lib.hid hat
        have hgl := block_lt hcur
        obtain ⟨ua, uc, rfl, _⟩ := hu
        have HCUR := Lib.hid hcur
        clear hd hat hun hcur
        have HBA : Hid (∀ o, Below w0.heap.size w0 (wr.alloc o)) := Lib.hid fun o => HD2.out.bel.alloc HD2.out.bel.size o
        go_wp2_with (go_at_call 66; fail)
        refine (dr1_any _ fb fv fs (H.out.keep (HBA.out _)) xs[j] _).mono ?_
        rintro e w2 ⟨rfl, hb2⟩
        have HB2 : Hid (Below wr.heap.size wr w2) := Lib.hid (((Below.refl _ _).alloc (Nat.le_refl _) _).trans (hb2.mono (by simp)))
        have HD3 := Lib.hid (HD2.out.below HB2.out)
        by_cases he : Kp fs xs[j] = true
        · have HE := Lib.hid he
          have hbx := below_block hb2 (by simp) (heap_alloc_new wr _)
          have y0 : w2.cell? ⟨wr.heap.size, 0, none⟩ = some (.int .i64 xs[j].fr) := by rw [cell_block hbx]; rfl
          have y1 : w2.cell? ⟨wr.heap.size, 1, none⟩ = some (.int .i64 xs[j].to) := by rw [cell_block hbx]; rfl
          have y2 : w2.cell? ⟨wr.heap.size, 2, none⟩ = some (.slice ua xs[j].slots.length uc) := by rw [cell_block hbx]; rfl
          have hcur2 := below_block HB2.out hgl HCUR.out
          obtain ⟨v0, z0⟩ : ∃ v, w2.cell? ⟨g, i * 3, none⟩ = some v := ⟨_, (cell_block hcur2).trans (Array.getElem?_eq_getElem (by omega))⟩
          obtain ⟨v1, z1⟩ : ∃ v, w2.cell? ⟨g, i * 3 + 1, none⟩ = some v := ⟨_, (cell_block hcur2).trans (Array.getElem?_eq_getElem (by omega))⟩
          obtain ⟨v2, z2⟩ : ∃ v, w2.cell? ⟨g, i * 3 + 2, none⟩ = some v := ⟨_, (cell_block hcur2).trans (Array.getElem?_eq_getElem (by omega))⟩
          have f0 := frozen_block (o := i * 3) hcur2
          have f1 := frozen_block (o := i * 3 + 1) hcur2
          have f2 := frozen_block (o := i * 3 + 2) hcur2
          have HCUR2 := Lib.hid hcur2
          rw [he, Bool.not_true]
          clear he hb2 hbx hcur2 x0 x1 x2
          go_wp2
          obtain ⟨W', hW', hg', ⟨cur3, hr', hrs'⟩, h0', h1', h2', ho'⟩ := store3 (p := i) (a := .int .i64 xs[j].fr) (b := .int .i64 xs[j].to) (c := .slice ua xs[j].slots.length uc) HCUR2.out (by omega)
          have HFL : Hid (((xs.take (j + 1)).filter (Kp fs)).length = i + 1) := Lib.hid (by rw [filter_snoc hlt, HE.out]; simpa using hiv)
          have HDN : Hid (DlW w0 g cp xs fs (j + 1) W') := Lib.hid (HD3.out.move hlt HE.out hgB hiv.symm hg' ⟨cur3, hr', hrs'.trans hcs⟩ (HAT.out.below HB2.out) h0' h1' h2' ho')
          rw [hW'] at HDN
          clear hW' hg' hr' hrs' h0' h1' h2' ho'
          go_roundw
          case rel => exact ⟨j + 1, by omega, by omega, by go_num, by rw [HFL.out]; go_num, HDN.out⟩
          case measure => simp [intOf]; omega
        · have he' : Kp fs xs[j] = false := by simpa using he
          have HE := Lib.hid he'
          have HFL : Hid (((xs.take (j + 1)).filter (Kp fs)).length = i) := Lib.hid (by rw [filter_snoc hlt, he']; simpa using hiv)
          rw [he', Bool.not_false]
          clear he he' hb2 x0 x1 x2
          go_wp2
          go_roundw
          case rel => exact ⟨j + 1, by omega, by omega, by go_num, by rw [HFL.out], HD3.out.skip hlt HE.out⟩
          case measure => simp [intOf]; omega
      · obtain rfl : j = xs.length := by omega
        have HIV := Lib.hid hiv
        have hnc : ¬ (cp = i) := by omega
        have hkc1 : (i : Int) ≤ (cp : Int) := by omega
        have hkc2 : i ≤ cp := by omega
        obtain ⟨zs, hzl, hcl⟩ := run_clear_set wr g (i * 3) (xs.length - i) (cp - i) (by omega) (fun j hj => by rw [cell_block hcur, Array.getElem?_eq_getElem (by omega)]; rfl) (fun j hj => frozen_block hcur)
        have HRT : Hid (Rd setE (wr.setCells g (i * 3) zs) (.slice (some ⟨g, 0, none⟩) i cp) (xs.filter (Kp fs))) := Lib.hid (by
          have ha := hd.head
          rw [List.take_length] at ha hiv
          refine rd_head hiv.symm (by omega) (by unfold maxLen; omega) fun m hm => ?_
          obtain ⟨u, h1, h2, h3, h4, h5⟩ := ha m hm
          rw [hiv] at hm
          refine ⟨u, ?_, ?_, ?_, rd_keep_ne h4 h5 (grown_setCells _ _ _ _), h5⟩
          · rw [World.cell?_setCells_out g zs (i * 3) wr ⟨g, m * 3, none⟩ (fun _ _ => .inl (by show m * 3 < i * 3; omega))]; exact h1
          · rw [World.cell?_setCells_out g zs (i * 3) wr ⟨g, m * 3 + 1, none⟩ (fun _ _ => .inl (by show m * 3 + 1 < i * 3; omega))]; exact h2
          · rw [World.cell?_setCells_out g zs (i * 3) wr ⟨g, m * 3 + 2, none⟩ (fun _ _ => .inl (by show m * 3 + 2 < i * 3; omega))]; exact h3)
        have HBF : Hid (Below w0.heap.size w0 (wr.setCells g (i * 3) zs)) := Lib.hid (hd.bel.grown (grown_setCells _ _ _ _) hd.bel.size (fun q e => by cases e; exact hgB))
        clear hd hiv hcur
        go_wp2
        go_ret
        exact ⟨⟨_, rfl, HRT.out⟩, HBF.out⟩

set_option maxRecDepth 100000 in
set_option maxHeartbeats 4000000 in
theorem drop_any (v fv : Value) (xs : List St) (fs : List Int) (w : World) (hv : Rd setE w v xs) (hf : Rd i64E w fv fs) (hb : xs.length ≤ 100000) (hsl : ∀ x ∈ xs, x.slots.length ≤ 100000) :
    Calls Try.prog 40 #[v, fv] w fun e w' => DelP xs fs e w' ∧ Below w.heap.size w w' := by
  have HV := Lib.hid hv
  have HF := Lib.hid hf
  obtain ⟨a, cap, rfl, _⟩ := id hv
  obtain ⟨fa, fc, rfl, _⟩ := id hf
  clear hv hf
  go_enter Try.func40, Try.ntmps40
  go_wp2_with (go_at_call 50; fail)
  have hb0 : Below w.heap.size w (w.alloc (.cells #[.slice fa fs.length fc] 25)) := (Below.refl _ _).alloc (Nat.le_refl _) _
  have HFR : Hid (FrW (w.alloc (.cells #[.slice fa fs.length fc] 25)) w.heap.size (.slice fa fs.length fc) fs) := Lib.hid ⟨HF.out.below hb0, heap_alloc_new _ _⟩
  refine (csets_any _ xs _ (HV.out.below hb0) hb hsl).mono ?_
  rintro e w1 ⟨r, rfl, hown, hb1⟩
  have HO := Lib.hid hown
  have HB1 := Lib.hid hb1
  have HB0 := Lib.hid hb0
  obtain ⟨_, _, _, rfl⟩ := own_sl hown
  clear hown hb1 hb0
  go_wp2_with (go_at_call 65; fail)
  refine (delf_any _ _ _ xs HO.out HB1.out _ _ fs HFR.out).mono ?_
  rintro e w2 ⟨⟨r, rfl, hr⟩, hb2⟩
  have HR := Lib.hid hr
  have HB2 := Lib.hid (HB0.out.trans (hb2.mono HB0.out.size))
  obtain ⟨_, _, rfl, _⟩ := hr
  clear hb2
  go_wp2
  go_ret
  exact ⟨⟨_, rfl, HR.out⟩, HB2.out⟩
end Go.Proofs.Ytchdmemgkegefaa
