/- remset.Has and remset.Insert. Condition: sets that read as a list, not too many. -/
import Derived.Test.YtchdmemgkegefaaFnd
import Derived.WalkSmall
namespace Go.Proofs.Ytchdmemgkegefaa
open Go.RowKit
set_option linter.unusedVariables false

theorem own_setO {w : World} {B B' C C' T : Nat} {v : Value} {ys : List (St × Option Nat)} (h : Own (setN B) w C T v ys) (hB : B' ≤ B) (hC : C' ≤ C) : Own (setO B') w C' T v (ys.map (·.1)) := by
  obtain ⟨D, hD, hel⟩ := h.base hC
  refine ⟨D, by rw [List.length_map]; exact hD, fun i hi => ?_⟩
  rw [List.length_map] at hi
  obtain ⟨u, e, ho, _⟩ := hel i hi
  exact ⟨u, by rw [List.getElem_map]; exact e, by rw [List.getElem_map]; exact ho.base hB⟩
theorem own_setE {w : World} {B C T : Nat} {v : Value} {ys : List (St × Option Nat)} (h : Own (setN B) w C T v ys) : Rd setE w v (ys.map (·.1)) := (own_setO h (Nat.le_refl _) (Nat.le_refl _)).rd.own

/-- the slots of a set of one's own -/
theorem own_slots {w : World} {B C g n c : Nat} {ys : List (St × Option Nat)} (h : Own (setN B) w C 77 (.slice (some ⟨g, 0, none⟩) n c) ys) {k : Nat} (hk : k < ys.length) :
    C ≤ g ∧ g < w.heap.size ∧ w.frozen? ⟨g, k * 3 + 2, none⟩ = false ∧ ∃ u, w.cell? ⟨g, k * 3 + 2, none⟩ = some u ∧ Own i64E w B 3 u ys[k].1.slots ∧ u.ownBlock = ys[k].2 := by
  obtain ⟨D, ⟨hl, hrow⟩, hel⟩ := h
  rcases hrow with ⟨hv, hn⟩ | ⟨g', cap, cur, hv, hB, hh, hc, hm, hs, ht⟩
  · omega
  · simp only [Value.slice.injEq, Option.some.injEq, Addr.mk.injEq, and_true] at hv
    obtain ⟨rfl, hn, rfl⟩ := hv
    obtain ⟨u, e, ho, eo⟩ := hel k hk
    refine ⟨hB, (Array.getElem?_eq_some_iff.1 hh).1, frozen_block hh, u, ?_, ho, eo⟩
    have e2 := congrArg (fun l : List Value => l[2]?) e
    simp only [show (setN B).sz = 3 from rfl] at e2 ht hl hs
    rw [List.getElem?_take_of_lt (by decide), List.getElem?_drop, ← ht, List.getElem?_take_of_lt (by omega)] at e2
    rw [cell_block hh]
    simpa using e2

theorem setN_store {w w' : World} {B C g n c : Nat} {ys : List (St × Option Nat)} (h : Own (setN B) w C 77 (.slice (some ⟨g, 0, none⟩) n c) ys) (hd : Dst ys) {k : Nat} (hk : k < ys.length) (hg : w.grownBy w' ys[k].2) {r : Value} {l : List Int}
    (hr : Own i64E w' B 3 r l) : Own (setO B) (w'.setCell ⟨g, k * 3 + 2, none⟩ r) C 77 (.slice (some ⟨g, 0, none⟩) n c) ((ys.map (·.1)).set k { ys[k].1 with slots := l }) := by
  obtain ⟨D, ⟨hl, hrow⟩, hel⟩ := h
  rcases hrow with ⟨hv, hn⟩ | ⟨g', cap, cur, hv, hB, hh, hc, hm, hs, ht⟩
  · omega
  simp only [Value.slice.injEq, Option.some.injEq, Addr.mk.injEq, and_true] at hv
  obtain ⟨rfl, hn, rfl⟩ := hv
  simp only [show (setN B).sz = 3 from rfl] at ht hl hs hel
  have hgl : g < w.heap.size := (Array.getElem?_eq_some_iff.1 hh).1
  have hgk : ∀ (i : Nat) (hi : i < ys.length), ys[i].2 ≠ some g := fun i hi e => by
    obtain ⟨u, _, ho, eo⟩ := hel i hi
    exact ho.ne_block hh (by decide) (by rw [eo, e])
  have hh' : w'.heap[g]? = some (.cells cur 77 (0, 0)) := by rw [hg.block g hgl (fun e => hgk k hk e.symm)]; exact hh
  have hsc : w'.grownBy (w'.setCell ⟨g, k * 3 + 2, none⟩ r) (some g) := grown_setCell' _ _ _
  have hlen : ((ys.map (·.1)).set k { ys[k].1 with slots := l }).length = ys.length := by simp
  have hst : ∀ {u : Value} {zs : List Int}, Own i64E w' B 3 u zs → Own i64E (w'.setCell ⟨g, k * 3 + 2, none⟩ r) B 3 u zs := fun {u zs} ho => ho.kept hsc (.inr fun e => ho.ne_block hh' (by decide) e.symm) (fun _ _ e => e)
  have hdd : ∀ (i : Nat) (hi : i < ys.length), i ≠ k → ys[i].2 = none ∨ ys[i].2 ≠ ys[k].2 := fun i hi hne => by
    rcases Nat.lt_or_gt_of_ne hne with h1 | h1
    · exact List.pairwise_iff_getElem.1 hd i k hi hk h1
    · have := List.pairwise_iff_getElem.1 hd k i hk hi h1
      rcases this with e | e
      · by_cases h0 : ys[i].2 = none
        · exact .inl h0
        · exact .inr fun e' => h0 (e'.trans e)
      · exact .inr fun e' => e e'.symm
  refine ⟨D.set (k * 3 + 2) r, ⟨by rw [hlen, List.length_set]; exact hl, .inr ⟨g, c, cur.setIfInBounds (k * 3 + 2) r, by rw [hlen, hn], hB, setCell_block hh' r, by rw [hlen]; exact hc, hm, by rw [Array.size_setIfInBounds]; exact hs, ?_⟩⟩, fun i hi => ?_⟩
  · rw [hlen, Array.toList_setIfInBounds]
    change (cur.toList.set (k * 3 + 2) r).take (ys.length * 3) = _
    rw [List.take_set, ht]
  · rw [hlen] at hi
    obtain ⟨u, e, ho, eo⟩ := hel i hi
    change ∃ v, ((D.set (k * 3 + 2) r).drop (i * 3)).take 3 = _ ∧ _
    have hD : ∀ j, j < 3 → D[i * 3 + j]? = [Value.int .i64 ys[i].1.fr, .int .i64 ys[i].1.to, u][j]? := fun j hj => by
      have := congrArg (fun l : List Value => l[j]?) e
      rwa [List.getElem?_take_of_lt hj, List.getElem?_drop] at this
    by_cases hik : i = k
    · subst hik
      refine ⟨r, ?_, ?_⟩
      · rw [List.getElem_set_self]
        apply List.ext_getElem?
        intro j
        by_cases hj : j < 3
        · rw [List.getElem?_take_of_lt hj, List.getElem?_drop, List.getElem?_set]
          have := hD j hj
          match j, hj with
          | 0, _ => rw [if_neg (by omega)]; simpa using this
          | 1, _ => rw [if_neg (by omega)]; simpa using this
          | 2, _ => rw [if_pos rfl, if_pos (by omega)]; rfl
        · rw [List.getElem?_eq_none (by rw [List.length_take]; omega), List.getElem?_eq_none (by simp; omega)]
      · rw [List.getElem_set_self]
        exact hst hr
    · refine ⟨u, ?_, ?_⟩
      · rw [List.getElem_set_ne (Ne.symm hik), List.getElem_map]
        apply List.ext_getElem?
        intro j
        by_cases hj : j < 3
        · rw [List.getElem?_take_of_lt hj, List.getElem?_drop, List.getElem?_set, if_neg (by omega)]
          exact hD j hj
        · rw [List.getElem?_eq_none (by rw [List.length_take]; omega), List.getElem?_eq_none (by simp; omega)]
      · rw [List.getElem_set_ne (Ne.symm hik), List.getElem_map]
        refine hst (ho.kept hg ?_ (fun _ _ e => e))
        rw [eo]
        exact hdd i hi hik

/-- the search among numbers -/
def BsP (l : List Int) (x : Int) (e : Ending) : Prop := e = .returned (.tuple #[.int .i64 (l.countP (· < x) : Nat), .bool (l.contains x)])
theorem bsi_any (v : Value) (l : List Int) (w : World) (hv : Rd i64E w v l) (hb : l.length ≤ 1000000) (hs : l.Pairwise (· ≤ ·)) (x : Int) :
    Calls Try.prog 53 #[v, .int .i64 x] w fun e w' => BsP l x e ∧ Below w.heap.size w w' := by
  obtain ⟨a, cap, rfl, hl, hm, _⟩ := id hv
  by_cases h0 : l = []
  · subst h0
    refine (Any.slices_BinarySearch_int_empty bsLay a cap x w).mono ?_
    rintro e w' ⟨rfl, rfl⟩
    exact ⟨rfl, Below.refl _ _⟩
  · obtain ⟨b, off, rfl⟩ := rd_addr hv (List.length_pos_iff.2 h0)
    refine (Any.slices_BinarySearch_int bsLay b off l.length cap l x w (Nat.le_refl _) (by omega) (fun j hj => ?_) (by rw [List.take_length]; exact hs)).mono ?_
    · have := (int_cells hv hj).2
      rw [this]
      simp [List.getD, hj]
    · rintro e w' ⟨rfl, q, rfl⟩
      rw [List.take_length]
      exact ⟨rfl, below_drewN (Below.refl _ _) q⟩

/-- the slots in order, weakly -/
theorem SlotsOk.sorted {l : List Int} (h : SlotsOk l) : l.Pairwise (· < ·) := by
  obtain ⟨_, _, hs⟩ := h
  refine List.pairwise_iff_getElem.2 fun i j hi hj hij => ?_
  obtain ⟨d, rfl⟩ : ∃ d, j = i + 1 + d := ⟨j - i - 1, by omega⟩
  induction d with
  | zero => exact hs i hj
  | succ d ih =>
    have h1 := ih (by omega) (by omega)
    have h2 := hs (i + 1 + d) (by omega)
    exact Int.lt_trans h1 h2
theorem SlotsOk.le {l : List Int} (h : SlotsOk l) : l.Pairwise (· ≤ ·) := h.sorted.imp fun h => Int.le_of_lt h

def HasP (xs : List St) (fr tq sl : Int) (e : Ending) : Prop := ∃ k ok, Srch xs fr tq k ok ∧ RBs e (ok = true ∧ ∃ h : k < xs.length, sl ∈ xs[k].slots)
set_option maxRecDepth 100000 in
set_option maxHeartbeats 4000000 in
theorem has_any (v : Value) (xs : List St) (w : World) (hv : Rd setE w v xs) (hb : xs.length ≤ 100000) (hsl : ∀ x ∈ xs, x.slots.length ≤ 1000000 ∧ x.slots.Pairwise (· ≤ ·)) (fr tq sl : Int) :
    Calls Try.prog 25 #[v, .int .i64 fr, .int .i64 tq, .int .i64 sl] w fun e w' => HasP xs fr tq sl e ∧ Below w.heap.size w w' := by
  have HF := Lib.hid (find_any v xs w hv hb fr tq)
  have HV := Lib.hid hv
  have HSL := Lib.hid hsl
  obtain ⟨a, cap, rfl, hl, hm, _⟩ := hv
  clear hsl
  go_enter Try.func25, Try.ntmps25
  go_wp2_with (go_at_call 51; fail)
  refine HF.out.mono ?_
  rintro e w1 ⟨⟨k, ok, rfl, hs⟩, hbe⟩
  cases ok with
  | false =>
    go_wp2
    go_ret
    exact ⟨⟨k, false, hs, _, rfl, by simp⟩, hbe⟩
  | true =>
    obtain ⟨hk, hz⟩ := hs.ok.1 rfl
    obtain ⟨b, off, rfl⟩ := rd_addr HV.out (by omega)
    obtain ⟨hq, ra, rc, x0, x1, x2, hrs⟩ := set_cells HV.out hk
    have y2 : w1.cell? ⟨b, off + k * 3 + 2, none⟩ = some (.slice ra xs[k].slots.length rc) := (hbe.cell (p := ⟨b, off + k * 3 + 2, none⟩) hq).trans x2
    have HS := Lib.hid hs
    have HBE := Lib.hid hbe
    have hh := HSL.out _ (List.getElem_mem hk)
    have HBS := Lib.hid (bsi_any _ _ w1 (hrs.below hbe) hh.1 hh.2 sl)
    clear hs hz x0 x1 x2 hrs hbe hh
    go_wp2_with (go_at_call 53; fail)
    refine HBS.out.mono ?_
    rintro e w2 ⟨rfl, hb2⟩
    go_wp2
    go_ret
    exact ⟨⟨k, true, HS.out, _, rfl, by simp [hk]⟩, HBE.out.trans (hb2.mono HBE.out.size)⟩
end Go.Proofs.Ytchdmemgkegefaa
