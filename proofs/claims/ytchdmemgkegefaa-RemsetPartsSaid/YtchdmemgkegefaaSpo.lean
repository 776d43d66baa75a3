/- law18.spoilt: sets with something changed. Condition: valid sets, not too many. -/
import Derived.Test.YtchdmemgkegefaaPut
import Derived.Deep.RegionLaw
namespace Go.Proofs.Ytchdmemgkegefaa
open Go.RowKit
set_option linter.unusedVariables false
set_option linter.unusedSimpArgs false

theorem setCell_self {w : World} {g o : Nat} {cs : Array Value} {T : TypeId} {v : Value} (h : w.heap[g]? = some (.cells cs T (0, 0))) (hc : cs[o]? = some v) : w.setCell ⟨g, o, none⟩ v = w := by
  have he : cs.setIfInBounds o v = cs := by
    apply Array.ext_getElem?
    intro j
    obtain ⟨ho, _⟩ := Array.getElem?_eq_some_iff.1 hc
    rw [Array.getElem?_setIfInBounds]
    by_cases hj : o = j
    · subst hj
      rw [if_pos rfl, if_pos ho, hc]
    · rw [if_neg hj]
  have hh : (w.setCell ⟨g, o, none⟩ v).heap = w.heap := by
    apply Array.ext_getElem?
    intro i
    by_cases hi : i = g
    · subst hi
      rw [setCell_block h v, he, h]
    · exact setCell_other v hi
  unfold World.setCell at hh ⊢
  simp only at hh ⊢
  rw [hh]
/-- one element in a block of its own -/
theorem rd_one {α : Type} {E : El α} {w : World} {b : Nat} {cs : Array Value} {T : TypeId} {x : α} (h : w.heap[b]? = some (.cells cs T (0, 0))) (hr : E.rel w x cs.toList) : Rd E w (.slice (some ⟨b, 0, none⟩) 1 1) [x] :=
  ⟨_, 1, rfl, by simp, by unfold maxLen; decide, .inr ⟨b, 0, rfl, fun i hi => by
    obtain rfl : i = 0 := by simpa using hi
    exact ⟨cs.toList, hr, fun j hj => by rw [cell_block h]; simp⟩⟩⟩
/-- the cells of a set of one's own -/
theorem own_fields {w : World} {B C g n c : Nat} {ys : List (St × Option Nat)} (h : Own (setN B) w C 77 (.slice (some ⟨g, 0, none⟩) n c) ys) {k : Nat} (hk : k < ys.length) :
    w.cell? ⟨g, k * 3, none⟩ = some (.int .i64 ys[k].1.fr) ∧ w.cell? ⟨g, k * 3 + 1, none⟩ = some (.int .i64 ys[k].1.to) ∧ w.frozen? ⟨g, k * 3, none⟩ = false ∧ w.frozen? ⟨g, k * 3 + 1, none⟩ = false ∧ ∃ cur, w.heap[g]? = some (.cells cur 77 (0, 0)) := by
  obtain ⟨D, ⟨hl, hrow⟩, hel⟩ := h
  rcases hrow with ⟨hv, hn⟩ | ⟨g', cap, cur, hv, hB, hh, hc, hm, hs, ht⟩
  · omega
  · simp only [Value.slice.injEq, Option.some.injEq, Addr.mk.injEq, and_true] at hv
    obtain ⟨rfl, hn, rfl⟩ := hv
    obtain ⟨u, e, ho, eo⟩ := hel k hk
    simp only [show (setN B).sz = 3 from rfl] at e ht hl hs
    have hcell : ∀ j, j < 3 → cur[k * 3 + j]? = [Value.int .i64 ys[k].1.fr, .int .i64 ys[k].1.to, u][j]? := fun j hj => by
      have := congrArg (fun l : List Value => l[j]?) e
      rw [← ht] at this
      simp only [List.getElem?_take_of_lt hj, List.getElem?_drop] at this
      rw [List.getElem?_take_of_lt (by omega)] at this
      simpa using this
    refine ⟨?_, ?_, frozen_block hh, frozen_block hh, cur, hh⟩
    · rw [cell_block hh]; simpa using hcell 0 (by decide)
    · rw [cell_block hh]; simpa using hcell 1 (by decide)
/-- the first or second word of a set of one's own written -/
theorem setN_word {w : World} {B C g n c : Nat} {ys : List (St × Option Nat)} (h : Own (setN B) w C 77 (.slice (some ⟨g, 0, none⟩) n c) ys) {k j : Nat} (hk : k < ys.length) (hj2 : j < 2) {f : Int} {x : St} (hx : x.slots = ys[k].1.slots)
    (hf : [Value.int .i64 x.fr, .int .i64 x.to] = [Value.int .i64 ys[k].1.fr, .int .i64 ys[k].1.to].set j (.int .i64 f)) : Rd setE (w.setCell ⟨g, k * 3 + j, none⟩ (.int .i64 f)) (.slice (some ⟨g, 0, none⟩) n c) ((ys.map (·.1)).set k x) := by
  obtain ⟨D, ⟨hl, hrow⟩, hel⟩ := h
  rcases hrow with ⟨hv, hn⟩ | ⟨g', cap, cur, hv, hB, hh, hc, hm, hs, ht⟩
  · omega
  simp only [Value.slice.injEq, Option.some.injEq, Addr.mk.injEq, and_true] at hv
  obtain ⟨rfl, hn, rfl⟩ := hv
  simp only [show (setN B).sz = 3 from rfl] at ht hl hs hel
  have hsc : w.grownBy (w.setCell ⟨g, k * 3 + j, none⟩ (.int .i64 f)) (some g) := grown_setCell' _ _ _
  have hlen : ((ys.map (·.1)).set k x).length = ys.length := by simp
  have hst : ∀ {u : Value} {zs : List Int}, Own i64E w B 3 u zs → Rd i64E (w.setCell ⟨g, k * 3 + j, none⟩ (.int .i64 f)) u zs := fun {u zs} ho => (ho.kept hsc (.inr fun e => ho.ne_block hh (by decide) e.symm) (fun _ _ e => e)).rd
  refine ⟨some ⟨g, 0, none⟩, c, by rw [hlen, hn], by rw [hlen]; exact hc, hm, .inr ⟨g, 0, rfl, fun i hi => ?_⟩⟩
  rw [hlen] at hi
  obtain ⟨u, e, ho, eo⟩ := hel i hi
  have hcell : ∀ j, j < 3 → cur[i * 3 + j]? = [Value.int .i64 ys[i].1.fr, .int .i64 ys[i].1.to, u][j]? := fun j hj => by
    have := congrArg (fun l : List Value => l[j]?) e
    rw [← ht] at this
    simp only [List.getElem?_take_of_lt hj, List.getElem?_drop] at this
    rw [List.getElem?_take_of_lt (by omega)] at this
    simpa using this
  have hnew : ∀ j', j' < 3 → (w.setCell ⟨g, k * 3 + j, none⟩ (.int .i64 f)).cell? ⟨g, 0 + i * setE.sz + j', none⟩ = (cur.setIfInBounds (k * 3 + j) (.int .i64 f))[i * 3 + j']? := fun j' hj' => by
    rw [cell_block (setCell_block hh _), show setE.sz = 3 from rfl, Nat.zero_add]
  by_cases hik : i = k
  · subst hik
    refine ⟨[.int .i64 x.fr, .int .i64 x.to, u], ⟨u, by rw [List.getElem_set_self], by rw [List.getElem_set_self, hx]; exact hst ho⟩, fun j' hj' => ?_⟩
    have hj3 : j' < 3 := hj'
    rw [hnew j' hj', Array.getElem?_setIfInBounds]
    have h3 := hcell j' hj'
    have hf' := congrArg (fun l : List Value => l[j']?) hf
    simp only [List.getElem?_set] at hf'
    by_cases hjj : j = j'
    · subst hjj
      rw [if_pos rfl, if_pos (by omega)]
      simp only [if_true, List.length_cons, List.length_nil, hj2] at hf'
      match j, hj2 with
      | 0, _ => simpa using hf'.symm
      | 1, _ => simpa using hf'.symm
    · rw [if_neg (by omega), h3]
      rw [if_neg hjj] at hf'
      match j', hj3 with
      | 0, _ => simpa using hf'.symm
      | 1, _ => simpa using hf'.symm
      | 2, _ => rfl
  · refine ⟨[.int .i64 ys[i].1.fr, .int .i64 ys[i].1.to, u], ⟨u, by rw [List.getElem_set_ne (Ne.symm hik), List.getElem_map], by rw [List.getElem_set_ne (Ne.symm hik), List.getElem_map]; exact hst ho⟩, fun j' hj' => ?_⟩
    have hj3 : j' < 3 := hj'
    rw [hnew j' hj', Array.getElem?_setIfInBounds, if_neg (by omega)]
    exact hcell j' hj'
theorem setO_rd {w : World} {B C T : Nat} {v : Value} {xs : List St} (h : Own (setO B) w C T v xs) : Rd setE w v xs := h.rd.own

def SpoP (e : Ending) (w' : World) : Prop := ∃ r xs, e = .returned r ∧ Rd setE w' r xs ∧ xs.length ≤ 20 ∧ ∀ x ∈ xs, x.slots.length ≤ 21
theorem spo_set {ys : List (St × Option Nat)} {xs : List St} (hys : ys.map (·.1) = xs) (hl : xs.length ≤ 20) (hs : ∀ x ∈ xs, x.slots.length ≤ 20) {k : Nat} {x : St} (hx : x.slots.length ≤ 21) : ((ys.map (·.1)).set k x).length ≤ 20 ∧ ∀ y ∈ (ys.map (·.1)).set k x, y.slots.length ≤ 21 := by
  rw [hys]
  refine ⟨by simpa using hl, fun y hy => ?_⟩
  rcases List.mem_or_eq_of_mem_set hy with h | h
  · have := hs y h; omega
  · rw [h]; exact hx

set_option maxRecDepth 100000 in
set_option maxHeartbeats 8000000 in
theorem spoilt_any (v : Value) (xs : List St) (w : World) (hv : Rd setE w v xs) (hok : SetsOk xs) (hxl : xs.length ≤ 20) (hsl : ∀ x ∈ xs, x.slots.length ≤ 20) (wh at' by' : Int) :
    Calls Try.prog 31 #[v, .int .i64 wh, .int .i64 at', .int .i64 by'] w fun e w' => SpoP e w' ∧ Below w.heap.size w w' := by
  have HV := Lib.hid hv
  have HOK := Lib.hid hok
  have HSL := Lib.hid hsl
  obtain ⟨a, cap, rfl, hl, hm, _⟩ := id hv
  clear hv hok hsl
  go_enter Try.func31, Try.ntmps31
  go_wp2_with (go_at_call 57; fail)
  refine (rcn_any _ xs _ HV.out (by omega) (fun x hx => by have := HSL.out x hx; omega)).mono ?_
  rintro e w2 ⟨r, ys, rfl, hown, hys, hdst, hb2⟩
  have HYS := Lib.hid hys
  have HB2 := Lib.hid hb2
  have HDS := Lib.hid hdst
  have HOW := Lib.hid hown
  have hyl : ys.length = xs.length := by rw [← hys, List.length_map]
  have hs2 := hb2.size
  clear hb2 hys hdst
  have hm3 : ∃ m, by' % 3 = m ∧ 0 ≤ m ∧ m < 3 := ⟨_, rfl, Int.emod_nonneg _ (by decide), Int.emod_lt_of_pos _ (by decide)⟩
  have hm8 : ∃ m, by' % 8 = m ∧ 0 ≤ m ∧ m < 8 := ⟨_, rfl, Int.emod_nonneg _ (by decide), Int.emod_lt_of_pos _ (by decide)⟩
  have hm4 : ∃ m, by' % 4 = m ∧ 0 ≤ m ∧ m < 4 := ⟨_, rfl, Int.emod_nonneg _ (by decide), Int.emod_lt_of_pos _ (by decide)⟩
  have hm6 : ∃ m, wh % 6 = m ∧ 0 ≤ m ∧ m < 6 := ⟨_, rfl, Int.emod_nonneg _ (by decide), Int.emod_lt_of_pos _ (by decide)⟩
  obtain ⟨m3, e3, l3, u3⟩ := hm3
  obtain ⟨m8, e8, l8, u8⟩ := hm8
  obtain ⟨m4, e4, l4, u4⟩ := hm4
  obtain ⟨m6, e6, l6, u6⟩ := hm6
  have q3 : IntKind.i64.wrap (m3 - 1) = m3 - 1 := IntWalk.i64_in _ (by omega)
  have q8 : IntKind.i64.wrap (m8 - 1) = m8 - 1 := IntWalk.i64_in _ (by omega)
  have q4 : IntKind.i64.wrap (m4 - 1) = m4 - 1 := IntWalk.i64_in _ (by omega)
  by_cases h0 : xs.length = 0
  · obtain ⟨_, _, _, rfl⟩ := own_sl hown
    obtain ⟨_, _, eq1, _⟩ := hown.rd
    simp only [Value.slice.injEq] at eq1
    obtain ⟨_, eq1, _⟩ := eq1
    rw [hyl, h0] at eq1
    subst eq1
    clear hown
    go_wp2_with (go_at_call 14; refine (mod_any _ _ _ (by omega) (by omega)).mono ?_; rintro e w5 ⟨rfl, rfl⟩; (first | rw [ek] | rw [e6] | rw [e8] | rw [e40] | rw [e3] | rw [e4] | skip))
    go_ret
    refine ⟨⟨_, [⟨m3 - 1, at' % 66, [m4 - 1]⟩], rfl, ?_, by simp, fun x hx => by simp at hx; subst hx; simp⟩, ?_⟩
    · refine rd_one (heap_alloc_at _ _ _ (by simp)) ⟨_, rfl, (show Own i64E _ 0 3 (.slice (some ⟨w2.heap.size, 0, none⟩) 1 1) [m4 - 1] from own_lit (Nat.zero_le _) (alloc_block (heap_alloc_new _ _)) rfl rfl (by unfold maxLen; omega)).rd⟩
    · exact (HB2.out.alloc (by omega) _).alloc (by simp; omega) _
  obtain ⟨g, cp, rfl⟩ := own_form hown (by omega)
  rw [hyl] at hown
  have HOW := Lib.hid hown
  obtain ⟨k, ek, hk⟩ : ∃ k : Nat, at' % (xs.length : Int) = k ∧ k < xs.length := by
    have h1 := Int.emod_nonneg at' (show (xs.length : Int) ≠ 0 by omega)
    have h2 := Int.emod_lt_of_pos at' (show (0 : Int) < xs.length by omega)
    exact ⟨(at' % (xs.length : Int)).toNat, by omega, by omega⟩
  have hky : k < ys.length := by omega
  obtain ⟨hCg, hgl, fz2, u, c2, hou, hob⟩ := own_slots hown hky
  obtain ⟨c0, c1, fz0, fz1, cur, hcur⟩ := own_fields hown hky
  have hyk : ys[k].1 = xs[k] := by simp only [← HYS.out, List.getElem_map]
  have hs20 : ys[k].1.slots.length ≤ 20 := by rw [hyk]; exact HSL.out _ (List.getElem_mem hk)
  have hne : 0 < ys[k].1.slots.length := by
    rw [hyk]
    exact List.length_pos_iff.2 (slotsOk_iff.1 ((setsOk_iff.1 HOK.out).1 _ (List.getElem_mem hk)).2.2).1
  rw [hyk] at hou hs20 hne
  have HOU := Lib.hid hou
  have HBW : Hid (∀ W, w2.grownBy W (some g) → Below w.heap.size w W) := Lib.hid fun W hg => HB2.out.grown hg (by omega) (fun q e => by injection e; omega)
  have HCUR := Lib.hid hcur
  have hyk2 := Lib.hid hyk
  clear hown hou hcur hyk
  rcases (show m6 = 0 ∨ m6 = 1 ∨ m6 = 2 ∨ m6 = 3 ∨ m6 = 4 ∨ m6 = 5 by omega) with rfl | rfl | rfl | rfl | rfl | rfl
  · go_wp2_with (go_at_call 14; refine (mod_any _ _ _ (by omega) (by omega)).mono ?_; rintro e w5 ⟨rfl, rfl⟩; (first | rw [ek] | rw [e6] | rw [e8] | rw [e40] | rw [e3] | rw [e4] | skip))
    go_ret
    exact ⟨⟨_, _, rfl, setN_word HOW.out (j := 0) hky (by decide) (x := ⟨m8 - 1, ys[k].1.to, ys[k].1.slots⟩) rfl rfl, spo_set HYS.out hxl HSL.out (by show ys[k].1.slots.length ≤ 21; rw [hyk2.out]; omega)⟩, HBW.out _ (grown_setCell' _ _ _)⟩
  · go_wp2_with (go_at_call 14; refine (mod_any _ _ _ (by omega) (by omega)).mono ?_; rintro e w5 ⟨rfl, rfl⟩; (first | rw [ek] | rw [e6] | rw [e8] | rw [e40] | rw [e3] | rw [e4] | skip))
    go_ret
    exact ⟨⟨_, _, rfl, setN_word HOW.out (j := 1) hky (by decide) (x := ⟨ys[k].1.fr, m8 - 1, ys[k].1.slots⟩) rfl rfl, spo_set HYS.out hxl HSL.out (by show ys[k].1.slots.length ≤ 21; rw [hyk2.out]; omega)⟩, HBW.out _ (grown_setCell' _ _ _)⟩
  · go_wp2_with (go_at_call 14; refine (mod_any _ _ _ (by omega) (by omega)).mono ?_; rintro e w5 ⟨rfl, rfl⟩; (first | rw [ek] | rw [e6] | rw [e8] | rw [e40] | rw [e3] | rw [e4] | skip))
    go_ret
    exact ⟨⟨_, _, rfl, setO_rd (setN_store HOW.out HDS.out hky (grown_refl _ _) (Own.nil _ _ _ _)), spo_set HYS.out hxl HSL.out (by simp)⟩, HBW.out _ (grown_setCell' _ _ _)⟩
  · obtain ⟨m40, e40, l40, u40⟩ : ∃ m, by' % 40 = m ∧ 0 ≤ m ∧ m < 40 := ⟨_, rfl, Int.emod_nonneg _ (by decide), Int.emod_lt_of_pos _ (by decide)⟩
    obtain ⟨sb, sc, rfl⟩ := own_form HOU.out hne
    have hsb := (HOU.out.lt sb rfl)
    have hgs : g ≠ sb := fun e => HOU.out.ne_block HCUR.out (by decide) (by rw [e]; rfl)
    go_wp2_with (go_at_call 14; refine (mod_any _ _ _ (by omega) (by omega)).mono ?_; rintro e w5 ⟨rfl, rfl⟩; (first | rw [ek] | rw [e6] | rw [e8] | rw [e40] | rw [e3] | rw [e4] | skip))
    go_region_law (first
      | (go_simp; (go_at_call 14; refine (mod_any _ _ _ (by omega) (by omega)).mono ?_; rintro e w5 ⟨rfl, rfl⟩; (first | rw [ek] | rw [e6] | rw [e8] | rw [e40] | rw [e3] | rw [e4] | skip)))
      | (refine step_append_lit i64E i64S rfl _ _ rfl w.heap.size _ xs[k].slots rfl ((HOU.out.alloc _).below (Below.refl _ _).drew) m40 _ _ rfl (heap_alloc_new _ _) rfl (by simp [Value.oneCell']) (by omega) (by unfold maxLen; omega) (by simp; omega) (fun _ _ _ _ h => h) ?_; intro v7 w7 ho7 hg7 hb7; have hcur7 := (hg7.block g (by simp; omega) (fun e => hgs (Option.some.inj (show some g = some sb from e)))).trans (alloc_block HCUR.out); have y7 := (cell_block hcur7).trans ((cell_block HCUR.out).symm.trans c2); have z7 := frozen_block (o := k * 3 + 2) hcur7; obtain ⟨a7, n7, c7, rfl⟩ := own_sl ho7))
    all_goals go_wp2
    all_goals go_ret
    all_goals exact ⟨⟨_, _, rfl, setO_rd (setN_store HOW.out HDS.out hky (grown_trans (grown_trans grown_new (grow_drew _)) (by rw [← hob]; exact hg7)) ho7), spo_set HYS.out hxl HSL.out (by simp; omega)⟩, (((HB2.out.alloc (by omega) _).trans (Below.refl _ _).drew).trans (hb7.mono (Nat.le_refl _))).grown (grown_setCell' _ _ _) (by have h1 := hg7.size; simp at h1; omega) (fun q e => by cases e; omega)⟩
  · obtain ⟨sb, sc, rfl⟩ := own_form HOU.out hne
    obtain ⟨hs1, _, hs3, hs4, hs5⟩ := HOU.out.setAt 0 0 hne (by decide)
    simp only [Nat.zero_mul, Nat.add_zero] at hs3 hs4 hs5
    have hs3' : w2.cell? ⟨sb, 0, none⟩ = some (.int .i64 xs[k].slots[0]) := hs3
    have HS5 := Lib.hid (hs5 (-1) (.int .i64 (-1)) rfl)
    have hgs : g ≠ sb := fun e => HOU.out.ne_block HCUR.out (by decide) (by rw [e]; rfl)
    clear hs5 hs3
    go_wp2_with (go_at_call 14; refine (mod_any _ _ _ (by omega) (by omega)).mono ?_; rintro e w5 ⟨rfl, rfl⟩; (first | rw [ek] | rw [e6] | rw [e8] | rw [e40] | rw [e3] | rw [e4] | skip))
    go_ret
    have h9 := setN_store (w' := w2.setCell ⟨sb, 0, none⟩ (.int .i64 (-1))) HOW.out HDS.out hky (by rw [← hob]; exact grown_setCell' _ _ _) HS5.out
    rw [setCell_self ((setCell_other _ hgs).trans HCUR.out) (by rw [← cell_block HCUR.out]; exact c2)] at h9
    exact ⟨⟨_, _, rfl, setO_rd h9, spo_set HYS.out hxl HSL.out (by simp; omega)⟩, HB2.out.grown (grown_setCell' _ _ _) hs2 (fun q e => by cases e; exact hs1)⟩
  · go_wp2_with (go_at_call 14; refine (mod_any _ _ _ (by omega) (by omega)).mono ?_; rintro e w5 ⟨rfl, rfl⟩; (first | rw [ek] | rw [e6] | rw [e8] | rw [e40] | rw [e3] | rw [e4] | skip))
    go_ret
    exact ⟨⟨_, _, rfl, own_setE HOW.out, by rw [HYS.out]; exact hxl, fun x hx => by rw [HYS.out] at hx; have := HSL.out x hx; omega⟩, HB2.out⟩
end Go.Proofs.Ytchdmemgkegefaa
