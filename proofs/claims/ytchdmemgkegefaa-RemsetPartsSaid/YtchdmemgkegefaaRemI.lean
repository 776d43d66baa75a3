/- remset.Insert. Condition: sets that read as a list, not too many. -/
import Derived.Test.YtchdmemgkegefaaRem
namespace Go.Proofs.Ytchdmemgkegefaa
open Go.RowKit
set_option linter.unusedVariables false

def InsOk (xs : List St) (fr tq sl : Int) : Prop := SetsOk xs ∧ FrOk fr ∧ FrOk tq ∧ 0 ≤ sl
def slotIns (l : List Int) (s : Int) : List Int := if l.contains s then l else l.insertIdx (l.countP (· < s)) s
/-- sets with a slot inserted, the place known -/
def insRes (xs : List St) (fr tq sl : Int) (k : Nat) (ok : Bool) : List St :=
  if h : ok = true ∧ k < xs.length then xs.set k { xs[k]'h.2 with slots := slotIns (xs[k]'h.2).slots sl } else xs.insertIdx k ⟨fr, tq, [sl]⟩
def InsR (xs : List St) (fr tq sl : Int) (w : World) (e : Ending) (w' : World) : Prop :=
  (¬ InsOk xs fr tq sl → e = .returned (.tuple #[.slice none 0 0, .int .i64 1])) ∧
  (InsOk xs fr tq sl → ∃ r k ok, e = .returned (.tuple #[r, .int .i64 0]) ∧ Srch xs fr tq k ok ∧ Own (setO w.heap.size) w' w.heap.size 77 r (insRes xs fr tq sl k ok))

theorem rbs_true {e : Ending} {p : Prop} (hp : p) (h : RBs e p) : e = .returned (.bool true) := by
  obtain ⟨x, rfl, hx⟩ := h
  rw [hx.2 hp]
theorem rbs_false {e : Ending} {p : Prop} (hp : ¬ p) (h : RBs e p) : e = .returned (.bool false) := by
  obtain ⟨x, rfl, hx⟩ := h
  cases x with
  | false => rfl
  | true => exact absurd (hx.1 rfl) hp
theorem valid_t (v : Value) (xs : List St) (w : World) (hv : Rd setE w v xs) (h : SetsOk xs) : Calls Try.prog 27 #[v] w fun e w' => e = .returned (.bool true) ∧ Below w.heap.size w w' :=
  (valid_any18 v xs w hv).mono fun e w' ⟨a, b⟩ => ⟨rbs_true h a, b⟩
theorem valid_f (v : Value) (xs : List St) (w : World) (hv : Rd setE w v xs) (h : ¬ SetsOk xs) : Calls Try.prog 27 #[v] w fun e w' => e = .returned (.bool false) ∧ Below w.heap.size w w' :=
  (valid_any18 v xs w hv).mono fun e w' ⟨a, b⟩ => ⟨rbs_false h a, b⟩
theorem in_t (x : Int) (w : World) (h : FrOk x) : Calls Try.prog 49 #[.int .i64 x] w fun e w' => e = .returned (.bool true) ∧ w = w' := (in_any x w).mono fun e w' ⟨a, b⟩ => ⟨rbs_true h a, b⟩
theorem in_f (x : Int) (w : World) (h : ¬ FrOk x) : Calls Try.prog 49 #[.int .i64 x] w fun e w' => e = .returned (.bool false) ∧ w = w' := (in_any x w).mono fun e w' ⟨a, b⟩ => ⟨rbs_false h a, b⟩
theorem one_setN {B : Nat} : ∀ w y cs, (setN B).rel w y cs → ∀ u ∈ cs, u.oneCell' = true := by
  rintro w y cs ⟨v, rfl, ho, _⟩ u hu
  obtain ⟨a, l, c, rfl⟩ := own_sl ho
  simp only [List.mem_cons, List.not_mem_nil, or_false] at hu
  rcases hu with rfl | rfl | rfl <;> rfl

theorem map_insIdx {α β : Type} (f : α → β) (a : α) : ∀ (l : List α) (i : Nat), (l.insertIdx i a).map f = (l.map f).insertIdx i (f a)
  | [], 0 => rfl
  | [], _ + 1 => rfl
  | x :: l, 0 => rfl
  | x :: l, i + 1 => by
    rw [List.insertIdx_succ_cons, List.map_cons, map_insIdx f a l i, List.map_cons, List.insertIdx_succ_cons]
theorem own_form {α : Type} {E : El α} {w : World} {B T : Nat} {v : Value} {xs : List α} (h : Own E w B T v xs) (hn : 0 < xs.length) : ∃ g c, v = .slice (some ⟨g, 0, none⟩) xs.length c := by
  obtain ⟨D, ⟨_, hrow⟩, _⟩ := h
  rcases hrow with ⟨_, h0⟩ | ⟨g, c, cur, hv, _⟩
  · omega
  · exact ⟨g, c, hv⟩
theorem own_setO_base {w : World} {B B' C C' T : Nat} {v : Value} {xs : List St} (h : Own (setO B) w C T v xs) (hB : B' ≤ B) (hC : C' ≤ C) : Own (setO B') w C' T v xs := by
  obtain ⟨D, hD, hel⟩ := h.base hC
  refine ⟨D, hD, fun i hi => ?_⟩
  obtain ⟨u, e, ho⟩ := hel i hi
  exact ⟨u, e, ho.base hB⟩

set_option maxRecDepth 100000 in
set_option maxHeartbeats 8000000 in
theorem insert_any (v : Value) (xs : List St) (w : World) (hv : Rd setE w v xs) (hb : xs.length ≤ 99999) (hsl : ∀ x ∈ xs, x.slots.length ≤ 99999) (fr tq sl : Int) :
    Calls Try.prog 24 #[v, .int .i64 fr, .int .i64 tq, .int .i64 sl] w fun e w' => InsR xs fr tq sl w e w' ∧ Below w.heap.size w w' := by
  have HV := Lib.hid hv
  have HSL := Lib.hid hsl
  obtain ⟨a, cap, rfl, hl, hm, _⟩ := id hv
  clear hsl
  by_cases h1 : SetsOk xs
  case neg =>
    have HC := Lib.hid (valid_f _ xs w hv h1)
    clear hv
    go_enter Try.func24, Try.ntmps24
    go_wp2_with (first | (go_at_call 27; refine HC.out.mono ?_; rintro e w1 ⟨rfl, hbe⟩))
    go_ret2
    exact ⟨⟨fun _ => rfl, fun h => absurd h.1 h1⟩, hbe⟩
  by_cases h2 : FrOk fr
  case neg =>
    have HC := Lib.hid (valid_t _ xs w hv h1)
    have HC2 := Lib.hid (fun w => in_f fr w h2)
    clear hv
    go_enter Try.func24, Try.ntmps24
    go_wp2_with (first | (go_at_call 27; refine HC.out.mono ?_; rintro e w1 ⟨rfl, hbe⟩) | (go_at_call 49; refine (HC2.out _).mono ?_; rintro e w2 ⟨rfl, rfl⟩))
    go_ret2
    exact ⟨⟨fun _ => rfl, fun h => absurd h.2.1 h2⟩, hbe⟩
  by_cases h3 : FrOk tq
  case neg =>
    have HC := Lib.hid (valid_t _ xs w hv h1)
    have HC2 := Lib.hid (fun w => in_t fr w h2)
    have HC3 := Lib.hid (fun w => in_f tq w h3)
    clear hv
    go_enter Try.func24, Try.ntmps24
    go_wp2_with (first | (go_at_call 27; refine HC.out.mono ?_; rintro e w1 ⟨rfl, hbe⟩) | (go_at_call 49; refine (HC2.out _).mono ?_; rintro e w2 ⟨rfl, rfl⟩) | (go_at_call 49; refine (HC3.out _).mono ?_; rintro e w2 ⟨rfl, rfl⟩))
    go_ret2
    exact ⟨⟨fun _ => rfl, fun h => absurd h.2.2.1 h3⟩, hbe⟩
  have HC := Lib.hid (valid_t _ xs w hv h1)
  have HC2 := Lib.hid (fun w => in_t fr w h2)
  have HC3 := Lib.hid (fun w => in_t tq w h3)
  by_cases h4 : sl < 0
  · clear hv
    go_enter Try.func24, Try.ntmps24
    go_wp2_with (first | (go_at_call 27; refine HC.out.mono ?_; rintro e w1 ⟨rfl, hbe⟩) | (go_at_call 49; refine (HC2.out _).mono ?_; rintro e w2 ⟨rfl, rfl⟩) | (go_at_call 49; refine (HC3.out _).mono ?_; rintro e w2 ⟨rfl, rfl⟩))
    go_ret2
    exact ⟨⟨fun _ => rfl, fun h => absurd h.2.2.2 (by omega)⟩, hbe⟩
  have HOK : Hid (InsOk xs fr tq sl) := Lib.hid ⟨h1, h2, h3, by omega⟩
  clear hv h1 h2 h3
  go_enter Try.func24, Try.ntmps24
  go_wp2_with (first | (go_at_call 27; refine HC.out.mono ?_; rintro e w1 ⟨rfl, hbe⟩) | (go_at_call 49; refine (HC2.out _).mono ?_; rintro e w2 ⟨rfl, rfl⟩) | (go_at_call 49; refine (HC3.out _).mono ?_; rintro e w2 ⟨rfl, rfl⟩) | (go_at_call 50; fail))
  have HBE := Lib.hid hbe
  refine (csn_any _ xs w1 (HV.out.below hbe) (by omega) (fun x hx => by have := HSL.out x hx; omega)).mono ?_
  rintro e w2 ⟨r, ys, rfl, hown, hys, hdst, hb2⟩
  have HB2 := Lib.hid hb2
  have HYS := Lib.hid hys
  have HDS := Lib.hid hdst
  have HOW := Lib.hid hown
  have hyl : ys.length = xs.length := by rw [← hys, List.length_map]
  clear hbe hb2 hys hdst
  obtain ⟨a1, l1, c1, rfl⟩ := own_sl hown
  clear hown
  go_wp2_with (go_at_call 51; fail)
  refine (find_any _ xs w2 (by have := own_setE HOW.out; rwa [HYS.out] at this) (by omega) fr tq).mono ?_
  rintro e w3 ⟨⟨k, ok, rfl, hs⟩, hb3⟩
  have HB3 := Lib.hid hb3
  have HOW3 := Lib.hid (HOW.out.below hb3)
  have HS := Lib.hid hs
  have hkl := hs.le
  have s1 := HBE.out.size
  have s2 := HB2.out.size
  have s3 := hb3.size
  clear hs hb3
  cases ok with
  | false =>
    go_wp2_with (go_at_call 52; fail)
    have hlit : ∀ o, Own i64E ((w3.alloc (.cells #[.int .i64 sl] 3)).alloc o) w1.heap.size 3 (.slice (some ⟨w3.heap.size, 0, none⟩) 1 1) [sl] := fun o =>
      own_lit (by omega) (alloc_block (heap_alloc_new _ _)) rfl rfl (by unfold maxLen; omega)
    refine (insS_any (setN w1.heap.size) rfl _ ys _ w1.heap.size (by simp; omega) ((HOW3.out.alloc _).alloc _) k (by omega) (⟨fr, tq, [sl]⟩, some w3.heap.size) (w3.heap.size + 1) _ (heap_alloc_at _ _ _ (by simp)) ⟨_, rfl, hlit _, rfl⟩ (HOW3.out.ne (.inr (by omega))) (by omega) one_setN
      (fun w' y cs hg h => setN_kept ((HOW3.out.alloc _).alloc _) hg h)).mono ?_
    rintro e w4 ⟨r', rfl, ho, hg, hr⟩
    have HO := Lib.hid ho
    have HBF : Hid (Below w.heap.size w w4) := Lib.hid ((((HBE.out.trans (HB2.out.mono (by omega))).trans (HB3.out.mono (by omega))).alloc (by omega) _ |>.alloc (by simp; omega) _).grown hg (by simp; omega) (fun q hq => by have := (HOW3.out.lt q hq).1; omega))
    obtain ⟨a2, l2, c2, rfl⟩ := own_sl ho
    clear ho hg hr hlit
    go_wp2
    go_ret2
    refine ⟨⟨fun h => absurd HOK.out h, fun _ => ⟨_, k, false, rfl, HS.out, ?_⟩⟩, HBF.out⟩
    have := own_setO HO.out (show w.heap.size ≤ w1.heap.size by omega) (show w.heap.size ≤ w1.heap.size by omega)
    rw [map_insIdx, HYS.out] at this
    unfold insRes
    rw [dif_neg (by simp)]
    exact this
  | true =>
    obtain ⟨hk, hz⟩ := HS.out.ok.1 rfl
    have hkl2 : k < ys.length := by omega
    have hyk : ys[k].1 = xs[k] := by
      have := HYS.out
      subst this
      rw [List.getElem_map]
    obtain ⟨g, cp, hform⟩ := own_form HOW3.out (by omega)
    injection hform with ha1 hl1 hc1
    subst ha1 hl1 hc1
    obtain ⟨hgB, hgl, hfz, u, hu, hou, hub⟩ := own_slots HOW3.out hkl2
    rw [hyk] at hou
    have HOU := Lib.hid hou
    obtain ⟨a3, l3, c3, rfl⟩ := own_sl hou
    have hso : SlotsOk xs[k].slots := (HOK.out.1 k hk).2.2.2
    have hsl := HSL.out _ (List.getElem_mem hk)
    have HBS := Lib.hid (bsi_any _ _ w3 hou.rd (by omega) hso.le sl)
    have HU := Lib.hid hu
    clear hz hou hso
    go_wp2_with (go_at_call 53; fail)
    refine HBS.out.mono ?_
    rintro e w4 ⟨rfl, hb4⟩
    have HB4 := Lib.hid hb4
    have s4 := hb4.size
    have hu4 : w4.cell? ⟨g, k * 3 + 2, none⟩ = some (.slice a3 l3 c3) := (hb4.cell (p := ⟨g, k * 3 + 2, none⟩) hgl).trans HU.out
    have HOW4 := Lib.hid (HOW3.out.below hb4)
    have HBW : Hid (Below w.heap.size w w4) := Lib.hid (((HBE.out.trans (HB2.out.mono (by omega))).trans (HB3.out.mono (by omega))).trans (hb4.mono (by omega)))
    clear hb4 hu
    cases hc : xs[k].slots.contains sl with
    | true =>
      go_wp2
      go_ret2
      refine ⟨⟨fun h => absurd HOK.out h, fun _ => ⟨_, k, true, rfl, HS.out, ?_⟩⟩, HBW.out⟩
      have := own_setO HOW4.out (show w.heap.size ≤ w1.heap.size by omega) (show w.heap.size ≤ w1.heap.size by omega)
      unfold insRes slotIns
      rw [dif_pos ⟨rfl, hk⟩, if_pos hc, show ({ xs[k] with slots := xs[k].slots } : St) = xs[k] from rfl, List.set_getElem_self]
      rw [HYS.out, hyl] at this
      exact this
    | false =>
      have HCF := Lib.hid hc
      generalize hcn : xs[k].slots.countP (· < sl) = q
      have HCN := Lib.hid hcn
      have hql : q ≤ xs[k].slots.length := by rw [← hcn]; exact List.countP_le_length
      clear hcn hc
      go_wp2_with (go_at_call 54; fail)
      refine (insI_any i64E rfl _ xs[k].slots _ w1.heap.size (by simp; omega) ((HOU.out.below HB4.out).alloc _) q hql sl w4.heap.size _ (heap_alloc_new _ _) rfl ((HOU.out.below HB4.out).ne (.inr (Nat.le_refl _))) (by omega) one_i64 (fun w' y cs hg h => h)).mono ?_
      rintro e w5 ⟨r', rfl, ho, hg, hr⟩
      have hne : some g ≠ (Value.slice a3 l3 c3).ownBlock := fun e => by
        obtain ⟨D, ⟨_, hrow⟩, _⟩ := HOW3.out
        rcases hrow with ⟨hv, _⟩ | ⟨g', cap', cur, hv, _, hh, _⟩
        · cases hv
        · injection hv with hv _ _
          injection hv with hv
          injection hv with hv _ _
          subst hv
          exact HOU.out.ne_block hh (by decide) e
      have hu5 : w5.cell? ⟨g, k * 3 + 2, none⟩ = some (.slice a3 l3 c3) := by
        rw [World.cell?_of_block (w := w4.alloc (.cells #[.int .i64 sl] 3)) (hg.block g (by simp; omega) hne)]
        rw [World.cell?_of_block (w := w4) (Below.heap_alloc _ _ _ (by show g < _; omega))]
        exact hu4
      have hf5 : w5.frozen? ⟨g, k * 3 + 2, none⟩ = false := by
        rw [World.frozen?_of_block (w := w4.alloc (.cells #[.int .i64 sl] 3)) (hg.block g (by simp; omega) hne)]
        rw [World.frozen?_of_block (w := w4) (Below.heap_alloc _ _ _ (by show g < _; omega))]
        rw [World.frozen?_of_block (w := w3) (HB4.out.block g hgl)]
        exact hfz
      have hst := setN_store (HOW4.out.alloc (.cells #[.int .i64 sl] 3)) HDS.out hkl2 (hub ▸ hg) ho
      have HST := Lib.hid hst
      have hBF : Below w.heap.size w w5 := (HBW.out.alloc (by omega) _).grown hg (by simp; omega) (fun q hq => by have := (HOU.out.lt q hq).1; omega)
      have HBF := Lib.hid hBF
      obtain ⟨a2, l2, c2, rfl⟩ := own_sl ho
      clear ho hg hr hst hBF
      go_wp2
      go_ret2
      refine ⟨⟨fun h => absurd HOK.out h, fun _ => ⟨_, k, true, rfl, HS.out, ?_⟩⟩, HBF.out.setCell (by show w.heap.size ≤ g; omega) _⟩
      have := HST.out
      rw [HYS.out, hyl] at this
      unfold insRes slotIns
      rw [dif_pos ⟨rfl, hk⟩, if_neg (by rw [HCF.out]; simp), HCN.out]
      rw [show ({ xs[k] with slots := xs[k].slots.insertIdx q sl } : St) = { ys[k].1 with slots := xs[k].slots.insertIdx q sl } by rw [hyk]]
      exact own_setO_base this (by omega) (by omega)
end Go.Proofs.Ytchdmemgkegefaa
