/- mk.Sets and mk.Slots. No condition. -/
import Derived.Test.YtchdmemgkegefaaPut
import Derived.Test.YtchdmemgkegefaaOrd
import Derived.Test.YtchdmemgkegefaaRin
namespace Go.Proofs.Ytchdmemgkegefaa
open Go.RowKit
set_option linter.unusedVariables false
set_option linter.unusedSimpArgs false

theorem wrap_add (a b : Int) : IntKind.i64.wrap (IntKind.i64.wrap a + b) = IntKind.i64.wrap (a + b) := by
  simp only [IntKind.wrap_i64]
  omega
/-- ints in blocks from C on stay when an older block changes -/
theorem rd_keep_old {C g : Nat} {w w' : World} {v : Value} {xs : List Int} (h : Rd i64E w v xs) (ho : ∀ q, v.ownBlock = some q → C ≤ q) (hg : w.grownBy w' (some g)) (hC : g < C) : Rd i64E w' v xs := by
  obtain ⟨a, cap, rfl, h2, h3, h4⟩ := h
  refine ⟨a, cap, rfl, h2, h3, ?_⟩
  rcases h4 with h4 | ⟨b, off, rfl, h6⟩
  · exact .inl h4
  · refine .inr ⟨b, off, rfl, fun i hi => ?_⟩
    obtain ⟨cs, r, c⟩ := h6 i hi
    have hb := ho b rfl
    refine ⟨cs, r, fun j hj => ?_⟩
    have hl := i64E.len _ _ _ r
    have hc := c j hj
    have hlt : b < w.heap.size := World.block_lt_of_cell? w (a := ⟨b, off + i * i64E.sz + j, none⟩) (u := cs[j]'(by omega)) (by rw [hc, List.getElem?_eq_getElem])
    rw [← hc]
    exact World.cell?_of_block (hg.block b hlt (fun e => by injection e with e; omega))
theorem rdF_keep {C g : Nat} {w w' : World} {v : Value} {xs : List St} (h : Rd (setF C) w v xs) (ho : ∀ q, v.ownBlock = some q → C ≤ q) (hg : w.grownBy w' (some g)) (hC : g < C) : Rd (setF C) w' v xs := by
  obtain ⟨a, cap, rfl, h2, h3, h4⟩ := h
  refine ⟨a, cap, rfl, h2, h3, ?_⟩
  rcases h4 with h4 | ⟨b, off, rfl, h6⟩
  · exact .inl h4
  · refine .inr ⟨b, off, rfl, fun i hi => ?_⟩
    obtain ⟨cs, ⟨u, hu, r, o⟩, c⟩ := h6 i hi
    have hb := ho b rfl
    refine ⟨cs, ⟨u, hu, rd_keep_old r o hg hC, o⟩, fun j hj => ?_⟩
    have hl : cs.length = (setF C).sz := (setF C).len _ _ _ ⟨u, hu, r, o⟩
    have hc := c j hj
    have hlt : b < w.heap.size := World.block_lt_of_cell? w (a := ⟨b, off + i * (setF C).sz + j, none⟩) (u := cs[j]'(by omega)) (by rw [hc, List.getElem?_eq_getElem])
    rw [← hc]
    exact World.cell?_of_block (hg.block b hlt (fun e => by injection e with e; omega))

def SmP (xs : List St) (z : Int) : Prop := xs.length ≤ 40 ∧ z ≤ 300
set_option maxRecDepth 100000 in
set_option maxHeartbeats 4000000 in
theorem sets_any (v : Value) (xs : List St) (w : World) (hv : Rd setE w v xs) :
    Calls Try.prog 29 #[v] w fun e w' => RBs e (SmP xs (IntKind.i64.wrap ((xs.map (·.slots.length)).sum : Nat))) ∧ Below w.heap.size w w' := by
  obtain ⟨a, cap, rfl, hl, hm, _⟩ := id hv
  have HV := Lib.hid hv
  clear hv
  unfold maxLen at hm
  obtain ⟨z, hz⟩ : ∃ z, z = IntKind.i64.wrap ((xs.map (·.slots.length)).sum : Nat) := ⟨_, rfl⟩
  have hfin : IntKind.i64.wrap (cntTo xs xs.length : Nat) = z := by rw [hz]; unfold cntTo; rw [List.take_length]
  have HFIN := Lib.hid hfin
  rw [← hz]
  clear hfin hz
  go_enter Try.func29, Try.ntmps29
  go_wp2_with fail
  go_loopw [3, 8] (fun n i wr => ∃ k : Nat, k ≤ xs.length ∧ i = .int .i64 k ∧ n = .int .i64 (IntKind.i64.wrap (cntTo xs k : Nat)) ∧ Below w.heap.size w wr) (fun _ i _ => xs.length - (intOf i).toNat)
  case atStart => exact ⟨0, by omega, rfl, by simp [cntTo, IntKind.wrap_i64], Below.refl _ _⟩
  case round =>
    obtain ⟨k, hk, rfl, rfl, hbel⟩ := hrel
    by_cases hlt : k < xs.length
    · have hrr := HV.out.below hbel
      obtain ⟨b, off, rfl⟩ := rd_addr hrr (by omega)
      obtain ⟨hq, ra, rc, x0, x1, x2, hrs⟩ := set_cells hrr hlt
      have hcs := cntTo_succ hlt
      have HCS := Lib.hid hcs
      have hw := wrap_add (cntTo xs k : Nat) (xs[k].slots.length : Nat)
      have HB := Lib.hid (hbel.alloc hbel.size (.cells #[.int .i64 xs[k].fr, .int .i64 xs[k].to, .slice ra xs[k].slots.length rc] 77))
      clear hrr hrs hcs hbel
      go_wp2
      go_roundw
      case rel => exact ⟨k + 1, by omega, by go_num, by rw [HCS.out, Int.natCast_add]; first | rfl | simp [IntKind.wrap_i64, wrap64], HB.out⟩
      case measure => simp [intOf]; omega
    · have hke : k = xs.length := by omega
      subst hke
      rw [HFIN.out]
      by_cases h40 : xs.length ≤ 40
      · have h40' : (xs.length : Int) ≤ 40 := by omega
        by_cases h3 : z ≤ 300
        · go_wp2
          go_ret
          exact ⟨⟨true, rfl, fun _ => ⟨h40, h3⟩, fun _ => rfl⟩, hbel⟩
        · go_wp2
          go_ret
          exact ⟨⟨false, rfl, fun h => (by cases h), fun h => absurd h.2 (by omega)⟩, hbel⟩
      · have h40' : ¬ (xs.length : Int) ≤ 40 := by omega
        go_wp2
        go_ret
        exact ⟨⟨false, rfl, fun h => (by cases h), fun h => absurd h.1 (by omega)⟩, hbel⟩

/-- what mk.Slots leaves -/
def SltP (w : World) (e : Ending) (w' : World) : Prop := ∃ r xs, e = .returned r ∧ Rd setE w' r xs ∧ SetsOk xs ∧ xs.length ≤ 20 ∧ ∀ x ∈ xs, x.slots.length ≤ 20
theorem insRes_len {xs : List St} {fr tq sl : Int} {k : Nat} {ok : Bool} {n : Nat} (h1 : xs.length ≤ n) (h2 : ∀ x ∈ xs, x.slots.length ≤ n) (h : InsOk xs fr tq sl) (hs : Srch xs fr tq k ok) : (insRes xs fr tq sl k ok).length ≤ n + 1 ∧ ∀ x ∈ insRes xs fr tq sl k ok, x.slots.length ≤ n + 1 := by
  have hr : Repr xs (fun x => Mem3 xs x.1 x.2.1 x.2.2) n := ⟨h.1, fun _ _ _ => Iff.rfl, h1, h2⟩
  have := hr.ins h.2.1 h.2.2.1 h.2.2.2 hs
  exact ⟨this.len, this.slots⟩
theorem insRes_valid {xs : List St} {fr tq sl : Int} {k : Nat} {ok : Bool} (h : InsOk xs fr tq sl) (hs : Srch xs fr tq k ok) : SetsOk (insRes xs fr tq sl k ok) := by
  have hr : Repr xs (fun x => Mem3 xs x.1 x.2.1 x.2.2) (max xs.length (xs.map (·.slots.length)).sum) := ⟨h.1, fun _ _ _ => Iff.rfl, Nat.le_max_left _ _, fun x hx => Nat.le_trans (le_sum_of_mem (List.mem_map.2 ⟨x, hx, rfl⟩)) (Nat.le_max_right _ _)⟩
  exact (hr.ins h.2.1 h.2.2.1 h.2.2.2 hs).ok

/-- the state while slots are put -/
structure SlW (w : World) (B g n : Nat) (v : Value) (xs : List St) (W : World) : Prop where
  rd : Rd (setF B) W v xs
  own : ∀ q, v.ownBlock = some q → B ≤ q
  ok : SetsOk xs
  len : xs.length ≤ n
  slots : ∀ x ∈ xs, x.slots.length ≤ n
  dk : Deck w.heap.size W g
  bel : Below w.heap.size w W
  size : B ≤ W.heap.size
theorem SlW.next {w : World} {B g n : Nat} {v : Value} {xs : List St} {W W' : World} (h : SlW w B g n v xs W) (hd : Deck w.heap.size W' g) (hg : W.grownBy W' (some g)) (hB : g < B) : SlW w B g n v xs W' :=
  ⟨rdF_keep h.rd h.own hg hB, h.own, h.ok, h.len, h.slots, hd, h.bel.grown hg h.bel.size (fun k e => by injection e with e; have := h.dk.1; omega), Nat.le_trans h.size hg.size⟩

/-- what mk.Slots leaves, in blocks of its own -/
def SltF (B : Nat) (e : Ending) (w' : World) : Prop := ∃ r xs, e = .returned r ∧ Rd (setF B) w' r xs ∧ (∀ q, r.ownBlock = some q → B ≤ q) ∧ SetsOk xs ∧ xs.length ≤ 20 ∧ ∀ x ∈ xs, x.slots.length ≤ 20
set_option maxRecDepth 100000 in
set_option maxHeartbeats 4000000 in
theorem slots_dk (w : World) (g : Nat) (w0 : World) (hdk : Deck w0.heap.size w g) (hb0 : Below w0.heap.size w0 w) (hgw : g < w.heap.size) :
    Calls Try.prog 30 #[.pointer (some ⟨g, 0, none⟩)] w fun e w' => SltF w.heap.size e w' ∧ Deck w0.heap.size w' g ∧ w.heap.size ≤ w'.heap.size ∧ Below w0.heap.size w0 w' := by
  have HW0 : Hid (SlW w0 w.heap.size g 0 (.slice none 0 0) [] w) := Lib.hid ⟨Rd.nil _ _, fun q h => by simp [Value.ownBlock] at h, setsOk_iff.2 ⟨fun x h => by simp at h, by simp⟩, Nat.le_refl _, fun x h => by simp at h, hdk, hb0, Nat.le_refl _⟩
  generalize hB : w.heap.size = B at *
  clear hdk hb0
  go_enter Try.func30, Try.ntmps30
  go_wp2_with (go_at_call 23; fail)
  refine (next_any _ _ 20 _ HW0.out.dk (by omega) (by omega)).mono ?_
  rintro e w2 ⟨r0, hr0, hr1, rfl, hd2, hg2⟩
  have HW2 := Lib.hid (HW0.out.next hd2 hg2 hgw)
  clear hd2 hg2
  obtain ⟨j0, rfl⟩ : ∃ j : Nat, r0 = j := ⟨r0.toNat, by omega⟩
  go_wp2_with fail
  go_loopw [3, 4] (fun v j wr => ∃ (m n : Nat) (xs : List St), j = .int .i64 m ∧ n + m ≤ 19 ∧ SlW w0 B g n v xs wr) (fun _ j _ => (intOf j).toNat)
  case atStart => exact ⟨j0, 0, [], rfl, by omega, HW2.out⟩
  case round =>
    obtain ⟨m, n, xs, rfl, hm, hor⟩ := hrel
    have HOR := Lib.hid hor
    obtain ⟨_, _, rfl, _⟩ := hor.rd
    clear hor
    by_cases hm0 : 0 < m
    · go_wp2_with (go_at_call 23; fail)
      refine (next_any _ _ 6 _ HOR.out.dk (by omega) (by omega)).mono ?_
      rintro e w3 ⟨f1, hf1, hf2, rfl, hd3, hg3⟩
      have HO3 := Lib.hid (HOR.out.next hd3 hg3 hgw)
      clear hd3 hg3
      go_wp2_with (go_at_call 23; fail)
      refine (next_any _ _ 6 _ HO3.out.dk (by omega) (by omega)).mono ?_
      rintro e w4 ⟨f2, hf3, hf4, rfl, hd4, hg4⟩
      have HO4 := Lib.hid (HO3.out.next hd4 hg4 hgw)
      clear hd4 hg4
      go_wp2_with (go_at_call 23; fail)
      refine (next_any _ _ 40 _ HO4.out.dk (by omega) (by omega)).mono ?_
      rintro e w5 ⟨f3, hf5, hf6, rfl, hd5, hg5⟩
      have HO5 := Lib.hid (HO4.out.next hd5 hg5 hgw)
      have HIO : Hid (InsOk xs f1 f2 f3) := Lib.hid ⟨HOR.out.ok, ⟨hf1, by omega⟩, ⟨hf3, by omega⟩, hf5⟩
      clear hd5 hg5
      go_wp2_with (go_at_call 56; fail)
      refine (put_any B _ xs _ HO5.out.size HO5.out.rd HO5.out.ok (by have := HO5.out.len; omega) (fun x hx => by have := HO5.out.slots x hx; omega) f1 f2 f3 HIO.out.2.1 HIO.out.2.2.1).mono ?_
      rintro e w6 ⟨⟨r, k, ok, rfl, hs, hr, hrow⟩, hb6⟩
      have hln := insRes_len HO5.out.len HO5.out.slots HIO.out hs
      have hgl6 : g < w5.heap.size := by have := HO5.out.size; omega
      have HO6 : Hid (SlW w0 B g (n + 1) r (insRes xs f1 f2 f3 k ok) w6) := Lib.hid ⟨hr, hrow, insRes_valid HIO.out hs, hln.1, hln.2, HO5.out.dk.below hb6 hgl6, HO5.out.bel.trans (hb6.mono HO5.out.bel.size), by have := HO5.out.size; have := hb6.size; omega⟩
      obtain ⟨_, _, e1, _⟩ := hr
      subst e1
      clear hs hrow hb6 hln
      go_wp2
      go_roundw
      case rel => exact ⟨m - 1, n + 1, _, by go_num, by omega, HO6.out⟩
      case measure => simp [intOf]; omega
    · have hme : (m : Int) = 0 := by omega
      rw [hme]
      go_wp2
      go_ret
      exact ⟨⟨_, xs, rfl, HOR.out.rd, HOR.out.own, HOR.out.ok, by have := HOR.out.len; omega, fun x hx => by have := HOR.out.slots x hx; omega⟩, HOR.out.dk, HOR.out.size, HOR.out.bel⟩
theorem slots_any (w : World) (g : Nat) (w0 : World) (hdk : Deck w0.heap.size w g) (hb0 : Below w0.heap.size w0 w) (hgw : g < w.heap.size) :
    Calls Try.prog 30 #[.pointer (some ⟨g, 0, none⟩)] w fun e w' => SltP w e w' ∧ Below w0.heap.size w0 w' :=
  (slots_dk w g w0 hdk hb0 hgw).mono fun e w' ⟨⟨r, xs, he, h1, _, h2, h3, h4⟩, _, _, hb⟩ => ⟨⟨r, xs, he, h1.toE, h2, h3, h4⟩, hb⟩
end Go.Proofs.Ytchdmemgkegefaa
