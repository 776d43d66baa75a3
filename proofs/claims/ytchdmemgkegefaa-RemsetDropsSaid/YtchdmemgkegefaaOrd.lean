/- The walk of the law on the order in which slots are inserted. -/
import Derived.Test.YtchdmemgkegefaaRemP
import Derived.Test.YtchdmemgkegefaaRegX
import Derived.Test.YtchdmemgkegefaaIsRow
import Derived.StillTailTactics
namespace Go.Proofs.Ytchdmemgkegefaa
open Go.RowKit
set_option linter.unusedVariables false
set_option linter.unusedSimpArgs false

/-- triples of numbers, as slices of slices -/
def trE : El (Int × Int × Int) :=
  ⟨1, fun w x cs => ∃ v, cs = [v] ∧ Rd i64E w v [x.1, x.2.1, x.2.2], fun _ _ _ ⟨_, h, _⟩ => by rw [h]; rfl, fun _ _ _ _ ⟨v, h, r⟩ k => ⟨v, h, r.keep k⟩⟩
def trO (B : Nat) : El (Int × Int × Int) :=
  ⟨1, fun w x cs => ∃ v, cs = [v] ∧ Own i64E w B 3 v [x.1, x.2.1, x.2.2], fun _ _ _ ⟨_, h, _⟩ => by rw [h]; rfl, fun _ _ _ _ ⟨v, h, r⟩ k => ⟨v, h, r.keep k⟩⟩
theorem Rd.tr {w : World} {B : Nat} {v : Value} {xs : List (Int × Int × Int)} (h : Rd (trO B) w v xs) : Rd trE w v xs := by
  obtain ⟨a, cap, h1, h2, h3, h4⟩ := h
  refine ⟨a, cap, h1, h2, h3, ?_⟩
  rcases h4 with h4 | ⟨b, off, h5, h6⟩
  · exact .inl h4
  · refine .inr ⟨b, off, h5, fun i hi => ?_⟩
    obtain ⟨cs, ⟨u, hu, ho⟩, c⟩ := h6 i hi
    exact ⟨cs, ⟨u, hu, ho.rd⟩, c⟩
theorem trS : SlT Try.prog 32 25 1 24 (.slice none 0 0) := ⟨Try.underlying32, by kernel_rfl, rfl, by decide⟩
theorem trO_kept {B : Nat} {V w' : World} {v : Value} {ys : List (Int × Int × Int)} (how : Own (trO B) V B 25 v ys) (hg : V.grownBy w' v.ownBlock) {x : Int × Int × Int} {cs : List Value} (h : (trO B).rel V x cs) : (trO B).rel w' x cs := by
  obtain ⟨u, e, ho⟩ := h
  refine ⟨u, e, ho.kept hg ?_ (fun _ _ e => e)⟩
  cases hob : u.ownBlock with
  | none => exact .inl rfl
  | some b =>
    refine .inr fun e => ?_
    obtain ⟨C, ⟨_, h2⟩, _⟩ := how
    rcases h2 with ⟨rfl, _⟩ | ⟨g, cap, cur, rfl, _, hh, _⟩
    · simp [Value.ownBlock] at e
    · have := ho.ne_block hh (by decide)
      rw [hob] at this
      exact this e.symm
/-- an older block may change -/
theorem trO_old {B g : Nat} {w w' : World} {v : Value} {ys : List (Int × Int × Int)} (h : Own (trO B) w B 25 v ys) (hg : w.grownBy w' (some g)) (hB : g < B) : Own (trO B) w' B 25 v ys :=
  h.kept hg (.inr fun e => h.ne (.inl hB) e.symm) fun x cs ⟨u, e, ho⟩ => ⟨u, e, ho.kept hg (.inr fun e => ho.ne (.inl hB) e.symm) (fun _ _ e => e)⟩
/-- the cells of a triple -/
theorem tr_cells {w : World} {b off n cap : Nat} {ps : List (Int × Int × Int)} (h : Rd trE w (.slice (some ⟨b, off, none⟩) n cap) ps) {i : Nat} (hi : i < ps.length) :
    b < w.heap.size ∧ ∃ qb qo rc, w.cell? ⟨b, off + i, none⟩ = some (.slice (some ⟨qb, qo, none⟩) 3 rc) ∧ ∀ V, Below w.heap.size w V → V.cell? ⟨qb, qo, none⟩ = some (.int .i64 ps[i].1) ∧ V.cell? ⟨qb, qo + 1, none⟩ = some (.int .i64 ps[i].2.1) ∧ V.cell? ⟨qb, qo + 2, none⟩ = some (.int .i64 ps[i].2.2) ∧ qb < V.heap.size := by
  obtain ⟨a, c, e, _, _, hf⟩ := h
  simp only [Value.slice.injEq] at e
  obtain ⟨rfl, rfl, rfl⟩ := e
  rcases hf with rfl | ⟨b', off', e, hf⟩
  · exact absurd hi (Nat.not_lt_zero _)
  · simp only [Option.some.injEq, Addr.mk.injEq, and_true] at e
    obtain ⟨rfl, rfl⟩ := e
    obtain ⟨cs, ⟨v, rfl, hr⟩, hc⟩ := hf i hi
    obtain ⟨ra, rc, rfl, _⟩ := id hr
    obtain ⟨qb, qo, rfl⟩ := rd_addr hr (by simp)
    have e0 := hc 0 (by decide)
    simp only [show trE.sz = 1 from rfl, Nat.mul_one, Nat.add_zero] at e0
    obtain ⟨g0, g1⟩ := int_cells hr (i := 0) (by simp)
    obtain ⟨_, g2⟩ := int_cells hr (i := 1) (by simp)
    obtain ⟨_, g3⟩ := int_cells hr (i := 2) (by simp)
    exact ⟨World.block_lt_of_cell? w (a := ⟨b, off + i, none⟩) e0, qb, qo, rc, e0, fun V hV => ⟨(hV.cell (p := ⟨qb, qo, none⟩) g0).trans g1, (hV.cell (p := ⟨qb, qo + 1, none⟩) g0).trans g2, (hV.cell (p := ⟨qb, qo + 2, none⟩) g0).trans g3, Nat.lt_of_lt_of_le g0 hV.size⟩⟩

def TrOk (x : Int × Int × Int) : Prop := FrOk x.1 ∧ FrOk x.2.1 ∧ 0 ≤ x.2.2
def Mat (ps : List (Int × Int × Int)) (c k : Nat) (x : Int × Int × Int) : Prop := ∃ i, i < k ∧ x = ps.getD ((i + c) % ps.length) (0, 0, 0)
def Mbt (ps : List (Int × Int × Int)) (k : Nat) (x : Int × Int × Int) : Prop := ∃ i, i < k ∧ x = ps.getD (ps.length - 1 - i) (0, 0, 0)
theorem getD_mem {ps : List (Int × Int × Int)} {j : Nat} (h : j < ps.length) : ps.getD j (0, 0, 0) ∈ ps := by
  rw [List.getD_eq_getElem?_getD, List.getElem?_eq_getElem h]
  exact List.getElem_mem h
theorem Mat.all {ps : List (Int × Int × Int)} {c : Nat} (hc : c < ps.length) (x : Int × Int × Int) : Mat ps c ps.length x ↔ x ∈ ps := by
  constructor
  · rintro ⟨i, hi, rfl⟩
    exact getD_mem (Nat.mod_lt _ (by omega))
  · intro hx
    obtain ⟨j, hj, rfl⟩ := List.mem_iff_getElem.1 hx
    have e : ∀ y, y = ps[j] → ps.getD j (0, 0, 0) = y := fun y hy => by rw [List.getD_eq_getElem?_getD, List.getElem?_eq_getElem hj, hy]; rfl
    by_cases h : c ≤ j
    · refine ⟨j - c, by omega, ?_⟩
      rw [show (j - c + c) % ps.length = j by rw [Nat.mod_eq_of_lt (by omega)]; omega]
      exact (e _ rfl).symm
    · refine ⟨j + ps.length - c, by omega, ?_⟩
      rw [show (j + ps.length - c + c) % ps.length = j by rw [show j + ps.length - c + c = j + ps.length by omega, Nat.add_mod_right, Nat.mod_eq_of_lt hj]]
      exact (e _ rfl).symm
theorem Mat.all' {ps : List (Int × Int × Int)} {c : Nat} (hc : ps.length = 0 ∨ c < ps.length) (x : Int × Int × Int) : Mat ps c ps.length x ↔ x ∈ ps := by
  rcases hc with h | h
  · rw [List.length_eq_zero_iff] at h
    subst h
    exact ⟨fun ⟨i, hi, _⟩ => absurd hi (Nat.not_lt_zero _), fun h => by simp at h⟩
  · exact Mat.all h x
theorem Mbt.all {ps : List (Int × Int × Int)} (x : Int × Int × Int) : Mbt ps ps.length x ↔ x ∈ ps := by
  constructor
  · rintro ⟨i, hi, rfl⟩
    exact getD_mem (by omega)
  · intro hx
    obtain ⟨j, hj, rfl⟩ := List.mem_iff_getElem.1 hx
    refine ⟨ps.length - 1 - j, by omega, ?_⟩
    rw [show ps.length - 1 - (ps.length - 1 - j) = j by omega, List.getD_eq_getElem?_getD, List.getElem?_eq_getElem hj]
    rfl
theorem Mat.step {ps : List (Int × Int × Int)} {c k j : Nat} {y : Int × Int × Int} (hj : j = (k + c) % ps.length) (hy : y = ps.getD j (0, 0, 0)) (x : Int × Int × Int) : (x = y ∨ Mat ps c k x) ↔ Mat ps c (k + 1) x := by
  subst hj hy
  constructor
  · rintro (rfl | ⟨i, hi, rfl⟩)
    · exact ⟨k, by omega, rfl⟩
    · exact ⟨i, by omega, rfl⟩
  · rintro ⟨i, hi, rfl⟩
    rcases Nat.lt_succ_iff_lt_or_eq.1 hi with h | h
    · exact .inr ⟨i, h, rfl⟩
    · subst h; exact .inl rfl
theorem Mbt.step {ps : List (Int × Int × Int)} {k : Nat} {y : Int × Int × Int} (hy : y = ps.getD (ps.length - 1 - k) (0, 0, 0)) (x : Int × Int × Int) : (x = y ∨ Mbt ps k x) ↔ Mbt ps (k + 1) x := by
  subst hy
  constructor
  · rintro (rfl | ⟨i, hi, rfl⟩)
    · exact ⟨k, by omega, rfl⟩
    · exact ⟨i, by omega, rfl⟩
  · rintro ⟨i, hi, rfl⟩
    rcases Nat.lt_succ_iff_lt_or_eq.1 hi with h | h
    · exact .inr ⟨i, h, rfl⟩
    · subst h; exact .inl rfl

def InsF (M : Int × Int × Int → Prop) (n : Nat) : Value → World → Prop := fun v W => ∃ r zs, v = .tuple #[r, .int .i64 0] ∧ Rd setE W r zs ∧ Repr zs M n
theorem InsF.stb {M : Int × Int × Int → Prop} {n : Nat} : Stb Grw (InsF M n) := fun _ _ _ he ⟨r, zs, e, h, k⟩ => ⟨r, zs, e, h.below he, k⟩
def RdF (M : Int × Int × Int → Prop) (n : Nat) : Value → World → Prop := fun v W => ∃ zs, Rd setE W v zs ∧ Repr zs M n
theorem RdF.stb {M : Int × Int × Int → Prop} {n : Nat} : Stb Grw (RdF M n) := fun _ _ _ he ⟨zs, h, k⟩ => ⟨zs, h.below he, k⟩

/-- the state while triples are drawn -/
structure OrW (w : World) (B g : Nat) (v : Value) (ps : List (Int × Int × Int)) (W : World) : Prop where
  own : Own (trO B) W B 25 v ps
  dk : Deck w.heap.size W g
  bel : Below w.heap.size w W
  size : B ≤ W.heap.size
theorem OrW.next {w : World} {B g : Nat} {v : Value} {ps : List (Int × Int × Int)} {W W' : World} (h : OrW w B g v ps W) (hd : Deck w.heap.size W' g) (hg : W.grownBy W' (some g)) (hB : g < B) : OrW w B g v ps W' :=
  ⟨trO_old h.own hg hB, hd, h.bel.grown hg h.bel.size (fun k e => by injection e with e; have := h.dk.1; omega), Nat.le_trans h.size hg.size⟩

theorem same_t (u v : Value) (xs ys : List St) (w : World) (hu : Rd setE w u xs) (hv : Rd setE w v ys) (h : xs = ys) : Calls Try.prog 26 #[u, v] w fun e w' => e = .returned (.bool true) ∧ Below w.heap.size w w' :=
  (same_any u v xs ys w hu hv).mono fun e w' ⟨a, b⟩ => ⟨rbs_true h a, b⟩
theorem awk_repr : Repr [⟨2, 0, [16, 17]⟩] (fun x => x = (2, 0, 17) ∨ x = (2, 0, 16) ∨ x = (2, 0, 17) ∨ False) 3 := by
  refine ⟨setsOk_iff.2 ⟨fun x hx => ?_, by simp⟩, fun f t s => ?_, by simp, fun x hx => ?_⟩
  · simp only [List.mem_singleton] at hx
    subst hx
    exact ⟨⟨by decide, by decide⟩, ⟨by decide, by decide⟩, slotsOk_iff.2 ⟨by simp, by simp, by simp⟩⟩
  · unfold Mem3
    simp only [List.mem_singleton, exists_eq_left, List.mem_cons, List.not_mem_nil, or_false, Prod.mk.injEq]
    omega
  · simp only [List.mem_singleton] at hx
    subst hx
    simp
set_option maxRecDepth 100000 in
set_option maxHeartbeats 8000000 in
theorem awake_any (w : World) : Calls Try.prog 28 #[] w fun e w' => e = .returned (.bool true) ∧ Below w.heap.size w w' := by
  have k2 : FrOk 2 := ⟨by decide, by decide⟩
  have k0 : FrOk 0 := ⟨by decide, by decide⟩
  go_enter Try.func28, Try.ntmps28
  go_wp2_with (go_at_call 24; fail)
  refine (insert_repr _ [] _ (Rd.nil _ _) Repr.nil (by omega) 2 0 17 k2 k0 (by omega)).mono ?_
  rintro e w1 ⟨⟨r, zs, rfl, hr, hz⟩, hb⟩
  have HR := Lib.hid hr
  have HZ := Lib.hid hz
  have HB := Lib.hid hb
  obtain ⟨_, _, e1, _⟩ := hr
  subst e1
  clear hz hb
  go_wp2_with (go_at_call 24; fail)
  refine (insert_repr _ _ _ HR.out HZ.out (by omega) 2 0 16 k2 k0 (by omega)).mono ?_
  rintro e w2 ⟨⟨r, zs2, rfl, hr, hz⟩, hb⟩
  have HR2 := Lib.hid hr
  have HZ2 := Lib.hid hz
  have HB2 := Lib.hid (HB.out.trans (hb.mono HB.out.size))
  obtain ⟨_, _, e1, _⟩ := hr
  subst e1
  clear hz hb
  go_wp2_with (go_at_call 24; fail)
  refine (insert_repr _ _ _ HR2.out HZ2.out (by omega) 2 0 17 k2 k0 (by omega)).mono ?_
  rintro e w3 ⟨⟨r, zs3, rfl, hr, hz⟩, hb⟩
  have HB3 := Lib.hid (HB2.out.trans (hb.mono HB2.out.size))
  have HZ3 := Lib.hid hz
  obtain rfl : zs3 = [⟨2, 0, [16, 17]⟩] := hz.uniq awk_repr
  have HR3 := Lib.hid hr
  obtain ⟨_, _, e1, _⟩ := id hr
  subst e1
  obtain ⟨b, off, rfl⟩ := rd_addr hr (by decide)
  obtain ⟨hq, ra, rc, x0, x1, x2, hrs⟩ := set_cells hr (i := 0) (by decide)
  simp only [List.getElem_cons_zero, Nat.zero_mul, Nat.add_zero, List.length_cons, List.length_nil] at x0 x1 x2 hrs
  obtain ⟨sb, so, rfl⟩ := rd_addr hrs (by decide)
  obtain ⟨hsb, y0⟩ := int_cells hrs (i := 0) (by decide)
  simp only [List.getElem_cons_zero, Nat.add_zero] at y0
  clear hr hz hb hrs
  simp only [List.length_cons, List.length_nil]
  go_wp2_with (go_at_call 25; fail)
  refine (has_repr _ _ _ HR3.out HZ3.out (by omega) 2 0 17 k2 k0).mono ?_
  rintro e w4 ⟨he, hb4⟩
  obtain rfl := rbs_true (.inl rfl) he
  go_wp2
  go_ret
  exact ⟨rfl, HB3.out.trans (hb4.mono HB3.out.size)⟩

set_option maxRecDepth 100000 in
set_option maxHeartbeats 8000000 in
theorem remsetOrder_walk (w : World) (u : Value) (l : List Int) (hu : Rd i64E w u l) (hl : ∀ x ∈ l, I64 x) (turn : Int) (_ : (Lit.int .i64 turn).wf = true) :
    Calls Try.prog 6 #[u, .int .i64 turn] w fun e w' => e = .returned (.bool true) ∧ Below w.heap.size w w' := by
  have HU := Lib.hid hu
  have HL := Lib.hid hl
  clear hl
  obtain ⟨a2, c2, rfl, hc1, hc2, hvc⟩ := hu
  clear hvc
  go_enter Try.func6, Try.ntmps6
  go_wp2_with fail
  refine (new_any _ l _ HU.out HL.out).mono ?_
  rintro e w1 ⟨g, rfl, hdk, hb1⟩
  have hs1 := hb1.size
  have hgl := hdk.lt
  have HW1 : Hid (OrW w w1.heap.size g (.slice none 0 0) [] w1) := Lib.hid ⟨Own.nil _ _ _ _, hdk, hb1, Nat.le_refl _⟩
  clear hdk hb1
  go_wp2_with (go_at_call 23; fail)
  refine (next_any _ _ 14 _ HW1.out.dk (by omega) (by omega)).mono ?_
  rintro e w2 ⟨r0, hr0, hr1, rfl, hd2, hg2⟩
  have HW2 := Lib.hid (HW1.out.next hd2 hg2 hgl)
  clear hd2 hg2
  obtain ⟨j0, rfl⟩ : ∃ j : Nat, r0 = j := ⟨r0.toNat, by omega⟩
  generalize w1.heap.size = B at *
  go_wp2_with fail
  go_loopw [6, 7] (fun p j wr => ∃ (m : Nat) (ps : List (Int × Int × Int)), j = .int .i64 m ∧ ps.length + m ≤ 13 ∧ OrW w B g p ps wr ∧ ∀ x ∈ ps, TrOk x) (fun _ j _ => (intOf j).toNat)
  case atStart => exact ⟨j0, [], rfl, by simp; omega, HW2.out, fun x h => by simp at h⟩
  case round =>
    obtain ⟨m, ps, rfl, hm, hor, htr⟩ := hrel
    have HOR := Lib.hid hor
    have HTR := Lib.hid htr
    clear hor htr
    by_cases hm0 : 0 < m
    · go_wp2_with (go_at_call 23; fail)
      refine (next_any _ _ 4 _ HOR.out.dk (by omega) (by omega)).mono ?_
      rintro e w3 ⟨f1, hf1, hf2, rfl, hd3, hg3⟩
      have HO3 := Lib.hid (HOR.out.next hd3 hg3 hgl)
      clear hd3 hg3
      go_wp2_with (go_at_call 23; fail)
      refine (next_any _ _ 4 _ HO3.out.dk (by omega) (by omega)).mono ?_
      rintro e w4 ⟨f2, hf3, hf4, rfl, hd4, hg4⟩
      have HO4 := Lib.hid (HO3.out.next hd4 hg4 hgl)
      clear hd4 hg4
      go_wp2_with (go_at_call 23; fail)
      refine (next_any _ _ 10 _ HO4.out.dk (by omega) (by omega)).mono ?_
      rintro e w5 ⟨f3, hf5, hf6, rfl, hd5, hg5⟩
      have HO5 := Lib.hid (HO4.out.next hd5 hg5 hgl)
      have hTQ : TrOk (f1, f2, f3) := ⟨⟨by omega, by show f1 < 64; omega⟩, ⟨by show 0 ≤ f2; omega, by show f2 < 64; omega⟩, hf5⟩
      have HTQ := Lib.hid hTQ
      clear hd5 hg5 hTQ
      have hs5 := HO5.out.size
      go_wp2_with (at_builtin; refine wpList_append_lit (trO B) trS rfl _ _ rfl B _ ps rfl (HO5.out.own.alloc _) (f1, f2, f3) _ _ rfl (by simp) ⟨_, rfl, (own_lit (by omega) (heap_alloc_new _ _) rfl rfl (by unfold maxLen; omega))⟩ (by simp [Value.oneCell']) (by omega) (by unfold maxLen; omega) (by simp; omega) (fun w' x cs hg h => trO_kept ((HO5.out.own.alloc _).alloc _) hg h) ?_; intro v' w6 ho6 hg6 hb6)
      have HO6 := Lib.hid ho6
      have hd6 : Deck w.heap.size w6 g := HO5.out.dk.keep (fun k hk => by rw [hb6.block k (by have := HO5.out.bel.size; have := HO5.out.dk.1; omega)]; exact Below.heap_alloc _ _ _ (by have := HO5.out.bel.size; omega)) (by rw [hb6.block g hgl]; exact Below.heap_alloc _ _ _ (by omega))
      have HOR6 : Hid (OrW w B g v' (ps ++ [(f1, f2, f3)]) w6) := Lib.hid ⟨ho6, hd6, (HO5.out.bel.alloc (by have := HO5.out.bel.size; omega) _).trans (hb6.mono (by have := HO5.out.dk.1; omega)), by have := hb6.size; simp at this; omega⟩
      obtain ⟨a6, l6, c6, rfl⟩ := own_sl ho6
      clear ho6 hg6 hb6 hd6
      go_wp2
      go_roundw
      case rel => exact ⟨m - 1, ps ++ [(f1, f2, f3)], by go_num, by simp; omega, HOR6.out, fun x hx => by
        rcases List.mem_append.1 hx with h | h
        · exact HTR.out x h
        · simp only [List.mem_singleton] at h
          rw [h]
          exact HTQ.out⟩
      case measure => simp [intOf]; omega
    · have hme : (m : Int) = 0 := by omega
      rw [hme]
      have HP := Lib.hid HOR.out.own.rd.tr
      have HBW := Lib.hid HOR.out.bel
      have hpl : ps.length ≤ 13 := by omega
      obtain ⟨pa, pl, pc, rfl⟩ := own_sl HOR.out.own
      have hpl2 : pl = ps.length := by
        obtain ⟨_, _, e, _⟩ := HP.out
        injection e
      subst hpl2
      clear HOR
      obtain ⟨c, hcl, hct⟩ : ∃ c : Nat, (ps.length = 0 ∨ c < ps.length) ∧ (0 < ps.length → turn % (ps.length : Int) = c) := by
        by_cases h0 : ps.length = 0
        · exact ⟨0, .inl h0, fun h => by omega⟩
        · have h1 := Int.emod_nonneg turn (show (ps.length : Int) ≠ 0 by omega)
          have h2 := Int.emod_lt_of_pos turn (show (0 : Int) < ps.length by omega)
          exact ⟨(turn % (ps.length : Int)).toNat, .inr (by omega), fun _ => by omega⟩
      go_wp2_with fail
      go_loopw [8, 9, 39] (fun a b i W => ∃ (k : Nat) (xs ys : List St), k ≤ ps.length ∧ i = .int .i64 k ∧ Rd setE W a xs ∧ Repr xs (Mat ps c k) k ∧ Rd setE W b ys ∧ Repr ys (Mbt ps k) k ∧ Below wr.heap.size wr W) (fun _ _ i _ => ps.length - (intOf i).toNat)
      case atStart => exact ⟨0, [], [], by omega, rfl, Rd.nil _ _, Repr.nil.iff (fun x => ⟨fun h => h.elim, fun ⟨i, h, _⟩ => absurd h (Nat.not_lt_zero _)⟩), Rd.nil _ _, Repr.nil.iff (fun x => ⟨fun h => h.elim, fun ⟨i, h, _⟩ => absurd h (Nat.not_lt_zero _)⟩), Below.refl _ _⟩
      case round =>
        obtain ⟨k, xs, ys, hk, rfl, hra, hrepa, hrb, hrepb, hbel⟩ := hrel
        have HRA := Lib.hid hra
        have HRB := Lib.hid hrb
        have HREPA := Lib.hid hrepa
        have HREPB := Lib.hid hrepb
        have HBQ := Lib.hid hbel
        clear hrepa hrepb hbel
        by_cases hlt : k < ps.length
        · obtain ⟨_, _, ra1, _⟩ := hra
          obtain ⟨_, _, rb1, _⟩ := hrb
          subst ra1 rb1
          have hcl' : c < ps.length := hcl.resolve_left (by omega)
          have hct' := hct (by omega)
          obtain ⟨b, off, rfl⟩ := rd_addr HP.out (by omega)
          obtain ⟨j, hj⟩ : ∃ j, j = (k + c) % ps.length := ⟨_, rfl⟩
          have hjl : j < ps.length := by rw [hj]; exact Nat.mod_lt _ (by omega)
          have hrem : ((k : Int) + (c : Int)).tmod (ps.length : Int) = (j : Int) := by
            rw [Int.tmod_eq_emod_of_nonneg (by omega), hj]
            first | (rw [Int.natCast_emod, Int.natCast_add]; done) | (rw [Int.natCast_mod, Int.natCast_add]; done) | (push_cast; rfl)
          have hw1 : IntKind.i64.wrap ((k : Int) + (c : Int)) = (k : Int) + (c : Int) := IntWalk.i64_in _ (by omega)
          obtain ⟨hq, qb, qo, rc, x0, hcv⟩ := tr_cells HP.out hjl
          have y0 := (HBQ.out.cell (p := ⟨b, off + j, none⟩) hq).trans x0
          have hj2 : ps.length - 1 - k < ps.length := by omega
          obtain ⟨_, rb, ro, rd, z0, hcr⟩ := tr_cells HP.out hj2
          have y1 := (HBQ.out.cell (p := ⟨b, off + (ps.length - 1 - k), none⟩) hq).trans z0
          have hidx : (ps.length : Int) - 1 - (k : Int) = ((ps.length - 1 - k : Nat) : Int) := by omega
          have hqw : b < wr.heap.size := Nat.lt_of_lt_of_le hq HBQ.out.size
          obtain ⟨q1, q2, q3, hqv⟩ : ∃ a b c, ps[j] = (a, b, c) := ⟨_, _, _, rfl⟩
          obtain ⟨r1, r2, r3, hrv⟩ : ∃ a b c, ps[ps.length - 1 - k] = (a, b, c) := ⟨_, _, _, rfl⟩
          rw [hqv] at hcv
          rw [hrv] at hcr
          have HQO : Hid (TrOk (q1, q2, q3)) := Lib.hid (hqv ▸ HTR.out _ (List.getElem_mem hjl))
          have HRO : Hid (TrOk (r1, r2, r3)) := Lib.hid (hrv ▸ HTR.out _ (List.getElem_mem hj2))
          have HCQ := Lib.hid hcv
          have HCR := Lib.hid hcr
          have HSA : Hid (∀ x, (x = (q1, q2, q3) ∨ Mat ps c k x) ↔ Mat ps c (k + 1) x) := Lib.hid (Mat.step hj (by rw [← hqv, List.getD_eq_getElem?_getD, List.getElem?_eq_getElem hjl]; rfl))
          have HSB : Hid (∀ x, (x = (r1, r2, r3) ∨ Mbt ps k x) ↔ Mbt ps (k + 1) x) := Lib.hid (Mbt.step (by rw [← hrv, List.getD_eq_getElem?_getD, List.getElem?_eq_getElem hj2]; rfl))
          clear x0 z0 hcv hcr hqv hrv hj
          go_upto_region 14 with (first | (go_at_call 14; refine (mod_any _ _ _ (by omega) (by omega)).mono ?_; rintro e w' ⟨rfl, rfl⟩; rw [hct']))
          apply wp_region_valsX (by kernel_rfl) Grw (Grw.drew _) [63, 64, 65, 66, 67, 68, 69, 70, 71, 72, 73, 62, 74, 75, 8, 10] [Is _, Is _, Is _, Is _, Is _, Is _, Is _, Is _, Is _, Is _, (InsF (fun x => x = (q1, q2, q3) ∨ Mat ps c k x) (k + 1)), (InsF (fun x => x = (q1, q2, q3) ∨ Mat ps c k x) (k + 1)), (RdF (fun x => x = (q1, q2, q3) ∨ Mat ps c k x) (k + 1)), Is (.int .i64 0), (RdF (fun x => x = (q1, q2, q3) ∨ Mat ps c k x) (k + 1)), Is _] (stb_cons (Stb.is) (stb_cons (Stb.is) (stb_cons (Stb.is) (stb_cons (Stb.is) (stb_cons (Stb.is) (stb_cons (Stb.is) (stb_cons (Stb.is) (stb_cons (Stb.is) (stb_cons (Stb.is) (stb_cons (Stb.is) (stb_cons (InsF.stb) (stb_cons (InsF.stb) (stb_cons (RdF.stb) (stb_cons (Stb.is) (stb_cons (RdF.stb) (stb_cons (Stb.is) stb_nil)))))))))))))))) (by kernel_rfl) (by kernel_rfl) (by kernel_rfl)
          · intro hlt
            refine XSteps.cons (XStep.mk Grw.trans Grw.refl rfl rfl (hlt 0 _ rfl) fun t V hout hE hdep K hK => ?_) ?_
            · skip
              have t8 : t[8]? = some _ := hout 8 (by kernel_rfl)
              clear hout hdep
              go_simp
              exact hK.out _ _ (Grw.refl _) rfl
            refine XSteps.cons (XStep.mk Grw.trans Grw.refl rfl rfl (hlt 1 _ rfl) fun t V hout hE hdep K hK => ?_) ?_
            · skip
              have t13 : t[13]? = some _ := hout 13 (by kernel_rfl)
              clear hout hdep
              go_simp
              exact hK.out _ _ (Grw.refl _) rfl
            refine XSteps.cons (XStep.mk Grw.trans Grw.refl rfl rfl (hlt 2 _ rfl) fun t V hout hE hdep K hK => ?_) ?_
            · skip
              have t64 := by_is (W := V) (hdep 1 64 (by kernel_rfl))
              clear hout hdep
              go_simp
              exact hK.out _ _ (Grw.refl _) rfl
            refine XSteps.cons (XStep.mk Grw.trans Grw.refl rfl rfl (hlt 3 _ rfl) fun t V hout hE hdep K hK => ?_) ?_
            · skip
              have t65 := by_is (W := V) (hdep 2 65 (by kernel_rfl))
              clear hout hdep
              have hV := HBQ.out.trans (hE.mono HBQ.out.size)
              obtain ⟨c0, c1, c2, c3⟩ := HCQ.out V hV
              go_simp
              exact hK.out _ _ (Grw.refl _) rfl
            refine XSteps.cons (XStep.mk Grw.trans Grw.refl rfl rfl (hlt 4 _ rfl) fun t V hout hE hdep K hK => ?_) ?_
            · skip
              have t13 : t[13]? = some _ := hout 13 (by kernel_rfl)
              clear hout hdep
              go_simp
              exact hK.out _ _ (Grw.refl _) rfl
            refine XSteps.cons (XStep.mk Grw.trans Grw.refl rfl rfl (hlt 5 _ rfl) fun t V hout hE hdep K hK => ?_) ?_
            · skip
              have t67 := by_is (W := V) (hdep 4 67 (by kernel_rfl))
              clear hout hdep
              go_simp
              exact hK.out _ _ (Grw.refl _) rfl
            refine XSteps.cons (XStep.mk Grw.trans Grw.refl rfl rfl (hlt 6 _ rfl) fun t V hout hE hdep K hK => ?_) ?_
            · skip
              have t68 := by_is (W := V) (hdep 5 68 (by kernel_rfl))
              clear hout hdep
              have hV := HBQ.out.trans (hE.mono HBQ.out.size)
              obtain ⟨c0, c1, c2, c3⟩ := HCQ.out V hV
              go_simp
              exact hK.out _ _ (Grw.refl _) rfl
            refine XSteps.cons (XStep.mk Grw.trans Grw.refl rfl rfl (hlt 7 _ rfl) fun t V hout hE hdep K hK => ?_) ?_
            · skip
              have t13 : t[13]? = some _ := hout 13 (by kernel_rfl)
              clear hout hdep
              go_simp
              exact hK.out _ _ (Grw.refl _) rfl
            refine XSteps.cons (XStep.mk Grw.trans Grw.refl rfl rfl (hlt 8 _ rfl) fun t V hout hE hdep K hK => ?_) ?_
            · skip
              have t70 := by_is (W := V) (hdep 7 70 (by kernel_rfl))
              clear hout hdep
              go_simp
              exact hK.out _ _ (Grw.refl _) rfl
            refine XSteps.cons (XStep.mk Grw.trans Grw.refl rfl rfl (hlt 9 _ rfl) fun t V hout hE hdep K hK => ?_) ?_
            · skip
              have t71 := by_is (W := V) (hdep 8 71 (by kernel_rfl))
              clear hout hdep
              have hV := HBQ.out.trans (hE.mono HBQ.out.size)
              obtain ⟨c0, c1, c2, c3⟩ := HCQ.out V hV
              go_simp
              exact hK.out _ _ (Grw.refl _) rfl
            refine XSteps.cons (XStep.mk Grw.trans Grw.refl rfl rfl (hlt 10 _ rfl) fun t V hout hE hdep K hK => ?_) ?_
            · skip
              have t63 := by_is (W := V) (hdep 0 63 (by kernel_rfl))
              have t66 := by_is (W := V) (hdep 3 66 (by kernel_rfl))
              have t69 := by_is (W := V) (hdep 6 69 (by kernel_rfl))
              have t72 := by_is (W := V) (hdep 9 72 (by kernel_rfl))
              clear hout hdep
              go_simp
              have hV := HBQ.out.trans (hE.mono HBQ.out.size)
              refine (insert_repr _ _ V (HRA.out.below hE) HREPA.out (by omega) _ _ _ HQO.out.1 HQO.out.2.1 HQO.out.2.2).mono ?_
              rintro e W5 ⟨⟨r, zs, rfl, hr, hz⟩, hb5⟩
              go_simp
              exact hK.out _ _ hb5 ⟨r, zs, rfl, hr, hz⟩
            refine XSteps.cons (XStep.mk Grw.trans Grw.refl rfl rfl (hlt 11 _ rfl) fun t V hout hE hdep K hK => ?_) ?_
            · skip
              obtain ⟨v73, t73, e73⟩ := hdep 10 73 (by kernel_rfl)
              clear hout hdep
              obtain ⟨r, zs, rfl, hr, hz⟩ := e73
              go_simp
              exact hK.out _ _ (Grw.refl _) ⟨r, zs, rfl, hr, hz⟩
            refine XSteps.cons (XStep.mk Grw.trans Grw.refl rfl rfl (hlt 12 _ rfl) fun t V hout hE hdep K hK => ?_) ?_
            · skip
              obtain ⟨v62, t62, e62⟩ := hdep 11 62 (by kernel_rfl)
              clear hout hdep
              obtain ⟨r, zs, rfl, hr, hz⟩ := e62
              go_simp
              exact hK.out _ _ (Grw.refl _) ⟨zs, hr, hz⟩
            refine XSteps.cons (XStep.mk Grw.trans Grw.refl rfl rfl (hlt 13 _ rfl) fun t V hout hE hdep K hK => ?_) ?_
            · skip
              obtain ⟨v62, t62, e62⟩ := hdep 11 62 (by kernel_rfl)
              clear hout hdep
              obtain ⟨r, zs, rfl, hr, hz⟩ := e62
              go_simp
              exact hK.out _ _ (Grw.refl _) rfl
            refine XSteps.cons (XStep.mk Grw.trans Grw.refl rfl rfl (hlt 14 _ rfl) fun t V hout hE hdep K hK => ?_) ?_
            · skip
              obtain ⟨v74, t74, e74⟩ := hdep 12 74 (by kernel_rfl)
              clear hout hdep
              go_simp
              exact hK.out _ _ (Grw.refl _) e74
            refine XSteps.cons (XStep.mk Grw.trans Grw.refl rfl rfl (hlt 15 _ rfl) fun t V hout hE hdep K hK => ?_) ?_
            · skip
              have t75 := by_is (W := V) (hdep 13 75 (by kernel_rfl))
              clear hout hdep
              go_simp
              exact hK.out _ _ (Grw.refl _) rfl
            exact XSteps.nil (by decide)
          · intro f W hE hF
            have f63 : f 63 = _ := hF 0 63 (by kernel_rfl)
            have f64 : f 64 = _ := hF 1 64 (by kernel_rfl)
            have f65 : f 65 = _ := hF 2 65 (by kernel_rfl)
            have f66 : f 66 = _ := hF 3 66 (by kernel_rfl)
            have f67 : f 67 = _ := hF 4 67 (by kernel_rfl)
            have f68 : f 68 = _ := hF 5 68 (by kernel_rfl)
            have f69 : f 69 = _ := hF 6 69 (by kernel_rfl)
            have f70 : f 70 = _ := hF 7 70 (by kernel_rfl)
            have f71 : f 71 = _ := hF 8 71 (by kernel_rfl)
            have f72 : f 72 = _ := hF 9 72 (by kernel_rfl)
            have f73 := hF 10 73 (by kernel_rfl)
            have f62 := hF 11 62 (by kernel_rfl)
            have f74 := hF 12 74 (by kernel_rfl)
            have f75 : f 75 = _ := hF 13 75 (by kernel_rfl)
            have f8 := hF 14 8 (by kernel_rfl)
            have f10 : f 10 = _ := hF 15 10 (by kernel_rfl)
            simp only [setAllV, List.map_cons, List.map_nil, List.set_cons_succ, List.set_cons_zero, f63, f64, f65, f66, f67, f68, f69, f70, f71, f72, f75, f10]
            clear hF f63 f64 f65 f66 f67 f68 f69 f70 f71 f72 f75 f10
            generalize f 73 = v73 at *
            generalize f 62 = v62 at *
            generalize f 74 = v74 at *
            generalize f 8 = v8 at *
            obtain ⟨zs, hz, hrz⟩ := f8
            obtain ⟨_, _, rz1, _⟩ := id hz
            subst rz1
            have HZ := Lib.hid hz
            have HRZ := Lib.hid (hrz.iff HSA.out)
            have HRB2 := Lib.hid (HRB.out.below hE)
            have HBR := Lib.hid (HBQ.out.trans (hE.mono HBQ.out.size))
            clear hz hrz hE HREPA HRA HRB f62 f73 f74
            go_upto_region 15 with (fail)
            apply wp_region_valsX (by kernel_rfl) Grw (Grw.drew _) [77, 78, 79, 80, 81, 82, 83, 84, 85, 86, 87, 76, 88, 89, 9, 11] [Is _, Is _, Is _, Is _, Is _, Is _, Is _, Is _, Is _, Is _, (InsF (fun x => x = (r1, r2, r3) ∨ Mbt ps k x) (k + 1)), (InsF (fun x => x = (r1, r2, r3) ∨ Mbt ps k x) (k + 1)), (RdF (fun x => x = (r1, r2, r3) ∨ Mbt ps k x) (k + 1)), Is (.int .i64 0), (RdF (fun x => x = (r1, r2, r3) ∨ Mbt ps k x) (k + 1)), Is _] (stb_cons (Stb.is) (stb_cons (Stb.is) (stb_cons (Stb.is) (stb_cons (Stb.is) (stb_cons (Stb.is) (stb_cons (Stb.is) (stb_cons (Stb.is) (stb_cons (Stb.is) (stb_cons (Stb.is) (stb_cons (Stb.is) (stb_cons (InsF.stb) (stb_cons (InsF.stb) (stb_cons (RdF.stb) (stb_cons (Stb.is) (stb_cons (RdF.stb) (stb_cons (Stb.is) stb_nil)))))))))))))))) (by kernel_rfl) (by kernel_rfl) (by kernel_rfl)
            · intro hlt
              refine XSteps.cons (XStep.mk Grw.trans Grw.refl rfl rfl (hlt 0 _ rfl) fun t V hout hE hdep K hK => ?_) ?_
              · skip
                have t9 : t[9]? = some _ := hout 9 (by kernel_rfl)
                clear hout hdep
                go_simp
                exact hK.out _ _ (Grw.refl _) rfl
              refine XSteps.cons (XStep.mk Grw.trans Grw.refl rfl rfl (hlt 1 _ rfl) fun t V hout hE hdep K hK => ?_) ?_
              · skip
                have t14 : t[14]? = some _ := hout 14 (by kernel_rfl)
                clear hout hdep
                go_simp
                exact hK.out _ _ (Grw.refl _) rfl
              refine XSteps.cons (XStep.mk Grw.trans Grw.refl rfl rfl (hlt 2 _ rfl) fun t V hout hE hdep K hK => ?_) ?_
              · skip
                have t78 := by_is (W := V) (hdep 1 78 (by kernel_rfl))
                clear hout hdep
                go_simp
                exact hK.out _ _ (Grw.refl _) rfl
              refine XSteps.cons (XStep.mk Grw.trans Grw.refl rfl rfl (hlt 3 _ rfl) fun t V hout hE hdep K hK => ?_) ?_
              · skip
                have t79 := by_is (W := V) (hdep 2 79 (by kernel_rfl))
                clear hout hdep
                have hV := HBR.out.trans (hE.mono HBR.out.size)
                obtain ⟨c0, c1, c2, c3⟩ := HCR.out V hV
                go_simp
                exact hK.out _ _ (Grw.refl _) rfl
              refine XSteps.cons (XStep.mk Grw.trans Grw.refl rfl rfl (hlt 4 _ rfl) fun t V hout hE hdep K hK => ?_) ?_
              · skip
                have t14 : t[14]? = some _ := hout 14 (by kernel_rfl)
                clear hout hdep
                go_simp
                exact hK.out _ _ (Grw.refl _) rfl
              refine XSteps.cons (XStep.mk Grw.trans Grw.refl rfl rfl (hlt 5 _ rfl) fun t V hout hE hdep K hK => ?_) ?_
              · skip
                have t81 := by_is (W := V) (hdep 4 81 (by kernel_rfl))
                clear hout hdep
                go_simp
                exact hK.out _ _ (Grw.refl _) rfl
              refine XSteps.cons (XStep.mk Grw.trans Grw.refl rfl rfl (hlt 6 _ rfl) fun t V hout hE hdep K hK => ?_) ?_
              · skip
                have t82 := by_is (W := V) (hdep 5 82 (by kernel_rfl))
                clear hout hdep
                have hV := HBR.out.trans (hE.mono HBR.out.size)
                obtain ⟨c0, c1, c2, c3⟩ := HCR.out V hV
                go_simp
                exact hK.out _ _ (Grw.refl _) rfl
              refine XSteps.cons (XStep.mk Grw.trans Grw.refl rfl rfl (hlt 7 _ rfl) fun t V hout hE hdep K hK => ?_) ?_
              · skip
                have t14 : t[14]? = some _ := hout 14 (by kernel_rfl)
                clear hout hdep
                go_simp
                exact hK.out _ _ (Grw.refl _) rfl
              refine XSteps.cons (XStep.mk Grw.trans Grw.refl rfl rfl (hlt 8 _ rfl) fun t V hout hE hdep K hK => ?_) ?_
              · skip
                have t84 := by_is (W := V) (hdep 7 84 (by kernel_rfl))
                clear hout hdep
                go_simp
                exact hK.out _ _ (Grw.refl _) rfl
              refine XSteps.cons (XStep.mk Grw.trans Grw.refl rfl rfl (hlt 9 _ rfl) fun t V hout hE hdep K hK => ?_) ?_
              · skip
                have t85 := by_is (W := V) (hdep 8 85 (by kernel_rfl))
                clear hout hdep
                have hV := HBR.out.trans (hE.mono HBR.out.size)
                obtain ⟨c0, c1, c2, c3⟩ := HCR.out V hV
                go_simp
                exact hK.out _ _ (Grw.refl _) rfl
              refine XSteps.cons (XStep.mk Grw.trans Grw.refl rfl rfl (hlt 10 _ rfl) fun t V hout hE hdep K hK => ?_) ?_
              · skip
                have t77 := by_is (W := V) (hdep 0 77 (by kernel_rfl))
                have t80 := by_is (W := V) (hdep 3 80 (by kernel_rfl))
                have t83 := by_is (W := V) (hdep 6 83 (by kernel_rfl))
                have t86 := by_is (W := V) (hdep 9 86 (by kernel_rfl))
                clear hout hdep
                go_simp
                have hV := HBR.out.trans (hE.mono HBR.out.size)
                refine (insert_repr _ _ V (HRB2.out.below hE) HREPB.out (by omega) _ _ _ HRO.out.1 HRO.out.2.1 HRO.out.2.2).mono ?_
                rintro e W5 ⟨⟨r, zs, rfl, hr, hz⟩, hb5⟩
                go_simp
                exact hK.out _ _ hb5 ⟨r, zs, rfl, hr, hz⟩
              refine XSteps.cons (XStep.mk Grw.trans Grw.refl rfl rfl (hlt 11 _ rfl) fun t V hout hE hdep K hK => ?_) ?_
              · skip
                obtain ⟨v87, t87, e87⟩ := hdep 10 87 (by kernel_rfl)
                clear hout hdep
                obtain ⟨r, zs, rfl, hr, hz⟩ := e87
                go_simp
                exact hK.out _ _ (Grw.refl _) ⟨r, zs, rfl, hr, hz⟩
              refine XSteps.cons (XStep.mk Grw.trans Grw.refl rfl rfl (hlt 12 _ rfl) fun t V hout hE hdep K hK => ?_) ?_
              · skip
                obtain ⟨v76, t76, e76⟩ := hdep 11 76 (by kernel_rfl)
                clear hout hdep
                obtain ⟨r, zs, rfl, hr, hz⟩ := e76
                go_simp
                exact hK.out _ _ (Grw.refl _) ⟨zs, hr, hz⟩
              refine XSteps.cons (XStep.mk Grw.trans Grw.refl rfl rfl (hlt 13 _ rfl) fun t V hout hE hdep K hK => ?_) ?_
              · skip
                obtain ⟨v76, t76, e76⟩ := hdep 11 76 (by kernel_rfl)
                clear hout hdep
                obtain ⟨r, zs, rfl, hr, hz⟩ := e76
                go_simp
                exact hK.out _ _ (Grw.refl _) rfl
              refine XSteps.cons (XStep.mk Grw.trans Grw.refl rfl rfl (hlt 14 _ rfl) fun t V hout hE hdep K hK => ?_) ?_
              · skip
                obtain ⟨v88, t88, e88⟩ := hdep 12 88 (by kernel_rfl)
                clear hout hdep
                go_simp
                exact hK.out _ _ (Grw.refl _) e88
              refine XSteps.cons (XStep.mk Grw.trans Grw.refl rfl rfl (hlt 15 _ rfl) fun t V hout hE hdep K hK => ?_) ?_
              · skip
                have t89 := by_is (W := V) (hdep 13 89 (by kernel_rfl))
                clear hout hdep
                go_simp
                exact hK.out _ _ (Grw.refl _) rfl
              exact XSteps.nil (by decide)
            · intro f W hE hF
              have f77 : f 77 = _ := hF 0 77 (by kernel_rfl)
              have f78 : f 78 = _ := hF 1 78 (by kernel_rfl)
              have f79 : f 79 = _ := hF 2 79 (by kernel_rfl)
              have f80 : f 80 = _ := hF 3 80 (by kernel_rfl)
              have f81 : f 81 = _ := hF 4 81 (by kernel_rfl)
              have f82 : f 82 = _ := hF 5 82 (by kernel_rfl)
              have f83 : f 83 = _ := hF 6 83 (by kernel_rfl)
              have f84 : f 84 = _ := hF 7 84 (by kernel_rfl)
              have f85 : f 85 = _ := hF 8 85 (by kernel_rfl)
              have f86 : f 86 = _ := hF 9 86 (by kernel_rfl)
              have f87 := hF 10 87 (by kernel_rfl)
              have f76 := hF 11 76 (by kernel_rfl)
              have f88 := hF 12 88 (by kernel_rfl)
              have f89 : f 89 = _ := hF 13 89 (by kernel_rfl)
              have f9 := hF 14 9 (by kernel_rfl)
              have f11 : f 11 = _ := hF 15 11 (by kernel_rfl)
              simp only [setAllV, List.map_cons, List.map_nil, List.set_cons_succ, List.set_cons_zero, f77, f78, f79, f80, f81, f82, f83, f84, f85, f86, f89, f11]
              clear hF f77 f78 f79 f80 f81 f82 f83 f84 f85 f86 f89 f11
              generalize f 87 = v87 at *
              generalize f 76 = v76 at *
              generalize f 88 = v88 at *
              generalize f 9 = v9 at *
              obtain ⟨zs2, hz2, hrz2⟩ := f9
              obtain ⟨_, _, rz2, _⟩ := id hz2
              subst rz2
              have HZ2 := Lib.hid hz2
              have HRZ2 := Lib.hid (hrz2.iff HSB.out)
              have HZ1 := Lib.hid (HZ.out.below hE)
              have HBE := Lib.hid (HBR.out.trans (hE.mono HBR.out.size))
              clear hz2 hrz2 hE f76 f87 f88
              go_wp2
              go_roundw
              case rel => exact ⟨k + 1, zs, zs2, by omega, by go_num, HZ1.out, HRZ.out, HZ2.out, HRZ2.out, HBE.out⟩
              case measure => simp [intOf]; omega
        · have hke : k = ps.length := by omega
          subst hke
          obtain ⟨_, _, ra1, _⟩ := id hra
          obtain ⟨_, _, rb1, _⟩ := id hrb
          subst ra1 rb1
          have HAP : Hid (Repr xs (fun x => x ∈ ps) ps.length) := Lib.hid (HREPA.out.iff (Mat.all' hcl))
          have HBP : Hid (Repr ys (fun x => x ∈ ps) ps.length) := Lib.hid (HREPB.out.iff Mbt.all)
          have HXY := Lib.hid (HAP.out.uniq HBP.out)
          have HP2 := Lib.hid (HP.out.below HBQ.out)
          have HBW2 := Lib.hid (HBW.out.trans (HBQ.out.mono HBW.out.size))
          clear hra hrb HREPA HREPB HBQ HP HBW
          go_wp2_with fail
          go_loopw [99] (fun i W => ∃ k : Nat, k ≤ ps.length ∧ i = .int .i64 k ∧ Below wr.heap.size wr W) (fun i _ => ps.length - (intOf i).toNat)
          case atStart => exact ⟨0, by omega, rfl, Below.refl _ _⟩
          case round =>
            obtain ⟨k, hk, rfl, hbel⟩ := hrel
            have HBQ := Lib.hid hbel
            have HRA2 := Lib.hid (HRA.out.below hbel)
            have HRB2 := Lib.hid (HRB.out.below hbel)
            clear hbel
            by_cases hlt : k < ps.length
            · obtain ⟨b, off, rfl⟩ := rd_addr HP2.out (by omega)
              obtain ⟨hq, qb, qo, rc, x0, hcv⟩ := tr_cells HP2.out hlt
              have y0 := (HBQ.out.cell (p := ⟨b, off + k, none⟩) hq).trans x0
              have hqw : b < wr.heap.size := Nat.lt_of_lt_of_le hq HBQ.out.size
              obtain ⟨q1, q2, q3, hqv⟩ : ∃ a b c, ps[k] = (a, b, c) := ⟨_, _, _, rfl⟩
              rw [hqv] at hcv
              have HQO : Hid (TrOk (q1, q2, q3)) := Lib.hid (hqv ▸ HTR.out _ (List.getElem_mem hlt))
              have HQM : Hid ((q1, q2, q3) ∈ ps) := Lib.hid (hqv ▸ List.getElem_mem hlt)
              have HCQ := Lib.hid hcv
              clear x0 hcv hqv
              go_upto_region 22 with (fail)
              apply wp_region_vals (by kernel_rfl) Grw (Grw.drew _) [103, 104, 105, 106, 107, 108, 109, 110, 111, 112, 113, 114] [Is _, Is _, Is _, Is _, Is _, Is _, Is _, Is _, Is _, Is _, Is (.bool true), Is _] (stb_cons (Stb.is) (stb_cons (Stb.is) (stb_cons (Stb.is) (stb_cons (Stb.is) (stb_cons (Stb.is) (stb_cons (Stb.is) (stb_cons (Stb.is) (stb_cons (Stb.is) (stb_cons (Stb.is) (stb_cons (Stb.is) (stb_cons (Stb.is) (stb_cons (Stb.is) stb_nil)))))))))))) (by kernel_rfl) (by kernel_rfl) (by kernel_rfl)
              · refine VSteps.cons (VStep.mk Grw.trans rfl rfl fun t V hout hE hdep K hK => ?_) ?_
                · skip
                  have t8 : t[8]? = some _ := hout 8 (by kernel_rfl)
                  clear hout hdep
                  go_simp
                  exact hK.out _ _ (Grw.refl _) rfl
                refine VSteps.cons (VStep.mk Grw.trans rfl rfl fun t V hout hE hdep K hK => ?_) ?_
                · skip
                  have t16 : t[16]? = some _ := hout 16 (by kernel_rfl)
                  clear hout hdep
                  go_simp
                  exact hK.out _ _ (Grw.refl _) rfl
                refine VSteps.cons (VStep.mk Grw.trans rfl rfl fun t V hout hE hdep K hK => ?_) ?_
                · skip
                  have t104 := by_is (W := V) (hdep 1 104 (by kernel_rfl))
                  clear hout hdep
                  go_simp
                  exact hK.out _ _ (Grw.refl _) rfl
                refine VSteps.cons (VStep.mk Grw.trans rfl rfl fun t V hout hE hdep K hK => ?_) ?_
                · skip
                  have t105 := by_is (W := V) (hdep 2 105 (by kernel_rfl))
                  clear hout hdep
                  have hV := HBQ.out.trans (hE.mono HBQ.out.size)
                  obtain ⟨c0, c1, c2, c3⟩ := HCQ.out V hV
                  go_simp
                  exact hK.out _ _ (Grw.refl _) rfl
                refine VSteps.cons (VStep.mk Grw.trans rfl rfl fun t V hout hE hdep K hK => ?_) ?_
                · skip
                  have t16 : t[16]? = some _ := hout 16 (by kernel_rfl)
                  clear hout hdep
                  go_simp
                  exact hK.out _ _ (Grw.refl _) rfl
                refine VSteps.cons (VStep.mk Grw.trans rfl rfl fun t V hout hE hdep K hK => ?_) ?_
                · skip
                  have t107 := by_is (W := V) (hdep 4 107 (by kernel_rfl))
                  clear hout hdep
                  go_simp
                  exact hK.out _ _ (Grw.refl _) rfl
                refine VSteps.cons (VStep.mk Grw.trans rfl rfl fun t V hout hE hdep K hK => ?_) ?_
                · skip
                  have t108 := by_is (W := V) (hdep 5 108 (by kernel_rfl))
                  clear hout hdep
                  have hV := HBQ.out.trans (hE.mono HBQ.out.size)
                  obtain ⟨c0, c1, c2, c3⟩ := HCQ.out V hV
                  go_simp
                  exact hK.out _ _ (Grw.refl _) rfl
                refine VSteps.cons (VStep.mk Grw.trans rfl rfl fun t V hout hE hdep K hK => ?_) ?_
                · skip
                  have t16 : t[16]? = some _ := hout 16 (by kernel_rfl)
                  clear hout hdep
                  go_simp
                  exact hK.out _ _ (Grw.refl _) rfl
                refine VSteps.cons (VStep.mk Grw.trans rfl rfl fun t V hout hE hdep K hK => ?_) ?_
                · skip
                  have t110 := by_is (W := V) (hdep 7 110 (by kernel_rfl))
                  clear hout hdep
                  go_simp
                  exact hK.out _ _ (Grw.refl _) rfl
                refine VSteps.cons (VStep.mk Grw.trans rfl rfl fun t V hout hE hdep K hK => ?_) ?_
                · skip
                  have t111 := by_is (W := V) (hdep 8 111 (by kernel_rfl))
                  clear hout hdep
                  have hV := HBQ.out.trans (hE.mono HBQ.out.size)
                  obtain ⟨c0, c1, c2, c3⟩ := HCQ.out V hV
                  go_simp
                  exact hK.out _ _ (Grw.refl _) rfl
                refine VSteps.cons (VStep.mk Grw.trans rfl rfl fun t V hout hE hdep K hK => ?_) ?_
                · skip
                  have t103 := by_is (W := V) (hdep 0 103 (by kernel_rfl))
                  have t106 := by_is (W := V) (hdep 3 106 (by kernel_rfl))
                  have t109 := by_is (W := V) (hdep 6 109 (by kernel_rfl))
                  have t112 := by_is (W := V) (hdep 9 112 (by kernel_rfl))
                  clear hout hdep
                  go_simp
                  have hV := HBQ.out.trans (hE.mono HBQ.out.size)
                  refine (has_repr _ _ V (HRA2.out.below hE) HAP.out (by omega) _ _ _ HQO.out.1 HQO.out.2.1).mono ?_
                  rintro e W5 ⟨⟨x, rfl, hx⟩, hb5⟩
                  obtain rfl : x = true := hx.2 HQM.out
                  go_simp
                  exact hK.out _ _ hb5 rfl
                refine VSteps.cons (VStep.mk Grw.trans rfl rfl fun t V hout hE hdep K hK => ?_) ?_
                · skip
                  have t113 := by_is (W := V) (hdep 10 113 (by kernel_rfl))
                  clear hout hdep
                  go_simp
                  exact hK.out _ _ (Grw.refl _) rfl
                exact VSteps.nil (by decide)
              · intro f W hE hF
                have f103 : f 103 = _ := hF 0 103 (by kernel_rfl)
                have f104 : f 104 = _ := hF 1 104 (by kernel_rfl)
                have f105 : f 105 = _ := hF 2 105 (by kernel_rfl)
                have f106 : f 106 = _ := hF 3 106 (by kernel_rfl)
                have f107 : f 107 = _ := hF 4 107 (by kernel_rfl)
                have f108 : f 108 = _ := hF 5 108 (by kernel_rfl)
                have f109 : f 109 = _ := hF 6 109 (by kernel_rfl)
                have f110 : f 110 = _ := hF 7 110 (by kernel_rfl)
                have f111 : f 111 = _ := hF 8 111 (by kernel_rfl)
                have f112 : f 112 = _ := hF 9 112 (by kernel_rfl)
                have f113 : f 113 = _ := hF 10 113 (by kernel_rfl)
                have f114 : f 114 = _ := hF 11 114 (by kernel_rfl)
                simp only [setAllV, List.map_cons, List.map_nil, List.set_cons_succ, List.set_cons_zero, f103, f104, f105, f106, f107, f108, f109, f110, f111, f112, f113, f114]
                clear hF f103 f104 f105 f106 f107 f108 f109 f110 f111 f112 f113 f114
                have HRA3 := Lib.hid (HRA2.out.below hE)
                have HBQ2 := Lib.hid (HBQ.out.trans (hE.mono HBQ.out.size))
                clear hE HRA2 HRB2
                go_upto_region 24 with (fail)
                apply wp_region_valsX (by kernel_rfl) Grw (Grw.drew _) [116, 117, 118, 119, 120, 121, 122, 123, 124, 125, 126, 115, 127, 128, 17, 18] [Is _, Is _, Is _, Is _, Is _, Is _, Is _, Is _, Is _, Is _, (InsF (fun x => x = (q1, q2, q3) ∨ x ∈ ps) (ps.length + 1)), (InsF (fun x => x = (q1, q2, q3) ∨ x ∈ ps) (ps.length + 1)), (RdF (fun x => x = (q1, q2, q3) ∨ x ∈ ps) (ps.length + 1)), Is (.int .i64 0), (RdF (fun x => x = (q1, q2, q3) ∨ x ∈ ps) (ps.length + 1)), Is _] (stb_cons (Stb.is) (stb_cons (Stb.is) (stb_cons (Stb.is) (stb_cons (Stb.is) (stb_cons (Stb.is) (stb_cons (Stb.is) (stb_cons (Stb.is) (stb_cons (Stb.is) (stb_cons (Stb.is) (stb_cons (Stb.is) (stb_cons (InsF.stb) (stb_cons (InsF.stb) (stb_cons (RdF.stb) (stb_cons (Stb.is) (stb_cons (RdF.stb) (stb_cons (Stb.is) stb_nil)))))))))))))))) (by kernel_rfl) (by kernel_rfl) (by kernel_rfl)
                · intro hlt
                  refine XSteps.cons (XStep.mk Grw.trans Grw.refl rfl rfl (hlt 0 _ rfl) fun t V hout hE hdep K hK => ?_) ?_
                  · skip
                    have t8 : t[8]? = some _ := hout 8 (by kernel_rfl)
                    clear hout hdep
                    go_simp
                    exact hK.out _ _ (Grw.refl _) rfl
                  refine XSteps.cons (XStep.mk Grw.trans Grw.refl rfl rfl (hlt 1 _ rfl) fun t V hout hE hdep K hK => ?_) ?_
                  · skip
                    have t16 : t[16]? = some _ := hout 16 (by kernel_rfl)
                    clear hout hdep
                    go_simp
                    exact hK.out _ _ (Grw.refl _) rfl
                  refine XSteps.cons (XStep.mk Grw.trans Grw.refl rfl rfl (hlt 2 _ rfl) fun t V hout hE hdep K hK => ?_) ?_
                  · skip
                    have t117 := by_is (W := V) (hdep 1 117 (by kernel_rfl))
                    clear hout hdep
                    go_simp
                    exact hK.out _ _ (Grw.refl _) rfl
                  refine XSteps.cons (XStep.mk Grw.trans Grw.refl rfl rfl (hlt 3 _ rfl) fun t V hout hE hdep K hK => ?_) ?_
                  · skip
                    have t118 := by_is (W := V) (hdep 2 118 (by kernel_rfl))
                    clear hout hdep
                    have hV := HBQ2.out.trans (hE.mono HBQ2.out.size)
                    obtain ⟨c0, c1, c2, c3⟩ := HCQ.out V hV
                    go_simp
                    exact hK.out _ _ (Grw.refl _) rfl
                  refine XSteps.cons (XStep.mk Grw.trans Grw.refl rfl rfl (hlt 4 _ rfl) fun t V hout hE hdep K hK => ?_) ?_
                  · skip
                    have t16 : t[16]? = some _ := hout 16 (by kernel_rfl)
                    clear hout hdep
                    go_simp
                    exact hK.out _ _ (Grw.refl _) rfl
                  refine XSteps.cons (XStep.mk Grw.trans Grw.refl rfl rfl (hlt 5 _ rfl) fun t V hout hE hdep K hK => ?_) ?_
                  · skip
                    have t120 := by_is (W := V) (hdep 4 120 (by kernel_rfl))
                    clear hout hdep
                    go_simp
                    exact hK.out _ _ (Grw.refl _) rfl
                  refine XSteps.cons (XStep.mk Grw.trans Grw.refl rfl rfl (hlt 6 _ rfl) fun t V hout hE hdep K hK => ?_) ?_
                  · skip
                    have t121 := by_is (W := V) (hdep 5 121 (by kernel_rfl))
                    clear hout hdep
                    have hV := HBQ2.out.trans (hE.mono HBQ2.out.size)
                    obtain ⟨c0, c1, c2, c3⟩ := HCQ.out V hV
                    go_simp
                    exact hK.out _ _ (Grw.refl _) rfl
                  refine XSteps.cons (XStep.mk Grw.trans Grw.refl rfl rfl (hlt 7 _ rfl) fun t V hout hE hdep K hK => ?_) ?_
                  · skip
                    have t16 : t[16]? = some _ := hout 16 (by kernel_rfl)
                    clear hout hdep
                    go_simp
                    exact hK.out _ _ (Grw.refl _) rfl
                  refine XSteps.cons (XStep.mk Grw.trans Grw.refl rfl rfl (hlt 8 _ rfl) fun t V hout hE hdep K hK => ?_) ?_
                  · skip
                    have t123 := by_is (W := V) (hdep 7 123 (by kernel_rfl))
                    clear hout hdep
                    go_simp
                    exact hK.out _ _ (Grw.refl _) rfl
                  refine XSteps.cons (XStep.mk Grw.trans Grw.refl rfl rfl (hlt 9 _ rfl) fun t V hout hE hdep K hK => ?_) ?_
                  · skip
                    have t124 := by_is (W := V) (hdep 8 124 (by kernel_rfl))
                    clear hout hdep
                    have hV := HBQ2.out.trans (hE.mono HBQ2.out.size)
                    obtain ⟨c0, c1, c2, c3⟩ := HCQ.out V hV
                    go_simp
                    exact hK.out _ _ (Grw.refl _) rfl
                  refine XSteps.cons (XStep.mk Grw.trans Grw.refl rfl rfl (hlt 10 _ rfl) fun t V hout hE hdep K hK => ?_) ?_
                  · skip
                    have t116 := by_is (W := V) (hdep 0 116 (by kernel_rfl))
                    have t119 := by_is (W := V) (hdep 3 119 (by kernel_rfl))
                    have t122 := by_is (W := V) (hdep 6 122 (by kernel_rfl))
                    have t125 := by_is (W := V) (hdep 9 125 (by kernel_rfl))
                    clear hout hdep
                    go_simp
                    have hV := HBQ2.out.trans (hE.mono HBQ2.out.size)
                    refine (insert_repr _ _ V (HRA3.out.below hE) HAP.out (by omega) _ _ _ HQO.out.1 HQO.out.2.1 HQO.out.2.2).mono ?_
                    rintro e W5 ⟨⟨r, zs, rfl, hr, hz⟩, hb5⟩
                    go_simp
                    exact hK.out _ _ hb5 ⟨r, zs, rfl, hr, hz⟩
                  refine XSteps.cons (XStep.mk Grw.trans Grw.refl rfl rfl (hlt 11 _ rfl) fun t V hout hE hdep K hK => ?_) ?_
                  · skip
                    obtain ⟨v126, t126, e126⟩ := hdep 10 126 (by kernel_rfl)
                    clear hout hdep
                    obtain ⟨r, zs, rfl, hr, hz⟩ := e126
                    go_simp
                    exact hK.out _ _ (Grw.refl _) ⟨r, zs, rfl, hr, hz⟩
                  refine XSteps.cons (XStep.mk Grw.trans Grw.refl rfl rfl (hlt 12 _ rfl) fun t V hout hE hdep K hK => ?_) ?_
                  · skip
                    obtain ⟨v115, t115, e115⟩ := hdep 11 115 (by kernel_rfl)
                    clear hout hdep
                    obtain ⟨r, zs, rfl, hr, hz⟩ := e115
                    go_simp
                    exact hK.out _ _ (Grw.refl _) ⟨zs, hr, hz⟩
                  refine XSteps.cons (XStep.mk Grw.trans Grw.refl rfl rfl (hlt 13 _ rfl) fun t V hout hE hdep K hK => ?_) ?_
                  · skip
                    obtain ⟨v115, t115, e115⟩ := hdep 11 115 (by kernel_rfl)
                    clear hout hdep
                    obtain ⟨r, zs, rfl, hr, hz⟩ := e115
                    go_simp
                    exact hK.out _ _ (Grw.refl _) rfl
                  refine XSteps.cons (XStep.mk Grw.trans Grw.refl rfl rfl (hlt 14 _ rfl) fun t V hout hE hdep K hK => ?_) ?_
                  · skip
                    obtain ⟨v127, t127, e127⟩ := hdep 12 127 (by kernel_rfl)
                    clear hout hdep
                    go_simp
                    exact hK.out _ _ (Grw.refl _) e127
                  refine XSteps.cons (XStep.mk Grw.trans Grw.refl rfl rfl (hlt 15 _ rfl) fun t V hout hE hdep K hK => ?_) ?_
                  · skip
                    have t128 := by_is (W := V) (hdep 13 128 (by kernel_rfl))
                    clear hout hdep
                    go_simp
                    exact hK.out _ _ (Grw.refl _) rfl
                  exact XSteps.nil (by decide)
                · intro f W hE hF
                  have f116 : f 116 = _ := hF 0 116 (by kernel_rfl)
                  have f117 : f 117 = _ := hF 1 117 (by kernel_rfl)
                  have f118 : f 118 = _ := hF 2 118 (by kernel_rfl)
                  have f119 : f 119 = _ := hF 3 119 (by kernel_rfl)
                  have f120 : f 120 = _ := hF 4 120 (by kernel_rfl)
                  have f121 : f 121 = _ := hF 5 121 (by kernel_rfl)
                  have f122 : f 122 = _ := hF 6 122 (by kernel_rfl)
                  have f123 : f 123 = _ := hF 7 123 (by kernel_rfl)
                  have f124 : f 124 = _ := hF 8 124 (by kernel_rfl)
                  have f125 : f 125 = _ := hF 9 125 (by kernel_rfl)
                  have f126 := hF 10 126 (by kernel_rfl)
                  have f115 := hF 11 115 (by kernel_rfl)
                  have f127 := hF 12 127 (by kernel_rfl)
                  have f128 : f 128 = _ := hF 13 128 (by kernel_rfl)
                  have f17 := hF 14 17 (by kernel_rfl)
                  have f18 : f 18 = _ := hF 15 18 (by kernel_rfl)
                  simp only [setAllV, List.map_cons, List.map_nil, List.set_cons_succ, List.set_cons_zero, f116, f117, f118, f119, f120, f121, f122, f123, f124, f125, f128, f18]
                  clear hF f116 f117 f118 f119 f120 f121 f122 f123 f124 f125 f128 f18
                  generalize f 126 = v126 at *
                  generalize f 115 = v115 at *
                  generalize f 127 = v127 at *
                  generalize f 17 = v17 at *
                  obtain ⟨zs, hz, hrz⟩ := f17
                  obtain ⟨_, _, rz1, _⟩ := id hz
                  subst rz1
                  have HZ := Lib.hid hz
                  have HSM : Hid (xs = zs) := Lib.hid (HAP.out.uniq (hrz.iff fun x => ⟨fun h => h.elim (fun e => e ▸ HQM.out) id, .inr⟩))
                  have HRA4 := Lib.hid (HRA3.out.below hE)
                  have HBQ3 := Lib.hid (HBQ2.out.trans (hE.mono HBQ2.out.size))
                  clear hz hrz hE f115 f126 f127
                  go_wp2_with (go_at_call 26; fail)
                  refine (same_t _ _ _ _ _ HRA4.out HZ.out HSM.out).mono ?_
                  rintro e w7 ⟨rfl, hb7⟩
                  have HB7 := Lib.hid (HBQ3.out.trans (hb7.mono HBQ3.out.size))
                  clear hb7
                  go_wp2
                  go_roundw
                  case rel => exact ⟨k + 1, by omega, by go_num, HB7.out⟩
                  case measure => simp [intOf]; omega
            · go_wp2_with (go_at_call 26; fail)
              refine (same_t _ _ _ _ _ HRA2.out HRB2.out HXY.out).mono ?_
              rintro e w7 ⟨rfl, hb7⟩
              have HB7 := Lib.hid hb7
              clear hb7
              go_wp2_with (go_at_call 27; fail)
              refine (valid_t _ _ _ (HRA2.out.below HB7.out) HAP.out.ok).mono ?_
              rintro e w8 ⟨rfl, hb8⟩
              have HB8 := Lib.hid hb8
              clear hb8
              go_wp2_with (go_at_call 28; fail)
              refine (awake_any _).mono ?_
              rintro e w9 ⟨rfl, hb9⟩
              have h1 := HBW2.out.size
              have h2 := HBQ.out.size
              have h3 := HB7.out.size
              have h4 := HB8.out.size
              have HB9 := Lib.hid ((((HBW2.out.trans (HBQ.out.mono (by omega))).trans (HB7.out.mono (by omega))).trans (HB8.out.mono (by omega))).trans (hb9.mono (by omega)))
              clear hb9
              go_wp2
              go_ret
              exact ⟨rfl, HB9.out⟩
end Go.Proofs.Ytchdmemgkegefaa
