/- ref18.with: a number put into an ordered list. Condition: an ordered list, not too long. -/
import Derived.Test.YtchdmemgkegefaaRemP
import Derived.Deep.RegionLaw
namespace Go.Proofs.Ytchdmemgkegefaa
open Go.RowKit
set_option linter.unusedVariables false
set_option linter.unusedSimpArgs false

theorem Rd.take {α : Type} {E : El α} {w : World} {a : Option Addr} {m c n : Nat} {xs : List α} (h : Rd E w (.slice a m c) xs) (hn : n ≤ xs.length) : Rd E w (.slice a n c) (xs.take n) := by
  obtain ⟨a', c', e1, h2, h3, h4⟩ := h
  simp only [Value.slice.injEq] at e1
  obtain ⟨rfl, rfl, rfl⟩ := e1
  have hl : (xs.take n).length = n := by rw [List.length_take]; omega
  refine ⟨a, c, by rw [hl], by omega, h3, ?_⟩
  rcases h4 with h4 | ⟨b, off, h5, h6⟩
  · exact .inl (by rw [h4]; simp)
  · refine .inr ⟨b, off, h5, fun i hi => ?_⟩
    obtain ⟨cs, r, q⟩ := h6 i (by omega)
    exact ⟨cs, by rw [List.getElem_take]; exact r, q⟩
theorem Rd.dropA {α : Type} {E : El α} {w : World} {b off m c n : Nat} {A : Option Addr} {xs : List α} (h : Rd E w (.slice (some ⟨b, off, none⟩) m c) xs) (hn : n ≤ m) (hA : n < m → A = some ⟨b, off + n * E.sz, none⟩) : Rd E w (.slice A (m - n) (c - n)) (xs.drop n) := by
  obtain ⟨a', c', e, h2, h3, h4⟩ := h
  simp only [Value.slice.injEq] at e
  obtain ⟨rfl, rfl, rfl⟩ := e
  refine ⟨A, c - n, by rw [List.length_drop], by rw [List.length_drop]; omega, by omega, ?_⟩
  by_cases hl : n < xs.length
  · rcases h4 with h4 | ⟨b', off', e2, h4⟩
    · rw [h4] at hl; simp at hl
    · simp only [Option.some.injEq, Addr.mk.injEq, and_true] at e2
      obtain ⟨rfl, rfl⟩ := e2
      refine .inr ⟨b, off + n * E.sz, hA hl, fun i hi => ?_⟩
      rw [List.length_drop] at hi
      obtain ⟨cs, hr, hc⟩ := h4 (n + i) (by omega)
      refine ⟨cs, by rw [List.getElem_drop]; exact hr, fun j hj => ?_⟩
      rw [← hc j hj, Nat.add_mul]
      congr 2
      omega
  · exact .inl (List.drop_eq_nil_of_le (by omega))
theorem Rd.dropA' {α : Type} {E : El α} {w : World} {b off m c n k c' : Nat} {A : Option Addr} {xs : List α} (h : Rd E w (.slice (some ⟨b, off, none⟩) m c) xs) (hn : n ≤ m) (hk : k = m - n) (hc : c' = c - n) (hA : n < m → A = some ⟨b, off + n * E.sz, none⟩) : Rd E w (.slice A k c') (xs.drop n) := by
  subst hk hc
  exact h.dropA hn hA

/-- one operation of a region, not guarded -/
theorem step_wp {P : Program} {ops : Array Oper} {o : Oper} {a : Act} {w : World} {K : Act → World → Prop} {Q : Exit → Act → World → Prop} {F : Prop} (hg : o.guard = none) (h : Oper.wp P o a w K Q) : if Region.wanted o (yielded ops a.tmps) = true then Oper.wp P o a w K Q else F := by
  rw [if_pos (by simp [Region.wanted, hg])]
  exact h
theorem rd_none {α : Type} {E : El α} {w : World} {A : Option Addr} {c : Nat} {xs : List α} (h : xs = []) (hc : c ≤ maxLen) : Rd E w (.slice A 0 c) xs := by
  subst h
  exact ⟨A, c, rfl, Nat.zero_le _, hc, .inl rfl⟩
theorem countP_eq {l : List Int} {s : Int} {k : Nat} (hs : l.Pairwise (· < ·)) (hk : k ≤ l.length) (h1 : ∀ j (h : j < l.length), j < k → l[j] < s) (h2 : ∀ h : k < l.length, ¬ l[k] < s) : k = l.countP (· < s) := by
  have hc : l.countP (· < s) ≤ l.length := List.countP_le_length
  rcases Nat.lt_trichotomy k (l.countP (· < s)) with h | h | h
  · exact absurd ((countP_lt hs k (by omega)).2 h) (h2 (by omega))
  · exact h
  · have := (countP_lt hs (l.countP (· < s)) (by omega)).1 (h1 _ (by omega) h)
    omega
theorem not_in {l : List Int} {s : Int} {k : Nat} (hs : l.Pairwise (· < ·)) (h1 : ∀ j (h : j < l.length), j < k → l[j] < s) (h2 : ∀ h : k < l.length, ¬ l[k] < s ∧ l[k] ≠ s) : s ∉ l := by
  intro h
  obtain ⟨j, hj, e⟩ := List.mem_iff_getElem.1 h
  rcases Nat.lt_or_ge j k with hlt | hge
  · have := h1 j hj hlt
    omega
  · have := h2 (by omega)
    rcases Nat.lt_or_eq_of_le hge with h3 | h3
    · have := List.pairwise_iff_getElem.1 hs k j (by omega) hj h3
      omega
    · subst h3
      exact this.2 e
def WiP (v : Value) (l : List Int) (s : Int) (w : World) (e : Ending) (w' : World) : Prop := ∃ r, e = .returned r ∧ ((r = v ∧ l.contains s = true) ∨ (l.contains s = false ∧ Own i64E w' w.heap.size 3 r (slotIns l s)))

set_option maxRecDepth 100000 in
set_option maxHeartbeats 8000000 in
theorem with_any (v : Value) (l : List Int) (w : World) (hv : Rd i64E w v l) (hb : l.length ≤ 1000000) (hs : l.Pairwise (· < ·)) (s : Int) :
    Calls Try.prog 64 #[v, .int .i64 s] w fun e w' => WiP v l s w e w' ∧ Below w.heap.size w w' := by
  obtain ⟨a, cap, rfl, hl, hm, _⟩ := id hv
  have HV := Lib.hid hv
  have HS := Lib.hid hs
  clear hv hs
  unfold maxLen at hm
  go_enter Try.func64, Try.ntmps64
  go_wp2_with fail
  go_loopw [5] (fun i wr => ∃ k : Nat, k ≤ l.length ∧ i = .int .i64 k ∧ Below w.heap.size w wr ∧ ∀ j (h : j < l.length), j < k → l[j] < s) (fun i _ => l.length - (intOf i).toNat)
  case atStart => exact ⟨0, by omega, rfl, Below.refl _ _, fun j _ h => absurd h (Nat.not_lt_zero _)⟩
  case round =>
    obtain ⟨at', hat, rfl, hbel, hlo⟩ := hrel
    have HLO := Lib.hid hlo
    have HBE := Lib.hid hbel
    clear hlo
    by_cases hlt : at' < l.length
    · obtain ⟨b, off, rfl⟩ := rd_addr HV.out (by omega)
      obtain ⟨hq, x0⟩ := int_cells HV.out hlt
      have y0 := (hbel.cell (p := ⟨b, off + at', none⟩) hq).trans x0
      have hqw : b < wr.heap.size := Nat.lt_of_lt_of_le hq hbel.size
      clear x0 hbel
      by_cases h1 : l[at'] < s
      · have HL := Lib.hid h1
        go_wp2
        go_roundw
        case rel => exact ⟨at' + 1, by omega, by go_num, HBE.out, fun j h hj => by
          rcases Nat.lt_succ_iff_lt_or_eq.1 hj with h3 | h3
          · exact HLO.out j h h3
          · subst h3; exact HL.out⟩
        case measure => simp [intOf]; omega
      · by_cases h2 : l[at'] = s
        · have k2 : (l[at'] == s) = true := by simpa using h2
          have HIN : Hid (s ∈ l) := Lib.hid (h2 ▸ List.getElem_mem hlt)
          clear h2
          go_wp2
          go_ret
          exact ⟨⟨_, rfl, .inl ⟨rfl, by simpa using HIN.out⟩⟩, HBE.out⟩
        · have k2 : (l[at'] == s) = false := by simpa using h2
          have HNC : Hid (s ∉ l) := Lib.hid (not_in HS.out HLO.out (fun h => ⟨h1, h2⟩))
          have HAT := Lib.hid (countP_eq HS.out hat HLO.out (fun h => h1))
          clear h2
          have hnc : ¬ (cap = at') := by omega
          have hcs : l.contains s = false := by simpa using HNC.out
          have HRES : Hid (slotIns l s = l.take at' ++ [s] ++ l.drop at') := Lib.hid (by
            unfold slotIns
            rw [if_neg (by rw [hcs]; simp), ← HAT.out, insIdx_eq _ _ _ hat]
            simp)
          have HCS := Lib.hid hcs
          have htl : (l.take at').length = at' := by rw [List.length_take]; omega
          clear hcs
          go_wp2_with (at_builtin; refine wpList_append_rd i64E i64S rfl _ _ rfl w.heap.size (.slice none 0 0) [] rfl (Own.nil _ _ _ _) _ (l.take at') rfl (Rd.take (HV.out.below HBE.out) hat) one_i64 (by simp; omega) (by unfold maxLen; simp; omega) HBE.out.size (fun _ _ _ _ h => h) ?_; intro v6 w6 ho6 hg6 hb6 hn6)
          have hs6 := hb6.size
          have hs7 := HBE.out.size
          have HB6 := Lib.hid (HBE.out.trans hb6)
          have HO6 := Lib.hid ho6
          obtain ⟨a6, l6, c6, rfl⟩ := own_sl ho6
          clear ho6 hg6 hb6 hn6
          go_region_law (first
            | (refine step_append_lit i64E i64S rfl _ _ rfl w.heap.size _ (l.take at') (by simp [Act.eval, Act.put]) ((HO6.out.alloc _).below (Below.refl _ _).drew) s _ _ (by simp [Act.eval, Act.put]) (heap_alloc_new _ _) rfl (by simp [Value.oneCell']) (by omega) (by unfold maxLen; omega) (by simp; omega) (fun _ _ _ _ h => h) ?_; intro v7 w7 ho7 hg7 hb7)
            | (refine step_wp rfl (wp_append_rd i64E i64S _ _ rfl w.heap.size _ (l.take at' ++ [s]) (by simp [Act.eval, Act.put]) ho7 _ (l.drop at') (by simp [Act.eval, Act.put]) (Rd.dropA' (A := some ⟨b, off + at', none⟩) (HV.out.below (((HB6.out.alloc (by omega) _).drew).trans hb7)) hat rfl rfl (fun _ => by rw [show at' * i64E.sz = at' from Nat.mul_one _])) one_i64 (by simp; omega) (by unfold maxLen; simp; omega) (by have := hb7.size; simp at this; omega) (fun _ _ _ _ h => h) ?_); intro v8 w8 ho8 hg8 hb8 hn8))
          all_goals
            have HO8 := Lib.hid ho8
            have HB8 := Lib.hid ((((HB6.out.alloc (by omega) _).drew).trans hb7).trans hb8)
            obtain ⟨a8, l8, c8, rfl⟩ := own_sl ho8
            clear ho8 hg8 hb8 hn8 ho7 hg7 hb7
            go_wp2
            all_goals go_ret
            all_goals exact ⟨⟨_, rfl, .inr ⟨HCS.out, by rw [HRES.out]; exact HO8.out⟩⟩, HB8.out⟩
    · have hke : at' = l.length := by omega
      have HNC : Hid (s ∉ l) := Lib.hid (not_in HS.out HLO.out (fun h => by omega))
      have HAT := Lib.hid (countP_eq HS.out hat HLO.out (fun h => by omega))
      subst hke
      clear hbel
      cases a with
      | none =>
        have hcs : l.contains s = false := by simpa using HNC.out
        have HRES : Hid (slotIns l s = l.take l.length ++ [s] ++ l.drop l.length) := Lib.hid (by
          unfold slotIns
          rw [if_neg (by rw [hcs]; simp), ← HAT.out, insIdx_eq _ _ _ hat]
          simp)
        have HCS := Lib.hid hcs
        have htl : (l.take l.length).length = l.length := by rw [List.length_take]; omega
        clear hcs
        go_wp2_with (at_builtin; refine wpList_append_rd i64E i64S rfl _ _ rfl w.heap.size (.slice none 0 0) [] rfl (Own.nil _ _ _ _) _ (l.take l.length) rfl (Rd.take (HV.out.below HBE.out) hat) one_i64 (by simp; omega) (by unfold maxLen; simp; omega) HBE.out.size (fun _ _ _ _ h => h) ?_; intro v6 w6 ho6 hg6 hb6 hn6)
        have hs6 := hb6.size
        have hs7 := HBE.out.size
        have HB6 := Lib.hid (HBE.out.trans hb6)
        have HO6 := Lib.hid ho6
        obtain ⟨a6, l6, c6, rfl⟩ := own_sl ho6
        clear ho6 hg6 hb6 hn6
        go_region_law (first
          | (refine step_append_lit i64E i64S rfl _ _ rfl w.heap.size _ (l.take l.length) (by simp [Act.eval, Act.put]) ((HO6.out.alloc _).below (Below.refl _ _).drew) s _ _ (by simp [Act.eval, Act.put]) (heap_alloc_new _ _) rfl (by simp [Value.oneCell']) (by omega) (by unfold maxLen; omega) (by simp; omega) (fun _ _ _ _ h => h) ?_; intro v7 w7 ho7 hg7 hb7)
          | (refine step_wp rfl (wp_append_rd i64E i64S _ _ rfl w.heap.size _ (l.take l.length ++ [s]) (by simp [Act.eval, Act.put]) ho7 _ (l.drop l.length) rfl (rd_none (List.drop_eq_nil_of_le (by omega)) (by unfold maxLen; omega)) one_i64 (by simp; omega) (by unfold maxLen; simp; omega) (by have := hb7.size; simp at this; omega) (fun _ _ _ _ h => h) ?_); intro v8 w8 ho8 hg8 hb8 hn8))
        all_goals
          have HO8 := Lib.hid ho8
          have HB8 := Lib.hid ((((HB6.out.alloc (by omega) _).drew).trans hb7).trans hb8)
          obtain ⟨a8, l8, c8, rfl⟩ := own_sl ho8
          clear ho8 hg8 hb8 hn8 ho7 hg7 hb7
          go_wp2
          all_goals go_ret
          all_goals exact ⟨⟨_, rfl, .inr ⟨HCS.out, by rw [HRES.out]; exact HO8.out⟩⟩, HB8.out⟩
      | some p =>
        obtain ⟨ab, ao, asp⟩ := p
        have hcs : l.contains s = false := by simpa using HNC.out
        have HRES : Hid (slotIns l s = l.take l.length ++ [s] ++ l.drop l.length) := Lib.hid (by
          unfold slotIns
          rw [if_neg (by rw [hcs]; simp), ← HAT.out, insIdx_eq _ _ _ hat]
          simp)
        have HCS := Lib.hid hcs
        have htl : (l.take l.length).length = l.length := by rw [List.length_take]; omega
        clear hcs
        go_wp2_with (at_builtin; refine wpList_append_rd i64E i64S rfl _ _ rfl w.heap.size (.slice none 0 0) [] rfl (Own.nil _ _ _ _) _ (l.take l.length) rfl (Rd.take (HV.out.below HBE.out) hat) one_i64 (by simp; omega) (by unfold maxLen; simp; omega) HBE.out.size (fun _ _ _ _ h => h) ?_; intro v6 w6 ho6 hg6 hb6 hn6)
        have hs6 := hb6.size
        have hs7 := HBE.out.size
        have HB6 := Lib.hid (HBE.out.trans hb6)
        have HO6 := Lib.hid ho6
        obtain ⟨a6, l6, c6, rfl⟩ := own_sl ho6
        clear ho6 hg6 hb6 hn6
        go_region_law (first
          | (refine step_append_lit i64E i64S rfl _ _ rfl w.heap.size _ (l.take l.length) (by simp [Act.eval, Act.put]) ((HO6.out.alloc _).below (Below.refl _ _).drew) s _ _ (by simp [Act.eval, Act.put]) (heap_alloc_new _ _) rfl (by simp [Value.oneCell']) (by omega) (by unfold maxLen; omega) (by simp; omega) (fun _ _ _ _ h => h) ?_; intro v7 w7 ho7 hg7 hb7)
          | (refine step_wp rfl (wp_append_rd i64E i64S _ _ rfl w.heap.size _ (l.take l.length ++ [s]) (by simp [Act.eval, Act.put]) ho7 _ (l.drop l.length) rfl (rd_none (List.drop_eq_nil_of_le (by omega)) (by unfold maxLen; omega)) one_i64 (by simp; omega) (by unfold maxLen; simp; omega) (by have := hb7.size; simp at this; omega) (fun _ _ _ _ h => h) ?_); intro v8 w8 ho8 hg8 hb8 hn8))
        all_goals
          have HO8 := Lib.hid ho8
          have HB8 := Lib.hid ((((HB6.out.alloc (by omega) _).drew).trans hb7).trans hb8)
          obtain ⟨a8, l8, c8, rfl⟩ := own_sl ho8
          clear ho8 hg8 hb8 hn8 ho7 hg7 hb7
          go_wp2
          all_goals go_ret
          all_goals exact ⟨⟨_, rfl, .inr ⟨HCS.out, by rw [HRES.out]; exact HO8.out⟩⟩, HB8.out⟩
end Go.Proofs.Ytchdmemgkegefaa
