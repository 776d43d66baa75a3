/- The reference's check of a configuration: no error exactly where it is permitted. Condition: a configuration whose rules read as a list. -/
import Derived.Test.YtchdmemgkegefaaCfgR
import Derived.Deep.CutBlock
namespace Go.Proofs.Ytchdmemgkegefaa
open Go.RowKit
set_option linter.unusedVariables false

/-- number j is aimed at by one of the first b rules, not by the last of all -/
def AimB (rs : List Rl) (b j : Nat) : Prop := j = 0 ∨ ∃ k, ∃ h : k < rs.length, k < b ∧ k + 1 < rs.length ∧ rs[k].tgt = j
structure RkW (w : World) (nm : ByteArray) (a : Option Addr) (cap : Nat) (rs : List Rl) (fu : Int) (qa b : Nat) (W : World) : Prop extends CkW w nm a cap rs fu W where
  aim : ∃ ab : List Bool, ab.length = 4 ∧ W.heap[qa]? = some (.cells (ab.map Value.bool).toArray 102 (0, 0)) ∧ ∀ j (h : j < ab.length), ab[j] = true ↔ AimB rs b j
  hqa : w.heap.size < qa
section
variable {w : World} {nm : ByteArray} {a : Option Addr} {cap : Nat} {rs : List Rl} {fu : Int} {qa b : Nat} {W W' : World}
theorem RkW.keep (h : RkW w nm a cap rs fu qa b W) (hb : Below W.heap.size W W') : RkW w nm a cap rs fu qa b W' := by
  obtain ⟨ab, h1, h2, h3⟩ := h.aim
  exact ⟨h.toCkW.keep hb, ⟨ab, h1, below_block hb (block_lt h2) h2, h3⟩, h.hqa⟩
theorem RkW.qlt (h : RkW w nm a cap rs fu qa b W) : qa < W.heap.size := by
  obtain ⟨ab, h1, h2, h3⟩ := h.aim
  exact block_lt h2
theorem RkW.at (h : RkW w nm a cap rs fu qa b W) {j : Nat} (hj : j < 4) : ∃ x : Bool, W.cell? ⟨qa, j, none⟩ = some (.bool x) ∧ W.frozen? ⟨qa, j, none⟩ = false ∧ (x = true ↔ AimB rs b j) := by
  obtain ⟨ab, h1, h2, h3⟩ := h.aim
  exact ⟨ab[j]'(by omega), by rw [cell_block h2]; simp [h1, hj], frozen_block h2, h3 j (by omega)⟩
theorem RkW.skip (h : RkW w nm a cap rs fu qa b W) (hb : b + 1 = rs.length) : RkW w nm a cap rs fu qa (b + 1) W := by
  obtain ⟨ab, h1, h2, h3⟩ := h.aim
  refine ⟨h.toCkW, ⟨ab, h1, h2, fun j hj => (h3 j hj).trans ?_⟩, h.hqa⟩
  constructor
  · rintro (h | ⟨k, hk, hkb, hk1, ht⟩)
    · exact .inl h
    · exact .inr ⟨k, hk, by omega, hk1, ht⟩
  · rintro (h | ⟨k, hk, hkb, hk1, ht⟩)
    · exact .inl h
    · exact .inr ⟨k, hk, by omega, hk1, ht⟩
theorem RkW.put (h : RkW w nm a cap rs fu qa b W) {t : Nat} (ht4 : t < 4) (hb : b + 1 < rs.length) (ht : (rs[b]'(by omega)).tgt = t) : RkW w nm a cap rs fu qa (b + 1) (W.setCell ⟨qa, t, none⟩ (.bool true)) := by
  obtain ⟨ab, h1, h2, h3⟩ := h.aim
  have hq := h.hqa
  refine ⟨⟨h.bel.setCell (by dsimp only; omega) _, (setCell_other _ (by omega)).trans h.blk⟩, ⟨ab.set t true, by rw [List.length_set]; exact h1, ?_, fun j hj => ?_⟩, hq⟩
  · rw [setCell_block h2]
    congr 2
    apply Array.ext'
    simp [List.map_set]
  · rw [List.length_set] at hj
    rw [List.getElem_set]
    split
    · rename_i e
      subst e
      exact ⟨fun _ => .inr ⟨b, by omega, by omega, hb, ht⟩, fun _ => rfl⟩
    · rename_i e
      refine (h3 j hj).trans ?_
      constructor
      · rintro (h | ⟨k, hk, hkb, hk1, ht'⟩)
        · exact .inl h
        · exact .inr ⟨k, hk, by omega, hk1, ht'⟩
      · rintro (h | ⟨k, hk, hkb, hk1, ht'⟩)
        · exact .inl h
        · by_cases e2 : k = b
          · subst e2
            rw [ht] at ht'
            exact absurd (by exact_mod_cast ht') e
          · exact .inr ⟨k, hk, by omega, hk1, ht'⟩
end
theorem aimed_iff {rs : List Rl} (hok : ∀ b (h : b < rs.length), RuleOk rs.length b rs[b]) {j : Nat} (hj : 1 ≤ j) (hjl : j < rs.length) : AimB rs rs.length j ↔ Aimed rs j := by
  constructor
  · rintro (h | ⟨k, hk, hkb, hk1, ht⟩)
    · omega
    · refine ⟨k, hk, fun e => ?_, ht⟩
      have := ((hok k hk).2.2.2.2.2 (by omega)).1
      omega
  · rintro ⟨k, hk, hkj, ht⟩
    refine .inr ⟨k, hk, hk, ?_, ht⟩
    rcases Nat.lt_or_ge (k + 1) rs.length with h | h
    · exact h
    · have := (hok k hk).2.2.2.2.1 (by omega)
      omega

set_option maxRecDepth 100000 in
set_option maxHeartbeats 8000000 in
theorem rcheck_any (c : Cf) (v : Value) (w : World) (hc : CfV w v c) (hs : c.name.size ≤ 9223372036854775807) :
    Calls Try.prog 69 #[v] w fun e w' => RE e (CfOk c) ∧ Below w.heap.size w w' := by
  obtain ⟨nm, rs, fu⟩ := c
  obtain ⟨rv, rfl, hr⟩ := hc
  dsimp only at hr hs ⊢
  obtain ⟨a, cap, rfl, hl, hm, hf⟩ := id hr
  clear hf
  unfold maxLen at hm
  have HR := Lib.hid hr
  clear hr
  have hst : CkW w nm a cap rs fu (w.alloc (.cells #[.string nm, .slice a rs.length cap, .int .i64 fu] 24)) := ⟨(Below.refl _ _).alloc (Nat.le_refl _) _, heap_alloc_new _ _⟩
  go_enter Try.func69, Try.ntmps69
  go_wp2_with fail
  refine (rnamed_any nm _ hs).mono ?_
  rintro e w1 ⟨⟨x, rfl, hx⟩, hb1⟩
  have hs1 := hst.keep hb1
  clear hst hb1
  obtain ⟨z0, z1, z2, z3⟩ := hs1.cells
  have HX := Lib.hid hx
  have HS1 := Lib.hid hs1
  clear hx hs1
  cases x with
  | false =>
    go_wp2
    go_ret
    exact ⟨⟨7, rfl, fun h => (by cases h), fun h => absurd (HX.out.2 h.1) (by simp)⟩, HS1.out.bel⟩
  | true =>
    have HN : Hid (NameOk nm) := Lib.hid (HX.out.1 rfl)
    clear HX
    by_cases hn1 : rs.length < 1
    · have hd : decide ((rs.length : Int) < 1) = true := by simp; omega
      go_wp2
      go_ret
      exact ⟨⟨8, rfl, fun h => (by cases h), fun h => (by have := h.2.1; dsimp only at this; omega)⟩, HS1.out.bel⟩
    have hd : decide ((rs.length : Int) < 1) = false := by simp; omega
    by_cases hn2 : 4 < rs.length
    · have hd2 : decide ((4 : Int) < rs.length) = true := by simp; omega
      go_wp2
      go_ret
      exact ⟨⟨8, rfl, fun h => (by cases h), fun h => (by have := h.2.2.1; dsimp only at this; omega)⟩, HS1.out.bel⟩
    have hd2 : decide ((4 : Int) < rs.length) = false := by simp; omega
    have hra : RkW w nm a cap rs fu w1.heap.size 0 (w1.alloc (.cells #[.bool true, .bool false, .bool false, .bool false] 102)) := by
      refine ⟨HS1.out.keep ((Below.refl _ _).alloc (Nat.le_refl _) _), ⟨[true, false, false, false], rfl, heap_alloc_new _ _, fun j h => ?_⟩, z0⟩
      have hj : j = 0 ∨ j = 1 ∨ j = 2 ∨ j = 3 := by simp at h; omega
      rcases hj with rfl | rfl | rfl | rfl
      · simp [AimB]
      · simp [AimB]
      · simp [AimB]
      · simp [AimB]
    have HRA := Lib.hid hra
    clear hra
    go_wp2_with fail
    generalize w1.heap.size = qa at *
    go_loopw [27] (fun i wr => ∃ k : Nat, k ≤ rs.length ∧ i = .int .i64 k ∧ RkW w nm a cap rs fu qa k wr ∧ ∀ j (h : j < rs.length), j < k → RuleOk rs.length j rs[j]) (fun i _ => rs.length - (intOf i).toNat)
    case atStart => exact ⟨0, by omega, rfl, HRA.out, fun j _ h => absurd h (Nat.not_lt_zero _)⟩
    case round =>
      clear z0 z1 z2 z3
      obtain ⟨k, hk, rfl, hck, hok⟩ := hrel
      obtain ⟨z0, z1, z2, z3⟩ := hck.toCkW.cells
      have zq := hck.qlt
      have HCK := Lib.hid hck
      have HK := Lib.hid hok
      clear hck hok HS1 HRA
      by_cases hlt : k < rs.length
      · have hrr := HR.out.below HCK.out.bel
        obtain ⟨b, off, rfl⟩ : ∃ b off, a = some ⟨b, off, none⟩ := by
          obtain ⟨a', c', e, _, _, hf⟩ := hrr
          simp only [Value.slice.injEq] at e
          obtain ⟨rfl, _, _⟩ := e
          rcases hf with h | ⟨b, off, h, _⟩
          · rw [h] at hlt; simp at hlt
          · exact ⟨b, off, h⟩
        obtain ⟨hq, x0, x1, x2, x3⟩ := rule_cells hrr hlt
        clear hrr
        have HCK2 := fun o => (HCK.out.keep ((Below.refl wr.heap.size wr).alloc (Nat.le_refl _) o))
        have HCK3 := Lib.hid HCK2
        clear HCK2
        obtain ⟨r, hrk⟩ : ∃ r, rs[k] = r := ⟨_, rfl⟩
        rw [hrk] at x0 x1 x2 x3
        have HRK := Lib.hid hrk
        clear hrk
        obtain ⟨s, lim, bat, tgt⟩ := r
        dsimp only at *
        by_cases hRO : RuleOk rs.length k ⟨s, lim, bat, tgt⟩
        · have HK2 : Hid (∀ j (h : j < rs.length), j < k + 1 → RuleOk rs.length j rs[j]) := Lib.hid fun j hj hjk => by
            by_cases e : j = k
            · subst e; rw [HRK.out]; exact hRO
            · exact HK.out j hj (by omega)
          obtain ⟨y1, ⟨y2, y3⟩, ⟨y4, y5⟩, y6, y7, y8⟩ := hRO
          dsimp only at y1 y2 y3 y4 y5 y6 y7 y8
          have d1 : decide (lim < 0) = false := by simp; omega
          have d2 : decide (64 < lim) = false := by simp; omega
          have d3 : decide (bat < 0) = false := by simp; omega
          have d4 : decide (64 < bat) = false := by simp; omega
          by_cases hla : k + 1 = rs.length
          · have e1 := y6 (by omega)
            have e2 := y7 (by omega)
            have d5 : ((k : Int) == (rs.length : Int) - 1) = true := by simp; omega
            have d6 : (lim != 0) = false := by simp [e1]
            have d7 : (tgt != (k : Int)) = false := by simp [e2]
            clear y6 y7 y8 e1 e2
            go_wp2_with (first | (go_at_call 85; refine (rvalid_any _ _).mono ?_; rintro e w' ⟨rfl, rfl⟩))
            go_roundw
            case rel => exact ⟨k + 1, by omega, by go_num, (HCK3.out _).skip hla, HK2.out⟩
            case measure => simp [intOf]; omega
          · have e3 := y8 (by omega)
            obtain ⟨t, rfl⟩ : ∃ t : Nat, tgt = t := ⟨tgt.toNat, by omega⟩
            have d5 : ((k : Int) == (rs.length : Int) - 1) = false := by simp; omega
            have d6 : decide ((t : Int) ≤ (k : Int)) = false := by simp; omega
            have d7 : decide ((rs.length : Int) ≤ (t : Int)) = false := by simp; omega
            have ht4 : t < 4 := by omega
            have ht4i : (t : Int) < 4 := by omega
            clear y6 y7 y8
            obtain ⟨xb, f1, f2, -⟩ := HCK.out.at ht4
            go_wp2_with (first | (go_at_call 85; refine (rvalid_any _ _).mono ?_; rintro e w' ⟨rfl, rfl⟩))
            go_roundw
            case rel => exact ⟨k + 1, by omega, by go_num, (HCK.out.put ht4 (by omega) (by rw [HRK.out])).keep ((Below.refl _ _).alloc (Nat.le_refl _) _), HK2.out⟩
            case measure => simp [intOf]; omega
        · have HBAD : Hid (¬ CfOk ⟨nm, rs, fu⟩) := Lib.hid fun h => hRO (by have := h.2.2.2.1 k hlt; dsimp only at this; rw [HRK.out] at this; exact this)
          have hRO2 : ¬ (shareB s = true ∧ (0 ≤ lim ∧ lim ≤ 64) ∧ (0 ≤ bat ∧ bat ≤ 64) ∧ ((k : Int) = rs.length - 1 → lim = 0) ∧ ((k : Int) = rs.length - 1 → tgt = k) ∧ ((k : Int) < rs.length - 1 → (k : Int) < tgt ∧ tgt ≤ rs.length - 1)) := hRO
          have HRO := Lib.hid hRO2
          clear hRO hRO2
          by_cases hs0 : shareB s = true
          · by_cases hl1 : 0 ≤ lim ∧ lim ≤ 64 ∧ 0 ≤ bat ∧ bat ≤ 64
            · obtain ⟨y2, y3, y4, y5⟩ := hl1
              have d1 : decide (lim < 0) = false := by simp; omega
              have d2 : decide (64 < lim) = false := by simp; omega
              have d3 : decide (bat < 0) = false := by simp; omega
              have d4 : decide (64 < bat) = false := by simp; omega
              by_cases hla : k + 1 = rs.length
              · have d5 : ((k : Int) == (rs.length : Int) - 1) = true := by simp; omega
                by_cases hl0 : lim = 0
                · have d6 : (lim != 0) = false := by simp [hl0]
                  have d7 : (tgt != (k : Int)) = true := by
                    simp
                    intro e
                    exact HRO.out ⟨hs0, ⟨y2, y3⟩, ⟨y4, y5⟩, fun _ => hl0, fun _ => e, fun h => (by exfalso; omega)⟩
                  go_wp2_with (first | (go_at_call 85; refine (rvalid_any _ _).mono ?_; rintro e w' ⟨rfl, rfl⟩))
                  go_ret
                  exact ⟨⟨10, rfl, fun h => (by cases h), fun h => absurd h HBAD.out⟩, (HCK3.out _).bel⟩
                · have d6 : (lim != 0) = true := by simpa using hl0
                  go_wp2_with (first | (go_at_call 85; refine (rvalid_any _ _).mono ?_; rintro e w' ⟨rfl, rfl⟩))
                  go_ret
                  exact ⟨⟨9, rfl, fun h => (by cases h), fun h => absurd h HBAD.out⟩, (HCK3.out _).bel⟩
              · have d5 : ((k : Int) == (rs.length : Int) - 1) = false := by simp; omega
                by_cases hk2 : tgt ≤ k
                · have d6 : decide (tgt ≤ (k : Int)) = true := by simpa using hk2
                  go_wp2_with (first | (go_at_call 85; refine (rvalid_any _ _).mono ?_; rintro e w' ⟨rfl, rfl⟩))
                  go_ret
                  exact ⟨⟨10, rfl, fun h => (by cases h), fun h => absurd h HBAD.out⟩, (HCK3.out _).bel⟩
                · have d6 : decide (tgt ≤ (k : Int)) = false := by simpa using hk2
                  have d7 : decide ((rs.length : Int) ≤ tgt) = true := by
                    simp
                    by_cases e : (rs.length : Int) ≤ tgt
                    · exact e
                    · exact absurd ⟨hs0, ⟨y2, y3⟩, ⟨y4, y5⟩, fun h => (by exfalso; omega), fun h => (by exfalso; omega), fun h => (by omega)⟩ HRO.out
                  go_wp2_with (first | (go_at_call 85; refine (rvalid_any _ _).mono ?_; rintro e w' ⟨rfl, rfl⟩))
                  go_ret
                  exact ⟨⟨10, rfl, fun h => (by cases h), fun h => absurd h HBAD.out⟩, (HCK3.out _).bel⟩
            · go_upto_if 41 with (first | (go_at_call 85; refine (rvalid_any _ _).mono ?_; rintro e w' ⟨rfl, rfl⟩))
              all_goals first | (exfalso; apply hl1; refine ⟨?_, ?_, ?_, ?_⟩ <;> omega) | skip
              all_goals go_wp2
              all_goals first | (exfalso; apply hl1; refine ⟨?_, ?_, ?_, ?_⟩ <;> omega) | skip
              all_goals go_ret
              all_goals exact ⟨⟨9, rfl, fun h => (by cases h), fun h => absurd h HBAD.out⟩, (HCK3.out _).bel⟩
          · have hs1 : shareB s = false := by simpa using hs0
            go_wp2_with (first | (go_at_call 85; refine (rvalid_any _ _).mono ?_; rintro e w' ⟨rfl, rfl⟩))
            go_ret
            exact ⟨⟨6, rfl, fun h => (by cases h), fun h => absurd h HBAD.out⟩, (HCK3.out _).bel⟩
      · have HK2 : Hid (∀ j (h : j < rs.length), RuleOk rs.length j rs[j]) := Lib.hid fun j h => HK.out j h (by omega)
        obtain rfl : k = rs.length := by omega
        have HCKA := HCK
        clear HK
        go_wp2_with fail
        go_loopw [8] (fun i wr => ∃ k : Nat, k ≤ rs.length ∧ i = .int .i64 k ∧ RkW w nm a cap rs fu qa rs.length wr ∧ ∀ j, 1 ≤ j → j < k → Aimed rs j) (fun i _ => rs.length - (intOf i).toNat)
        case atStart => exact ⟨0, by omega, rfl, HCK.out, fun j h1 h2 => by omega⟩
        case round =>
          clear z0 z1 z2 z3 zq
          obtain ⟨k, hk, rfl, hck, hok⟩ := hrel
          obtain ⟨z0, z1, z2, z3⟩ := hck.toCkW.cells
          have zq := hck.qlt
          have HCL := Lib.hid hck
          have HA := Lib.hid hok
          clear hck hok HCK HCKA
          by_cases hlt : k < rs.length
          · obtain ⟨x, f1, f2, hx⟩ := HCL.out.at (j := k) (by omega)
            have HX := Lib.hid hx
            have hk4 : (k : Int) < 4 := by omega
            clear hx
            cases x with
            | true =>
              have HAI : Hid (1 ≤ k → Aimed rs k) := Lib.hid fun h1 => (aimed_iff HK2.out h1 hlt).1 (HX.out.1 rfl)
              go_wp2
              go_roundw
              case rel => exact ⟨k + 1, by omega, by go_num, HCL.out, fun j hj hjk => by
                by_cases e : j = k
                · subst e; exact HAI.out hj
                · exact HA.out j hj (by omega)⟩
              case measure => simp [intOf]; omega
            | false =>
              have hk0 : k ≠ 0 := fun e => by have := HX.out.2 (.inl e); cases this
              have HNA : Hid (¬ CfOk ⟨nm, rs, fu⟩) := Lib.hid fun h => by
                have := HX.out.2 ((aimed_iff HK2.out (by omega) hlt).2 (h.2.2.2.2.1 k (by omega) hlt))
                cases this
              go_wp2
              go_ret
              exact ⟨⟨10, rfl, fun h => (by cases h), fun h => absurd h HNA.out⟩, HCL.out.bel⟩
          · have HA2 : Hid (∀ j, 1 ≤ j → j < rs.length → Aimed rs j) := Lib.hid fun j h1 h2 => HA.out j h1 (by omega)
            clear HA
            obtain ⟨n, hn⟩ : ∃ n, rs.length = n + 1 := ⟨rs.length - 1, by omega⟩
            have hlast : n < rs.length := by omega
            have hrr := HR.out.below HCL.out.bel
            obtain ⟨b, off, rfl⟩ : ∃ b off, a = some ⟨b, off, none⟩ := by
              obtain ⟨a', c', e, _, _, hf⟩ := hrr
              simp only [Value.slice.injEq] at e
              obtain ⟨rfl, _, _⟩ := e
              rcases hf with h | ⟨b, off, h, _⟩
              · rw [h] at hn; simp at hn
              · exact ⟨b, off, h⟩
            obtain ⟨hq, x0, x1, x2, x3⟩ := rule_cells hrr hlast
            have hiff : Hid (CfOk ⟨nm, rs, fu⟩ ↔ if FloatKind.f64.format.order (rs[n]).s 0 = some Ordering.eq then 1 ≤ fu ∧ fu ≤ 64 else fu = 0) := Lib.hid (by
              have e : rs.length - 1 = n := by omega
              constructor
              · intro h; simpa [e] using h.2.2.2.2.2 (by dsimp only; omega)
              · intro h; exact ⟨HN.out, by dsimp only; omega, by dsimp only; omega, HK2.out, HA2.out, fun _ => by simpa [e] using h⟩)
            clear hrr HK2 HA2
            generalize rs[n] = r at *
            obtain ⟨s, lim, bat, tgt⟩ := r
            dsimp only at *
            go_wp2
            all_goals go_ret
            all_goals refine ⟨⟨_, rfl, ?_⟩, HCL.out.bel⟩
            all_goals rw [hiff.out]
            all_goals first | (simp_all; done) | (simp_all; omega) | (simp_all; intros; omega)
end Go.Proofs.Ytchdmemgkegefaa
