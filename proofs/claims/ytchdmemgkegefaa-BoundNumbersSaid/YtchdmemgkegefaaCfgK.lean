/- The program's check of a configuration: no error exactly where it is permitted. Condition: a configuration whose rules read as a list. -/
import Derived.Test.YtchdmemgkegefaaCfgC
import Derived.Test.YtchdmemgkegefaaBas4
namespace Go.Proofs.Ytchdmemgkegefaa
open Go.RowKit
set_option linter.unusedVariables false

/-- a world behind the entry, with the configuration in its block -/
structure CkW (w : World) (nm : ByteArray) (a : Option Addr) (cap : Nat) (rs : List Rl) (fu : Int) (W : World) : Prop where
  bel : Below w.heap.size w W
  blk : W.heap[w.heap.size]? = some (.cells #[.string nm, .slice a rs.length cap, .int .i64 fu] 24 (0, 0))
theorem CkW.keep {w : World} {nm : ByteArray} {a : Option Addr} {cap : Nat} {rs : List Rl} {fu : Int} {W W' : World} (h : CkW w nm a cap rs fu W) (hb : Below W.heap.size W W') : CkW w nm a cap rs fu W' :=
  ⟨h.bel.trans (hb.mono h.bel.size), below_block hb (block_lt h.blk) h.blk⟩
theorem CkW.cells {w : World} {nm : ByteArray} {a : Option Addr} {cap : Nat} {rs : List Rl} {fu : Int} {W : World} (h : CkW w nm a cap rs fu W) :
    w.heap.size < W.heap.size ∧ W.cell? ⟨w.heap.size, 0, none⟩ = some (.string nm) ∧ W.cell? ⟨w.heap.size, 1, none⟩ = some (.slice a rs.length cap) ∧ W.cell? ⟨w.heap.size, 2, none⟩ = some (.int .i64 fu) :=
  ⟨block_lt h.blk, by rw [cell_block h.blk]; rfl, by rw [cell_block h.blk]; rfl, by rw [cell_block h.blk]; rfl⟩

set_option maxRecDepth 100000 in
set_option maxHeartbeats 4000000 in
theorem check_any (c : Cf) (v : Value) (w : World) (hc : CfV w v c) (hs : c.name.size ≤ 9223372036854775807) :
    Calls Try.prog 68 #[v] w fun e w' => RE e (CfOk c) ∧ Below w.heap.size w w' := by
  obtain ⟨nm, rs, fu⟩ := c
  obtain ⟨rv, rfl, hr⟩ := hc
  dsimp only at hr hs ⊢
  obtain ⟨a, cap, rfl, hl, hm, hf⟩ := id hr
  clear hf
  unfold maxLen at hm
  have HR := Lib.hid hr
  clear hr
  have hst : CkW w nm a cap rs fu (w.alloc (.cells #[.string nm, .slice a rs.length cap, .int .i64 fu] 24)) := ⟨(Below.refl _ _).alloc (Nat.le_refl _) _, heap_alloc_new _ _⟩
  go_enter Try.func68, Try.ntmps68
  go_wp2_with fail
  refine (named_any nm _ hs).mono ?_
  rintro e w1 ⟨⟨x, rfl, hx⟩, hb1⟩
  have hs1 := hst.keep hb1
  clear hst hb1
  obtain ⟨z0, z1, z2, z3⟩ := hs1.cells
  have HX := Lib.hid hx
  have HS1 := Lib.hid hs1
  clear hx hs1
  cases x with
  | false =>
    go_wp2
    go_ret
    exact ⟨⟨7, rfl, fun h => (by cases h), fun h => absurd (HX.out.2 h.1) (by simp)⟩, HS1.out.bel⟩
  | true =>
    have HN : Hid (NameOk nm) := Lib.hid (HX.out.1 rfl)
    clear HX
    by_cases hn1 : rs.length < 1
    · have hd : decide ((rs.length : Int) < 1) = true := by simp; omega
      go_wp2
      go_ret
      exact ⟨⟨8, rfl, fun h => (by cases h), fun h => (by have := h.2.1; dsimp only at this; omega)⟩, HS1.out.bel⟩
    have hd : decide ((rs.length : Int) < 1) = false := by simp; omega
    by_cases hn2 : 4 < rs.length
    · have hd2 : decide ((4 : Int) < rs.length) = true := by simp; omega
      go_wp2
      go_ret
      exact ⟨⟨8, rfl, fun h => (by cases h), fun h => (by have := h.2.2.1; dsimp only at this; omega)⟩, HS1.out.bel⟩
    have hd2 : decide ((4 : Int) < rs.length) = false := by simp; omega
    go_wp2_with fail
    go_loopw [26] (fun i wr => ∃ k : Nat, k ≤ rs.length ∧ i = .int .i64 k ∧ CkW w nm a cap rs fu wr ∧ ∀ j (h : j < rs.length), j < k → RuleOk rs.length j rs[j]) (fun i _ => rs.length - (intOf i).toNat)
    case atStart => exact ⟨0, by omega, rfl, HS1.out, fun j _ h => absurd h (Nat.not_lt_zero _)⟩
    case round =>
      clear z0 z1 z2 z3
      obtain ⟨k, hk, rfl, hck, hok⟩ := hrel
      obtain ⟨z0, z1, z2, z3⟩ := hck.cells
      have HCK := Lib.hid hck
      have HK := Lib.hid hok
      clear hck hok HS1
      by_cases hlt : k < rs.length
      · go_wp2_with fail
        refine (rule_any ⟨nm, rs, fu⟩ _ _ ⟨_, rfl, HR.out.below HCK.out.bel⟩ k hlt).mono ?_
        rintro e w2 ⟨⟨x, rfl, hx⟩, hb2⟩
        have HS2 := Lib.hid (HCK.out.keep hb2)
        have HX := Lib.hid hx
        clear hx hb2 z0 z1 z2 z3
        by_cases hx0 : x = 0
        · subst hx0
          have HO : Hid (RuleOk rs.length k rs[k]) := Lib.hid (HX.out.1 rfl)
          go_wp2
          go_roundw
          case rel => exact ⟨k + 1, by omega, by go_num, HS2.out, fun j hj hjk => by
            by_cases e : j = k
            · subst e; exact HO.out
            · exact HK.out j hj (by omega)⟩
          case measure => simp [intOf]; omega
        · have hxb : (x != 0) = true := by simpa using hx0
          have HX0 := Lib.hid hx0
          clear hx0
          go_wp2
          go_ret
          exact ⟨⟨x, rfl, fun h => absurd h HX0.out, fun h => absurd (HX.out.2 (h.2.2.2.1 k hlt)) HX0.out⟩, HS2.out.bel⟩
      · have HK2 : Hid (∀ j (h : j < rs.length), RuleOk rs.length j rs[j]) := Lib.hid fun j h => HK.out j h (by omega)
        clear HK
        go_wp2_with fail
        go_loopw [5] (fun i wr => ∃ k : Nat, 1 ≤ k ∧ k ≤ rs.length ∧ i = .int .i64 k ∧ CkW w nm a cap rs fu wr ∧ ∀ j, 1 ≤ j → j < k → Aimed rs j) (fun i _ => rs.length - (intOf i).toNat)
        case atStart => exact ⟨1, by omega, by omega, rfl, HCK.out, fun j h1 h2 => by omega⟩
        case round =>
          clear z0 z1 z2 z3
          obtain ⟨k, hk1, hk, rfl, hck, hok⟩ := hrel
          obtain ⟨z0, z1, z2, z3⟩ := hck.cells
          have HCL := Lib.hid hck
          have HA := Lib.hid hok
          clear hck hok HCK
          by_cases hlt : k < rs.length
          · go_wp2_with fail
            refine (targeted_any ⟨nm, rs, fu⟩ _ _ ⟨_, rfl, HR.out.below HCL.out.bel⟩ k hlt).mono ?_
            rintro e w2 ⟨⟨x, rfl, hx⟩, hb2⟩
            have HS2 := Lib.hid (HCL.out.keep hb2)
            have HX := Lib.hid hx
            clear hx hb2 z0 z1 z2 z3
            cases x with
            | true =>
              have HAI : Hid (Aimed rs k) := Lib.hid (HX.out.1 rfl)
              go_wp2
              go_roundw
              case rel => exact ⟨k + 1, by omega, by omega, by go_num, HS2.out, fun j hj hjk => by
                by_cases e : j = k
                · subst e; exact HAI.out
                · exact HA.out j hj (by omega)⟩
              case measure => simp [intOf]; omega
            | false =>
              go_wp2
              go_ret
              exact ⟨⟨10, rfl, fun h => (by cases h), fun h => absurd (HX.out.2 (h.2.2.2.2.1 k hk1 hlt)) (by simp)⟩, HS2.out.bel⟩
          · have HA2 : Hid (∀ j, 1 ≤ j → j < rs.length → Aimed rs j) := Lib.hid fun j h1 h2 => HA.out j h1 (by omega)
            clear HA
            obtain ⟨n, hn⟩ : ∃ n, rs.length = n + 1 := ⟨rs.length - 1, by omega⟩
            have hlast : n < rs.length := by omega
            have hrr := HR.out.below HCL.out.bel
            obtain ⟨b, off, rfl⟩ : ∃ b off, a = some ⟨b, off, none⟩ := by
              obtain ⟨a', c', e, _, _, hf⟩ := hrr
              simp only [Value.slice.injEq] at e
              obtain ⟨rfl, _, _⟩ := e
              rcases hf with h | ⟨b, off, h, _⟩
              · rw [h] at hn; simp at hn
              · exact ⟨b, off, h⟩
            obtain ⟨hq, x0, x1, x2, x3⟩ := rule_cells hrr hlast
            have hiff : Hid (CfOk ⟨nm, rs, fu⟩ ↔ if FloatKind.f64.format.order (rs[n]).s 0 = some Ordering.eq then 1 ≤ fu ∧ fu ≤ 64 else fu = 0) := Lib.hid (by
              have e : rs.length - 1 = n := by omega
              constructor
              · intro h; simpa [e] using h.2.2.2.2.2 (by dsimp only; omega)
              · intro h; exact ⟨HN.out, by dsimp only; omega, by dsimp only; omega, HK2.out, HA2.out, fun _ => by simpa [e] using h⟩)
            clear hrr HK2 HA2
            generalize rs[n] = r at *
            obtain ⟨s, lim, bat, tgt⟩ := r
            dsimp only at *
            go_wp2
            all_goals go_ret
            all_goals refine ⟨⟨_, rfl, ?_⟩, HCL.out.bel⟩
            all_goals rw [hiff.out]
            all_goals first | (simp_all; done) | (simp_all; omega) | (simp_all; intros; omega)
end Go.Proofs.Ytchdmemgkegefaa
