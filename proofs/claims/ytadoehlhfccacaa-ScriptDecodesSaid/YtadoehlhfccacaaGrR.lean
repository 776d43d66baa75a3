/- The reference model's Reach: numbers of nodes, for a valid graph. -/
import Derived.Test.YtadoehlhfccacaaGrC
namespace Go.Proofs.Ytadoehlhfccacaa
open Go.RowKit

/-- how many are not marked -/
def cf (zs : List Bool) : Nat := zs.countP (fun b => !b)
theorem cf_set {zs : List Bool} {k : Nat} (hk : k < zs.length) (h : zs[k] = false) : cf (zs.set k true) + 1 = cf zs := by
  unfold cf
  induction zs generalizing k with
  | nil => simp at hk
  | cons z zs ih =>
    cases k with
    | zero => simp at h; subst h; simp
    | succ k =>
      have := ih (k := k) (by simpa using hk) (by simpa using h)
      cases z <;> simp <;> omega
theorem cf_set_le {zs : List Bool} {k : Nat} : cf (zs.set k true) ≤ cf zs := by
  by_cases hk : k < zs.length
  · cases h : zs[k] with
    | false => have := cf_set hk h; omega
    | true =>
      have : zs.set k true = zs := by
        apply List.ext_getElem (by simp)
        intro i h1 h2
        rw [List.getElem_set]
        split
        · subst_vars; exact h.symm
        · rfl
      rw [this]; exact Nat.le_refl _
  · rw [List.set_eq_of_length_le (by omega)]; exact Nat.le_refl _

/-- what stands throughout: the marks, the box of the graph -/
structure ReS (w0 : World) (nv uv rv : Value) (N : Nat) (zs : List Bool) (W : World) : Prop where
  own : Own boolE W (w0.heap.size + 1) 4 (.slice (some ⟨w0.heap.size + 1, 0, none⟩) N N) zs
  len : zs.length = N
  bel : Below w0.heap.size w0 W
  box : W.heap[w0.heap.size]? = some (.cells #[nv, uv, rv] 45 (0, 0))
section
variable {w0 W : World} {nv uv rv : Value} {N : Nat} {zs : List Bool}
theorem ReS.size (h : ReS w0 nv uv rv N zs W) : w0.heap.size < W.heap.size := block_lt h.box
theorem ReS.sb (h : ReS w0 nv uv rv N zs W) : w0.heap.size + 1 < W.heap.size := by obtain ⟨cs, h1⟩ := h.own.blk; exact block_lt h1
theorem ReS.c0 (h : ReS w0 nv uv rv N zs W) : W.cell? ⟨w0.heap.size, 0, none⟩ = some nv := by rw [cell_block h.box]; rfl
theorem ReS.c1 (h : ReS w0 nv uv rv N zs W) : W.cell? ⟨w0.heap.size, 1, none⟩ = some uv := by rw [cell_block h.box]; rfl
theorem ReS.c2 (h : ReS w0 nv uv rv N zs W) : W.cell? ⟨w0.heap.size, 2, none⟩ = some rv := by rw [cell_block h.box]; rfl
theorem ReS.at_ (h : ReS w0 nv uv rv N zs W) {k : Nat} (hk : k < zs.length) : W.cell? ⟨w0.heap.size + 1, k, none⟩ = some (.bool zs[k]) ∧ W.frozen? ⟨w0.heap.size + 1, k, none⟩ = false := by
  obtain ⟨_, _, h1, h2, _⟩ := h.own.set1 k hk
  exact ⟨by rw [h1]; rfl, h2⟩
theorem ReS.old (h : ReS w0 nv uv rv N zs W) {b o : Nat} (hb : b < w0.heap.size) : W.cell? ⟨b, o, none⟩ = w0.cell? ⟨b, o, none⟩ := h.bel.cell (p := ⟨b, o, none⟩) hb
theorem ReS.mark (h : ReS w0 nv uv rv N zs W) {k : Nat} (hk : k < zs.length) : ReS w0 nv uv rv N (zs.set k true) (W.setCell ⟨w0.heap.size + 1, k, none⟩ (.bool true)) := by
  obtain ⟨_, _, _, _, hset⟩ := h.own.set1 k hk
  exact ⟨hset true (.bool true) rfl, by rw [List.length_set]; exact h.len, bset h.bel (by omega) _, by rw [setCell_other _ (by omega)]; exact h.box⟩
theorem ReS.alloc (h : ReS w0 nv uv rv N zs W) (o : Obj) : ReS w0 nv uv rv N zs (W.alloc o) :=
  ⟨h.own.alloc o, h.len, h.bel.alloc h.bel.size o, alloc_block h.box⟩
end
/-- the first loop -/
def ReL1 (w0 : World) (nv uv rv : Value) (N : Nat) (i : Value) (W : World) : Prop := ∃ (k : Nat) (zs : List Bool), k ≤ 32 ∧ i = .int .i64 k ∧ ReS w0 nv uv rv N zs W
theorem ReL1.out {w0 : World} {nv uv rv : Value} {N : Nat} {i : Value} {W : World} (h : ReL1 w0 nv uv rv N i W) : ∃ (k : Nat) (zs : List Bool), k ≤ 32 ∧ i = .int .i64 k ∧ ReS w0 nv uv rv N zs W := h
/-- the marks of a world -/
def cfW (b N : Nat) (W : World) : Nat := cf ((List.range N).map fun k => match W.cell? ⟨b, k, none⟩ with | some (.bool x) => x | _ => false)
theorem ReS.cfW {w0 W : World} {nv uv rv : Value} {N : Nat} {zs : List Bool} (h : ReS w0 nv uv rv N zs W) : cfW (w0.heap.size + 1) N W = cf zs := by
  unfold Go.Proofs.Ytadoehlhfccacaa.cfW
  congr 1
  apply List.ext_getElem (by simp [h.len])
  intro i h1 h2
  have := (h.at_ h2).1
  simp [this]
def gbit : Value → Nat | .bool true => 1 | _ => 0
/-- the second loop and those inside it: grown is set only if something was marked -/
def ReL2 (w0 : World) (nv uv rv : Value) (N : Nat) (v : Value) (W : World) : Prop := ∃ (gb : Bool) (zs : List Bool), v = .bool gb ∧ ReS w0 nv uv rv N zs W
theorem ReL2.out {w0 : World} {nv uv rv : Value} {N : Nat} {v : Value} {W : World} (h : ReL2 w0 nv uv rv N v W) : ∃ (gb : Bool) (zs : List Bool), v = .bool gb ∧ ReS w0 nv uv rv N zs W := h
def ReL3 (w0 : World) (nv uv rv : Value) (N c M : Nat) (v i : Value) (W : World) : Prop := ∃ (k : Nat) (gb : Bool) (zs : List Bool), k ≤ M ∧ i = .int .i64 k ∧ v = .bool gb ∧ ReS w0 nv uv rv N zs W ∧ cf zs ≤ c ∧ (gb = true → cf zs < c)
theorem ReL3.out {w0 : World} {nv uv rv : Value} {N c M : Nat} {v i : Value} {W : World} (h : ReL3 w0 nv uv rv N c M v i W) : ∃ (k : Nat) (gb : Bool) (zs : List Bool), k ≤ M ∧ i = .int .i64 k ∧ v = .bool gb ∧ ReS w0 nv uv rv N zs W ∧ cf zs ≤ c ∧ (gb = true → cf zs < c) := h

def ReL5 (w0 : World) (nv uv rv : Value) (N : Nat) (i v : Value) (W : World) : Prop := ∃ (k : Nat) (xs : List Int) (zs : List Bool), k ≤ N ∧ i = .int .i64 k ∧ ReS w0 nv uv rv N zs W ∧ Own i64E W (w0.heap.size + 1 + 1) 3 v xs ∧ xs.length ≤ k ∧ ∀ x ∈ xs, 0 ≤ x ∧ x < k
theorem ReL5.out {w0 : World} {nv uv rv : Value} {N : Nat} {i v : Value} {W : World} (h : ReL5 w0 nv uv rv N i v W) : ∃ (k : Nat) (xs : List Int) (zs : List Bool), k ≤ N ∧ i = .int .i64 k ∧ ReS w0 nv uv rv N zs W ∧ Own i64E W (w0.heap.size + 1 + 1) 3 v xs ∧ xs.length ≤ k ∧ ∀ x ∈ xs, 0 ≤ x ∧ x < k := h
theorem ReS.grown2 {w0 W W' : World} {nv uv rv : Value} {N : Nat} {zs : List Bool} {row : Option Nat} (h : ReS w0 nv uv rv N zs W) (hg : W.grownBy W' row) (hb : ∀ b, b < w0.heap.size + 1 + 1 → some b ≠ row) : ReS w0 nv uv rv N zs W' :=
  ⟨h.own.kept hg (.inr (fun e => hb (w0.heap.size + 1) (by omega) e)) (fun _ _ e => e), h.len, h.bel.trans ((Below.refl _ _).grown hg h.bel.size (fun k hk => by
    rcases Nat.lt_or_ge k w0.heap.size with h' | h'
    · exact absurd hk.symm (hb k (by omega))
    · exact h')), grown_block hg h.box (hb _ (by omega))⟩

set_option maxRecDepth 100000 in
set_option maxHeartbeats 4000000 in
theorem reach_any (w : World) (B rb : Nat) (nv uv rv : Value) (g : Gr) (hg : GrM w B rb nv uv rv g) (n : Nat) (hok : GrOk n g) (hn : n ≤ 1000) :
    Calls Try.prog 30 #[.agg #[nv, uv, rv]] w fun e w' => ∃ v xs, e = .returned v ∧ Rd i64E w' v xs ∧ (∀ x ∈ xs, 0 ≤ x ∧ x < g.nodes.length) ∧ xs.length ≤ g.nodes.length ∧ Below w.heap.size w w' := by
  have HGM := Lib.hid hg
  have HOK := Lib.hid hok
  have hnl : g.nodes.length ≤ 1000 := Nat.le_trans hok.nl hn
  obtain ⟨na, nc, ub, uc, _, rfl, rfl, hj, huc, hub1, hub2, huc2⟩ := hg.uc hok.ul
  clear hj
  obtain ⟨rc, rfl, hrc, hrb1, hrb2, hrc2⟩ := hg.rc hok.rl
  have HUC := Lib.hid huc2
  have HRC := Lib.hid hrc2
  clear hg hok huc2 hrc2
  obtain ⟨N, hN⟩ : ∃ N, g.nodes.length = N := ⟨_, rfl⟩
  rw [hN] at hnl HGM ⊢
  have HN := Lib.hid hN
  clear hN
  obtain ⟨i0, hi, hz0, hz1, hz2⟩ := info_parts boolS.info
  go_enter Try.func30, Try.ntmps30
  go_wp2_with (first | (at_make; go_must (refine wpList_make_full _ rfl _ _ 43 rfl (w.heap.size + 1) 4 i0 (.bool false) 1 Try.underlying43 hi hz0 hz1 .i64 .i64 _ _ N rfl rfl ?_ ?_ ?_ ?_ ?_ ?_)))
  · simp
  · simp
  · rw [hz2]; omega
  · unfold maxLen; omega
  · simp
  intro w1 ho hg1
  have hS : ReS w (.slice na N nc) (.slice (some ⟨ub, 0, none⟩) 32 uc) (.slice (some ⟨rb, 0, none⟩) 32 rc) N (List.replicate N false) w1 :=
    ⟨Own.made1 (z := .bool false) false rfl (by rw [Nat.mul_one]; exact ho), by simp, ((Below.refl _ _).alloc (Nat.le_refl _) _).trans ((Below.refl _ _).grown hg1 (by simp) (fun k h => by cases h)), grown_block hg1 (heap_alloc_new _ _) (by simp)⟩
  have HS := Lib.hid hS
  have c1 := hS.c1
  have hsz := hS.size
  clear hS ho hg1 hi hz0 hz1 hz2
  go_wp2
  go_loopw [21] (fun i wr => ReL1 w (.slice na N nc) (.slice (some ⟨ub, 0, none⟩) 32 uc) (.slice (some ⟨rb, 0, none⟩) 32 rc) N i wr) (fun i _ => 32 - (intOf i).toNat)
  case atStart => exact ⟨0, _, by omega, rfl, HS.out⟩
  case round =>
    obtain ⟨k, zs, hk, rfl, hS⟩ := hrel.out
    clear hrel
    have HS := Lib.hid hS
    have hsz := hS.size
    have hsb := hS.sb
    have c2 := hS.c2
    clear hS
    by_cases hlt : k < 32
    · have u0 : wr.cell? ⟨ub, k, none⟩ = some (.bool (g.used.getD k false)) := (HS.out.old hub2).trans (HUC.out k hlt).1
      have r0 : wr.cell? ⟨rb, k, none⟩ = some (.int .i64 (g.roots.getD k 0)) := (HS.out.old hrb2).trans (HRC.out k hlt).1
      have hub3 : ub < wr.heap.size := by omega
      have hrb3 : rb < wr.heap.size := by omega
      cases hb : g.used.getD k false with
      | true =>
        obtain ⟨q1, q2⟩ := HOK.out.root k hb
        rw [HN.out] at q2
        rw [hb] at u0
        clear hb
        generalize g.roots.getD k 0 = r at r0 q1 q2
        obtain ⟨r, rfl⟩ := Int.eq_ofNat_of_zero_le q1
        have hrl : r < zs.length := by rw [HS.out.len]; omega
        obtain ⟨s0, f0⟩ := HS.out.at_ hrl
        have HM := Lib.hid (HS.out.mark hrl)
        have q3 : r < N := by omega
        generalize zs[r] = zr at s0
        clear hrl
        go_wp2
        go_roundw
        case rel => exact ⟨k + 1, _, by omega, by go_num, HM.out⟩
        case measure => simp [intOf]; omega
      | false =>
        rw [hb] at u0
        clear hb r0
        go_wp2
        go_roundw
        case rel => exact ⟨k + 1, _, by omega, by go_num, HS.out⟩
        case measure => simp [intOf]; omega
    · go_wp2
      go_loopw [6] (fun v wr => ReL2 w (.slice na N nc) (.slice (some ⟨ub, 0, none⟩) 32 uc) (.slice (some ⟨rb, 0, none⟩) 32 rc) N v wr) (fun v wr => 2 * cfW (w.heap.size + 1) N wr + gbit v)
      case atStart => exact ⟨_, _, rfl, HS.out⟩
      case round =>
        clear hk hlt hsz hsb c2 HS
        rename_i wq _ _ _
        obtain ⟨gb, zs, rfl, hS⟩ := hrel.out
        clear hrel
        have HS := Lib.hid hS
        have hsz := hS.size
        have hsb := hS.sb
        have c0 := hS.c0
        have hcf := hS.cfW
        have HCF := Lib.hid hcf
        clear hS hcf
        cases gb with
        | true =>
          go_wp2
          go_loopw [6, 39] (fun v i wr => ReL3 w (.slice na N nc) (.slice (some ⟨ub, 0, none⟩) 32 uc) (.slice (some ⟨rb, 0, none⟩) 32 rc) N (cf zs) N v i wr) (fun _ i _ => N - (intOf i).toNat)
          case atStart => exact ⟨0, false, zs, Nat.zero_le _, rfl, rfl, HS.out, Nat.le_refl _, by simp⟩
          case round =>
            obtain ⟨k, gb, zs2, hk, rfl, rfl, hS, hc1, hc2⟩ := hrel.out
            clear hrel
            have HS2 := Lib.hid hS
            have HC2 := Lib.hid hc2
            have hsz := hS.size
            have hsb := hS.sb
            have hzl := hS.len
            clear hS hc2
            by_cases hlt : k < N
            · have hltg : k < g.nodes.length := by rw [HN.out]; exact hlt
              obtain ⟨q, xa, xb, rfl, hq1, hq2, hqc0, hqc1, hxa, hxb⟩ := HGM.out.node_at hltg
              have HND := Lib.hid (HOK.out.node g.nodes[k] (List.getElem_mem hltg))
              obtain ⟨ra, rac, rfl⟩ := own_form hxa
              obtain ⟨da, dac, rfl⟩ := own_form hxb
              have hrl : (g.nodes[k]).refs.length ≤ 15 := HND.out.1
              generalize (g.nodes[k]).data.length = dl at hqc1
              generalize hrefs : (g.nodes[k]).refs = refs at *
              clear hrefs
              obtain ⟨m, hm⟩ : ∃ m, refs.length = m := ⟨_, rfl⟩
              rw [hm] at hqc0 hrl hxa
              have HM := Lib.hid hm
              clear hm
              have x0 : wr.cell? ⟨q, k * 2, none⟩ = some (.slice ra m rac) := (HS2.out.old hq2).trans hqc0
              have x1 : wr.cell? ⟨q, k * 2 + 1, none⟩ = some (.slice da dl dac) := (HS2.out.old hq2).trans hqc1
              have hq3 : q < wr.heap.size := by omega
              have HXA := Lib.hid hxa
              clear hxa hxb hqc0 hqc1
              go_wp2
              have HS3 := Lib.hid (HS2.out.alloc (.cells #[.slice ra m rac, .slice da dl dac] 64))
              go_loopw [6, 47] (fun v i wr => ReL3 w (.slice (some ⟨q, 0, none⟩) N nc) (.slice (some ⟨ub, 0, none⟩) 32 uc) (.slice (some ⟨rb, 0, none⟩) 32 rc) N (cf zs) m v i wr) (fun _ i _ => m - (intOf i).toNat)
              case atStart => exact ⟨0, gb, zs2, Nat.zero_le _, rfl, rfl, HS3.out, hc1, HC2.out⟩
              case round =>
                clear hc1 HC2 HS3 x0 x1 hsz hsb hzl hq3
                obtain ⟨j, gb3, zs3, hj, rfl, rfl, hS, hc1, hc2⟩ := hrel.out
                clear hrel
                have HS4 := Lib.hid hS
                have HC4 := Lib.hid hc2
                have hsz := hS.size
                have hsb := hS.sb
                have hzl := hS.len
                clear hS hc2
                by_cases hltj : j < m
                · have hjr : j < refs.length := by rw [HM.out]; exact hltj
                  obtain ⟨rq, rqc, e, _, _, hrq1, hrq2, hrqc, _⟩ := HXA.out.at1 hjr
                  simp only [Value.slice.injEq] at e
                  obtain ⟨rfl, e2, rfl⟩ := e
                  clear e2
                  have hrc0 : w.cell? ⟨rq, j, none⟩ = some (.int .i64 refs[j]) := by rw [hrqc]; rfl
                  clear hrqc
                  obtain ⟨hx1, hx2⟩ := HND.out.2.2 _ (List.getElem_mem hjr)
                  rw [HN.out] at hx2
                  generalize refs[j] = x at hrc0 hx1 hx2
                  have x2 : wr.cell? ⟨rq, j, none⟩ = some (.int .i64 x) := (HS4.out.old hrq2).trans hrc0
                  have hrq3 : rq < wr.heap.size := by omega
                  have hkz : k < zs3.length := by omega
                  obtain ⟨sk, _⟩ := HS4.out.at_ hkz
                  clear hrc0 hjr
                  cases hzk : zs3[k] with
                  | false =>
                    rw [hzk] at sk
                    clear hzk hkz
                    go_wp2
                    go_roundw
                    case rel => exact ⟨j + 1, gb3, zs3, by omega, by go_num, rfl, HS4.out, hc1, HC4.out⟩
                    case measure => simp [intOf]; omega
                  | true =>
                    rw [hzk] at sk
                    clear hzk hkz
                    by_cases hneg : x < 0
                    · have hd : decide (0 ≤ x) = false := by simp; omega
                      go_wp2
                      go_roundw
                      case rel => exact ⟨j + 1, gb3, zs3, by omega, by go_num, rfl, HS4.out, hc1, HC4.out⟩
                      case measure => simp [intOf]; omega
                    · have hd : decide (0 ≤ x) = true := by simp; omega
                      obtain ⟨y, rfl⟩ := Int.eq_ofNat_of_zero_le (show 0 ≤ x by omega)
                      have hyz : y < zs3.length := by omega
                      have hyN : y < N := by omega
                      obtain ⟨sy, fy⟩ := HS4.out.at_ hyz
                      have HMK := Lib.hid (HS4.out.mark hyz)
                      cases hzy : zs3[y] with
                      | true =>
                        rw [hzy] at sy
                        clear hzy hyz
                        go_wp2
                        go_roundw
                        case rel => exact ⟨j + 1, gb3, zs3, by omega, by go_num, rfl, HS4.out, hc1, HC4.out⟩
                        case measure => simp [intOf]; omega
                      | false =>
                        rw [hzy] at sy
                        have hcfs := cf_set hyz hzy
                        clear hzy hyz
                        go_wp2
                        go_roundw
                        case rel => exact ⟨j + 1, true, _, by omega, by go_num, rfl, HMK.out, by omega, fun _ => by omega⟩
                        case measure => simp [intOf]; omega
                · go_wp2
                  go_roundw
                  case rel => exact ⟨k + 1, gb3, zs3, by omega, by go_num, rfl, HS4.out, hc1, HC4.out⟩
                  case measure => simp [intOf]; omega
            · go_wp2
              go_roundw
              case rel => exact ⟨gb, zs2, rfl, HS2.out⟩
              case measure =>
                have h1 := HS2.out.cfW
                have h2 := HCF.out
                rw [h1, h2]
                have h3 := HC2.out
                cases gb <;> simp [gbit] <;> simp at h3 <;> omega
        | false =>
          go_wp2
          go_loopw [73, 11] (fun i v wr => ReL5 w (.slice na N nc) (.slice (some ⟨ub, 0, none⟩) 32 uc) (.slice (some ⟨rb, 0, none⟩) 32 rc) N i v wr) (fun i _ _ => N - (intOf i).toNat)
          case atStart => exact ⟨0, [], zs, Nat.zero_le _, rfl, HS.out, Own.nil _ _ _ _, by simp, by simp⟩
          case round =>
            clear HCF HS c0 hsz hsb
            obtain ⟨k, xs, zs, hk, rfl, hS, ho, hx1, hx2⟩ := hrel.out
            clear hrel
            have HS := Lib.hid hS
            have HO := Lib.hid ho
            have HX := Lib.hid hx2
            have hsz := hS.size
            have hsb := hS.sb
            have hzl := hS.len
            clear hS
            obtain ⟨oa, oc, rfl⟩ := own_form ho
            clear ho hx2
            by_cases hlt : k < N
            · have hkz : k < zs.length := by omega
              obtain ⟨sk, _⟩ := HS.out.at_ hkz
              generalize zs[k] = zb at sk
              clear hkz
              cases zb with
              | false =>
                go_wp2
                go_roundw
                case rel => exact ⟨k + 1, xs, zs, by omega, by go_num, HS.out, HO.out, by omega, fun x hx => by have := HX.out x hx; omega⟩
                case measure => simp [intOf]; omega
              | true =>
                have hB2 : w.heap.size + 1 + 1 ≤ wr.heap.size := by omega
                have hbytes : (xs.length + 1) * 8 ≤ 140737488355328 := by omega
                have hml : xs.length + 1 ≤ maxLen := by unfold maxLen; omega
                go_wp2_with (at_builtin; go_must (refine wpList_append_lit i64E i64S rfl _ _ rfl (w.heap.size + 1 + 1) _ xs rfl HO.out (k : Int) _ _ rfl rfl rfl ?_ hbytes hml hB2 (fun _ _ _ _ h => h) ?_))
                · simp [Value.oneCell']
                · intro v' w' ho hg hb2
                  have HS5 := Lib.hid ((HS.out.alloc _).grown2 hg (fun b hb => HO.out.ne (.inl (by omega))))
                  have HO5 := Lib.hid ho
                  clear ho hg hb2
                  go_wp2
                  go_roundw
                  case rel => exact ⟨k + 1, _, zs, by omega, by go_num, HS5.out, HO5.out, by simp; omega, fun x hx => by
                    rw [List.mem_append, List.mem_singleton] at hx
                    rcases hx with hx | rfl
                    · have := HX.out x hx; omega
                    · omega⟩
                  case measure => simp [intOf]; omega
            · go_wp2
              go_ret
              exact ⟨_, xs, rfl, HO.out.rd, fun x hx => by have := HX.out x hx; omega, by omega, HS.out.bel⟩
end Go.Proofs.Ytadoehlhfccacaa
