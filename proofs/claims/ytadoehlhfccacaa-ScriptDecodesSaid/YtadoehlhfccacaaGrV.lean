/- The reference model's Live: some number, for a valid graph. -/
import Derived.Test.YtadoehlhfccacaaGrR
namespace Go.Proofs.Ytadoehlhfccacaa
open Go.RowKit

theorem below_drewN {N : Nat} {w W : World} (h : Below N w W) (n : Nat) : Below N w (W.drewN n) := by cases h; constructor <;> assumption
def LvL (w0 : World) (b : World) (n : Value) (W : World) : Prop := ∃ (z : Int) (q : Nat), n = .int .i64 z ∧ W = b.drewN q ∧ Below w0.heap.size w0 W
theorem LvL.out {w0 b : World} {n : Value} {W : World} (h : LvL w0 b n W) : ∃ (z : Int) (q : Nat), n = .int .i64 z ∧ W = b.drewN q ∧ Below w0.heap.size w0 W := h

set_option maxRecDepth 100000 in
set_option maxHeartbeats 4000000 in
theorem live_any (w : World) (B rb : Nat) (nv uv rv : Value) (g : Gr) (hg : GrM w B rb nv uv rv g) (n : Nat) (hok : GrOk n g) (hn : n ≤ 1000) :
    Calls Try.prog 27 #[.agg #[nv, uv, rv]] w fun e w' => ∃ z : Int, e = .returned (.int .i64 z) ∧ Below w.heap.size w w' := by
  have HGM := Lib.hid hg
  have HOK := Lib.hid hok
  have hnl : g.nodes.length ≤ 1000 := Nat.le_trans hok.nl hn
  obtain ⟨na, nc, ua, uc, rc, rfl, rfl, rfl⟩ := hg.forms
  generalize hul : g.used.length = ul at *
  generalize hrl : g.roots.length = rl at *
  clear hul hrl
  clear hg hok
  go_enter Try.func27, Try.ntmps27
  go_wp2_with fail
  refine (reach_any _ B rb _ _ _ g (HGM.out.below ((Below.refl _ _).alloc (Nat.le_refl _) _)) n HOK.out hn).mono ?_
  rintro e w1 ⟨v, xs, rfl, hv, hx, hxl, hb1⟩
  have hbox : w1.heap[w.heap.size]? = some (.cells #[.slice na g.nodes.length nc, .slice ua ul uc, .slice (some ⟨rb, 0, none⟩) rl rc] 45 (0, 0)) := below_block hb1 (by simp) (heap_alloc_new _ _)
  have hbel : Below w.heap.size w w1 := ((Below.refl _ _).alloc (Nat.le_refl _) _).trans (hb1.mono (by simp))
  have HV := Lib.hid hv
  have HX := Lib.hid hx
  have HB := Lib.hid hbel
  have HBX := Lib.hid hbox
  have hsz := block_lt hbox
  obtain ⟨va, vc, rfl, hvc1, hvc2, hvd⟩ := hv.flat
  have HVD := Lib.hid hvd
  unfold maxLen at hvc2
  clear hv hx hbel hbox hb1 hvd
  go_wp2
  go_loopw [9, 3] (fun i n wr => ∃ k : Nat, k ≤ xs.length ∧ i = .int .i64 k ∧ LvL w w1 n wr) (fun i _ _ => xs.length - (intOf i).toNat)
  case atStart => exact ⟨0, Nat.zero_le _, rfl, 0, 0, rfl, rfl, HB.out⟩
  case round =>
    obtain ⟨k, hk, rfl, hl⟩ := hrel
    obtain ⟨z, q, rfl, rfl, hbel⟩ := hl.out
    have HBL := Lib.hid hbel
    clear hl hbel
    by_cases hlt : k < xs.length
    · obtain ⟨b, off, rfl, hb, hcells⟩ := HVD.out.resolve_left (fun e => by simp [e] at hlt)
      have hb := hb (by decide)
      have hc := hcells k hlt 0 (by decide)
      simp at hc
      obtain ⟨hx1, hx2⟩ := HX.out _ (List.getElem_mem hlt)
      generalize xs[k] = x at hc hx1 hx2
      obtain ⟨y, rfl⟩ := Int.eq_ofNat_of_zero_le hx1
      have hy : y < g.nodes.length := by omega
      obtain ⟨nq, xa, xb, rfl, hq1, hq2, hqc0, hqc1, hxa, hxb⟩ := HGM.out.node_at hy
      obtain ⟨ra, rac, rfl⟩ := own_form hxa
      obtain ⟨da, dac, rfl⟩ := own_form hxb
      have hnd := HOK.out.node g.nodes[y] (List.getElem_mem hy)
      generalize g.nodes[y] = nd at *
      have hr1 : nd.refs.length ≤ 15 := hnd.1
      have hr2 : nd.data.length ≤ 32 := hnd.2.1
      generalize nd.refs.length = r1 at *
      generalize nd.data.length = r2 at *
      have x0 : w1.cell? ⟨nq, y * 2, none⟩ = some (.slice ra r1 rac) := (HB.out.cell (p := ⟨nq, y * 2, none⟩) hq2).trans hqc0
      have x1 : w1.cell? ⟨nq, y * 2 + 1, none⟩ = some (.slice da r2 dac) := (HB.out.cell (p := ⟨nq, y * 2 + 1, none⟩) hq2).trans hqc1
      have c0 : w1.cell? ⟨w.heap.size, 0, none⟩ = some (.slice (some ⟨nq, 0, none⟩) g.nodes.length nc) := by rw [cell_block HBX.out]; rfl
      clear hcells hxa hxb hqc0 hqc1 hnd
      generalize g.nodes.length = N at *
      have hy0 : (0 : Int) ≤ y := Int.natCast_nonneg _
      have hy1 : (y : Int) < N := by omega
      have hnq : nq < w1.heap.size := by omega
      go_wp2_with fail
      go_quiet (fail)
      go_wp2
      go_roundw
      case rel => exact ⟨k + 1, by omega, by go_num, _, _, rfl, rfl, below_drewN HB.out _⟩
      case measure => simp [intOf]; omega
    · go_wp2
      go_ret
      exact ⟨z, rfl, HBL.out⟩
end Go.Proofs.Ytadoehlhfccacaa
