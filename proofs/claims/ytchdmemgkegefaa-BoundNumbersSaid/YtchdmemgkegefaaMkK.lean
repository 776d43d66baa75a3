/- The maker's complete configurations. Condition: a deck in memory. -/
import Derived.Test.YtchdmemgkegefaaMkC
import Derived.Test.YtchdmemgkegefaaBndG
namespace Go.Proofs.Ytchdmemgkegefaa
open Go.RowKit
set_option linter.unusedVariables false

/-- the last rule for all frames, and full rounds: it is complete -/
theorem cfOk_done {c : Cf} (h : CfOk c) {n : Nat} (hn : c.rules.length = n + 1) {r : Rl} (hr : c.rules[n]? = some r) {f : Int} (h1 : 1 ≤ f) (h2 : f ≤ 64) : CfDone ⟨c.name, c.rules.set n { r with s := 0 }, f⟩ := by
  obtain ⟨a1, a2, a3, a4, a5, a6⟩ := h
  have hnl : n < c.rules.length := by omega
  have hrn : c.rules[n] = r := by rw [List.getElem?_eq_getElem hnl] at hr; injection hr
  have e : (c.rules.set n { r with s := 0 }).length - 1 = n := by rw [List.length_set]; omega
  have key : ∀ h : (c.rules.set n { r with s := 0 }).length - 1 < (c.rules.set n { r with s := 0 }).length, FloatKind.f64.format.order ((c.rules.set n { r with s := 0 })[(c.rules.set n { r with s := 0 }).length - 1]).s 0 = some Ordering.eq := by
    intro h
    simp only [e, List.getElem_set_self]
    exact order0
  refine ⟨⟨a1, by rw [List.length_set]; exact a2, by rw [List.length_set]; exact a3, ?_, ?_, fun h => ?_⟩, key⟩
  · intro b hb
    dsimp only at hb ⊢
    rw [List.length_set] at hb ⊢
    rw [List.getElem_set]
    split
    · rename_i e2
      subst e2
      have := a4 n hb
      rw [hrn] at this
      exact ⟨share0, this.2⟩
    · exact a4 b hb
  · intro b hb1 hb2
    dsimp only at hb2 ⊢
    rw [List.length_set] at hb2
    obtain ⟨k, hk, hkb, ht⟩ := a5 b hb1 hb2
    refine ⟨k, by rw [List.length_set]; exact hk, hkb, ?_⟩
    rw [List.getElem_set]
    split
    · rename_i e2
      subst e2
      rw [hrn] at ht
      exact ht
    · exact ht
  · dsimp only
    rw [if_pos (key h)]
    exact ⟨h1, h2⟩

def CmpPost (w : World) (B g : Nat) (e : Ending) (w' : World) : Prop := ∃ v c, e = .returned v ∧ CfO w' w.heap.size v c ∧ (CfDone c ∧ c.full ≤ 6) ∧ DkW w B g w'

theorem cmp_end {w W : World} {B g : Nat} {c : Cf} {rv y0 y1 y2 : Value} {ts : Array Value} (hr : W.heap[w.heap.size]? = some (.cells #[y0, y1, y2] 24 (0, 0))) (hD : DkW w B g W) (hBw : B ≤ w.heap.size) (hne : w.heap.size ≠ g)
    (ho : Own ruleE W (w.heap.size + 1) 67 rv c.rules) (hok : CfDone c ∧ c.full ≤ 6) (hg : g < w.heap.size + 1) (ht : ts[2]? = some (.pointer (some ⟨w.heap.size, 0, none⟩))) :
    bodyPost Try.prog Try.f13 (CmpPost w B g) .ret ⟨ts, []⟩ (((W.setCell ⟨w.heap.size, 0, none⟩ (.string c.name)).setCell ⟨w.heap.size, 1, none⟩ rv).setCell ⟨w.heap.size, 2, none⟩ (.int .i64 c.full)) := by
  obtain ⟨hch, hb⟩ := ch3 (row := some g) (B := B) (B0 := w.heap.size) (X := [24]) hr (List.mem_singleton.2 rfl) (Nat.le_refl _) hBw (fun e => hne (by injection e)) (.string c.name) rv (.int .i64 c.full)
  have r0 : (((W.setCell ⟨w.heap.size, 0, none⟩ (.string c.name)).setCell ⟨w.heap.size, 1, none⟩ rv).setCell ⟨w.heap.size, 2, none⟩ (.int .i64 c.full)).cell? ⟨w.heap.size, 0, none⟩ = some (.string c.name) := by rw [cell_block hb]; rfl
  have r1 : (((W.setCell ⟨w.heap.size, 0, none⟩ (.string c.name)).setCell ⟨w.heap.size, 1, none⟩ rv).setCell ⟨w.heap.size, 2, none⟩ (.int .i64 c.full)).cell? ⟨w.heap.size, 1, none⟩ = some rv := by rw [cell_block hb]; rfl
  have r2 : (((W.setCell ⟨w.heap.size, 0, none⟩ (.string c.name)).setCell ⟨w.heap.size, 1, none⟩ rv).setCell ⟨w.heap.size, 2, none⟩ (.int .i64 c.full)).cell? ⟨w.heap.size, 2, none⟩ = some (.int .i64 c.full) := by rw [cell_block hb]; rfl
  have hO := hch.own ho (by decide) (fun g' e => by injection e with e; omega)
  have hW := ((hD.set (o := 0) (Nat.le_refl _) hne hBw (.string c.name)).set (o := 1) (Nat.le_refl _) hne hBw rv).set (o := 2) (Nat.le_refl _) hne hBw (.int .i64 c.full)
  generalize ((W.setCell ⟨w.heap.size, 0, none⟩ (.string c.name)).setCell ⟨w.heap.size, 1, none⟩ rv).setCell ⟨w.heap.size, 2, none⟩ (.int .i64 c.full) = V at *
  obtain ⟨ra, rl, rc, rfl⟩ := own_sl ho
  refine bodyPost_ret (v := .agg #[.string c.name, .slice ra rl rc, .int .i64 c.full]) (by simp [results, Try.results13, go_sem, ht, r0, r1, r2]) rfl ⟨_, c, rfl, ⟨_, rfl, hO.base (by omega)⟩, hok, hW⟩

set_option maxRecDepth 100000 in
set_option maxHeartbeats 8000000 in
theorem mkcomplete_any (B g : Nat) (w : World) (hd : Deck B w g) (hBw : B ≤ w.heap.size) : Calls Try.prog 13 #[.pointer (some ⟨g, 0, none⟩)] w (CmpPost w B g) := by
  have HD := Lib.hid hd
  have hgw := hd.lt
  clear hd
  go_enter Try.func13, Try.ntmps13
  go_wp2_with fail
  have h0 : DkW w B g (w.alloc (.cells #[.string ⟨#[]⟩, .slice none 0 0, .int .i64 0] 24)) := DkW.alloc ⟨HD.out, grown_refl _ _⟩ _
  refine (config_any B g _ h0.deck (by simp; omega)).mono ?_
  rintro e w1 ⟨v, c, rfl, ho, hok, hdk⟩
  have h1 : DkW w B g w1 := h0.next hdk.deck hdk.gr
  have hrv := grown_block hdk.gr (heap_alloc_new w _) (fun e => by injection e with e; omega)
  obtain ⟨rv, rfl, ho⟩ := ho
  obtain ⟨n, hn⟩ : ∃ n, c.rules.length = n + 1 := ⟨c.rules.length - 1, by have := hok.2.1; omega⟩
  have hn4 : n ≤ 3 := by have := hok.2.2.1; omega
  have hs0 : w.heap.size + 1 ≤ w1.heap.size := by have := hdk.gr.size; simpa using this
  obtain ⟨a, cap, e, hcap, hmx, hf⟩ := ho.rd
  subst e
  rcases hf with hf | ⟨q, off, rfl, hf⟩
  · rw [hf] at hn; simp at hn
  have hoff : off = 0 := by
    obtain ⟨C, ⟨_, h2⟩, _⟩ := ho
    rcases h2 with ⟨h2, _⟩ | ⟨g', cap', cur, h2, _⟩
    · cases h2
    · simp only [Value.slice.injEq, Option.some.injEq, Addr.mk.injEq] at h2
      exact h2.1.2.1
  subst hoff
  have hnl : n < c.rules.length := by omega
  have hv1 : DkW w B g (w1.alloc (.cells #[.string c.name, .slice (some ⟨q, 0, none⟩) c.rules.length cap, .int .i64 c.full] 24)) := h1.alloc _
  have hrv1 := alloc_block (o' := (.cells #[.string c.name, .slice (some ⟨q, 0, none⟩) c.rules.length cap, .int .i64 c.full] 24)) hrv
  have hbk1 := heap_alloc_new w1 (.cells #[.string c.name, .slice (some ⟨q, 0, none⟩) c.rules.length cap, .int .i64 c.full] 24)
  have ho1 := ho.alloc (.cells #[.string c.name, .slice (some ⟨q, 0, none⟩) c.rules.length cap, .int .i64 c.full] 24)
  have hqw1 : q < w1.heap.size := (ho.lt q rfl).2
  have hrn : c.rules[n]? = some c.rules[n] := List.getElem?_eq_getElem hnl
  have HDN : Hid (∀ f : Int, 1 ≤ f → f ≤ 64 → CfDone ⟨c.name, c.rules.set n { c.rules[n] with s := 0 }, f⟩) := Lib.hid (fun f h1 h2 => cfOk_done hok hn hrn h1 h2)
  have HV := Lib.hid hv1
  have HRV := Lib.hid hrv1
  have HBK := Lib.hid hbk1
  have HO1 := Lib.hid ho1
  have hdl := hv1.lt
  clear hv1 hrv1 hbk1 ho1 hrn hdk ho hrv h0 h1 hok hf
  go_upto_region 2 with (fail)
  generalize hV : w1.alloc (.cells #[.string c.name, .slice (some ⟨q, 0, none⟩) c.rules.length cap, .int .i64 c.full] 24) = V at *
  generalize w1.heap.size = q3 at *
  obtain ⟨hqB, hql, hc0, hcf, hset⟩ := HO1.out.setAt n 0 hnl (by decide)
  simp at hqB
  have hset := hset { c.rules[n] with s := 0 } (.float .f64 0) rfl
  have HSET := Lib.hid hset
  have ha0 : V.cell? ⟨q3, 0, none⟩ = some (.string c.name) := by rw [cell_block HBK.out]; rfl
  have ha1 : V.cell? ⟨q3, 1, none⟩ = some (.slice (some ⟨q, 0, none⟩) c.rules.length cap) := by rw [cell_block HBK.out]; rfl
  have ha2 : V.cell? ⟨q3, 2, none⟩ = some (.int .i64 c.full) := by rw [cell_block HBK.out]; rfl
  have hx0 : V.cell? ⟨q, n * 4, none⟩ = some (.float .f64 (c.rules[n]).s) := hc0
  have hxf : V.frozen? ⟨q, n * 4, none⟩ = false := hcf
  have hal := block_lt HBK.out
  clear hset hc0 hcf
  rw [hn] at *
  go_upto_region 3 with (fail)
  have hqg : q ≠ g := by omega
  have H2 : Hid (DkW w B g (V.setCell ⟨q, n * 4, none⟩ (.float .f64 0))) := Lib.hid (HV.out.set (by omega) hqg hBw _)
  have HR2 : Hid ((V.setCell ⟨q, n * 4, none⟩ (.float .f64 0)).heap[w.heap.size]? = _) := Lib.hid ((setCell_other _ (by omega)).trans HRV.out)
  have HB2 : Hid ((V.setCell ⟨q, n * 4, none⟩ (.float .f64 0)).heap[q3]? = _) := Lib.hid ((setCell_other _ (by omega)).trans HBK.out)
  have HO2 : Hid (Own ruleE (V.setCell ⟨q, n * 4, none⟩ (.float .f64 0)) (w.heap.size + 1) 67 (.slice (some ⟨q, 0, none⟩) (n + 1) cap) (c.rules.set n { c.rules[n] with s := 0 })) := Lib.hid (by have h := HSET.out; try rw [hn] at h; exact Own.base (E := ruleE) h (by simp))
  clear HSET ha0 ha1 ha2 hx0 hxf hal hql hV
  generalize V.setCell ⟨q, n * 4, none⟩ (.float .f64 0) = V2 at *
  go_wp2_with fail
  refine (next_any _ _ 6 _ H2.out.deck (by omega) (by omega)).mono ?_
  rintro e w4 ⟨r4, h40, h41, rfl, hd4, hg4⟩
  have H4 : Hid (DkW w B g w4) := Lib.hid (H2.out.next hd4 hg4)
  have hb4 := grown_block hg4 HB2.out (fun e => by injection e with e; omega)
  have hr4 := grown_block hg4 HR2.out (fun e => by injection e with e; omega)
  have HO4 := Lib.hid (HO2.out.kept hg4 (.inr (fun e => hqg (by injection e))) (fun _ _ h => h))
  have hwr : IntKind.i64.wrap (1 + r4) = 1 + r4 := IntWalk.i64_in _ (by omega)
  clear hd4 hg4
  have z2 : w4.cell? ⟨q3, 2, none⟩ = some (.int .i64 c.full) := by rw [cell_block hb4]; rfl
  have zf : w4.frozen? ⟨q3, 2, none⟩ = false := frozen_block hb4
  have hql4 := block_lt hb4
  have HB4 := Lib.hid hb4
  have HR4 := Lib.hid hr4
  clear hb4 hr4
  go_upto_region 4 with (fail)
  have hb5 := setCell_block (o := 2) HB4.out (.int .i64 (1 + r4))
  have hr5 : (w4.setCell ⟨q3, 2, none⟩ (.int .i64 (1 + r4))).heap[w.heap.size]? = _ := (setCell_other _ (by omega)).trans HR4.out
  have H5 : Hid (DkW w B g (w4.setCell ⟨q3, 2, none⟩ (.int .i64 (1 + r4)))) := Lib.hid (H4.out.set (by omega) (by omega) hBw _)
  have HO5 := Lib.hid ((Ch.set (o := 2) (row := some g) (B := 0) (B0 := 0) (X := [24]) HB4.out (List.mem_singleton.2 rfl) (Nat.zero_le _) (Nat.zero_le _) (fun e => by injection e with e; omega) (.int .i64 (1 + r4))).own HO4.out (by decide) (fun g' e => by injection e with e; omega))
  have z05 : (w4.setCell ⟨q3, 2, none⟩ (.int .i64 (1 + r4))).cell? ⟨q3, 0, none⟩ = some (.string c.name) := by rw [cell_block hb5]; rfl
  have z15 : (w4.setCell ⟨q3, 2, none⟩ (.int .i64 (1 + r4))).cell? ⟨q3, 1, none⟩ = some (.slice (some ⟨q, 0, none⟩) (n + 1) cap) := by rw [cell_block hb5]; rfl
  have z25 : (w4.setCell ⟨q3, 2, none⟩ (.int .i64 (1 + r4))).cell? ⟨q3, 2, none⟩ = some (.int .i64 (1 + r4)) := by rw [cell_block hb5]; rfl
  have o0 : (w4.setCell ⟨q3, 2, none⟩ (.int .i64 (1 + r4))).cell? ⟨w.heap.size, 0, none⟩ = some (.string ⟨#[]⟩) := by rw [cell_block hr5]; rfl
  have o1 : (w4.setCell ⟨q3, 2, none⟩ (.int .i64 (1 + r4))).cell? ⟨w.heap.size, 1, none⟩ = some (.slice none 0 0) := by rw [cell_block hr5]; rfl
  have o2 : (w4.setCell ⟨q3, 2, none⟩ (.int .i64 (1 + r4))).cell? ⟨w.heap.size, 2, none⟩ = some (.int .i64 0) := by rw [cell_block hr5]; rfl
  have p0 : (w4.setCell ⟨q3, 2, none⟩ (.int .i64 (1 + r4))).frozen? ⟨w.heap.size, 0, none⟩ = false := frozen_block hr5
  have p1 : (w4.setCell ⟨q3, 2, none⟩ (.int .i64 (1 + r4))).frozen? ⟨w.heap.size, 1, none⟩ = false := frozen_block hr5
  have p2 : (w4.setCell ⟨q3, 2, none⟩ (.int .i64 (1 + r4))).frozen? ⟨w.heap.size, 2, none⟩ = false := frozen_block hr5
  have hql5 := block_lt hb5
  have hrl5 := block_lt hr5
  have HR5 := Lib.hid hr5
  have HDF := Lib.hid (HDN.out (1 + r4) (by omega) (by omega))
  clear hb5 hr5 z2 zf
  generalize w4.setCell ⟨q3, 2, none⟩ (.int .i64 (1 + r4)) = V5 at *
  go_wp2_with fail
  refine @cmp_end w V5 B g ⟨c.name, c.rules.set n { c.rules[n] with s := 0 }, 1 + r4⟩ (.slice (some ⟨q, 0, none⟩) (n + 1) cap) _ _ _ _ HR5.out H5.out hBw (by omega) HO5.out ⟨HDF.out, by dsimp only; omega⟩ (by omega) ?_
  rfl
end Go.Proofs.Ytchdmemgkegefaa
