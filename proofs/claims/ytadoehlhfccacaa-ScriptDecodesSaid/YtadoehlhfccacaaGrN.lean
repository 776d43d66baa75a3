/- The reference model's New: an empty graph with 32 handles that are not in use. No condition. -/
import Derived.Test.YtadoehlhfccacaaGrF
import Derived.Test.YtadoehlhfccacaaReg2
import Derived.Deep.DeepCutAuto
namespace Go.Proofs.Ytadoehlhfccacaa
open Go.RowKit

/-- how a world grows: all blocks are as they were -/
def Gw (W W' : World) : Prop := ∀ k, k < W.heap.size → W'.heap[k]? = W.heap[k]?
/-- all blocks are as they were but those of a graph's box, which stay boxes -/
def Gb (W W' : World) : Prop := ∀ (k : Nat) (o : Obj), W.heap[k]? = some o → W'.heap[k]? = some o ∨ ∃ z0 z1 z2 y0 y1 y2, o = .cells #[z0, z1, z2] 45 (0, 0) ∧ W'.heap[k]? = some (.cells #[y0, y1, y2] 45 (0, 0))
theorem Gw.gb {W W' : World} (h : Gw W W') : Gb W W' := fun k _ ho => .inl (by rw [h k (block_lt ho)]; exact ho)
theorem Gw.alloc (W : World) (o : Obj) : Gw W (W.alloc o) := fun _ hk => Below.heap_alloc _ _ _ hk
theorem Own.gb {α : Type} {sz : Nat} {f : α → List Value} {hf : ∀ x, (f x).length = sz} {W W' : World} {B T : Nat} {v : Value} {xs : List α} (h : Own (flat sz f hf) W B T v xs) (hg : Gb W W') (hT : T ≠ 45) : Own (flat sz f hf) W' B T v xs := by
  obtain ⟨C, ⟨h1, h2⟩, hel⟩ := h
  refine ⟨C, ⟨h1, ?_⟩, hel⟩
  rcases h2 with h2 | ⟨g, cap, cur, hv, hB, hh, r⟩
  · exact .inl h2
  · refine .inr ⟨g, cap, cur, hv, hB, ?_, r⟩
    rcases hg g _ hh with h | ⟨_, _, _, _, _, _, h, _⟩
    · exact h
    · injection h with _ h; exact absurd h hT

/-- a box of a graph -/
def GBox (N b : Nat) (W : World) : Prop := N ≤ b ∧ ∃ z0 z1 z2, W.heap[b]? = some (.cells #[z0, z1, z2] 45 (0, 0))
theorem GBox.gb {N b : Nat} {W W' : World} (h : GBox N b W) (hg : Gb W W') : GBox N b W' := by
  obtain ⟨h1, z0, z1, z2, h2⟩ := h
  refine ⟨h1, ?_⟩
  rcases hg b _ h2 with h | ⟨_, _, _, y0, y1, y2, _, h⟩
  · exact ⟨_, _, _, h⟩
  · exact ⟨_, _, _, h⟩
theorem Gb.set {W : World} {b o : Nat} {z0 z1 z2 : Value} (h : W.heap[b]? = some (.cells #[z0, z1, z2] 45 (0, 0))) (v : Value) : Gb W (W.setCell ⟨b, o, none⟩ v) := by
  intro k x hx
  by_cases hk : k = b
  · subst hk
    rw [h] at hx
    injection hx with hx
    refine .inr ⟨z0, z1, z2, ?_⟩
    rw [setCell_block h]
    rcases o with _ | _ | _ | o
    · exact ⟨v, z1, z2, hx.symm, rfl⟩
    · exact ⟨z0, v, z2, hx.symm, rfl⟩
    · exact ⟨z0, z1, v, hx.symm, rfl⟩
    · exact ⟨z0, z1, z2, hx.symm, by simp⟩
  · exact .inl (by rw [setCell_other v hk]; exact hx)
theorem Gb.trans {A B C : World} (h : Gb A B) (k : Gb B C) : Gb A C := by
  intro i o ho
  rcases h i o ho with h | ⟨z0, z1, z2, y0, y1, y2, h1, h2⟩
  · exact k i o h
  · rcases k i _ h2 with k | ⟨_, _, _, x0, x1, x2, _, k⟩
    · exact .inr ⟨z0, z1, z2, _, _, _, h1, k⟩
    · exact .inr ⟨z0, z1, z2, _, _, _, h1, k⟩
theorem set3_block {w : World} {b : Nat} {T : TypeId} {z0 z1 z2 : Value} (h : w.heap[b]? = some (.cells #[z0, z1, z2] T (0, 0))) (v0 v1 v2 : Value) :
    (((w.setCell ⟨b, 0, none⟩ v0).setCell ⟨b, 1, none⟩ v1).setCell ⟨b, 2, none⟩ v2).heap[b]? = some (.cells #[v0, v1, v2] T (0, 0)) := by
  rw [setCell_block (setCell_block (setCell_block h _) _) _]; simp

theorem Own.setT {α : Type} {sz : Nat} {f : α → List Value} {hf : ∀ x, (f x).length = sz} {W : World} {B T T' q o : Nat} {v u : Value} {xs : List α} {cs : Array Value} (h : Own (flat sz f hf) W B T v xs) (hq : W.heap[q]? = some (.cells cs T' (0, 0))) (hT : T ≠ T') : Own (flat sz f hf) (W.setCell ⟨q, o, none⟩ u) B T v xs := by
  obtain ⟨C, ⟨h1, h2⟩, hel⟩ := h
  refine ⟨C, ⟨h1, ?_⟩, hel⟩
  rcases h2 with h2 | ⟨g, cap, cur, hv, hB, hh, r⟩
  · exact .inl h2
  · refine .inr ⟨g, cap, cur, hv, hB, ?_, r⟩
    rw [setCell_other u (fun e => ?_)]
    · exact hh
    · subst e
      rw [hq] at hh
      injection hh with hh
      injection hh with _ hh
      exact hT hh.symm
theorem Own.blk {α : Type} {E : El α} {W : World} {B T g n c : Nat} {xs : List α} (h : Own E W B T (.slice (some ⟨g, 0, none⟩) n c) xs) : ∃ cs, W.heap[g]? = some (.cells cs T (0, 0)) := by
  obtain ⟨C, ⟨h1, h2⟩, hel⟩ := h
  rcases h2 with ⟨h2, _⟩ | ⟨q, cap, cur, hv, hB, hh, r⟩
  · cases h2
  · simp only [Value.slice.injEq, Option.some.injEq, Addr.mk.injEq, and_true] at hv
    rw [hv.1]
    exact ⟨_, hh⟩
/-- make of elements of one cell -/
theorem run_make_els {P : Program} {α : Type} {f : α → List Value} {hf : ∀ x, (f x).length = 1} {st T bytes : Nat} {z : Value} (S : SlT P st T 1 bytes z) (x0 : α) (hz : f x0 = z.cells.toList) (B : Nat) (W : World) (kl kc : IntKind) (n : Nat)
    (hb : bytes * n ≤ 281474976710656) (hn : n ≤ maxLen) (hB : B ≤ W.heap.size) :
    ∃ W', (Instr.makeSlice st (.int kl (n : Int)) (.int kc (n : Int))).run P W = .ok (.slice (some ⟨W.heap.size, 0, none⟩) n n) W' ∧ Own (flat 1 f hf) W' B T (.slice (some ⟨W.heap.size, 0, none⟩) n n) (List.replicate n x0) ∧ W.grownBy W' none := by
  obtain ⟨i0, hi, hz0, hz1, hz2⟩ := info_parts S.info
  obtain ⟨W', h1, h2, h3⟩ := run_make_full (P := P) W B st T i0 z 1 S.und hi hz0 hz1 kl kc n (by rw [hz2]; exact hb) hn hB
  exact ⟨W', h1, Own.made1 (z := z) x0 hz h2, h3⟩
theorem Gw.grown {W W' : World} (h : W.grownBy W' none) : Gw W W' := fun k hk => h.block k hk (by simp)
def NewF (N : Nat) : Nat → Act → World → Prop
  | 0, a, W => ∃ uv, a.tmps[3]? = some uv ∧ Own boolE W N 4 uv (List.replicate 32 false)
  | 1, a, W => ∃ rv, a.tmps[4]? = some rv ∧ Own i64E W N 3 rv (List.replicate 32 0)
  | 2, a, W => ∃ uv rv, a.tmps[5]? = some (.agg #[.slice none 0 0, uv, rv]) ∧ Own boolE W N 4 uv (List.replicate 32 false) ∧ Own i64E W N 3 rv (List.replicate 32 0)
  | 3, a, W => ∃ b, a.tmps[1]? = some (.pointer (some ⟨b, 0, none⟩)) ∧ GBox N b W
  | 4, a, W => ∃ b uv rv, a.tmps[1]? = some (.pointer (some ⟨b, 0, none⟩)) ∧ N ≤ b ∧ W.heap[b]? = some (.cells #[.slice none 0 0, uv, rv] 45 (0, 0)) ∧ Own boolE W N 4 uv (List.replicate 32 false) ∧ Own i64E W N 3 rv (List.replicate 32 0)
  | _, _, _ => True
def newLoc : Nat → List Nat | 0 => [3] | 1 => [4] | 2 => [5] | 3 => [1] | 4 => [1] | _ => []
def NewG (w0 : World) (W : World) : Prop := Below w0.heap.size w0 W ∧ W.heap[w0.heap.size]? = some (.cells #[.slice none 0 0, .slice none 0 0, .slice none 0 0] 45 (0, 0))
theorem NewG.gw {w0 W W' : World} (h : NewG w0 W) (hg : W.grownBy W' none) : NewG w0 W' := ⟨h.1.trans ((Below.refl _ _).grown hg h.1.size (fun k e => by cases e)), by rw [hg.block _ (block_lt h.2) (by simp)]; exact h.2⟩
theorem NewG.size {w0 W : World} (h : NewG w0 W) : w0.heap.size + 1 ≤ W.heap.size := block_lt h.2

def NewE : Nat → World → World → Prop | 4, W, W' => Gb W W' | _, W, W' => Gw W W'
theorem NewF.loc (N : Nat) : ∀ j a d v w, d ∉ newLoc j → NewF N j a w → NewF N j (a.put (some d) v) w := by
  intro j a d v w hd h
  match j with
  | 0 | 1 | 2 | 3 | 4 =>
    simp only [newLoc, List.mem_singleton] at hd
    simp only [NewF] at h ⊢
    rw [put_same hd]
    exact h
  | _ + 5 => trivial
theorem NewF.keep (N : Nat) : ∀ j a W W', j ≠ 4 → Gb W W' → NewF N j a W → NewF N j a W' := by
  intro j a W W' hj hg h
  match j with
  | 0 => obtain ⟨uv, h1, h2⟩ := h; exact ⟨uv, h1, h2.gb hg (by decide)⟩
  | 1 => obtain ⟨uv, h1, h2⟩ := h; exact ⟨uv, h1, h2.gb hg (by decide)⟩
  | 2 => obtain ⟨uv, rv, h1, h2, h3⟩ := h; exact ⟨uv, rv, h1, h2.gb hg (by decide), h3.gb hg (by decide)⟩
  | 3 => obtain ⟨b, h1, h2⟩ := h; exact ⟨b, h1, h2.gb hg⟩
  | 4 => exact absurd rfl hj
  | _ + 5 => trivial
theorem NewF.keep4 (N : Nat) {a : Act} {W W' : World} (hg : Gw W W') (h : NewF N 4 a W) : NewF N 4 a W' := by
  obtain ⟨b, uv, rv, h1, h2, h3, h4, h5⟩ := h
  exact ⟨b, uv, rv, h1, h2, by rw [hg b (block_lt h3)]; exact h3, h4.keep hg, h5.keep hg⟩
theorem newE_gb {i : Nat} {W W' : World} (h : NewE i W W') : Gb W W' := by
  unfold NewE at h
  split at h
  · exact h
  · exact h.gb
theorem newE_gw {i : Nat} {W W' : World} (h : NewE i W W') (hi : i ≠ 4) : Gw W W' := by
  unfold NewE at h
  split at h
  · exact absurd rfl hi
  · exact h
theorem NewF.stab (N : Nat) : ∀ i j a W W', i ≠ j → NewE i W W' → NewF N j a W → NewF N j a W' := by
  intro i j a W W' hij he h
  by_cases hj : j = 4
  · subst hj
    exact h.keep4 N (newE_gw he hij)
  · exact NewF.keep N j a W W' hj (newE_gb he) h

def NewL (w0 : World) (b : Nat) (ua : Option Addr) (uc rb rc : Nat) (i : Value) (W : World) : Prop :=
  ∃ (k : Nat) (xs : List Int), k ≤ 32 ∧ i = .int .i64 k ∧ xs.length = 32 ∧ Own i64E W (w0.heap.size + 1) 3 (.slice (some ⟨rb, 0, none⟩) 32 rc) xs ∧ Own boolE W (w0.heap.size + 1) 4 (.slice ua 32 uc) (List.replicate 32 false) ∧
    W.heap[b]? = some (.cells #[.slice none 0 0, .slice ua 32 uc, .slice (some ⟨rb, 0, none⟩) 32 rc] 45 (0, 0)) ∧ NewG w0 W
theorem NewL.out {w0 : World} {b : Nat} {ua : Option Addr} {uc rb rc : Nat} {i : Value} {W : World} (h : NewL w0 b ua uc rb rc i W) :
  ∃ (k : Nat) (xs : List Int), k ≤ 32 ∧ i = .int .i64 k ∧ xs.length = 32 ∧ Own i64E W (w0.heap.size + 1) 3 (.slice (some ⟨rb, 0, none⟩) 32 rc) xs ∧ Own boolE W (w0.heap.size + 1) 4 (.slice ua 32 uc) (List.replicate 32 false) ∧
    W.heap[b]? = some (.cells #[.slice none 0 0, .slice ua 32 uc, .slice (some ⟨rb, 0, none⟩) 32 rc] 45 (0, 0)) ∧ NewG w0 W := h
theorem NewG.set {w0 W : World} {q o : Nat} {u : Value} (h : NewG w0 W) (hq : w0.heap.size < q) : NewG w0 (W.setCell ⟨q, o, none⟩ u) :=
  ⟨bset h.1 (by omega) u, by rw [setCell_other u (by omega)]; exact h.2⟩

set_option maxRecDepth 100000 in
set_option maxHeartbeats 1000000 in
theorem gnew_any (w : World) :
    Calls Try.prog 20 #[] w fun e w' => ∃ rb nv uv rv g, e = .returned (.agg #[nv, uv, rv]) ∧ GrM w' w.heap.size rb nv uv rv g ∧ GrOk 0 g ∧ Below w.heap.size w w' := by
  go_enter Try.func20, Try.ntmps20
  go_wp2_with fail
  go_cut [1] (fun v W => ∃ b uv rv, v = .pointer (some ⟨b, 0, none⟩) ∧ w.heap.size + 1 ≤ b ∧ W.heap[b]? = some (.cells #[.slice none 0 0, uv, rv] 45 (0, 0)) ∧ Own boolE W (w.heap.size + 1) 4 uv (List.replicate 32 false) ∧ Own i64E W (w.heap.size + 1) 3 rv (List.replicate 32 0) ∧ NewG w W)
  case first =>
    refine wp_region_facts2 (by kernel_rfl) (fun _ => NewG w) NewE (NewF (w.heap.size + 1)) newLoc (by kernel_rfl) (by kernel_rfl) (by kernel_rfl) (NewF.loc _) (fun i j a W W' h _ => NewF.stab _ i j a W W' h) ⟨((Below.refl _ _).alloc (Nat.le_refl _) _).drew, heap_alloc_new _ _⟩ ?_ ?_
    · refine RSteps2.cons (RStep2.mk rfl rfl fun t W hsz hout L hun hdn hG hdep K hK => ?_) ?_
      · have hsl : 3 < t.size := by rw [show t.size = 18 from hsz]; decide
        clear hsz hun hdn
        obtain ⟨W', hr, ho, hg⟩ := run_make_els (f := fun b => [Value.bool b]) (hf := fun _ => rfl) boolS false rfl (w.heap.size + 1) W .i64 .i64 32 (by omega) (by unfold maxLen; omega) hG.size
        have hr' : (Instr.makeSlice 43 (.int .i64 32) (.int .i64 32)).run Try.prog W = .ok (.slice (some ⟨W.heap.size, 0, none⟩) 32 32) W' := hr
        clear hout hdep hr
        go_simp
        exact hK.out _ _ (hG.gw hg) (Gw.grown hg) ⟨_, put_here hsl, ho⟩
      refine RSteps2.cons (RStep2.mk rfl rfl fun t W hsz hout L hun hdn hG hdep K hK => ?_) ?_
      · have hsl : 4 < t.size := by rw [show t.size = 18 from hsz]; decide
        clear hsz hun hdn
        obtain ⟨W', hr, ho, hg⟩ := run_make_els (f := fun b => [Value.int .i64 b]) (hf := fun _ => rfl) i64S 0 rfl (w.heap.size + 1) W .i64 .i64 32 (by omega) (by unfold maxLen; omega) hG.size
        have hr' : (Instr.makeSlice 29 (.int .i64 32) (.int .i64 32)).run Try.prog W = .ok (.slice (some ⟨W.heap.size, 0, none⟩) 32 32) W' := hr
        clear hout hdep hr
        go_simp
        exact hK.out _ _ (hG.gw hg) (Gw.grown hg) ⟨_, put_here hsl, ho⟩
      refine RSteps2.cons (RStep2.mk rfl rfl fun t W hsz hout L hun hdn hG hdep K hK => ?_) ?_
      · have hsl : 5 < t.size := by rw [show t.size = 18 from hsz]; decide
        clear hsz hun hdn
        obtain ⟨uv, t3, hu⟩ := hdep 0 (by kernel_rfl)
        obtain ⟨rv, t4, hv⟩ := hdep 1 (by kernel_rfl)
        obtain ⟨ua, uc, rfl⟩ := own_form hu
        obtain ⟨ra, rc, rfl⟩ := own_form hv
        have t3' : t[3]? = some (.slice ua (List.replicate 32 false).length uc) := t3
        have t4' : t[4]? = some (.slice ra (List.replicate 32 (0 : Int)).length rc) := t4
        clear t3 t4
        have HS := Lib.hid hsl
        clear hsl
        clear hout hdep
        go_simp
        exact hK.out _ _ hG (fun _ _ => rfl) ⟨_, _, put_here HS.out, hu, hv⟩
      refine RSteps2.cons (RStep2.mk rfl rfl fun t W hsz hout L hun hdn hG hdep K hK => ?_) ?_
      · have hsl : 1 < t.size := by rw [show t.size = 18 from hsz]; decide
        clear hsz hun hdn
        clear hout hdep
        go_simp
        exact hK.out _ _ (hG.gw (World.grownBy_alloc _ _ _)) (Gw.alloc _ _) ⟨_, put_here hsl, hG.size, _, _, _, heap_alloc_new _ _⟩
      refine RSteps2.cons (RStep2.mk rfl rfl fun t W hsz hout L hun hdn hG hdep K hK => ?_) ?_
      · clear hsz hun hdn
        obtain ⟨uv, rv, t5, hu, hv⟩ := hdep 2 (by kernel_rfl)
        obtain ⟨b, t1, hb, z0, z1, z2, hk⟩ := hdep 3 (by kernel_rfl)
        obtain ⟨ua, uc, rfl⟩ := own_form hu
        obtain ⟨ra, rc, rfl⟩ := own_form hv
        have c0 : W.cell? ⟨b, 0, none⟩ = some z0 := by rw [cell_block hk]; rfl
        have c1 : W.cell? ⟨b, 1, none⟩ = some z1 := by rw [cell_block hk]; rfl
        have c2 : W.cell? ⟨b, 2, none⟩ = some z2 := by rw [cell_block hk]; rfl
        have f0 : W.frozen? ⟨b, 0, none⟩ = false := frozen_block hk
        have f1 : W.frozen? ⟨b, 1, none⟩ = false := frozen_block hk
        have f2 : W.frozen? ⟨b, 2, none⟩ = false := frozen_block hk
        have hbl := block_lt hk
        have t1' : t[1]? = some (.pointer (some ⟨b, 0, none⟩)) := t1
        have t5' : t[5]? = some (.agg #[.slice none 0 0, .slice ua (List.replicate 32 false).length uc, .slice ra (List.replicate 32 (0 : Int)).length rc]) := t5
        have T1 := Lib.hid t1
        clear hout hdep t1 t5
        go_simp
        have g0 := Gb.set hk (o := 0) (Value.slice none 0 0)
        have k0 := setCell_block (o := 0) hk (Value.slice none 0 0)
        have g1 := Gb.set k0 (o := 1) (Value.slice ua (List.replicate 32 false).length uc)
        have k1 := setCell_block (o := 1) k0 (Value.slice ua (List.replicate 32 false).length uc)
        have g2 := Gb.set k1 (o := 2) (Value.slice ra (List.replicate 32 (0 : Int)).length rc)
        have k2 := setCell_block (o := 2) k1 (Value.slice ra (List.replicate 32 (0 : Int)).length rc)
        have gg := (g0.trans g1).trans g2
        refine hK.out undef _ ⟨?_, ?_⟩ gg ⟨b, _, _, T1.out, hb, k2, hu.gb gg (by decide), hv.gb gg (by decide)⟩
        · exact bset (bset (bset hG.1 (by omega) _) (by omega) _) (by omega) _
        · rw [setCell_other _ (by omega), setCell_other _ (by omega), setCell_other _ (by omega)]; exact hG.2
      exact RSteps2.nil (by decide)
    · intro a' W hR
      have hG := hR.g
      have o2 := hR.out 2 (by kernel_rfl)
      obtain ⟨b, uv, rv, t1, hb, hk, hu, hv⟩ := hR.all (i := 4) (by decide)
      obtain ⟨us, hus, rfl⟩ := hR.frame rfl 1 5 (by intro k hk; simp [writes]; omega) (by simp)
      clear hR
      obtain ⟨v0, us0, rfl, hus0⟩ := list_next hus
      obtain ⟨v1, us1, rfl, hus1⟩ := list_next hus0
      obtain ⟨v2, us2, rfl, hus2⟩ := list_next hus1
      obtain ⟨v3, us3, rfl, hus3⟩ := list_next hus2
      obtain ⟨v4, us4, rfl, hus4⟩ := list_next hus3
      obtain rfl := list_none hus4
      simp only [List.take_succ_cons, List.take_zero, List.drop_succ_cons, List.drop_zero, List.cons_append, List.nil_append] at t1 o2 ⊢
      have e2 : v1 = undef := by simpa using o2
      subst e2
      clear o2
      have e1 : v0 = .pointer (some ⟨b, 0, none⟩) := by simpa using t1
      subst e1
      have HG := Lib.hid hG
      have HK := Lib.hid hk
      have HUU := Lib.hid hu
      have HVV := Lib.hid hv
      clear hG hk hu hv t1
      go_wp2_with fail
      go_meet
      case rel => exact ⟨b, uv, rv, rfl, hb, HK.out, HUU.out, HVV.out, HG.out⟩
  case rest =>
    obtain ⟨b, uv, rv, rfl, hb, hk, hu, hv, hG⟩ := hcut
    obtain ⟨ua, uc, rfl⟩ := own_form hu
    obtain ⟨rb, rc, rfl, hr1, hr2, hr3, hr4, _⟩ := hv.at1 (k := 0) (by simp)
    simp only [List.length_replicate] at hk hr1 hu hv
    have c2 : wc.cell? ⟨b, 2, none⟩ = some (.slice (some ⟨rb, 0, none⟩) 32 rc) := by rw [cell_block hk]; rfl
    have HK := Lib.hid hk
    have HU := Lib.hid hu
    have HV := Lib.hid hv
    have HG := Lib.hid hG
    have hbl := block_lt hk
    clear hk hu hv hG
    go_wp2
    go_loopw [9] (fun i wr => NewL w b ua uc rb rc i wr) (fun i _ => 32 - (intOf i).toNat)
    case atStart => exact ⟨0, _, by omega, rfl, by simp, HV.out, HU.out, HK.out, HG.out⟩
    case round =>
      obtain ⟨k, xs, hk, rfl, hxl, hv, hu, hkk, hG⟩ := hrel.out
      clear hrel
      have c2 : wr.cell? ⟨b, 2, none⟩ = some (.slice (some ⟨rb, 0, none⟩) 32 rc) := by rw [cell_block hkk]; rfl
      have hbl := block_lt hkk
      obtain ⟨cs, hrb⟩ := hv.blk
      have hrbl := block_lt hrb
      by_cases hlt : k < 32
      · obtain ⟨_, _, hc, hf, hset⟩ := hv.set1 k (by omega)
        have hc' : wr.cell? ⟨rb, k, none⟩ = some (.int .i64 xs[k]) := by rw [hc]; rfl
        have HX := Lib.hid (hset (-1) (.int .i64 (-1)) rfl)
        have HU := Lib.hid (hu.setT (o := k) (u := .int .i64 (-1)) hrb (by decide))
        have HB := Lib.hid hkk
        have HG := Lib.hid hG
        have HR := Lib.hid hrb
        clear hv hu hkk hG hc hset hrb
        go_wp2
        go_roundw
        case rel =>
          refine ⟨k + 1, _, by omega, by go_num, by simp [hxl], HX.out, HU.out, ?_, HG.out.set ?_⟩
          · rw [setCell_other _ (fun e => ?_)]
            · exact HB.out
            · subst e
              have := HR.out
              rw [HB.out] at this
              injection this with this
              injection this with _ this
              exact absurd this (by decide)
          · omega
        case measure => simp [intOf]; omega
      · have c0 : wr.cell? ⟨b, 0, none⟩ = some (.slice none 0 0) := by rw [cell_block hkk]; rfl
        have c1 : wr.cell? ⟨b, 1, none⟩ = some (.slice ua 32 uc) := by rw [cell_block hkk]; rfl
        have d0 : wr.cell? ⟨w.heap.size, 0, none⟩ = some (.slice none 0 0) := by rw [cell_block hG.2]; rfl
        have d1 : wr.cell? ⟨w.heap.size, 1, none⟩ = some (.slice none 0 0) := by rw [cell_block hG.2]; rfl
        have d2 : wr.cell? ⟨w.heap.size, 2, none⟩ = some (.slice none 0 0) := by rw [cell_block hG.2]; rfl
        have f0 : wr.frozen? ⟨w.heap.size, 0, none⟩ = false := frozen_block hG.2
        have f1 : wr.frozen? ⟨w.heap.size, 1, none⟩ = false := frozen_block hG.2
        have f2 : wr.frozen? ⟨w.heap.size, 2, none⟩ = false := frozen_block hG.2
        have hwl := block_lt hG.2
        have HX := Lib.hid hv
        have HU := Lib.hid hu
        have HB := Lib.hid hG.1
        have HW := Lib.hid hG.2
        clear hv hu hkk hG hrb
        go_wp2
        have k0 := setCell_block (o := 0) HW.out (.slice none 0 0)
        have k1 := setCell_block (o := 1) k0 (.slice ua 32 uc)
        have k3 := set3_block HW.out (.slice none 0 0) (.slice ua 32 uc) (.slice (some ⟨rb, 0, none⟩) 32 rc)
        have HXX := Lib.hid ((((HX.out.setT HW.out (by decide)).setT k0 (by decide)).setT k1 (by decide)) : Own i64E (((wr.setCell ⟨w.heap.size, 0, none⟩ (.slice none 0 0)).setCell ⟨w.heap.size, 1, none⟩ (.slice ua 32 uc)).setCell ⟨w.heap.size, 2, none⟩ (.slice (some ⟨rb, 0, none⟩) 32 rc)) _ _ _ _)
        have HUU := Lib.hid ((((HU.out.setT HW.out (by decide)).setT k0 (by decide)).setT k1 (by decide)) : Own boolE (((wr.setCell ⟨w.heap.size, 0, none⟩ (.slice none 0 0)).setCell ⟨w.heap.size, 1, none⟩ (.slice ua 32 uc)).setCell ⟨w.heap.size, 2, none⟩ (.slice (some ⟨rb, 0, none⟩) 32 rc)) _ _ _ _)
        have HBB := Lib.hid (bset (b := w.heap.size) (o := 2) (bset (b := w.heap.size) (o := 1) (bset (b := w.heap.size) (o := 0) HB.out (by omega) (.slice none 0 0)) (by omega) (.slice ua 32 uc)) (by omega) (.slice (some ⟨rb, 0, none⟩) 32 rc))
        generalize ((wr.setCell ⟨w.heap.size, 0, none⟩ (.slice none 0 0)).setCell ⟨w.heap.size, 1, none⟩ (.slice ua 32 uc)).setCell ⟨w.heap.size, 2, none⟩ (.slice (some ⟨rb, 0, none⟩) 32 rc) = Wf at k3 HXX HUU HBB ⊢
        have e0 : Wf.cell? ⟨w.heap.size, 0, none⟩ = some (.slice none 0 0) := by rw [cell_block k3]; rfl
        have e1 : Wf.cell? ⟨w.heap.size, 1, none⟩ = some (.slice ua 32 uc) := by rw [cell_block k3]; rfl
        have e2 : Wf.cell? ⟨w.heap.size, 2, none⟩ = some (.slice (some ⟨rb, 0, none⟩) 32 rc) := by rw [cell_block k3]; rfl
        refine bodyPost_ret (v := .agg #[.slice none 0 0, .slice ua 32 uc, .slice (some ⟨rb, 0, none⟩) 32 rc]) (by simp [results, Try.results20, go_sem, e0, e1, e2]) rfl ⟨rb, _, _, _, ⟨[], List.replicate 32 false, xs⟩, rfl, ⟨Own.nil _ _ _ _, HUU.out.base (by omega), HXX.out.base (by omega), rfl⟩, ⟨by simp, hxl, by simp, ?_, by simp⟩, HBB.out⟩
        intro i hi
        have hi' : (List.replicate 32 false).getD i false = true := hi
        rw [List.getD_eq_getElem?_getD, List.getElem?_replicate] at hi'
        split at hi' <;> simp at hi'
end Go.Proofs.Ytadoehlhfccacaa
