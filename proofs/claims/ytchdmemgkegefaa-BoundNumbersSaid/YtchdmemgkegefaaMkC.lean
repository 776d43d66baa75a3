/- The maker's configurations: permitted ones. Condition: a deck in memory. -/
import Derived.Test.YtchdmemgkegefaaMkS
import Derived.Test.YtchdmemgkegefaaRegA
import Derived.Deep.CutBlock
namespace Go.Proofs.Ytchdmemgkegefaa
open Go.RowKit
set_option linter.unusedVariables false

def NmA : Array Value := #[.string ⟨#[115, 101, 109, 105, 115, 112, 97, 99, 101]⟩, .string ⟨#[97, 112, 112, 101, 108]⟩, .string ⟨#[102, 105, 120, 101, 100]⟩, .string ⟨#[111, 108, 100, 101, 114, 45, 102, 105, 114, 115, 116]⟩, .string ⟨#[120, 120]⟩, .string ⟨#[120, 120, 49, 48, 48]⟩]
def CfE (g B B0 : Nat) (i : Nat) : World → World → Prop := Ch (some g) B B0 (if i = 18 then [24] else [])
theorem CfE.up {g B B0 i : Nat} {W W' : World} (h : CfE g B B0 i W W') : Ch (some g) B B0 [24] W W' := Ch.more h (by split <;> simp)
theorem CfE.tr {g B B0 : Nat} : ∀ (i : Nat) (U V W : World), Ch (some g) B B0 [24] U V → CfE g B B0 i V W → Ch (some g) B B0 [24] U W := fun _ _ _ _ h k => h.trans k.up
section
variable {row : Option Nat} {B B0 C : Nat} {X : List TypeId}
def AdF (C T : Nat) (cs : Array Value) (n : Nat) : Value → World → Prop := fun v W => ∃ q j, v = .pointer (some ⟨q, j, none⟩) ∧ j < n ∧ C ≤ q ∧ W.heap[q]? = some (.cells cs T (0, 0))
theorem AdF.stb {T n : Nat} {cs : Array Value} (hT : T ∉ X) (hr : ∀ g, row = some g → g < C) : Stb (Ch row B B0 X) (AdF C T cs n) := by
  rintro v W W' he ⟨q, j, rfl, hj, hq, hb⟩
  exact ⟨q, j, rfl, hj, hq, he.other hb (fun e => by have := hr q e.symm; omega) hT⟩
def NameF : Value → World → Prop := fun v _ => ∃ j, j < 6 ∧ NmA[j]? = some v
theorem NameF.stb {E : World → World → Prop} : Stb E NameF := fun _ _ _ _ h => h
def PctF : Value → World → Prop := fun v _ => ∃ p : Int, 1 ≤ p ∧ p ≤ 100 ∧ v = .int .i64 p
theorem PctF.stb {E : World → World → Prop} : Stb E PctF := fun _ _ _ _ h => h
def IntsF (C : Nat) : Value → World → Prop := fun v W => ∃ q, ∃ p : Int, 1 ≤ p ∧ p ≤ 100 ∧ v = .slice (some ⟨q, 0, none⟩) 6 6 ∧ C ≤ q ∧ W.heap[q]? = some (.cells #[.int .i64 10, .int .i64 15, .int .i64 25, .int .i64 30, .int .i64 50, .int .i64 p] 3 (0, 0))
theorem IntsF.stb (hT : 3 ∉ X) (hr : ∀ g, row = some g → g < C) : Stb (Ch row B B0 X) (IntsF C) := by
  rintro v W W' he ⟨q, p, h1, h2, rfl, hq, hb⟩
  exact ⟨q, p, h1, h2, rfl, hq, he.other hb (fun e => by have := hr q e.symm; omega) hT⟩
def AdI (C : Nat) : Value → World → Prop := fun v W => ∃ q j, ∃ p : Int, v = .pointer (some ⟨q, j, none⟩) ∧ j < 6 ∧ 1 ≤ p ∧ p ≤ 100 ∧ C ≤ q ∧ W.heap[q]? = some (.cells #[.int .i64 10, .int .i64 15, .int .i64 25, .int .i64 30, .int .i64 50, .int .i64 p] 3 (0, 0))
theorem AdI.stb (hT : 3 ∉ X) (hr : ∀ g, row = some g → g < C) : Stb (Ch row B B0 X) (AdI C) := by
  rintro v W W' he ⟨q, j, p, rfl, hj, h1, h2, hq, hb⟩
  exact ⟨q, j, p, rfl, hj, h1, h2, hq, he.other hb (fun e => by have := hr q e.symm; omega) hT⟩
theorem CfO.ch {W W' : World} {v : Value} {c : Cf} (h : CfO W C v c) (he : Ch row B B0 X W W') (hT : 67 ∉ X) (hr : ∀ g, row = some g → g < C) : CfO W' C v c := by
  obtain ⟨rv, e, r⟩ := h
  exact ⟨rv, e, he.own r hT hr⟩
theorem CfO.base {W : World} {D : Nat} {v : Value} {c : Cf} (h : CfO W D v c) (hD : C ≤ D) : CfO W C v c := by
  obtain ⟨rv, e, r⟩ := h
  exact ⟨rv, e, r.base hD⟩
def CfgF (C : Nat) : Value → World → Prop := fun v W => ∃ c, CfO W C v c ∧ CfOk c
theorem CfgF.stb (hT : 67 ∉ X) (hr : ∀ g, row = some g → g < C) : Stb (Ch row B B0 X) (CfgF C) := by
  rintro v W W' he ⟨c, ho, hok⟩
  exact ⟨c, ho.ch he hT hr, hok⟩
def GotF (C : Nat) : Value → World → Prop := fun v W => ∃ u c, v = .tuple #[u, .int .i64 0] ∧ CfO W C u c ∧ CfOk c
theorem GotF.stb (hT : 67 ∉ X) (hr : ∀ g, row = some g → g < C) : Stb (Ch row B B0 X) (GotF C) := by
  rintro v W W' he ⟨u, c, rfl, ho, hok⟩
  exact ⟨u, c, rfl, ho.ch he hT hr, hok⟩
/-- slot 3 points at a configuration -/
def CfgA (C : Nat) : Act → World → Prop := fun a W => ∃ q c rv, a.tmps[3]? = some (.pointer (some ⟨q, 0, none⟩)) ∧ C ≤ q ∧ W.heap[q]? = some (.cells #[.string c.name, rv, .int .i64 c.full] 24 (0, 0)) ∧ Own ruleE W C 67 rv c.rules ∧ CfOk c
theorem CfgA.loc : LocOk [3] (CfgA C) := by
  rintro a d v w hd ⟨q, c, rv, h1, h⟩
  refine ⟨q, c, rv, ?_, h⟩
  rw [put_same (by simpa using hd)]
  exact h1
theorem CfgA.stb {g i : Nat} (hr : ∀ g', some g = some g' → g' < C) (hi : i ≠ 18) : ∀ a W W', CfE g B B0 i W W' → CfgA C a W → CfgA C a W' := by
  rintro a W W' he ⟨q, c, rv, h1, hq, hb, ho, hok⟩
  unfold CfE at he
  rw [if_neg hi] at he
  exact ⟨q, c, rv, h1, hq, he.other hb (fun e => by have := hr q e.symm; omega) (by simp), he.own ho (by simp) hr, hok⟩
end
theorem arr3 {cs : Array Value} (h : cs.size = 3) : ∃ a b c, cs = #[a, b, c] := by
  obtain ⟨l⟩ := cs
  match l, h with
  | [a, b, c], _ => exact ⟨a, b, c, rfl⟩
theorem own_sl {α : Type} {E : El α} {w : World} {B T : Nat} {v : Value} {xs : List α} (h : Own E w B T v xs) : ∃ a l c, v = .slice a l c := by
  obtain ⟨a, c, e, _⟩ := h.rd
  exact ⟨a, _, c, e⟩
theorem ch3 {row : Option Nat} {B B0 : Nat} {X : List TypeId} {W : World} {q T : Nat} {z0 z1 z2 : Value} (hb : W.heap[q]? = some (.cells #[z0, z1, z2] T (0, 0))) (hT : T ∈ X) (hB : B0 ≤ q) (hBB : B ≤ B0) (hr : some q ≠ row) (a b c : Value) :
    Ch row B B0 X W (((W.setCell ⟨q, 0, none⟩ a).setCell ⟨q, 1, none⟩ b).setCell ⟨q, 2, none⟩ c) ∧ (((W.setCell ⟨q, 0, none⟩ a).setCell ⟨q, 1, none⟩ b).setCell ⟨q, 2, none⟩ c).heap[q]? = some (.cells #[a, b, c] T (0, 0)) := by
  have h1 := setCell_block (o := 0) hb a
  have h2 := setCell_block (o := 1) h1 b
  have h3 := setCell_block (o := 2) h2 c
  exact ⟨((Ch.set hb hT hB hBB hr a).trans (Ch.set h1 hT hB hBB hr b)).trans (Ch.set h2 hT hB hBB hr c), h3⟩
theorem cfOk_full {c : Cf} (h : CfOk c) (hf : 0 < c.full) {f : Int} (h1 : 1 ≤ f) (h2 : f ≤ 64) : CfOk { c with full := f } := by
  obtain ⟨a1, a2, a3, a4, a5, a6⟩ := h
  refine ⟨a1, a2, a3, a4, a5, fun h => ?_⟩
  have := a6 h
  split at this
  · rename_i h0
    dsimp only
    rw [if_pos h0]
    exact ⟨h1, h2⟩
  · omega

/-- the maker's own configuration, at the head of a round: b rules are made -/
structure CoW (w : World) (B g q n b : Nat) (rv : Value) (rs : List Rl) (full : Int) (W : World) : Prop where
  dk : DkW w B g W
  res : W.heap[w.heap.size]? = some (.cells #[.string ⟨#[]⟩, .slice none 0 0, .int .i64 0] 24 (0, 0))
  cfg : W.heap[q]? = some (.cells #[.string ⟨#[111, 119, 110]⟩, rv, .int .i64 full] 24 (0, 0))
  own : Own ruleE W (w.heap.size + 1) 67 rv rs
  hq : w.heap.size < q
  gw : g < w.heap.size
  bw : B ≤ w.heap.size
section
variable {w : World} {B g q n b p : Nat} {rv : Value} {rs : List Rl} {full s' : Int} {W W' : World} {s : Nat} {lim bat tgt : Int}
theorem own_ne {α : Type} {E : El α} {C T k : Nat} {v : Value} {xs : List α} (h : Own E W C T v xs) (hk : k < C) : v.ownBlock = none ∨ v.ownBlock ≠ some k := by
  cases hob : v.ownBlock with
  | none => exact .inl rfl
  | some q' =>
    refine .inr fun e => ?_
    injection e with e
    have := (h.lt q' hob).1
    omega
theorem CoW.next (h : CoW w B g q n b rv rs full W) (hd : Deck B W' g) (hg : W.grownBy W' (some g)) : CoW w B g q n b rv rs full W' :=
  ⟨h.dk.next hd hg, grown_block hg h.res (fun e => by injection e with e; have := h.gw; omega), grown_block hg h.cfg (fun e => by injection e with e; have := h.gw; have := h.hq; omega),
    h.own.kept hg (own_ne h.own (by have := h.gw; omega)) (fun _ _ e => e), h.hq, h.gw, h.bw⟩
theorem CoW.below (h : CoW w B g q n b rv rs full W) (hb : Below W.heap.size W W') : CoW w B g q n b rv rs full W' :=
  ⟨h.dk.below hb, below_block hb (block_lt h.res) h.res, below_block hb (block_lt h.cfg) h.cfg, h.own.below hb, h.hq, h.gw, h.bw⟩
/-- .. and a rule in block p -/
structure BoW (w : World) (B g q n b p : Nat) (rv : Value) (rs : List Rl) (full : Int) (s : Nat) (lim bat tgt : Int) (W : World) : Prop extends CoW w B g q n b rv rs full W where
  box : W.heap[p]? = some (.cells #[.float .f64 s, .int .i64 lim, .int .i64 bat, .int .i64 tgt] 67 (0, 0))
  hp : q < p
  np : some p ≠ rv.ownBlock
theorem BoW.next (h : BoW w B g q n b p rv rs full s lim bat tgt W) (hd : Deck B W' g) (hg : W.grownBy W' (some g)) : BoW w B g q n b p rv rs full s lim bat tgt W' :=
  ⟨h.toCoW.next hd hg, grown_block hg h.box (fun e => by injection e with e; have := h.gw; have := h.hq; have := h.hp; omega), h.hp, h.np⟩
theorem BoW.setP (h : BoW w B g q n b p rv rs full s lim bat tgt W) {o : Nat} {v : Value} {s2 : Nat} {l2 b2 t2 : Int} (hv : (#[Value.float .f64 s, .int .i64 lim, .int .i64 bat, .int .i64 tgt] : Array Value).setIfInBounds o v = #[.float .f64 s2, .int .i64 l2, .int .i64 b2, .int .i64 t2]) :
    BoW w B g q n b p rv rs full s2 l2 b2 t2 (W.setCell ⟨p, o, none⟩ v) := by
  have h1 := h.gw
  have h2 := h.hq
  have h3 := h.hp
  refine ⟨⟨h.dk.set (by omega) (by omega) h.bw _, (setCell_other _ (by omega)).trans h.res, (setCell_other _ (by omega)).trans h.cfg, ?_, h2, h1, h.bw⟩, ?_, h3, h.np⟩
  · exact h.own.kept (grown_set _) (by
      cases hob : rv.ownBlock with
      | none => exact .inl rfl
      | some q' => exact .inr fun e => h.np (by rw [hob, e])) (fun _ _ e => e)
  · rw [setCell_block h.box, hv]
theorem BoW.setF (h : BoW w B g q n b p rv rs full s lim bat tgt W) (f : Int) : BoW w B g q n b p rv rs f s lim bat tgt (W.setCell ⟨q, 2, none⟩ (.int .i64 f)) := by
  have h1 := h.gw
  have h2 := h.hq
  have h3 := h.hp
  refine ⟨⟨h.dk.set (by omega) (by omega) h.bw _, (setCell_other _ (by omega)).trans h.res, ?_, ?_, h2, h1, h.bw⟩, (setCell_other _ (by omega)).trans h.box, h3, h.np⟩
  · rw [setCell_block h.cfg]; rfl
  · exact (Ch.set (row := some g) (B := 0) (B0 := 0) (X := [24]) h.cfg (List.mem_singleton.2 rfl) (Nat.zero_le _) (Nat.zero_le _) (fun e => by injection e with e; omega) _).own h.own (by decide) (fun g' e => by injection e with e; omega)
theorem CoW.cells (h : CoW w B g q n b rv rs full W) : g < W.heap.size ∧ q < W.heap.size ∧ W.cell? ⟨q, 0, none⟩ = some (.string ⟨#[111, 119, 110]⟩) ∧ W.cell? ⟨q, 1, none⟩ = some rv ∧ W.cell? ⟨q, 2, none⟩ = some (.int .i64 full) ∧ W.frozen? ⟨q, 1, none⟩ = false ∧ W.frozen? ⟨q, 2, none⟩ = false :=
  ⟨h.dk.lt, block_lt h.cfg, by rw [cell_block h.cfg]; rfl, by rw [cell_block h.cfg]; rfl, by rw [cell_block h.cfg]; rfl, frozen_block h.cfg, frozen_block h.cfg⟩
theorem BoW.cellsP (h : BoW w B g q n b p rv rs full s lim bat tgt W) : p < W.heap.size ∧ W.cell? ⟨p, 0, none⟩ = some (.float .f64 s) ∧ W.cell? ⟨p, 1, none⟩ = some (.int .i64 lim) ∧ W.cell? ⟨p, 2, none⟩ = some (.int .i64 bat) ∧ W.cell? ⟨p, 3, none⟩ = some (.int .i64 tgt) ∧ W.frozen? ⟨p, 0, none⟩ = false ∧ W.frozen? ⟨p, 1, none⟩ = false ∧ W.frozen? ⟨p, 2, none⟩ = false ∧ W.frozen? ⟨p, 3, none⟩ = false :=
  ⟨block_lt h.box, by rw [cell_block h.box]; rfl, by rw [cell_block h.box]; rfl, by rw [cell_block h.box]; rfl, by rw [cell_block h.box]; rfl, frozen_block h.box, frozen_block h.box, frozen_block h.box, frozen_block h.box⟩
end
/-- what the rules made so far are -/
structure RlsOk (n b : Nat) (rs : List Rl) (full : Int) : Prop where
  len : rs.length = b
  ok : ∀ i (h : i < rs.length), RuleOk n i rs[i]
  tg : ∀ i (h : i < rs.length), i + 1 < n → rs[i].tgt = i + 1
  fu : b < n → full = 0
  fl : ∀ h : n - 1 < rs.length, b = n → if FloatKind.f64.format.order (rs[n - 1]).s 0 = some Ordering.eq then 1 ≤ full ∧ full ≤ 64 else full = 0
theorem RlsOk.cf {n : Nat} {rs : List Rl} {full : Int} (h : RlsOk n n rs full) (hn : 1 ≤ n) (hn4 : n ≤ 4) : CfOk ⟨⟨#[111, 119, 110]⟩, rs, full⟩ := by
  have hl := h.len
  refine ⟨nameOk_of (s := ⟨#[111, 119, 110]⟩) (by decide) (by decide) (by decide), by dsimp only; omega, by dsimp only; omega, ?_, ?_, ?_⟩
  · intro b hb
    dsimp only at hb ⊢
    rw [hl]
    exact h.ok b hb
  · intro b h1 h2
    dsimp only at h2 ⊢
    refine ⟨b - 1, by omega, by omega, ?_⟩
    rw [h.tg (b - 1) (by omega) (by omega)]
    omega
  · intro hb
    dsimp only at hb ⊢
    have := h.fl (by omega) rfl
    simpa [hl] using this
theorem RlsOk.snoc {n b : Nat} {rs : List Rl} {r : Rl} {f f' : Int} (h : RlsOk n b rs f) (hbn : b < n) (hr : RuleOk n b r) (ht : b + 1 < n → r.tgt = b + 1) (h0 : b + 1 < n → f' = 0) (h1 : b + 1 = n → if FloatKind.f64.format.order r.s 0 = some Ordering.eq then 1 ≤ f' ∧ f' ≤ 64 else f' = 0) : RlsOk n (b + 1) (rs ++ [r]) f' := by
  have hl := h.len
  refine ⟨by simp [hl], fun i hi => ?_, fun i hi hin => ?_, h0, fun hi e => ?_⟩
  · by_cases e : i < rs.length
    · rw [List.getElem_append_left e]; exact h.ok i e
    · have : i = b := by simp at hi; omega
      subst this
      rw [List.getElem_append_right (by omega)]
      simpa [hl] using hr
  · by_cases e : i < rs.length
    · rw [List.getElem_append_left e]; exact h.tg i e hin
    · have : i = b := by simp at hi; omega
      subst this
      rw [List.getElem_append_right (by omega)]
      simpa [hl] using ht hin
  · subst e
    have := h1 rfl
    rw [List.getElem_append_right (by omega)]
    simpa [hl] using this

theorem ruleS : SlT Try.prog 22 67 4 32 (.agg #[.float .f64 0, .int .i64 0, .int .i64 0, .int .i64 0]) := ⟨Try.underlying22, by kernel_rfl, rfl, by decide⟩
theorem CoW.app {w : World} {B g q n b b' : Nat} {rv v4 : Value} {rs rs' : List Rl} {full : Int} {W w4 : World} {o : Obj} (h : CoW w B g q n b rv rs full W) (hg : (W.alloc o).grownBy w4 rv.ownBlock) (hb : Below (w.heap.size + 1) W w4) (ho : Own ruleE w4 (w.heap.size + 1) 67 v4 rs') :
    CoW w B g q n b' v4 rs' full (w4.setCell ⟨q, 1, none⟩ v4) := by
  have h1 := h.gw
  have h2 := h.hq
  have hcf : w4.heap[q]? = _ := grown_block hg (alloc_block h.cfg) (h.own.ne_block h.cfg (by decide))
  have hdk : DkW w B g w4 := ⟨h.dk.deck.below hb (by omega), grown_below h.dk.gr (hb.mono (by omega)) |> fun x => x⟩
  refine ⟨hdk.set (by omega) (by omega) h.bw _, (setCell_other _ (by omega)).trans (below_block hb (by omega) h.res), ?_, ?_, h2, h1, h.bw⟩
  · rw [setCell_block hcf]; rfl
  · exact (Ch.set (row := some g) (B := 0) (B0 := 0) (X := [24]) hcf (List.mem_singleton.2 rfl) (Nat.zero_le _) (Nat.zero_le _) (fun e => by injection e with e; omega) _).own ho (by decide) (fun g' e => by injection e with e; omega)
def CfgPost (w : World) (B g : Nat) (e : Ending) (w' : World) : Prop := ∃ v c, e = .returned v ∧ CfO w' w.heap.size v c ∧ CfOk c ∧ DkW w B g w'
theorem cfg_end {w W : World} {B g : Nat} {c : Cf} {rv y0 y1 y2 : Value} {ts : Array Value} (hr : W.heap[w.heap.size]? = some (.cells #[y0, y1, y2] 24 (0, 0))) (hD : DkW w B g W) (hBw : B ≤ w.heap.size) (hne : w.heap.size ≠ g)
    (ho : Own ruleE W (w.heap.size + 1) 67 rv c.rules) (hok : CfOk c) (hg : g < w.heap.size + 1) (ht : ts[2]? = some (.pointer (some ⟨w.heap.size, 0, none⟩))) :
    bodyPost Try.prog Try.f12 (CfgPost w B g) .ret ⟨ts, []⟩ (((W.setCell ⟨w.heap.size, 0, none⟩ (.string c.name)).setCell ⟨w.heap.size, 1, none⟩ rv).setCell ⟨w.heap.size, 2, none⟩ (.int .i64 c.full)) := by
  obtain ⟨hch, hb⟩ := ch3 (row := some g) (B := B) (B0 := w.heap.size) (X := [24]) hr (List.mem_singleton.2 rfl) (Nat.le_refl _) hBw (fun e => hne (by injection e)) (.string c.name) rv (.int .i64 c.full)
  have r0 : (((W.setCell ⟨w.heap.size, 0, none⟩ (.string c.name)).setCell ⟨w.heap.size, 1, none⟩ rv).setCell ⟨w.heap.size, 2, none⟩ (.int .i64 c.full)).cell? ⟨w.heap.size, 0, none⟩ = some (.string c.name) := by rw [cell_block hb]; rfl
  have r1 : (((W.setCell ⟨w.heap.size, 0, none⟩ (.string c.name)).setCell ⟨w.heap.size, 1, none⟩ rv).setCell ⟨w.heap.size, 2, none⟩ (.int .i64 c.full)).cell? ⟨w.heap.size, 1, none⟩ = some rv := by rw [cell_block hb]; rfl
  have r2 : (((W.setCell ⟨w.heap.size, 0, none⟩ (.string c.name)).setCell ⟨w.heap.size, 1, none⟩ rv).setCell ⟨w.heap.size, 2, none⟩ (.int .i64 c.full)).cell? ⟨w.heap.size, 2, none⟩ = some (.int .i64 c.full) := by rw [cell_block hb]; rfl
  have hO := hch.own ho (by decide) (fun g' e => by injection e with e; omega)
  have hW := ((hD.set (o := 0) (Nat.le_refl _) hne hBw (.string c.name)).set (o := 1) (Nat.le_refl _) hne hBw rv).set (o := 2) (Nat.le_refl _) hne hBw (.int .i64 c.full)
  generalize ((W.setCell ⟨w.heap.size, 0, none⟩ (.string c.name)).setCell ⟨w.heap.size, 1, none⟩ rv).setCell ⟨w.heap.size, 2, none⟩ (.int .i64 c.full) = V at *
  obtain ⟨ra, rl, rc, rfl⟩ := own_sl ho
  refine bodyPost_ret (v := .agg #[.string c.name, .slice ra rl rc, .int .i64 c.full]) (by simp [results, Try.results12, go_sem, ht, r0, r1, r2]) rfl ⟨_, c, rfl, ⟨_, rfl, hO.base (by omega)⟩, hok, hW⟩

set_option maxRecDepth 100000 in
set_option maxHeartbeats 8000000 in
theorem config_any (B g : Nat) (w : World) (hd : Deck B w g) (hBw : B ≤ w.heap.size) : Calls Try.prog 12 #[.pointer (some ⟨g, 0, none⟩)] w (CfgPost w B g) := by
  have HD := Lib.hid hd
  have hgw := hd.lt
  clear hd
  go_enter Try.func12, Try.ntmps12
  go_wp2_with fail
  have h0 : DkW w B g (w.alloc (.cells #[.string ⟨#[]⟩, .slice none 0 0, .int .i64 0] 24)) := DkW.alloc ⟨HD.out, grown_refl _ _⟩ _
  refine (next_any _ _ 3 _ h0.deck (by omega) (by omega)).mono ?_
  rintro e w1 ⟨r1, h10, h11, rfl, hd1, hg1⟩
  have HW1 : Hid (DkW w B g w1) := Lib.hid (h0.next hd1 hg1)
  have HRV : Hid (w1.heap[w.heap.size]? = some (.cells #[.string ⟨#[]⟩, .slice none 0 0, .int .i64 0] 24 (0, 0))) := Lib.hid (grown_block hg1 (heap_alloc_new w _) (fun e => by injection e with e; omega))
  have HD1 := Lib.hid hd1
  have hs1 := (h0.next hd1 hg1).gr.size
  have hrl := block_lt HRV.out
  have HGL : ∀ g', some g = some g' → g' < w1.heap.size := fun g' e => by injection e with e; omega
  have hBB : B ≤ w1.heap.size := by omega
  clear hd1 hg1 h0
  by_cases hr : 0 < r1
  · go_wp2_with fail
    apply wp_region_acts (by kernel_rfl) (Ch (some g) B w1.heap.size [24]) (CfE g B w1.heap.size) (Ch.below ((Below.refl _ _).drew)) [13, 14, 15, 16, 17, 18, 19, 20, 21, 22, 23, 24, 25, 26, 12, 27, 28, 3, 4] [At 13 (LitF w1.heap.size 9 NmA), At 14 (Is _), At 15 (NatF 6), At 16 (AdF w1.heap.size 9 NmA 6), At 17 (NameF), At 18 (Is _), At 19 (NatF 100), At 20 (PctF), At 21 (IntsF w1.heap.size), At 22 (Is _), At 23 (NatF 6), At 24 (AdI w1.heap.size), At 25 (PctF), At 26 (GotF w1.heap.size), At 12 (GotF w1.heap.size), At 27 (CfgF w1.heap.size), At 28 (Is (.int .i64 0)), At 3 (BoxF w1.heap.size 24 3), (CfgA w1.heap.size), At 4 (Is _)] [[13], [14], [15], [16], [17], [18], [19], [20], [21], [22], [23], [24], [25], [26], [12], [27], [28], [3], [3], [4]] ⟨LocOk.at, LocOk.at, LocOk.at, LocOk.at, LocOk.at, LocOk.at, LocOk.at, LocOk.at, LocOk.at, LocOk.at, LocOk.at, LocOk.at, LocOk.at, LocOk.at, LocOk.at, LocOk.at, LocOk.at, LocOk.at, CfgA.loc, LocOk.at, trivial⟩ ⟨fun i _ _ => stb_at (fun _ _ _ h => CfE.up h) (LitF.stb (by decide) HGL), fun i _ _ => stb_at (fun _ _ _ h => CfE.up h) (Stb.is), fun i _ _ => stb_at (fun _ _ _ h => CfE.up h) (NatF.stb), fun i _ _ => stb_at (fun _ _ _ h => CfE.up h) (AdF.stb (by decide) HGL), fun i _ _ => stb_at (fun _ _ _ h => CfE.up h) (NameF.stb), fun i _ _ => stb_at (fun _ _ _ h => CfE.up h) (Stb.is), fun i _ _ => stb_at (fun _ _ _ h => CfE.up h) (NatF.stb), fun i _ _ => stb_at (fun _ _ _ h => CfE.up h) (PctF.stb), fun i _ _ => stb_at (fun _ _ _ h => CfE.up h) (IntsF.stb (by decide) HGL), fun i _ _ => stb_at (fun _ _ _ h => CfE.up h) (Stb.is), fun i _ _ => stb_at (fun _ _ _ h => CfE.up h) (NatF.stb), fun i _ _ => stb_at (fun _ _ _ h => CfE.up h) (AdI.stb (by decide) HGL), fun i _ _ => stb_at (fun _ _ _ h => CfE.up h) (PctF.stb), fun i _ _ => stb_at (fun _ _ _ h => CfE.up h) (GotF.stb (by decide) HGL), fun i _ _ => stb_at (fun _ _ _ h => CfE.up h) (GotF.stb (by decide) HGL), fun i _ _ => stb_at (fun _ _ _ h => CfE.up h) (CfgF.stb (by decide) HGL), fun i _ _ => stb_at (fun _ _ _ h => CfE.up h) (Stb.is), fun i _ _ => stb_at (fun _ _ _ h => CfE.up h) (BoxF.stb HGL), fun i hi _ => CfgA.stb HGL hi, fun i _ _ => stb_at (fun _ _ _ h => CfE.up h) (Stb.is), trivial⟩ (by kernel_rfl) (by kernel_rfl) (by kernel_rfl) (by kernel_rfl)
    · refine ASteps.cons (AStep.mk CfE.tr rfl rfl fun t V hsz hout hE hdep K hK => ?_) ?_
      · skip
        have HS : Hid (t.size = 90) := Lib.hid hsz
        clear hout hdep hsz
        have hs := hE.size
        go_simp
        refine (names_any _).mono ?_
        rintro e W5 ⟨rfl, rfl⟩
        go_simp
        exact hK.out _ _ (Ch.below ((Below.refl _ _).alloc (Nat.le_refl _) _)) (at_here (by rw [HS.out]; decide) ⟨_, rfl, hs, heap_alloc_new _ _⟩)
      refine ASteps.cons (AStep.mk CfE.tr rfl rfl fun t V hsz hout hE hdep K hK => ?_) ?_
      · skip
        have t0 : t[0]? = some _ := hout 0 (by kernel_rfl)
        have HS : Hid (t.size = 90) := Lib.hid hsz
        clear hout hdep hsz
        go_simp
        exact hK.out _ _ (Ch.refl _ _ _ _ _) (at_here (by rw [HS.out]; decide) rfl)
      refine ASteps.cons (AStep.mk CfE.tr rfl rfl fun t V hsz hout hE hdep K hK => ?_) ?_
      · skip
        have t14 := at_is (hdep 1 (by kernel_rfl))
        have HS : Hid (t.size = 90) := Lib.hid hsz
        clear hout hdep hsz
        go_simp
        refine (next_any B g 6 _ (hE.deck g rfl HD1.out) (by omega) (by omega)).mono ?_
        rintro e W5 ⟨r5, hr0, hr1, rfl, hd5, hg5⟩
        obtain ⟨j5, rfl⟩ := Int.eq_ofNat_of_zero_le hr0
        go_simp
        exact hK.out _ _ (Ch.next hg5 hd5) (at_here (by rw [HS.out]; decide) ⟨j5, by omega, rfl⟩)
      refine ASteps.cons (AStep.mk CfE.tr rfl rfl fun t V hsz hout hE hdep K hK => ?_) ?_
      · skip
        obtain ⟨v13, t13, e13⟩ := hdep 0 (by kernel_rfl)
        dsimp only at t13
        obtain ⟨v15, t15, e15⟩ := hdep 2 (by kernel_rfl)
        dsimp only at t15
        have HS : Hid (t.size = 90) := Lib.hid hsz
        clear hout hdep hsz
        obtain ⟨q, rfl, hq, hbk⟩ := e13
        have hnm : NmA.size = 6 := rfl
        obtain ⟨j, hj, rfl⟩ := e15
        have HBK := Lib.hid hbk
        clear hbk
        have hj6 : (j : Int) < 6 := by omega
        have hj0 : (0 : Int) ≤ (j : Int) := by omega
        go_simp
        exact hK.out _ _ (Ch.refl _ _ _ _ _) (at_here (by rw [HS.out]; decide) ⟨q, j, rfl, hj, hq, HBK.out⟩)
      refine ASteps.cons (AStep.mk CfE.tr rfl rfl fun t V hsz hout hE hdep K hK => ?_) ?_
      · skip
        obtain ⟨v16, t16, e16⟩ := hdep 3 (by kernel_rfl)
        dsimp only at t16
        have HS : Hid (t.size = 90) := Lib.hid hsz
        clear hout hdep hsz
        obtain ⟨q, j, rfl, hj, hq, hbk⟩ := e16
        obtain ⟨x, hx⟩ : ∃ x, NmA[j]? = some x := ⟨NmA[j]'(by simpa [NmA] using hj), by simp [NmA]⟩
        have cx : V.cell? ⟨q, j, none⟩ = some x := by rw [cell_block hbk]; exact hx
        have HX := Lib.hid hx
        clear hx hbk
        go_simp
        exact hK.out _ _ (Ch.refl _ _ _ _ _) (at_here (by rw [HS.out]; decide) ⟨j, hj, HX.out⟩)
      refine ASteps.cons (AStep.mk CfE.tr rfl rfl fun t V hsz hout hE hdep K hK => ?_) ?_
      · skip
        have t0 : t[0]? = some _ := hout 0 (by kernel_rfl)
        have HS : Hid (t.size = 90) := Lib.hid hsz
        clear hout hdep hsz
        go_simp
        exact hK.out _ _ (Ch.refl _ _ _ _ _) (at_here (by rw [HS.out]; decide) rfl)
      refine ASteps.cons (AStep.mk CfE.tr rfl rfl fun t V hsz hout hE hdep K hK => ?_) ?_
      · skip
        have t18 := at_is (hdep 5 (by kernel_rfl))
        have HS : Hid (t.size = 90) := Lib.hid hsz
        clear hout hdep hsz
        go_simp
        refine (next_any B g 100 _ (hE.deck g rfl HD1.out) (by omega) (by omega)).mono ?_
        rintro e W5 ⟨r5, hr0, hr1, rfl, hd5, hg5⟩
        obtain ⟨j5, rfl⟩ := Int.eq_ofNat_of_zero_le hr0
        go_simp
        exact hK.out _ _ (Ch.next hg5 hd5) (at_here (by rw [HS.out]; decide) ⟨j5, by omega, rfl⟩)
      refine ASteps.cons (AStep.mk CfE.tr rfl rfl fun t V hsz hout hE hdep K hK => ?_) ?_
      · skip
        obtain ⟨v19, t19, e19⟩ := hdep 6 (by kernel_rfl)
        dsimp only at t19
        have HS : Hid (t.size = 90) := Lib.hid hsz
        clear hout hdep hsz
        obtain ⟨j, hj, rfl⟩ := e19
        have hw : IntKind.i64.wrap (1 + (j : Int)) = 1 + (j : Int) := IntWalk.i64_in _ (by omega)
        go_simp
        exact hK.out _ _ (Ch.refl _ _ _ _ _) (at_here (by rw [HS.out]; decide) ⟨1 + (j : Int), by omega, by omega, rfl⟩)
      refine ASteps.cons (AStep.mk CfE.tr rfl rfl fun t V hsz hout hE hdep K hK => ?_) ?_
      · skip
        obtain ⟨v20, t20, e20⟩ := hdep 7 (by kernel_rfl)
        dsimp only at t20
        have HS : Hid (t.size = 90) := Lib.hid hsz
        clear hout hdep hsz
        obtain ⟨p, hp1, hp2, rfl⟩ := e20
        have hs := hE.size
        go_simp
        exact hK.out _ _ (Ch.below ((Below.refl _ _).alloc (Nat.le_refl _) _)) (at_here (by rw [HS.out]; decide) ⟨_, p, hp1, hp2, rfl, hs, heap_alloc_new _ _⟩)
      refine ASteps.cons (AStep.mk CfE.tr rfl rfl fun t V hsz hout hE hdep K hK => ?_) ?_
      · skip
        have t0 : t[0]? = some _ := hout 0 (by kernel_rfl)
        have HS : Hid (t.size = 90) := Lib.hid hsz
        clear hout hdep hsz
        go_simp
        exact hK.out _ _ (Ch.refl _ _ _ _ _) (at_here (by rw [HS.out]; decide) rfl)
      refine ASteps.cons (AStep.mk CfE.tr rfl rfl fun t V hsz hout hE hdep K hK => ?_) ?_
      · skip
        have t22 := at_is (hdep 9 (by kernel_rfl))
        have HS : Hid (t.size = 90) := Lib.hid hsz
        clear hout hdep hsz
        go_simp
        refine (next_any B g 6 _ (hE.deck g rfl HD1.out) (by omega) (by omega)).mono ?_
        rintro e W5 ⟨r5, hr0, hr1, rfl, hd5, hg5⟩
        obtain ⟨j5, rfl⟩ := Int.eq_ofNat_of_zero_le hr0
        go_simp
        exact hK.out _ _ (Ch.next hg5 hd5) (at_here (by rw [HS.out]; decide) ⟨j5, by omega, rfl⟩)
      refine ASteps.cons (AStep.mk CfE.tr rfl rfl fun t V hsz hout hE hdep K hK => ?_) ?_
      · skip
        obtain ⟨v21, t21, e21⟩ := hdep 8 (by kernel_rfl)
        dsimp only at t21
        obtain ⟨v23, t23, e23⟩ := hdep 10 (by kernel_rfl)
        dsimp only at t23
        have HS : Hid (t.size = 90) := Lib.hid hsz
        clear hout hdep hsz
        obtain ⟨q, p, hp1, hp2, rfl, hq, hbk⟩ := e21
        obtain ⟨j, hj, rfl⟩ := e23
        have HBK := Lib.hid hbk
        clear hbk
        have hj6 : (j : Int) < 6 := by omega
        have hj0 : (0 : Int) ≤ (j : Int) := by omega
        go_simp
        exact hK.out _ _ (Ch.refl _ _ _ _ _) (at_here (by rw [HS.out]; decide) ⟨q, j, p, rfl, hj, hp1, hp2, hq, HBK.out⟩)
      refine ASteps.cons (AStep.mk CfE.tr rfl rfl fun t V hsz hout hE hdep K hK => ?_) ?_
      · skip
        obtain ⟨v24, t24, e24⟩ := hdep 11 (by kernel_rfl)
        dsimp only at t24
        have HS : Hid (t.size = 90) := Lib.hid hsz
        clear hout hdep hsz
        obtain ⟨q, j, p, rfl, hj, hp1, hp2, hq, hbk⟩ := e24
        obtain ⟨x, hx1, hx2, cx⟩ : ∃ x : Int, 1 ≤ x ∧ x ≤ 100 ∧ V.cell? ⟨q, j, none⟩ = some (.int .i64 x) := by
          have hjj : j = 0 ∨ j = 1 ∨ j = 2 ∨ j = 3 ∨ j = 4 ∨ j = 5 := by omega
          rcases hjj with rfl | rfl | rfl | rfl | rfl | rfl
          · exact ⟨10, by omega, by omega, by rw [cell_block hbk]; rfl⟩
          · exact ⟨15, by omega, by omega, by rw [cell_block hbk]; rfl⟩
          · exact ⟨25, by omega, by omega, by rw [cell_block hbk]; rfl⟩
          · exact ⟨30, by omega, by omega, by rw [cell_block hbk]; rfl⟩
          · exact ⟨50, by omega, by omega, by rw [cell_block hbk]; rfl⟩
          · exact ⟨p, hp1, hp2, by rw [cell_block hbk]; rfl⟩
        clear hbk
        go_simp
        exact hK.out _ _ (Ch.refl _ _ _ _ _) (at_here (by rw [HS.out]; decide) ⟨x, hx1, hx2, rfl⟩)
      refine ASteps.cons (AStep.mk CfE.tr rfl rfl fun t V hsz hout hE hdep K hK => ?_) ?_
      · skip
        obtain ⟨v17, t17, e17⟩ := hdep 4 (by kernel_rfl)
        dsimp only at t17
        obtain ⟨v25, t25, e25⟩ := hdep 12 (by kernel_rfl)
        dsimp only at t25
        have HS : Hid (t.size = 90) := Lib.hid hsz
        clear hout hdep hsz
        obtain ⟨j, hj, hx⟩ := e17
        obtain ⟨p, hp1, hp2, rfl⟩ := e25
        have hs := hE.size
        have hjj : j = 0 ∨ j = 1 ∨ j = 2 ∨ j = 3 ∨ j = 4 ∨ j = 5 := by omega
        rcases hjj with rfl | rfl | rfl | rfl | rfl | rfl
        all_goals (simp [NmA] at hx; subst hx; go_simp)
        · refine (get_semi p _ hp1 hp2).mono ?_
          rintro e W5 ⟨⟨u, c, rfl, ho, hok⟩, hb5⟩
          go_simp
          exact hK.out _ _ (Ch.below hb5) (at_here (by rw [HS.out]; decide) ⟨u, c, rfl, ho.base hs, hok⟩)
        · refine (get_appel p _ hp1 hp2).mono ?_
          rintro e W5 ⟨⟨u, c, rfl, ho, hok⟩, hb5⟩
          go_simp
          exact hK.out _ _ (Ch.below hb5) (at_here (by rw [HS.out]; decide) ⟨u, c, rfl, ho.base hs, hok⟩)
        · refine (get_fixed p _ hp1 hp2).mono ?_
          rintro e W5 ⟨⟨u, c, rfl, ho, hok⟩, hb5⟩
          go_simp
          exact hK.out _ _ (Ch.below hb5) (at_here (by rw [HS.out]; decide) ⟨u, c, rfl, ho.base hs, hok⟩)
        · refine (get_older p _ hp1 hp2).mono ?_
          rintro e W5 ⟨⟨u, c, rfl, ho, hok⟩, hb5⟩
          go_simp
          exact hK.out _ _ (Ch.below hb5) (at_here (by rw [HS.out]; decide) ⟨u, c, rfl, ho.base hs, hok⟩)
        · refine (get_xx p _ hp1 hp2).mono ?_
          rintro e W5 ⟨⟨u, c, rfl, ho, hok⟩, hb5⟩
          go_simp
          exact hK.out _ _ (Ch.below hb5) (at_here (by rw [HS.out]; decide) ⟨u, c, rfl, ho.base hs, hok⟩)
        · refine (get_xxc p _ hp1 hp2).mono ?_
          rintro e W5 ⟨⟨u, c, rfl, ho, hok⟩, hb5⟩
          go_simp
          exact hK.out _ _ (Ch.below hb5) (at_here (by rw [HS.out]; decide) ⟨u, c, rfl, ho.base hs, hok⟩)
      refine ASteps.cons (AStep.mk CfE.tr rfl rfl fun t V hsz hout hE hdep K hK => ?_) ?_
      · skip
        obtain ⟨v26, t26, e26⟩ := hdep 13 (by kernel_rfl)
        dsimp only at t26
        have HS : Hid (t.size = 90) := Lib.hid hsz
        clear hout hdep hsz
        have E26 := Lib.hid e26
        obtain ⟨u, c, rfl, _⟩ := e26
        go_simp
        exact hK.out _ _ (Ch.refl _ _ _ _ _) (at_here (by rw [HS.out]; decide) E26.out)
      refine ASteps.cons (AStep.mk CfE.tr rfl rfl fun t V hsz hout hE hdep K hK => ?_) ?_
      · skip
        obtain ⟨v12, t12, e12⟩ := hdep 14 (by kernel_rfl)
        dsimp only at t12
        have HS : Hid (t.size = 90) := Lib.hid hsz
        clear hout hdep hsz
        obtain ⟨u, c, rfl, ho, hok⟩ := e12
        have HO := Lib.hid ho
        have HOK := Lib.hid hok
        clear ho hok
        go_simp
        exact hK.out _ _ (Ch.refl _ _ _ _ _) (at_here (by rw [HS.out]; decide) ⟨c, HO.out, HOK.out⟩)
      refine ASteps.cons (AStep.mk CfE.tr rfl rfl fun t V hsz hout hE hdep K hK => ?_) ?_
      · skip
        obtain ⟨v12, t12, e12⟩ := hdep 14 (by kernel_rfl)
        dsimp only at t12
        have HS : Hid (t.size = 90) := Lib.hid hsz
        clear hout hdep hsz
        obtain ⟨u, c, rfl, ho, hok⟩ := e12
        clear ho hok
        go_simp
        exact hK.out _ _ (Ch.refl _ _ _ _ _) (at_here (by rw [HS.out]; decide) rfl)
      refine ASteps.cons (AStep.mk CfE.tr rfl rfl fun t V hsz hout hE hdep K hK => ?_) ?_
      · skip
        have HS : Hid (t.size = 90) := Lib.hid hsz
        clear hout hdep hsz
        have hs := hE.size
        go_simp
        exact hK.out _ _ (Ch.below ((Below.refl _ _).alloc (Nat.le_refl _) _)) (at_here (by rw [HS.out]; decide) ⟨_, _, rfl, hs, heap_alloc_new _ _, rfl⟩)
      refine ASteps.cons (AStep.mk CfE.tr rfl rfl fun t V hsz hout hE hdep K hK => ?_) ?_
      · skip
        obtain ⟨v3, t3, e3⟩ := hdep 17 (by kernel_rfl)
        dsimp only at t3
        obtain ⟨v27, t27, e27⟩ := hdep 15 (by kernel_rfl)
        dsimp only at t27
        have HS : Hid (t.size = 90) := Lib.hid hsz
        clear hout hdep hsz
        obtain ⟨q, cs, rfl, hq, hbk, hcs⟩ := e3
        obtain ⟨z0, z1, z2, rfl⟩ := arr3 hcs
        obtain ⟨c, ho, hok⟩ := e27
        obtain ⟨rv, rfl, ho⟩ := ho
        have HO := Lib.hid ho
        have HOK := Lib.hid hok
        have HBK := Lib.hid hbk
        have hql := block_lt hbk
        have c0 : V.cell? ⟨q, 0, none⟩ = some z0 := by rw [cell_block hbk]; rfl
        have c1 : V.cell? ⟨q, 1, none⟩ = some z1 := by rw [cell_block hbk]; rfl
        have c2 : V.cell? ⟨q, 2, none⟩ = some z2 := by rw [cell_block hbk]; rfl
        have f0 : V.frozen? ⟨q, 0, none⟩ = false := frozen_block hbk
        have f1 : V.frozen? ⟨q, 1, none⟩ = false := frozen_block hbk
        have f2 : V.frozen? ⟨q, 2, none⟩ = false := frozen_block hbk
        have T3 := Lib.hid t3
        obtain ⟨ra, rl, rc, rfl⟩ := own_sl ho
        clear ho hok hbk
        go_simp
        have hne : some q ≠ some g := fun h => by injection h with h; have := HGL g rfl; omega
        have hch := ch3 (B := B) HBK.out (List.mem_singleton.2 rfl) hq hBB hne (.string c.name) (.slice ra rl rc) (.int .i64 c.full)
        exact hK.out undef _ hch.1 ⟨q, c, _, T3.out, hq, hch.2, hch.1.own HO.out (by decide) HGL, HOK.out⟩
      refine ASteps.cons (AStep.mk CfE.tr rfl rfl fun t V hsz hout hE hdep K hK => ?_) ?_
      · skip
        have t28 := at_is (hdep 16 (by kernel_rfl))
        have HS : Hid (t.size = 90) := Lib.hid hsz
        clear hout hdep hsz
        go_simp
        exact hK.out _ _ (Ch.refl _ _ _ _ _) (at_here (by rw [HS.out]; decide) rfl)
      exact ASteps.nil (by decide)
    · intro f W hE hF hget
      have f13 := at_end (hF 0 (by kernel_rfl)) (hget 13 (by decide) (by simp))
      have f14 : f 14 = _ := at_end (hF 1 (by kernel_rfl)) (hget 14 (by decide) (by simp))
      have f15 := at_end (hF 2 (by kernel_rfl)) (hget 15 (by decide) (by simp))
      have f16 := at_end (hF 3 (by kernel_rfl)) (hget 16 (by decide) (by simp))
      have f17 := at_end (hF 4 (by kernel_rfl)) (hget 17 (by decide) (by simp))
      have f18 : f 18 = _ := at_end (hF 5 (by kernel_rfl)) (hget 18 (by decide) (by simp))
      have f19 := at_end (hF 6 (by kernel_rfl)) (hget 19 (by decide) (by simp))
      have f20 := at_end (hF 7 (by kernel_rfl)) (hget 20 (by decide) (by simp))
      have f21 := at_end (hF 8 (by kernel_rfl)) (hget 21 (by decide) (by simp))
      have f22 : f 22 = _ := at_end (hF 9 (by kernel_rfl)) (hget 22 (by decide) (by simp))
      have f23 := at_end (hF 10 (by kernel_rfl)) (hget 23 (by decide) (by simp))
      have f24 := at_end (hF 11 (by kernel_rfl)) (hget 24 (by decide) (by simp))
      have f25 := at_end (hF 12 (by kernel_rfl)) (hget 25 (by decide) (by simp))
      have f26 := at_end (hF 13 (by kernel_rfl)) (hget 26 (by decide) (by simp))
      have f12 := at_end (hF 14 (by kernel_rfl)) (hget 12 (by decide) (by simp))
      have f27 := at_end (hF 15 (by kernel_rfl)) (hget 27 (by decide) (by simp))
      have f28 : f 28 = _ := at_end (hF 16 (by kernel_rfl)) (hget 28 (by decide) (by simp))
      have f3 := at_end (hF 17 (by kernel_rfl)) (hget 3 (by decide) (by simp))
      have g18 := hF 18 (by kernel_rfl)
      have f4 : f 4 = _ := at_end (hF 19 (by kernel_rfl)) (hget 4 (by decide) (by simp))
      clear f13 f15 f16 f17 f19 f20 f21 f23 f24 f25 f26 f12 f27 f3
      obtain ⟨q, c, rv, hq3, hq, hbk, ho, hok⟩ := g18
      have f3 : f 3 = .pointer (some ⟨q, 0, none⟩) := by
        have h := (hget 3 (by decide) (by simp)).symm.trans hq3
        injection h
      clear hq3
      clear hF hget
      simp only [setAllV, List.map_cons, List.map_nil, List.set_cons_succ, List.set_cons_zero, f14, f18, f22, f28, f4, f3]
      clear f14 f18 f22 f28 f4 f3
      generalize f 13 = v13 at *
      generalize f 15 = v15 at *
      generalize f 16 = v16 at *
      generalize f 17 = v17 at *
      generalize f 19 = v19 at *
      generalize f 20 = v20 at *
      generalize f 21 = v21 at *
      generalize f 23 = v23 at *
      generalize f 24 = v24 at *
      generalize f 25 = v25 at *
      generalize f 26 = v26 at *
      generalize f 12 = v12 at *
      generalize f 27 = v27 at *
      generalize f 3 = v3 at *
      have HBK := Lib.hid hbk
      have HO := Lib.hid ho
      have HOK := Lib.hid hok
      have HE := Lib.hid hE
      have hql := block_lt hbk
      obtain ⟨ra, rl, rc, rfl⟩ := own_sl ho
      have z0 : W.cell? ⟨q, 0, none⟩ = some (.string c.name) := by rw [cell_block hbk]; rfl
      have z1 : W.cell? ⟨q, 1, none⟩ = some (.slice ra rl rc) := by rw [cell_block hbk]; rfl
      have z2 : W.cell? ⟨q, 2, none⟩ = some (.int .i64 c.full) := by rw [cell_block hbk]; rfl
      have hdw : DkW w B g W := ⟨hE.deck g rfl HD1.out, grown_trans HW1.out.gr (hE.grown (Nat.le_refl _))⟩
      have HDW := Lib.hid hdw
      have hrv : W.heap[w.heap.size]? = _ := hE.old HRV.out (fun e => by injection e with e; omega) (by omega)
      clear hE hbk ho hok hdw
      have hne0 : w.heap.size ≠ g := by omega
      have hneq : q ≠ w.heap.size := by omega
      by_cases hfu : 0 < c.full
      · go_wp2_with fail
        refine (next_any _ _ 5 _ HDW.out.deck (by omega) (by omega)).mono ?_
        rintro e w4 ⟨r4, h40, h41, rfl, hd4, hg4⟩
        have H4 : Hid (DkW w B g w4) := Lib.hid (HDW.out.next hd4 hg4)
        have hb4 := grown_block hg4 HBK.out (fun e => by injection e with e; omega)
        have hr4 := grown_block hg4 hrv (fun e => by injection e with e; omega)
        have ho4 := HO.out.kept hg4 (by
          cases hob : (Value.slice ra rl rc).ownBlock with
          | none => exact .inl rfl
          | some q' =>
            refine .inr fun e => ?_
            injection e with e
            have := (HO.out.lt q' hob).1
            omega) (fun _ _ h => h)
        have hwr : IntKind.i64.wrap (1 + r4) = 1 + r4 := IntWalk.i64_in _ (by omega)
        clear z0 z1 z2 hd4 hg4
        have z0 : w4.cell? ⟨q, 0, none⟩ = some (.string c.name) := by rw [cell_block hb4]; rfl
        have z1 : w4.cell? ⟨q, 1, none⟩ = some (.slice ra rl rc) := by rw [cell_block hb4]; rfl
        have z2 : w4.cell? ⟨q, 2, none⟩ = some (.int .i64 c.full) := by rw [cell_block hb4]; rfl
        have zf : w4.frozen? ⟨q, 2, none⟩ = false := frozen_block hb4
        have hql4 := block_lt hb4
        have HB4 := Lib.hid hb4
        have HR4 := Lib.hid hr4
        have HO4 := Lib.hid ho4
        clear hb4 ho4 hr4 hrv
        go_upto_region 5 with (fail)
        have hb5 := setCell_block (o := 2) HB4.out (.int .i64 (1 + r4))
        have hr5 : (w4.setCell ⟨q, 2, none⟩ (.int .i64 (1 + r4))).heap[w.heap.size]? = _ := (setCell_other _ (Ne.symm hneq)).trans HR4.out
        have H5 : Hid (DkW w B g (w4.setCell ⟨q, 2, none⟩ (.int .i64 (1 + r4)))) := Lib.hid (H4.out.set (by omega) (by omega) hBw _)
        have ho5 : Own ruleE (w4.setCell ⟨q, 2, none⟩ (.int .i64 (1 + r4))) w1.heap.size 67 (.slice ra rl rc) c.rules := (Ch.set (row := some g) (B := 0) (B0 := 0) (X := [24]) HB4.out (List.mem_singleton.2 rfl) (Nat.zero_le _) (Nat.zero_le _) (fun e => by injection e with e; omega) _).own HO4.out (by decide) HGL
        have HR5 := Lib.hid hr5
        have HO5 := Lib.hid ho5
        have z05 : (w4.setCell ⟨q, 2, none⟩ (.int .i64 (1 + r4))).cell? ⟨q, 0, none⟩ = some (.string c.name) := by rw [cell_block hb5]; rfl
        have z15 : (w4.setCell ⟨q, 2, none⟩ (.int .i64 (1 + r4))).cell? ⟨q, 1, none⟩ = some (.slice ra rl rc) := by rw [cell_block hb5]; rfl
        have z25 : (w4.setCell ⟨q, 2, none⟩ (.int .i64 (1 + r4))).cell? ⟨q, 2, none⟩ = some (.int .i64 (1 + r4)) := by rw [cell_block hb5]; rfl
        have o0 : (w4.setCell ⟨q, 2, none⟩ (.int .i64 (1 + r4))).cell? ⟨w.heap.size, 0, none⟩ = some (.string ⟨#[]⟩) := by rw [cell_block hr5]; rfl
        have o1 : (w4.setCell ⟨q, 2, none⟩ (.int .i64 (1 + r4))).cell? ⟨w.heap.size, 1, none⟩ = some (.slice none 0 0) := by rw [cell_block hr5]; rfl
        have o2 : (w4.setCell ⟨q, 2, none⟩ (.int .i64 (1 + r4))).cell? ⟨w.heap.size, 2, none⟩ = some (.int .i64 0) := by rw [cell_block hr5]; rfl
        have p0 : (w4.setCell ⟨q, 2, none⟩ (.int .i64 (1 + r4))).frozen? ⟨w.heap.size, 0, none⟩ = false := frozen_block hr5
        have p1 : (w4.setCell ⟨q, 2, none⟩ (.int .i64 (1 + r4))).frozen? ⟨w.heap.size, 1, none⟩ = false := frozen_block hr5
        have p2 : (w4.setCell ⟨q, 2, none⟩ (.int .i64 (1 + r4))).frozen? ⟨w.heap.size, 2, none⟩ = false := frozen_block hr5
        have hql5 := block_lt hb5
        have hrl5 := block_lt hr5
        have hok5 := cfOk_full HOK.out hfu (f := 1 + r4) (by omega) (by omega)
        have HOK5 := Lib.hid hok5
        clear hb5 hr5 ho5 z0 z1 z2 zf hok5
        generalize w4.setCell ⟨q, 2, none⟩ (.int .i64 (1 + r4)) = V at *
        go_wp2_with fail
        exact cfg_end (c := { c with full := 1 + r4 }) HR5.out H5.out hBw hne0 (HO5.out.base (by omega)) HOK5.out (by omega) (by rfl)
      · have o0 : W.cell? ⟨w.heap.size, 0, none⟩ = some (.string ⟨#[]⟩) := by rw [cell_block hrv]; rfl
        have o1 : W.cell? ⟨w.heap.size, 1, none⟩ = some (.slice none 0 0) := by rw [cell_block hrv]; rfl
        have o2 : W.cell? ⟨w.heap.size, 2, none⟩ = some (.int .i64 0) := by rw [cell_block hrv]; rfl
        have p0 : W.frozen? ⟨w.heap.size, 0, none⟩ = false := frozen_block hrv
        have p1 : W.frozen? ⟨w.heap.size, 1, none⟩ = false := frozen_block hrv
        have p2 : W.frozen? ⟨w.heap.size, 2, none⟩ = false := frozen_block hrv
        have hrl2 := block_lt hrv
        have HR := Lib.hid hrv
        clear hrv
        go_wp2_with fail
        refine @cfg_end w W B g c (.slice ra rl rc) _ _ _ _ HR.out HDW.out hBw hne0 (HO.out.base (by omega)) HOK.out (by omega) ?_
        rfl
  · skip
    go_wp2_with fail
    refine (next_any _ _ 4 _ HW1.out.deck (by omega) (by omega)).mono ?_
    rintro e w2 ⟨n0, h20, h21, rfl, hd2, hg2⟩
    obtain ⟨n, rfl⟩ := Int.eq_ofNat_of_zero_le h20
    have hwn : IntKind.i64.wrap (1 + (n : Int)) = 1 + (n : Int) := IntWalk.i64_in _ (by omega)
    have H2 : Hid (DkW w B g w2) := Lib.hid (HW1.out.next hd2 hg2)
    have HR2 : Hid (w2.heap[w.heap.size]? = _) := Lib.hid (grown_block hg2 HRV.out (fun e => by injection e with e; omega))
    have hs2 := H2.out.gr.size
    have hr2 := block_lt HR2.out
    clear hd2 hg2
    go_wp2_with fail
    have hst : CoW w B g w2.heap.size (n + 1) 0 (.slice none 0 0) [] 0 (w2.alloc (.cells #[.string ⟨#[111, 119, 110]⟩, .slice none 0 0, .int .i64 0] 24)) :=
      ⟨H2.out.alloc _, alloc_block HR2.out, heap_alloc_new _ _, Own.nil _ _ _ _, by omega, by omega, hBw⟩
    have HST := Lib.hid hst
    clear hst
    go_loopw [7] (fun i wr => ∃ (b : Nat) (rv : Value) (rs : List Rl) (full : Int), b ≤ n + 1 ∧ i = .int .i64 b ∧ CoW w B g w2.heap.size (n + 1) b rv rs full wr ∧ RlsOk (n + 1) b rs full) (fun i _ => n + 1 - (intOf i).toNat)
    case atStart => exact ⟨0, _, [], 0, by omega, rfl, HST.out, rfl, fun i h => absurd h (Nat.not_lt_zero _), fun i h => absurd h (Nat.not_lt_zero _), fun _ => rfl, fun h => absurd h (Nat.not_lt_zero _)⟩
    case round =>
      obtain ⟨b, rv, rs, full, hb, rfl, hco, hrl⟩ := hrel
      have HCO := Lib.hid hco
      have HRL := Lib.hid hrl
      have hbl := hrl.len
      obtain ⟨ra, rl, rc, rfl⟩ := own_sl hco.own
      obtain ⟨cg, cq, c0, c1, c2, cf1, cf2⟩ := hco.cells
      clear hco hrl HST
      by_cases hlt : b < n + 1
      · have hwb : IntKind.i64.wrap ((b : Int) + 1) = (b : Int) + 1 := IntWalk.i64_in _ (by omega)
        go_wp2_with fail
        refine (next_any _ _ 3 _ HCO.out.dk.deck (by omega) (by omega)).mono ?_
        rintro e w3 ⟨bt, h30, h31, rfl, hd3, hg3⟩
        have h3 := HCO.out.next hd3 hg3
        have hq3 := block_lt h3.cfg
        have hbo : BoW w B g w2.heap.size (n + 1) b w3.heap.size (.slice ra rl rc) rs full 0 0 bt ((b : Int) + 1) (w3.alloc (.cells #[.float .f64 0, .int .i64 0, .int .i64 bt, .int .i64 ((b : Int) + 1)] 67)) :=
          ⟨h3.below ((Below.refl _ _).alloc (Nat.le_refl _) _), heap_alloc_new _ _, hq3, fun e => by have := (h3.own.lt _ e.symm).2; omega⟩
        have HBO := Lib.hid hbo
        clear hbo h3 hd3 hg3 c0 c1 c2 cf1 cf2 cq cg HCO
        go_wp2_with fail
        generalize w3.heap.size = p at *
        refine (next_any _ _ 3 _ HBO.out.dk.deck (by omega) (by omega)).mono ?_
        rintro e w4 ⟨r4, h40, h41, rfl, hd4, hg4⟩
        have HB4 := Lib.hid (HBO.out.next hd4 hg4)
        clear hd4 hg4 HBO
        go_upto_if 53 with (fail)
        go_cut [] from 53 to 88 (fun wx => ∃ s : Nat, shareB s = true ∧ BoW w B g w2.heap.size (n + 1) b p (.slice ra rl rc) rs full s 0 bt ((b : Int) + 1) wx)
        case first =>
          by_cases hr4 : 0 < r4
          · go_wp2_with fail
            refine (share_any B g _ HB4.out.dk.deck (by have := HB4.out.dk.gr.size; omega)).mono ?_
            rintro e w5 ⟨x, rfl, hx, hdk5⟩
            have h5 := HB4.out.next hdk5.deck hdk5.gr
            obtain ⟨e1, e2, e3, e4, e5, e6, e7, e8, e9⟩ := h5.cellsP
            have H5 := Lib.hid h5
            have HX := Lib.hid hx
            clear h5 hx hdk5
            go_wp2_with fail
            go_meet
            case rel => exact ⟨x, HX.out, H5.out.setP rfl⟩
          · go_wp2_with fail
            go_meet
            case rel => exact ⟨0, share0, HB4.out⟩
        case rest =>
          obtain ⟨s, hsh, hbo⟩ := hcut
          have HSH := Lib.hid hsh
          have HB5 := Lib.hid hbo
          clear hsh hbo HB4
          have hful : full = 0 := HRL.out.fu hlt
          subst hful
          by_cases hbn : b < n
          · have k1 : decide ((b : Int) < 1 + (n : Int) - 1) = true := by simp; omega
            have k2 : ((b : Int) == 1 + (n : Int) - 1) = false := by simp; omega
            have kw : IntKind.i64.wrap (1 + (n : Int) - 1) = 1 + (n : Int) - 1 := IntWalk.i64_in _ (by omega)
            go_wp2_with fail
            refine (next_any _ _ 3 _ HB5.out.dk.deck (by omega) (by omega)).mono ?_
            rintro e w6 ⟨r6, h60, h61, rfl, hd6, hg6⟩
            have HB6 := Lib.hid (HB5.out.next hd6 hg6)
            clear hd6 hg6 HB5
            by_cases hr6 : r6 = 0
            · subst hr6
              go_wp2_with fail
              refine (next_any _ _ 2 _ HB6.out.dk.deck (by omega) (by omega)).mono ?_
              rintro e w7 ⟨r7, h70, h71, rfl, hd7, hg7⟩
              have HB7 := Lib.hid (HB6.out.next hd7 hg7)
              have hw7 : IntKind.i64.wrap (1 + r7) = 1 + r7 := IntWalk.i64_in _ (by omega)
              clear hd7 hg7 HB6
              obtain ⟨x1, x2, x3, x4, x5, x6, x7, x8, x9⟩ := HB7.out.cellsP
              go_upto_region 16 with (fail)
              have HB8 := Lib.hid (HB7.out.setP (o := 1) (v := .int .i64 (1 + r7)) rfl)
              clear x1 x2 x3 x4 x5 x6 x7 x8 x9 HB7
              generalize w7.setCell ⟨p, 1, none⟩ (.int .i64 (1 + r7)) = w8 at *
              have hrf : RlsOk (n + 1) (b + 1) (rs ++ [⟨s, 1 + r7, bt, ((b : Int) + 1)⟩]) 0 := HRL.out.snoc hlt (⟨HSH.out, ⟨by dsimp only; omega, by dsimp only; omega⟩, ⟨by dsimp only; omega, by dsimp only; omega⟩, fun h => (by exfalso; omega), fun h => (by exfalso; omega), fun h => ⟨by dsimp only; omega, by dsimp only; omega⟩⟩) (fun _ => rfl) (fun _ => rfl) (fun h => (by exfalso; omega))
              have HRF := Lib.hid hrf
              clear hrf
              obtain ⟨cg, cq, c0, c1, c2, cf1, cf2⟩ := HB8.out.toCoW.cells
              obtain ⟨e1, e2, e3, e4, e5, e6, e7, e8, e9⟩ := HB8.out.cellsP
              have hsz := HB8.out.dk.gr.size
              have hrl4 : rs.length ≤ 4 := by omega
              go_wp2_with (at_builtin; go_must (refine wpList_append_lit ruleE ruleS rfl _ _ rfl (w.heap.size + 1) _ rs rfl HB8.out.own ⟨s, 1 + r7, bt, ((b : Int) + 1)⟩ _ _ rfl ?_ rfl ?_ ?_ ?_ ?_ (fun _ _ _ _ h => h) ?_))
              · simp
              · simp [Value.oneCell']
              · omega
              · unfold maxLen; omega
              · omega
              · intro v9 w9 ho9 hg9 hbb9
                obtain ⟨va, vl, vc, rfl⟩ := own_sl ho9
                have e10 := hbb9
                have hcf : w9.heap[w2.heap.size]? = _ := grown_block hg9 (alloc_block HB8.out.cfg) (HB8.out.own.ne_block HB8.out.cfg (by decide))
                have d1 : w9.cell? ⟨w2.heap.size, 1, none⟩ = some (.slice ra rl rc) := by rw [cell_block hcf]; rfl
                have df : w9.frozen? ⟨w2.heap.size, 1, none⟩ = false := frozen_block hcf
                have dl := block_lt hcf
                have hfin : CoW w B g w2.heap.size (n + 1) (b + 1) _ _ _ _ := HB8.out.toCoW.app hg9 e10 ho9
                have HFIN := Lib.hid hfin
                clear hfin hcf hg9 hbb9 ho9 e10
                go_wp2
                go_roundw
                case rel => exact ⟨b + 1, _, _, _, by omega, by go_num, HFIN.out, HRF.out⟩
                case measure => first | (simp [intOf]; done) | (simp [intOf]; omega)
            · have hz6 : (r6 == 0) = false := by simpa using hr6
              clear hr6
              have hrf : RlsOk (n + 1) (b + 1) (rs ++ [⟨s, 0, bt, ((b : Int) + 1)⟩]) 0 := HRL.out.snoc hlt (⟨HSH.out, ⟨by dsimp only; omega, by dsimp only; omega⟩, ⟨by dsimp only; omega, by dsimp only; omega⟩, fun h => (by exfalso; omega), fun h => (by exfalso; omega), fun h => ⟨by dsimp only; omega, by dsimp only; omega⟩⟩) (fun _ => rfl) (fun _ => rfl) (fun h => (by exfalso; omega))
              have HRF := Lib.hid hrf
              clear hrf
              obtain ⟨cg, cq, c0, c1, c2, cf1, cf2⟩ := HB6.out.toCoW.cells
              obtain ⟨e1, e2, e3, e4, e5, e6, e7, e8, e9⟩ := HB6.out.cellsP
              have hsz := HB6.out.dk.gr.size
              have hrl4 : rs.length ≤ 4 := by omega
              go_wp2_with (at_builtin; go_must (refine wpList_append_lit ruleE ruleS rfl _ _ rfl (w.heap.size + 1) _ rs rfl HB6.out.own ⟨s, 0, bt, ((b : Int) + 1)⟩ _ _ rfl ?_ rfl ?_ ?_ ?_ ?_ (fun _ _ _ _ h => h) ?_))
              · simp
              · simp [Value.oneCell']
              · omega
              · unfold maxLen; omega
              · omega
              · intro v9 w9 ho9 hg9 hbb9
                obtain ⟨va, vl, vc, rfl⟩ := own_sl ho9
                have e10 := hbb9
                have hcf : w9.heap[w2.heap.size]? = _ := grown_block hg9 (alloc_block HB6.out.cfg) (HB6.out.own.ne_block HB6.out.cfg (by decide))
                have d1 : w9.cell? ⟨w2.heap.size, 1, none⟩ = some (.slice ra rl rc) := by rw [cell_block hcf]; rfl
                have df : w9.frozen? ⟨w2.heap.size, 1, none⟩ = false := frozen_block hcf
                have dl := block_lt hcf
                have hfin : CoW w B g w2.heap.size (n + 1) (b + 1) _ _ _ _ := HB6.out.toCoW.app hg9 e10 ho9
                have HFIN := Lib.hid hfin
                clear hfin hcf hg9 hbb9 ho9 e10
                go_wp2
                go_roundw
                case rel => exact ⟨b + 1, _, _, _, by omega, by go_num, HFIN.out, HRF.out⟩
                case measure => first | (simp [intOf]; done) | (simp [intOf]; omega)
          · have hbn' : b = n := by omega
            subst hbn'
            have k1 : decide ((b : Int) < 1 + (b : Int) - 1) = false := by simp; omega
            have k2 : ((b : Int) == 1 + (b : Int) - 1) = true := by simp; omega
            have kw : IntKind.i64.wrap (1 + (b : Int) - 1) = 1 + (b : Int) - 1 := IntWalk.i64_in _ (by omega)
            obtain ⟨x1, x2, x3, x4, x5, x6, x7, x8, x9⟩ := HB5.out.cellsP
            go_upto_region 18 with (fail)
            have HB6 := Lib.hid (HB5.out.setP (o := 3) (v := .int .i64 b) rfl)
            clear x1 x2 x3 x4 x5 x6 x7 x8 x9 HB5
            generalize wc.setCell ⟨p, 3, none⟩ (.int .i64 b) = w6 at *
            by_cases hq0 : FloatKind.f64.format.order s 0 = some Ordering.eq
            · have kq : (FloatKind.f64.format.order s 0 == some Ordering.eq) = true := by simpa using hq0
              obtain ⟨x1, x2, x3, x4, x5, x6, x7, x8, x9⟩ := HB6.out.cellsP
              go_wp2_with fail
              refine (next_any _ _ 6 _ HB6.out.dk.deck (by omega) (by omega)).mono ?_
              rintro e w7 ⟨r7, h70, h71, rfl, hd7, hg7⟩
              have HB7 := Lib.hid (HB6.out.next hd7 hg7)
              have hw7 : IntKind.i64.wrap (1 + r7) = 1 + r7 := IntWalk.i64_in _ (by omega)
              clear hd7 hg7 HB6 x1 x2 x3 x4 x5 x6 x7 x8 x9
              obtain ⟨cg, cq, c0, c1, c2, cf1, cf2⟩ := HB7.out.toCoW.cells
              go_upto_region 20 with (fail)
              have HB8 := Lib.hid (HB7.out.setF (1 + r7))
              clear cg cq c0 c1 c2 cf1 cf2 HB7
              generalize w7.setCell ⟨w2.heap.size, 2, none⟩ (.int .i64 (1 + r7)) = w8 at *
              have hrf : RlsOk (b + 1) (b + 1) (rs ++ [⟨s, 0, bt, (b : Int)⟩]) (1 + r7) := HRL.out.snoc hlt (⟨HSH.out, ⟨by dsimp only; omega, by dsimp only; omega⟩, ⟨by dsimp only; omega, by dsimp only; omega⟩, fun h => rfl, fun h => rfl, fun h => (by exfalso; omega)⟩) (fun h => (by exfalso; omega)) (fun h => (by exfalso; omega)) (fun _ => (by dsimp only; rw [if_pos hq0]; omega))
              have HRF := Lib.hid hrf
              clear hrf
              obtain ⟨cg, cq, c0, c1, c2, cf1, cf2⟩ := HB8.out.toCoW.cells
              obtain ⟨e1, e2, e3, e4, e5, e6, e7, e8, e9⟩ := HB8.out.cellsP
              have hsz := HB8.out.dk.gr.size
              have hrl4 : rs.length ≤ 4 := by omega
              go_wp2_with (at_builtin; go_must (refine wpList_append_lit ruleE ruleS rfl _ _ rfl (w.heap.size + 1) _ rs rfl HB8.out.own ⟨s, 0, bt, (b : Int)⟩ _ _ rfl ?_ rfl ?_ ?_ ?_ ?_ (fun _ _ _ _ h => h) ?_))
              · simp
              · simp [Value.oneCell']
              · omega
              · unfold maxLen; omega
              · omega
              · intro v9 w9 ho9 hg9 hbb9
                obtain ⟨va, vl, vc, rfl⟩ := own_sl ho9
                have e10 := hbb9
                have hcf : w9.heap[w2.heap.size]? = _ := grown_block hg9 (alloc_block HB8.out.cfg) (HB8.out.own.ne_block HB8.out.cfg (by decide))
                have d1 : w9.cell? ⟨w2.heap.size, 1, none⟩ = some (.slice ra rl rc) := by rw [cell_block hcf]; rfl
                have df : w9.frozen? ⟨w2.heap.size, 1, none⟩ = false := frozen_block hcf
                have dl := block_lt hcf
                have hfin : CoW w B g w2.heap.size (b + 1) (b + 1) _ _ _ _ := HB8.out.toCoW.app hg9 e10 ho9
                have HFIN := Lib.hid hfin
                clear hfin hcf hg9 hbb9 ho9 e10
                go_wp2
                go_roundw
                case rel => exact ⟨b + 1, _, _, _, by omega, by go_num, HFIN.out, HRF.out⟩
                case measure => first | (simp [intOf]; done) | (simp [intOf]; omega)
            · have kq : (FloatKind.f64.format.order s 0 == some Ordering.eq) = false := by simpa using hq0
              have hrf : RlsOk (b + 1) (b + 1) (rs ++ [⟨s, 0, bt, (b : Int)⟩]) 0 := HRL.out.snoc hlt (⟨HSH.out, ⟨by dsimp only; omega, by dsimp only; omega⟩, ⟨by dsimp only; omega, by dsimp only; omega⟩, fun h => rfl, fun h => rfl, fun h => (by exfalso; omega)⟩) (fun h => (by exfalso; omega)) (fun h => (by exfalso; omega)) (fun _ => (by dsimp only; rw [if_neg hq0]))
              have HRF := Lib.hid hrf
              clear hrf
              obtain ⟨cg, cq, c0, c1, c2, cf1, cf2⟩ := HB6.out.toCoW.cells
              obtain ⟨e1, e2, e3, e4, e5, e6, e7, e8, e9⟩ := HB6.out.cellsP
              have hsz := HB6.out.dk.gr.size
              have hrl4 : rs.length ≤ 4 := by omega
              go_wp2_with (at_builtin; go_must (refine wpList_append_lit ruleE ruleS rfl _ _ rfl (w.heap.size + 1) _ rs rfl HB6.out.own ⟨s, 0, bt, (b : Int)⟩ _ _ rfl ?_ rfl ?_ ?_ ?_ ?_ (fun _ _ _ _ h => h) ?_))
              · simp
              · simp [Value.oneCell']
              · omega
              · unfold maxLen; omega
              · omega
              · intro v9 w9 ho9 hg9 hbb9
                obtain ⟨va, vl, vc, rfl⟩ := own_sl ho9
                have e10 := hbb9
                have hcf : w9.heap[w2.heap.size]? = _ := grown_block hg9 (alloc_block HB6.out.cfg) (HB6.out.own.ne_block HB6.out.cfg (by decide))
                have d1 : w9.cell? ⟨w2.heap.size, 1, none⟩ = some (.slice ra rl rc) := by rw [cell_block hcf]; rfl
                have df : w9.frozen? ⟨w2.heap.size, 1, none⟩ = false := frozen_block hcf
                have dl := block_lt hcf
                have hfin : CoW w B g w2.heap.size (b + 1) (b + 1) _ _ _ _ := HB6.out.toCoW.app hg9 e10 ho9
                have HFIN := Lib.hid hfin
                clear hfin hcf hg9 hbb9 ho9 e10
                go_wp2
                go_roundw
                case rel => exact ⟨b + 1, _, _, _, by omega, by go_num, HFIN.out, HRF.out⟩
                case measure => first | (simp [intOf]; done) | (simp [intOf]; omega)
      · have hbe : b = n + 1 := by omega
        have hcf := HRL.out
        rw [hbe] at hcf
        have hok := hcf.cf (by omega) (by omega)
        have HOK := Lib.hid hok
        have hrv := HCO.out.res
        have o0 : wr.cell? ⟨w.heap.size, 0, none⟩ = some (.string ⟨#[]⟩) := by rw [cell_block hrv]; rfl
        have o1 : wr.cell? ⟨w.heap.size, 1, none⟩ = some (.slice none 0 0) := by rw [cell_block hrv]; rfl
        have o2 : wr.cell? ⟨w.heap.size, 2, none⟩ = some (.int .i64 0) := by rw [cell_block hrv]; rfl
        have p0 : wr.frozen? ⟨w.heap.size, 0, none⟩ = false := frozen_block hrv
        have p1 : wr.frozen? ⟨w.heap.size, 1, none⟩ = false := frozen_block hrv
        have p2 : wr.frozen? ⟨w.heap.size, 2, none⟩ = false := frozen_block hrv
        have hrl2 := block_lt hrv
        have hneq : w2.heap.size ≠ w.heap.size := by omega
        have hne0 : w.heap.size ≠ g := by omega
        clear hok hcf hrv
        go_wp2_with fail
        refine @cfg_end w wr B g ⟨⟨#[111, 119, 110]⟩, rs, full⟩ (.slice ra rl rc) _ _ _ _ HCO.out.res HCO.out.dk hBw hne0 HCO.out.own HOK.out (by omega) ?_
        rfl
end Go.Proofs.Ytchdmemgkegefaa
