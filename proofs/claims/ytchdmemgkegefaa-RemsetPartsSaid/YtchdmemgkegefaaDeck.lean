/- The deck of numbers: New, Next, Left. -/
import Derived.Test.YtchdmemgkegefaaMod
import Derived.Deep.QuietTactic
import Derived.BigQuiet
namespace Go.Proofs.Ytchdmemgkegefaa
open Go.RowKit

def i64E : El Int := flat 1 (fun x => [.int .i64 x]) fun _ => rfl
def I64 (x : Int) : Prop := -9223372036854775808 ≤ x ∧ x ≤ 9223372036854775807

/-- block g is a deck: its list stays whatever is written into blocks from B on, g among them -/
def Deck (B : Nat) (w : World) (g : Nat) : Prop :=
  B ≤ g ∧ ∃ (v : Value) (l : List Int) (n : Nat), w.heap[g]? = some (.cells #[v, .int .i64 n] 60 (0, 0)) ∧ n ≤ l.length ∧ (∀ x ∈ l, I64 x) ∧
    ∀ w' : World, (∀ k, k < B → w'.heap[k]? = w.heap[k]?) → Rd i64E w' v l

theorem Deck.lt {B : Nat} {w : World} {g : Nat} (h : Deck B w g) : g < w.heap.size := by
  obtain ⟨_, v, l, n, h1, _⟩ := h
  exact (Array.getElem?_eq_some_iff.1 h1).1

theorem Deck.keep {B : Nat} {w w' : World} {g : Nat} (h : Deck B w g) (hk : ∀ k, k < B → w'.heap[k]? = w.heap[k]?) (hg : w'.heap[g]? = w.heap[g]?) : Deck B w' g := by
  obtain ⟨hB, v, l, n, h1, h2, h3, h4⟩ := h
  exact ⟨hB, v, l, n, by rw [hg]; exact h1, h2, h3, fun w'' h => h4 w'' fun k hk1 => by rw [h k hk1, hk k hk1]⟩

theorem Deck.below {B C : Nat} {w w' : World} {g : Nat} (h : Deck B w g) (hb : Below C w w') (hC : g < C) : Deck B w' g :=
  h.keep (fun k hk => hb.block k (by have := h.1; omega)) (hb.block g hC)
theorem Deck.drew {B : Nat} {w : World} {g : Nat} (h : Deck B w g) (n : Nat) : Deck B (w.drewN n) g := h.keep (fun _ _ => rfl) rfl

theorem cell_block {w : World} {g o : Nat} {cs : Array Value} {T : TypeId} (h : w.heap[g]? = some (.cells cs T (0, 0))) : w.cell? ⟨g, o, none⟩ = cs[o]? := cell_of_row w g o cs T (0, 0) h
theorem frozen_block {w : World} {g o : Nat} {cs : Array Value} {T : TypeId} (h : w.heap[g]? = some (.cells cs T (0, 0))) : w.frozen? ⟨g, o, none⟩ = false := by
  unfold World.frozen?
  rw [show w.heap[(⟨g, o, none⟩ : Addr).block]? = some (.cells cs T (0, 0)) from h]
  simp
theorem setCell_block {w : World} {g o : Nat} {cs : Array Value} {T : TypeId} (h : w.heap[g]? = some (.cells cs T (0, 0))) (v : Value) : (w.setCell ⟨g, o, none⟩ v).heap[g]? = some (.cells (cs.setIfInBounds o v) T (0, 0)) := by
  unfold World.setCell
  simp only [Array.getElem?_modify, if_true, h, Option.map_some]
  rfl
theorem setCell_other {w : World} {g o k : Nat} (v : Value) (h : k ≠ g) : (w.setCell ⟨g, o, none⟩ v).heap[k]? = w.heap[k]? := Below.heap_setCell _ _ _ _ h
theorem setCell_size {w : World} {a : Addr} (v : Value) : (w.setCell a v).heap.size = w.heap.size := by simp [World.setCell]

theorem grown_below {w a b : World} {row : Option Nat} (h : w.grownBy a row) (hb : Below w.heap.size a b) : w.grownBy b row :=
  ⟨hb.os.trans h.os, hb.tape.trans h.tape, hb.output.trans h.output, Nat.le_trans h.size hb.size, fun k hk hn => (hb.block k hk).trans (h.block k hk hn)⟩
theorem grown_drew {w w' : World} {row : Option Nat} (h : w.grownBy w' row) (n : Nat) : w.grownBy (w'.drewN n) row := ⟨h.os, h.tape, h.output, h.size, h.block⟩
theorem grown_refl (w : World) (row : Option Nat) : w.grownBy w row := ⟨rfl, rfl, rfl, Nat.le_refl _, fun _ _ _ => rfl⟩
theorem grown_set {w : World} {g o : Nat} (v : Value) : w.grownBy (w.setCell ⟨g, o, none⟩ v) (some g) := ⟨rfl, rfl, rfl, by simp [World.setCell], fun k _ hk => setCell_other v (fun e => hk (by rw [e]))⟩
theorem grown_trans {a b c : World} {row : Option Nat} (h : a.grownBy b row) (k : b.grownBy c row) : a.grownBy c row :=
  ⟨k.os.trans h.os, k.tape.trans h.tape, k.output.trans h.output, Nat.le_trans h.size k.size, fun i hi hn => (k.block i (Nat.lt_of_lt_of_le hi h.size) hn).trans (h.block i hi hn)⟩

set_option maxHeartbeats 1000000 in
theorem next_any (B g : Nat) (n : Int) (w : World) (hd : Deck B w g) (hn : 1 ≤ n) (hn2 : n ≤ 9223372036854775807) :
    Calls Try.prog 23 #[.pointer (some ⟨g, 0, none⟩), .int .i64 n] w fun e w' => ∃ r : Int, 0 ≤ r ∧ r < n ∧ e = .returned (.int .i64 r) ∧ Deck B w' g ∧ w.grownBy w' (some g) := by
  have hgl := hd.lt
  obtain ⟨hBg, v, l, p, h1, h2, h3, h4⟩ := hd
  obtain ⟨a, cap, rfl, hc1, hc2, hrd⟩ := (h4 w fun _ _ => rfl).flat
  unfold maxLen at hc2
  have c0 : w.cell? ⟨g, 0, none⟩ = some (.slice a l.length cap) := by rw [cell_block h1]; rfl
  have c1 : w.cell? ⟨g, 1, none⟩ = some (.int .i64 p) := by rw [cell_block h1]; rfl
  have f1 : w.frozen? ⟨g, 1, none⟩ = false := frozen_block h1
  have H4 := Lib.hid h4; clear h4
  have H3 := Lib.hid h3; clear h3
  have H1 := Lib.hid h1; clear h1
  by_cases hp : p < l.length
  · rcases hrd with hrd | ⟨b, off, rfl, hb, hrd⟩
    · simp [hrd] at hp
    have x0 := hrd p hp 0 (by omega)
    simp at x0
    have hpd : decide ((l.length : Int) ≤ p) = false := by simp; omega
    have HR := Lib.hid hrd; clear hrd
    go_enter Try.func23, Try.ntmps23
    go_wp2
    go_quiet (fail)
    go_wp2_with fail
    generalize hW : (w.drewN nq).setCell ⟨g, 1, none⟩ (.int .i64 ((p : Int) + 1)) = W
    have hst : ∀ k, k < w.heap.size → k ≠ g → W.heap[k]? = w.heap[k]? := fun k _ hk => by rw [← hW, setCell_other _ hk]; rfl
    have hsz : W.heap.size = w.heap.size := by rw [← hW, setCell_size]; rfl
    have hgW : W.heap[g]? = some (.cells #[.slice (some ⟨b, off, none⟩) l.length cap, .int .i64 ((p + 1 : Nat) : Int)] 60 (0, 0)) := by
      rw [← hW, setCell_block (w := w.drewN nq) H1.out]; simp
    have hgr : w.grownBy W (some g) := ⟨by rw [← hW]; rfl, by rw [← hW]; rfl, by rw [← hW]; rfl, by rw [hsz]; exact Nat.le_refl _, fun k hk hn => hst k hk (fun e => hn (by rw [e]))⟩
    obtain ⟨a', cap', e1, _, _, hr2⟩ := (H4.out W fun k hk => hst k (by omega) (by omega)).flat
    simp only [Value.slice.injEq, true_and] at e1
    obtain ⟨rfl, rfl⟩ := e1
    rcases hr2 with hr2 | ⟨b', off', e2, _, hr2⟩
    · simp [hr2] at hp
    simp only [Option.some.injEq, Addr.mk.injEq, and_true] at e2
    obtain ⟨rfl, rfl⟩ := e2
    have y0 := hr2 p hp 0 (by omega)
    simp at y0
    have y1 : W.cell? ⟨g, 0, none⟩ = some (.slice (some ⟨b, off, none⟩) l.length cap) := by rw [cell_block hgW]; rfl
    have y2 : W.cell? ⟨g, 1, none⟩ = some (.int .i64 ((p : Int) + 1)) := by rw [cell_block hgW]; rfl
    have HG := Lib.hid hgW
    have HT := Lib.hid hst
    clear hW hgW hst hr2 x0 c0 c1 f1
    have hm := H3.out l[p] (List.getElem_mem hp)
    have hb1 : (0 : Int) ≤ p := Int.natCast_nonneg _
    have hb2 : (p : Int) < l.length := by omega
    have hws : IntKind.i64.wrap ((p : Int) + 1 - 1) = p := by rw [IntWalk.i64_in _ (by omega)]; omega
    go_quiet ((go_at_call 14; exact Calls.quiet_of_same ((mod_any _ _ _ hn hn2).mono fun e w' ⟨h1, h2⟩ => ⟨h1, h2.symm⟩)))
    go_wp2
    go_ret
    refine ⟨_, Int.emod_nonneg _ (by omega), Int.emod_lt_of_pos _ (by omega), rfl, ?_, grown_drew hgr _⟩
    refine ⟨hBg, _, l, p + 1, HG.out, hp, H3.out, fun w' hk => H4.out w' fun k hk1 => ?_⟩
    rw [← HT.out k (by omega) (by omega)]
    exact hk k hk1
  · have hpd : decide ((l.length : Int) ≤ p) = true := by simp; omega
    go_enter Try.func23, Try.ntmps23
    go_wp2
    go_quiet (fail)
    go_wp2
    go_ret
    exact ⟨0, by omega, by omega, rfl, Deck.keep ⟨hBg, _, l, p, H1.out, h2, H3.out, H4.out⟩ (fun _ _ => rfl) rfl, grown_drew (grown_refl _ _) _⟩

theorem new_any (v : Value) (l : List Int) (w : World) (hv : Rd i64E w v l) (hl : ∀ x ∈ l, I64 x) :
    Calls Try.prog 11 #[v] w fun e w' => ∃ g, e = .returned (.pointer (some ⟨g, 0, none⟩)) ∧ Deck w.heap.size w' g ∧ Below w.heap.size w w' := by
  have HV := Lib.hid hv
  obtain ⟨a, cap, rfl, hc1, hc2, hrd⟩ := hv
  clear hrd
  go_enter Try.func11, Try.ntmps11
  go_wp2
  go_ret
  refine ⟨w.heap.size, rfl, ⟨Nat.le_refl _, .slice a l.length cap, l, 0, heap_alloc_new _ _, Nat.zero_le _, hl, fun w' hk => HV.out.keep fun k hk1 => ?_⟩, (Below.refl _ _).alloc (Nat.le_refl _) _⟩
  rw [hk k hk1]
  exact Below.heap_alloc _ _ _ hk1

end Go.Proofs.Ytchdmemgkegefaa
