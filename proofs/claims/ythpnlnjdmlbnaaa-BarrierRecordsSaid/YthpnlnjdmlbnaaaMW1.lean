/- Parts of the proof: D1, D2, D3, D4, D5, D6, D7, D8, Reg. No condition. -/
import Derived.WalkKit
import Derived.WalkSpells
import Derived.WalkLawsBesides
import Derived.Lib.Hide
import Derived.Orders
import Derived.Laws.CopyRow
import Derived.Laws.AppendOwn
import Derived.Laws.OwnMore
import Derived.Laws.MakeOwn
import Derived.Great.BuildSlice
import Derived.RegionTactic
import Derived.Deep.RegionHeld
/- Values as plain data, and when memory reads as such data. No condition. -/
namespace Go.Proofs.Ythpnlnjdmlbnaaa
open Go.RowKit

/-- data: what a slot holds. sl: a slice that is written no more; own: a slice of an object; ptr: an address in an object; pp: an address of cells that are written no more -/
inductive DV where
  | any
  | lit (v : Value)
  | sl (xs : List (List DV))
  | own (s off len : Nat)
  | ptr (s i j : Nat)
  | pp (xs : List DV)
  | agg (xs : List DV)
  | tup (xs : List DV)
  | fn (f : FuncId) (cap : List DV)
  | dp (z : Nat) (xs : List (List DV))
  deriving Inhabited

/-- what is known of an object's place in memory -/
structure Ent where
  esz : Nat
  blk : Option (Nat × Nat)
  mu : Bool
  inn : Nat → Prop := fun _ => False

/-- its blocks: its own one, and those of slices inside -/
def Ent.has (e : Ent) (k : Nat) : Prop := (∃ c, e.blk = some (k, c)) ∨ e.inn k
theorem Ent.has_eq {e e0 : Ent} (h : e.blk = e0.blk) (hi : e.inn = e0.inn) {k : Nat} (hk : e.has k) : e0.has k := by unfold Ent.has at hk ⊢; rw [← h, ← hi]; exact hk
theorem Ent.has_blk {e : Ent} {k c : Nat} (h : e.blk = some (k, c)) : e.has k := .inl ⟨c, h⟩

/-- memory, with the blocks that nobody else may read (M) and the objects' places (some none: it is gone) -/
structure Mem where
  w : World
  M : Nat → Prop
  σ : Nat → Option (Option Ent)

/-- blocks that plain data does not lie in -/
def Mem.no (m : Mem) (k : Nat) : Prop := m.M k ∨ ∃ s e, m.σ s = some (some e) ∧ e.mu = true ∧ e.has k

/-- plain data: nothing that is written later -/
inductive PRep (w : World) (no : Nat → Prop) : Value → DV → Prop
  | lit (v : Value) : v.oneCell' = true → PRep w no v (.lit v)
  | nil (a : Option Addr) (cap : Nat) : cap ≤ maxLen → PRep w no (.slice a 0 cap) (.sl [])
  | sl (b off cap sz : Nat) (xs : List (List DV)) (f : Nat → Nat → Value) : 0 < sz → 0 < xs.length → xs.length ≤ cap → cap ≤ maxLen → ¬ no b → b < w.heap.size →
      (∀ (i : Nat) x, xs[i]? = some x → x.length = sz) →
      (∀ (i : Nat) x (j : Nat) d, xs[i]? = some x → x[j]? = some d → w.cell? ⟨b, off + i * sz + j, none⟩ = some (f i j)) →
      (∀ (i : Nat) x (j : Nat) d, xs[i]? = some x → x[j]? = some d → PRep w no (f i j) d) →
      PRep w no (.slice (some ⟨b, off, none⟩) xs.length cap) (.sl xs)

theorem cell_of_same {w w' : World} {b o : Nat} (h : w'.heap[b]? = w.heap[b]?) : w'.cell? ⟨b, o, none⟩ = w.cell? ⟨b, o, none⟩ :=
  World.cell?_of_block (a := ⟨b, o, none⟩) h

theorem PRep.ext {w w' : World} {no no' : Nat → Prop} (hsz : w.heap.size ≤ w'.heap.size) (hk : ∀ k, k < w.heap.size → ¬ no k → w'.heap[k]? = w.heap[k]? ∧ ¬ no' k) {v : Value} {d : DV} (h : PRep w no v d) : PRep w' no' v d := by
  induction h with
  | lit v h => exact .lit v h
  | nil a cap h => exact .nil a cap h
  | sl b off cap sz xs f h1 h2 h3 h4 h5 h6 h7 h8 _ ih =>
    obtain ⟨k1, k2⟩ := hk b h6 h5
    exact .sl b off cap sz xs f h1 h2 h3 h4 k2 (by omega) h7 (fun i x j d hx hd => by rw [cell_of_same k1]; exact h8 i x j d hx hd) ih

/-- a slot's value reads as data -/
inductive Rep (m : Mem) : Value → DV → Prop
  | any (v : Value) : Rep m v .any
  | pure {v : Value} {d : DV} : PRep m.w m.no v d → Rep m v d
  | own {s : Nat} {e : Ent} {g cap off len : Nat} : m.σ s = some (some e) → e.blk = some (g, cap) → off + len ≤ cap → cap ≤ maxLen →
      Rep m (.slice (some ⟨g, off * e.esz, none⟩) len (cap - off)) (.own s off len)
  | ownNil {s : Nat} {e : Ent} : m.σ s = some (some e) → e.blk = none → Rep m (.slice none 0 0) (.own s 0 0)
  | ownOld {s : Nat} {off len : Nat} {u : Value} : m.σ s = some none → Rep m u (.own s off len)
  | ptr {s : Nat} {e : Ent} {g cap i j : Nat} : m.σ s = some (some e) → e.blk = some (g, cap) → Rep m (.pointer (some ⟨g, i * e.esz + j, none⟩)) (.ptr s i j)
  | ptrOld {s : Nat} {i j : Nat} {u : Value} : m.σ s = some none → Rep m u (.ptr s i j)
  | pp {b off : Nat} {xs : List DV} (f : Nat → Value) : ¬ m.no b → b < m.w.heap.size →
      (∀ (j : Nat) d, xs[j]? = some d → m.w.cell? ⟨b, off + j, none⟩ = some (f j)) → (∀ (j : Nat) d, xs[j]? = some d → PRep m.w m.no (f j) d) →
      Rep m (.pointer (some ⟨b, off, none⟩)) (.pp xs)
  | agg {vs : List Value} {xs : List DV} : vs.length = xs.length → (∀ (i : Nat) v d, vs[i]? = some v → xs[i]? = some d → Rep m v d) → Rep m (.agg vs.toArray) (.agg xs)
  | tup {vs : List Value} {xs : List DV} : vs.length = xs.length → (∀ (i : Nat) v d, vs[i]? = some v → xs[i]? = some d → Rep m v d) → Rep m (.tuple vs.toArray) (.tup xs)
  | fn {f : FuncId} {vs : List Value} {xs : List DV} : vs.length = xs.length → (∀ (i : Nat) v d, vs[i]? = some v → xs[i]? = some d → Rep m v d) → Rep m (.func (.func f) #[] vs.toArray) (.fn f xs)
  | dp (v : Value) {z : Nat} {xs : List (List DV)} : Rep m v (.dp z xs)

/-- memory goes on: what was read reads on -/
structure Ext (m m' : Mem) : Prop where
  size : m.w.heap.size ≤ m'.w.heap.size
  M : m'.M = m.M
  keep : ∀ k, k < m.w.heap.size → ¬ m.no k → m'.w.heap[k]? = m.w.heap[k]? ∧ ¬ m'.no k
  ent : ∀ s x, m.σ s = some x → ∃ x', m'.σ s = some x' ∧ ∀ e', x' = some e' → ∃ e, x = some e ∧ e'.esz = e.esz ∧ e'.blk = e.blk

theorem Ext.refl (m : Mem) : Ext m m := ⟨Nat.le_refl _, rfl, fun _ _ h => ⟨rfl, h⟩, fun _ x h => ⟨x, h, fun e' h => ⟨e', h, rfl, rfl⟩⟩⟩

theorem Ext.trans {a b c : Mem} (h : Ext a b) (k : Ext b c) : Ext a c := by
  refine ⟨Nat.le_trans h.size k.size, k.M.trans h.M, fun i hi hn => ?_, fun s x hx => ?_⟩
  · obtain ⟨h1, h2⟩ := h.keep i hi hn
    obtain ⟨k1, k2⟩ := k.keep i (Nat.lt_of_lt_of_le hi h.size) h2
    exact ⟨k1.trans h1, k2⟩
  · obtain ⟨x1, h1, h2⟩ := h.ent s x hx
    obtain ⟨x2, k1, k2⟩ := k.ent s x1 h1
    refine ⟨x2, k1, fun e' he' => ?_⟩
    obtain ⟨e1, y1, y2, y3⟩ := k2 e' he'
    obtain ⟨e0, z1, z2, z3⟩ := h2 e1 y1
    exact ⟨e0, z1, y2.trans z2, y3.trans z3⟩

/-- an entry goes on, or is gone -/
theorem Ext.live {m m' : Mem} (h : Ext m m') {s : Nat} {e : Ent} (he : m.σ s = some (some e)) : m'.σ s = some none ∨ ∃ e', m'.σ s = some (some e') ∧ e'.esz = e.esz ∧ e'.blk = e.blk := by
  obtain ⟨x', h1, h2⟩ := h.ent s _ he
  cases x' with
  | none => exact .inl h1
  | some e' =>
    obtain ⟨e0, k1, k2, k3⟩ := h2 e' rfl
    injection k1 with k1
    subst k1
    exact .inr ⟨e', h1, k2, k3⟩
theorem Ext.dead {m m' : Mem} (h : Ext m m') {s : Nat} (he : m.σ s = some none) : m'.σ s = some none := by
  obtain ⟨x', h1, h2⟩ := h.ent s _ he
  cases x' with
  | none => exact h1
  | some e' => obtain ⟨e0, k1, _⟩ := h2 e' rfl; cases k1

theorem Rep.ext {m m' : Mem} (h : Ext m m') {v : Value} {d : DV} (r : Rep m v d) : Rep m' v d := by
  induction r with
  | any v => exact .any v
  | pure p => exact .pure (p.ext h.size h.keep)
  | @own s e g cap off len h1 h2 h3 h4 =>
    rcases h.live h1 with k | ⟨e', k1, k2, k3⟩
    · exact .ownOld k
    · rw [← k2]; exact .own k1 (k3.trans h2) h3 h4
  | @ownNil s e h1 h2 =>
    rcases h.live h1 with k | ⟨e', k1, k2, k3⟩
    · exact .ownOld k
    · exact .ownNil k1 (k3.trans h2)
  | @ownOld s off len u h1 => exact .ownOld (h.dead h1)
  | @ptr s e g cap i j h1 h2 =>
    rcases h.live h1 with k | ⟨e', k1, k2, k3⟩
    · exact .ptrOld k
    · rw [← k2]; exact .ptr k1 (k3.trans h2)
  | @ptrOld s i j u h1 => exact .ptrOld (h.dead h1)
  | @pp b off xs f h1 h2 h3 h4 =>
    obtain ⟨k1, k2⟩ := h.keep b h2 h1
    exact .pp f k2 (Nat.lt_of_lt_of_le h2 h.size) (fun j d hd => by rw [cell_of_same k1]; exact h3 j d hd) (fun j d hd => (h4 j d hd).ext h.size h.keep)
  | agg hl _ ih => exact .agg hl ih
  | tup hl _ ih => exact .tup hl ih
  | fn hl _ ih => exact .fn hl ih
  | dp v => exact .dp v

/-- an object: its elements; arr: an array, of plain data alone; frz: it is written no more -/
structure Ob where
  esz : Nat
  arr : Bool
  frz : Bool
  els : List (List DV)

def CRep (m : Mem) (arr : Bool) (v : Value) (d : DV) : Prop := v.oneCell' = true ∧ if arr then PRep m.w m.no v d else Rep m v d

/-- an object lies in memory -/
structure Row (m : Mem) (ob : Ob) (g cap : Nat) : Prop where
  cells : ∃ cur T, m.w.heap[g]? = some (.cells cur T (0, 0)) ∧ cur.size = cap * ob.esz ∧ ∀ (i : Nat) x (j : Nat) d, ob.els[i]? = some x → x[j]? = some d → ∃ u, cur[i * ob.esz + j]? = some u ∧ CRep m ob.arr u d
  len : ob.els.length ≤ cap
  max : cap ≤ maxLen
  pos : 0 < ob.esz
  sz : ∀ (i : Nat) x, ob.els[i]? = some x → x.length = ob.esz

/-- a slice inside: its block, if there is one -/
def DpV (m : Mem) (inn : Nat → Prop) (u : Value) (z : Nat) (xs : List (List DV)) : Option Nat → Prop
  | none => u = .slice none 0 0 ∧ xs = [] ∧ 0 < z
  | some b => inn b ∧ ∃ cap, u = .slice (some ⟨b, 0, none⟩) xs.length cap ∧ Row m ⟨z, true, false, xs⟩ b cap
/-- the slices inside of an object are its own, each in a block of its own -/
def Deep (m : Mem) (inn : Nat → Prop) (ob : Ob) (g : Nat) : Prop := ∃ B : Nat → Nat → Option Nat,
  (∀ (i : Nat) x (j : Nat) z xs, ob.els[i]? = some x → x[j]? = some (.dp z xs) → ∃ u, m.w.cell? ⟨g, i * ob.esz + j, none⟩ = some u ∧ DpV m inn u z xs (B i j)) ∧
  (∀ i j i' j' b, inn b → B i j = some b → B i' j' = some b → i = i' ∧ j = j')
theorem Deep.flat {m : Mem} {inn : Nat → Prop} {ob : Ob} {g : Nat} (h : ∀ (i : Nat) x (j : Nat) z xs, ob.els[i]? = some x → x[j]? = some (.dp z xs) → False) : Deep m inn ob g :=
  ⟨fun _ _ => none, fun i x j z xs h1 h2 => (h i x j z xs h1 h2).elim, fun i j i' j' b _ h => by cases h⟩
theorem Row.deep {m : Mem} {ob : Ob} {g cap : Nat} (r : Row m ob g cap) (ha : ob.arr = true) (inn : Nat → Prop) : Deep m inn ob g := Deep.flat fun i x j z xs h1 h2 => by
  obtain ⟨cur, T, c1, c2, c3⟩ := r.cells
  obtain ⟨u, hu, h3, h4⟩ := c3 i x j _ h1 h2
  rw [ha] at h4
  cases h4
def Holds (m : Mem) (s : Nat) (ob : Ob) : Prop :=
  ∃ e, m.σ s = some (some e) ∧ e.esz = ob.esz ∧ e.mu = !ob.frz ∧
    match e.blk with
    | none => ob.els = [] ∧ 0 < ob.esz
    | some (g, cap) => Row m ob g cap ∧ Deep m e.inn ob g

/-- the call's frame: where it began, and what it may write -/
structure Fm where
  w0 : World
  X : Nat → Prop
  Y : Nat → Prop

structure Inv (F : Fm) (m : Mem) : Prop where
  os : m.w.os = F.w0.os
  tape : m.w.tape = F.w0.tape
  output : m.w.output = F.w0.output
  size : F.w0.heap.size ≤ m.w.heap.size
  old : ∀ k, k < F.w0.heap.size → ¬ F.X k → m.w.heap[k]? = F.w0.heap[k]?
  inj : ∀ s s' e e' g, m.σ s = some (some e) → m.σ s' = some (some e') → e.has g → e'.has g → s = s'
  at_ : ∀ s e g, m.σ s = some (some e) → e.has g → g < m.w.heap.size ∧ ¬ m.M g ∧ (e.mu = true → F.w0.heap.size ≤ g ∨ F.X g) ∧ (F.w0.heap.size ≤ g ∨ F.Y g)
  lt : ∀ k, m.M k → k < F.w0.heap.size ∧ ¬ F.X k
  wf : ∀ s e g c, m.σ s = some (some e) → e.blk = some (g, c) → ¬ e.inn g

/-- only the objects U, and new ones, have turned -/
structure Loc (U : List Nat) (m m' : Mem) : Prop extends Ext m m' where
  same : ∀ s, s ∉ U → m'.σ s = m.σ s
  blk : ∀ k, k < m.w.heap.size → (∀ s e, m.σ s = some (some e) → e.has k → s ∉ U) → m'.w.heap[k]? = m.w.heap[k]?

theorem CRep.ext {m m' : Mem} (h : Ext m m') {arr : Bool} {v : Value} {d : DV} (r : CRep m arr v d) : CRep m' arr v d := by
  refine ⟨r.1, ?_⟩
  have := r.2
  cases arr
  · exact Rep.ext h this
  · exact PRep.ext h.size h.keep this

theorem Row.ext {m m' : Mem} (h : Ext m m') {ob : Ob} {g cap : Nat} (r : Row m ob g cap) (hg : m'.w.heap[g]? = m.w.heap[g]?) : Row m' ob g cap := by
  obtain ⟨cur, T, h1, h2, h3⟩ := r.cells
  exact ⟨⟨cur, T, hg.trans h1, h2, fun i x j d hx hd => (h3 i x j d hx hd).imp fun u hu => ⟨hu.1, hu.2.ext h⟩⟩, r.len, r.max, r.pos, r.sz⟩

theorem Deep.ext {m m' : Mem} (h : Ext m m') {inn : Nat → Prop} {ob : Ob} {g : Nat} (d : Deep m inn ob g) (hg : ∀ {o}, m'.w.cell? ⟨g, o, none⟩ = m.w.cell? ⟨g, o, none⟩) (hb : ∀ b, inn b → m'.w.heap[b]? = m.w.heap[b]?) : Deep m' inn ob g := by
  obtain ⟨B, d1, d2⟩ := d
  refine ⟨B, fun i x j z xs h1 h2 => ?_, d2⟩
  obtain ⟨u, k1, k2⟩ := d1 i x j z xs h1 h2
  refine ⟨u, by rw [hg]; exact k1, ?_⟩
  cases hB : B i j with
  | none => rw [hB] at k2; exact k2
  | some b =>
    rw [hB] at k2
    obtain ⟨q1, cap, q2, q3⟩ := k2
    exact ⟨q1, cap, q2, q3.ext h (hb b q1)⟩
theorem Holds.loc {F : Fm} {U : List Nat} {m m' : Mem} (hI : Inv F m) (h : Loc U m m') {s : Nat} {ob : Ob} (hs : s ∉ U) (r : Holds m s ob) : Holds m' s ob := by
  obtain ⟨e, h1, h2, h3, h4⟩ := r
  refine ⟨e, (h.same s hs).trans h1, h2, h3, ?_⟩
  cases hb : e.blk with
  | none => rw [hb] at h4; exact h4
  | some p =>
    obtain ⟨g, cap⟩ := p
    rw [hb] at h4
    have same : ∀ g, e.has g → m'.w.heap[g]? = m.w.heap[g]? := fun g hg => h.blk g (hI.at_ s e g h1 hg).1 fun s' e' h1' hb' => by
      rw [← hI.inj s s' e e' g h1 h1' hg hb']
      exact hs
    exact ⟨Row.ext h.toExt h4.1 (same g (Ent.has_blk hb)), h4.2.ext h.toExt (cell_of_same (same g (Ent.has_blk hb))) fun b hb => same b (.inr hb)⟩

theorem Loc.refl (U : List Nat) (m : Mem) : Loc U m m := ⟨Ext.refl m, fun _ _ => rfl, fun _ _ _ => rfl⟩

theorem Loc.trans {U V : List Nat} {a b c : Mem} (h : Loc U a b) (k : Loc V b c)
    (hb : ∀ s e g, b.σ s = some (some e) → e.has g → g < a.w.heap.size → s ∈ U ++ V → ∃ s' e', a.σ s' = some (some e') ∧ e'.has g ∧ s' ∈ U ++ V) : Loc (U ++ V) a c := by
  refine ⟨h.toExt.trans k.toExt, fun s hs => ?_, fun i hi hn => ?_⟩
  · rw [List.mem_append, not_or] at hs
    exact (k.same s hs.2).trans (h.same s hs.1)
  · have h1 := h.blk i hi fun s e he hb' hs => hn s e he hb' (List.mem_append_left _ hs)
    rw [← h1]
    refine k.blk i (Nat.lt_of_lt_of_le hi h.size) fun s e he hb' hs => ?_
    obtain ⟨s', e', x1, x2, x3⟩ := hb s e i he hb' hi (List.mem_append_right _ hs)
    exact hn s' e' x1 x2 x3

abbrev Sto := List (Nat × Ob)
def Sto.get : Sto → Nat → Option Ob
  | [], _ => none
  | (k, ob) :: l, s => cond (Nat.beq s k) (some ob) (Sto.get l s)
abbrev Env := List (Nat × DV)
def Env.get : Env → Nat → DV
  | [], _ => .any
  | (k, d) :: l, s => cond (Nat.beq s k) d (Env.get l s)
theorem cond_beq {α : Type} (a b : Nat) (x y : α) : cond (Nat.beq a b) x y = if a = b then x else y := by
  cases h : Nat.beq a b with
  | true => rw [if_pos (Nat.eq_of_beq_eq_true h)]; rfl
  | false => rw [if_neg (Nat.ne_of_beq_eq_false h)]; rfl
theorem Sto.get_nil (s : Nat) : Sto.get [] s = none := rfl
theorem Sto.get_cons (k : Nat) (ob : Ob) (l : Sto) (s : Nat) : Sto.get ((k, ob) :: l) s = if s = k then some ob else Sto.get l s := cond_beq _ _ _ _
theorem Env.get_nil (s : Nat) : Env.get [] s = .any := rfl
theorem Env.get_cons (k : Nat) (d : DV) (l : Env) (s : Nat) : Env.get ((k, d) :: l) s = if s = k then d else Env.get l s := cond_beq _ _ _ _
end Go.Proofs.Ythpnlnjdmlbnaaa
/- How memory turns when objects are made and written; types. No condition. -/
namespace Go.Proofs.Ythpnlnjdmlbnaaa
open Go.RowKit

/-- a step of memory: the objects U turn, and new blocks come -/
theorem turn {F : Fm} {m : Mem} (hI : Inv F m) (U : List Nat) (w' : World) (σ' : Nat → Option (Option Ent))
    (hos : w'.os = m.w.os) (htape : w'.tape = m.w.tape) (hout : w'.output = m.w.output) (hsize : m.w.heap.size ≤ w'.heap.size)
    (hblk : ∀ k, k < m.w.heap.size → (∀ s ∈ U, ∀ e, m.σ s = some (some e) → e.has k → e.mu = false) → w'.heap[k]? = m.w.heap[k]?)
    (hsame : ∀ s, s ∉ U → σ' s = m.σ s)
    (hent : ∀ s ∈ U, ∀ x, m.σ s = some x → ∃ x', σ' s = some x' ∧ ∀ e', x' = some e' → ∃ e, x = some e ∧ e'.esz = e.esz ∧ e'.blk = e.blk)
    (hnew : ∀ s ∈ U, ∀ e' g, σ' s = some (some e') → e'.has g → (∃ s0 ∈ U, ∃ e, m.σ s0 = some (some e) ∧ e.has g ∧ (e'.mu = true → e.mu = true) ∧ ∀ s1 ∈ U, ∀ e1, σ' s1 = some (some e1) → e1.has g → s1 = s) ∨ (m.w.heap.size ≤ g ∧ g < w'.heap.size ∧ ∀ s1 ∈ U, ∀ e1, σ' s1 = some (some e1) → e1.has g → s1 = s))
    (hwf : ∀ s ∈ U, ∀ e g c, σ' s = some (some e) → e.blk = some (g, c) → ¬ e.inn g) :
    Inv F ⟨w', m.M, σ'⟩ ∧ Loc U m ⟨w', m.M, σ'⟩ := by
  have hbs : F.w0.heap.size ≤ m.w.heap.size := hI.size
  have old : ∀ s e g, σ' s = some (some e) → e.has g → (∃ s0 e0, m.σ s0 = some (some e0) ∧ e0.has g ∧ (e.mu = true → e0.mu = true) ∧ ((s ∉ U ∧ s0 = s) ∨ (s ∈ U ∧ s0 ∈ U ∧ ∀ s1 ∈ U, ∀ e1, σ' s1 = some (some e1) → e1.has g → s1 = s))) ∨ (s ∈ U ∧ m.w.heap.size ≤ g ∧ g < w'.heap.size ∧ ∀ s1 ∈ U, ∀ e1, σ' s1 = some (some e1) → e1.has g → s1 = s) := fun s e g h1 h2 => by
    by_cases hs : s ∈ U
    · rcases hnew s hs e g h1 h2 with ⟨s0, k1, e0, k2, k3, k4, k5⟩ | ⟨k1, k2, k3⟩
      · exact .inl ⟨s0, e0, k2, k3, k4, .inr ⟨hs, k1, k5⟩⟩
      · exact .inr ⟨hs, k1, k2, k3⟩
    · exact .inl ⟨s, e, (hsame s hs) ▸ h1, h2, id, .inl ⟨hs, rfl⟩⟩
  refine ⟨⟨hos.trans hI.os, htape.trans hI.tape, hout.trans hI.output, Nat.le_trans hI.size hsize, ?_, ?_, ?_, hI.lt, fun s e g c h1 h2 => by
    by_cases hs : s ∈ U
    · exact hwf s hs e g c h1 h2
    · exact hI.wf s e g c ((hsame s hs) ▸ h1) h2⟩, ⟨⟨hsize, rfl, ?_, ?_⟩, hsame, ?_⟩⟩
  · intro k hk hX
    rw [← hI.old k hk hX]
    refine hblk k (by omega) fun s _ e h1 h2 => ?_
    cases hm : e.mu with
    | false => rfl
    | true =>
      rcases (hI.at_ s e k h1 h2).2.2.1 hm with h | h
      · omega
      · exact absurd h hX
  · intro s s' e e' g h1 h2 h3 h4
    rcases old s e g h1 h3 with ⟨s0, e0, a1, a2, _, a3⟩ | ⟨a0, a1, a2, a3⟩
    · rcases old s' e' g h2 h4 with ⟨s0', e0', b1, b2, _, b3⟩ | ⟨b0, b1, b2, b3⟩
      · have hss := hI.inj s0 s0' e0 e0' g a1 b1 a2 b2
        subst hss
        rcases a3 with ⟨x1, x2⟩ | ⟨x1, x2, x3⟩
        · rcases b3 with ⟨y1, y2⟩ | ⟨y1, y2, y3⟩
          · exact x2.symm.trans y2
          · exact absurd (x2 ▸ y2) x1
        · rcases b3 with ⟨y1, y2⟩ | ⟨y1, y2, y3⟩
          · exact absurd (y2 ▸ x2) y1
          · exact (x3 s' y1 e' h2 h4).symm
      · have := (hI.at_ s0 e0 g a1 a2).1; omega
    · rcases old s' e' g h2 h4 with ⟨s0', e0', b1, b2, _, b3⟩ | ⟨b0, b1, b2, b3⟩
      · have := (hI.at_ s0' e0' g b1 b2).1; omega
      · exact (a3 s' b0 e' h2 h4).symm
  · intro s e g h1 h2
    rcases old s e g h1 h2 with ⟨s0, e0, a1, a2, a3, _⟩ | ⟨a0, a1, a2, _⟩
    · obtain ⟨x1, x2, x3, x4⟩ := hI.at_ s0 e0 g a1 a2
      exact ⟨Nat.lt_of_lt_of_le x1 hsize, x2, fun h => x3 (a3 h), x4⟩
    · exact ⟨a2, fun h => by have := (hI.lt g h).1; omega, fun _ => .inl (by omega), .inl (by omega)⟩
  · intro k hk hno
    refine ⟨hblk k hk fun s _ e h1 h2 => ?_, fun h => ?_⟩
    · cases hm : e.mu with
      | false => rfl
      | true => exact absurd (.inr ⟨s, e, h1, hm, h2⟩) hno
    · rcases h with h | ⟨s, e, h1, h2, h3⟩
      · exact hno (.inl h)
      · rcases old s e k h1 h3 with ⟨s0, e0, a1, a2, a3, _⟩ | ⟨a0, a1, a2, _⟩
        · exact hno (.inr ⟨s0, e0, a1, a3 h2, a2⟩)
        · omega
  · intro s x h
    by_cases hs : s ∈ U
    · exact hent s hs x h
    · exact ⟨x, (hsame s hs).trans h, fun e' h => ⟨e', h, rfl, rfl⟩⟩
  · intro k hk h
    exact hblk k hk fun s hs e h1 h2 => absurd hs (h s e h1 h2)

def setE (σ : Nat → Option (Option Ent)) (s : Nat) (e : Option Ent) : Nat → Option (Option Ent) := fun j => if j = s then some e else σ j
theorem setE_same (σ : Nat → Option (Option Ent)) (s : Nat) (e : Option Ent) : setE σ s e s = some e := by simp [setE]
theorem setE_ne (σ : Nat → Option (Option Ent)) {s j : Nat} (e : Option Ent) (h : j ≠ s) : setE σ s e j = σ j := by simp [setE, h]

/-- a new object -/
theorem turn_newD {F : Fm} {m : Mem} (hI : Inv F m) {s : Nat} (hs : m.σ s = none) (w' : World) (e : Ent)
    (hos : w'.os = m.w.os) (htape : w'.tape = m.w.tape) (hout : w'.output = m.w.output) (hsize : m.w.heap.size ≤ w'.heap.size) (hold : ∀ k, k < m.w.heap.size → w'.heap[k]? = m.w.heap[k]?)
    (hb : ∀ g, e.has g → m.w.heap.size ≤ g ∧ g < w'.heap.size) (hi : ∀ g c, e.blk = some (g, c) → ¬ e.inn g) : Inv F ⟨w', m.M, setE m.σ s (some e)⟩ ∧ Loc [s] m ⟨w', m.M, setE m.σ s (some e)⟩ := by
  refine turn hI [s] w' _ hos htape hout hsize (fun k hk _ => hold k hk) (fun j hj => setE_ne _ _ (by simpa using hj)) (fun j hj x h0 => ?_) (fun j hj e' g h1 h2 => ?_) (fun j hj e' g c h1 h2 => ?_)
  · obtain rfl : j = s := by simpa using hj
    rw [hs] at h0; cases h0
  · obtain rfl : j = s := by simpa using hj
    rw [setE_same] at h1
    injection h1 with h1
    injection h1 with h1
    subst h1
    obtain ⟨k1, k2⟩ := hb g h2
    exact .inr ⟨k1, k2, fun s1 h1 _ _ _ => by simpa using h1⟩
  · obtain rfl : j = s := by simpa using hj
    rw [setE_same] at h1
    injection h1 with h1
    injection h1 with h1
    subst h1
    exact hi g c h2

/-- an object is written in place, or frozen -/
theorem turn_atD {F : Fm} {m : Mem} (hI : Inv F m) {s : Nat} {e : Ent} (he : m.σ s = some (some e)) (w' : World) (b : Bool) (hmu : b = true → e.mu = true)
    (hos : w'.os = m.w.os) (htape : w'.tape = m.w.tape) (hout : w'.output = m.w.output) (hsize : m.w.heap.size ≤ w'.heap.size) (hold : ∀ k, k < m.w.heap.size → (e.has k → e.mu = false) → w'.heap[k]? = m.w.heap[k]?) :
    Inv F ⟨w', m.M, setE m.σ s (some { e with mu := b })⟩ ∧ Loc [s] m ⟨w', m.M, setE m.σ s (some { e with mu := b })⟩ := by
  refine turn hI [s] w' _ hos htape hout hsize (fun k hk h => hold k hk fun hc => h s (by simp) e he hc) (fun j hj => setE_ne _ _ (by simpa using hj)) (fun j hj x h0 => ?_) (fun j hj e1 g h1 h2 => ?_) (fun j hj e1 g c h1 h2 => ?_)
  · obtain rfl : j = s := by simpa using hj
    rw [he] at h0
    injection h0 with h0
    subst h0
    exact ⟨_, setE_same _ _ _, fun e' h => by injection h with h; subst h; exact ⟨e, rfl, rfl, rfl⟩⟩
  · obtain rfl : j = s := by simpa using hj
    rw [setE_same] at h1
    injection h1 with h1
    injection h1 with h1
    subst h1
    exact .inl ⟨j, by simp, e, he, h2, hmu, fun s1 h1 _ _ _ => by simpa using h1⟩
  · obtain rfl : j = s := by simpa using hj
    rw [setE_same] at h1
    injection h1 with h1
    injection h1 with h1
    subst h1
    exact hI.wf j e g c he h2

/-- an object goes over into another one -/
theorem turn_moveD {F : Fm} {m : Mem} (hI : Inv F m) {s t : Nat} {e : Ent} (he : m.σ s = some (some e)) (hm : e.mu = true) (ht : m.σ t = none) (w' : World) (e' : Ent)
    (hos : w'.os = m.w.os) (htape : w'.tape = m.w.tape) (hout : w'.output = m.w.output) (hsize : m.w.heap.size ≤ w'.heap.size) (hold : ∀ k, k < m.w.heap.size → ¬ e.has k → w'.heap[k]? = m.w.heap[k]?)
    (hb : ∀ g, e'.has g → e.has g ∨ (m.w.heap.size ≤ g ∧ g < w'.heap.size)) (hi : ∀ g c, e'.blk = some (g, c) → ¬ e'.inn g) :
    Inv F ⟨w', m.M, setE (setE m.σ s none) t (some e')⟩ ∧ Loc [s, t] m ⟨w', m.M, setE (setE m.σ s none) t (some e')⟩ := by
  have hst : s ≠ t := fun h => by subst h; rw [he] at ht; cases ht
  have one : ∀ s1 ∈ [s, t], ∀ e1, setE (setE m.σ s none) t (some e') s1 = some (some e1) → s1 = t ∧ e1 = e' := fun s1 h1 e1 h => by
    rcases List.mem_cons.1 h1 with rfl | h1
    · rw [setE_ne _ _ hst, setE_same] at h; cases h
    · obtain rfl : s1 = t := by simpa using h1
      rw [setE_same] at h
      injection h with h
      injection h with h
      exact ⟨rfl, h.symm⟩
  refine turn hI [s, t] w' _ hos htape hout hsize (fun k hk h => hold k hk fun hc => ?_) (fun j hj => ?_) (fun j hj x h0 => ?_) (fun j hj e1 g h1 h2 => ?_) (fun j hj e1 g c h1 h2 => ?_)
  · have := h s (by simp) e he hc
    rw [hm] at this; cases this
  · rw [setE_ne _ _ (fun h => hj (by simp [h])), setE_ne _ _ (fun h => hj (by simp [h]))]
  · rcases List.mem_cons.1 hj with rfl | h1
    · exact ⟨none, by rw [setE_ne _ _ hst, setE_same], fun _ h => by cases h⟩
    · obtain rfl : j = t := by simpa using h1
      rw [ht] at h0; cases h0
  · obtain ⟨rfl, rfl⟩ := one j hj e1 h1
    rcases hb g h2 with h | ⟨k1, k2⟩
    · exact .inl ⟨s, by simp, e, he, h, fun _ => hm, fun s1 h1 e1 h _ => (one s1 h1 e1 h).1⟩
    · exact .inr ⟨k1, k2, fun s1 h1 e1 h _ => (one s1 h1 e1 h).1⟩
  · obtain ⟨rfl, rfl⟩ := one j hj e1 h1
    exact hi g c h2

def noI : Nat → Prop := fun _ => False
theorem turn_new {F : Fm} {m : Mem} (hI : Inv F m) {s : Nat} (hs : m.σ s = none) (w' : World) (e : Ent)
    (hos : w'.os = m.w.os) (htape : w'.tape = m.w.tape) (hout : w'.output = m.w.output) (hsize : m.w.heap.size ≤ w'.heap.size) (hold : ∀ k, k < m.w.heap.size → w'.heap[k]? = m.w.heap[k]?)
    (hb : ∀ g c, e.blk = some (g, c) → m.w.heap.size ≤ g ∧ g < w'.heap.size) (hi : e.inn = noI := by rfl) : Inv F ⟨w', m.M, setE m.σ s (some e)⟩ ∧ Loc [s] m ⟨w', m.M, setE m.σ s (some e)⟩ :=
  turn_newD hI hs w' e hos htape hout hsize hold (fun g h => by
    rcases h with ⟨c, h⟩ | h
    · exact hb g c h
    · rw [hi] at h; exact h.elim) fun g c _ => by rw [hi]; exact id
theorem turn_at {F : Fm} {m : Mem} (hI : Inv F m) {s : Nat} {e : Ent} (he : m.σ s = some (some e)) (w' : World) (b : Bool) (hmu : b = true → e.mu = true)
    (hos : w'.os = m.w.os) (htape : w'.tape = m.w.tape) (hout : w'.output = m.w.output) (hsize : m.w.heap.size ≤ w'.heap.size) (hold : ∀ k, k < m.w.heap.size → (∀ c, e.blk = some (k, c) → e.mu = false) → w'.heap[k]? = m.w.heap[k]?) :
    Inv F ⟨w', m.M, setE m.σ s (some { e with mu := b })⟩ ∧ Loc [s] m ⟨w', m.M, setE m.σ s (some { e with mu := b })⟩ :=
  turn_atD hI he w' b hmu hos htape hout hsize fun k hk h => hold k hk fun c hc => h (.inl ⟨c, hc⟩)
theorem turn_move {F : Fm} {m : Mem} (hI : Inv F m) {s t : Nat} {e : Ent} (he : m.σ s = some (some e)) (hm : e.mu = true) (ht : m.σ t = none) (w' : World) (e' : Ent)
    (hos : w'.os = m.w.os) (htape : w'.tape = m.w.tape) (hout : w'.output = m.w.output) (hsize : m.w.heap.size ≤ w'.heap.size) (hold : ∀ k, k < m.w.heap.size → (∀ c, e.blk ≠ some (k, c)) → w'.heap[k]? = m.w.heap[k]?)
    (hb : ∀ g c, e'.blk = some (g, c) → (∃ c', e.blk = some (g, c')) ∨ (m.w.heap.size ≤ g ∧ g < w'.heap.size)) (hi : e'.inn = noI := by rfl) :
    Inv F ⟨w', m.M, setE (setE m.σ s none) t (some e')⟩ ∧ Loc [s, t] m ⟨w', m.M, setE (setE m.σ s none) t (some e')⟩ :=
  turn_moveD hI he hm ht w' e' hos htape hout hsize (fun k hk h => hold k hk fun c hc => h (.inl ⟨c, hc⟩)) (fun g h => by
    rcases h with ⟨c, h⟩ | h
    · rcases hb g c h with h | h
      · exact .inl (.inl h)
      · exact .inr h
    · rw [hi] at h; exact h.elim) fun g c _ => by rw [hi]; exact id

inductive TK where
  | int (k : IntKind) | flt (k : FloatKind) | bool | str | slice (e : Nat) | struct (fs : List (Nat × Nat)) | array (n e : Nat) | ptr (e : Nat) | other

/-- a type, as the walk on data wants it: its kind, cells, bytes, and the cells of its zero value -/
structure TyD where
  k : TK
  size : Nat
  bytes : Nat
  zero : List DV

def TyD.agg (d : TyD) : Bool := match d.k with | .struct _ | .array _ _ => true | _ => false

/-- a type's row in the program's tables -/
structure TyOk (P : Program) (t : Nat) (d : TyD) : Prop where
  kind : match d.k with
    | .int k => P.underlying t = some (.int k)
    | .flt k => P.underlying t = some (.float k)
    | .bool => P.underlying t = some .bool
    | .str => P.underlying t = some .string
    | .slice e => P.underlying t = some (.slice e)
    | .struct fs => ∃ fields, P.underlying t = some (.struct fields) ∧ fields.toList.map (fun f => (f.offset, P.cellsOf f.type)) = fs ∧ fields.toList.all (fun f => (P.info? f.type).isSome) = true
    | .array n e => P.underlying t = some (.array n e)
    | .ptr e => P.underlying t = some (.pointer e)
    | .other => ∃ u, P.underlying t = some u ∧ (match u with | .struct _ | .array _ _ => False | _ => True)
  info : (P.info? t).map (fun i => (i.size, i.bytes)) = some (d.size, d.bytes)
  zero : ∃ z, (P.info? t).map (·.zero) = some (some z) ∧ z.cells.toList.map DV.lit = d.zero ∧ z.cells.toList.all Value.oneCell' = true ∧ (if d.agg then ∃ cs, z = .agg cs else z.oneCell' = true)
end Go.Proofs.Ythpnlnjdmlbnaaa
/- Reading and writing objects: what the model's operations do on memory that reads as data. No condition. -/
namespace Go.Proofs.Ythpnlnjdmlbnaaa
open Go.RowKit

section
variable {m : Mem}
theorem Rep.lit_inv {v u : Value} (h : Rep m v (.lit u)) : v = u := by
  cases h with | pure h => cases h with | lit => rfl
theorem Rep.lit_one {v u : Value} (h : Rep m v (.lit u)) : u.oneCell' = true := by
  cases h with | pure h => cases h with | lit _ h => exact h
theorem Rep.sl_inv {v : Value} {xs : List (List DV)} (h : Rep m v (.sl xs)) : PRep m.w m.no v (.sl xs) := by
  cases h with | pure h => exact h
theorem Rep.agg_inv {v : Value} {xs : List DV} (h : Rep m v (.agg xs)) : ∃ vs : List Value, v = .agg vs.toArray ∧ vs.length = xs.length ∧ ∀ (i : Nat) u d, vs[i]? = some u → xs[i]? = some d → Rep m u d := by
  cases h with
  | pure h => cases h
  | @agg vs _ h1 h2 => exact ⟨vs, rfl, h1, h2⟩
theorem Rep.tup_inv {v : Value} {xs : List DV} (h : Rep m v (.tup xs)) : ∃ vs : List Value, v = .tuple vs.toArray ∧ vs.length = xs.length ∧ ∀ (i : Nat) u d, vs[i]? = some u → xs[i]? = some d → Rep m u d := by
  cases h with
  | pure h => cases h
  | @tup vs _ h1 h2 => exact ⟨vs, rfl, h1, h2⟩
theorem Rep.fn_inv {v : Value} {f : FuncId} {xs : List DV} (h : Rep m v (.fn f xs)) : ∃ vs : List Value, v = .func (.func f) #[] vs.toArray ∧ vs.length = xs.length ∧ ∀ (i : Nat) u d, vs[i]? = some u → xs[i]? = some d → Rep m u d := by
  cases h with
  | pure h => cases h
  | @fn _ vs _ h1 h2 => exact ⟨vs, rfl, h1, h2⟩
theorem Rep.pp_inv {v : Value} {xs : List DV} (h : Rep m v (.pp xs)) : ∃ b off, ∃ f : Nat → Value, v = .pointer (some ⟨b, off, none⟩) ∧ ¬ m.no b ∧ b < m.w.heap.size ∧
    (∀ (j : Nat) d, xs[j]? = some d → m.w.cell? ⟨b, off + j, none⟩ = some (f j)) ∧ ∀ (j : Nat) d, xs[j]? = some d → PRep m.w m.no (f j) d := by
  cases h with
  | pure h => cases h
  | pp f h1 h2 h3 h4 => exact ⟨_, _, f, rfl, h1, h2, h3, h4⟩

theorem own_get {v : Value} {s : Nat} {off len : Nat} {ob : Ob} (h : Rep m v (.own s off len)) (ho : Holds m s ob) :
    ∃ e, m.σ s = some (some e) ∧ e.esz = ob.esz ∧ e.mu = !ob.frz ∧
      ((∃ g cap, e.blk = some (g, cap) ∧ v = .slice (some ⟨g, off * ob.esz, none⟩) len (cap - off) ∧ off + len ≤ cap ∧ Row m ob g cap) ∨
       (e.blk = none ∧ v = .slice none 0 0 ∧ off = 0 ∧ len = 0 ∧ ob.els = [] ∧ 0 < ob.esz)) := by
  obtain ⟨e, h1, h2, h3, h4⟩ := ho
  refine ⟨e, h1, h2, h3, ?_⟩
  cases h with
  | pure h => cases h
  | @own _ e' g cap _ _ k1 k2 k3 k4 =>
    rw [h1] at k1
    injection k1 with k1
    injection k1 with k1
    subst k1
    rw [k2] at h4
    exact .inl ⟨g, cap, k2, by rw [h2], k3, h4.1⟩
  | @ownNil _ e' k1 k2 =>
    rw [h1] at k1
    injection k1 with k1
    injection k1 with k1
    subst k1
    rw [k2] at h4
    exact .inr ⟨k2, rfl, rfl, rfl, h4⟩
  | @ownOld _ _ _ _ k1 =>
    rw [h1] at k1
    injection k1 with k1
    cases k1

theorem ptr_get {v : Value} {s : Nat} {i j : Nat} {ob : Ob} (h : Rep m v (.ptr s i j)) (ho : Holds m s ob) :
    ∃ e g cap, m.σ s = some (some e) ∧ e.esz = ob.esz ∧ e.mu = !ob.frz ∧ e.blk = some (g, cap) ∧ v = .pointer (some ⟨g, i * ob.esz + j, none⟩) ∧ Row m ob g cap := by
  obtain ⟨e, h1, h2, h3, h4⟩ := ho
  cases h with
  | pure h => cases h
  | @ptr _ e' g cap _ _ k1 k2 =>
    rw [h1] at k1
    injection k1 with k1
    injection k1 with k1
    subst k1
    rw [k2] at h4
    exact ⟨e, g, cap, h1, h2, h3, k2, by rw [h2], h4.1⟩
  | @ptrOld _ _ _ _ k1 =>
    rw [h1] at k1
    injection k1 with k1
    cases k1

theorem add_lit {b o n : Nat} : (⟨b, o, none⟩ : Addr).add n = ⟨b, o + n, none⟩ := by
  unfold Addr.add
  by_cases h : n = 0 <;> simp [h]

theorem CRep.rep {arr : Bool} {v : Value} {d : DV} (h : CRep m arr v d) : Rep m v d := by
  obtain ⟨_, h⟩ := h
  cases arr
  · exact h
  · exact .pure h
theorem prep_one {w : World} {no : Nat → Prop} {v : Value} {d : DV} (h : PRep w no v d) : v.oneCell' = true := by
  cases h with
  | lit v h => exact h
  | nil => rfl
  | sl => rfl

/-- cells that read as data -/
def CellsAt (m : Mem) (b o : Nat) (cs : List DV) : Prop := ∀ (j : Nat) d, cs[j]? = some d → ∃ u, m.w.cell? ⟨b, o + j, none⟩ = some u ∧ Rep m u d

theorem CellsAt.drop {b o k : Nat} {cs : List DV} (h : CellsAt m b o cs) : CellsAt m b (o + k) (cs.drop k) := fun j d hd => by
  rw [List.getElem?_drop] at hd
  have := h (k + j) d hd
  rw [← Nat.add_assoc] at this
  exact this

theorem Row.cellsAt {ob : Ob} {g cap : Nat} (r : Row m ob g cap) {i : Nat} {x : List DV} (hx : ob.els[i]? = some x) : CellsAt m g (i * ob.esz) x := fun j d hd => by
  obtain ⟨cur, T, h1, h2, h3⟩ := r.cells
  obtain ⟨u, hu, hr⟩ := h3 i x j d hx hd
  exact ⟨u, by rw [cell_of_row m.w g _ cur T (0, 0) h1]; exact hu, hr.rep⟩

theorem Rep.pp_cells {v : Value} {xs : List DV} (h : Rep m v (.pp xs)) : ∃ b off, v = .pointer (some ⟨b, off, none⟩) ∧ CellsAt m b off xs := by
  obtain ⟨b, off, f, rfl, h1, h2, h3, h4⟩ := h.pp_inv
  exact ⟨b, off, rfl, fun j d hd => ⟨f j, h3 j d hd, .pure (h4 j d hd)⟩⟩
theorem Rep.pp_drop {v : Value} {xs : List DV} (h : Rep m v (.pp xs)) (k : Nat) : ∃ b off, v = .pointer (some ⟨b, off, none⟩) ∧ Rep m (.pointer (some ⟨b, off + k, none⟩)) (.pp (xs.drop k)) := by
  obtain ⟨b, off, f, rfl, h1, h2, h3, h4⟩ := h.pp_inv
  refine ⟨b, off, rfl, .pp (fun j => f (k + j)) h1 h2 (fun j d hd => ?_) (fun j d hd => ?_)⟩
  · rw [List.getElem?_drop] at hd
    rw [Nat.add_assoc]
    exact h3 _ d hd
  · rw [List.getElem?_drop] at hd
    exact h4 _ d hd
theorem PRep.sl_inv {w : World} {no : Nat → Prop} {v : Value} {xs : List (List DV)} (h : PRep w no v (.sl xs)) : ∃ ad cap, v = .slice ad xs.length cap ∧ xs.length ≤ cap ∧ cap ≤ maxLen ∧
    (xs ≠ [] → ∃ b off sz, ∃ f : Nat → Nat → Value, ad = some ⟨b, off, none⟩ ∧ 0 < sz ∧ ¬ no b ∧ b < w.heap.size ∧ (∀ (i : Nat) x, xs[i]? = some x → x.length = sz) ∧
      (∀ (i : Nat) x (j : Nat) d, xs[i]? = some x → x[j]? = some d → w.cell? ⟨b, off + i * sz + j, none⟩ = some (f i j)) ∧ (∀ (i : Nat) x (j : Nat) d, xs[i]? = some x → x[j]? = some d → PRep w no (f i j) d)) := by
  cases h with
  | nil ad cap h => exact ⟨ad, cap, rfl, Nat.zero_le _, h, fun h => absurd rfl h⟩
  | sl b off cap sz xs f h1 h2 h3 h4 h5 h6 h7 h8 h9 => exact ⟨_, cap, rfl, h3, h4, fun _ => ⟨b, off, sz, f, rfl, h1, h5, h6, h7, h8, h9⟩⟩

variable {P : Program}

theorem ty_agg {t : Nat} {d : TyD} (h : TyOk P t d) (w : World) : (isAgg t).run P w = .ok d.agg w := by
  have hk := h.kind
  unfold TyD.agg
  obtain ⟨k, size, bytes, zero⟩ := d
  cases k <;> dsimp only at hk ⊢
  case struct fs =>
    obtain ⟨fields, hu, _⟩ := hk
    simp [isAgg, run_underlying hu]
  case other =>
    obtain ⟨u, hu, hx⟩ := hk
    cases u <;> first | (exact hx.elim) | (simp [isAgg, run_underlying hu])
  all_goals simp [isAgg, run_underlying hk]
theorem ty_size {t : Nat} {d : TyD} (h : TyOk P t d) (w : World) : (sizeOf t).run P w = .ok d.size w := by
  have hi := h.info
  cases hh : P.info? t with
  | none => rw [hh] at hi; cases hi
  | some i =>
    rw [hh] at hi
    simp only [Option.map_some, Option.some.injEq, Prod.mk.injEq] at hi
    simp [sizeOf, typeInfo, hh, hi.1]

/-- cells as a value of a type -/
def ldD (d : TyD) (cells : List DV) : Option DV :=
  if d.agg then (if d.size ≤ cells.length then some (.agg (cells.take d.size)) else none) else (if d.size = 1 then cells.head? else none)
/-- a value of a type as cells -/
def cellsD (d : TyD) (x : DV) : Option (List DV) :=
  if d.agg then (match x with | .agg cs => if cs.length = d.size then some cs else none | _ => none) else (if d.size = 1 then some [x] else none)

theorem load_ok {t : Nat} {d : TyD} (ht : TyOk P t d) {b o : Nat} {cs : List DV} (hc : CellsAt m b o cs) {y : DV} (hy : ldD d cs = some y) :
    ∃ v, (Instr.loadAt t (.pointer (some ⟨b, o, none⟩))).run P m.w = .ok v m.w ∧ Rep m v y := by
  unfold ldD at hy
  by_cases ha : d.agg = true
  · rw [if_pos ha] at hy
    by_cases hl : d.size ≤ cs.length
    · rw [if_pos hl] at hy
      injection hy with hy
      subst hy
      have hex : ∀ j, j < d.size → ∃ u, m.w.cell? ⟨b, o + j, none⟩ = some u ∧ ∀ e, cs[j]? = some e → Rep m u e := fun j hj => by
        obtain ⟨u, h1, h2⟩ := hc j cs[j] (List.getElem?_eq_getElem (by omega))
        refine ⟨u, h1, fun e he => ?_⟩
        rw [List.getElem?_eq_getElem (by omega)] at he
        injection he with he
        exact he ▸ h2
      let f : Nat → Value := fun j => if h : j < d.size then Classical.choose (hex j h) else undef
      have hf : ∀ j (h : j < d.size), m.w.cell? ⟨b, o + j, none⟩ = some (f j) ∧ ∀ e, cs[j]? = some e → Rep m (f j) e := fun j h => by
        simp only [f, h, dif_pos]
        exact Classical.choose_spec (hex j h)
      refine ⟨.agg ((List.range d.size).map f).toArray, ?_, ?_⟩
      · have hrun := run_loadCells_list (P := P) m.w ⟨b, o, none⟩ ((List.range d.size).map f) (fun j v hv => by
          rw [add_lit]
          simp only [List.getElem?_map] at hv
          have hj : j < d.size := by
            rcases Nat.lt_or_ge j d.size with h' | h'
            · exact h'
            · rw [List.getElem?_eq_none (by simpa using h')] at hv; cases hv
          rw [List.getElem?_range hj] at hv
          injection hv with hv
          rw [← hv]
          exact (hf j hj).1)
        rw [List.length_map, List.length_range] at hrun
        simp [Instr.loadAt, Instr.sureAddr, loadVar, ty_agg ht, ha, ty_size ht, hrun]
      · refine .agg (by simp; omega) fun i v e hv he => ?_
        rw [List.getElem?_map] at hv
        have hj : i < d.size := by
          rcases Nat.lt_or_ge i d.size with h' | h'
          · exact h'
          · rw [List.getElem?_eq_none (by simpa using h')] at hv; cases hv
        rw [List.getElem?_range hj] at hv
        injection hv with hv
        rw [List.getElem?_take_of_lt hj] at he
        rw [← hv]
        exact (hf i hj).2 e he
    · rw [if_neg hl] at hy; cases hy
  · rw [if_neg ha] at hy
    by_cases h1 : d.size = 1
    · rw [if_pos h1] at hy
      obtain ⟨u, h2, h3⟩ := hc 0 y (by rw [← hy]; cases cs <;> rfl)
      refine ⟨u, ?_, h3⟩
      rw [Nat.add_zero] at h2
      have ha' : d.agg = false := by simpa using ha
      simp [Instr.loadAt, Instr.sureAddr, loadVar, ty_agg ht, ha', load, Sem.run, h2]
    · rw [if_neg h1] at hy; cases hy

theorem splice_get {α : Type} (l vs : List α) (o : Nat) (h : o + vs.length ≤ l.length) (p : Nat) :
    (l.take o ++ vs ++ l.drop (o + vs.length))[p]? = if p < o then l[p]? else if p < o + vs.length then vs[p - o]? else l[p]? := by
  by_cases h1 : p < o
  · rw [if_pos h1, List.append_assoc, List.getElem?_append_left (by simp; omega), List.getElem?_take_of_lt h1]
  · rw [if_neg h1]
    have hlo : (l.take o).length = o := by simp; omega
    by_cases h2 : p < o + vs.length
    · rw [if_pos h2, List.getElem?_append_left (by simp; omega), List.getElem?_append_right (by omega), hlo]
    · rw [if_neg h2, List.getElem?_append_right (by simp; omega), List.getElem?_drop]
      congr 1
      simp
      omega

/-- it may be stored in a variable: a value of one cell -/
inductive Box1 (sto : Sto) : DV → List Nat → Prop
  | lit {v : Value} : Box1 sto (.lit v) []
  | sl {xs : List (List DV)} : Box1 sto (.sl xs) []
  | own {s off len : Nat} {ob : Ob} : sto.get s = some ob → Box1 sto (.own s off len) [s]
  | ptr {s i j : Nat} {ob : Ob} : sto.get s = some ob → Box1 sto (.ptr s i j) [s]
  | fn {f : FuncId} {xs : List DV} : Box1 sto (.fn f xs) []
inductive Box (sto : Sto) : List DV → List Nat → Prop
  | nil : Box sto [] []
  | cons {d : DV} {l : List DV} {r r' : List Nat} : Box1 sto d r → Box sto l r' → Box sto (d :: l) (r ++ r')

def HoldsAll (m : Mem) (sto : Sto) (rs : List Nat) : Prop := ∀ s ∈ rs, ∀ ob, sto.get s = some ob → Holds m s ob

theorem box1_one {sto : Sto} {c : DV} {r : List Nat} (h : Box1 sto c r) (hs : HoldsAll m sto r) {u : Value} (hr : Rep m u c) : u.oneCell' = true := by
  cases h with
  | lit => rw [hr.lit_inv]; exact hr.lit_one
  | sl => exact prep_one hr.sl_inv
  | own h =>
    obtain ⟨_, _, _, _, h⟩ := own_get hr (hs _ (by simp) _ h)
    rcases h with ⟨g, cap, _, rfl, _⟩ | ⟨_, rfl, _⟩ <;> rfl
  | ptr h =>
    obtain ⟨_, _, _, _, _, _, _, rfl, _⟩ := ptr_get hr (hs _ (by simp) _ h)
    rfl
  | fn => obtain ⟨vs, rfl, _⟩ := hr.fn_inv; rfl
theorem box_one {sto : Sto} {cs : List DV} {r : List Nat} (h : Box sto cs r) (hs : HoldsAll m sto r) :
    ∀ (i : Nat) c u, cs[i]? = some c → Rep m u c → u.oneCell' = true := by
  induction h with
  | nil => intro i c u hc; simp at hc
  | cons h1 h2 ih =>
    intro i c u hc hr
    cases i with
    | zero =>
      simp at hc
      subst hc
      exact box1_one h1 (fun s hs' => hs s (List.mem_append_left _ hs')) hr
    | succ i => exact ih (fun s hs' => hs s (List.mem_append_right _ hs')) i c u (by simpa using hc) hr

def box1F (sto : Sto) : DV → Option (List Nat)
  | .lit _ => some []
  | .sl _ => some []
  | .own s _ _ => match sto.get s with | some _ => some [s] | none => none
  | .ptr s _ _ => match sto.get s with | some _ => some [s] | none => none
  | .fn _ _ => some []
  | _ => none
def boxF (sto : Sto) : List DV → Option (List Nat)
  | [] => some []
  | d :: l => match box1F sto d, boxF sto l with | some a, some b => some (a ++ b) | _, _ => none
theorem box1F_ok {sto : Sto} {d : DV} {r : List Nat} (h : box1F sto d = some r) : Box1 sto d r := by
  unfold box1F at h
  split at h
  · injection h with h; subst h; exact .lit
  · injection h with h; subst h; exact .sl
  · split at h
    · injection h with h; subst h; exact .own ‹_›
    · cases h
  · split at h
    · injection h with h; subst h; exact .ptr ‹_›
    · cases h
  · injection h with h; subst h; exact .fn
  · cases h
theorem boxF_ok {sto : Sto} {l : List DV} {r : List Nat} (h : boxF sto l = some r) : Box sto l r := by
  induction l generalizing r with
  | nil => injection h with h; subst h; exact .nil
  | cons d l ih =>
    unfold boxF at h
    split at h
    · injection h with h; subst h; exact .cons (box1F_ok ‹_›) (ih ‹_›)
    · cases h

/-- a value's cells -/
theorem cells_val {d : TyD} {v : Value} {x : DV} (hr : Rep m v x) {cs : List DV} (hc : cellsD d x = some cs) (h1 : ∀ (i : Nat) c u, cs[i]? = some c → Rep m u c → u.oneCell' = true) :
    ∃ vs : List Value, v.cells = vs.toArray ∧ vs.length = d.size ∧ cs.length = d.size ∧ (∀ u ∈ vs, u.oneCell' = true) ∧ ∀ (i : Nat) u c, vs[i]? = some u → cs[i]? = some c → Rep m u c := by
  unfold cellsD at hc
  by_cases ha : d.agg = true
  · rw [if_pos ha] at hc
    cases x with
    | agg xs =>
      dsimp only at hc
      by_cases hl : xs.length = d.size
      · rw [if_pos hl] at hc
        injection hc with hc
        subst hc
        obtain ⟨vs, rfl, k1, k2⟩ := hr.agg_inv
        refine ⟨vs, rfl, by omega, hl, fun u hu => ?_, k2⟩
        obtain ⟨i, hi⟩ := List.mem_iff_getElem?.1 hu
        have hlt : i < vs.length := by
          rcases Nat.lt_or_ge i vs.length with h' | h'
          · exact h'
          · rw [List.getElem?_eq_none h'] at hi; cases hi
        exact h1 i (xs[i]'(by omega)) u (List.getElem?_eq_getElem (by omega)) (k2 i u _ hi (List.getElem?_eq_getElem (by omega)))
      · rw [if_neg hl] at hc; cases hc
    | _ => cases hc
  · rw [if_neg ha] at hc
    by_cases hl : d.size = 1
    · rw [if_pos hl] at hc
      injection hc with hc
      subst hc
      have ho := h1 0 x v rfl hr
      refine ⟨[v], ?_, by simp [hl], by simp [hl], fun u hu => by rw [List.mem_singleton.1 hu]; exact ho, fun i u c hu hc => ?_⟩
      · cases v <;> first | rfl | (simp [Value.oneCell'] at ho)
      · cases i with
        | zero => simp at hu hc; subst hu; subst hc; exact hr
        | succ i => simp at hu
    · rw [if_neg hl] at hc; cases hc

theorem store_run {t : Nat} {d : TyD} (ht : TyOk P t d) {v : Value} {vs : List Value} (hv : v.cells = vs.toArray) (hl : vs.length = d.size) (h1 : ∀ u ∈ vs, u.oneCell' = true)
    {g o T : Nat} {cur : Array Value} (hg : m.w.heap[g]? = some (.cells cur T (0, 0))) (hfit : o + vs.length ≤ cur.size) :
    (Instr.storeAt t (.pointer (some ⟨g, o, none⟩)) v).run P m.w = .ok () (m.w.setRow g (cur.toList.take o ++ vs ++ cur.toList.drop (o + vs.length)).toArray) := by
  have hst := run_storeCells_at P g o T vs 0 cur m.w hg (by simpa using hfit) h1
  simp only [Nat.add_zero] at hst
  simp [Instr.storeAt, Instr.sureAddr, storeVar, hv, ty_size ht, hl, hst]

/-- cells of an element are replaced -/
def setCells {α : Type} (x : List α) (j : Nat) : List α → List α
  | [] => x
  | c :: cs => setCells (x.set j c) (j + 1) cs
theorem setCells_length {α : Type} (cs y : List α) (j : Nat) : (setCells y j cs).length = y.length := by
  induction cs generalizing y j with
  | nil => rfl
  | cons c cs ih => simp [setCells, ih]
theorem setCells_get {α : Type} (cs y : List α) (j : Nat) (h : j + cs.length ≤ y.length) (p : Nat) : (setCells y j cs)[p]? = if p < j then y[p]? else if p < j + cs.length then cs[p - j]? else y[p]? := by
  induction cs generalizing y j with
  | nil => simp only [setCells, List.length_nil, Nat.add_zero]; split <;> rfl
  | cons c cs ih =>
    simp only [List.length_cons] at h ⊢
    rw [setCells, ih _ _ (by simp; omega)]
    by_cases h1 : p < j
    · rw [if_pos (by omega), if_pos h1, List.getElem?_set_ne (by omega)]
    · rw [if_neg h1]
      by_cases h2 : p = j
      · subst h2
        rw [if_pos (by omega), if_pos (by omega), List.getElem?_set_self (by omega), Nat.sub_self]
        rfl
      · rw [if_neg (by omega)]
        by_cases h3 : p < j + 1 + cs.length
        · rw [if_pos h3, if_pos (by omega), show p - j = (p - (j + 1)) + 1 by omega, List.getElem?_cons_succ]
        · rw [if_neg h3, if_neg (by omega), List.getElem?_set_ne (by omega)]

/-- an element's cells are written -/
theorem Row.set {m' : Mem} {ob : Ob} {g cap : Nat} (r : Row m ob g cap) {cur : Array Value} {T : Nat} (hcur : m.w.heap[g]? = some (.cells cur T (0, 0))) (he : Ext m m') {i j : Nat} {y cs : List DV} (hy : ob.els[i]? = some y) (hj : j + cs.length ≤ y.length)
    {vs : List Value} (hl : vs.length = cs.length) (hr : ∀ (k : Nat) u c, vs[k]? = some u → cs[k]? = some c → CRep m' ob.arr u c)
    (hg : m'.w.heap[g]? = some (.cells (cur.toList.take (i * ob.esz + j) ++ vs ++ cur.toList.drop (i * ob.esz + j + vs.length)).toArray T (0, 0))) :
    i * ob.esz + j + vs.length ≤ cur.size ∧ Row m' { ob with els := ob.els.set i (setCells y j cs) } g cap := by
  obtain ⟨cur', T', k1, k2, k3⟩ := r.cells
  rw [hcur] at k1
  injection k1 with k1
  injection k1 with k1
  subst k1
  have hi : i < ob.els.length := by
    rcases Nat.lt_or_ge i ob.els.length with h' | h'
    · exact h'
    · rw [List.getElem?_eq_none h'] at hy; cases hy
  have hyl := r.sz i y hy
  have hfit : i * ob.esz + j + vs.length ≤ cur.size := by
    have : (i + 1) * ob.esz ≤ cap * ob.esz := Nat.mul_le_mul_right _ (by have := r.len; omega)
    rw [Nat.succ_mul] at this
    omega
  refine ⟨hfit, ⟨⟨_, T, hg, ?_, ?_⟩, by simpa using r.len, r.max, r.pos, ?_⟩⟩
  · simp only [List.size_toArray, List.length_append, List.length_take, List.length_drop, Array.length_toList]
    omega
  · dsimp only
    intro i' x j' d hx hd
    have hget : ∀ p, (cur.toList.take (i * ob.esz + j) ++ vs ++ cur.toList.drop (i * ob.esz + j + vs.length)).toArray[p]? =
        if p < i * ob.esz + j then cur[p]? else if p < i * ob.esz + j + vs.length then vs[p - (i * ob.esz + j)]? else cur[p]? := fun p => by
      have := splice_get cur.toList vs (i * ob.esz + j) (by simpa using hfit) p
      simpa using this
    rw [hget]
    by_cases hii : i' = i
    · subst hii
      rw [List.getElem?_set_self hi] at hx
      injection hx with hx
      subst hx
      rw [setCells_get cs y j hj j'] at hd
      by_cases c1 : j' < j
      · rw [if_pos c1] at hd
        rw [if_pos (by omega)]
        obtain ⟨u, h1, h2⟩ := k3 i' y j' d hy hd
        exact ⟨u, h1, h2.ext he⟩
      · rw [if_neg c1] at hd
        rw [if_neg (by omega)]
        by_cases c2 : j' < j + cs.length
        · rw [if_pos c2] at hd
          rw [if_pos (by omega)]
          have e1 : i' * ob.esz + j' - (i' * ob.esz + j) = j' - j := by omega
          rw [e1]
          exact ⟨vs[j' - j]'(by omega), List.getElem?_eq_getElem (by omega), hr (j' - j) _ d (List.getElem?_eq_getElem (by omega)) hd⟩
        · rw [if_neg c2] at hd
          rw [if_neg (by omega)]
          obtain ⟨u, h1, h2⟩ := k3 i' y j' d hy hd
          exact ⟨u, h1, h2.ext he⟩
    · rw [List.getElem?_set_ne (Ne.symm hii)] at hx
      obtain ⟨u, h1, h2⟩ := k3 i' x j' d hx hd
      have hxl := r.sz i' x hx
      have hj' : j' < ob.esz := by
        rcases Nat.lt_or_ge j' x.length with h' | h'
        · omega
        · rw [List.getElem?_eq_none h'] at hd; cases hd
      refine ⟨u, ?_, h2.ext he⟩
      rcases Nat.lt_or_gt_of_ne hii with hlt | hgt
      · have : (i' + 1) * ob.esz ≤ i * ob.esz := Nat.mul_le_mul_right _ hlt
        rw [Nat.succ_mul] at this
        rw [if_pos (by omega)]
        exact h1
      · have : (i + 1) * ob.esz ≤ i' * ob.esz := Nat.mul_le_mul_right _ hgt
        rw [Nat.succ_mul] at this
        rw [if_neg (by omega), if_neg (by omega)]
        exact h1
  · dsimp only
    intro i' x hx
    by_cases hii : i' = i
    · subst hii
      rw [List.getElem?_set_self hi] at hx
      injection hx with hx
      subst hx
      rw [setCells_length, hyl]
    · rw [List.getElem?_set_ne (Ne.symm hii)] at hx
      exact r.sz i' x hx

theorem Row.block_lt {ob : Ob} {g cap : Nat} (r : Row m ob g cap) : g < m.w.heap.size := by
  obtain ⟨cur, T, h, _⟩ := r.cells
  exact (Array.getElem?_eq_some_iff.1 h).1

theorem prep_of_row {no : Nat → Prop} {ob : Ob} {g cap off len : Nat} (r : Row m ob g cap) (ha : ob.arr = true) (hno : ¬ no g) (hsub : ∀ k, no k → m.no k) (hl : off + len ≤ ob.els.length) :
    PRep m.w no (.slice (some ⟨g, off * ob.esz, none⟩) len (cap - off)) (.sl ((ob.els.drop off).take len)) := by
  have hcap := r.len
  have hmax := r.max
  have hxl : ((ob.els.drop off).take len).length = len := by simp; omega
  by_cases h0 : len = 0
  · subst h0
    rw [List.take_zero]
    exact .nil _ _ (by omega)
  · obtain ⟨cur, T, h1, h2, h3⟩ := r.cells
    have hget : ∀ (i : Nat) x, ((ob.els.drop off).take len)[i]? = some x → ob.els[off + i]? = some x := fun i x hx => by
      rw [List.getElem?_take] at hx
      split at hx
      · rwa [List.getElem?_drop] at hx
      · cases hx
    have key := PRep.sl (w := m.w) (no := no) g (off * ob.esz) (cap - off) ob.esz ((ob.els.drop off).take len) (fun i j => cur.getD ((off + i) * ob.esz + j) undef) r.pos (by omega) (by omega) (by omega) hno r.block_lt
      (fun i x hx => r.sz _ x (hget i x hx))
      (fun i x j d hx hd => by
        obtain ⟨u, hu, _⟩ := h3 _ x j d (hget i x hx) hd
        rw [cell_of_row m.w g _ cur T (0, 0) h1, show off * ob.esz + i * ob.esz + j = (off + i) * ob.esz + j by rw [Nat.add_mul], hu, Array.getD_eq_getD_getElem?, hu]
        rfl)
      (fun i x j d hx hd => by
        obtain ⟨u, hu, hr⟩ := h3 _ x j d (hget i x hx) hd
        rw [Array.getD_eq_getD_getElem?, hu]
        have := hr.2
        rw [ha] at this
        exact PRep.ext (Nat.le_refl _) (fun k _ hk => ⟨rfl, fun h => hk (hsub k h)⟩) this)
    rwa [hxl] at key

/-- a slice inside, told as plain data -/
def undp : DV → DV
  | .dp _ l => .sl l
  | d => d
def dpB : DV → Bool
  | .lit _ => true
  | .sl _ => true
  | .dp _ _ => true
  | _ => false
/-- an object with slices of its own inside, told as plain data -/
theorem prep_of_deep {no : Nat → Prop} {ob : Ob} {inn : Nat → Prop} {g cap : Nat} (r : Row m ob g cap) (dd : Deep m inn ob g) (ha : ob.arr = false) (hno : ¬ no g) (hni : ∀ b, inn b → ¬ no b) (hsub : ∀ k, no k → m.no k) (hd : ∀ x ∈ ob.els, ∀ d ∈ x, dpB d = true) :
    PRep m.w no (.slice (some ⟨g, 0, none⟩) ob.els.length cap) (.sl (ob.els.map (·.map undp))) := by
  have hcap := r.len
  have hmax := r.max
  by_cases h0 : ob.els = []
  · rw [h0]; exact .nil _ _ (by omega)
  · obtain ⟨cur, T, h1, h2, h3⟩ := r.cells
    obtain ⟨B, d1, d2⟩ := dd
    have hpos : 0 < ob.els.length := List.length_pos_iff.2 h0
    have get : ∀ (i : Nat) x (j : Nat) d, (ob.els.map (·.map undp))[i]? = some x → x[j]? = some d → ∃ x0 d0, ob.els[i]? = some x0 ∧ x0[j]? = some d0 ∧ d = undp d0 := fun i x j d hx hd => by
      rw [List.getElem?_map] at hx
      cases hq : ob.els[i]? with
      | none => rw [hq] at hx; cases hx
      | some x0 =>
        rw [hq] at hx
        injection hx with hx
        subst hx
        rw [List.getElem?_map] at hd
        cases hq2 : x0[j]? with
        | none => rw [hq2] at hd; cases hd
        | some d0 => rw [hq2] at hd; injection hd with hd; exact ⟨x0, d0, rfl, hq2, hd.symm⟩
    have key := PRep.sl (w := m.w) (no := no) g 0 cap ob.esz (ob.els.map (·.map undp)) (fun i j => cur.getD (i * ob.esz + j) undef) r.pos (by simpa using hpos) (by simpa using hcap) (by omega) hno r.block_lt
      (fun i x hx => by
        rw [List.getElem?_map] at hx
        cases hq : ob.els[i]? with
        | none => rw [hq] at hx; cases hx
        | some x0 => rw [hq] at hx; injection hx with hx; subst hx; rw [List.length_map]; exact r.sz i x0 hq)
      (fun i x j d hx hd => by
        obtain ⟨x0, d0, e1, e2, _⟩ := get i x j d hx hd
        obtain ⟨u, hu, _⟩ := h3 i x0 j d0 e1 e2
        rw [cell_of_row m.w g _ cur T (0, 0) h1, Nat.zero_add, hu, Array.getD_eq_getD_getElem?, hu]
        rfl)
      (fun i x j d hx hdd => by
        obtain ⟨x0, d0, e1, e2, rfl⟩ := get i x j d hx hdd
        obtain ⟨u, hu, hr⟩ := h3 i x0 j d0 e1 e2
        rw [Array.getD_eq_getD_getElem?, hu, Option.getD_some]
        have hr2 := hr.2
        rw [ha] at hr2
        have hp : ∀ {v d}, PRep m.w m.no v d → PRep m.w no v d := fun h => PRep.ext (Nat.le_refl _) (fun k _ hk => ⟨rfl, fun h => hk (hsub k h)⟩) h
        have hb := hd x0 (List.mem_of_getElem? e1) d0 (List.mem_of_getElem? e2)
        have hr2 : Rep m u d0 := hr2
        cases d0 with
        | lit v => rw [hr2.lit_inv]; exact .lit v hr2.lit_one
        | sl xs => exact hp hr2.sl_inv
        | dp z l =>
          obtain ⟨u', k1, k2⟩ := d1 i x0 j z l e1 e2
          rw [cell_of_row m.w g _ cur T (0, 0) h1, hu] at k1
          injection k1 with k1
          subst k1
          cases hB : B i j with
          | none =>
            rw [hB] at k2
            obtain ⟨rfl, rfl, _⟩ := k2
            exact .nil _ _ (Nat.zero_le _)
          | some b =>
            rw [hB] at k2
            obtain ⟨q1, cp, rfl, q3⟩ := k2
            have := prep_of_row (off := 0) (len := l.length) q3 rfl (hni b q1) hsub (by simp)
            simpa [undp] using this
        | _ => cases hb)
    rwa [List.length_map] at key
end
end Go.Proofs.Ythpnlnjdmlbnaaa
/- Each operation does on memory what it does on data: operations that make nothing. No condition. -/
namespace Go.Proofs.Ythpnlnjdmlbnaaa
set_option linter.unusedSimpArgs false
set_option linter.unusedVariables false
open Go.RowKit

def cellC : Value → DV
  | .agg _ => .any
  | .tuple _ => .any
  | v => .lit v
def constD : Value → DV
  | .agg cs => .agg (cs.toList.map cellC)
  | .tuple cs => .tup (cs.toList.map cellC)
  | v => .lit v
def opd (env : Env) : Operand → DV
  | .tmp t => env.get t
  | .const v => constD v
  | .func f => .lit (.func (.func f) #[] #[])
  | .global _ => .any

/-- what an operation leaves: its value; the objects that turn (none: gone); the old objects that it looks at; how many new ones -/
structure Out where
  d : DV
  us : List (Nat × Option Ob)
  rs : List Nat
  n : Nat

def Upd (m : Mem) (p : Nat × Option Ob) : Prop := match p.2 with
  | some ob => Holds m p.1 ob
  | none => m.σ p.1 = some none

/-- what is known when an operation has run -/
def Ran (P : Program) (F : Fm) (o : Oper) (a : Act) (m : Mem) (d : DV) (us : List (Nat × Option Ob)) : Prop :=
  ∃ v m', ((execOp a.eval o).run P m.w = .ok (.value v) m'.w ∨ ((execOp a.eval o).run P m.w = .ok .skip m'.w ∧ v = undef)) ∧
    Inv F m' ∧ Loc (us.map (·.1)) m m' ∧ Rep m' v d ∧ ∀ p ∈ us, Upd m' p

def OpsRep (m : Mem) (a : Act) (env : Env) (o : Oper) : Prop := ∀ x ∈ o.op.operands, Rep m (a.eval x) (opd env x)
def Fresh (m : Mem) (nxt n : Nat) : Prop := ∀ s, nxt ≤ s → s < nxt + n → m.σ s = none

/-- the local law of an operation -/
def OpOK (P : Program) (o : Oper) (env : Env) (sto : Sto) (nxt : Nat) (out : Out) : Prop :=
  ∀ (F : Fm) (m : Mem) (a : Act), Inv F m → OpsRep m a env o → HoldsAll m sto out.rs → Fresh m nxt out.n →
    ∀ (K : Act → World → Prop) (Q : Exit → Act → World → Prop), (∀ v m', Inv F m' → Loc (out.us.map (·.1)) m m' → Rep m' v out.d → (∀ p ∈ out.us, Upd m' p) → K (a.put o.dst v) m'.w) → Oper.wp P o a m.w K Q

theorem Ran.wp {P : Program} {F : Fm} {o : Oper} {a : Act} {m : Mem} {d : DV} {us : List (Nat × Option Ob)} (h : Ran P F o a m d us) {K : Act → World → Prop} {Q : Exit → Act → World → Prop}
    (hK : ∀ v m', Inv F m' → Loc (us.map (·.1)) m m' → Rep m' v d → (∀ p ∈ us, Upd m' p) → K (a.put o.dst v) m'.w) : Oper.wp P o a m.w K Q := by
  obtain ⟨v, m', h1, h2, h3, h4, h5⟩ := h
  have := hK v m' h2 h3 h4 h5
  unfold Oper.wp
  rcases h1 with h1 | ⟨h1, rfl⟩
  · rw [h1]; exact this
  · rw [h1]; exact this

theorem OpOK.ran {P : Program} {o : Oper} {env : Env} {sto : Sto} {nxt : Nat} {out : Out}
    (h : ∀ (F : Fm) (m : Mem) (a : Act), Inv F m → OpsRep m a env o → HoldsAll m sto out.rs → Fresh m nxt out.n → Ran P F o a m out.d out.us) : OpOK P o env sto nxt out :=
  fun F m a h1 h2 h3 h4 _ _ hK => (h F m a h1 h2 h3 h4).wp hK

section
variable {P : Program} {F : Fm} {m : Mem} {a : Act} {env : Env} {sto : Sto} {nxt : Nat} {d : DV} {us : List (Nat × Option Ob)} {o : Oper}

theorem Ran.val (hI : Inv F m) {v : Value} (h : (execOp a.eval o).run P m.w = .ok (.value v) m.w) (hr : Rep m v d) : Ran P F o a m d [] :=
  ⟨v, m, .inl h, hI, Loc.refl _ _, hr, fun p hp => by cases hp⟩

theorem constD_rep (v : Value) : Rep m v (constD v) := by
  have hc : ∀ cs : Array Value, ∀ (i : Nat) v d, cs.toList[i]? = some v → (cs.toList.map cellC)[i]? = some d → Rep m v d := fun cs i v d hv hd => by
    rw [List.getElem?_map, hv] at hd
    injection hd with hd
    subst hd
    cases v <;> first | exact .any _ | exact .pure (.lit _ rfl)
  unfold constD
  split
  · rename_i cs
    have := Rep.agg (m := m) (vs := cs.toList) (xs := cs.toList.map cellC) (by simp) (hc cs)
    simpa using this
  · rename_i cs
    have := Rep.tup (m := m) (vs := cs.toList) (xs := cs.toList.map cellC) (by simp) (hc cs)
    simpa using this
  · cases v <;> first | exact .pure (.lit _ rfl) | (exfalso; rename_i h1 h2; first | exact h1 _ rfl | exact h2 _ rfl)

theorem opd_rep {x : Operand} (h : ∀ t, x = .tmp t → Rep m (a.tmps.getD t undef) (env.get t)) : Rep m (a.eval x) (opd env x) := by
  cases x with
  | tmp t => exact h t rfl
  | const v => exact constD_rep v
  | global g => exact .any _
  | func f => exact .pure (.lit _ rfl)

theorem r_move {x : Operand} (ho : o.op = .move x) : OpOK P o env sto nxt ⟨opd env x, [], [], 0⟩ := .ran fun F m a hI hE _ _ =>
  Ran.val hI (v := a.eval x) (by simp [execOp, ho]) (hE x (by simp [ho, Op.operands]))
theorem r_assign {x : Operand} (ho : o.op = .assign x) : OpOK P o env sto nxt ⟨opd env x, [], [], 0⟩ := .ran fun F m a hI hE _ _ =>
  Ran.val hI (v := a.eval x) (by simp [execOp, ho]) (hE x (by simp [ho, Op.operands]))
theorem r_pick {c x y : Operand} {t : Bool} (ho : o.op = .pick c x y) (hc : opd env c = .lit (.bool t)) : OpOK P o env sto nxt ⟨if t then opd env x else opd env y, [], [], 0⟩ := .ran fun F m a hI hE _ _ => by
  have h1 := hE c (by simp [ho, Op.operands])
  rw [hc] at h1
  have h2 := hE x (by simp [ho, Op.operands])
  have h3 := hE y (by simp [ho, Op.operands])
  refine Ran.val hI (v := if t then a.eval x else a.eval y) (by simp [execOp, ho, h1.lit_inv, asBool]) ?_
  cases t
  · exact h3
  · exact h2
theorem r_extract {x : Operand} {i : Nat} {xs : List DV} {d : DV} (ho : o.op = .extract x i) (hx : opd env x = .tup xs) (hi : xs[i]? = some d) : OpOK P o env sto nxt ⟨d, [], [], 0⟩ := .ran fun F m a hI hE _ _ => by
  have h1 := hE x (by simp [ho, Op.operands])
  rw [hx] at h1
  obtain ⟨vs, h2, h3, h4⟩ := h1.tup_inv
  have hlt : i < vs.length := by
    rcases Nat.lt_or_ge i xs.length with h' | h'
    · omega
    · rw [List.getElem?_eq_none h'] at hi; cases hi
  refine Ran.val hI (v := vs[i]) ?_ (h4 i _ d (List.getElem?_eq_getElem hlt) hi)
  simp [execOp, ho, h2, Instr.extract, hlt]

def intBin (op : BinOp) (k : IntKind) (a b : Int) : Option Value :=
  match op with
  | .add => some (.int k (k.wrap (a + b)))
  | .sub => some (.int k (k.wrap (a - b)))
  | .mul => some (.int k (k.wrap (a * b)))
  | .quo => if b = 0 then none else some (.int k (k.wrap (a.tdiv b)))
  | .rem => if b = 0 then none else some (.int k (a.tmod b))
  | .and => some (.int k (k.wrap (BitVec.ofInt k.bits a &&& BitVec.ofInt k.bits b).toNat))
  | .or => some (.int k (k.wrap (BitVec.ofInt k.bits a ||| BitVec.ofInt k.bits b).toNat))
  | .xor => some (.int k (k.wrap (BitVec.ofInt k.bits a ^^^ BitVec.ofInt k.bits b).toNat))
  | .andNot => some (.int k (k.wrap (BitVec.ofInt k.bits a &&& ~~~BitVec.ofInt k.bits b).toNat))
  | .eql => some (.bool (a == b))
  | .neq => some (.bool (a != b))
  | .lss => some (.bool (decide (a < b)))
  | .leq => some (.bool (decide (a ≤ b)))
  | .gtr => some (.bool (decide (b < a)))
  | .geq => some (.bool (decide (b ≤ a)))
  | _ => none
def shiftBin (op : BinOp) (k : IntKind) (a b : Int) : Option Value :=
  if b < 0 then none else
  match op with
  | .shl => some (.int k (k.wrap (a * 2 ^ min b.toNat k.bits)))
  | .shr => some (.int k (a.fdiv (2 ^ min b.toNat k.bits)))
  | _ => none

theorem int_run {op : BinOp} {k : IntKind} {x y : Int} {r : Value} (h : intBin op k x y = some r) (t : Nat) (p q : Operand) (w : World) :
    (do eqGuard op t p q (.int k x) (.int k y); binOp op t (.int k x) (.int k y) : Sem Value).run P w = .ok r w := by
  unfold intBin at h
  cases op <;> dsimp only at h
  case quo =>
    by_cases hb : y = 0
    · rw [if_pos hb] at h; cases h
    · rw [if_neg hb] at h; injection h with h; subst h; simp [eqGuard, binOp, Op.intDiv, hb]
  case rem =>
    by_cases hb : y = 0
    · rw [if_pos hb] at h; cases h
    · rw [if_neg hb] at h; injection h with h; subst h; simp [eqGuard, binOp, Op.intDiv, hb]
  all_goals first
    | (cases h; done)
    | (injection h with h; subst h; simp [eqGuard, binOp, Op.intArith, Op.intBits, Op.intCmp])
theorem shift_run {op : BinOp} {k j : IntKind} {x y : Int} {r : Value} (h : shiftBin op k x y = some r) (t : Nat) (p q : Operand) (w : World) :
    (do eqGuard op t p q (.int k x) (.int j y); binOp op t (.int k x) (.int j y) : Sem Value).run P w = .ok r w := by
  unfold shiftBin at h
  by_cases hb : y < 0
  · rw [if_pos hb] at h; cases h
  · rw [if_neg hb] at h
    cases op <;> dsimp only at h <;> first
      | (cases h; done)
      | (injection h with h; subst h; simp [eqGuard, binOp, Op.shift, hb])

theorem int_one {op : BinOp} {k : IntKind} {x y : Int} {r : Value} (h : intBin op k x y = some r) : r.oneCell' = true := by
  unfold intBin at h
  cases op <;> dsimp only at h <;> first
    | (cases h; done)
    | (injection h with h; subst h; rfl)
    | (split at h <;> first | (cases h; done) | (injection h with h; subst h; rfl))
theorem shift_one {op : BinOp} {k : IntKind} {x y : Int} {r : Value} (h : shiftBin op k x y = some r) : r.oneCell' = true := by
  unfold shiftBin at h
  split at h
  · cases h
  · cases op <;> dsimp only at h <;> first
      | (cases h; done)
      | (injection h with h; subst h; rfl)
theorem ran_bin {op : BinOp} {t : Nat} {x y : Operand} {t' : Nat} {u v r : Value} (h1 : r.oneCell' = true) (ho : o.op = .binOp op t x y t') (hI : Inv F m) (hu : a.eval x = u) (hv : a.eval y = v)
    (h : (do eqGuard op t x y u v; binOp op t u v : Sem Value).run P m.w = .ok r m.w) : Ran P F o a m (.lit r) [] := by
  subst hu
  subst hv
  refine Ran.val hI (v := r) ?_ (.pure (.lit _ h1))
  simp only [execOp, ho]
  rw [Sem.run_bind, h]
  rfl

theorem r_bin {op : BinOp} {t : Nat} {x y : Operand} {t' : Nat} {k : IntKind} {p q : Int} {r : Value} (ho : o.op = .binOp op t x y t') (hx : opd env x = .lit (.int k p)) (hy : opd env y = .lit (.int k q)) (hr : intBin op k p q = some r) :
    OpOK P o env sto nxt ⟨.lit r, [], [], 0⟩ := .ran fun F m a hI hE _ _ => by
  have h1 := hE x (by simp [ho, Op.operands])
  have h2 := hE y (by simp [ho, Op.operands])
  rw [hx] at h1
  rw [hy] at h2
  exact ran_bin (int_one hr) ho hI h1.lit_inv h2.lit_inv (int_run hr _ _ _ _)
theorem r_shift {op : BinOp} {t : Nat} {x y : Operand} {t' : Nat} {k j : IntKind} {p q : Int} {r : Value} (ho : o.op = .binOp op t x y t') (hx : opd env x = .lit (.int k p)) (hy : opd env y = .lit (.int j q)) (hr : shiftBin op k p q = some r) :
    OpOK P o env sto nxt ⟨.lit r, [], [], 0⟩ := .ran fun F m a hI hE _ _ => by
  have h1 := hE x (by simp [ho, Op.operands])
  have h2 := hE y (by simp [ho, Op.operands])
  rw [hx] at h1
  rw [hy] at h2
  exact ran_bin (shift_one hr) ho hI h1.lit_inv h2.lit_inv (shift_run hr _ _ _ _)

theorem wrap64_id {n : Int} (h : -9223372036854775808 ≤ n ∧ n ≤ 9223372036854775807) : IntKind.i64.wrap n = n := by rw [IntKind.wrap_i64]; omega
theorem wrapu64_id {n : Int} (h : 0 ≤ n ∧ n ≤ 18446744073709551615) : IntKind.u64.wrap n = n := by
  have : IntKind.u64.wrap n = n % 18446744073709551616 := rfl
  rw [this]; omega

theorem r_add {t : Nat} {x y : Operand} {t' : Nat} {p q : Int} (ho : o.op = .binOp .add t x y t') (hx : opd env x = .lit (.int .i64 p)) (hy : opd env y = .lit (.int .i64 q)) (hb : -9223372036854775808 ≤ p + q ∧ p + q ≤ 9223372036854775807) :
    OpOK P o env sto nxt ⟨.lit (.int .i64 (p + q)), [], [], 0⟩ := r_bin ho hx hy (by show some (Value.int _ _) = _; rw [wrap64_id hb])
theorem r_sub {t : Nat} {x y : Operand} {t' : Nat} {p q : Int} (ho : o.op = .binOp .sub t x y t') (hx : opd env x = .lit (.int .i64 p)) (hy : opd env y = .lit (.int .i64 q)) (hb : -9223372036854775808 ≤ p - q ∧ p - q ≤ 9223372036854775807) :
    OpOK P o env sto nxt ⟨.lit (.int .i64 (p - q)), [], [], 0⟩ := r_bin ho hx hy (by show some (Value.int _ _) = _; rw [wrap64_id hb])
theorem r_mul {t : Nat} {x y : Operand} {t' : Nat} {p q : Int} (ho : o.op = .binOp .mul t x y t') (hx : opd env x = .lit (.int .i64 p)) (hy : opd env y = .lit (.int .i64 q)) (hb : -9223372036854775808 ≤ p * q ∧ p * q ≤ 9223372036854775807) :
    OpOK P o env sto nxt ⟨.lit (.int .i64 (p * q)), [], [], 0⟩ := r_bin ho hx hy (by show some (Value.int _ _) = _; rw [wrap64_id hb])
theorem r_addu {t : Nat} {x y : Operand} {t' : Nat} {p q : Int} (ho : o.op = .binOp .add t x y t') (hx : opd env x = .lit (.int .u64 p)) (hy : opd env y = .lit (.int .u64 q)) (hb : 0 ≤ p + q ∧ p + q ≤ 18446744073709551615) :
    OpOK P o env sto nxt ⟨.lit (.int .u64 (p + q)), [], [], 0⟩ := r_bin ho hx hy (by show some (Value.int _ _) = _; rw [wrapu64_id hb])
theorem r_subu {t : Nat} {x y : Operand} {t' : Nat} {p q : Int} (ho : o.op = .binOp .sub t x y t') (hx : opd env x = .lit (.int .u64 p)) (hy : opd env y = .lit (.int .u64 q)) (hb : 0 ≤ p - q ∧ p - q ≤ 18446744073709551615) :
    OpOK P o env sto nxt ⟨.lit (.int .u64 (p - q)), [], [], 0⟩ := r_bin ho hx hy (by show some (Value.int _ _) = _; rw [wrapu64_id hb])
/-- any value of the result that the caller likes better -/
theorem r_binE {op : BinOp} {t : Nat} {x y : Operand} {t' : Nat} {k : IntKind} {p q : Int} {r : Value} (ho : o.op = .binOp op t x y t') (hx : opd env x = .lit (.int k p)) (hy : opd env y = .lit (.int k q)) (hr : intBin op k p q = some r) {r' : Value} (he : r = r') :
    OpOK P o env sto nxt ⟨.lit r', [], [], 0⟩ := he ▸ r_bin ho hx hy hr

theorem run_equalIn_bool (n : Nat) {t : Nat} (hk : P.underlying t = some .bool) (x y : Bool) (w : World) : (Op.equalIn (n + 1) t (.bool x) (.bool y)).run P w = .ok (x == y) w := by
  simp [Op.equalIn, run_underlying hk]
theorem r_eqB {t : Nat} {x y : Operand} {t' : Nat} {p q : Bool} {td : TyD} (ho : o.op = .binOp .eql t x y t') (ht : TyOk P t td) (hk : td.k = .bool) (hx : opd env x = .lit (.bool p)) (hy : opd env y = .lit (.bool q)) :
    OpOK P o env sto nxt ⟨.lit (.bool (p == q)), [], [], 0⟩ := .ran fun F m a hI hE _ _ => by
  have h1 := hE x (by simp [ho, Op.operands])
  have h2 := hE y (by simp [ho, Op.operands])
  rw [hx] at h1
  rw [hy] at h2
  have hu := ht.kind
  rw [hk] at hu
  exact ran_bin rfl ho hI h1.lit_inv h2.lit_inv (by simp [eqGuard, binOp, Op.equal, Op.maxDepth, run_equalIn_bool 9999 hu])
theorem r_neB {t : Nat} {x y : Operand} {t' : Nat} {p q : Bool} {td : TyD} (ho : o.op = .binOp .neq t x y t') (ht : TyOk P t td) (hk : td.k = .bool) (hx : opd env x = .lit (.bool p)) (hy : opd env y = .lit (.bool q)) :
    OpOK P o env sto nxt ⟨.lit (.bool (p != q)), [], [], 0⟩ := .ran fun F m a hI hE _ _ => by
  have h1 := hE x (by simp [ho, Op.operands])
  have h2 := hE y (by simp [ho, Op.operands])
  rw [hx] at h1
  rw [hy] at h2
  have hu := ht.kind
  rw [hk] at hu
  refine ran_bin rfl ho hI h1.lit_inv h2.lit_inv ?_
  simp [eqGuard, binOp, Op.equal, Op.maxDepth, run_equalIn_bool 9999 hu]
  cases p <;> cases q <;> rfl

theorem r_not {t : Nat} {x : Operand} {p : Bool} (ho : o.op = .unOp .not t x) (hx : opd env x = .lit (.bool p)) : OpOK P o env sto nxt ⟨.lit (.bool (!p)), [], [], 0⟩ := .ran fun F m a hI hE _ _ => by
  have h1 := hE x (by simp [ho, Op.operands])
  rw [hx] at h1
  exact Ran.val hI (v := .bool (!p)) (by simp [execOp, ho, h1.lit_inv, Op.unary]) (.pure (.lit _ rfl))
theorem r_neg {t : Nat} {x : Operand} {k : IntKind} {p : Int} (ho : o.op = .unOp .neg t x) (hx : opd env x = .lit (.int k p)) : OpOK P o env sto nxt ⟨.lit (.int k (k.wrap (0 - p))), [], [], 0⟩ := .ran fun F m a hI hE _ _ => by
  have h1 := hE x (by simp [ho, Op.operands])
  rw [hx] at h1
  exact Ran.val hI (v := .int k (k.wrap (0 - p))) (by simp [execOp, ho, h1.lit_inv, Op.unary, Op.intArith]) (.pure (.lit _ rfl))
theorem r_xor {t : Nat} {x : Operand} {k : IntKind} {p : Int} (ho : o.op = .unOp .xor t x) (hx : opd env x = .lit (.int k p)) :
    OpOK P o env sto nxt ⟨.lit (.int k (k.wrap (BitVec.ofInt k.bits (if k.signed then -1 else k.max) ^^^ BitVec.ofInt k.bits p).toNat)), [], [], 0⟩ := .ran fun F m a hI hE _ _ => by
  have h1 := hE x (by simp [ho, Op.operands])
  rw [hx] at h1
  exact Ran.val hI (v := .int k (k.wrap (BitVec.ofInt k.bits (if k.signed then -1 else k.max) ^^^ BitVec.ofInt k.bits p).toNat)) (by simp [execOp, ho, h1.lit_inv, Op.unary, Op.intBits]) (.pure (.lit _ rfl))

theorem r_conv {src dst : Nat} {x : Operand} {td td' : TyD} {k q : IntKind} {n : Int} (ho : o.op = .convert src dst x) (hs : TyOk P src td) (hd : TyOk P dst td') (hk : td'.k = .int k) (hx : opd env x = .lit (.int q n)) :
    OpOK P o env sto nxt ⟨.lit (.int k (k.wrap n)), [], [], 0⟩ := .ran fun F m a hI hE _ _ => by
  have h1 := hE x (by simp [ho, Op.operands])
  rw [hx] at h1
  have h2 := hd.kind
  rw [hk] at h2
  dsimp only at h2
  obtain ⟨u, hu⟩ : ∃ u, P.underlying src = some u := by
    have h1 := hs.kind
    obtain ⟨kk, _, _, _⟩ := td
    cases kk <;> dsimp only at h1
    case struct => obtain ⟨f, h1, _⟩ := h1; exact ⟨_, h1⟩
    case other => obtain ⟨f, h1, _⟩ := h1; exact ⟨_, h1⟩
    all_goals exact ⟨_, h1⟩
  refine Ran.val hI (v := .int k (k.wrap n)) ?_ (.pure (.lit _ rfl))
  cases u <;> simp [execOp, ho, h1.lit_inv, convert, run_underlying hu, run_underlying h2, Conv.intToInt]
theorem r_conv64 {src dst : Nat} {x : Operand} {td td' : TyD} {q : IntKind} {n : Int} (ho : o.op = .convert src dst x) (hs : TyOk P src td) (hd : TyOk P dst td') (hk : td'.k = .int .i64) (hx : opd env x = .lit (.int q n)) (hb : -9223372036854775808 ≤ n ∧ n ≤ 9223372036854775807) :
    OpOK P o env sto nxt ⟨.lit (.int .i64 n), [], [], 0⟩ := by
  have := r_conv (P := P) (sto := sto) (nxt := nxt) ho hs hd hk hx
  rwa [wrap64_id hb] at this
theorem r_convu64 {src dst : Nat} {x : Operand} {td td' : TyD} {q : IntKind} {n : Int} (ho : o.op = .convert src dst x) (hs : TyOk P src td) (hd : TyOk P dst td') (hk : td'.k = .int .u64) (hx : opd env x = .lit (.int q n)) (hb : 0 ≤ n ∧ n ≤ 18446744073709551615) :
    OpOK P o env sto nxt ⟨.lit (.int .u64 n), [], [], 0⟩ := by
  have := r_conv (P := P) (sto := sto) (nxt := nxt) ho hs hd hk hx
  rwa [wrapu64_id hb] at this

/-- reading -/
theorem r_loadP {t : Nat} {p : Operand} {td : TyD} {cs : List DV} {d : DV} (ho : o.op = .load t p) (ht : TyOk P t td) (hp : opd env p = .pp cs) (hd : ldD td cs = some d) : OpOK P o env sto nxt ⟨d, [], [], 0⟩ := .ran fun F m a hI hE _ _ => by
  have h1 := hE p (by simp [ho, Op.operands])
  rw [hp] at h1
  obtain ⟨b, off, h2, h3⟩ := h1.pp_cells
  obtain ⟨v, h4, h5⟩ := load_ok (P := P) ht h3 hd
  exact Ran.val hI (v := v) (by simp [execOp, ho, h2, h4]) h5
theorem r_load {t : Nat} {p : Operand} {td : TyD} {s i j : Nat} {ob : Ob} {x : List DV} {d : DV} (ho : o.op = .load t p) (ht : TyOk P t td) (hp : opd env p = .ptr s i j) (hs : sto.get s = some ob) (hx : ob.els[i]? = some x) (hd : ldD td (x.drop j) = some d) :
    OpOK P o env sto nxt ⟨d, [], [s], 0⟩ := .ran fun F m a hI hE hH _ => by
  have h1 := hE p (by simp [ho, Op.operands])
  rw [hp] at h1
  obtain ⟨e, g, cap, _, _, _, _, h2, h3⟩ := ptr_get h1 (hH s (by simp) ob hs)
  obtain ⟨v, h4, h5⟩ := load_ok (P := P) ht ((h3.cellsAt hx).drop (k := j)) hd
  exact Ran.val hI (v := v) (by simp [execOp, ho, h2, h4]) h5

theorem r_len {x : Operand} {t : Nat} {td : TyD} {e : Nat} {n : Nat} (ho : o.op = .call ⟨.builtin .len, #[x], #[t]⟩) (ht : TyOk P t td) (hk : td.k = .slice e)
    (hx : (∃ xs, opd env x = .sl xs ∧ xs.length = n) ∨ (opd env x = .lit (.slice none 0 0) ∧ n = 0)) : OpOK P o env sto nxt ⟨.lit (.int .i64 n), [], [], 0⟩ := .ran fun F m a hI hE _ _ => by
  have h1 := hE x (by simp [ho, Op.operands, Call.operands])
  have hu := ht.kind
  rw [hk] at hu
  obtain ⟨ad, c, hv⟩ : ∃ ad c, a.eval x = .slice ad n c := by
    rcases hx with ⟨xs, hx, rfl⟩ | ⟨hx, rfl⟩
    · rw [hx] at h1
      obtain ⟨ad, cap, h, _⟩ := h1.sl_inv.sl_inv
      exact ⟨_, _, h⟩
    · rw [hx] at h1
      exact ⟨_, _, h1.lit_inv⟩
  exact Ran.val hI (v := .int .i64 n) (by simp [execOp, ho, resolve, invoke, builtin, hv, Builtin.len_, run_underlying hu, goInt]) (.pure (.lit _ rfl))
theorem r_lenS {x : Operand} {t : Nat} {td : TyD} {e : Nat} {xs : List (List DV)} {n : Nat} (ho : o.op = .call ⟨.builtin .len, #[x], #[t]⟩) (ht : TyOk P t td) (hk : td.k = .slice e) (hx : opd env x = .sl xs) (hn : xs.length = n) : OpOK P o env sto nxt ⟨.lit (.int .i64 n), [], [], 0⟩ :=
  r_len ho ht hk (.inl ⟨xs, hx, hn⟩)
theorem r_lenN {x : Operand} {t : Nat} {td : TyD} {e : Nat} (ho : o.op = .call ⟨.builtin .len, #[x], #[t]⟩) (ht : TyOk P t td) (hk : td.k = .slice e) (hx : opd env x = .lit (.slice none 0 0)) : OpOK P o env sto nxt ⟨.lit (.int .i64 (0 : Nat)), [], [], 0⟩ :=
  r_len ho ht hk (.inr ⟨hx, rfl⟩)
theorem r_lenO {x : Operand} {t : Nat} {td : TyD} {e : Nat} {s off len : Nat} {ob : Ob} (ho : o.op = .call ⟨.builtin .len, #[x], #[t]⟩) (ht : TyOk P t td) (hk : td.k = .slice e) (hx : opd env x = .own s off len) (hs : sto.get s = some ob) :
    OpOK P o env sto nxt ⟨.lit (.int .i64 len), [], [s], 0⟩ := .ran fun F m a hI hE hH _ => by
  have h1 := hE x (by simp [ho, Op.operands, Call.operands])
  have hu := ht.kind
  rw [hk] at hu
  rw [hx] at h1
  obtain ⟨ad, c, hv⟩ : ∃ ad c, a.eval x = .slice ad len c := by
    obtain ⟨_, _, _, _, h⟩ := own_get h1 (hH s (by simp) ob hs)
    rcases h with ⟨g, cap, _, h, _⟩ | ⟨_, h, _, rfl, _⟩ <;> exact ⟨_, _, h⟩
  exact Ran.val hI (v := .int .i64 len) (by simp [execOp, ho, resolve, invoke, builtin, hv, Builtin.len_, run_underlying hu, goInt]) (.pure (.lit _ rfl))

theorem r_nilP {x : Operand} {xs : List DV} (ho : o.op = .nilCheck x) (hx : opd env x = .pp xs) : OpOK P o env sto nxt ⟨.pp xs, [], [], 0⟩ := .ran fun F m a hI hE _ _ => by
  have h1 := hE x (by simp [ho, Op.operands])
  rw [hx] at h1
  obtain ⟨b, off, f, h2, _⟩ := h1.pp_inv
  exact Ran.val hI (v := a.eval x) (by simp [execOp, ho, h2]) h1
theorem r_nil {x : Operand} {s i j : Nat} {ob : Ob} (ho : o.op = .nilCheck x) (hx : opd env x = .ptr s i j) (hs : sto.get s = some ob) : OpOK P o env sto nxt ⟨.ptr s i j, [], [s], 0⟩ := .ran fun F m a hI hE hH _ => by
  have h1 := hE x (by simp [ho, Op.operands])
  rw [hx] at h1
  obtain ⟨e, g, cap, _, _, _, _, h2, h3⟩ := ptr_get h1 (hH s (by simp) ob hs)
  exact Ran.val hI (v := a.eval x) (by simp [execOp, ho, h2]) h1
theorem r_nilF {x : Operand} {f : Nat} {xs : List DV} (ho : o.op = .nilCheck x) (hx : opd env x = .fn f xs) : OpOK P o env sto nxt ⟨.fn f xs, [], [], 0⟩ := .ran fun F m a hI hE _ _ => by
  have h1 := hE x (by simp [ho, Op.operands])
  rw [hx] at h1
  obtain ⟨vs, h2, _⟩ := h1.fn_inv
  exact Ran.val hI (v := a.eval x) (by simp [execOp, ho, h2]) h1
theorem r_nilL {x : Operand} {f : Nat} {p q : Array Value} (ho : o.op = .nilCheck x) (hx : opd env x = .lit (.func (.func f) p q)) : OpOK P o env sto nxt ⟨.lit (.func (.func f) p q), [], [], 0⟩ := .ran fun F m a hI hE _ _ => by
  have h1 := hE x (by simp [ho, Op.operands])
  rw [hx] at h1
  exact Ran.val hI (v := a.eval x) (by simp [execOp, ho, h1.lit_inv]) h1
end
end Go.Proofs.Ythpnlnjdmlbnaaa
/- Each operation does on memory what it does on data: addresses, slices, parts. No condition. -/
namespace Go.Proofs.Ythpnlnjdmlbnaaa
open Go.RowKit
set_option linter.unusedSimpArgs false
set_option linter.unusedVariables false

section
variable {P : Program} {F : Fm} {m : Mem} {a : Act} {env : Env} {sto : Sto} {nxt : Nat} {o : Oper}

theorem ty_info {t : Nat} {td : TyD} (h : TyOk P t td) : ∃ i z, P.info? t = some i ∧ i.size = td.size ∧ i.bytes = td.bytes ∧ i.zero = some z ∧ z.cells.toList.map DV.lit = td.zero ∧ (∀ u ∈ z.cells, u.oneCell' = true) ∧ (if td.agg then ∃ cs, z = .agg cs else z.oneCell' = true) := by
  obtain ⟨z, hz, hz2, hz3, hz4⟩ := h.zero
  have hi := h.info
  cases hh : P.info? t with
  | none => rw [hh] at hi; cases hi
  | some i =>
    rw [hh] at hi hz
    simp only [Option.map_some, Option.some.injEq, Prod.mk.injEq] at hi hz
    exact ⟨i, z, rfl, hi.1, hi.2, hz, hz2, fun u hu => List.all_eq_true.1 hz3 u (by simpa using hu), hz4⟩

theorem ty_field {t : Nat} {td : TyD} {fs : List (Nat × Nat)} (h : TyOk P t td) (hk : td.k = .struct fs) {f off size : Nat} (hf : fs[f]? = some (off, size)) :
    ∃ fields fl, P.underlying t = some (.struct fields) ∧ fields[f]? = some fl ∧ fl.offset = off ∧ ∀ w : World, (sizeOf fl.type).run P w = .ok size w := by
  have h0 := h.kind
  rw [hk] at h0
  obtain ⟨fields, h1, h2, h3⟩ := h0
  rw [← h2, List.getElem?_map] at hf
  cases hh : fields.toList[f]? with
  | none => rw [hh] at hf; cases hf
  | some fl =>
    rw [hh] at hf
    simp only [Option.map_some, Option.some.injEq, Prod.mk.injEq] at hf
    have hm : fields[f]? = some fl := by simpa using hh
    refine ⟨fields, fl, h1, hm, hf.1, fun w => ?_⟩
    have hs : (P.info? fl.type).isSome = true := List.all_eq_true.1 h3 fl (List.mem_of_getElem? hh)
    obtain ⟨i, hi⟩ := Option.isSome_iff_exists.1 hs
    have : i.size = size := by
      have := hf.2
      unfold Program.cellsOf at this
      rw [hi] at this
      exact this
    simp [sizeOf, typeInfo, hi, this]

theorem ran_fieldAddr {t f : Nat} {p : Operand} (ho : o.op = .fieldAddr t p f) (hI : Inv F m) {td : TyD} {fs : List (Nat × Nat)} (ht : TyOk P t td) (hk : td.k = .struct fs) {off size : Nat} (hf : fs[f]? = some (off, size)) (h0 : size ≠ 0)
    {g q : Nat} (hp : a.eval p = .pointer (some ⟨g, q, none⟩)) {d : DV} (hr : Rep m (.pointer (some ⟨g, q + off, none⟩)) d) : Ran P F o a m d [] := by
  obtain ⟨fields, fl, k1, k2, k3, k4⟩ := ty_field ht hk hf
  refine Ran.val hI (v := .pointer (some ⟨g, q + off, none⟩)) ?_ hr
  simp [execOp, ho, hp, Instr.fieldAt, run_underlying k1, k2, Instr.sureAddr, fieldPlace, k4, h0, k3, add_lit]

theorem r_faP {t f : Nat} {p : Operand} {td : TyD} {fs : List (Nat × Nat)} {off size : Nat} {xs : List DV} (ho : o.op = .fieldAddr t p f) (ht : TyOk P t td) (hk : td.k = .struct fs) (hf : fs[f]? = some (off, size)) (h0 : size ≠ 0) (hp : opd env p = .pp xs) :
    OpOK P o env sto nxt ⟨.pp (xs.drop off), [], [], 0⟩ := .ran fun F m a hI hE _ _ => by
  have h1 := hE p (by simp [ho, Op.operands])
  rw [hp] at h1
  obtain ⟨b, q, h2, h3⟩ := h1.pp_drop off
  exact ran_fieldAddr ho hI ht hk hf h0 h2 h3
theorem r_fa {t f : Nat} {p : Operand} {td : TyD} {fs : List (Nat × Nat)} {off size : Nat} {s i j : Nat} {ob : Ob} (ho : o.op = .fieldAddr t p f) (ht : TyOk P t td) (hk : td.k = .struct fs) (hf : fs[f]? = some (off, size)) (h0 : size ≠ 0) (hp : opd env p = .ptr s i j) (hs : sto.get s = some ob) :
    OpOK P o env sto nxt ⟨.ptr s i (j + off), [], [s], 0⟩ := .ran fun F m a hI hE hH _ => by
  have h1 := hE p (by simp [ho, Op.operands])
  rw [hp] at h1
  obtain ⟨e, g, cap, k1, k2, _, k3, h2, h3⟩ := ptr_get h1 (hH s (by simp) ob hs)
  refine ran_fieldAddr ho hI ht hk hf h0 h2 ?_
  rw [Nat.add_assoc, ← k2]
  exact .ptr k1 k3

theorem r_field {t f : Nat} {p : Operand} {td td' : TyD} {fs : List (Nat × Nat)} {off size : Nat} {xs : List DV} {d : DV} (ho : o.op = .field t p f) (ht : TyOk P t td) (hk : td.k = .struct fs) (hf : fs[f]? = some (off, size)) (hp : opd env p = .agg xs)
    (hd : ∃ fields fl, P.underlying t = some (.struct fields) ∧ fields[f]? = some fl ∧ TyOk P fl.type td') (hx : ldD td' (xs.drop off) = some d) : True := trivial

theorem ran_indexAddr {t e : Nat} {x ix : Operand} (ho : o.op = .indexAddr t x ix) (hI : Inv F m) {tt td : TyD} (ht : TyOk P t tt) (hk : tt.k = .slice e) (he : TyOk P e td) {k : IntKind} {i : Int} (hi : a.eval ix = .int k i)
    {g q len cap : Nat} (hx : a.eval x = .slice (some ⟨g, q, none⟩) len cap) (h0 : 0 ≤ i) (h1 : i < len) {d : DV} (hr : Rep m (.pointer (some ⟨g, q + i.toNat * td.size, none⟩)) d) : Ran P F o a m d [] := by
  have hu := ht.kind
  rw [hk] at hu
  refine Ran.val hI (v := .pointer (some ⟨g, q + i.toNat * td.size, none⟩)) ?_ hr
  simp [execOp, ho, hi, hx, Instr.indexAt, run_underlying hu, asIntOf, h0, h1, ty_size he, add_lit]

/-- an element of a slice that is written no more; at an index that is a number -/
theorem r_iaS {t e : Nat} {x ix : Operand} {tt td : TyD} {k : IntKind} {i : Nat} {xs : List (List DV)} {y : List DV} (ho : o.op = .indexAddr t x ix) (ht : TyOk P t tt) (hk : tt.k = .slice e) (he : TyOk P e td) (hx : opd env x = .sl xs) (hi : opd env ix = .lit (.int k (i : Int)))
    (hy : xs[i]? = some y) (hl : y.length = td.size) : OpOK P o env sto nxt ⟨.pp y, [], [], 0⟩ := .ran fun F m a hI hE _ _ => by
  have h1 := hE x (by simp [ho, Op.operands])
  have h2 := hE ix (by simp [ho, Op.operands])
  rw [hx] at h1
  rw [hi] at h2
  have hlt : i < xs.length := by
    rcases Nat.lt_or_ge i xs.length with h' | h'
    · exact h'
    · rw [List.getElem?_eq_none h'] at hy; cases hy
  obtain ⟨ad, cap, h3, h4, h5, h6⟩ := h1.sl_inv.sl_inv
  obtain ⟨b, off, sz, f, rfl, q1, q2, q3, q4, q5, q6⟩ := h6 (by rintro rfl; simp at hlt)
  have hsz : td.size = sz := by rw [← hl, q4 i y hy]
  refine ran_indexAddr ho hI ht hk he h2.lit_inv h3 (by omega) (by omega) ?_
  rw [hsz, Int.toNat_natCast]
  exact .pp (f i) q2 q3 (fun j d hd => q5 i y j d hy hd) (fun j d hd => q6 i y j d hy hd)
/-- the same of a slice of values of one kind -/
theorem r_iaM {α : Type} {c : α → List DV} {l : List α} {t e : Nat} {x ix : Operand} {tt td : TyD} {k : IntKind} {i : Nat} (ho : o.op = .indexAddr t x ix) (ht : TyOk P t tt) (hk : tt.k = .slice e) (he : TyOk P e td) (hx : opd env x = .sl (l.map c)) (hi : opd env ix = .lit (.int k (i : Int)))
    (hlt : i < l.length) (hl : (c l[i]).length = td.size) : OpOK P o env sto nxt ⟨.pp (c l[i]), [], [], 0⟩ :=
  r_iaS ho ht hk he hx hi (by rw [List.getElem?_map, List.getElem?_eq_getElem hlt]; rfl) hl
/-- an element of an object -/
theorem r_iaO {t e : Nat} {x ix : Operand} {tt td : TyD} {k : IntKind} {i : Nat} {s off len : Nat} {ob : Ob} (ho : o.op = .indexAddr t x ix) (ht : TyOk P t tt) (hk : tt.k = .slice e) (he : TyOk P e td) (hx : opd env x = .own s off len) (hi : opd env ix = .lit (.int k (i : Int))) (hs : sto.get s = some ob)
    (hz : ob.esz = td.size) (hlt : i < len) : OpOK P o env sto nxt ⟨.ptr s (off + i) 0, [], [s], 0⟩ := .ran fun F m a hI hE hH _ => by
  have h1 := hE x (by simp [ho, Op.operands])
  have h2 := hE ix (by simp [ho, Op.operands])
  rw [hx] at h1
  rw [hi] at h2
  obtain ⟨e', k1, k2, _, h⟩ := own_get h1 (hH s (by simp) ob hs)
  rcases h with ⟨g, cap, k4, h3, h4, h5⟩ | ⟨_, _, _, h, _⟩
  · refine ran_indexAddr ho hI ht hk he h2.lit_inv h3 (by omega) (by omega) ?_
    rw [Int.toNat_natCast, ← hz, ← Nat.add_mul, ← k2]
    have := Rep.ptr (i := off + i) (j := 0) k1 k4
    rwa [Nat.add_zero] at this
  · omega
/-- an element of an array -/
theorem r_iaA {t e n : Nat} {x ix : Operand} {tt td : TyD} {k : IntKind} {i : Nat} {s p q : Nat} {ob : Ob} (ho : o.op = .indexAddr t x ix) (ht : TyOk P t tt) (hk : tt.k = .array n e) (he : TyOk P e td) (hx : opd env x = .ptr s p q) (hi : opd env ix = .lit (.int k (i : Int))) (hs : sto.get s = some ob)
    (hlt : i < n) : OpOK P o env sto nxt ⟨.ptr s p (q + i * td.size), [], [s], 0⟩ := .ran fun F m a hI hE hH _ => by
  have h1 := hE x (by simp [ho, Op.operands])
  have h2 := hE ix (by simp [ho, Op.operands])
  rw [hx] at h1
  rw [hi] at h2
  have hu := ht.kind
  rw [hk] at hu
  obtain ⟨e', g, cap, k1, k2, _, k3, h3, h4⟩ := ptr_get h1 (hH s (by simp) ob hs)
  have e1 : (0 : Int) ≤ (i : Int) := by omega
  refine Ran.val hI (v := .pointer (some ⟨g, p * ob.esz + q + i * td.size, none⟩)) ?_ ?_
  · simp [execOp, ho, h2.lit_inv, h3, Instr.indexAt, run_underlying hu, asIntOf, ty_size he, add_lit, Instr.sureAddr, hlt]
  · rw [Nat.add_assoc, ← k2]
    exact .ptr k1 k3

theorem slice_at {b off sz : Nat} {xs : List (List DV)} {w : World} {no : Nat → Prop} {cap : Nat} {f : Nat → Nat → Value} (h0 : 0 < sz) (hc : xs.length ≤ cap) (hm : cap ≤ maxLen) (hno : ¬ no b) (hb : b < w.heap.size) (h7 : ∀ (i : Nat) x, xs[i]? = some x → x.length = sz)
    (h8 : ∀ (i : Nat) x (j : Nat) d, xs[i]? = some x → x[j]? = some d → w.cell? ⟨b, off + i * sz + j, none⟩ = some (f i j)) (h9 : ∀ (i : Nat) x (j : Nat) d, xs[i]? = some x → x[j]? = some d → PRep w no (f i j) d)
    (lo hi : Nat) (hlh : lo < hi) (hh : hi ≤ xs.length) : PRep w no (.slice (some ⟨b, off + lo * sz, none⟩) (hi - lo) (cap - lo)) (.sl ((xs.take hi).drop lo)) := by
  have hl : ((xs.take hi).drop lo).length = hi - lo := by simp; omega
  have hget : ∀ (i : Nat) x, ((xs.take hi).drop lo)[i]? = some x → xs[lo + i]? = some x := fun i x hx => by
    rw [List.getElem?_drop, List.getElem?_take] at hx
    split at hx
    · exact hx
    · cases hx
  have := PRep.sl (w := w) (no := no) b (off + lo * sz) (cap - lo) sz ((xs.take hi).drop lo) (fun i j => f (lo + i) j) h0 (by omega) (by omega) (by omega) hno hb (fun i x hx => h7 _ x (hget i x hx))
    (fun i x j d hx hd => by rw [show off + lo * sz + i * sz + j = off + (lo + i) * sz + j by rw [Nat.add_mul]; omega]; exact h8 _ x j d (hget i x hx) hd) (fun i x j d hx hd => h9 _ x j d (hget i x hx) hd)
  rwa [hl] at this

/-- the bounds of a slice expression: a bound that is left out, or a number -/
inductive Bnd (env : Env) : Option Operand → Option Nat → Prop
  | none : Bnd env none none
  | some {x : Operand} {k : IntKind} {n : Nat} : opd env x = .lit (.int k (n : Int)) → Bnd env (some x) (some n)
theorem bnd_run {lo : Option Operand} {l : Option Nat} (h : Bnd env lo l) (hr : ∀ x, lo = some x → Rep m (a.eval x) (opd env x)) : (lo.map a.eval = none ∧ l = none) ∨ ∃ k n, lo.map a.eval = some (.int k ((n : Nat) : Int)) ∧ l = some n := by
  cases h with
  | none => exact .inl ⟨rfl, rfl⟩
  | @some x k n h =>
    have := hr x rfl
    rw [h] at this
    exact .inr ⟨k, n, by rw [Option.map_some, this.lit_inv], rfl⟩
theorem sliceBounds_run {len cap : Nat} {lo hi : Option Value} {l h : Option Nat} (hl : (lo = none ∧ l = none) ∨ ∃ k n, lo = some (.int k ((n : Nat) : Int)) ∧ l = some n) (hh : (hi = none ∧ h = none) ∨ ∃ k n, hi = some (.int k ((n : Nat) : Int)) ∧ h = some n)
    (h1 : l.getD 0 ≤ h.getD len) (h2 : h.getD len ≤ len) (hc : len ≤ cap) (b : Bool) (w : World) :
    (Instr.sliceBounds b len cap lo hi none).run P w = .ok (l.getD 0, h.getD len, cap) w := by
  rcases hl with ⟨rfl, rfl⟩ | ⟨k, n, rfl, rfl⟩ <;> rcases hh with ⟨rfl, rfl⟩ | ⟨k', n', rfl, rfl⟩ <;>
    simp only [Option.getD_none, Option.getD_some] at h1 h2
  · simp [Instr.sliceBounds]
  · have e1 : n' ≤ cap := by omega
    simp [Instr.sliceBounds, Instr.sliceBound, asIntOf, e1]
  · simp [Instr.sliceBounds, Instr.sliceBound, asIntOf, h1]
  · have e1 : n' ≤ cap := by omega
    simp [Instr.sliceBounds, Instr.sliceBound, asIntOf, e1, h1]
theorem run_slice {t e : Nat} {tt td : TyD} (ht : TyOk P t tt) (hk : tt.k = .slice e) (he : TyOk P e td) {ad : Option Addr} {len cap : Nat} {lo hi : Option Value} {l h : Nat} {w : World}
    (hb : (Instr.sliceBounds true len cap lo hi none).run P w = .ok (l, h, cap) w) :
    (Instr.sliceAt t (.slice ad len cap) lo hi none).run P w = .ok (.slice (if cap = l then ad else ad.map (·.add (l * td.size))) (h - l) (cap - l)) w := by
  have hu := ht.kind
  rw [hk] at hu
  simp [Instr.sliceAt, run_underlying hu, Instr.slice, hb, ty_size he]

theorem r_slS {t e : Nat} {x : Operand} {lo hi : Option Operand} {tt td : TyD} {xs : List (List DV)} {l h : Option Nat} (ho : o.op = .slice t x lo hi none) (ht : TyOk P t tt) (hk : tt.k = .slice e) (he : TyOk P e td) (hx : opd env x = .sl xs) (hl : Bnd env lo l) (hh : Bnd env hi h)
    (h1 : l.getD 0 ≤ h.getD xs.length) (h2 : h.getD xs.length ≤ xs.length) (hz : ∀ y ∈ xs.head?, y.length = td.size) : OpOK P o env sto nxt ⟨.sl ((xs.take (h.getD xs.length)).drop (l.getD 0)), [], [], 0⟩ := .ran fun F m a hI hE _ _ => by
  have hX := hE x (by simp [ho, Op.operands])
  rw [hx] at hX
  have hL := bnd_run (m := m) (a := a) hl fun x hx => hE x (by simp [ho, Op.operands, hx])
  have hH := bnd_run (m := m) (a := a) hh fun x hx => hE x (by simp [ho, Op.operands, hx])
  obtain ⟨ad, cap, q0, k1, k2, k3⟩ := hX.sl_inv.sl_inv
  have hrun := run_slice ht hk he (ad := ad) (sliceBounds_run (P := P) hL hH h1 h2 k1 true m.w)
  generalize l.getD 0 = l' at *
  generalize h.getD xs.length = h' at *
  refine Ran.val hI (v := .slice (if cap = l' then ad else ad.map (·.add (l' * td.size))) (h' - l') (cap - l')) (by simp [execOp, ho, q0, hrun]) ?_
  by_cases hlt : l' < h'
  · obtain ⟨b', off, sz, f, rfl, q1, q2, q3, q4, q5, q6⟩ := k3 (by rintro rfl; simp at h2; omega)
    have hsz : td.size = sz := by
      cases xs with
      | nil => simp at h2; omega
      | cons y ys => rw [← hz y rfl, q4 0 y rfl]
    rw [if_neg (by omega)]
    simp only [Option.map_some, add_lit]
    rw [hsz]
    exact .pure (slice_at q1 k1 k2 q2 q3 q4 q5 q6 l' h' (by omega) (by omega))
  · obtain rfl : l' = h' := by omega
    have e0 : (xs.take l').drop l' = [] := by simp
    rw [e0, Nat.sub_self]
    exact .pure (.nil _ _ (by omega))
/-- of an object: a part that is not empty, or its beginning -/
theorem r_slO {t e : Nat} {x : Operand} {lo hi : Option Operand} {tt td : TyD} {s off len : Nat} {ob : Ob} {l h : Option Nat} (ho : o.op = .slice t x lo hi none) (ht : TyOk P t tt) (hk : tt.k = .slice e) (he : TyOk P e td) (hx : opd env x = .own s off len) (hs : sto.get s = some ob) (hl : Bnd env lo l) (hh : Bnd env hi h)
    (hz : ob.esz = td.size) (h1 : l.getD 0 ≤ h.getD len) (h2 : h.getD len ≤ len) (h3 : l.getD 0 = 0 ∨ l.getD 0 < h.getD len) : OpOK P o env sto nxt ⟨.own s (off + l.getD 0) (h.getD len - l.getD 0), [], [s], 0⟩ := .ran fun F m a hI hE hHo _ => by
  have hX := hE x (by simp [ho, Op.operands])
  rw [hx] at hX
  have hL := bnd_run (m := m) (a := a) hl fun x hx => hE x (by simp [ho, Op.operands, hx])
  have hH := bnd_run (m := m) (a := a) hh fun x hx => hE x (by simp [ho, Op.operands, hx])
  obtain ⟨e', k1, k2, k3, k6⟩ := own_get hX (hHo s (by simp) ob hs)
  rcases k6 with ⟨g, cap, k6, q0, k7, k8⟩ | ⟨k6, q0, rfl, rfl, k7, k8⟩
  · have hrun := run_slice ht hk he (ad := some ⟨g, off * ob.esz, none⟩) (sliceBounds_run (P := P) (cap := cap - off) hL hH h1 h2 (by omega) true m.w)
    have hmax := k8.max
    generalize l.getD 0 = l' at *
    generalize h.getD len = h' at *
    refine Ran.val hI (v := .slice (if cap - off = l' then some ⟨g, off * ob.esz, none⟩ else some ⟨g, off * ob.esz + l' * td.size, none⟩) (h' - l') (cap - off - l')) (by simp [execOp, ho, q0, hrun, add_lit]) ?_
    have key := Rep.own (m := m) (off := off + l') (len := h' - l') k1 k6 (by omega) hmax
    rw [k2] at key
    by_cases hzz : cap - off = l'
    · have z1 : l' = 0 := by omega
      subst z1
      simp only [Nat.add_zero, Nat.sub_zero] at key hzz ⊢
      rw [if_pos hzz]
      exact key
    · rw [if_neg hzz, ← hz, ← Nat.add_mul, Nat.sub_sub]
      exact key
  · have hrun := run_slice ht hk he (ad := none) (sliceBounds_run (P := P) (len := 0) (cap := 0) hL hH h1 h2 (Nat.le_refl _) true m.w)
    generalize l.getD 0 = l' at *
    generalize h.getD 0 = h' at *
    obtain rfl : l' = 0 := by omega
    obtain rfl : h' = 0 := by omega
    refine Ran.val hI (v := .slice none 0 0) (by simp [execOp, ho, q0, hrun]) ?_
    exact .ownNil k1 k6

theorem evals_rep {xs : List Operand} (h : ∀ x ∈ xs, Rep m (a.eval x) (opd env x)) : ∀ (i : Nat) v d, (xs.map a.eval)[i]? = some v → (xs.map (opd env))[i]? = some d → Rep m v d := fun i v d hv hd => by
  rw [List.getElem?_map] at hv hd
  cases hx : xs[i]? with
  | none => rw [hx] at hv; cases hv
  | some x =>
    rw [hx] at hv hd
    injection hv with hv
    injection hd with hd
    rw [← hv, ← hd]
    exact h x (List.mem_of_getElem? hx)
theorem r_func {f : Nat} {cap : Array Operand} {l : List Operand} (ho : o.op = .makeFunc (.func f) #[] cap) (hc : cap = l.toArray) : OpOK P o env sto nxt ⟨.fn f (l.map (opd env)), [], [], 0⟩ := .ran fun F m a hI hE _ _ => by
  subst hc
  refine Ran.val hI (v := .func (.func f) #[] (l.map a.eval).toArray) (by simp [execOp, ho, Instr.makeFunc]) (.fn (by simp) (evals_rep fun x hx => hE x (by simp [ho, Op.operands, hx])))

theorem fold_set (cs : List Value) (off : Nat) (cells : Array Value) : cs.toArray.zipIdx.foldl (fun acc (p : Value × Nat) => acc.setIfInBounds (off + p.2) p.1) cells = (setCells cells.toList off cs).toArray := by
  rw [← Array.foldl_toList, Array.toList_zipIdx]
  have key : ∀ (cs : List Value) (k : Nat) (cells : Array Value), (cs.zipIdx k).foldl (fun acc (p : Value × Nat) => acc.setIfInBounds (off + p.2) p.1) cells = (setCells cells.toList (off + k) cs).toArray := by
    intro cs
    induction cs with
    | nil => intro k cells; simp [setCells]
    | cons c cs ih =>
      intro k cells
      rw [List.zipIdx_cons, List.foldl_cons, ih]
      simp [setCells, Nat.add_assoc]
  exact key cs 0 cells

/-- lists of values and data, one by one -/
def Reps (m : Mem) (vs : List Value) (ds : List DV) : Prop := vs.length = ds.length ∧ ∀ (i : Nat) v d, vs[i]? = some v → ds[i]? = some d → Rep m v d
theorem Reps.set {vs : List Value} {ds : List DV} (h : Reps m vs ds) {cs : List Value} {es : List DV} (k : Reps m cs es) {off : Nat} (hf : off + es.length ≤ ds.length) : Reps m (setCells vs off cs) (setCells ds off es) := by
  refine ⟨by rw [setCells_length, setCells_length, h.1], fun i v d hv hd => ?_⟩
  rw [setCells_get cs vs off (by rw [k.1, h.1]; exact hf)] at hv
  rw [setCells_get es ds off hf] at hd
  by_cases h1 : i < off
  · rw [if_pos h1] at hv hd
    exact h.2 i v d hv hd
  · rw [if_neg h1] at hv hd
    rw [k.1] at hv
    by_cases h2 : i < off + es.length
    · rw [if_pos h2] at hv hd
      exact k.2 _ v d hv hd
    · rw [if_neg h2] at hv hd
      exact h.2 i v d hv hd

/-- the cells of a part, and the objects that it names -/
def partF (sto : Sto) : DV → Option (List DV × List Nat)
  | .agg cs => some (cs, [])
  | x => (box1F sto x).map fun r => ([x], r)
theorem one_cells {u : Value} (hu : u.oneCell' = true) : u.cells = [u].toArray := by cases u <;> first | rfl | (simp [Value.oneCell'] at hu)
theorem part_val {v : Value} {x : DV} (hr : Rep m v x) {cs : List DV} {r : List Nat} (h : partF sto x = some (cs, r)) (hs : HoldsAll m sto r) : ∃ vs : List Value, v.cells = vs.toArray ∧ Reps m vs cs := by
  have fin : ∀ {x : DV}, Rep m v x → (box1F sto x).map (fun r => ([x], r)) = some (cs, r) → ∃ vs : List Value, v.cells = vs.toArray ∧ Reps m vs cs := fun {x} hr h => by
    cases hb : box1F sto x with
    | none => rw [hb] at h; cases h
    | some r' =>
      rw [hb] at h
      simp only [Option.map_some, Option.some.injEq, Prod.mk.injEq] at h
      obtain ⟨rfl, rfl⟩ := h
      refine ⟨[v], one_cells (box1_one (box1F_ok hb) hs hr), rfl, fun i u d hu hd => ?_⟩
      cases i with
      | zero => simp at hu hd; subst hu; subst hd; exact hr
      | succ i => simp at hu
  cases x with
  | agg xs =>
    simp only [partF, Option.some.injEq, Prod.mk.injEq] at h
    obtain ⟨rfl, rfl⟩ := h
    obtain ⟨vs, rfl, h1, h2⟩ := hr.agg_inv
    exact ⟨vs, rfl, h1, h2⟩
  | _ => exact fin hr h

/-- parts of a struct or of a row, put into its cells -/
def fillD (sto : Sto) (place : Nat → Option (Nat × Nat)) (cells : List DV) : List (Nat × DV) → Option (List DV × List Nat)
  | [] => some (cells, [])
  | (i, x) :: rest => match place i with
    | none => none
    | some (off, size) =>
      match partF sto x with
      | none => none
      | some (cs, r) => if cs.length = size ∧ off + size ≤ cells.length then (match fillD sto place (setCells cells off cs) rest with
        | some (out, r') => some (out, r ++ r')
        | none => none) else none

theorem fill_run {place : Nat → Option (Nat × Nat)} {parts : List (Nat × Operand)} (hE : ∀ p ∈ parts, Rep m (a.eval p.2) (opd env p.2)) {vs : List Value} {ds out : List DV} {r : List Nat} (hv : Reps m vs ds)
    (h : fillD sto place ds (parts.map fun p => (p.1, opd env p.2)) = some (out, r)) (hs : HoldsAll m sto r) :
    ∃ us : List Value, Instr.fill place vs.toArray (parts.map fun p => (p.1, a.eval p.2)) = some us.toArray ∧ Reps m us out := by
  induction parts generalizing vs ds r with
  | nil =>
    simp only [List.map_nil, fillD, Option.some.injEq, Prod.mk.injEq] at h
    obtain ⟨rfl, rfl⟩ := h
    exact ⟨vs, rfl, hv⟩
  | cons p rest ih =>
    obtain ⟨i, x⟩ := p
    simp only [List.map_cons, fillD] at h
    cases hp : place i with
    | none => rw [hp] at h; cases h
    | some q =>
      obtain ⟨off, size⟩ := q
      rw [hp] at h
      dsimp only at h
      cases hq : partF sto (opd env x) with
      | none => rw [hq] at h; cases h
      | some q =>
        obtain ⟨cs, r1⟩ := q
        rw [hq] at h
        dsimp only at h
        split at h
        · rename_i hc
          obtain ⟨c1, c2⟩ := hc
          split at h
          · rename_i out' r2 hf
            simp only [Option.some.injEq, Prod.mk.injEq] at h
            obtain ⟨rfl, rfl⟩ := h
            obtain ⟨ws, k1, k2⟩ := part_val (hE (i, x) (by simp)) hq fun s h => hs s (List.mem_append_left _ h)
            have hset := hv.set k2 (off := off) (by omega)
            obtain ⟨us, j1, j2⟩ := ih (fun p hp => hE p (List.mem_cons_of_mem _ hp)) hset hf fun s h => hs s (List.mem_append_right _ h)
            refine ⟨us, ?_, j2⟩
            have hfold := fold_set ws off vs.toArray
            simp only [List.map_cons, Instr.fill, hp]
            have g1 : (a.eval x).cells.size = size := by rw [k1]; simp [k2.1, c1]
            rw [if_neg (by rw [g1]; simp [hv.1]; omega), k1, hfold]
            exact j1
          · cases h
        · cases h

theorem zero_reps {t : Nat} {td : TyD} (ht : TyOk P t td) (m : Mem) : ∃ z, (zeroValue t).run P m.w = .ok z m.w ∧ Reps m z.cells.toList td.zero ∧ (∀ u ∈ z.cells, u.oneCell' = true) ∧ (if td.agg then ∃ cs, z = .agg cs else z.oneCell' = true) := by
  obtain ⟨i, z, h1, h2, h3, h4, h5, h6, h7⟩ := ty_info ht
  refine ⟨z, by simp [zeroValue, typeInfo, h1, h4], ⟨by rw [← h5]; simp, fun i v d hv hd => ?_⟩, h6, h7⟩
  rw [← h5, List.getElem?_map, hv] at hd
  injection hd with hd
  subst hd
  exact .pure (.lit v (h6 v (by simpa using List.mem_of_getElem? hv)))

theorem places_list : ∀ (l : List Field), (∀ f ∈ l, (P.info? f.type).isSome = true) → l.mapM (fun f => (P.info? f.type).map fun i => (f.offset, i.size)) = some (l.map fun f => (f.offset, P.cellsOf f.type))
  | [], _ => rfl
  | f :: l, h => by
    obtain ⟨i, hi⟩ := Option.isSome_iff_exists.1 (h f (by simp))
    have hc : P.cellsOf f.type = i.size := by unfold Program.cellsOf; rw [hi]; rfl
    simp [List.mapM_cons, hi, places_list l (fun g hg => h g (by simp [hg])), hc]

theorem r_build {t : Nat} {parts : Array (Nat × Operand)} {l : List (Nat × Operand)} {td : TyD} {fs : List (Nat × Nat)} {cells : List DV} {r : List Nat} (ho : o.op = .build t parts) (hp : parts = l.toArray) (ht : TyOk P t td) (hk : td.k = .struct fs)
    (h : fillD sto (fs[·]?) td.zero (l.map fun p => (p.1, opd env p.2)) = some (cells, r)) : OpOK P o env sto nxt ⟨.agg cells, [], r, 0⟩ := .ran fun F m a hI hE hH _ => by
  subst hp
  obtain ⟨i, z, z1, _, _, z2, z3, z6, _⟩ := ty_info ht
  have hu := ht.kind
  rw [hk] at hu
  obtain ⟨fields, hu, hf, hi⟩ := hu
  have hz : Reps m z.cells.toList td.zero := ⟨by rw [← z3]; simp, fun i v d hv hd => by
    rw [← z3, List.getElem?_map, hv] at hd
    injection hd with hd
    subst hd
    exact .pure (.lit v (z6 v (by simpa using List.mem_of_getElem? hv)))⟩
  obtain ⟨us, k1, k2⟩ := fill_run (parts := l) (fun p hp => hE p.2 (by simp only [ho, Op.operands]; simp; exact ⟨p.1, hp⟩)) hz h hH
  rw [Array.toArray_toList] at k1
  have hb : P.built t (l.map fun p => (p.1, a.eval p.2)) = some us.toArray := by
    unfold Program.built
    simp only [z1, hu, z2, places_list fields.toList (fun f hf => List.all_eq_true.1 hi f hf), hf]
    simpa using k1
  refine Ran.val hI (v := .agg us.toArray) ?_ (.agg k2.1 k2.2)
  have hr := run_build (P := P) m.w t (l.map fun p => (p.1, a.eval p.2)).toArray us.toArray (by simpa using hb)
  simp only [execOp, ho]
  rw [show (l.toArray.map fun (x : Nat × Operand) => match x with | (i, x) => (i, a.eval x)) = (l.map fun p => (p.1, a.eval p.2)).toArray from by simp]
  rw [Sem.run_bind, hr]
  rfl
end
end Go.Proofs.Ythpnlnjdmlbnaaa
/- Each operation does on memory what it does on data: objects are made and written. No condition. -/
namespace Go.Proofs.Ythpnlnjdmlbnaaa
open Go.RowKit
set_option linter.unusedSimpArgs false
set_option linter.unusedVariables false

section
variable {P : Program} {F : Fm} {m : Mem} {a : Act} {env : Env} {sto : Sto} {nxt : Nat} {o : Oper}

theorem Holds.of {m : Mem} {s : Nat} {ob : Ob} {e : Ent} {g cap : Nat} (h1 : m.σ s = some (some e)) (h2 : e.esz = ob.esz) (h3 : e.mu = !ob.frz) (h4 : e.blk = some (g, cap)) (h5 : Row m ob g cap) (h6 : Deep m e.inn ob g) : Holds m s ob :=
  ⟨e, h1, h2, h3, by rw [h4]; exact ⟨h5, h6⟩⟩
theorem Ran.new {F : Fm} (hI : Inv F m) {s : Nat} (hs : m.σ s = none) {cur : Array Value} {T : Nat} {v : Value} {d : DV} {ob : Ob} {cap : Nat} (hrun : (execOp a.eval o).run P m.w = .ok (.value v) (m.w.alloc (.cells cur T)))
    (hd : ∀ m' : Mem, m'.σ s = some (some ⟨ob.esz, some (m.w.heap.size, cap), true, noI⟩) → Rep m' v d) (hf : ob.frz = false)
    (hrow : ∀ m' : Mem, Ext m m' → m'.w.heap[m.w.heap.size]? = some (.cells cur T (0, 0)) → Row m' ob m.w.heap.size cap) (hflat : ob.arr = true ∨ ∀ (i : Nat) x (j : Nat) z xs, ob.els[i]? = some x → x[j]? = some (.dp z xs) → False) : Ran P F o a m d [(s, some ob)] := by
  have hT := turn_new hI hs (m.w.alloc (.cells cur T)) ⟨ob.esz, some (m.w.heap.size, cap), true, noI⟩ rfl rfl rfl (by simp) (fun k hk => heap_alloc_old m.w _ hk) (fun g c h => by
    injection h with h
    injection h with h1 h2
    subst h1
    exact ⟨Nat.le_refl _, by simp⟩)
  refine ⟨v, _, .inl hrun, hT.1, hT.2, hd _ (setE_same _ _ _), fun p hp => ?_⟩
  obtain rfl : p = (s, some ob) := by simpa using hp
  refine ⟨_, setE_same _ _ _, rfl, by rw [hf]; rfl, ?_⟩
  have hr := hrow _ hT.2.toExt (heap_alloc_new m.w _)
  exact ⟨hr, hflat.elim (fun h => hr.deep h _) Deep.flat⟩

theorem row_of_reps {m m' : Mem} (he : Ext m m') {vs : List Value} {ds : List DV} {arr : Bool} (hr : Reps m vs ds) (h1 : ∀ (i : Nat) v d, vs[i]? = some v → ds[i]? = some d → CRep m arr v d) {g T sz : Nat} (hg : m'.w.heap[g]? = some (.cells vs.toArray T (0, 0))) (hsz : ds.length = sz) (h0 : 0 < sz) : Row m' ⟨sz, arr, false, [ds]⟩ g 1 := by
  refine ⟨⟨vs.toArray, T, hg, by simp [hr.1, hsz], fun i x j d hx hd => ?_⟩, Nat.le_refl _, by unfold maxLen; omega, h0, fun i x hx => ?_⟩
  · cases i with
    | zero =>
      simp only [List.getElem?_cons_zero, Option.some.injEq] at hx
      subst hx
      have hlt : j < vs.length := by
        rcases Nat.lt_or_ge j ds.length with h' | h'
        · rw [hr.1]; exact h'
        · rw [List.getElem?_eq_none h'] at hd; cases hd
      refine ⟨vs[j], by simp [hlt], (h1 j _ d (List.getElem?_eq_getElem hlt) hd).ext he⟩
    | succ i => simp at hx
  · cases i with
    | zero => simp only [List.getElem?_cons_zero, Option.some.injEq] at hx; subst hx; exact hsz
    | succ i => simp at hx

theorem Box.nodp {cs : List DV} {r : List Nat} (h : Box sto cs r) : ∀ (j : Nat) z xs, cs[j]? = some (.dp z xs) → False := by
  induction h with
  | nil => intro j z xs h; simp at h
  | cons h1 _ ih =>
    intro j z xs h
    cases j with
    | zero => simp only [List.getElem?_cons_zero, Option.some.injEq] at h; subst h; cases h1
    | succ j => exact ih j z xs (by simpa using h)
theorem r_alloc {t : Nat} {td : TyD} (ho : o.op = .alloc t) (ht : TyOk P t td) (hz : td.zero.length = td.size) (h0 : 0 < td.size) : OpOK P o env sto nxt ⟨.ptr nxt 0 0, [(nxt, some ⟨td.size, false, false, [td.zero]⟩)], [], 1⟩ := .ran fun F m a hI hE hH hF => by
  obtain ⟨z, z1, z2, z3, _⟩ := zero_reps ht m
  refine Ran.new hI (hF nxt (Nat.le_refl _) (by show nxt < nxt + 1; omega)) (cur := z.cells) (T := t) (v := .pointer (some ⟨m.w.heap.size, 0, none⟩)) (cap := 1) ?_ (fun m' h => ?_) rfl (fun m' he hg => ?_) ?_
  · have hn : (newVar t z).run P m.w = .ok ⟨m.w.heap.size, 0, none⟩ (m.w.alloc (.cells z.cells t)) := by simp [newVar, newRow]
    simp [execOp, ho, Instr.alloc, z1, hn]
  · have := Rep.ptr (m := m') (i := 0) (j := 0) h rfl
    simpa using this
  · have hg' : m'.w.heap[m.w.heap.size]? = some (.cells z.cells.toList.toArray t (0, 0)) := by simpa using hg
    exact row_of_reps he z2 (fun i v d hv hd => ⟨z3 v (by simpa using List.mem_of_getElem? hv), by simpa using z2.2 i v d hv hd⟩) hg' hz h0
  · refine .inr fun i x j z' xs h1 h2 => ?_
    cases i with
    | zero =>
      simp only [List.getElem?_cons_zero, Option.some.injEq] at h1
      subst h1
      obtain ⟨z0, _, h5, _⟩ := ht.zero
      rw [← h5, List.getElem?_map] at h2
      cases hq : z0.cells.toList[j]? with
      | none => rw [hq] at h2; cases h2
      | some v => rw [hq] at h2; cases h2
    | succ i => simp at h1

theorem r_box {t : Nat} {x : Operand} {td : TyD} {cs : List DV} {r : List Nat} (ho : o.op = .box t x) (ht : TyOk P t td) (hc : cellsD td (opd env x) = some cs) (hb : boxF sto cs = some r) (h0 : 0 < td.size) :
    OpOK P o env sto nxt ⟨.ptr nxt 0 0, [(nxt, some ⟨td.size, false, false, [cs]⟩)], r, 1⟩ := .ran fun F m a hI hE hH hF => by
  have h1 := hE x (by simp [ho, Op.operands])
  obtain ⟨vs, k1, k2, k3, k4, k5⟩ := cells_val h1 hc (box_one (boxF_ok hb) hH)
  refine Ran.new hI (hF nxt (Nat.le_refl _) (by show nxt < nxt + 1; omega)) (cur := vs.toArray) (T := t) (v := .pointer (some ⟨m.w.heap.size, 0, none⟩)) (cap := 1) ?_ (fun m' h => ?_) rfl (fun m' he hg => ?_) ?_
  · have hn : (newVar t (a.eval x)).run P m.w = .ok ⟨m.w.heap.size, 0, none⟩ (m.w.alloc (.cells vs.toArray t)) := by simp [newVar, newRow, k1]
    simp [execOp, ho, Instr.box, hn]
  · have := Rep.ptr (m := m') (i := 0) (j := 0) h rfl
    simpa using this
  · exact row_of_reps he ⟨by omega, k5⟩ (fun i v d hv hd => ⟨k4 v (List.mem_of_getElem? hv), by simpa using k5 i v d hv hd⟩) hg k3 h0
  · refine .inr fun i x j z' xs h1 h2 => ?_
    cases i with
    | zero =>
      simp only [List.getElem?_cons_zero, Option.some.injEq] at h1
      subst h1
      exact (boxF_ok hb).nodp j _ _ h2
    | succ i => simp at h1

theorem row_of_flat {m m' : Mem} (he : Ext m m') {vs : List Value} {ds : List DV} {arr : Bool} (hr : vs.length = ds.length) (h1 : ∀ (i : Nat) v d, vs[i]? = some v → ds[i]? = some d → CRep m arr v d) {g T sz n : Nat} (hg : m'.w.heap[g]? = some (.cells vs.toArray T (0, 0))) (hsz : ds.length = n * sz) (h0 : 0 < sz) (hm : n ≤ maxLen)
    {els : List (List DV)} (hn : els.length = n) (hel : ∀ (i : Nat) x, els[i]? = some x → x.length = sz ∧ ∀ (j : Nat) d, x[j]? = some d → ds[i * sz + j]? = some d) : Row m' ⟨sz, arr, false, els⟩ g n := by
  refine ⟨⟨vs.toArray, T, hg, by simp [hr, hsz], fun i x j d hx hd => ?_⟩, by simp [hn], hm, h0, fun i x hx => (hel i x hx).1⟩
  have hd' := (hel i x hx).2 j d hd
  have hlt : i * sz + j < vs.length := by
    rcases Nat.lt_or_ge (i * sz + j) ds.length with h' | h'
    · rw [hr]; exact h'
    · rw [List.getElem?_eq_none h'] at hd'; cases hd'
  exact ⟨vs[i * sz + j], by simp [hlt], (h1 _ _ d (List.getElem?_eq_getElem hlt) hd').ext he⟩

theorem madeCells_get {z : Array Value} {n : Nat} (hz : 0 < z.size) {j : Nat} (hj : j < n) : (madeCells z n)[j]? = z[j % z.size]? := by
  have : j % z.size < z.size := Nat.mod_lt _ hz
  simp [madeCells, hj, this]

theorem r_make {t e : Nat} {l c : Operand} {tt td : TyD} {k : IntKind} {n : Nat} (ho : o.op = .makeSlice t l c) (ht : TyOk P t tt) (hk : tt.k = .slice e) (he : TyOk P e td) (hl : opd env l = .lit (.int k (n : Int))) (hc : opd env c = .lit (.int k (n : Int)))
    (hb : td.bytes * n ≤ 281474976710656) (hm : n ≤ 9223372036854775807) (hz : td.zero.length = td.size) (h0 : 0 < td.size) :
    OpOK P o env sto nxt ⟨.own nxt 0 n, [(nxt, some ⟨td.size, true, false, List.replicate n td.zero⟩)], [], 1⟩ := .ran fun F m a hI hE hH hF => by
  have h1 := hE l (by simp [ho, Op.operands])
  have h2 := hE c (by simp [ho, Op.operands])
  rw [hl] at h1
  rw [hc] at h2
  have hu := ht.kind
  rw [hk] at hu
  obtain ⟨i, z, z1, z2, z3, z4, z5, z6, _⟩ := ty_info he
  have hsz : z.cells.size = td.size := by rw [← hz, ← z5]; simp
  have hb2 : (i.bytes : Int) * (n : Int) ≤ 281474976710656 := by
    have h : ((td.bytes * n : Nat) : Int) ≤ 281474976710656 := by omega
    rw [z3]
    rwa [Int.natCast_mul] at h
  have hrun := run_make (P := P) m.w t e i z hu z1 z4 k k n n (by omega) (Int.le_refl _) hb2 (by omega)
  simp only [Int.toNat_natCast] at hrun
  refine Ran.new hI (hF nxt (Nat.le_refl _) (by show nxt < nxt + 1; omega)) (cur := madeCells z.cells (n * i.size)) (T := e) (v := .slice (some ⟨m.w.heap.size, 0, none⟩) n n) (cap := n) ?_ (fun m' h => ?_) rfl (fun m' he' hg => ?_) (.inl rfl)
  · simp [execOp, ho, h1.lit_inv, h2.lit_inv, hrun]
  · have := Rep.own (m := m') (off := 0) (len := n) h rfl (by omega) (by unfold maxLen; omega)
    simpa using this
  · have hg' : m'.w.heap[m.w.heap.size]? = some (.cells (madeCells z.cells (n * i.size)).toList.toArray e (0, 0)) := by simpa using hg
    refine row_of_flat he' (ds := (List.replicate n td.zero).flatten) (by rw [Array.length_toList, size_madeCells, z2, List.length_flatten, List.map_replicate, hz, List.sum_replicate_nat]) (fun j v d hv hd => ?_) hg' (by simp [hz]) h0 (by unfold maxLen; omega) (by simp) (fun j x hx => ?_)
    · have hj : j < n * td.size := by
        rcases Nat.lt_or_ge j (n * td.size) with h' | h'
        · exact h'
        · rw [List.getElem?_eq_none (by simp [hz]; exact h')] at hd; cases hd
      have hv' : (madeCells z.cells (n * i.size))[j]? = some v := by simpa using hv
      rw [madeCells_get (by omega) (by rw [z2]; exact hj)] at hv'
      have hd' : td.zero[j % td.size]? = some d := by
        have key : ∀ (n j : Nat), j < n * td.size → (List.replicate n td.zero).flatten[j]? = td.zero[j % td.size]? := by
          intro n
          induction n with
          | zero => intro j hj; omega
          | succ n ih =>
            intro j hj
            rw [List.replicate_succ, List.flatten_cons]
            by_cases hlt : j < td.size
            · rw [List.getElem?_append_left (by omega), Nat.mod_eq_of_lt hlt]
            · rw [List.getElem?_append_right (by omega), hz, ih _ (by rw [Nat.succ_mul] at hj; omega), Nat.mod_eq_sub_mod (a := j) (by omega)]
        rw [← key n j hj]; exact hd
      rw [← z5, List.getElem?_map] at hd'
      have : z.cells.toList[j % td.size]? = some v := by rw [hsz] at hv'; simpa using hv'
      rw [this] at hd'
      injection hd' with hd'
      subst hd'
      exact ⟨z6 v (by simpa using List.mem_of_getElem? this), .lit v (z6 v (by simpa using List.mem_of_getElem? this))⟩
    · have hi : j < n := by
        rcases Nat.lt_or_ge j n with h' | h'
        · exact h'
        · rw [List.getElem?_eq_none (by simpa using h')] at hx; cases hx
      rw [List.getElem?_replicate, if_pos hi] at hx
      injection hx with hx
      subst hx
      refine ⟨hz, fun q d hd => ?_⟩
      have hq : q < td.size := by
        rcases Nat.lt_or_ge q td.size with h' | h'
        · exact h'
        · rw [List.getElem?_eq_none (by omega)] at hd; cases hd
      have key : ∀ (n j : Nat), j < n → (List.replicate n td.zero).flatten[j * td.size + q]? = td.zero[q]? := by
        intro n
        induction n with
        | zero => intro j hj; omega
        | succ n ih =>
          intro j hj
          rw [List.replicate_succ, List.flatten_cons]
          cases j with
          | zero => rw [Nat.zero_mul, Nat.zero_add, List.getElem?_append_left (by omega)]
          | succ j => rw [Nat.succ_mul, List.getElem?_append_right (by omega), hz, show j * td.size + td.size + q - td.size = j * td.size + q by omega, ih j (by omega)]
      rw [key n j hi]; exact hd

theorem deep_get {s : Nat} {ob : Ob} {e : Ent} {g cap : Nat} (h : Holds m s ob) (he : m.σ s = some (some e)) (hb : e.blk = some (g, cap)) : Deep m e.inn ob g := by
  obtain ⟨e', h1, _, _, h4⟩ := h
  rw [he] at h1
  injection h1 with h1
  injection h1 with h1
  subst h1
  rw [hb] at h4
  exact h4.2
/-- cells are written, slices inside not among them -/
theorem Deep.set {m' : Mem} {inn : Nat → Prop} {ob : Ob} {g cap T : Nat} {cur : Array Value} (d : Deep m inn ob g) (r : Row m ob g cap) (hcur : m.w.heap[g]? = some (.cells cur T (0, 0))) {i j : Nat} {y cs : List DV} {vs : List Value} (hfit : i * ob.esz + j + vs.length ≤ cur.size) (he : Ext m m') (hy : ob.els[i]? = some y) (hj : j + cs.length ≤ y.length)
    (hcs : ∀ (j : Nat) z xs, cs[j]? = some (.dp z xs) → False) (hl : vs.length = cs.length) (hg : m'.w.heap[g]? = some (.cells (cur.toList.take (i * ob.esz + j) ++ vs ++ cur.toList.drop (i * ob.esz + j + vs.length)).toArray T (0, 0)))
    (ho : ∀ b, b ≠ g → m'.w.heap[b]? = m.w.heap[b]?) (hni : ¬ inn g) : Deep m' inn { ob with els := ob.els.set i (setCells y j cs) } g := by
  obtain ⟨B, d1, d2⟩ := d
  have hyl := r.sz i y hy
  have hi : i < ob.els.length := by
    rcases Nat.lt_or_ge i ob.els.length with h' | h'
    · exact h'
    · rw [List.getElem?_eq_none h'] at hy; cases hy
  have key : ∀ (i' : Nat) x (j' : Nat) z xs, (ob.els.set i (setCells y j cs))[i']? = some x → x[j']? = some (.dp z xs) → ∃ x0, ob.els[i']? = some x0 ∧ x0[j']? = some (.dp z xs) ∧ (i' = i → j' < j ∨ j + cs.length ≤ j') := fun i' x j' z xs h1 h2 => by
    by_cases hii : i' = i
    · subst hii
      rw [List.getElem?_set_self hi] at h1
      injection h1 with h1
      subst h1
      rw [setCells_get cs y j hj] at h2
      refine ⟨y, hy, ?_⟩
      split at h2
      · rename_i hlt; exact ⟨h2, fun _ => .inl hlt⟩
      · split at h2
        · exact (hcs _ _ _ h2).elim
        · rename_i h3 h4; exact ⟨h2, fun _ => .inr (by omega)⟩
    · rw [List.getElem?_set_ne (fun h => hii h.symm)] at h1
      exact ⟨x, h1, h2, fun h => absurd h hii⟩
  refine ⟨B, fun i' x j' z xs h1 h2 => ?_, d2⟩
  dsimp only at h1 ⊢
  obtain ⟨x0, k1, k2, k3⟩ := key i' x j' z xs h1 h2
  obtain ⟨u, q1, q2⟩ := d1 i' x0 j' z xs k1 k2
  have hx0 := r.sz i' x0 k1
  have hj' : j' < ob.esz := by
    rcases Nat.lt_or_ge j' x0.length with h' | h'
    · omega
    · rw [List.getElem?_eq_none h'] at k2; cases k2
  refine ⟨u, ?_, ?_⟩
  · rw [cell_of_row m'.w g _ _ T (0, 0) hg]
    rw [cell_of_row m.w g _ _ T (0, 0) hcur] at q1
    have := splice_get cur.toList vs (i * ob.esz + j) (by simpa using hfit) (i' * ob.esz + j')
    have e1 : (cur.toList.take (i * ob.esz + j) ++ vs ++ cur.toList.drop (i * ob.esz + j + vs.length)).toArray[i' * ob.esz + j']? = cur[i' * ob.esz + j']? := by
      rw [List.getElem?_toArray, this]
      by_cases hii : i' = i
      · subst hii
        rcases k3 rfl with h | h
        · rw [if_pos (by omega)]; simp
        · rw [if_neg (by omega), if_neg (by omega)]; simp
      · rcases Nat.lt_or_ge i' i with h | h
        · have : (i' + 1) * ob.esz ≤ i * ob.esz := Nat.mul_le_mul_right _ h
          rw [Nat.succ_mul] at this
          rw [if_pos (by omega)]; simp
        · have : (i + 1) * ob.esz ≤ i' * ob.esz := Nat.mul_le_mul_right _ (by omega)
          rw [Nat.succ_mul] at this
          rw [if_neg (by omega), if_neg (by omega)]; simp
    rw [e1]; exact q1
  · cases hB : B i' j' with
    | none => rw [hB] at q2; exact q2
    | some b =>
      rw [hB] at q2
      obtain ⟨p1, cp, p2, p3⟩ := q2
      exact ⟨p1, cp, p2, p3.ext he (ho b fun h => hni (h ▸ p1))⟩
/-- a store into an object that is no array -/
theorem r_store {t : Nat} {p x : Operand} {td : TyD} {s i j : Nat} {ob : Ob} {y cs : List DV} {r : List Nat} (ho : o.op = .store t p x) (ht : TyOk P t td) (hp : opd env p = .ptr s i j) (hs : sto.get s = some ob) (hf : ob.frz = false) (ha : ob.arr = false) (hc : cellsD td (opd env x) = some cs) (hb : boxF sto cs = some r)
    (hy : ob.els[i]? = some y) (hj : j + cs.length ≤ y.length) : OpOK P o env sto nxt ⟨.any, [(s, some { ob with els := ob.els.set i (setCells y j cs) })], s :: r, 0⟩ := .ran fun F m a hI hE hH _ => by
  have h1 := hE p (by simp [ho, Op.operands])
  have h2 := hE x (by simp [ho, Op.operands])
  rw [hp] at h1
  have hS := hH s (by simp) ob hs
  obtain ⟨e, g, cap, k1, k2, k3, k4, k5, k6⟩ := ptr_get h1 hS
  obtain ⟨vs, q1, q2, q3, q4, q5⟩ := cells_val h2 hc (box_one (boxF_ok hb) fun s hs' => hH s (List.mem_cons_of_mem _ hs'))
  obtain ⟨cur, T, c1, c2, c3⟩ := k6.cells
  have hyl := k6.sz i y hy
  have hi : i < ob.els.length := by
    rcases Nat.lt_or_ge i ob.els.length with h' | h'
    · exact h'
    · rw [List.getElem?_eq_none h'] at hy; cases hy
  have hfit : i * ob.esz + j + vs.length ≤ cur.size := by
    have : (i + 1) * ob.esz ≤ cap * ob.esz := Nat.mul_le_mul_right _ (by have := k6.len; omega)
    rw [Nat.succ_mul] at this
    omega
  have hrun := store_run (m := m) ht q1 q2 q4 c1 hfit
  have hT := turn_at hI k1 (m.w.setRow g (cur.toList.take (i * ob.esz + j) ++ vs ++ cur.toList.drop (i * ob.esz + j + vs.length)).toArray) true (fun _ => by rw [k3, hf]; rfl) rfl rfl rfl (by simp) (fun k hk h => setRow_other m.w g k _ fun hgk => by
    subst hgk
    have := h _ k4
    rw [k3, hf] at this
    cases this)
  refine ⟨undef, _, .inr ⟨by simp [execOp, ho, k5, hrun], rfl⟩, hT.1, hT.2, .any _, fun p hp => ?_⟩
  obtain rfl : p = (s, some { ob with els := ob.els.set i (setCells y j cs) }) := by simpa using hp
  refine Holds.of (setE_same _ _ _) k2 (by rw [hf]; rfl) k4 ?_ ?_
  · exact (k6.set c1 hT.2.toExt hy hj (by omega) (fun n u c hu hc' => ⟨q4 u (List.mem_of_getElem? hu), by rw [ha]; exact (q5 n u c hu hc').ext hT.2.toExt⟩) (setRow_heap m.w g cur _ T _ c1)).2
  · refine (deep_get hS k1 k4).set k6 c1 (by omega) hT.2.toExt hy hj (boxF_ok hb).nodp (by omega) (setRow_heap m.w g cur _ T _ c1) (fun b hb => setRow_other m.w g b _ fun h => hb h) (hI.wf s e g cap k1 k4)
end
end Go.Proofs.Ythpnlnjdmlbnaaa
/- Each operation does on memory what it does on data: arrays, freezing, append. No condition. -/
namespace Go.Proofs.Ythpnlnjdmlbnaaa
open Go.RowKit
set_option linter.unusedSimpArgs false
set_option linter.unusedVariables false

section
variable {P : Program} {F : Fm} {m : Mem} {a : Act} {env : Env} {sto : Sto} {nxt : Nat} {o : Oper}

/-- the objects S are written no more -/
def frz (m : Mem) (S : List Nat) : Mem := ⟨m.w, m.M, fun j => if j ∈ S then (m.σ j).map (fun x => x.map fun e => { e with mu := false }) else m.σ j⟩
theorem frz_in {S : List Nat} {s : Nat} (hs : s ∈ S) {x : Option (Option Ent)} (h : m.σ s = x) : (frz m S).σ s = x.map (fun x => x.map fun e => { e with mu := false }) := by simp [frz, hs, h]
theorem frz_some {S : List Nat} {s : Nat} {e : Ent} (h : (frz m S).σ s = some (some e)) : ∃ e0, m.σ s = some (some e0) ∧ e.esz = e0.esz ∧ e.blk = e0.blk ∧ (e.mu = true → e0.mu = true) ∧ e.inn = e0.inn := by
  by_cases hs : s ∈ S
  · rw [frz_in hs rfl] at h
    cases hx : m.σ s with
    | none => rw [hx] at h; cases h
    | some x =>
      rw [hx] at h
      cases x with
      | none => simp at h
      | some e0 =>
        simp only [Option.map_some, Option.some.injEq] at h
        subst h
        exact ⟨e0, rfl, rfl, rfl, (fun h => by cases h), rfl⟩
  · have : m.σ s = some (some e) := by simpa [frz, hs] using h
    exact ⟨e, this, rfl, rfl, id, rfl⟩

theorem frz_ok {F : Fm} (hI : Inv F m) (S : List Nat) : Inv F (frz m S) ∧ Loc S m (frz m S) := by
  refine turn hI S m.w _ rfl rfl rfl (Nat.le_refl _) (fun _ _ _ => rfl) (fun s hs => by simp [hs]) (fun s hs x hx => ?_) (fun s hs e' g h1 h2 => ?_) (fun s hs e' g c h1 h2 => ?_)
  · refine ⟨x.map fun e => { e with mu := false }, by simp [hs, hx], fun e' he => ?_⟩
    cases x with
    | none => cases he
    | some e => simp only [Option.map_some, Option.some.injEq] at he; subst he; exact ⟨e, rfl, rfl, rfl⟩
  · obtain ⟨e0, k1, k2, k3, k4, k5⟩ := frz_some (m := m) (S := S) (s := s) (by simpa [frz] using h1)
    replace h2 := Ent.has_eq k3 k5 h2
    refine .inl ⟨s, hs, e0, k1, h2, k4, fun s1 hs1 e1 h3 h4 => ?_⟩
    obtain ⟨e0', j1, j2, j3, j4, j5⟩ := frz_some (m := m) (S := S) (s := s1) (by simpa [frz] using h3)
    exact hI.inj s1 s e0' e0 g j1 k1 (Ent.has_eq j3 j5 h4) h2
  · obtain ⟨e0, k1, k2, k3, k4, k5⟩ := frz_some (m := m) (S := S) (s := s) (by simpa [frz] using h1)
    rw [k5]
    exact hI.wf s e0 g c k1 (by rw [← k3]; exact h2)

theorem frz_holds {F : Fm} (hI : Inv F m) {S : List Nat} {s : Nat} (hs : s ∈ S) {ob : Ob} (h : Holds m s ob) : Holds (frz m S) s { ob with frz := true } := by
  have hL := (frz_ok hI S).2
  obtain ⟨e, h1, h2, h3, h4⟩ := h
  refine ⟨{ e with mu := false }, by rw [frz_in hs h1]; rfl, h2, rfl, ?_⟩
  cases hb : e.blk with
  | none => rw [hb] at h4; exact h4
  | some p =>
    obtain ⟨g, cap⟩ := p
    rw [hb] at h4
    have := Row.ext hL.toExt h4.1 rfl
    exact ⟨⟨this.cells, this.len, this.max, this.pos, this.sz⟩, h4.2.ext hL.toExt rfl fun _ _ => rfl⟩
theorem frz_keeps {F : Fm} (hI : Inv F m) {S : List Nat} {s : Nat} {ob : Ob} (h : Holds m s ob) (hS : s ∉ S) : Holds (frz m S) s ob := Holds.loc hI (frz_ok hI S).2 hS h

theorem not_no_has {F : Fm} (hI : Inv F m) {s : Nat} {e : Ent} {g : Nat} (he : m.σ s = some (some e)) (hb : e.has g) (hm : e.mu = false) : ¬ m.no g := by
  rintro (h | ⟨s', e', h1, h2, h3⟩)
  · exact (hI.at_ s e g he hb).2.1 h
  · have := hI.inj s s' e e' g he h1 hb h3
    subst this
    rw [he] at h1
    injection h1 with h1
    injection h1 with h1
    subst h1
    rw [hm] at h2
    cases h2

theorem not_no_of_frozen {F : Fm} (hI : Inv F m) {s : Nat} {e : Ent} {g cap : Nat} (he : m.σ s = some (some e)) (hb : e.blk = some (g, cap)) (hm : e.mu = false) : ¬ m.no g := not_no_has hI he (Ent.has_blk hb) hm

/-- as plain data: the objects that are frozen for it -/
def pure1 (sto : Sto) : DV → Option (DV × List Nat)
  | .lit v => some (.lit v, [])
  | .sl xs => some (.sl xs, [])
  | .own s off len => match sto.get s with
    | some ob => if ob.arr = true ∧ off + len ≤ ob.els.length then some (.sl ((ob.els.drop off).take len), [s]) else none
    | none => none
  | _ => none
def pureL (sto : Sto) : List DV → Option (List DV × List Nat)
  | [] => some ([], [])
  | d :: l => match pure1 sto d, pureL sto l with | some (a, u), some (b, v) => some (a :: b, u ++ v) | _, _ => none

/-- what freezing does to what is known -/
def frzU (sto : Sto) : List Nat → List (Nat × Option Ob)
  | [] => []
  | s :: l => match sto.get s with
    | some ob => (s, some { ob with frz := true }) :: frzU sto l
    | none => frzU sto l
theorem frzU_upd {F : Fm} (hI : Inv F m) {S l : List Nat} (hl : ∀ s ∈ l, s ∈ S) (hH : HoldsAll m sto l) : ∀ p ∈ frzU sto l, Upd (frz m S) p := by
  induction l with
  | nil => intro p hp; cases hp
  | cons s l ih =>
    intro p hp
    unfold frzU at hp
    have ih := ih (fun s h => hl s (List.mem_cons_of_mem _ h)) (fun s h => hH s (List.mem_cons_of_mem _ h))
    split at hp
    · rename_i ob hob
      rcases List.mem_cons.1 hp with rfl | hp
      · exact frz_holds hI (hl s (by simp)) (hH s (by simp) ob hob)
      · exact ih p hp
    · exact ih p hp

theorem pure1_ok {F : Fm} (hI : Inv F m) {c c' : DV} {us : List Nat} (h : pure1 sto c = some (c', us)) (hS : HoldsAll m sto us) {S : List Nat} (hsub : ∀ s ∈ us, s ∈ S) {u : Value} (hr : Rep m u c) :
    u.oneCell' = true ∧ PRep m.w (frz m S).no u c' := by
  have hE := (frz_ok hI S).2.toExt
  cases c with
  | lit v =>
    unfold pure1 at h
    dsimp only at h
    injection h with h
    injection h with h1 h2
    subst h1
    rw [hr.lit_inv]
    exact ⟨hr.lit_one, .lit v hr.lit_one⟩
  | sl xs =>
    unfold pure1 at h
    injection h with h
    injection h with h1 h2
    subst h1
    exact ⟨prep_one hr.sl_inv, hr.sl_inv.ext hE.size hE.keep⟩
  | own s off len =>
    unfold pure1 at h
    dsimp only at h
    split at h
    · rename_i ob hob
      by_cases hc : ob.arr = true ∧ off + len ≤ ob.els.length
      · rw [if_pos hc] at h
        injection h with h
        injection h with h1 h2
        subst h1
        obtain ⟨ha, hl⟩ := hc
        have hin : s ∈ us := by rw [← h2]; simp
        obtain ⟨e, k1, k2, k3, k6⟩ := own_get hr (hS s hin ob hob)
        rcases k6 with ⟨g, cap, k6, rfl, k7, k8⟩ | ⟨k6, rfl, rfl, rfl, k7, k8⟩
        · refine ⟨rfl, ?_⟩
          have hno : ¬ (frz m S).no g := not_no_of_frozen (frz_ok hI S).1 (s := s) (e := { e with mu := false }) (cap := cap) (by rw [frz_in (hsub s hin) k1]; rfl) k6 rfl
          refine prep_of_row k8 ha hno (fun k hk => ?_) hl
          rcases hk with hk | ⟨s', e', h1, h2, h3⟩
          · exact .inl hk
          · obtain ⟨e0, j1, j2, j3, j4, j5⟩ := frz_some h1
            exact .inr ⟨s', e0, j1, j4 h2, Ent.has_eq j3 j5 h3⟩
        · refine ⟨rfl, ?_⟩
          rw [k7]
          exact .nil _ _ (Nat.zero_le _)
      · rw [if_neg hc] at h; cases h
    · cases h
  | _ => unfold pure1 at h; cases h

theorem pureL_ok {F : Fm} (hI : Inv F m) {cs cs' : List DV} {us : List Nat} (h : pureL sto cs = some (cs', us)) (hS : HoldsAll m sto us) {S : List Nat} (hsub : ∀ s ∈ us, s ∈ S) :
    cs'.length = cs.length ∧ ∀ (i : Nat) c u, cs[i]? = some c → Rep m u c → u.oneCell' = true ∧ ∀ c', cs'[i]? = some c' → PRep m.w (frz m S).no u c' := by
  induction cs generalizing cs' us with
  | nil =>
    unfold pureL at h
    injection h with h
    injection h with h1 h2
    subst h1
    exact ⟨rfl, fun i c u hc => by simp at hc⟩
  | cons d l ih =>
    unfold pureL at h
    split at h
    · rename_i a u b v ha hb
      injection h with h
      injection h with h1 h2
      subst h1
      subst h2
      obtain ⟨i1, i2⟩ := ih hb (fun s hs => hS s (List.mem_append_right _ hs)) fun s hs => hsub s (List.mem_append_right _ hs)
      refine ⟨by simp [i1], fun i c x hc hx => ?_⟩
      cases i with
      | zero =>
        simp only [List.getElem?_cons_zero, Option.some.injEq] at hc
        subst hc
        obtain ⟨k1, k2⟩ := pure1_ok hI ha (fun s hs => hS s (List.mem_append_left _ hs)) (fun s hs => hsub s (List.mem_append_left _ hs)) hx
        exact ⟨k1, fun c' hc' => by simp only [List.getElem?_cons_zero, Option.some.injEq] at hc'; exact hc' ▸ k2⟩
      | succ i =>
        obtain ⟨k1, k2⟩ := i2 i c x (by simpa using hc) hx
        exact ⟨k1, fun c' hc' => k2 c' (by simpa using hc')⟩
    · cases h

/-- freezing ahead of an operation -/
theorem Ran.after {F : Fm} {S : List Nat} {d : DV} {us vs : List (Nat × Option Ob)} (hI : Inv F m) (h : Ran P F o a (frz m S) d us) (hS : ∀ s ∈ S, s ∈ vs.map (·.1)) (hv : ∀ p ∈ vs, Upd (frz m S) p) (hd : ∀ p ∈ vs, p.1 ∉ us.map (·.1)) : Ran P F o a m d (us ++ vs) := by
  obtain ⟨v, m', h1, h2, h3, h4, h5⟩ := h
  obtain ⟨hI1, hL1⟩ := frz_ok hI S
  have hL := Loc.trans hL1 h3 fun s e g he hb hg hs => by
    obtain ⟨e0, k1, k2, k3, _, k5⟩ := frz_some he
    exact ⟨s, e0, k1, Ent.has_eq k3 k5 hb, hs⟩
  refine ⟨v, m', h1, h2, ⟨hL.toExt, fun s hs => hL.same s fun h => hs ?_, fun k hk hn => hL.blk k hk fun s e he hb h => hn s e he hb ?_⟩, h4, fun p hp => ?_⟩
  · rw [List.map_append, List.mem_append]
    rcases List.mem_append.1 h with h | h
    · exact .inr (hS s h)
    · exact .inl h
  · rw [List.map_append, List.mem_append]
    rcases List.mem_append.1 h with h | h
    · exact .inr (hS s h)
    · exact .inl h
  · rcases List.mem_append.1 hp with hp | hp
    · exact h5 p hp
    · have hu := hv p hp
      have hne := hd p hp
      unfold Upd at hu ⊢
      cases hq : p.2 with
      | some ob => rw [hq] at hu; exact Holds.loc hI1 h3 hne hu
      | none => rw [hq] at hu; dsimp only at hu ⊢; rw [h3.same p.1 hne]; exact hu

theorem frzU_names {l : List Nat} (h : ∀ s ∈ l, (sto.get s).isSome = true) : (frzU sto l).map (·.1) = l := by
  induction l with
  | nil => rfl
  | cons s l ih =>
    obtain ⟨ob, hob⟩ := Option.isSome_iff_exists.1 (h s (by simp))
    simp only [frzU, hob, List.map_cons, ih fun s hs => h s (by simp [hs])]
theorem pure1_some {c c' : DV} {us : List Nat} (h : pure1 sto c = some (c', us)) : ∀ s ∈ us, (sto.get s).isSome = true := by
  unfold pure1 at h
  split at h
  · injection h with h; injection h with _ h; subst h; intro s hs; cases hs
  · injection h with h; injection h with _ h; subst h; intro s hs; cases hs
  · split at h
    · rename_i ob hob
      split at h
      · injection h with h; injection h with _ h; subst h
        intro s hs
        obtain rfl := List.mem_singleton.1 hs
        rw [hob]; rfl
      · cases h
    · cases h
  · cases h
theorem pureL_some {cs cs' : List DV} {us : List Nat} (h : pureL sto cs = some (cs', us)) : ∀ s ∈ us, (sto.get s).isSome = true := by
  induction cs generalizing cs' us with
  | nil => unfold pureL at h; injection h with h; injection h with _ h; subst h; intro s hs; cases hs
  | cons d l ih =>
    unfold pureL at h
    split at h
    · rename_i a u b v ha hb
      injection h with h
      injection h with _ h
      subst h
      intro s hs
      rcases List.mem_append.1 hs with hs | hs
      · exact pure1_some ha s hs
      · exact ih hb s hs
    · cases h

/-- a store into an array -/
theorem r_storeA {t : Nat} {p x : Operand} {td : TyD} {s i j : Nat} {ob : Ob} {y cs cs' : List DV} {us : List Nat} (ho : o.op = .store t p x) (ht : TyOk P t td) (hp : opd env p = .ptr s i j) (hs : sto.get s = some ob) (hf : ob.frz = false) (ha : ob.arr = true) (hc : cellsD td (opd env x) = some cs) (hpu : pureL sto cs = some (cs', us))
    (hn : us.contains s = false) (hy : ob.els[i]? = some y) (hj : j + cs.length ≤ y.length) : OpOK P o env sto nxt ⟨.any, (s, some { ob with els := ob.els.set i (setCells y j cs') }) :: frzU sto us, s :: us, 0⟩ := .ran fun F m a hI hE hH _ => by
  have h1 := hE p (by simp [ho, Op.operands])
  have h2 := hE x (by simp [ho, Op.operands])
  rw [hp] at h1
  have hns : s ∉ us := fun h => by simp [h] at hn
  have hHu : HoldsAll m sto us := fun s hs' => hH s (List.mem_cons_of_mem _ hs')
  obtain ⟨hIf, hLf⟩ := frz_ok hI us
  obtain ⟨pl, pk⟩ := pureL_ok hI hpu hHu (S := us) fun _ h => h
  have hSf : Holds (frz m us) s ob := Holds.loc hI hLf hns (hH s (by simp) ob hs)
  have h1f : Rep (frz m us) (a.eval p) (.ptr s i j) := h1.ext hLf.toExt
  obtain ⟨e, g, cap, k1, k2, k3, k4, k5, k6⟩ := ptr_get h1f hSf
  obtain ⟨vs, q1, q2, q3, q4, q5⟩ := cells_val h2 hc fun i c u hc hr => (pk i c u hc hr).1
  obtain ⟨cur, T, c1, c2, c3⟩ := k6.cells
  have hyl := k6.sz i y hy
  have hi : i < ob.els.length := by
    rcases Nat.lt_or_ge i ob.els.length with h' | h'
    · exact h'
    · rw [List.getElem?_eq_none h'] at hy; cases hy
  have hfit : i * ob.esz + j + vs.length ≤ cur.size := by
    have : (i + 1) * ob.esz ≤ cap * ob.esz := Nat.mul_le_mul_right _ (by have := k6.len; omega)
    rw [Nat.succ_mul] at this
    omega
  have hrun := store_run (m := frz m us) ht q1 q2 q4 c1 hfit
  have hT := turn_at hIf k1 ((frz m us).w.setRow g (cur.toList.take (i * ob.esz + j) ++ vs ++ cur.toList.drop (i * ob.esz + j + vs.length)).toArray) true (fun _ => by rw [k3, hf]; rfl) rfl rfl rfl (by simp) (fun k hk h => setRow_other _ g k _ fun hgk => by
    subst hgk
    have := h _ k4
    rw [k3, hf] at this
    cases this)
  have hnames := frzU_names (sto := sto) (l := us) (pureL_some hpu)
  refine Ran.after (S := us) (us := [(s, some { ob with els := ob.els.set i (setCells y j cs') })]) hI ⟨undef, _, .inr ⟨by simp [execOp, ho, k5, hrun], rfl⟩, hT.1, hT.2, .any _, fun p hp => ?_⟩ (fun s h => by rw [hnames]; exact h) (frzU_upd hI (fun _ h => h) hHu) (fun p hp h => ?_)
  · obtain rfl : p = (s, some { ob with els := ob.els.set i (setCells y j cs') }) := by simpa using hp
    have row := (k6.set (cs := cs') c1 hT.2.toExt hy (by omega) (by omega) (fun n u c hu hc' => ?_) (setRow_heap _ g cur _ T _ c1)).2
    · exact Holds.of (setE_same _ _ _) k2 (by rw [hf]; rfl) k4 row (row.deep ha _)
    have hlt : n < cs.length := by
      rcases Nat.lt_or_ge n cs'.length with h' | h'
      · omega
      · rw [List.getElem?_eq_none h'] at hc'; cases hc'
    obtain ⟨z1, z2⟩ := pk n _ u (List.getElem?_eq_getElem hlt) (q5 n u _ hu (List.getElem?_eq_getElem hlt))
    refine ⟨z1, ?_⟩
    rw [ha]
    exact (z2 c hc').ext hT.2.size hT.2.keep
  · have : p.1 ∈ us := by rw [← hnames]; exact List.mem_map_of_mem hp
    obtain h : p.1 = s := by simpa using h
    exact hns (h ▸ this)
end
end Go.Proofs.Ythpnlnjdmlbnaaa
/- Each operation does on memory what it does on data: slice literals, append. No condition. -/
namespace Go.Proofs.Ythpnlnjdmlbnaaa
open Go.RowKit
set_option linter.unusedSimpArgs false
set_option linter.unusedVariables false

section
variable {P : Program} {F : Fm} {m : Mem} {a : Act} {env : Env} {sto : Sto} {nxt : Nat} {o : Oper}

def chunks (len sz : Nat) (cs : List DV) : List (List DV) := (List.range len).map fun i => (cs.drop (i * sz)).take sz
def zeros (td : TyD) (len : Nat) : List DV := (List.range (len * td.size)).map fun j => td.zero.getD (j % td.size) .any

theorem fillD_len {z : Nat} : ∀ {ps : List (Nat × DV)} {cs cells : List DV} {r : List Nat}, fillD sto (fun i => some (i * z, z)) cs ps = some (cells, r) → cells.length = cs.length := by
  intro ps
  induction ps with
  | nil => intro cs cells r h; simp only [fillD, Option.some.injEq, Prod.mk.injEq] at h; rw [h.1]
  | cons p ps ih =>
    intro cs cells r h
    obtain ⟨i, x⟩ := p
    simp only [fillD] at h
    split at h
    · cases h
    · split at h
      · split at h
        · rename_i hf
          simp only [Option.some.injEq, Prod.mk.injEq] at h
          obtain ⟨rfl, rfl⟩ := h
          rw [ih hf, setCells_length]
        · cases h
      · cases h
theorem r_lit {t e len : Nat} {parts : Array (Nat × Operand)} {l : List (Nat × Operand)} {tt td : TyD} {cells cells' : List DV} {r us : List Nat} (ho : o.op = .buildSlice t len parts) (hp : parts = l.toArray) (ht : TyOk P t tt) (hk : tt.k = .slice e) (he : TyOk P e td)
    (hz : td.zero.length = td.size) (h0 : 0 < td.size) (h1 : 0 < len) (hm : len * td.size ≤ 16777216)
    (h : fillD sto (fun i => some (i * td.size, td.size)) (zeros td len) (l.map fun p => (p.1, opd env p.2)) = some (cells, r)) (hpu : pureL sto cells = some (cells', us)) :
    OpOK P o env sto nxt ⟨.own nxt 0 len, (nxt, some ⟨td.size, true, false, chunks len td.size cells'⟩) :: frzU sto us, r ++ us, 1⟩ := .ran fun F m a hI hE hH hF => by
  subst hp
  obtain ⟨i, z, z1, z2, z3, z4, z5, z6, _⟩ := ty_info he
  have hu := ht.kind
  rw [hk] at hu
  have hsz : z.cells.size = td.size := by rw [← hz, ← z5]; simp
  have hHr : HoldsAll m sto r := fun s hs => hH s (List.mem_append_left _ hs)
  have hHu : HoldsAll m sto us := fun s hs => hH s (List.mem_append_right _ hs)
  obtain ⟨hIf, hLf⟩ := frz_ok hI us
  have hzr : Reps m (madeCells z.cells (len * td.size)).toList (zeros td len) := by
    refine ⟨by rw [Array.length_toList, size_madeCells]; simp [zeros], fun j v d hv hd => ?_⟩
    have hj : j < len * td.size := by
      rcases Nat.lt_or_ge j (len * td.size) with h' | h'
      · exact h'
      · rw [List.getElem?_eq_none (by simpa [zeros] using h')] at hd; cases hd
    have hv' : (madeCells z.cells (len * td.size))[j]? = some v := by simpa using hv
    rw [madeCells_get (by omega) hj, hsz] at hv'
    unfold zeros at hd
    rw [List.getElem?_map, List.getElem?_range hj] at hd
    injection hd with hd
    have hv2 : z.cells.toList[j % td.size]? = some v := by simpa using hv'
    rw [← hd]
    dsimp only
    rw [← z5, List.getD_eq_getElem?_getD, List.getElem?_map, hv2]
    exact .pure (.lit v (z6 v (by simpa using List.mem_of_getElem? hv2)))
  obtain ⟨vs, k1, k2⟩ := fill_run (parts := l) (fun p hp => hE p.2 (by simp only [ho, Op.operands]; simp; exact ⟨p.1, hp⟩)) hzr h hHr
  rw [Array.toArray_toList] at k1
  have hcl : cells.length = len * td.size := by
    rw [fillD_len h]
    simp [zeros]
  have hrun := run_buildSlice (P := P) m.w t e len (l.map fun p => (p.1, a.eval p.2)).toArray vs.toArray i z hu z1 z4 (by rw [z2]; omega) (by rw [z2]; have := Nat.mul_pos h1 h0; omega) (by
    rw [z2]
    have : (Array.range (len * td.size)).map (fun x => z.cells[x % z.cells.size]!) = madeCells z.cells (len * td.size) := rfl
    rw [this]
    simpa using k1)
  have hmx : len ≤ maxLen := by
    have : len ≤ len * td.size := Nat.le_mul_of_pos_right _ h0
    unfold maxLen
    omega
  obtain ⟨pl, pk⟩ := pureL_ok hI hpu hHu (S := us) fun _ h => h
  have hnames := frzU_names (sto := sto) (l := us) (pureL_some hpu)
  have hnf : m.σ nxt = none := hF nxt (Nat.le_refl _) (by show nxt < nxt + 1; omega)
  have hnu : nxt ∉ us := fun hin => by
    obtain ⟨ob, hob⟩ := Option.isSome_iff_exists.1 (pureL_some hpu nxt hin)
    obtain ⟨e', he', _⟩ := hHu nxt hin ob hob
    rw [hnf] at he'; cases he'
  refine Ran.after (S := us) (us := [(nxt, some ⟨td.size, true, false, chunks len td.size cells'⟩)]) hI ?_ (fun s h => by rw [hnames]; exact h) (frzU_upd hI (fun _ h => h) hHu) (fun p hp h => ?_)
  · refine Ran.new hIf (by simpa [frz, hnu] using hnf) (cur := vs.toArray) (T := e) (v := .slice (some ⟨m.w.heap.size, 0, none⟩) len len) (cap := len) ?_ (fun m' h => ?_) rfl (fun m' he' hg => ?_) (.inl rfl)
    · simp only [execOp, ho]
      rw [show (l.toArray.map fun (x : Nat × Operand) => match x with | (i, x) => (i, a.eval x)) = (l.map fun p => (p.1, a.eval p.2)).toArray from by simp]
      rw [Sem.run_bind]
      show ((Instr.buildSlice t len _).run P m.w).andThen _ = _
      rw [hrun]
      rfl
    · have := Rep.own (m := m') (off := 0) (len := len) h rfl (by omega) hmx
      simpa [frz] using this
    · refine row_of_flat he' (ds := cells') (by rw [k2.1, pl]) (fun j v d hv hd => ?_) hg (by rw [pl, hcl]) h0 hmx (by simp [chunks]) (fun j x hx => ?_)
      · have hlt : j < cells.length := by
          rcases Nat.lt_or_ge j cells'.length with h' | h'
          · omega
          · rw [List.getElem?_eq_none h'] at hd; cases hd
        obtain ⟨q1, q2⟩ := pk j _ v (List.getElem?_eq_getElem hlt) (k2.2 j v _ hv (List.getElem?_eq_getElem hlt))
        exact ⟨q1, q2 d hd⟩
      · have hj : j < len := by
          rcases Nat.lt_or_ge j len with h' | h'
          · exact h'
          · rw [List.getElem?_eq_none (by simpa [chunks] using h')] at hx; cases hx
        unfold chunks at hx
        rw [List.getElem?_map, List.getElem?_range hj] at hx
        injection hx with hx
        subst hx
        have hle : (j + 1) * td.size ≤ len * td.size := Nat.mul_le_mul_right _ hj
        rw [Nat.succ_mul] at hle
        refine ⟨by rw [List.length_take, List.length_drop, pl, hcl]; omega, fun q d hd => ?_⟩
        rw [List.getElem?_take] at hd
        split at hd
        · rwa [List.getElem?_drop] at hd
        · cases hd
  · have : p.1 ∈ us := by rw [← hnames]; exact List.mem_map_of_mem hp
    obtain h : p.1 = nxt := by simpa using h
    exact hnu (h ▸ this)

/-- what a slice holds -/
def elsF (sto : Sto) : DV → Option (List (List DV) × List Nat)
  | .lit (.slice none 0 0) => some ([], [])
  | .sl xs => some (xs, [])
  | .own s off len => match sto.get s with
    | some ob => if ob.arr = true ∧ off + len ≤ ob.els.length then some ((ob.els.drop off).take len, [s]) else none
    | none => none
  | _ => none

/-- the values of a slice's cells -/
structure VCells (m : Mem) (v : Value) (sz : Nat) (ys : List (List DV)) : Prop where
  ex : ∃ ad c, v = .slice ad ys.length c ∧ (ys = [] ∨ ∃ b off, ∃ news : List Value, ad = some ⟨b, off, none⟩ ∧ news.length = ys.length * sz ∧ (∀ j u, news[j]? = some u → m.w.cell? ((⟨b, off, none⟩ : Addr).add j) = some u) ∧ (∀ u ∈ news, u.oneCell' = true) ∧
    ∀ (i : Nat) y (j : Nat) d, ys[i]? = some y → y[j]? = some d → ∃ u, news[i * sz + j]? = some u ∧ PRep m.w m.no u d)

theorem vcells_mk {b off c sz : Nat} {ys : List (List DV)} (h0 : 0 < sz) (hsz : ∀ y ∈ ys, y.length = sz) (f : Nat → Nat → Value) (h1 : ∀ (i : Nat) y (j : Nat) d, ys[i]? = some y → y[j]? = some d → m.w.cell? ⟨b, off + i * sz + j, none⟩ = some (f i j) ∧ PRep m.w m.no (f i j) d) : VCells m (.slice (some ⟨b, off, none⟩) ys.length c) sz ys := by
  have at_ : ∀ p, p < ys.length * sz → p / sz < ys.length ∧ p % sz < sz ∧ p / sz * sz + p % sz = p := fun p hp =>
    ⟨Nat.div_lt_of_lt_mul (by rw [Nat.mul_comm]; exact hp), Nat.mod_lt _ h0, Nat.div_add_mod' p sz⟩
  have get : ∀ p, p < ys.length * sz → ∃ y d, ys[p / sz]? = some y ∧ y[p % sz]? = some d := fun p hp => by
    obtain ⟨k1, k2, _⟩ := at_ p hp
    have hy := hsz ys[p / sz] (List.getElem_mem k1)
    exact ⟨_, _, List.getElem?_eq_getElem k1, List.getElem?_eq_getElem (by omega)⟩
  refine ⟨_, c, rfl, .inr ⟨b, off, (List.range (ys.length * sz)).map fun p => f (p / sz) (p % sz), rfl, by simp, fun p u hu => ?_, fun u hu => ?_, fun i y j d hy hd => ?_⟩⟩
  · have hp : p < ys.length * sz := by
      rcases Nat.lt_or_ge p (ys.length * sz) with h' | h'
      · exact h'
      · rw [List.getElem?_eq_none (by simpa using h')] at hu; cases hu
    rw [List.getElem?_map, List.getElem?_range hp] at hu
    injection hu with hu
    obtain ⟨y, d, hy, hd⟩ := get p hp
    have := (h1 _ y _ d hy hd).1
    rw [show off + p / sz * sz + p % sz = off + p by have := (at_ p hp).2.2; omega] at this
    rw [add_lit, this, ← hu]
  · obtain ⟨p, hp, rfl⟩ := List.mem_map.1 hu
    obtain ⟨y, d, hy, hd⟩ := get p (List.mem_range.1 hp)
    exact prep_one (h1 _ y _ d hy hd).2
  · have hi : i < ys.length := by
      rcases Nat.lt_or_ge i ys.length with h' | h'
      · exact h'
      · rw [List.getElem?_eq_none h'] at hy; cases hy
    have hj : j < sz := by
      rw [← hsz y (List.mem_of_getElem? hy)]
      rcases Nat.lt_or_ge j y.length with h' | h'
      · exact h'
      · rw [List.getElem?_eq_none h'] at hd; cases hd
    have hle : (i + 1) * sz ≤ ys.length * sz := Nat.mul_le_mul_right _ hi
    rw [Nat.succ_mul] at hle
    refine ⟨f i j, ?_, (h1 i y j d hy hd).2⟩
    rw [List.getElem?_map, List.getElem?_range (by omega)]
    have e1 : (i * sz + j) / sz = i := by rw [Nat.mul_comm, Nat.mul_add_div h0, Nat.div_eq_of_lt hj, Nat.add_zero]
    have e2 : (i * sz + j) % sz = j := by rw [Nat.mul_comm, Nat.mul_add_mod, Nat.mod_eq_of_lt hj]
    rw [Option.map_some, e1, e2]

theorem els_vals {v : Value} {x : DV} {sz : Nat} (h0 : 0 < sz) (hr : Rep m v x) {ys : List (List DV)} {rs : List Nat} (h : elsF sto x = some (ys, rs)) (hH : HoldsAll m sto rs) (hsz : ∀ y ∈ ys, y.length = sz) : VCells m v sz ys := by
  unfold elsF at h
  split at h
  · injection h with h
    injection h with h1 h2
    subst h1
    rw [hr.lit_inv]
    exact ⟨none, 0, rfl, .inl rfl⟩
  · injection h with h
    injection h with h1 h2
    subst h1
    rename_i xs
    obtain ⟨ad, cap, rfl, k1, k2, k3⟩ := hr.sl_inv.sl_inv
    by_cases hx : xs = []
    · exact ⟨ad, cap, rfl, .inl hx⟩
    · obtain ⟨b, off, sz', f, rfl, q1, q2, q3, q4, q5, q6⟩ := k3 hx
      have : sz' = sz := by
        cases xs with
        | nil => exact absurd rfl hx
        | cons y ys => rw [← q4 0 y rfl]; exact hsz y (by simp)
      subst this
      exact vcells_mk h0 hsz f fun i y j d hy hd => ⟨q5 i y j d hy hd, q6 i y j d hy hd⟩
  · rename_i s off len
    split at h
    · rename_i ob hob
      split at h
      · rename_i hc
        obtain ⟨ha, hl⟩ := hc
        injection h with h
        injection h with h1 h2
        subst h1
        subst h2
        have hlen : ((ob.els.drop off).take len).length = len := by rw [List.length_take, List.length_drop]; omega
        obtain ⟨e, k1, k2, k3, k6⟩ := own_get hr (hH s (by simp) ob hob)
        rcases k6 with ⟨g, cap, k6, rfl, k7, k8⟩ | ⟨k6, rfl, rfl, rfl, k7, k8⟩
        · by_cases hy : (ob.els.drop off).take len = []
          · refine ⟨_, _, by rw [hlen], .inl hy⟩
          · have hget : ∀ (i : Nat) x, ((ob.els.drop off).take len)[i]? = some x → ob.els[off + i]? = some x := fun i x hx => by
              rw [List.getElem?_take] at hx
              split at hx
              · rwa [List.getElem?_drop] at hx
              · cases hx
            have hez : ob.esz = sz := by
              cases hq : (ob.els.drop off).take len with
              | nil => exact absurd hq hy
              | cons y ys =>
                have h1 := hget 0 y (by rw [hq]; rfl)
                rw [← k8.sz _ y h1]
                exact hsz y (by rw [hq]; simp)
            obtain ⟨cur, T, c1, c2, c3⟩ := k8.cells
            have key := vcells_mk (m := m) (b := g) (off := off * ob.esz) (c := cap - off) h0 hsz (fun i j => cur.getD ((off + i) * ob.esz + j) undef) fun i y j d hy hd => by
              obtain ⟨u, hu, hr⟩ := c3 _ y j d (hget i y hy) hd
              have e1 : off * ob.esz + i * sz + j = (off + i) * ob.esz + j := by rw [Nat.add_mul, hez]
              rw [cell_of_row m.w g _ cur T (0, 0) c1, e1, hu, Array.getD_eq_getD_getElem?, hu]
              refine ⟨rfl, ?_⟩
              have := hr.2
              rw [ha] at this
              exact this
            rw [hlen] at key
            exact key
        · refine ⟨none, 0, by rw [hlen], .inl ?_⟩
          rw [k7]; rfl
      · cases h
    · cases h
  · cases h

theorem run_append_none (w : World) (t ty e : TypeId) (i : TypeInfo) (ht : P.underlying t = some (.slice e)) (hi : P.info? e = some i) (b : Option Addr) (sLen sCap : Nat) (hc : sLen ≤ sCap) (ad : Option Addr) (c : Nat) :
    (Builtin.append_ #[t, t] ty #[.slice b sLen sCap, .slice ad 0 c]).run P w = .ok (.slice b sLen sCap) w := by
  cases ad <;> cases b <;> simp [Builtin.append_, run_underlying ht, sizeOf, typeInfo, hi, Builtin.lenOf, Builtin.firstCells, hc, storeCells, loadCells, loadCellsFrom]
theorem run_append_room' (w : World) (t ty e T : TypeId) (i : TypeInfo) (ht : P.underlying t = some (.slice e)) (hi : P.info? e = some i)
    (g sLen sCap : Nat) (cur : Array Value) (hg : w.heap[g]? = some (.cells cur T (0, 0)))
    (a : Addr) (m c : Nat) (news : List Value) (hl : news.length = m * i.size) (hnews : ∀ j u, news[j]? = some u → w.cell? (a.add j) = some u) (h1 : ∀ u ∈ news, u.oneCell' = true)
    (hroom : sLen + m ≤ sCap) (hfit : sLen * i.size + news.length ≤ cur.size) :
    (Builtin.append_ #[t, t] ty #[.slice (some ⟨g, 0, none⟩) sLen sCap, .slice (some a) m c]).run P w =
      .ok (.slice (some ⟨g, 0, none⟩) (sLen + m) sCap) (w.setRow g (cur.toList.take (sLen * i.size) ++ news ++ cur.toList.drop (sLen * i.size + news.length)).toArray) := by
  have hf := run_firstCells_some (P := P) w i.size m a m c news hl hnews
  have hst := run_storeCells_at P g (sLen * i.size) T news 0 cur w hg (by simpa using hfit) h1
  simp only [Nat.add_zero] at hst
  simp [Builtin.append_, run_underlying ht, sizeOf, typeInfo, hi, Builtin.lenOf, hroom, hf, add_lit, hst]

/-- rows out of two parts -/
theorem row_twoR {m' : Mem} {ar : Bool} {g cap T sz : Nat} {cur : Array Value} (hg : m'.w.heap[g]? = some (.cells cur T (0, 0))) (hs : cur.size = cap * sz) (hm : cap ≤ maxLen) (h0 : 0 < sz) {xs ys : List (List DV)} (hc : xs.length + ys.length ≤ cap)
    (hx : ∀ (i : Nat) x, xs[i]? = some x → x.length = sz ∧ ∀ (j : Nat) d, x[j]? = some d → ∃ u, cur[i * sz + j]? = some u ∧ CRep m' ar u d)
    (hy : ∀ (i : Nat) y, ys[i]? = some y → y.length = sz ∧ ∀ (j : Nat) d, y[j]? = some d → ∃ u, cur[(xs.length + i) * sz + j]? = some u ∧ CRep m' ar u d) : Row m' ⟨sz, ar, false, xs ++ ys⟩ g cap := by
  have part : ∀ (i : Nat) z, (xs ++ ys)[i]? = some z → z.length = sz ∧ ∀ (j : Nat) d, z[j]? = some d → ∃ u, cur[i * sz + j]? = some u ∧ CRep m' ar u d := fun i z hz => by
    by_cases hi : i < xs.length
    · rw [List.getElem?_append_left hi] at hz
      exact hx i z hz
    · rw [List.getElem?_append_right (by omega)] at hz
      have := hy _ z hz
      rwa [show xs.length + (i - xs.length) = i by omega] at this
  exact ⟨⟨cur, T, hg, hs, fun i x j d hx hd => (part i x hx).2 j d hd⟩, by simpa using hc, hm, h0, fun i x hx => (part i x hx).1⟩

theorem row_two {m' : Mem} {g cap T sz : Nat} {cur : Array Value} (hg : m'.w.heap[g]? = some (.cells cur T (0, 0))) (hs : cur.size = cap * sz) (hm : cap ≤ maxLen) (h0 : 0 < sz) {xs ys : List (List DV)} (hc : xs.length + ys.length ≤ cap)
    (hx : ∀ (i : Nat) x, xs[i]? = some x → x.length = sz ∧ ∀ (j : Nat) d, x[j]? = some d → ∃ u, cur[i * sz + j]? = some u ∧ CRep m' true u d)
    (hy : ∀ (i : Nat) y, ys[i]? = some y → y.length = sz ∧ ∀ (j : Nat) d, y[j]? = some d → ∃ u, cur[(xs.length + i) * sz + j]? = some u ∧ CRep m' true u d) : Row m' ⟨sz, true, false, xs ++ ys⟩ g cap := row_twoR hg hs hm h0 hc hx hy

theorem own_mem {w' : World} {M : Nat → Prop} {σ : Nat → Option (Option Ent)} {s : Nat} {e : Ent} {g cap len : Nat} (hσ : σ s = some (some e)) (hb : e.blk = some (g, cap)) (hl : len ≤ cap) (hm : cap ≤ maxLen) : Rep ⟨w', M, σ⟩ (.slice (some ⟨g, 0, none⟩) len cap) (.own s 0 len) := by
  have := Rep.own (m := ⟨w', M, σ⟩) (off := 0) (len := len) hσ hb (by omega) hm
  simpa using this
theorem app_exec {s x : Operand} {t : Nat} {u v r : Value} {w w' : World} (ho : o.op = .call ⟨.builtin .append, #[s, x], #[t, t]⟩) (hs : a.eval s = u) (hx : a.eval x = v) (h : (Builtin.append_ #[t, t] o.type #[u, v]).run P w = .ok r w') :
    (execOp a.eval o).run P w = .ok (.value r) w' := by
  simp [execOp, ho, resolve, invoke, builtin, hs, hx, h]

/-- append onto a slice that is nil -/
theorem r_appN {t e : Nat} {s x : Operand} {tt td : TyD} {ys : List (List DV)} {rs : List Nat} (ho : o.op = .call ⟨.builtin .append, #[s, x], #[t, t]⟩) (ht : TyOk P t tt) (hk : tt.k = .slice e) (he : TyOk P e td) (hs : opd env s = .lit (.slice none 0 0)) (hx : elsF sto (opd env x) = some (ys, rs))
    (hz : td.zero.length = td.size) (h0 : 0 < td.size) (hsz : ∀ y ∈ ys, y.length = td.size) (hb : ys.length * td.bytes ≤ 140737488355328) (h63 : ys.length ≤ maxLen) :
    OpOK P o env sto nxt ⟨.own nxt 0 ys.length, [(nxt, some ⟨td.size, true, false, ys⟩)], rs, 1⟩ := .ran fun F m a hI hE hH hF => by
  have h1 := hE s (by simp [ho, Op.operands, Call.operands])
  have h2 := hE x (by simp [ho, Op.operands, Call.operands])
  rw [hs] at h1
  have hu := ht.kind
  rw [hk] at hu
  obtain ⟨i, z, z1, z2, z3, z4, z5, z6, _⟩ := ty_info he
  have hzs : z.cells.size = td.size := by rw [← hz, ← z5]; simp
  have hnew := hF nxt (Nat.le_refl _) (by show nxt < nxt + 1; omega)
  obtain ⟨ad, c, hv, hcase⟩ := (els_vals h0 h2 hx hH hsz).ex
  rcases hcase with rfl | ⟨b, off, news, rfl, n1, n2, n3, n4⟩
  · have hrun := run_append_none (P := P) m.w t o.type e i hu z1 none 0 0 (Nat.le_refl _) ad c
    have hT := turn_new hI hnew m.w ⟨td.size, none, true, noI⟩ rfl rfl rfl (Nat.le_refl _) (fun _ _ => rfl) (fun g c h => by cases h)
    refine ⟨.slice none 0 0, ⟨m.w, m.M, setE m.σ nxt (some ⟨td.size, none, true, noI⟩)⟩, .inl (app_exec ho h1.lit_inv hv hrun), hT.1, hT.2, .ownNil (setE_same _ _ _) rfl, fun p hp => ?_⟩
    obtain rfl : p = (nxt, some ⟨td.size, true, false, []⟩) := by simpa using hp
    exact ⟨_, setE_same _ _ _, rfl, rfl, rfl, h0⟩
  · by_cases hy : ys = []
    · subst hy
      have hrun := run_append_none (P := P) m.w t o.type e i hu z1 none 0 0 (Nat.le_refl _) (some ⟨b, off, none⟩) c
      have hT := turn_new hI hnew m.w ⟨td.size, none, true, noI⟩ rfl rfl rfl (Nat.le_refl _) (fun _ _ => rfl) (fun g c h => by cases h)
      refine ⟨.slice none 0 0, ⟨m.w, m.M, setE m.σ nxt (some ⟨td.size, none, true, noI⟩)⟩, .inl (app_exec ho h1.lit_inv hv hrun), hT.1, hT.2, .ownNil (setE_same _ _ _) rfl, fun p hp => ?_⟩
      obtain rfl : p = (nxt, some ⟨td.size, true, false, []⟩) := by simpa using hp
      exact ⟨_, setE_same _ _ _, rfl, rfl, rfl, h0⟩
    · have hpos : 0 < ys.length := List.length_pos_iff.2 hy
      have h63' : (ys.length : Int) ≤ 9223372036854775807 := by unfold maxLen at h63; omega
      have hrun := run_append_nil (P := P) m.w t o.type e i z hu z1 z4 ⟨b, off, none⟩ ys.length c news (by rw [z2]; exact n1) n2 hpos h63' (by rw [z3]; omega)
      have hcap := grownCap_ge m.w ys.length 0 e
      have hmax := grownCap_le_maxLen m.w ys.length 0 e h63
      have hT := turn_new hI hnew (m.w.drew.alloc (.cells (news.toArray ++ Builtin.zeroCells z.cells (grownCap m.w ys.length 0 e - ys.length)) e)) ⟨td.size, some (m.w.heap.size, grownCap m.w ys.length 0 e), true, noI⟩ rfl rfl rfl (by simp) (fun k hk => heap_alloc_old m.w.drew _ (by simpa using hk)) (fun g c h => by
        injection h with h
        injection h with h1 h2
        subst h1
        exact ⟨Nat.le_refl _, by simp⟩)
      refine ⟨_, _, .inl (app_exec ho h1.lit_inv hv hrun), hT.1, hT.2, ?_, fun p hp => ?_⟩
      · exact own_mem (setE_same _ _ _) rfl (by omega) hmax
      · obtain rfl : p = (nxt, some ⟨td.size, true, false, ys⟩) := by simpa using hp
        suffices this : Row _ _ _ _ from Holds.of (setE_same _ _ _) rfl rfl rfl this (this.deep rfl _)
        have := row_two (m' := ⟨m.w.drew.alloc (.cells (news.toArray ++ Builtin.zeroCells z.cells (grownCap m.w ys.length 0 e - ys.length)) e), m.M, setE m.σ nxt (some ⟨td.size, some (m.w.heap.size, grownCap m.w ys.length 0 e), true, noI⟩)⟩) (xs := []) (ys := ys) (sz := td.size) (heap_alloc_new m.w.drew _) (by
          simp only [Array.size_append, List.size_toArray, size_zeroCells, hzs, n1, ← Nat.add_mul]
          congr 1
          omega) hmax h0 (by simpa using hcap) (fun i x hx => by simp at hx) (fun i y hy => ⟨hsz y (List.mem_of_getElem? hy), fun j d hd => by
          obtain ⟨u, hu, hp⟩ := n4 i y j d hy hd
          have hlt : i * td.size + j < news.length := by
            rcases Nat.lt_or_ge (i * td.size + j) news.length with h' | h'
            · exact h'
            · rw [List.getElem?_eq_none h'] at hu; cases hu
          refine ⟨u, by rw [List.length_nil, Nat.zero_add, Array.getElem?_append_left (by simpa using hlt)]; simpa using hu, prep_one hp, hp.ext hT.2.size hT.2.keep⟩⟩)
        exact this

/-- append onto an object's slice: what it does to memory -/
theorem app_raw {t e : Nat} {s x : Operand} {tt td : TyD} {len n c : Nat} {en : Ent} {ad : Option Addr} {news : List Value} (ho : o.op = .call ⟨.builtin .append, #[s, x], #[t, t]⟩) (ht : TyOk P t tt) (hk : tt.k = .slice e) (he : TyOk P e td)
    (hs : (∃ g cap, en.blk = some (g, cap) ∧ a.eval s = .slice (some ⟨g, 0, none⟩) len cap ∧ len ≤ cap ∧ cap ≤ maxLen ∧ ∃ cur T, m.w.heap[g]? = some (.cells cur T (0, 0)) ∧ cur.size = cap * td.size) ∨ (en.blk = none ∧ a.eval s = .slice none 0 0 ∧ len = 0))
    (hv : a.eval x = .slice ad n c) (hn : n = 0 ∨ ∃ b off, ad = some ⟨b, off, none⟩ ∧ news.length = n * td.size ∧ (∀ j u, news[j]? = some u → m.w.cell? ((⟨b, off, none⟩ : Addr).add j) = some u) ∧ ∀ u ∈ news, u.oneCell' = true)
    (hz : td.zero.length = td.size) (h0 : 0 < td.size) (hb : (len + n) * td.bytes ≤ 140737488355328) (h63 : len + n ≤ maxLen) :
    ∃ v w', (execOp a.eval o).run P m.w = .ok (.value v) w' ∧ w'.os = m.w.os ∧ w'.tape = m.w.tape ∧ w'.output = m.w.output ∧ m.w.heap.size ≤ w'.heap.size ∧ (∀ j, j < m.w.heap.size → (∀ c, en.blk ≠ some (j, c)) → w'.heap[j]? = m.w.heap[j]?) ∧
      ((v = .slice none 0 0 ∧ len = 0 ∧ n = 0) ∨ ∃ g' cap' cur' T', v = .slice (some ⟨g', 0, none⟩) (len + n) cap' ∧ ((∃ c', en.blk = some (g', c')) ∨ (m.w.heap.size ≤ g' ∧ g' < w'.heap.size)) ∧ len + n ≤ cap' ∧ cap' ≤ maxLen ∧ w'.heap[g']? = some (.cells cur' T' (0, 0)) ∧ cur'.size = cap' * td.size ∧
        (∀ p g cap cur T, en.blk = some (g, cap) → m.w.heap[g]? = some (.cells cur T (0, 0)) → p < len * td.size → cur'[p]? = cur[p]?) ∧ (0 < n → ∀ p, p < news.length → cur'[len * td.size + p]? = news[p]?)) := by
  have hu := ht.kind
  rw [hk] at hu
  obtain ⟨i, z, z1, z2, z3, z4, z5, z6, _⟩ := ty_info he
  have hzs : z.cells.size = td.size := by rw [← hz, ← z5]; simp
  rcases hs with ⟨g, cap, k4, hsv, k5, k6, cur, T, c1, c2⟩ | ⟨k4, hsv, rfl⟩
  · rcases Nat.eq_zero_or_pos n with rfl | hpos
    · refine ⟨_, m.w, app_exec ho hsv hv (run_append_none (P := P) m.w t o.type e i hu z1 (some ⟨g, 0, none⟩) len cap k5 ad c), rfl, rfl, rfl, Nat.le_refl _, fun _ _ _ => rfl, .inr ⟨g, cap, cur, T, rfl, .inl ⟨cap, k4⟩, k5, k6, c1, c2, fun p g1 cap1 cur1 T1 h1 h2 _ => ?_, fun h => absurd h (Nat.lt_irrefl 0)⟩⟩
      rw [k4] at h1
      injection h1 with h1
      injection h1 with h1
      subst h1
      rw [c1] at h2
      injection h2 with h2
      injection h2 with h2
      rw [h2]
    · rcases hn with rfl | ⟨b, off, rfl, n1, n2, n3⟩
      · exact absurd hpos (Nat.lt_irrefl 0)
      by_cases hroom : len + n ≤ cap
      · have hfit : len * i.size + news.length ≤ cur.size := by rw [n1, c2, z2, ← Nat.add_mul]; exact Nat.mul_le_mul_right _ hroom
        have hrun := run_append_room' (P := P) m.w t o.type e T i hu z1 g len cap cur c1 ⟨b, off, none⟩ n c news (by rw [z2]; exact n1) n2 n3 hroom hfit
        rw [z2] at hrun hfit
        have hget : ∀ p, (cur.toList.take (len * td.size) ++ news ++ cur.toList.drop (len * td.size + news.length)).toArray[p]? = if p < len * td.size then cur[p]? else if p < len * td.size + news.length then news[p - len * td.size]? else cur[p]? := fun p => by
          have := splice_get cur.toList news (len * td.size) (by simpa using hfit) p
          simpa using this
        refine ⟨_, _, app_exec ho hsv hv hrun, rfl, rfl, rfl, by simp, fun j hj h => setRow_other _ g j _ fun hgj => h cap (hgj ▸ k4), .inr ⟨g, cap, _, T, rfl, .inl ⟨cap, k4⟩, hroom, k6, setRow_heap m.w g cur _ T _ c1, ?_, fun p g1 cap1 cur1 T1 h1 h2 hp => ?_, fun _ p hp => ?_⟩⟩
        · simp only [List.size_toArray, List.length_append, List.length_take, List.length_drop, Array.length_toList]
          omega
        · rw [k4] at h1
          injection h1 with h1
          injection h1 with h1
          subst h1
          rw [c1] at h2
          injection h2 with h2
          injection h2 with h2
          rw [hget, if_pos hp, h2]
        · rw [hget, if_neg (by omega), if_pos (by omega), Nat.add_sub_cancel_left]
      · have holds : ∀ j u, (cur.toList.take (len * td.size))[j]? = some u → m.w.cell? ((⟨g, 0, none⟩ : Addr).add j) = some u := fun j u hu => by
          rw [List.getElem?_take] at hu
          split at hu
          · rw [add_lit, Nat.zero_add, cell_of_row m.w g j cur T (0, 0) c1]
            simpa using hu
          · cases hu
        have holl : (cur.toList.take (len * td.size)).length = len * td.size := by
          rw [List.length_take, Array.length_toList, c2]
          exact Nat.min_eq_left (Nat.mul_le_mul_right _ k5)
        have h63' : ((len + n : Nat) : Int) ≤ 9223372036854775807 := by unfold maxLen at h63; omega
        have hrun := run_append_grow (P := P) m.w t o.type e i z hu z1 z4 ⟨g, 0, none⟩ len cap (cur.toList.take (len * td.size)) (by rw [z2]; exact holl) holds ⟨b, off, none⟩ n c news (by rw [z2]; exact n1) n2 (by omega) h63' (by rw [z3]; exact growslice_fits (by omega) hb)
        have hcap := grownCap_ge m.w (len + n) cap e
        have hmax := grownCap_le_maxLen m.w (len + n) cap e h63
        generalize hG : grownCap m.w (len + n) cap e = G at *
        refine ⟨_, _, app_exec ho hsv hv hrun, rfl, rfl, rfl, by simp, fun j hj _ => heap_alloc_old m.w.drew _ (by simpa using hj), .inr ⟨m.w.heap.size, G, _, e, rfl, .inr ⟨Nat.le_refl _, by simp⟩, hcap, hmax, heap_alloc_new m.w.drew _, ?_, fun p g1 cap1 cur1 T1 h1 h2 hp => ?_, fun _ p hp => ?_⟩⟩
        · simp only [Array.size_append, List.size_toArray, size_zeroCells, hzs, n1, holl, ← Nat.add_mul]
          congr 1
          omega
        · rw [k4] at h1
          injection h1 with h1
          injection h1 with h1
          subst h1
          rw [c1] at h2
          injection h2 with h2
          injection h2 with h2
          rw [Array.append_assoc, Array.getElem?_append_left (by rw [List.size_toArray, holl]; omega), List.getElem?_toArray, List.getElem?_take_of_lt (by omega), ← h2]
          simp
        · rw [Array.append_assoc, Array.getElem?_append_right (by rw [List.size_toArray, holl]; omega), List.size_toArray, holl, Nat.add_sub_cancel_left, Array.getElem?_append_left (by rw [List.size_toArray]; omega), List.getElem?_toArray]
  · rcases Nat.eq_zero_or_pos n with rfl | hpos
    · exact ⟨_, m.w, app_exec ho hsv hv (run_append_none (P := P) m.w t o.type e i hu z1 none 0 0 (Nat.le_refl _) ad c), rfl, rfl, rfl, Nat.le_refl _, fun _ _ _ => rfl, .inl ⟨rfl, rfl, rfl⟩⟩
    · rcases hn with rfl | ⟨b, off, rfl, n1, n2, n3⟩
      · exact absurd hpos (Nat.lt_irrefl 0)
      rw [Nat.zero_add] at hb h63
      have h63' : (n : Int) ≤ 9223372036854775807 := by unfold maxLen at h63; omega
      have hrun := run_append_nil (P := P) m.w t o.type e i z hu z1 z4 ⟨b, off, none⟩ n c news (by rw [z2]; exact n1) n2 hpos h63' (by rw [z3]; omega)
      have hcap := grownCap_ge m.w n 0 e
      have hmax := grownCap_le_maxLen m.w n 0 e h63
      generalize hG : grownCap m.w n 0 e = G at *
      refine ⟨_, _, app_exec ho hsv hv hrun, rfl, rfl, rfl, by simp, fun j hj _ => heap_alloc_old m.w.drew _ (by simpa using hj), .inr ⟨m.w.heap.size, G, _, e, by rw [Nat.zero_add], .inr ⟨Nat.le_refl _, by simp⟩, by omega, hmax, heap_alloc_new m.w.drew _, ?_, fun p g1 cap1 cur1 T1 h1 => ?_, fun _ p hp => ?_⟩⟩
      · simp only [Array.size_append, List.size_toArray, size_zeroCells, hzs, n1, ← Nat.add_mul]
        congr 1
        omega
      · rw [k4] at h1; cases h1
      · rw [Nat.zero_mul, Nat.zero_add, Array.getElem?_append_left (by rw [List.size_toArray]; omega), List.getElem?_toArray]

/-- append onto an object's slice -/
theorem r_app {t e : Nat} {s x : Operand} {tt td : TyD} {k len : Nat} {ob : Ob} {ys : List (List DV)} {rs : List Nat} (ho : o.op = .call ⟨.builtin .append, #[s, x], #[t, t]⟩) (ht : TyOk P t tt) (hk : tt.k = .slice e) (he : TyOk P e td) (hs : opd env s = .own k 0 len) (hg : sto.get k = some ob) (hx : elsF sto (opd env x) = some (ys, rs))
    (hf : ob.frz = false) (ha : ob.arr = true) (hl : len ≤ ob.els.length) (hez : ob.esz = td.size) (hz : td.zero.length = td.size) (h0 : 0 < td.size) (hsz : ∀ y ∈ ys, y.length = td.size) (hb : (len + ys.length) * td.bytes ≤ 140737488355328) (h63 : len + ys.length ≤ maxLen) :
    OpOK P o env sto nxt ⟨.own nxt 0 (len + ys.length), [(k, none), (nxt, some ⟨td.size, true, false, ob.els.take len ++ ys⟩)], k :: rs, 1⟩ := .ran fun F m a hI hE hH hF => by
  have h1 := hE s (by simp [ho, Op.operands, Call.operands])
  have h2 := hE x (by simp [ho, Op.operands, Call.operands])
  rw [hs] at h1
  have hnew := hF nxt (Nat.le_refl _) (by show nxt < nxt + 1; omega)
  obtain ⟨en, k1, k2, k3, k4⟩ := own_get h1 (hH k (by simp) ob hg)
  have hmu : en.mu = true := by rw [k3, hf]; rfl
  have hne : k ≠ nxt := fun h => by subst h; rw [hnew] at k1; cases k1
  obtain ⟨ad, c, hv, hcase⟩ := (els_vals h0 h2 hx (fun s hs => hH s (List.mem_cons_of_mem _ hs)) hsz).ex
  have hsv : (∃ g cap, en.blk = some (g, cap) ∧ a.eval s = .slice (some ⟨g, 0, none⟩) len cap ∧ len ≤ cap ∧ cap ≤ maxLen ∧ ∃ cur T, m.w.heap[g]? = some (.cells cur T (0, 0)) ∧ cur.size = cap * td.size) ∨ (en.blk = none ∧ a.eval s = .slice none 0 0 ∧ len = 0) := by
    rcases k4 with ⟨g, cap, k4, hsv, k5, k6⟩ | ⟨k4, hsv, _, h, _⟩
    · rw [Nat.zero_mul, Nat.sub_zero] at hsv
      obtain ⟨cur, T, c1, c2, _⟩ := k6.cells
      rw [hez] at c2
      exact .inl ⟨g, cap, k4, hsv, by omega, k6.max, cur, T, c1, c2⟩
    · exact .inr ⟨k4, hsv, h⟩
  have hn : ∃ news : List Value, (ys.length = 0 ∨ ∃ b off, ad = some ⟨b, off, none⟩ ∧ news.length = ys.length * td.size ∧ (∀ j u, news[j]? = some u → m.w.cell? ((⟨b, off, none⟩ : Addr).add j) = some u) ∧ ∀ u ∈ news, u.oneCell' = true) ∧ ∀ (i : Nat) y (j : Nat) d, ys[i]? = some y → y[j]? = some d → ∃ u, news[i * td.size + j]? = some u ∧ PRep m.w m.no u d := by
    rcases hcase with rfl | ⟨b, off, news, n0, n1, n2, n3, n4⟩
    · exact ⟨[], .inl rfl, fun i y j d h => by simp at h⟩
    · exact ⟨news, .inr ⟨b, off, n0, n1, n2, n3⟩, n4⟩
  obtain ⟨news, hn, n4⟩ := hn
  obtain ⟨v, w', hrun, w1, w2, w3, w4, w5, w6⟩ := app_raw ho ht hk he hsv hv hn hz h0 hb h63
  have hlt' : (ob.els.take len).length = len := by rw [List.length_take]; omega
  have upd : ∀ {e' : Ent}, Holds ⟨w', m.M, setE (setE m.σ k none) nxt (some e')⟩ nxt ⟨td.size, true, false, ob.els.take len ++ ys⟩ → ∀ p ∈ [(k, none), (nxt, some (⟨td.size, true, false, ob.els.take len ++ ys⟩ : Ob))], Upd ⟨w', m.M, setE (setE m.σ k none) nxt (some e')⟩ p := fun q p hp => by
    rcases List.mem_cons.1 hp with rfl | hp
    · show setE (setE m.σ k none) nxt _ k = some none
      rw [setE_ne _ _ hne, setE_same]
    · obtain rfl := List.mem_singleton.1 hp
      exact q
  rcases w6 with ⟨rfl, h6, h7⟩ | ⟨g', cap', cur', T', rfl, q1, q2, q3, q4, q5, q6, q7⟩
  · have hT := turn_move hI k1 hmu hnew w' ⟨td.size, none, true, noI⟩ w1 w2 w3 w4 w5 (fun g' c' h => by cases h)
    refine ⟨_, ⟨w', m.M, setE (setE m.σ k none) nxt (some ⟨td.size, none, true, noI⟩)⟩, .inl hrun, hT.1, hT.2, ?_, upd ⟨_, setE_same _ _ _, rfl, rfl, ?_⟩⟩
    · rw [h6, h7]; exact .ownNil (setE_same _ _ _) rfl
    · rw [List.length_eq_zero_iff.1 h7, h6]; exact ⟨by simp, h0⟩
  · have hT := turn_move hI k1 hmu hnew w' ⟨td.size, some (g', cap'), true, noI⟩ w1 w2 w3 w4 w5 (fun g1 c' h => by
      injection h with h
      injection h with h1 h2
      subst h1
      exact q1)
    have row : Row ⟨w', m.M, setE (setE m.σ k none) nxt (some ⟨td.size, some (g', cap'), true, noI⟩)⟩ ⟨td.size, true, false, ob.els.take len ++ ys⟩ g' cap' := row_two (xs := ob.els.take len) (ys := ys) q4 q5 q3 h0 (by rw [hlt']; exact q2) (fun i x hx => ?_) (fun i y hy => ⟨hsz y (List.mem_of_getElem? hy), fun j d hd => ?_⟩)
    · exact ⟨_, _, .inl hrun, hT.1, hT.2, own_mem (setE_same _ _ _) rfl q2 q3, upd (Holds.of (setE_same _ _ _) rfl rfl rfl row (row.deep rfl _))⟩
    · rw [List.getElem?_take] at hx
      split at hx
      · rename_i hi
        rcases k4 with ⟨g, cap, k4, _, k5, k6⟩ | ⟨_, _, _, h, _⟩
        · have hl := k6.sz i x hx
          rw [hez] at hl
          refine ⟨hl, fun j d hd => ?_⟩
          obtain ⟨cur, T, c1, c2, c3⟩ := k6.cells
          rw [hez] at c3
          obtain ⟨u, hu, hr⟩ := c3 i x j d hx hd
          have hj : j < td.size := by
            rcases Nat.lt_or_ge j x.length with h' | h'
            · omega
            · rw [List.getElem?_eq_none h'] at hd; cases hd
          have hle : (i + 1) * td.size ≤ len * td.size := Nat.mul_le_mul_right _ hi
          rw [Nat.succ_mul] at hle
          rw [ha] at hr
          exact ⟨u, by rw [q6 _ g cap cur T k4 c1 (by omega)]; exact hu, hr.ext hT.2.toExt⟩
        · omega
      · cases hx
    · obtain ⟨u, hu, hp⟩ := n4 i y j d hy hd
      have hlt : i * td.size + j < news.length := by
        rcases Nat.lt_or_ge (i * td.size + j) news.length with h' | h'
        · exact h'
        · rw [List.getElem?_eq_none h'] at hu; cases hu
      have hpos : 0 < ys.length := by
        rcases Nat.lt_or_ge i ys.length with h' | h'
        · omega
        · rw [List.getElem?_eq_none h'] at hy; cases hy
      refine ⟨u, ?_, prep_one hp, hp.ext hT.2.size hT.2.keep⟩
      rw [hlt', Nat.add_mul, Nat.add_assoc, q7 hpos _ hlt]
      exact hu
end
end Go.Proofs.Ythpnlnjdmlbnaaa
/- A region that draws its order, by facts on what each operation leaves: one obligation for each operation, in whatever order they come up. -/
namespace Go.Proofs.Ythpnlnjdmlbnaaa

/-- the operations that number i waits for -/
def deps (ops : Array Oper) (i : Nat) : List Nat := ((ops[i]?).map (fun o => (o.after.toList.filter (fun e => Region.binds .any e)).map (·.on))).getD []
/-- each waits for earlier ones alone -/
def backB (ops : Array Oper) : Bool := (List.range ops.size).all fun i => (deps ops i).all fun d => decide (d < i)
def writes (ops : Array Oper) (k : Nat) : Bool := ops.toList.any fun o => o.dst == some k
/-- no two write one slot, and each slot exists -/
def apartB (n : Nat) (ops : Array Oper) : Bool := (List.range ops.size).all fun i => (match (ops[i]?).bind (·.dst) with
  | none => true
  | some d => decide (d < n) && (List.range ops.size).all fun j => decide (j = i) || ((ops[j]?).bind (·.dst) != some d))

theorem backB_spec {ops : Array Oper} (h : backB ops = true) {i : Nat} {o : Oper} (ho : ops[i]? = some o) {e : Edge} (he : e ∈ o.after) (hb : Region.binds .any e = true) : e.on < i := by
  unfold backB at h
  rw [List.all_eq_true] at h
  have hi : i < ops.size := by
    rcases Nat.lt_or_ge i ops.size with h' | h'
    · exact h'
    · rw [Array.getElem?_eq_none h'] at ho; cases ho
  have := h i (List.mem_range.2 hi)
  rw [List.all_eq_true] at this
  have h2 := this e.on (by
    unfold deps; rw [ho]; simp only [Option.map_some, Option.getD_some, List.mem_map, List.mem_filter]
    exact ⟨e, ⟨by simpa using he, hb⟩, rfl⟩)
  simpa using h2

theorem apartB_spec {n : Nat} {ops : Array Oper} (h : apartB n ops = true) {i : Nat} {o : Oper} (ho : ops[i]? = some o) {d : Nat} (hd : o.dst = some d) :
    d < n ∧ ∀ j oj, ops[j]? = some oj → j ≠ i → oj.dst ≠ some d := by
  unfold apartB at h
  rw [List.all_eq_true] at h
  have hlt : ∀ {i : Nat} {o : Oper}, ops[i]? = some o → i < ops.size := fun {i o} ho => by
    rcases Nat.lt_or_ge i ops.size with h' | h'
    · exact h'
    · rw [Array.getElem?_eq_none h'] at ho; cases ho
  have h1 := h i (List.mem_range.2 (hlt ho))
  rw [ho] at h1
  simp only [Option.bind_some, hd, Bool.and_eq_true, decide_eq_true_eq, List.all_eq_true] at h1
  refine ⟨h1.1, fun j oj hj hne hdj => ?_⟩
  have h2 := h1.2 j (List.mem_range.2 (hlt hj))
  rw [hj] at h2
  simp [hne, hdj] at h2

section
variable {P : Program} {ops : Array Oper} {Q : Exit → Act → World → Prop}

/-- what stands about the slots: those that the region does not write are as they were; those of listed operations have their facts -/
structure RFacts (ops : Array Oper) (a0 : Act) (G : World → Prop) (F : Nat → Value → World → Prop) (L : Array Bool) (a : Act) (w : World) : Prop where
  size : a.tmps.size = a0.tmps.size
  defers : a.defers = a0.defers
  out : ∀ k, writes ops k = false → a.tmps[k]? = a0.tmps[k]?
  g : G w
  f : ∀ i o, ops[i]? = some o → L.getD i false = true → ∃ v, (∀ d, o.dst = some d → a.tmps[d]? = some v) ∧ F i v w

theorem put_same {a : Act} {d k : Nat} {v : Value} (h : d ≠ k) : (a.put (some d) v).tmps[k]? = a.tmps[k]? := by
  simp [Act.put, h]
theorem put_here {a : Act} {d : Nat} {v : Value} (h : d < a.tmps.size) : (a.put (some d) v).tmps[d]? = some v := by
  simp [Act.put, h]
theorem put_lit {a : Act} {ds : List Deferred} (h : a.defers = ds) (d : Nat) (v : Value) : a.put (some d) v = ⟨a.tmps.setIfInBounds d v, ds⟩ := by subst h; rfl
theorem put_size {a : Act} {d : Option Nat} {v : Value} : (a.put d v).tmps.size = a.tmps.size := by cases d <;> simp [Act.put]
theorem put_defers' {a : Act} {d : Option Nat} {v : Value} : (a.put d v).defers = a.defers := by cases d <;> simp [Act.put]

/-- one step -/
def RStep (P : Program) (ops : Array Oper) (Q : Exit → Act → World → Prop) (a0 : Act) (G : World → Prop) (E : World → World → Prop) (F : Nat → Value → World → Prop) (i : Nat) : Prop :=
  ∀ o, ops[i]? = some o → ∀ a w, a.defers = a0.defers → (∀ k, writes ops k = false → a.tmps[k]? = a0.tmps[k]?) → G w →
    (∀ j ∈ deps ops i, ∀ oj, ops[j]? = some oj → ∃ v, (∀ d, oj.dst = some d → a.tmps[d]? = some v) ∧ F j v w) →
    ∀ K : Act → World → Prop, (∀ v w', G w' → E w w' → F i v w' → K (a.put o.dst v) w') →
      if Region.wanted o (yielded ops a.tmps) = true then Oper.wp P o a w K Q else K (a.put o.dst undef) w

theorem RFacts.put {a0 : Act} {G : World → Prop} {E : World → World → Prop} {F : Nat → Value → World → Prop} {L : Array Bool} {a : Act} {w w' : World}
    (hn : apartB a0.tmps.size ops = true) (hE : ∀ j v w w', E w w' → F j v w → F j v w') (h : RFacts ops a0 G F L a w) {i : Nat} {o : Oper} (ho : ops[i]? = some o) {v : Value} (hg : G w') (he : E w w') (hf : F i v w') :
    RFacts ops a0 G F (L.setIfInBounds i true) (a.put o.dst v) w' := by
  refine ⟨by rw [put_size]; exact h.size, by rw [put_defers']; exact h.defers, fun k hk => ?_, hg, fun j oj hj hl => ?_⟩
  · rw [← h.out k hk]
    cases hd : o.dst with
    | none => rfl
    | some d =>
      refine put_same fun e => ?_
      subst e
      unfold writes at hk
      rw [List.any_eq_false] at hk
      exact hk o (Array.mem_toList_iff.2 (Array.mem_of_getElem? ho)) (by simp [hd])
  · by_cases hji : j = i
    · subst hji
      rw [ho] at hj
      injection hj with hj
      subst hj
      refine ⟨v, fun d hd => ?_, hf⟩
      rw [hd]
      exact put_here (by rw [h.size]; exact (apartB_spec hn ho hd).1)
    · rw [getD_set_ne false (Ne.symm hji)] at hl
      obtain ⟨u, hu, hF⟩ := h.f j oj hj hl
      refine ⟨u, fun d hd => ?_, hE _ _ _ _ he hF⟩
      rw [← hu d hd]
      cases hd' : o.dst with
      | none => rfl
      | some d' =>
        refine put_same fun e => ?_
        subst e
        exact (apartB_spec hn ho hd').2 j oj hj hji hd

theorem ready_nil_all (hb : backB ops = true) {L : Array Bool} (hl : L.size = ops.size) (h : Region.ready .any ops L = []) : ∀ i, i < ops.size → L.getD i false = true := by
  intro i
  induction i using Nat.strongRecOn with
  | _ i ih =>
    intro hi
    cases hL : L.getD i false with
    | true => rfl
    | false =>
      exfalso
      have : i ∈ Region.ready .any ops L := by
        refine mem_ready.2 ⟨?_, ops[i], by simp [hi], fun e he hbn => ?_⟩
        · simp [hl, hi] at hL ⊢; exact hL
        · have := backB_spec hb (by simp [hi] : ops[i]? = some ops[i]) he hbn
          exact ih e.on this (by omega)
      rw [h] at this
      cases this

def cnt (L : Array Bool) : Nat := L.toList.count false
theorem cnt_set {L : Array Bool} {i : Nat} (h : L.getD i true = false) : cnt (L.setIfInBounds i true) + 1 = cnt L := by
  have hi : i < L.size := by
    rcases Nat.lt_or_ge i L.size with h' | h'
    · exact h'
    · simp [Array.getD, Nat.not_lt.2 h'] at h
  have hv : L.toList[i]'(by simpa using hi) = false := by simpa [Array.getD, hi] using h
  unfold cnt
  rw [Array.toList_setIfInBounds, List.count_set (by simpa using hi)]
  have hpos : 0 < L.toList.count false := List.count_pos_iff.2 (by rw [← hv]; exact List.getElem_mem _)
  have hv' : L[i] = false := by simpa using hv
  simp [hv']
  have hp2 : 0 < Array.count false L := by simpa using hpos
  omega

theorem wpAny_facts {a0 : Act} {G : World → Prop} {E : World → World → Prop} {F : Nat → Value → World → Prop}
    (hn : apartB a0.tmps.size ops = true) (hb : backB ops = true) (hE : ∀ j v w w', E w w' → F j v w → F j v w')
    (hs : ∀ i, i < ops.size → RStep P ops Q a0 G E F i)
    (hf : ∀ a w, RFacts ops a0 G F (Array.replicate ops.size true) a w → Q .normal a w) :
    ∀ fuel L a w, L.size = ops.size → cnt L ≤ fuel → RFacts ops a0 G F L a w → wpAny P .any ops Q fuel L a w := by
  have fin : ∀ L a w, L.size = ops.size → RFacts ops a0 G F L a w → Region.ready .any ops L = [] → Q .normal a w := fun L a w hl h hr =>
    hf a w ⟨h.size, h.defers, h.out, h.g, fun i o ho _ => h.f i o ho (ready_nil_all hb hl hr i (by
      rcases Nat.lt_or_ge i ops.size with h' | h'
      · exact h'
      · rw [Array.getElem?_eq_none h'] at ho; cases ho))⟩
  intro fuel
  induction fuel with
  | zero =>
    intro L a w hl hc h
    have hr : Region.ready .any ops L = [] := by
      rw [List.eq_nil_iff_forall_not_mem]
      intro i hi
      have := cnt_set (mem_ready.1 hi).1
      omega
    exact ⟨hr, fin L a w hl h hr⟩
  | succ fuel ih =>
    intro L a w hl hc h
    refine ⟨fin L a w hl h, fun i hi => ?_⟩
    obtain ⟨hun, o, ho, hdep⟩ := mem_ready.1 hi
    have hlt : i < ops.size := by
      rcases Nat.lt_or_ge i ops.size with h' | h'
      · exact h'
      · rw [Array.getElem?_eq_none h'] at ho; cases ho
    refine wpOp_step ho fun K hK => hs i hlt o ho a w h.defers h.out h.g (fun j hj oj hoj => ?_) K fun v w' hg he hF => hK _ _ (ih _ _ _ (by simpa using hl) ?_ (h.put hn hE ho hg he hF))
    · refine h.f j oj hoj ?_
      unfold deps at hj
      rw [ho] at hj
      simp only [Option.map_some, Option.getD_some, List.mem_map, List.mem_filter] at hj
      obtain ⟨e, ⟨he, hbn⟩, rfl⟩ := hj
      exact hdep e (by simpa using he) hbn
    · have := cnt_set hun
      omega

/-- one step of an unguarded operation, as a walk sees it -/
theorem RStep.mk {a0 : Act} {G : World → Prop} {E : World → World → Prop} {F : Nat → Value → World → Prop} {i : Nat} {o : Oper} (ho : ops[i]? = some o) (hg : o.guard = none)
    (h : ∀ a w, a.defers = a0.defers → (∀ k, writes ops k = false → a.tmps[k]? = a0.tmps[k]?) → G w →
      (∀ j, (deps ops i).contains j = true → ∀ oj d, ops[j]? = some oj → oj.dst = some d → ∃ v, a.tmps[d]? = some v ∧ F j v w) →
      ∀ K : Act → World → Prop, Shut (∀ v w', G w' → E w w' → F i v w' → K (a.put o.dst v) w') → Oper.wp P o a w K Q) : RStep P ops Q a0 G E F i := by
  intro o' ho' a w hd hout hG hdep K hK
  rw [ho] at ho'
  injection ho' with ho'
  subst ho'
  rw [if_pos (by unfold Region.wanted; rw [hg])]
  refine h a w hd hout hG (fun j hj oj d hoj hdj => ?_) K hK
  obtain ⟨v, hv, hF⟩ := hdep j (by simpa using hj) oj hoj
  exact ⟨v, hv d hdj, hF⟩

def RSteps (P : Program) (ops : Array Oper) (Q : Exit → Act → World → Prop) (a0 : Act) (G : World → Prop) (E : World → World → Prop) (F : Nat → Value → World → Prop) (k : Nat) : Prop :=
  ∀ i, k ≤ i → i < ops.size → RStep P ops Q a0 G E F i
theorem RSteps.cons {a0 : Act} {G : World → Prop} {E : World → World → Prop} {F : Nat → Value → World → Prop} {k : Nat} (h : RStep P ops Q a0 G E F k) (hs : RSteps P ops Q a0 G E F (k + 1)) : RSteps P ops Q a0 G E F k :=
  fun i h1 h2 => by
    rcases Nat.eq_or_lt_of_le h1 with rfl | h1
    · exact h
    · exact hs i h1 h2
theorem RSteps.nil {a0 : Act} {G : World → Prop} {E : World → World → Prop} {F : Nat → Value → World → Prop} {k : Nat} (hk : ops.size ≤ k) : RSteps P ops Q a0 G E F k := fun i h1 h2 => by omega

/-- THE LAW: E says how the world may change (facts are stable under it), G what stands of every world, F i what operation i leaves. -/
theorem wp_region_facts {id : Nat} {a : Act} {w : World} (hm : P.follows .mixedOrders = true) (G : World → Prop) (E : World → World → Prop) (F : Nat → Value → World → Prop)
    (hn : apartB a.tmps.size ops = true) (hb : backB ops = true) (hE : ∀ j v w w', E w w' → F j v w → F j v w') (h0 : G w.drew)
    (hs : RSteps P ops Q a G E F 0)
    (hf : ∀ a' w', RFacts ops a G F (Array.replicate ops.size true) a' w' → Q .normal a' w') : (Code.region id ops true).wp P Q a w := by
  refine wp_region_any hm (wpAny_facts hn hb hE (fun i hi => hs i (Nat.zero_le _) hi) hf ops.size (Array.replicate ops.size false) a w.drew (by simp) (by simp [cnt]) ⟨rfl, rfl, fun _ _ => rfl, h0, fun i o ho hl => ?_⟩)
  exfalso
  simp [Array.getD] at hl

/-- the frame behind it, slots m to m + n being those that it writes -/
theorem RFacts.frame {a0 : Act} {G : World → Prop} {F : Nat → Value → World → Prop} {L : Array Bool} {a : Act} {w : World} (h : RFacts ops a0 G F L a w) {l : List Value} {ds : List Deferred} (ha : a0 = ⟨l.toArray, ds⟩) (m n : Nat)
    (hw : ∀ k, (k < m ∨ m + n ≤ k) → writes ops k = false) (hl : m + n ≤ l.length) : ∃ us : List Value, us.length = n ∧ a = ⟨(l.take m ++ us ++ l.drop (m + n)).toArray, ds⟩ ∧ ∀ k, k < n → us[k]? = a.tmps[m + k]? := by
  subst ha
  refine ⟨(a.tmps.toList.drop m).take n, ?_, ?_, fun k hk => ?_⟩
  · have := h.size; simp at this ⊢; omega
  · have hs := h.size
    have hd := h.defers
    obtain ⟨t, d⟩ := a
    simp at hs hd
    subst hd
    congr 1
    apply Array.ext'
    apply List.ext_getElem?
    intro k
    have ho := h.out k
    simp at ho
    simp only [List.getElem?_append, List.length_take, List.length_append, List.length_drop, List.getElem?_take, List.getElem?_drop, Array.length_toList]
    by_cases h1 : k < m
    · have := ho (hw k (.inl h1))
      simp [h1, show k < min m l.length by omega, show k < min m l.length + min n (t.size - m) by omega, this]
    · by_cases h2 : k < m + n
      · have e : m + (k - min m l.length) = k := by omega
        simp [show ¬ k < min m l.length by omega, show k < min m l.length + min n (t.size - m) by omega, show k - min m l.length < n by omega, e]
      · have := ho (hw k (.inr (by omega)))
        have e : m + n + (k - (min m l.length + min n (t.size - m))) = k := by omega
        simp [show ¬ k < min m l.length + min n (t.size - m) by omega, e, this]
  · simp [hk]
theorem list_next {us : List Value} {n : Nat} (h : us.length = n + 1) : ∃ u us', us = u :: us' ∧ us'.length = n := by
  match us, h with
  | u :: us', h => exact ⟨u, us', rfl, by simpa using h⟩
theorem list_none {us : List Value} (h : us.length = 0) : us = [] := List.length_eq_zero_iff.1 h
end
end Go.Proofs.Ythpnlnjdmlbnaaa
