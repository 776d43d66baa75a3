/- A region that draws its order, by facts on slots and world: with guards, with stores into blocks that the region itself made. No condition. -/
import Derived.Test.YtchdmemgkegefaaRegV
import Derived.Test.YtchdmemgkegefaaReg2
import Derived.Test.YtchdmemgkegefaaBas4
namespace Go.Proofs.Ytchdmemgkegefaa
open Go.RowKit

def aAt (Fs : List (Act → World → Prop)) (j : Nat) : Act → World → Prop := (Fs[j]?).getD fun _ _ => True
def lAt (Ls : List (List Nat)) (j : Nat) : List Nat := (Ls[j]?).getD []
/-- slot d holds a value with f -/
def At (d : Nat) (f : Value → World → Prop) : Act → World → Prop := fun a W => ∃ v, a.tmps[d]? = some v ∧ f v W
def AnyA : Act → World → Prop := fun _ _ => True
def LocOk (L : List Nat) (F : Act → World → Prop) : Prop := ∀ a d v w, d ∉ L → F a w → F (a.put (some d) v) w
theorem LocOk.at {d : Nat} {f : Value → World → Prop} : LocOk [d] (At d f) := by
  rintro a k v w hd ⟨u, hu, hf⟩
  refine ⟨u, ?_, hf⟩
  rw [put_same (by simpa using hd)]
  exact hu
theorem LocOk.any {L : List Nat} : LocOk L AnyA := fun _ _ _ _ _ _ => trivial
theorem LocOk.world {L : List Nat} {f : World → Prop} : LocOk L fun _ W => f W := fun _ _ _ _ _ h => h
def LocsOk : List (List Nat) → List (Act → World → Prop) → Prop
  | L :: Ls, F :: Fs => LocOk L F ∧ LocsOk Ls Fs
  | [], [] => True
  | _, _ => False
theorem locs_at : ∀ {Ls : List (List Nat)} {Fs : List (Act → World → Prop)}, LocsOk Ls Fs → ∀ j, LocOk (lAt Ls j) (aAt Fs j)
  | [], [], _, j => by intro a d v w _ _; simp [aAt]
  | L :: Ls, F :: Fs, h, 0 => h.1
  | L :: Ls, F :: Fs, h, j + 1 => by simpa [aAt, lAt] using locs_at h.2 j

theorem at_is {d : Nat} {t : Array Value} {ds : List Deferred} {x : Value} {W : World} (h : At d (Is x) ⟨t, ds⟩ W) : t[d]? = some x := by
  obtain ⟨v, h, e⟩ := h
  rw [show t[d]? = some v from h]
  exact congrArg some e
theorem at_here {d : Nat} {t : Array Value} {ds : List Deferred} {v : Value} {f : Value → World → Prop} {W : World} (hd : d < t.size) (h : f v W) : At d f ((⟨t, ds⟩ : Act).put (some d) v) W := ⟨v, put_here hd, h⟩

theorem at_end {d : Nat} {T : Array Value} {ds : List Deferred} {x : Value} {f : Value → World → Prop} {W : World} (h : At d f ⟨T, ds⟩ W) (hg : T[d]? = some x) : f x W := by
  obtain ⟨v, hv, hf⟩ := h
  rw [show T[d]? = some v from hv] at hg
  injection hg with hg
  rw [← hg]
  exact hf

section
variable {P : Program} {ops : Array Oper} {Q : Exit → Act → World → Prop}

def depA (ops : Array Oper) (i j : Nat) : Bool := (deps ops i).contains j && decide (j < ops.size)

def AStep (P : Program) (ops : Array Oper) (Q : Exit → Act → World → Prop) (a0 : Act) (w0 : World) (E0 : World → World → Prop) (E : Nat → World → World → Prop) (Fs : List (Act → World → Prop)) (i : Nat) : Prop :=
  RStep2 P ops Q a0 (fun _ W => E0 w0 W) E (fun j => aAt Fs j) i

theorem AStep.mk {a0 : Act} {w0 : World} {E0 : World → World → Prop} {E : Nat → World → World → Prop} (ht : ∀ i A B C, E0 A B → E i B C → E0 A C) {Fs : List (Act → World → Prop)} {i : Nat} {o : Oper} (ho : ops[i]? = some o) (hg : o.guard = none)
    (h : ∀ t W, t.size = a0.tmps.size → (∀ k, writes ops k = false → t[k]? = a0.tmps[k]?) → E0 w0 W → (∀ j, depA ops i j = true → aAt Fs j ⟨t, a0.defers⟩ W) →
      ∀ K : Act → World → Prop, Shut (∀ v W', E i W W' → aAt Fs i ((⟨t, a0.defers⟩ : Act).put o.dst v) W' → K ((⟨t, a0.defers⟩ : Act).put o.dst v) W') → Oper.wp P o ⟨t, a0.defers⟩ W K Q) : AStep P ops Q a0 w0 E0 E Fs i := by
  intro o' ho' a w hd hsz hout L hun hdn hG hdep K hK
  rw [ho] at ho'
  injection ho' with ho'
  subst ho'
  obtain ⟨t, ds⟩ := a
  obtain rfl : ds = a0.defers := hd
  rw [if_pos (by unfold Region.wanted; rw [hg])]
  refine h t w hsz hout hG (fun j hj => ?_) K fun v W' he hf => hK v W' (ht _ _ _ _ hG he) he hf
  unfold depA at hj
  rw [Bool.and_eq_true] at hj
  exact hdep j (by simpa using hj.1) (by simpa using hj.2)

theorem AStep.mkG {a0 : Act} {w0 : World} {E0 : World → World → Prop} {E : Nat → World → World → Prop} (ht : ∀ i A B C, E0 A B → E i B C → E0 A C) {Fs : List (Act → World → Prop)} {i : Nat} {o : Oper} {g dg : Nat} {b : Bool} (ho : ops[i]? = some o) (hg : o.guard = some (g, b)) (hgd : depB ops i g dg = true)
    (hF : ∀ t W, aAt Fs g ⟨t, a0.defers⟩ W → t[dg]? = some (.bool b))
    (h : ∀ t W, t.size = a0.tmps.size → (∀ k, writes ops k = false → t[k]? = a0.tmps[k]?) → E0 w0 W → (∀ j, depA ops i j = true → aAt Fs j ⟨t, a0.defers⟩ W) →
      ∀ K : Act → World → Prop, Shut (∀ v W', E i W W' → aAt Fs i ((⟨t, a0.defers⟩ : Act).put o.dst v) W' → K ((⟨t, a0.defers⟩ : Act).put o.dst v) W') → Oper.wp P o ⟨t, a0.defers⟩ W K Q) : AStep P ops Q a0 w0 E0 E Fs i := by
  intro o' ho' a w hd hsz hout L hun hdn hG hdep K hK
  rw [ho] at ho'
  injection ho' with ho'
  subst ho'
  obtain ⟨t, ds⟩ := a
  obtain rfl : ds = a0.defers := hd
  have key : ∀ j, depA ops i j = true → aAt Fs j ⟨t, a0.defers⟩ w := fun j hj => by
    unfold depA at hj
    rw [Bool.and_eq_true] at hj
    exact hdep j (by simpa using hj.1) (by simpa using hj.2)
  have hy : yielded ops t g = some b := by
    unfold depB at hgd
    rw [Bool.and_eq_true] at hgd
    obtain ⟨og, hog, hdg⟩ := dstB_spec hgd.2
    have hf := hdep g (by simpa using hgd.1) (lt_of_some hog)
    unfold yielded
    rw [hog, Option.bind_some, hdg, Option.bind_some, hF _ _ hf]
  rw [if_pos (by unfold Region.wanted; rw [hg]; dsimp only; rw [hy]; simp)]
  exact h t w hsz hout hG key K fun v W' he hf => hK v W' (ht _ _ _ _ hG he) he hf

theorem AStep.mkN {a0 : Act} {w0 : World} {E0 : World → World → Prop} {E : Nat → World → World → Prop} (hr : ∀ i A, E i A A) {Fs : List (Act → World → Prop)} {i : Nat} {o : Oper} {g dg : Nat} {b : Bool} (ho : ops[i]? = some o) (hg : o.guard = some (g, b)) (hgd : depB ops i g dg = true)
    (hF : ∀ t W, aAt Fs g ⟨t, a0.defers⟩ W → t[dg]? = some (.bool (!b))) (hu : ∀ t W, t.size = a0.tmps.size → aAt Fs i ((⟨t, a0.defers⟩ : Act).put o.dst undef) W) : AStep P ops Q a0 w0 E0 E Fs i := by
  intro o' ho' a w hd hsz hout L hun hdn hG hdep K hK
  rw [ho] at ho'
  injection ho' with ho'
  subst ho'
  obtain ⟨t, ds⟩ := a
  obtain rfl : ds = a0.defers := hd
  have hy : yielded ops t g = some (!b) := by
    unfold depB at hgd
    rw [Bool.and_eq_true] at hgd
    obtain ⟨og, hog, hdg⟩ := dstB_spec hgd.2
    have hf := hdep g (by simpa using hgd.1) (lt_of_some hog)
    unfold yielded
    rw [hog, Option.bind_some, hdg, Option.bind_some, hF _ _ hf]
  rw [if_neg (by unfold Region.wanted; rw [hg]; dsimp only; rw [hy]; cases b <;> simp)]
  exact hK undef w hG (hr i w) (hu t w hsz)

def ASteps (P : Program) (ops : Array Oper) (Q : Exit → Act → World → Prop) (a0 : Act) (w0 : World) (E0 : World → World → Prop) (E : Nat → World → World → Prop) (Fs : List (Act → World → Prop)) (k : Nat) : Prop :=
  ∀ i, k ≤ i → i < ops.size → AStep P ops Q a0 w0 E0 E Fs i
theorem ASteps.cons {a0 : Act} {w0 : World} {E0 : World → World → Prop} {E : Nat → World → World → Prop} {Fs : List (Act → World → Prop)} {k : Nat} (h : AStep P ops Q a0 w0 E0 E Fs k) (hs : ASteps P ops Q a0 w0 E0 E Fs (k + 1)) : ASteps P ops Q a0 w0 E0 E Fs k :=
  fun i h1 h2 => by
    rcases Nat.eq_or_lt_of_le h1 with rfl | h1
    · exact h
    · exact hs i h1 h2
theorem ASteps.nil {a0 : Act} {w0 : World} {E0 : World → World → Prop} {E : Nat → World → World → Prop} {Fs : List (Act → World → Prop)} {k : Nat} (hk : ops.size ≤ k) : ASteps P ops Q a0 w0 E0 E Fs k := fun i h1 h2 => by omega

/-- fact number k of a list and those behind it are stable: D j i says that j waits for i -/
def StbA (D : Nat → Nat → Bool) (E : Nat → World → World → Prop) : Nat → List (Act → World → Prop) → Prop
  | _, [] => True
  | k, F :: Fs => (∀ i, i ≠ k → D k i = false → ∀ a W W', E i W W' → F a W → F a W') ∧ StbA D E (k + 1) Fs
theorem StbA.at {D : Nat → Nat → Bool} {E : Nat → World → World → Prop} : ∀ {k : Nat} {Fs : List (Act → World → Prop)}, StbA D E k Fs → ∀ j, ∀ i, i ≠ k + j → D (k + j) i = false → ∀ a W W', E i W W' → aAt Fs j a W → aAt Fs j a W'
  | k, [], _, j, _, _, _, _, _, _, _, _ => by simp [aAt]
  | k, F :: Fs, h, 0, i, hi, hd, a, W, W', he, hf => h.1 i hi hd a W W' he hf
  | k, F :: Fs, h, j + 1, i, hi, hd, a, W, W', he, hf => by
    have := StbA.at h.2 j i (by omega) (by rw [show k + 1 + j = k + (j + 1) by omega]; exact hd) a W W' he
    simpa [aAt] using this (by simpa [aAt] using hf)
/-- stable whatever runs -/
theorem stb_at {E0 : World → World → Prop} {E : Nat → World → World → Prop} {d i : Nat} {f : Value → World → Prop} (hE : ∀ i W W', E i W W' → E0 W W') (h : Stb E0 f) : ∀ a W W', E i W W' → At d f a W → At d f a W' := by
  rintro a W W' he ⟨v, hv, hf⟩
  exact ⟨v, hv, h _ _ _ (hE _ _ _ he) hf⟩

/-- THE LAW -/
theorem wp_region_acts {id : Nat} {l : List Value} {ds : List Deferred} {w : World} (hm : P.follows .mixedOrders = true) (E0 : World → World → Prop) (E : Nat → World → World → Prop) (hd : E0 w w.drew)
    (S : List Nat) (Fs : List (Act → World → Prop)) (Ls : List (List Nat)) (hloc : LocsOk Ls Fs) (hst : StbA (fun j i => (deps ops j).contains i) E 0 Fs) (hn : apartB l.length ops = true) (hb : backB ops = true) (hl : locB ops (lAt Ls) = true) (hS : ops.toList.filterMap (·.dst) = S)
    (hs : ASteps P ops Q ⟨l.toArray, ds⟩ w E0 E Fs 0)
    (hf : ∀ (f : Nat → Value) (W : World), E0 w W → (∀ j, decide (j < ops.size) = true → aAt Fs j ⟨(setAllV l (S.map fun k => (k, f k))).toArray, ds⟩ W) → (∀ k, k ∈ S → k < l.length → (setAllV l (S.map fun k => (k, f k))).toArray[k]? = some (f k)) → Q .normal ⟨(setAllV l (S.map fun k => (k, f k))).toArray, ds⟩ W) :
    (Code.region id ops true).wp P Q ⟨l.toArray, ds⟩ w := by
  refine wp_region_facts2 hm (fun _ W => E0 w W) E (fun j => aAt Fs j) (lAt Ls) (by simpa using hn) hb hl (fun j a d v W hdL hF => locs_at hloc j a d v W hdL hF) (fun i j a W W' hij hdp he hF => ?_) hd hs ?_
  · have := hst.at j i (by omega) (by simpa using hdp) a W W' he
    exact this hF
  rintro ⟨t, ds'⟩ W' ⟨hsz, hdf, hout, hg, hF⟩
  obtain rfl : ds' = ds := hdf
  simp at hsz hout
  have hw : ∀ k, k ∉ S → writes ops k = false := fun k hk => by
    unfold writes
    rw [List.any_eq_false]
    intro o ho hdo
    refine hk ?_
    rw [← hS]
    exact List.mem_filterMap.2 ⟨o, ho, by simpa using hdo⟩
  have hall : t = (setAllV l (S.map fun k => (k, t.getD k undef))).toArray := by
    apply Array.ext'
    apply List.ext_getElem?
    intro k
    rw [setAllV_get]
    split
    · rename_i hk
      have hk2 : k < t.size := by omega
      simp [Array.getD, hk2]
    · rename_i hk
      by_cases hk1 : k ∈ S
      · have h1 : ¬ k < l.length := fun h2 => hk ⟨hk1, h2⟩
        rw [List.getElem?_eq_none (by simp; omega), List.getElem?_eq_none (by omega)]
      · have := hout k (hw k hk1)
        simpa using this
  have key := hf (fun k => t.getD k undef) W' hg (fun j hj => by
    rw [← hall]
    exact hF j (by simpa using hj) (by have : j < ops.size := by simpa using hj
                                       simp [Array.getD, this])) (fun k hk hkl => by
    rw [← hall]
    have hk2 : k < t.size := by omega
    simp [Array.getD, hk2])
  rw [← hall] at key
  exact key
end

/-- how a world may change: but for block 'row' (a deck of base B) blocks stay, other than those from B0 on of the types X, which may be written -/
structure Ch (row : Option Nat) (B B0 : Nat) (X : List TypeId) (W W' : World) : Prop where
  os : W'.os = W.os
  tape : W'.tape = W.tape
  output : W'.output = W.output
  size : W.heap.size ≤ W'.heap.size
  block : ∀ (k : Nat) (o : Obj), W.heap[k]? = some o → some k ≠ row → W'.heap[k]? = some o ∨ (B0 ≤ k ∧ ∃ cs cs' T, o = .cells cs T (0, 0) ∧ T ∈ X ∧ W'.heap[k]? = some (.cells cs' T (0, 0)) ∧ cs'.size = cs.size)
  deck : ∀ g, row = some g → Deck B W g → Deck B W' g

section
variable {row : Option Nat} {B B0 : Nat} {X : List TypeId}
theorem Ch.refl (row : Option Nat) (B B0 : Nat) (X : List TypeId) (W : World) : Ch row B B0 X W W := ⟨rfl, rfl, rfl, Nat.le_refl _, fun _ _ h _ => .inl h, fun _ _ h => h⟩
theorem Ch.trans {U V W : World} (h : Ch row B B0 X U V) (k : Ch row B B0 X V W) : Ch row B B0 X U W := by
  refine ⟨k.os.trans h.os, k.tape.trans h.tape, k.output.trans h.output, Nat.le_trans h.size k.size, fun n o ho hr => ?_, fun g h1 h2 => k.deck g h1 (h.deck g h1 h2)⟩
  rcases h.block n o ho hr with h1 | ⟨hB, cs, cs', T, rfl, hT, h1, hs⟩
  · exact k.block n o h1 hr
  · rcases k.block n _ h1 hr with h2 | ⟨_, ds, ds', T', e, hT', h2, hs'⟩
    · exact .inr ⟨hB, cs, cs', T, rfl, hT, h2, hs⟩
    · injection e with e1 e2
      subst e1 e2
      exact .inr ⟨hB, cs, ds', T, rfl, hT, h2, hs'.trans hs⟩
theorem Ch.below {W W' : World} (h : Below W.heap.size W W') : Ch row B B0 X W W' :=
  ⟨h.os, h.tape, h.output, h.size, fun k o ho _ => .inl (below_block h (block_lt ho) ho), fun g _ hd => hd.keep (fun k hk => h.block k (by have := hd.1; have := hd.lt; omega)) (h.block g hd.lt)⟩
theorem Ch.more {Y : List TypeId} {W W' : World} (h : Ch row B B0 X W W') (hXY : ∀ T ∈ X, T ∈ Y) : Ch row B B0 Y W W' :=
  ⟨h.os, h.tape, h.output, h.size, fun k o ho hr => by
    rcases h.block k o ho hr with h1 | ⟨hB, cs, cs', T, e, hT, h1⟩
    · exact .inl h1
    · exact .inr ⟨hB, cs, cs', T, e, hXY T hT, h1⟩, h.deck⟩
theorem Ch.next {g : Nat} {W W' : World} (h : W.grownBy W' (some g)) (hd : Deck B W' g) : Ch (some g) B B0 X W W' :=
  ⟨h.os, h.tape, h.output, h.size, fun k o ho hr => .inl (grown_block h ho hr), fun g' e _ => by injection e with e; subst e; exact hd⟩
theorem Ch.grown {W W' : World} (h : Ch row B B0 X W W') (hB : W.heap.size ≤ B0) : W.grownBy W' row :=
  ⟨h.os, h.tape, h.output, h.size, fun k hk hr => by
    have ho : W.heap[k]? = some W.heap[k] := by simp [hk]
    rcases h.block k _ ho hr with h1 | ⟨h2, _⟩
    · rw [h1, ho]
    · omega⟩
theorem Ch.old {W W' : World} (h : Ch row B B0 X W W') {k : Nat} {o : Obj} (ho : W.heap[k]? = some o) (hr : some k ≠ row) (hk : k < B0) : W'.heap[k]? = some o := by
  rcases h.block k o ho hr with h1 | ⟨h2, _⟩
  · exact h1
  · omega
theorem Ch.other {W W' : World} (h : Ch row B B0 X W W') {k : Nat} {cs : Array Value} {T : TypeId} {fr : Nat × Nat} (ho : W.heap[k]? = some (.cells cs T fr)) (hr : some k ≠ row) (hT : T ∉ X) : W'.heap[k]? = some (.cells cs T fr) := by
  rcases h.block k _ ho hr with h1 | ⟨_, cs', _, T', e, hT', _⟩
  · exact h1
  · injection e with _ e2
    subst e2
    exact absurd hT' hT
/-- a block of a type that may be written keeps its type and its size -/
theorem Ch.kind {W W' : World} (h : Ch row B B0 X W W') {k : Nat} {cs : Array Value} {T : TypeId} (ho : W.heap[k]? = some (.cells cs T (0, 0))) (hr : some k ≠ row) : ∃ cs', W'.heap[k]? = some (.cells cs' T (0, 0)) ∧ cs'.size = cs.size := by
  rcases h.block k _ ho hr with h1 | ⟨_, cs', ds, T', e, hT', h2, hs⟩
  · exact ⟨cs, h1, rfl⟩
  · injection e with e1 e2
    subst e1 e2
    exact ⟨ds, h2, hs⟩
theorem Ch.set {W : World} {b o : Nat} {cs : Array Value} {T : TypeId} (hb : W.heap[b]? = some (.cells cs T (0, 0))) (hT : T ∈ X) (hB : B0 ≤ b) (hBB : B ≤ B0) (hr : some b ≠ row) (v : Value) : Ch row B B0 X W (W.setCell ⟨b, o, none⟩ v) := by
  refine ⟨rfl, rfl, rfl, by rw [setCell_size]; exact Nat.le_refl _, fun k ob hk hkr => ?_, fun g e hd => hd.keep (fun k hk => setCell_other v (by omega)) (setCell_other v (fun e2 => hr (by rw [e, e2])))⟩
  by_cases hkb : k = b
  · subst hkb
    rw [hb] at hk
    injection hk with hk
    exact .inr ⟨hB, cs, _, T, hk.symm, hT, setCell_block hb v, by simp⟩
  · exact .inl (by rw [setCell_other v hkb]; exact hk)
/-- a row of the call's own of another type stays -/
theorem Ch.own {α : Type} {sz : Nat} {f : α → List Value} {hf : ∀ x, (f x).length = sz} {W W' : World} {C T : Nat} {v : Value} {xs : List α} (h : Ch row B B0 X W W') (ho : Own (flat sz f hf) W C T v xs) (hT : T ∉ X) (hr : ∀ g, row = some g → g < C) : Own (flat sz f hf) W' C T v xs := by
  obtain ⟨D, ⟨h1, h2⟩, hel⟩ := ho
  refine ⟨D, ⟨h1, ?_⟩, hel⟩
  rcases h2 with h2 | ⟨g, cap, cur, hv, hg, hh, r⟩
  · exact .inl h2
  · exact .inr ⟨g, cap, cur, hv, hg, h.other hh (fun e => by have := hr g e.symm; omega) hT, r⟩

/-- a natural number below n -/
def NatF (n : Nat) : Value → World → Prop := fun v _ => ∃ j : Nat, j < n ∧ v = .int .i64 j
theorem NatF.stb {E : World → World → Prop} {n : Nat} : Stb E (NatF n) := fun _ _ _ _ h => h
/-- a pointer at a block of type T with n cells, made since C -/
def BoxF (C T n : Nat) : Value → World → Prop := fun v W => ∃ q cs, v = .pointer (some ⟨q, 0, none⟩) ∧ C ≤ q ∧ W.heap[q]? = some (.cells cs T (0, 0)) ∧ cs.size = n
theorem BoxF.stb {C T n : Nat} (hr : ∀ g, row = some g → g < C) : Stb (Ch row B B0 X) (BoxF C T n) := by
  rintro v W W' he ⟨q, cs, rfl, hq, hb, hn⟩
  obtain ⟨cs', h1, h2⟩ := he.kind hb (fun e => by have := hr q e.symm; omega)
  exact ⟨q, cs', rfl, hq, h1, h2.trans hn⟩
/-- an address in a block of type T that holds cs, made since C -/
def LitF (C T : Nat) (cs : Array Value) : Value → World → Prop := fun v W => ∃ q, v = .slice (some ⟨q, 0, none⟩) cs.size cs.size ∧ C ≤ q ∧ W.heap[q]? = some (.cells cs T (0, 0))
theorem LitF.stb {C T : Nat} {cs : Array Value} (hT : T ∉ X) (hr : ∀ g, row = some g → g < C) : Stb (Ch row B B0 X) (LitF C T cs) := by
  rintro v W W' he ⟨q, rfl, hq, hb⟩
  exact ⟨q, rfl, hq, he.other hb (fun e => by have := hr q e.symm; omega) hT⟩
end
end Go.Proofs.Ytchdmemgkegefaa
