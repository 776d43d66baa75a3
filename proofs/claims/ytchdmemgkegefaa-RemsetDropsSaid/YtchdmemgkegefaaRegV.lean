/- A region that draws its order, by facts on the value that each operation leaves: with guards, with a relation E of worlds that only goes one way. No condition. -/
import Derived.Test.YtchdmemgkegefaaReg
import Derived.Test.YtchdmemgkegefaaBase
namespace Go.Proofs.Ytchdmemgkegefaa
open Go.RowKit

def fAt (Fs : List (Value → World → Prop)) (j : Nat) : Value → World → Prop := (Fs[j]?).getD fun _ _ => True
def Stb (E : World → World → Prop) (f : Value → World → Prop) : Prop := ∀ v W W', E W W' → f v W → f v W'
theorem Stb.fAt {E : World → World → Prop} {Fs : List (Value → World → Prop)} (h : ∀ f ∈ Fs, Stb E f) (j : Nat) : Stb E (fAt Fs j) := by
  unfold Go.Proofs.Ytchdmemgkegefaa.fAt
  cases hj : Fs[j]? with
  | none => exact fun _ _ _ _ _ => trivial
  | some f => exact h f (List.mem_of_getElem? hj)
def Is (x : Value) : Value → World → Prop := fun v _ => v = x
theorem Stb.is {E : World → World → Prop} {x : Value} : Stb E (Is x) := fun _ _ _ _ h => h
theorem by_is {o : Option Value} {x : Value} {W : World} (h : ∃ v, o = some v ∧ Is x v W) : o = some x := by
  obtain ⟨v, h, e⟩ := h
  rw [h]
  exact congrArg some e
def AnyV : Value → World → Prop := fun _ _ => True
theorem Stb.any {E : World → World → Prop} : Stb E AnyV := fun _ _ _ _ _ => trivial
theorem stb_nil {E : World → World → Prop} : ∀ f ∈ ([] : List (Value → World → Prop)), Stb E f := fun _ h => by cases h
theorem stb_cons {E : World → World → Prop} {f : Value → World → Prop} {Fs : List (Value → World → Prop)} (h : Stb E f) (hs : ∀ f ∈ Fs, Stb E f) : ∀ g ∈ f :: Fs, Stb E g := fun g hg => by
  rcases List.mem_cons.1 hg with rfl | hg
  · exact h
  · exact hs g hg

def dstB (ops : Array Oper) (j d : Nat) : Bool := ((ops[j]?).bind (·.dst)) == some d
def depB (ops : Array Oper) (i j d : Nat) : Bool := (deps ops i).contains j && dstB ops j d

def setAllV (l : List Value) : List (Nat × Value) → List Value
  | [] => l
  | (k, u) :: ps => (setAllV l ps).set k u
theorem setAllV_length (l : List Value) (ps : List (Nat × Value)) : (setAllV l ps).length = l.length := by
  induction ps with
  | nil => rfl
  | cons p ps ih => obtain ⟨k, u⟩ := p; simp [setAllV, ih]
theorem setAllV_get (l : List Value) (S : List Nat) (f : Nat → Value) (k : Nat) : (setAllV l (S.map fun k => (k, f k)))[k]? = if k ∈ S ∧ k < l.length then some (f k) else l[k]? := by
  induction S with
  | nil => simp [setAllV]
  | cons s S ih =>
    simp only [List.map_cons, setAllV, List.getElem?_set, setAllV_length]
    by_cases hs : s = k
    · subst hs
      by_cases hl : s < l.length
      · simp [hl]
      · simp [hl]
    · rw [if_neg hs, ih]
      have : (k ∈ s :: S) ↔ k ∈ S := by simp [Ne.symm hs]
      simp only [this]

section
variable {P : Program} {ops : Array Oper} {Q : Exit → Act → World → Prop}

theorem dstB_spec {j d : Nat} (h : dstB ops j d = true) : ∃ o, ops[j]? = some o ∧ o.dst = some d := by
  unfold dstB at h
  cases ho : ops[j]? with
  | none => rw [ho] at h; simp at h
  | some o => rw [ho] at h; exact ⟨o, rfl, by simpa using h⟩

/-- one step, as a walk sees it -/
def VStep (P : Program) (ops : Array Oper) (Q : Exit → Act → World → Prop) (a0 : Act) (w0 : World) (E : World → World → Prop) (Fs : List (Value → World → Prop)) (i : Nat) : Prop :=
  RStep P ops Q a0 (fun W => E w0 W) E (fAt Fs) i

theorem VStep.mk {a0 : Act} {w0 : World} {E : World → World → Prop} (ht : ∀ A B C, E A B → E B C → E A C) {Fs : List (Value → World → Prop)} {i : Nat} {o : Oper} (ho : ops[i]? = some o) (hg : o.guard = none)
    (h : ∀ t W, (∀ k, writes ops k = false → t[k]? = a0.tmps[k]?) → E w0 W → (∀ j d, depB ops i j d = true → ∃ v, t[d]? = some v ∧ fAt Fs j v W) →
      ∀ K : Act → World → Prop, Shut (∀ v W', E W W' → fAt Fs i v W' → K ((⟨t, a0.defers⟩ : Act).put o.dst v) W') → Oper.wp P o ⟨t, a0.defers⟩ W K Q) : VStep P ops Q a0 w0 E Fs i := by
  intro o' ho' a w hd hout hG hdep K hK
  rw [ho] at ho'
  injection ho' with ho'
  subst ho'
  obtain ⟨t, ds⟩ := a
  obtain rfl : ds = a0.defers := hd
  rw [if_pos (by unfold Region.wanted; rw [hg])]
  refine h t w hout hG (fun j d hj => ?_) K fun v W' he hf => hK v W' (ht _ _ _ hG he) he hf
  unfold depB at hj
  rw [Bool.and_eq_true] at hj
  obtain ⟨oj, hoj, hdj⟩ := dstB_spec hj.2
  obtain ⟨v, hv, hF⟩ := hdep j (by simpa using hj.1) oj hoj
  exact ⟨v, hv d hdj, hF⟩

/-- a guarded operation whose guard holds -/
theorem VStep.mkG {a0 : Act} {w0 : World} {E : World → World → Prop} (ht : ∀ A B C, E A B → E B C → E A C) {Fs : List (Value → World → Prop)} {i : Nat} {o : Oper} {g dg : Nat} {b : Bool} (ho : ops[i]? = some o) (hg : o.guard = some (g, b)) (hgd : depB ops i g dg = true)
    (hF : ∀ v W, fAt Fs g v W → v = .bool b)
    (h : ∀ t W, (∀ k, writes ops k = false → t[k]? = a0.tmps[k]?) → E w0 W → (∀ j d, depB ops i j d = true → ∃ v, t[d]? = some v ∧ fAt Fs j v W) →
      ∀ K : Act → World → Prop, Shut (∀ v W', E W W' → fAt Fs i v W' → K ((⟨t, a0.defers⟩ : Act).put o.dst v) W') → Oper.wp P o ⟨t, a0.defers⟩ W K Q) : VStep P ops Q a0 w0 E Fs i := by
  intro o' ho' a w hd hout hG hdep K hK
  rw [ho] at ho'
  injection ho' with ho'
  subst ho'
  obtain ⟨t, ds⟩ := a
  obtain rfl : ds = a0.defers := hd
  have key : ∀ j d, depB ops i j d = true → ∃ v, t[d]? = some v ∧ fAt Fs j v w := fun j d hj => by
    unfold depB at hj
    rw [Bool.and_eq_true] at hj
    obtain ⟨oj, hoj, hdj⟩ := dstB_spec hj.2
    obtain ⟨v, hv, hF⟩ := hdep j (by simpa using hj.1) oj hoj
    exact ⟨v, hv d hdj, hF⟩
  have hy : yielded ops t g = some b := by
    obtain ⟨v, hv, hf⟩ := key g dg hgd
    unfold depB at hgd
    rw [Bool.and_eq_true] at hgd
    obtain ⟨og, hog, hdg⟩ := dstB_spec hgd.2
    rw [hF v w hf] at hv
    unfold yielded
    rw [hog, Option.bind_some, hdg, Option.bind_some, hv]
  rw [if_pos (by unfold Region.wanted; rw [hg]; dsimp only; rw [hy]; simp)]
  exact h t w hout hG key K fun v W' he hf => hK v W' (ht _ _ _ hG he) he hf

/-- a guarded operation whose guard does not hold -/
theorem VStep.mkN {a0 : Act} {w0 : World} {E : World → World → Prop} (hr : ∀ A, E A A) {Fs : List (Value → World → Prop)} {i : Nat} {o : Oper} {g dg : Nat} {b : Bool} (ho : ops[i]? = some o) (hg : o.guard = some (g, b)) (hgd : depB ops i g dg = true)
    (hF : ∀ v W, fAt Fs g v W → v = .bool (!b)) (hu : ∀ W, fAt Fs i undef W) : VStep P ops Q a0 w0 E Fs i := by
  intro o' ho' a w hd hout hG hdep K hK
  rw [ho] at ho'
  injection ho' with ho'
  subst ho'
  have hy : yielded ops a.tmps g = some (!b) := by
    unfold depB at hgd
    rw [Bool.and_eq_true] at hgd
    obtain ⟨og, hog, hdg⟩ := dstB_spec hgd.2
    obtain ⟨v, hv, hf⟩ := hdep g (by simpa using hgd.1) og hog
    rw [hF v w hf] at hv
    unfold yielded
    rw [hog, Option.bind_some, hdg, Option.bind_some, hv dg hdg]
  rw [if_neg (by unfold Region.wanted; rw [hg]; dsimp only; rw [hy]; cases b <;> simp)]
  exact hK undef w hG (hr w) (hu w)

def VSteps (P : Program) (ops : Array Oper) (Q : Exit → Act → World → Prop) (a0 : Act) (w0 : World) (E : World → World → Prop) (Fs : List (Value → World → Prop)) (k : Nat) : Prop :=
  ∀ i, k ≤ i → i < ops.size → VStep P ops Q a0 w0 E Fs i
theorem VSteps.cons {a0 : Act} {w0 : World} {E : World → World → Prop} {Fs : List (Value → World → Prop)} {k : Nat} (h : VStep P ops Q a0 w0 E Fs k) (hs : VSteps P ops Q a0 w0 E Fs (k + 1)) : VSteps P ops Q a0 w0 E Fs k :=
  fun i h1 h2 => by
    rcases Nat.eq_or_lt_of_le h1 with rfl | h1
    · exact h
    · exact hs i h1 h2
theorem VSteps.nil {a0 : Act} {w0 : World} {E : World → World → Prop} {Fs : List (Value → World → Prop)} {k : Nat} (hk : ops.size ≤ k) : VSteps P ops Q a0 w0 E Fs k := fun i h1 h2 => by omega

/-- THE LAW -/
theorem wp_region_vals {id : Nat} {l : List Value} {ds : List Deferred} {w : World} (hm : P.follows .mixedOrders = true) (E : World → World → Prop) (hd : E w w.drew)
    (S : List Nat) (Fs : List (Value → World → Prop)) (hst : ∀ f ∈ Fs, Stb E f) (hn : apartB l.length ops = true) (hb : backB ops = true) (hS : ops.toList.filterMap (·.dst) = S)
    (hs : VSteps P ops Q ⟨l.toArray, ds⟩ w E Fs 0)
    (hf : ∀ (f : Nat → Value) (W : World), E w W → (∀ j d, dstB ops j d = true → fAt Fs j (f d) W) → Q .normal ⟨(setAllV l (S.map fun k => (k, f k))).toArray, ds⟩ W) :
    (Code.region id ops true).wp P Q ⟨l.toArray, ds⟩ w := by
  refine wp_region_facts hm (fun W => E w W) E (fAt Fs) (by simpa using hn) hb (fun j v W W' => Stb.fAt hst j v W W') hd hs ?_
  rintro ⟨t, ds'⟩ W' ⟨hsz, hdf, hout, hg, hF⟩
  obtain rfl : ds' = ds := hdf
  simp at hsz hout
  have hw : ∀ k, k ∉ S → writes ops k = false := fun k hk => by
    unfold writes
    rw [List.any_eq_false]
    intro o ho hdo
    refine hk ?_
    rw [← hS]
    exact List.mem_filterMap.2 ⟨o, ho, by simpa using hdo⟩
  have hall : t = (setAllV l (S.map fun k => (k, t.getD k undef))).toArray := by
    apply Array.ext'
    apply List.ext_getElem?
    intro k
    rw [setAllV_get]
    split
    · rename_i hk
      have hk2 : k < t.size := by omega
      simp [Array.getD, hk2]
    · rename_i hk
      by_cases hk1 : k ∈ S
      · have h1 : ¬ k < l.length := fun h2 => hk ⟨hk1, h2⟩
        rw [List.getElem?_eq_none (by simp; omega), List.getElem?_eq_none (by omega)]
      · have := hout k (hw k hk1)
        simpa using this
  have key := hf (fun k => t.getD k undef) W' hg fun j d hj => by
    obtain ⟨o, ho, hdo⟩ := dstB_spec hj
    obtain ⟨v, hv, hFv⟩ := hF j o ho (by
      have : j < ops.size := by
        rcases Nat.lt_or_ge j ops.size with h' | h'
        · exact h'
        · rw [Array.getElem?_eq_none h'] at ho; cases ho
      simp [Array.getD, this])
    have := hv d hdo
    rw [Array.getD_eq_getD_getElem?, this]
    exact hFv
  rw [← hall] at key
  exact key
end

/-- worlds that only grow -/
def Grw (W W' : World) : Prop := Below W.heap.size W W'
theorem Grw.refl (W : World) : Grw W W := Below.refl _ _
theorem Grw.trans (A B C : World) (h : Grw A B) (k : Grw B C) : Grw A C := Below.trans h (Below.mono k h.size)
theorem Grw.drew (W : World) : Grw W W.drew := (Below.refl _ _).drew
theorem Stb.rd {α : Type} {E : El α} {xs : List α} : Stb Grw fun v W => Rd E W v xs := fun _ _ _ h r => r.below h
theorem Stb.own {α : Type} {E : El α} {B T : Nat} {xs : List α} : Stb Grw fun v W => Own E W B T v xs := fun _ _ _ h r => r.below h
end Go.Proofs.Ytchdmemgkegefaa
