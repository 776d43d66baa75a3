/- A region that draws its order, by facts on what each operation leaves: one obligation for each operation, in whatever order they come up. -/
import Derived.RegionTactic
import Derived.Deep.RegionHeld
namespace Go.Proofs.Ytchdmemgkegefaa

/-- the operations that number i waits for -/
def deps (ops : Array Oper) (i : Nat) : List Nat := ((ops[i]?).map (fun o => (o.after.toList.filter (fun e => Region.binds .any e)).map (·.on))).getD []
/-- each waits for earlier ones alone -/
def backB (ops : Array Oper) : Bool := (List.range ops.size).all fun i => (deps ops i).all fun d => decide (d < i)
def writes (ops : Array Oper) (k : Nat) : Bool := ops.toList.any fun o => o.dst == some k
/-- no two write one slot, and each slot exists -/
def apartB (n : Nat) (ops : Array Oper) : Bool := (List.range ops.size).all fun i => (match (ops[i]?).bind (·.dst) with
  | none => true
  | some d => decide (d < n) && (List.range ops.size).all fun j => decide (j = i) || ((ops[j]?).bind (·.dst) != some d))

theorem backB_spec {ops : Array Oper} (h : backB ops = true) {i : Nat} {o : Oper} (ho : ops[i]? = some o) {e : Edge} (he : e ∈ o.after) (hb : Region.binds .any e = true) : e.on < i := by
  unfold backB at h
  rw [List.all_eq_true] at h
  have hi : i < ops.size := by
    rcases Nat.lt_or_ge i ops.size with h' | h'
    · exact h'
    · rw [Array.getElem?_eq_none h'] at ho; cases ho
  have := h i (List.mem_range.2 hi)
  rw [List.all_eq_true] at this
  have h2 := this e.on (by
    unfold deps; rw [ho]; simp only [Option.map_some, Option.getD_some, List.mem_map, List.mem_filter]
    exact ⟨e, ⟨by simpa using he, hb⟩, rfl⟩)
  simpa using h2

theorem apartB_spec {n : Nat} {ops : Array Oper} (h : apartB n ops = true) {i : Nat} {o : Oper} (ho : ops[i]? = some o) {d : Nat} (hd : o.dst = some d) :
    d < n ∧ ∀ j oj, ops[j]? = some oj → j ≠ i → oj.dst ≠ some d := by
  unfold apartB at h
  rw [List.all_eq_true] at h
  have hlt : ∀ {i : Nat} {o : Oper}, ops[i]? = some o → i < ops.size := fun {i o} ho => by
    rcases Nat.lt_or_ge i ops.size with h' | h'
    · exact h'
    · rw [Array.getElem?_eq_none h'] at ho; cases ho
  have h1 := h i (List.mem_range.2 (hlt ho))
  rw [ho] at h1
  simp only [Option.bind_some, hd, Bool.and_eq_true, decide_eq_true_eq, List.all_eq_true] at h1
  refine ⟨h1.1, fun j oj hj hne hdj => ?_⟩
  have h2 := h1.2 j (List.mem_range.2 (hlt hj))
  rw [hj] at h2
  simp [hne, hdj] at h2

section
variable {P : Program} {ops : Array Oper} {Q : Exit → Act → World → Prop}

/-- what stands about the slots: those that the region does not write are as they were; those of listed operations have their facts -/
structure RFacts (ops : Array Oper) (a0 : Act) (G : World → Prop) (F : Nat → Value → World → Prop) (L : Array Bool) (a : Act) (w : World) : Prop where
  size : a.tmps.size = a0.tmps.size
  defers : a.defers = a0.defers
  out : ∀ k, writes ops k = false → a.tmps[k]? = a0.tmps[k]?
  g : G w
  f : ∀ i o, ops[i]? = some o → L.getD i false = true → ∃ v, (∀ d, o.dst = some d → a.tmps[d]? = some v) ∧ F i v w

theorem put_same {a : Act} {d k : Nat} {v : Value} (h : d ≠ k) : (a.put (some d) v).tmps[k]? = a.tmps[k]? := by
  simp [Act.put, h]
theorem put_here {a : Act} {d : Nat} {v : Value} (h : d < a.tmps.size) : (a.put (some d) v).tmps[d]? = some v := by
  simp [Act.put, h]
theorem put_lit {a : Act} {ds : List Deferred} (h : a.defers = ds) (d : Nat) (v : Value) : a.put (some d) v = ⟨a.tmps.setIfInBounds d v, ds⟩ := by subst h; rfl
theorem put_size {a : Act} {d : Option Nat} {v : Value} : (a.put d v).tmps.size = a.tmps.size := by cases d <;> simp [Act.put]
theorem put_defers' {a : Act} {d : Option Nat} {v : Value} : (a.put d v).defers = a.defers := by cases d <;> simp [Act.put]

/-- one step -/
def RStep (P : Program) (ops : Array Oper) (Q : Exit → Act → World → Prop) (a0 : Act) (G : World → Prop) (E : World → World → Prop) (F : Nat → Value → World → Prop) (i : Nat) : Prop :=
  ∀ o, ops[i]? = some o → ∀ a w, a.defers = a0.defers → (∀ k, writes ops k = false → a.tmps[k]? = a0.tmps[k]?) → G w →
    (∀ j ∈ deps ops i, ∀ oj, ops[j]? = some oj → ∃ v, (∀ d, oj.dst = some d → a.tmps[d]? = some v) ∧ F j v w) →
    ∀ K : Act → World → Prop, (∀ v w', G w' → E w w' → F i v w' → K (a.put o.dst v) w') →
      if Region.wanted o (yielded ops a.tmps) = true then Oper.wp P o a w K Q else K (a.put o.dst undef) w

theorem RFacts.put {a0 : Act} {G : World → Prop} {E : World → World → Prop} {F : Nat → Value → World → Prop} {L : Array Bool} {a : Act} {w w' : World}
    (hn : apartB a0.tmps.size ops = true) (hE : ∀ j v w w', E w w' → F j v w → F j v w') (h : RFacts ops a0 G F L a w) {i : Nat} {o : Oper} (ho : ops[i]? = some o) {v : Value} (hg : G w') (he : E w w') (hf : F i v w') :
    RFacts ops a0 G F (L.setIfInBounds i true) (a.put o.dst v) w' := by
  refine ⟨by rw [put_size]; exact h.size, by rw [put_defers']; exact h.defers, fun k hk => ?_, hg, fun j oj hj hl => ?_⟩
  · rw [← h.out k hk]
    cases hd : o.dst with
    | none => rfl
    | some d =>
      refine put_same fun e => ?_
      subst e
      unfold writes at hk
      rw [List.any_eq_false] at hk
      exact hk o (Array.mem_toList_iff.2 (Array.mem_of_getElem? ho)) (by simp [hd])
  · by_cases hji : j = i
    · subst hji
      rw [ho] at hj
      injection hj with hj
      subst hj
      refine ⟨v, fun d hd => ?_, hf⟩
      rw [hd]
      exact put_here (by rw [h.size]; exact (apartB_spec hn ho hd).1)
    · rw [getD_set_ne false (Ne.symm hji)] at hl
      obtain ⟨u, hu, hF⟩ := h.f j oj hj hl
      refine ⟨u, fun d hd => ?_, hE _ _ _ _ he hF⟩
      rw [← hu d hd]
      cases hd' : o.dst with
      | none => rfl
      | some d' =>
        refine put_same fun e => ?_
        subst e
        exact (apartB_spec hn ho hd').2 j oj hj hji hd

theorem ready_nil_all (hb : backB ops = true) {L : Array Bool} (hl : L.size = ops.size) (h : Region.ready .any ops L = []) : ∀ i, i < ops.size → L.getD i false = true := by
  intro i
  induction i using Nat.strongRecOn with
  | _ i ih =>
    intro hi
    cases hL : L.getD i false with
    | true => rfl
    | false =>
      exfalso
      have : i ∈ Region.ready .any ops L := by
        refine mem_ready.2 ⟨?_, ops[i], by simp [hi], fun e he hbn => ?_⟩
        · simp [hl, hi] at hL ⊢; exact hL
        · have := backB_spec hb (by simp [hi] : ops[i]? = some ops[i]) he hbn
          exact ih e.on this (by omega)
      rw [h] at this
      cases this

def cnt (L : Array Bool) : Nat := L.toList.count false
theorem cnt_set {L : Array Bool} {i : Nat} (h : L.getD i true = false) : cnt (L.setIfInBounds i true) + 1 = cnt L := by
  have hi : i < L.size := by
    rcases Nat.lt_or_ge i L.size with h' | h'
    · exact h'
    · simp [Array.getD, Nat.not_lt.2 h'] at h
  have hv : L.toList[i]'(by simpa using hi) = false := by simpa [Array.getD, hi] using h
  unfold cnt
  rw [Array.toList_setIfInBounds, List.count_set (by simpa using hi)]
  have hpos : 0 < L.toList.count false := List.count_pos_iff.2 (by rw [← hv]; exact List.getElem_mem _)
  have hv' : L[i] = false := by simpa using hv
  simp [hv']
  have hp2 : 0 < Array.count false L := by simpa using hpos
  omega

theorem wpAny_facts {a0 : Act} {G : World → Prop} {E : World → World → Prop} {F : Nat → Value → World → Prop}
    (hn : apartB a0.tmps.size ops = true) (hb : backB ops = true) (hE : ∀ j v w w', E w w' → F j v w → F j v w')
    (hs : ∀ i, i < ops.size → RStep P ops Q a0 G E F i)
    (hf : ∀ a w, RFacts ops a0 G F (Array.replicate ops.size true) a w → Q .normal a w) :
    ∀ fuel L a w, L.size = ops.size → cnt L ≤ fuel → RFacts ops a0 G F L a w → wpAny P .any ops Q fuel L a w := by
  have fin : ∀ L a w, L.size = ops.size → RFacts ops a0 G F L a w → Region.ready .any ops L = [] → Q .normal a w := fun L a w hl h hr =>
    hf a w ⟨h.size, h.defers, h.out, h.g, fun i o ho _ => h.f i o ho (ready_nil_all hb hl hr i (by
      rcases Nat.lt_or_ge i ops.size with h' | h'
      · exact h'
      · rw [Array.getElem?_eq_none h'] at ho; cases ho))⟩
  intro fuel
  induction fuel with
  | zero =>
    intro L a w hl hc h
    have hr : Region.ready .any ops L = [] := by
      rw [List.eq_nil_iff_forall_not_mem]
      intro i hi
      have := cnt_set (mem_ready.1 hi).1
      omega
    exact ⟨hr, fin L a w hl h hr⟩
  | succ fuel ih =>
    intro L a w hl hc h
    refine ⟨fin L a w hl h, fun i hi => ?_⟩
    obtain ⟨hun, o, ho, hdep⟩ := mem_ready.1 hi
    have hlt : i < ops.size := by
      rcases Nat.lt_or_ge i ops.size with h' | h'
      · exact h'
      · rw [Array.getElem?_eq_none h'] at ho; cases ho
    refine wpOp_step ho fun K hK => hs i hlt o ho a w h.defers h.out h.g (fun j hj oj hoj => ?_) K fun v w' hg he hF => hK _ _ (ih _ _ _ (by simpa using hl) ?_ (h.put hn hE ho hg he hF))
    · refine h.f j oj hoj ?_
      unfold deps at hj
      rw [ho] at hj
      simp only [Option.map_some, Option.getD_some, List.mem_map, List.mem_filter] at hj
      obtain ⟨e, ⟨he, hbn⟩, rfl⟩ := hj
      exact hdep e (by simpa using he) hbn
    · have := cnt_set hun
      omega

/-- one step of an unguarded operation, as a walk sees it -/
theorem RStep.mk {a0 : Act} {G : World → Prop} {E : World → World → Prop} {F : Nat → Value → World → Prop} {i : Nat} {o : Oper} (ho : ops[i]? = some o) (hg : o.guard = none)
    (h : ∀ a w, a.defers = a0.defers → (∀ k, writes ops k = false → a.tmps[k]? = a0.tmps[k]?) → G w →
      (∀ j, (deps ops i).contains j = true → ∀ oj d, ops[j]? = some oj → oj.dst = some d → ∃ v, a.tmps[d]? = some v ∧ F j v w) →
      ∀ K : Act → World → Prop, Shut (∀ v w', G w' → E w w' → F i v w' → K (a.put o.dst v) w') → Oper.wp P o a w K Q) : RStep P ops Q a0 G E F i := by
  intro o' ho' a w hd hout hG hdep K hK
  rw [ho] at ho'
  injection ho' with ho'
  subst ho'
  rw [if_pos (by unfold Region.wanted; rw [hg])]
  refine h a w hd hout hG (fun j hj oj d hoj hdj => ?_) K hK
  obtain ⟨v, hv, hF⟩ := hdep j (by simpa using hj) oj hoj
  exact ⟨v, hv d hdj, hF⟩

def RSteps (P : Program) (ops : Array Oper) (Q : Exit → Act → World → Prop) (a0 : Act) (G : World → Prop) (E : World → World → Prop) (F : Nat → Value → World → Prop) (k : Nat) : Prop :=
  ∀ i, k ≤ i → i < ops.size → RStep P ops Q a0 G E F i
theorem RSteps.cons {a0 : Act} {G : World → Prop} {E : World → World → Prop} {F : Nat → Value → World → Prop} {k : Nat} (h : RStep P ops Q a0 G E F k) (hs : RSteps P ops Q a0 G E F (k + 1)) : RSteps P ops Q a0 G E F k :=
  fun i h1 h2 => by
    rcases Nat.eq_or_lt_of_le h1 with rfl | h1
    · exact h
    · exact hs i h1 h2
theorem RSteps.nil {a0 : Act} {G : World → Prop} {E : World → World → Prop} {F : Nat → Value → World → Prop} {k : Nat} (hk : ops.size ≤ k) : RSteps P ops Q a0 G E F k := fun i h1 h2 => by omega

/-- THE LAW: E says how the world may change (facts are stable under it), G what stands of every world, F i what operation i leaves. -/
theorem wp_region_facts {id : Nat} {a : Act} {w : World} (hm : P.follows .mixedOrders = true) (G : World → Prop) (E : World → World → Prop) (F : Nat → Value → World → Prop)
    (hn : apartB a.tmps.size ops = true) (hb : backB ops = true) (hE : ∀ j v w w', E w w' → F j v w → F j v w') (h0 : G w.drew)
    (hs : RSteps P ops Q a G E F 0)
    (hf : ∀ a' w', RFacts ops a G F (Array.replicate ops.size true) a' w' → Q .normal a' w') : (Code.region id ops true).wp P Q a w := by
  refine wp_region_any hm (wpAny_facts hn hb hE (fun i hi => hs i (Nat.zero_le _) hi) hf ops.size (Array.replicate ops.size false) a w.drew (by simp) (by simp [cnt]) ⟨rfl, rfl, fun _ _ => rfl, h0, fun i o ho hl => ?_⟩)
  exfalso
  simp [Array.getD] at hl

/-- the frame behind it, slots m to m + n being those that it writes -/
theorem RFacts.frame {a0 : Act} {G : World → Prop} {F : Nat → Value → World → Prop} {L : Array Bool} {a : Act} {w : World} (h : RFacts ops a0 G F L a w) {l : List Value} {ds : List Deferred} (ha : a0 = ⟨l.toArray, ds⟩) (m n : Nat)
    (hw : ∀ k, (k < m ∨ m + n ≤ k) → writes ops k = false) (hl : m + n ≤ l.length) : ∃ us : List Value, us.length = n ∧ a = ⟨(l.take m ++ us ++ l.drop (m + n)).toArray, ds⟩ ∧ ∀ k, k < n → us[k]? = a.tmps[m + k]? := by
  subst ha
  refine ⟨(a.tmps.toList.drop m).take n, ?_, ?_, fun k hk => ?_⟩
  · have := h.size; simp at this ⊢; omega
  · have hs := h.size
    have hd := h.defers
    obtain ⟨t, d⟩ := a
    simp at hs hd
    subst hd
    congr 1
    apply Array.ext'
    apply List.ext_getElem?
    intro k
    have ho := h.out k
    simp at ho
    simp only [List.getElem?_append, List.length_take, List.length_append, List.length_drop, List.getElem?_take, List.getElem?_drop, Array.length_toList]
    by_cases h1 : k < m
    · have := ho (hw k (.inl h1))
      simp [h1, show k < min m l.length by omega, show k < min m l.length + min n (t.size - m) by omega, this]
    · by_cases h2 : k < m + n
      · have e : m + (k - min m l.length) = k := by omega
        simp [show ¬ k < min m l.length by omega, show k < min m l.length + min n (t.size - m) by omega, show k - min m l.length < n by omega, e]
      · have := ho (hw k (.inr (by omega)))
        have e : m + n + (k - (min m l.length + min n (t.size - m))) = k := by omega
        simp [show ¬ k < min m l.length + min n (t.size - m) by omega, e, this]
  · simp [hk]
theorem list_next {us : List Value} {n : Nat} (h : us.length = n + 1) : ∃ u us', us = u :: us' ∧ us'.length = n := by
  match us, h with
  | u :: us', h => exact ⟨u, us', rfl, by simpa using h⟩
theorem list_none {us : List Value} (h : us.length = 0) : us = [] := List.length_eq_zero_iff.1 h
end
end Go.Proofs.Ytchdmemgkegefaa
