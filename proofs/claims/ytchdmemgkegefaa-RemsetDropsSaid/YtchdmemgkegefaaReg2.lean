/- A region that draws its order, by facts that may speak of several slots; how the world changes is told operation by operation. -/
import Derived.Test.YtchdmemgkegefaaReg
namespace Go.Proofs.Ytchdmemgkegefaa

section
variable {P : Program} {ops : Array Oper} {Q : Exit → Act → World → Prop}

/-- the slots that fact j speaks of: its own, or those of operations that j waits for -/
def locB (ops : Array Oper) (loc : Nat → List Nat) : Bool := (List.range ops.size).all fun j => (loc j).all fun d => (((ops[j]?).bind (·.dst)) == some d) || (deps ops j).any fun k => ((ops[k]?).bind (·.dst)) == some d

/-- which operations have come up, one more -/
def upd (L : Nat → Bool) (i : Nat) : Nat → Bool := fun j => if j = i then true else L j

structure RFacts2 (ops : Array Oper) (a0 : Act) (G : (Nat → Bool) → World → Prop) (F : Nat → Act → World → Prop) (L : Array Bool) (a : Act) (w : World) : Prop where
  size : a.tmps.size = a0.tmps.size
  defers : a.defers = a0.defers
  out : ∀ k, writes ops k = false → a.tmps[k]? = a0.tmps[k]?
  g : G (fun j => L.getD j false) w
  f : ∀ i, i < ops.size → L.getD i false = true → F i a w

def RStep2 (P : Program) (ops : Array Oper) (Q : Exit → Act → World → Prop) (a0 : Act) (G : (Nat → Bool) → World → Prop) (E : Nat → World → World → Prop) (F : Nat → Act → World → Prop) (i : Nat) : Prop :=
  ∀ o, ops[i]? = some o → ∀ a w, a.defers = a0.defers → a.tmps.size = a0.tmps.size → (∀ k, writes ops k = false → a.tmps[k]? = a0.tmps[k]?) → ∀ L : Nat → Bool, L i = false → (∀ j, (deps ops j).contains i = true → L j = false) → G L w → (∀ j ∈ deps ops i, j < ops.size → F j a w) →
    ∀ K : Act → World → Prop, (∀ v w', G (upd L i) w' → E i w w' → F i (a.put o.dst v) w' → K (a.put o.dst v) w') →
      if Region.wanted o (yielded ops a.tmps) = true then Oper.wp P o a w K Q else K (a.put o.dst undef) w

theorem lt_of_some {i : Nat} {o : Oper} (ho : ops[i]? = some o) : i < ops.size := by
  rcases Nat.lt_or_ge i ops.size with h' | h'
  · exact h'
  · rw [Array.getElem?_eq_none h'] at ho; cases ho

theorem mem_deps {i j : Nat} {o : Oper} (ho : ops[i]? = some o) (hj : j ∈ deps ops i) : ∃ e ∈ o.after, Region.binds .any e = true ∧ e.on = j := by
  unfold deps at hj
  rw [ho] at hj
  simp only [Option.map_some, Option.getD_some, List.mem_map, List.mem_filter] at hj
  obtain ⟨e, ⟨he, hbn⟩, h⟩ := hj
  exact ⟨e, by simpa using he, hbn, h⟩

/-- every listed operation's predecessors are listed -/
def Shuts (ops : Array Oper) (L : Array Bool) : Prop := ∀ j, L.getD j false = true → ∀ k ∈ deps ops j, L.getD k false = true

theorem RFacts2.put {a0 : Act} {G : (Nat → Bool) → World → Prop} {E : Nat → World → World → Prop} {F : Nat → Act → World → Prop} {loc : Nat → List Nat} {L : Array Bool} {a : Act} {w w' : World}
    (hn : apartB a0.tmps.size ops = true) (hl : locB ops loc = true) (hloc : ∀ j a d v w, d ∉ loc j → F j a w → F j (a.put (some d) v) w)
    (hE : ∀ i j a w w', i ≠ j → (deps ops j).contains i = false → E i w w' → F j a w → F j a w') (hsh : Shuts ops L)
    (h : RFacts2 ops a0 G F L a w) {i : Nat} {o : Oper} (ho : ops[i]? = some o) (hun : L.getD i true = false) {v : Value} (hg : G (upd (fun j => L.getD j false) i) w') (he : E i w w') (hf : F i (a.put o.dst v) w') :
    RFacts2 ops a0 G F (L.setIfInBounds i true) (a.put o.dst v) w' := by
  have hi := lt_of_some ho
  have hiL : i < L.size := by
    rcases Nat.lt_or_ge i L.size with h' | h'
    · exact h'
    · simp [Array.getD, Nat.not_lt.2 h'] at hun
  have hupd : (fun j => (L.setIfInBounds i true).getD j false) = upd (fun j => L.getD j false) i := by
    funext j
    unfold upd
    by_cases hj : j = i
    · subst hj; simp [hiL]
    · rw [if_neg hj, getD_set_ne false (Ne.symm hj)]
  refine ⟨by rw [put_size]; exact h.size, by rw [put_defers']; exact h.defers, fun k hk => ?_, by rw [hupd]; exact hg, fun j hj hlj => ?_⟩
  · rw [← h.out k hk]
    cases hd : o.dst with
    | none => rfl
    | some d =>
      refine put_same fun e => ?_
      subst e
      unfold writes at hk
      rw [List.any_eq_false] at hk
      exact hk o (Array.mem_toList_iff.2 (Array.mem_of_getElem? ho)) (by simp [hd])
  · by_cases hji : j = i
    · subst hji; exact hf
    · rw [getD_set_ne false (Ne.symm hji)] at hlj
      have hFj := h.f j hj hlj
      have hunf : L.getD i false = false := by
        by_cases hlt : i < L.size
        · simpa [Array.getD, hlt] using hun
        · simp [Array.getD, hlt]
      have hnd : ∀ k, k = j ∨ k ∈ deps ops j → k ≠ i := by
        rintro k hk rfl
        have : L.getD k false = true := by
          rcases hk with rfl | hk
          · exact hlj
          · exact hsh j hlj k hk
        rw [hunf] at this
        cases this
      refine hE i j _ _ _ (Ne.symm hji) ?_ he ?_
      · cases hc : (deps ops j).contains i with
        | false => rfl
        | true => exact absurd rfl (hnd i (.inr (by simpa using hc)))
      · cases hd : o.dst with
        | none => exact hFj
        | some d =>
          refine hloc j a d v w (fun hm => ?_) hFj
          unfold locB at hl
          rw [List.all_eq_true] at hl
          have h1 := hl j (List.mem_range.2 hj)
          rw [List.all_eq_true] at h1
          have h2 := h1 d hm
          have hap := (apartB_spec hn ho hd).2
          have key : ∀ k, k = j ∨ k ∈ deps ops j → ((ops[k]?).bind (·.dst)) ≠ some d := by
            intro k hk hkd
            cases hok : ops[k]? with
            | none => rw [hok] at hkd; simp at hkd
            | some ok => rw [hok] at hkd; exact hap k ok hok (hnd k hk) (by simpa using hkd)
          simp only [Bool.or_eq_true, beq_iff_eq, List.any_eq_true] at h2
          rcases h2 with h2 | ⟨k, hk, h2⟩
          · exact key j (.inl rfl) h2
          · exact key k (.inr hk) h2

theorem wpAny_facts2 {a0 : Act} {G : (Nat → Bool) → World → Prop} {E : Nat → World → World → Prop} {F : Nat → Act → World → Prop} {loc : Nat → List Nat}
    (hn : apartB a0.tmps.size ops = true) (hb : backB ops = true) (hl : locB ops loc = true) (hloc : ∀ j a d v w, d ∉ loc j → F j a w → F j (a.put (some d) v) w)
    (hE : ∀ i j a w w', i ≠ j → (deps ops j).contains i = false → E i w w' → F j a w → F j a w')
    (hs : ∀ i, i < ops.size → RStep2 P ops Q a0 G E F i)
    (hf : ∀ a w, RFacts2 ops a0 G F (Array.replicate ops.size true) a w → Q .normal a w) :
    ∀ fuel L a w, L.size = ops.size → Shuts ops L → cnt L ≤ fuel → RFacts2 ops a0 G F L a w → wpAny P .any ops Q fuel L a w := by
  have fin : ∀ L a w, L.size = ops.size → RFacts2 ops a0 G F L a w → Region.ready .any ops L = [] → Q .normal a w := fun L a w hl h hr =>
    hf a w ⟨h.size, h.defers, h.out, by
      have : (fun j => (Array.replicate ops.size true).getD j false) = fun j => L.getD j false := by
        funext j
        by_cases hj : j < ops.size
        · rw [ready_nil_all hb hl hr j hj]; simp [Array.getD, hj]
        · simp [Array.getD, hj, hl]
      rw [this]; exact h.g, fun i hi _ => h.f i hi (ready_nil_all hb hl hr i hi)⟩
  intro fuel
  induction fuel with
  | zero =>
    intro L a w hl hsh hc h
    have hr : Region.ready .any ops L = [] := by
      rw [List.eq_nil_iff_forall_not_mem]
      intro i hi
      have := cnt_set (mem_ready.1 hi).1
      omega
    exact ⟨hr, fin L a w hl h hr⟩
  | succ fuel ih =>
    intro L a w hl' hsh hc h
    refine ⟨fin L a w hl' h, fun i hi => ?_⟩
    obtain ⟨hun, o, ho, hdep⟩ := mem_ready.1 hi
    have hlt := lt_of_some ho
    have hunf : L.getD i false = false := by
      by_cases hlt : i < L.size
      · simpa [Array.getD, hlt] using hun
      · simp [Array.getD, hlt]
    have hdn : ∀ j, (deps ops j).contains i = true → L.getD j false = false := fun j hj => by
      cases hL : L.getD j false with
      | false => rfl
      | true =>
        have := hsh j hL i (by simpa using hj)
        rw [hunf] at this
        cases this
    refine wpOp_step ho fun K hK => hs i hlt o ho a w h.defers h.size h.out (fun j => L.getD j false) hunf hdn h.g (fun j hj hjl => ?_) K fun v w' hg he hF => hK _ _ (ih _ _ _ (by simpa using hl') ?_ ?_ (h.put hn hl hloc hE hsh ho hun hg he hF))
    · obtain ⟨e, he, hbn, rfl⟩ := mem_deps ho hj
      exact h.f _ hjl (hdep e he hbn)
    · intro j hj k hk
      by_cases hji : j = i
      · subst hji
        obtain ⟨e, he, hbn, rfl⟩ := mem_deps ho hk
        exact getD_set_true (hdep e he hbn)
      · rw [getD_set_ne false (Ne.symm hji)] at hj
        exact getD_set_true (hsh j hj k hk)
    · have := cnt_set hun
      omega

/-- one step of an unguarded operation, as a walk sees it -/
theorem RStep2.mk {a0 : Act} {G : (Nat → Bool) → World → Prop} {E : Nat → World → World → Prop} {F : Nat → Act → World → Prop} {i : Nat} {o : Oper} (ho : ops[i]? = some o) (hg : o.guard = none)
    (h : ∀ t w, t.size = a0.tmps.size → (∀ k, writes ops k = false → t[k]? = a0.tmps[k]?) → ∀ L : Nat → Bool, L i = false → (∀ j, (deps ops j).contains i = true → L j = false) → G L w → (∀ j, ((deps ops i).contains j && decide (j < ops.size)) = true → F j ⟨t, a0.defers⟩ w) →
      ∀ K : Act → World → Prop, Shut (∀ v w', G (upd L i) w' → E i w w' → F i ((⟨t, a0.defers⟩ : Act).put o.dst v) w' → K ((⟨t, a0.defers⟩ : Act).put o.dst v) w') → Oper.wp P o ⟨t, a0.defers⟩ w K Q) : RStep2 P ops Q a0 G E F i := by
  intro o' ho' a w hd hsz hout L hun hdn hG hdep K hK
  rw [ho] at ho'
  injection ho' with ho'
  subst ho'
  obtain ⟨t, ds⟩ := a
  obtain rfl : ds = a0.defers := hd
  rw [if_pos (by unfold Region.wanted; rw [hg])]
  refine h t w hsz hout L hun hdn hG (fun j hj => ?_) K hK
  rw [Bool.and_eq_true] at hj
  exact hdep j (by simpa using hj.1) (by simpa using hj.2)

def RSteps2 (P : Program) (ops : Array Oper) (Q : Exit → Act → World → Prop) (a0 : Act) (G : (Nat → Bool) → World → Prop) (E : Nat → World → World → Prop) (F : Nat → Act → World → Prop) (k : Nat) : Prop :=
  ∀ i, k ≤ i → i < ops.size → RStep2 P ops Q a0 G E F i
theorem RSteps2.cons {a0 : Act} {G : (Nat → Bool) → World → Prop} {E : Nat → World → World → Prop} {F : Nat → Act → World → Prop} {k : Nat} (h : RStep2 P ops Q a0 G E F k) (hs : RSteps2 P ops Q a0 G E F (k + 1)) : RSteps2 P ops Q a0 G E F k :=
  fun i h1 h2 => by
    rcases Nat.eq_or_lt_of_le h1 with rfl | h1
    · exact h
    · exact hs i h1 h2
theorem RSteps2.nil {a0 : Act} {G : (Nat → Bool) → World → Prop} {E : Nat → World → World → Prop} {F : Nat → Act → World → Prop} {k : Nat} (hk : ops.size ≤ k) : RSteps2 P ops Q a0 G E F k := fun i h1 h2 => by omega

/-- THE LAW -/
theorem wp_region_facts2 {id : Nat} {a : Act} {w : World} (hm : P.follows .mixedOrders = true) (G : (Nat → Bool) → World → Prop) (E : Nat → World → World → Prop) (F : Nat → Act → World → Prop) (loc : Nat → List Nat)
    (hn : apartB a.tmps.size ops = true) (hb : backB ops = true) (hl : locB ops loc = true) (hloc : ∀ j a d v w, d ∉ loc j → F j a w → F j (a.put (some d) v) w)
    (hE : ∀ i j a w w', i ≠ j → (deps ops j).contains i = false → E i w w' → F j a w → F j a w') (h0 : G (fun _ => false) w.drew)
    (hs : RSteps2 P ops Q a G E F 0)
    (hf : ∀ a' w', RFacts2 ops a G F (Array.replicate ops.size true) a' w' → Q .normal a' w') : (Code.region id ops true).wp P Q a w := by
  refine wp_region_any hm (wpAny_facts2 hn hb hl hloc hE (fun i hi => hs i (Nat.zero_le _) hi) hf ops.size (Array.replicate ops.size false) a w.drew (by simp) (fun j hj => ?_) (by simp [cnt]) ⟨rfl, rfl, fun _ _ => rfl, ?_, fun i _ hl => ?_⟩)
  · exfalso; simp [Array.getD] at hj
  · have : (fun j => (Array.replicate ops.size false).getD j false) = fun _ => false := by funext j; simp [Array.getD]
    rw [this]; exact h0
  · exfalso; simp [Array.getD] at hl

theorem RFacts2.all {a0 : Act} {G : (Nat → Bool) → World → Prop} {F : Nat → Act → World → Prop} {a : Act} {w : World} (h : RFacts2 ops a0 G F (Array.replicate ops.size true) a w) {i : Nat} (hi : i < ops.size) : F i a w := h.f i hi (by simp [Array.getD, hi])

/-- the frame behind it, slots m to m + n being those that it writes -/
theorem RFacts2.frame {a0 : Act} {G : (Nat → Bool) → World → Prop} {F : Nat → Act → World → Prop} {L : Array Bool} {a : Act} {w : World} (h : RFacts2 ops a0 G F L a w) {l : List Value} {ds : List Deferred} (ha : a0 = ⟨l.toArray, ds⟩) (m n : Nat)
    (hw : ∀ k, (k < m ∨ m + n ≤ k) → writes ops k = false) (hl : m + n ≤ l.length) : ∃ us : List Value, us.length = n ∧ a = ⟨(l.take m ++ us ++ l.drop (m + n)).toArray, ds⟩ :=
  have ⟨us, h1, h2, _⟩ := RFacts.frame (F := fun _ _ _ => True) (G := fun _ => True) (L := #[]) (w := w) (ops := ops) ⟨h.size, h.defers, h.out, trivial, fun _ _ _ hl => by simp at hl⟩ ha m n hw hl
  ⟨us, h1, h2⟩
end
end Go.Proofs.Ytchdmemgkegefaa
