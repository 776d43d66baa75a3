/- A region that draws its order, by facts on the value that each operation leaves: slots that are written later may be read. No condition. -/
import Derived.Test.YtchdmemgkegefaaRegW
import Derived.Test.YtchdmemgkegefaaRegU
namespace Go.Proofs.Ytchdmemgkegefaa
open Go.RowKit

section
variable {P : Program} {ops : Array Oper} {Q : Exit → Act → World → Prop}

def vAt (ops : Array Oper) (Fs : List (Value → World → Prop)) (j : Nat) : Act → World → Prop := fun a W => ∃ v, (∀ d, dstB ops j d = true → a.tmps[d]? = some v) ∧ fAt Fs j v W
def XStep (P : Program) (ops : Array Oper) (Q : Exit → Act → World → Prop) (a0 : Act) (w0 : World) (E : World → World → Prop) (Fs : List (Value → World → Prop)) (i : Nat) : Prop :=
  RStep3 P ops Q a0 (fun _ W => E w0 W) (fun _ => E) (vAt ops Fs) i

theorem dstB_of {i d : Nat} {o : Oper} (ho : ops[i]? = some o) (h : dstB ops i d = true) : o.dst = some d := by
  unfold dstB at h
  rw [ho] at h
  simpa using h
theorem dstB_lt {i d : Nat} (h : dstB ops i d = true) : i < ops.size := by
  obtain ⟨o, ho, _⟩ := dstB_spec h
  exact lt_of_some ho

theorem xstep_core {a0 : Act} {w0 : World} {E : World → World → Prop} (ht : ∀ A B C, E A B → E B C → E A C) (hr : ∀ A, E A A) {Fs : List (Value → World → Prop)} {i : Nat} {o : Oper} (ho : ops[i]? = some o)
    (h : ∀ t W, t.size = a0.tmps.size → (∀ k, freshB ops i k = true → t[k]? = a0.tmps[k]?) → E w0 W → (∀ j d, depB ops i j d = true → ∃ v, t[d]? = some v ∧ fAt Fs j v W) →
      (Region.wanted o (yielded ops t) = true ∧ ∀ K : Act → World → Prop, Shut (∀ v W', E W W' → fAt Fs i v W' → K ((⟨t, a0.defers⟩ : Act).put o.dst v) W') → Oper.wp P o ⟨t, a0.defers⟩ W K Q) ∨ (Region.wanted o (yielded ops t) = false ∧ fAt Fs i undef W))
    (hn : ∀ d, o.dst = some d → d < a0.tmps.size) : XStep P ops Q a0 w0 E Fs i := by
  intro o' ho' a w hd hsz L hout hun hdn hG hdep K hK
  rw [ho] at ho'
  injection ho' with ho'
  subst ho'
  obtain ⟨t, ds⟩ := a
  obtain rfl : ds = a0.defers := hd
  have hout' : ∀ k, freshB ops i k = true → t[k]? = a0.tmps[k]? := fun k hk => hout k fun j hj => by
    unfold freshB at hk
    rw [List.all_eq_true] at hk
    have := hk j (List.mem_range.2 (dstB_lt hj))
    rw [hj] at this
    simp only [Bool.not_true, Bool.false_or, Bool.or_eq_true, beq_iff_eq] at this
    rcases this with h1 | h1
    · exact hdn j h1
    · subst h1; exact hun
  have key : ∀ j d, depB ops i j d = true → ∃ v, t[d]? = some v ∧ fAt Fs j v w := fun j d hj => by
    unfold depB at hj
    rw [Bool.and_eq_true] at hj
    obtain ⟨v, hv, hF⟩ := hdep j (by simpa using hj.1) (dstB_lt hj.2)
    exact ⟨v, hv d hj.2, hF⟩
  have hput : ∀ v W', E w W' → fAt Fs i v W' → K ((⟨t, a0.defers⟩ : Act).put o.dst v) W' := fun v W' he hf => hK v W' (ht _ _ _ hG he) he ⟨v, fun d hd => by
    rw [dstB_of ho hd]
    exact put_here (by rw [hsz]; exact hn d (dstB_of ho hd)), hf⟩
  rcases h t w hsz hout' hG key with ⟨h1, h2⟩ | ⟨h1, h2⟩
  · rw [if_pos h1]
    exact h2 K hput
  · rw [if_neg (by rw [h1]; simp)]
    exact hput undef w (hr w) h2

theorem XStep.mk {a0 : Act} {w0 : World} {E : World → World → Prop} (ht : ∀ A B C, E A B → E B C → E A C) (hr : ∀ A, E A A) {Fs : List (Value → World → Prop)} {i : Nat} {o : Oper} (ho : ops[i]? = some o) (hg : o.guard = none) (hn : ∀ d, o.dst = some d → d < a0.tmps.size)
    (h : ∀ t W, (∀ k, freshB ops i k = true → t[k]? = a0.tmps[k]?) → E w0 W → (∀ j d, depB ops i j d = true → ∃ v, t[d]? = some v ∧ fAt Fs j v W) →
      ∀ K : Act → World → Prop, Shut (∀ v W', E W W' → fAt Fs i v W' → K ((⟨t, a0.defers⟩ : Act).put o.dst v) W') → Oper.wp P o ⟨t, a0.defers⟩ W K Q) : XStep P ops Q a0 w0 E Fs i :=
  xstep_core ht hr ho (fun t W _ h1 h2 h3 => .inl ⟨by unfold Region.wanted; rw [hg], h t W h1 h2 h3⟩) hn

def boolOf : Value → Option Bool
  | .bool b => some b
  | _ => none
theorem yielded_dep {t : Array Value} {i g dg : Nat} {v : Value} (hgd : depB ops i g dg = true) (h : t[dg]? = some v) : yielded ops t g = boolOf v := by
  unfold depB at hgd
  rw [Bool.and_eq_true] at hgd
  obtain ⟨og, hog, hdg⟩ := dstB_spec hgd.2
  unfold yielded
  rw [hog, Option.bind_some, hdg, Option.bind_some, h]
  clear h
  cases v <;> rfl

theorem XStep.mkG {a0 : Act} {w0 : World} {E : World → World → Prop} (ht : ∀ A B C, E A B → E B C → E A C) (hr : ∀ A, E A A) {Fs : List (Value → World → Prop)} {i : Nat} {o : Oper} {g dg : Nat} {b : Bool} (ho : ops[i]? = some o) (hg : o.guard = some (g, b)) (hn : ∀ d, o.dst = some d → d < a0.tmps.size) (hgd : depB ops i g dg = true)
    (hF : ∀ v W, fAt Fs g v W → v = .bool b)
    (h : ∀ t W, (∀ k, freshB ops i k = true → t[k]? = a0.tmps[k]?) → E w0 W → (∀ j d, depB ops i j d = true → ∃ v, t[d]? = some v ∧ fAt Fs j v W) →
      ∀ K : Act → World → Prop, Shut (∀ v W', E W W' → fAt Fs i v W' → K ((⟨t, a0.defers⟩ : Act).put o.dst v) W') → Oper.wp P o ⟨t, a0.defers⟩ W K Q) : XStep P ops Q a0 w0 E Fs i :=
  xstep_core ht hr ho (fun t W _ h1 h2 h3 => .inl ⟨by
    obtain ⟨v, hv, hf⟩ := h3 g dg hgd
    obtain rfl := hF v W hf
    unfold Region.wanted
    rw [hg]
    dsimp only
    rw [yielded_dep hgd hv]
    simp [boolOf], h t W h1 h2 h3⟩) hn
theorem XStep.mkN {a0 : Act} {w0 : World} {E : World → World → Prop} (ht : ∀ A B C, E A B → E B C → E A C) (hr : ∀ A, E A A) {Fs : List (Value → World → Prop)} {i : Nat} {o : Oper} {g dg : Nat} {b : Bool} (ho : ops[i]? = some o) (hg : o.guard = some (g, b)) (hn : ∀ d, o.dst = some d → d < a0.tmps.size) (hgd : depB ops i g dg = true)
    (hF : ∀ v W, fAt Fs g v W → v = .bool (!b)) (hu : ∀ W, fAt Fs i undef W) : XStep P ops Q a0 w0 E Fs i :=
  xstep_core ht hr ho (fun t W _ h1 h2 h3 => .inr ⟨by
    obtain ⟨v, hv, hf⟩ := h3 g dg hgd
    obtain rfl := hF v W hf
    unfold Region.wanted
    rw [hg]
    dsimp only
    rw [yielded_dep hgd hv]
    cases b <;> simp [boolOf], hu W⟩) hn
theorem XStep.mkU {a0 : Act} {w0 : World} {E : World → World → Prop} (ht : ∀ A B C, E A B → E B C → E A C) (hr : ∀ A, E A A) {Fs : List (Value → World → Prop)} {i : Nat} {o : Oper} {g dg : Nat} {b : Bool} (ho : ops[i]? = some o) (hg : o.guard = some (g, b)) (hn : ∀ d, o.dst = some d → d < a0.tmps.size) (hgd : depB ops i g dg = true)
    (hF : ∀ v W, fAt Fs g v W → v = undef) (hu : ∀ W, fAt Fs i undef W) : XStep P ops Q a0 w0 E Fs i :=
  xstep_core ht hr ho (fun t W _ h1 h2 h3 => .inr ⟨by
    obtain ⟨v, hv, hf⟩ := h3 g dg hgd
    obtain rfl := hF v W hf
    unfold Region.wanted
    rw [hg]
    dsimp only
    rw [yielded_dep hgd hv]
    rfl, hu W⟩) hn

def XSteps (P : Program) (ops : Array Oper) (Q : Exit → Act → World → Prop) (a0 : Act) (w0 : World) (E : World → World → Prop) (Fs : List (Value → World → Prop)) (k : Nat) : Prop :=
  ∀ i, k ≤ i → i < ops.size → XStep P ops Q a0 w0 E Fs i
theorem XSteps.cons {a0 : Act} {w0 : World} {E : World → World → Prop} {Fs : List (Value → World → Prop)} {k : Nat} (h : XStep P ops Q a0 w0 E Fs k) (hs : XSteps P ops Q a0 w0 E Fs (k + 1)) : XSteps P ops Q a0 w0 E Fs k :=
  fun i h1 h2 => by
    rcases Nat.eq_or_lt_of_le h1 with rfl | h1
    · exact h
    · exact hs i h1 h2
theorem XSteps.nil {a0 : Act} {w0 : World} {E : World → World → Prop} {Fs : List (Value → World → Prop)} {k : Nat} (hk : ops.size ≤ k) : XSteps P ops Q a0 w0 E Fs k := fun i h1 h2 => by omega

/-- THE LAW -/
theorem wp_region_valsX {id : Nat} {l : List Value} {ds : List Deferred} {w : World} (hm : P.follows .mixedOrders = true) (E : World → World → Prop) (hd : E w w.drew)
    (S : List Nat) (Fs : List (Value → World → Prop)) (hst : ∀ f ∈ Fs, Stb E f) (hn : apartB l.length ops = true) (hb : backB ops = true) (hS : ops.toList.filterMap (·.dst) = S)
    (hs : (∀ (i : Nat) (o : Oper), ops[i]? = some o → ∀ d, o.dst = some d → d < (⟨l.toArray, ds⟩ : Act).tmps.size) → XSteps P ops Q ⟨l.toArray, ds⟩ w E Fs 0)
    (hf : ∀ (f : Nat → Value) (W : World), E w W → (∀ j d, dstB ops j d = true → fAt Fs j (f d) W) → Q .normal ⟨(setAllV l (S.map fun k => (k, f k))).toArray, ds⟩ W) :
    (Code.region id ops true).wp P Q ⟨l.toArray, ds⟩ w := by
  have hlt : ∀ (i : Nat) (o : Oper), ops[i]? = some o → ∀ d, o.dst = some d → d < (⟨l.toArray, ds⟩ : Act).tmps.size := fun i o ho d hd => (apartB_spec (by simpa using hn) ho hd).1
  refine wp_region_facts3 hm (fun _ W => E w W) (fun _ => E) (vAt ops Fs) (fun j => ((ops[j]?).bind (·.dst)).toList) (by simpa using hn) hb ?_ ?_ ?_ hd (fun i h1 h2 => hs hlt i h1 h2) ?_
  · unfold locB
    rw [List.all_eq_true]
    intro j _
    rw [List.all_eq_true]
    intro d hd
    have : (ops[j]?).bind (·.dst) = some d := by simpa using hd
    rw [this]
    simp
  · rintro j a d v W hd ⟨u, hu, hf⟩
    refine ⟨u, fun d' hd' => ?_, hf⟩
    rw [← hu d' hd']
    refine put_same fun e => ?_
    subst e
    refine hd ?_
    obtain ⟨o, ho, hod⟩ := dstB_spec hd'
    rw [ho]
    simp [hod]
  · rintro i j a W W' _ _ he ⟨u, hu, hf⟩
    exact ⟨u, hu, Stb.fAt hst j u W W' he hf⟩
  · rintro ⟨t, ds'⟩ W' ⟨hsz, hdf, hout, hg, hF⟩
    obtain rfl : ds' = ds := hdf
    simp at hsz hout
    have hall : t = (setAllV l (S.map fun k => (k, t.getD k undef))).toArray := by
      apply Array.ext'
      apply List.ext_getElem?
      intro k
      rw [setAllV_get]
      split
      · rename_i hk
        have hk2 : k < t.size := by omega
        simp [Array.getD, hk2]
      · rename_i hk
        by_cases hk1 : k ∈ S
        · have h1 : ¬ k < l.length := fun h2 => hk ⟨hk1, h2⟩
          rw [List.getElem?_eq_none (by simp; omega), List.getElem?_eq_none (by omega)]
        · have := hout k fun j hj => by
            exfalso
            obtain ⟨o, ho, hod⟩ := dstB_spec hj
            refine hk1 ?_
            rw [← hS]
            exact List.mem_filterMap.2 ⟨o, Array.mem_toList_iff.2 (Array.mem_of_getElem? ho), hod⟩
          simpa using this
    have key := hf (fun k => t.getD k undef) W' hg fun j d hj => by
      obtain ⟨v, hv, hFv⟩ := hF j (dstB_lt hj) (by simp [Array.getD, dstB_lt hj])
      have := hv d hj
      rw [Array.getD_eq_getD_getElem?, this]
      exact hFv
    rw [← hall] at key
    exact key
end
end Go.Proofs.Ytchdmemgkegefaa
