/- A region that draws its order, one operation of which may write a row: ahead of it worlds only grow. No condition. -/
import Derived.Test.YtchdmemgkegefaaReg8
namespace Go.Proofs.Ytchdmemgkegefaa
open Go.RowKit

section
variable {P : Program} {ops : Array Oper} {Q : Exit → Act → World → Prop}

/-- operation i0 writes (E1); the others only grow -/
def WrE (i0 : Nat) (E1 : World → World → Prop) (i : Nat) (W W' : World) : Prop := if i = i0 then E1 W W' else Grw W W'
def WrG (i0 : Nat) (R : World → World → Prop) (w0 : World) (L : Nat → Bool) (W : World) : Prop := if L i0 = true then R w0 W else Grw w0 W

/-- slot k is not written yet where operation i comes up -/
def freshB (ops : Array Oper) (i k : Nat) : Bool := (List.range ops.size).all fun j => !(dstB ops j k) || (deps ops j).contains i || j == i

def WStep (P : Program) (ops : Array Oper) (Q : Exit → Act → World → Prop) (a0 : Act) (w0 : World) (i0 : Nat) (R E1 : World → World → Prop) (Fs : List (Act → World → Prop)) (i : Nat) : Prop :=
  RStep3 P ops Q a0 (WrG i0 R w0) (WrE i0 E1) (fun j => aAt Fs j) i

theorem WStep.mk {a0 : Act} {w0 : World} {i0 : Nat} {R E1 : World → World → Prop} (h1 : ∀ A B, Grw A B → R A B) (h2 : ∀ A B C, R A B → Grw B C → R A C) {Fs : List (Act → World → Prop)} {i : Nat} {o : Oper} (hi : i ≠ i0) (ho : ops[i]? = some o) (hg : o.guard = none)
    (h : ∀ t W, t.size = a0.tmps.size → (∀ k, freshB ops i k = true → t[k]? = a0.tmps[k]?) → R w0 W → (∀ j, depA ops i j = true → aAt Fs j ⟨t, a0.defers⟩ W) →
      ∀ K : Act → World → Prop, Shut (∀ v W', Grw W W' → aAt Fs i ((⟨t, a0.defers⟩ : Act).put o.dst v) W' → K ((⟨t, a0.defers⟩ : Act).put o.dst v) W') → Oper.wp P o ⟨t, a0.defers⟩ W K Q) : WStep P ops Q a0 w0 i0 R E1 Fs i := by
  intro o' ho' a w hd hsz L hout hun hdn hG hdep K hK
  rw [ho] at ho'
  injection ho' with ho'
  subst ho'
  obtain ⟨t, ds⟩ := a
  obtain rfl : ds = a0.defers := hd
  have hout' : ∀ k, freshB ops i k = true → t[k]? = a0.tmps[k]? := fun k hk => hout k fun j hj => by
    obtain ⟨oj, hoj, _⟩ := dstB_spec hj
    have h0 := List.all_eq_true.1 hk j (List.mem_range.2 (lt_of_some hoj))
    rw [hj] at h0
    simp only [Bool.not_true, Bool.false_or, Bool.or_eq_true, beq_iff_eq] at h0
    rcases h0 with h0 | h0
    · exact hdn j h0
    · rw [h0]; exact hun
  rw [if_pos (by unfold Region.wanted; rw [hg])]
  have hR : R w0 w := by
    unfold WrG at hG
    split at hG
    · exact hG
    · exact h1 _ _ hG
  refine h t w hsz hout' hR (fun j hj => ?_) K fun v W' he hf => hK v W' ?_ ?_ hf
  · unfold depA at hj
    rw [Bool.and_eq_true] at hj
    exact hdep j (by simpa using hj.1) (by simpa using hj.2)
  · unfold WrG at hG ⊢
    have : upd L i i0 = L i0 := by unfold upd; rw [if_neg (Ne.symm hi)]
    rw [this]
    split
    · rename_i hl
      rw [if_pos hl] at hG
      exact h2 _ _ _ hG he
    · rename_i hl
      rw [if_neg hl] at hG
      exact Grw.trans _ _ _ hG he
  · unfold WrE
    rw [if_neg hi]
    exact he

theorem WStep.mkW {a0 : Act} {w0 : World} {i0 : Nat} {R E1 : World → World → Prop} (h3 : ∀ A B C, Grw A B → E1 B C → R A C) {Fs : List (Act → World → Prop)} {o : Oper} (ho : ops[i0]? = some o) (hg : o.guard = none)
    (h : ∀ t W, t.size = a0.tmps.size → (∀ k, freshB ops i0 k = true → t[k]? = a0.tmps[k]?) → Grw w0 W → (∀ j, depA ops i0 j = true → aAt Fs j ⟨t, a0.defers⟩ W) →
      ∀ K : Act → World → Prop, Shut (∀ v W', E1 W W' → aAt Fs i0 ((⟨t, a0.defers⟩ : Act).put o.dst v) W' → K ((⟨t, a0.defers⟩ : Act).put o.dst v) W') → Oper.wp P o ⟨t, a0.defers⟩ W K Q) : WStep P ops Q a0 w0 i0 R E1 Fs i0 := by
  intro o' ho' a w hd hsz L hout hun hdn hG hdep K hK
  rw [ho] at ho'
  injection ho' with ho'
  subst ho'
  obtain ⟨t, ds⟩ := a
  obtain rfl : ds = a0.defers := hd
  have hout' : ∀ k, freshB ops i0 k = true → t[k]? = a0.tmps[k]? := fun k hk => hout k fun j hj => by
    obtain ⟨oj, hoj, _⟩ := dstB_spec hj
    have h0 := List.all_eq_true.1 hk j (List.mem_range.2 (lt_of_some hoj))
    rw [hj] at h0
    simp only [Bool.not_true, Bool.false_or, Bool.or_eq_true, beq_iff_eq] at h0
    rcases h0 with h0 | h0
    · exact hdn j h0
    · rw [h0]; exact hun
  rw [if_pos (by unfold Region.wanted; rw [hg])]
  unfold WrG at hG
  rw [if_neg (by rw [hun]; simp)] at hG
  refine h t w hsz hout' hG (fun j hj => ?_) K fun v W' he hf => hK v W' ?_ ?_ hf
  · unfold depA at hj
    rw [Bool.and_eq_true] at hj
    exact hdep j (by simpa using hj.1) (by simpa using hj.2)
  · unfold WrG
    rw [if_pos (by unfold upd; simp)]
    exact h3 _ _ _ hG he
  · unfold WrE
    rw [if_pos rfl]
    exact he

def WSteps (P : Program) (ops : Array Oper) (Q : Exit → Act → World → Prop) (a0 : Act) (w0 : World) (i0 : Nat) (R E1 : World → World → Prop) (Fs : List (Act → World → Prop)) (k : Nat) : Prop :=
  ∀ i, k ≤ i → i < ops.size → WStep P ops Q a0 w0 i0 R E1 Fs i
theorem WSteps.cons {a0 : Act} {w0 : World} {i0 : Nat} {R E1 : World → World → Prop} {Fs : List (Act → World → Prop)} {k : Nat} (h : WStep P ops Q a0 w0 i0 R E1 Fs k) (hs : WSteps P ops Q a0 w0 i0 R E1 Fs (k + 1)) : WSteps P ops Q a0 w0 i0 R E1 Fs k :=
  fun i h1 h2 => by
    rcases Nat.eq_or_lt_of_le h1 with rfl | h1
    · exact h
    · exact hs i h1 h2
theorem WSteps.nil {a0 : Act} {w0 : World} {i0 : Nat} {R E1 : World → World → Prop} {Fs : List (Act → World → Prop)} {k : Nat} (hk : ops.size ≤ k) : WSteps P ops Q a0 w0 i0 R E1 Fs k := fun i h1 h2 => by omega

/-- THE LAW -/
theorem wp_region_wr {id : Nat} {l : List Value} {ds : List Deferred} {w : World} (hm : P.follows .mixedOrders = true) (i0 : Nat) (R E1 : World → World → Prop) (hi0 : i0 < ops.size)
    (S : List Nat) (Fs : List (Act → World → Prop)) (Ls : List (List Nat)) (hloc : LocsOk Ls Fs) (hst : StbA (fun j i => (deps ops j).contains i) (WrE i0 E1) 0 Fs) (hn : apartB l.length ops = true) (hb : backB ops = true) (hl : locB ops (lAt Ls) = true) (hS : ops.toList.filterMap (·.dst) = S)
    (hs : WSteps P ops Q ⟨l.toArray, ds⟩ w i0 R E1 Fs 0)
    (hf : ∀ (f : Nat → Value) (W : World), R w W → (∀ j, decide (j < ops.size) = true → aAt Fs j ⟨(setAllV l (S.map fun k => (k, f k))).toArray, ds⟩ W) → (∀ k, k ∈ S → k < l.length → (setAllV l (S.map fun k => (k, f k))).toArray[k]? = some (f k)) → Q .normal ⟨(setAllV l (S.map fun k => (k, f k))).toArray, ds⟩ W) :
    (Code.region id ops true).wp P Q ⟨l.toArray, ds⟩ w := by
  refine wp_region_facts3 hm (WrG i0 R w) (WrE i0 E1) (fun j => aAt Fs j) (lAt Ls) (by simpa using hn) hb hl (fun j a d v W hdL hF => locs_at hloc j a d v W hdL hF) (fun i j a W W' hij hdp he hF => ?_) ?_ hs ?_
  · have := hst.at j i (by omega) (by simpa using hdp) a W W' he
    exact this hF
  · unfold WrG
    rw [if_neg (by simp)]
    exact Grw.drew _
  rintro ⟨t, ds'⟩ W' ⟨hsz, hdf, hout, hg, hF⟩
  obtain rfl : ds' = ds := hdf
  simp at hsz hout
  have hg' : R w W' := by
    unfold WrG at hg
    rw [if_pos (by simp [Array.getD, hi0])] at hg
    exact hg
  have hall : t = (setAllV l (S.map fun k => (k, t.getD k undef))).toArray := by
    apply Array.ext'
    apply List.ext_getElem?
    intro k
    rw [setAllV_get]
    split
    · rename_i hk
      have hk2 : k < t.size := by omega
      simp [Array.getD, hk2]
    · rename_i hk
      by_cases hk1 : k ∈ S
      · have h1 : ¬ k < l.length := fun h2 => hk ⟨hk1, h2⟩
        rw [List.getElem?_eq_none (by simp; omega), List.getElem?_eq_none (by omega)]
      · have := hout k (fun j hj => by
          obtain ⟨oj, hoj, hdj⟩ := dstB_spec hj
          exact absurd (by rw [← hS]; exact List.mem_filterMap.2 ⟨oj, Array.mem_toList_iff.2 (Array.mem_of_getElem? hoj), hdj⟩) hk1)
        simpa using this
  have key := hf (fun k => t.getD k undef) W' hg' (fun j hj => by
    rw [← hall]
    exact hF j (by simpa using hj) (by have : j < ops.size := by simpa using hj
                                       simp [Array.getD, this])) (fun k hk hkl => by
    rw [← hall]
    have hk2 : k < t.size := by omega
    simp [Array.getD, hk2])
  rw [← hall] at key
  exact key
end
end Go.Proofs.Ytchdmemgkegefaa
