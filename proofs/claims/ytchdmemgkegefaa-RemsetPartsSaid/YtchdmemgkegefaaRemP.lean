/- What inserting does, in plain terms. No condition. -/
import Derived.Test.YtchdmemgkegefaaRemI
import Derived.Test.YtchdmemgkegefaaSam
namespace Go.Proofs.Ytchdmemgkegefaa
open Go.RowKit
set_option linter.unusedVariables false

theorem Bef.trans {a b c : St} (h : Bef a b) (k : Bef b c) : Bef a c := by unfold Bef at *; omega
theorem Bef.irrefl (a : St) : ¬ Bef a a := by unfold Bef; omega
theorem Bef.asymm {a b : St} (h : Bef a b) : ¬ Bef b a := by unfold Bef at *; omega
theorem cmpV_lt {a : St} {fr tq : Int} (h1 : FrOk a.fr) (h2 : FrOk a.to) (h3 : FrOk fr) (h4 : FrOk tq) : cmpV a.fr a.to fr tq < 0 ↔ Bef a ⟨fr, tq, []⟩ := by
  unfold FrOk at *
  unfold cmpV Bef
  have hw1 : IntKind.i64.wrap (a.to - tq) = a.to - tq := IntWalk.i64_in _ (by omega)
  have hw2 : IntKind.i64.wrap (a.fr - fr) = a.fr - fr := IntWalk.i64_in _ (by omega)
  rw [hw1, hw2]
  split <;> simp only <;> omega
theorem cmpV_eq {a : St} {fr tq : Int} (h1 : FrOk a.fr) (h2 : FrOk a.to) (h3 : FrOk fr) (h4 : FrOk tq) : cmpV a.fr a.to fr tq = 0 ↔ a.fr = fr ∧ a.to = tq := by
  unfold FrOk at *
  unfold cmpV
  have hw1 : IntKind.i64.wrap (a.to - tq) = a.to - tq := IntWalk.i64_in _ (by omega)
  have hw2 : IntKind.i64.wrap (a.fr - fr) = a.fr - fr := IntWalk.i64_in _ (by omega)
  rw [hw1, hw2]
  split <;> omega

/-- two ordered lists with the same members are equal -/
theorem sorted_ext {α : Type} {R : α → α → Prop} (hi : ∀ a, ¬ R a a) (ha : ∀ a b, R a b → ¬ R b a) : ∀ (l m : List α), l.Pairwise R → m.Pairwise R → (∀ x, x ∈ l ↔ x ∈ m) → l = m
  | [], [], _, _, _ => rfl
  | [], b :: m, _, _, h => absurd ((h b).2 (by simp)) (by simp)
  | a :: l, [], _, _, h => absurd ((h a).1 (by simp)) (by simp)
  | a :: l, b :: m, hl, hm, h => by
    have hl' := List.pairwise_cons.1 hl
    have hm' := List.pairwise_cons.1 hm
    have hab : a = b := by
      rcases List.mem_cons.1 ((h a).1 (by simp)) with e | e
      · exact e
      · rcases List.mem_cons.1 ((h b).2 (by simp)) with e' | e'
        · exact e'.symm
        · exact absurd (hm'.1 a e) (ha _ _ (hl'.1 b e'))
    subst hab
    congr 1
    refine sorted_ext hi ha l m hl'.2 hm'.2 fun x => ⟨fun hx => ?_, fun hx => ?_⟩
    · rcases List.mem_cons.1 ((h x).1 (by simp [hx])) with e | e
      · subst e; exact absurd (hl'.1 x hx) (hi x)
      · exact e
    · rcases List.mem_cons.1 ((h x).2 (by simp [hx])) with e | e
      · subst e; exact absurd (hm'.1 x hx) (hi x)
      · exact e

theorem SetsOk.pair {xs : List St} (h : SetsOk xs) : xs.Pairwise Bef := by
  refine List.pairwise_iff_getElem.2 fun i j hi hj hij => ?_
  obtain ⟨d, rfl⟩ : ∃ d, j = i + 1 + d := ⟨j - i - 1, by omega⟩
  induction d with
  | zero => exact (h (i + 1) hj).2.2.1 i rfl
  | succ d ih => exact (ih (by omega) (by omega)).trans ((h (i + 1 + d + 1) hj).2.2.1 (i + 1 + d) rfl)
theorem setsOk_iff {xs : List St} : SetsOk xs ↔ (∀ x ∈ xs, FrOk x.fr ∧ FrOk x.to ∧ SlotsOk x.slots) ∧ xs.Pairwise Bef := by
  refine ⟨fun h => ⟨fun x hx => ?_, h.pair⟩, fun ⟨h1, h2⟩ i hi => ?_⟩
  · obtain ⟨i, hi, rfl⟩ := List.mem_iff_getElem.1 hx
    exact ⟨(h i hi).1, (h i hi).2.1, (h i hi).2.2.2⟩
  · have := h1 _ (List.getElem_mem hi)
    refine ⟨this.1, this.2.1, fun m hm => ?_, this.2.2⟩
    subst hm
    exact List.pairwise_iff_getElem.1 h2 m (m + 1) (by omega) hi (by omega)
theorem slotsOk_iff {l : List Int} : SlotsOk l ↔ l ≠ [] ∧ (∀ x ∈ l, 0 ≤ x) ∧ l.Pairwise (· < ·) := by
  refine ⟨fun h => ⟨fun e => ?_, fun x hx => ?_, h.sorted⟩, fun ⟨h1, h2, h3⟩ => ?_⟩
  · obtain ⟨hp, _⟩ := h
    subst e
    simp at hp
  · obtain ⟨i, hi, rfl⟩ := List.mem_iff_getElem.1 hx
    obtain ⟨hp, h0, _⟩ := id h
    rcases Nat.eq_zero_or_pos i with e | e
    · subst e; exact h0
    · have := List.pairwise_iff_getElem.1 h.sorted 0 i hp hi e
      omega
  · have hp := List.length_pos_iff.2 h1
    exact ⟨hp, h2 _ (List.getElem_mem hp), fun k hk => List.pairwise_iff_getElem.1 h3 k (k + 1) (by omega) hk (by omega)⟩

theorem insIdx_eq {α : Type} (x : α) : ∀ (l : List α) (k : Nat), k ≤ l.length → l.insertIdx k x = l.take k ++ x :: l.drop k
  | l, 0, _ => by simp
  | [], k + 1, h => by simp at h
  | a :: l, k + 1, h => by
    rw [List.insertIdx_succ_cons, insIdx_eq x l k (by simpa using h)]
    rfl
theorem mem_insIdx {α : Type} {x y : α} {l : List α} {k : Nat} (h : k ≤ l.length) : y ∈ l.insertIdx k x ↔ y = x ∨ y ∈ l := by
  rw [insIdx_eq x l k h]
  constructor
  · intro hy
    rcases List.mem_append.1 hy with h1 | h1
    · exact .inr (List.mem_of_mem_take h1)
    · rcases List.mem_cons.1 h1 with h2 | h2
      · exact .inl h2
      · exact .inr (List.mem_of_mem_drop h2)
  · rintro (h1 | h1)
    · subst h1; simp
    · rw [← List.take_append_drop k l] at h1
      rcases List.mem_append.1 h1 with h2 | h2
      · exact List.mem_append.2 (.inl h2)
      · exact List.mem_append.2 (.inr (List.mem_cons.2 (.inr h2)))
theorem pairwise_insIdx {α : Type} {R : α → α → Prop} {x : α} {l : List α} {k : Nat} (h : k ≤ l.length) (hp : l.Pairwise R) (h1 : ∀ j (hj : j < l.length), j < k → R l[j] x) (h2 : ∀ j (hj : j < l.length), k ≤ j → R x l[j]) : (l.insertIdx k x).Pairwise R := by
  rw [insIdx_eq x l k h]
  have hp' := hp
  rw [← List.take_append_drop k l] at hp'
  obtain ⟨a1, a2, a3⟩ := List.pairwise_append.1 hp'
  refine List.pairwise_append.2 ⟨a1, List.pairwise_cons.2 ⟨fun y hy => ?_, a2⟩, fun y hy z hz => ?_⟩
  · obtain ⟨j, hj, rfl⟩ := List.mem_iff_getElem.1 hy
    rw [List.getElem_drop]
    exact h2 _ _ (by omega)
  · rcases List.mem_cons.1 hz with e | e
    · subst e
      obtain ⟨j, hj, rfl⟩ := List.mem_iff_getElem.1 hy
      rw [List.getElem_take]
      exact h1 _ _ (by rw [List.length_take] at hj; omega)
    · exact a3 y hy z e

theorem countP_lt {s : Int} : ∀ {l : List Int}, l.Pairwise (· < ·) → ∀ j (hj : j < l.length), l[j] < s ↔ j < l.countP (· < s)
  | [], _, j, hj => absurd hj (Nat.not_lt_zero _)
  | a :: l, h, j, hj => by
    obtain ⟨h1, h2⟩ := List.pairwise_cons.1 h
    by_cases ha : a < s
    · rw [List.countP_cons_of_pos (by simpa using ha)]
      cases j with
      | zero => simpa using ha
      | succ j =>
        rw [List.getElem_cons_succ, countP_lt h2 j (by simpa using hj)]
        omega
    · have h0 : l.countP (· < s) = 0 := List.countP_eq_zero.2 fun x hx => by have := h1 x hx; simp; omega
      rw [List.countP_cons_of_neg (by simpa using ha), h0]
      cases j with
      | zero => simpa using ha
      | succ j =>
        have := h1 _ (List.getElem_mem (show j < l.length by simpa using hj))
        rw [List.getElem_cons_succ]
        omega
theorem slotIns_mem {l : List Int} {s x : Int} : x ∈ slotIns l s ↔ x = s ∨ x ∈ l := by
  unfold slotIns
  split
  · rename_i h
    have h' : s ∈ l := by simpa using h
    exact ⟨.inr, fun h => h.elim (fun e => e ▸ h') id⟩
  · exact mem_insIdx List.countP_le_length
theorem slotIns_ok {l : List Int} {s : Int} (h : SlotsOk l) (hs : 0 ≤ s) : SlotsOk (slotIns l s) := by
  obtain ⟨h1, h2, h3⟩ := slotsOk_iff.1 h
  refine slotsOk_iff.2 ⟨fun e => ?_, fun x hx => ?_, ?_⟩
  · have : s ∈ slotIns l s := slotIns_mem.2 (.inl rfl)
    rw [e] at this
    simp at this
  · rcases slotIns_mem.1 hx with e | e
    · omega
    · exact h2 x e
  · unfold slotIns
    split
    · exact h3
    · rename_i hc
      have hc' : s ∉ l := by simpa using hc
      refine pairwise_insIdx List.countP_le_length h3 (fun j hj hlt => (countP_lt h3 j hj).2 hlt) fun j hj hle => ?_
      have h4 : ¬ l[j] < s := fun h => by have := (countP_lt h3 j hj).1 h; omega
      have h5 : l[j] ≠ s := fun e => hc' (e ▸ List.getElem_mem hj)
      omega
theorem slotIns_len (l : List Int) (s : Int) : (slotIns l s).length ≤ l.length + 1 := by
  unfold slotIns
  split
  · omega
  · rw [List.length_insertIdx]
    split <;> omega

/-- the sets have the slot -/
def Mem3 (xs : List St) (f t s : Int) : Prop := ∃ x ∈ xs, x.fr = f ∧ x.to = t ∧ s ∈ x.slots
/-- where the search ends in valid sets -/
theorem Srch.before {xs : List St} {fr tq : Int} {k : Nat} {ok : Bool} (hs : Srch xs fr tq k ok) (hv : SetsOk xs) (h3 : FrOk fr) (h4 : FrOk tq) : ∀ j (hj : j < xs.length), j < k → Bef xs[j] ⟨fr, tq, []⟩ := by
  intro j hj hlt
  have hb := (cmpV_lt (hv (k - 1) (by have := hs.le; omega)).1 (hv (k - 1) (by have := hs.le; omega)).2.1 h3 h4).1 (hs.lo (k - 1) (by have := hs.le; omega) (by omega))
  rcases Nat.lt_or_eq_of_le (show j ≤ k - 1 by omega) with h | h
  · exact (List.pairwise_iff_getElem.1 hv.pair j (k - 1) hj (by have := hs.le; omega) h).trans hb
  · subst h; exact hb
theorem Srch.behind {xs : List St} {fr tq : Int} {k : Nat} (hs : Srch xs fr tq k false) (hv : SetsOk xs) (h3 : FrOk fr) (h4 : FrOk tq) : ∀ j (hj : j < xs.length), k ≤ j → Bef ⟨fr, tq, []⟩ xs[j] := by
  intro j hj hle
  have hk : k < xs.length := by omega
  have h1 : ¬ Bef xs[k] ⟨fr, tq, []⟩ := fun h => hs.hi hk ((cmpV_lt (hv k hk).1 (hv k hk).2.1 h3 h4).2 h)
  have h2 : ¬ (xs[k].fr = fr ∧ xs[k].to = tq) := fun h => by
    have := hs.ok.2 ⟨hk, (cmpV_eq (hv k hk).1 (hv k hk).2.1 h3 h4).2 h⟩
    cases this
  have hb : Bef ⟨fr, tq, []⟩ xs[k] := by
    unfold Bef at *
    simp only at *
    omega
  rcases Nat.lt_or_eq_of_le hle with h | h
  · exact hb.trans (List.pairwise_iff_getElem.1 hv.pair k j hk hj h)
  · subst h; exact hb
theorem Srch.here {xs : List St} {fr tq : Int} {k : Nat} {ok : Bool} (hs : Srch xs fr tq k ok) (hv : SetsOk xs) (h3 : FrOk fr) (h4 : FrOk tq) : ok = true ↔ ∃ h : k < xs.length, xs[k].fr = fr ∧ xs[k].to = tq := by
  rw [hs.ok]
  exact ⟨fun ⟨h, e⟩ => ⟨h, (cmpV_eq (hv k h).1 (hv k h).2.1 h3 h4).1 e⟩, fun ⟨h, e⟩ => ⟨h, (cmpV_eq (hv k h).1 (hv k h).2.1 h3 h4).2 e⟩⟩

theorem key_uniq {xs : List St} (hp : xs.Pairwise Bef) {x y : St} (hx : x ∈ xs) (hy : y ∈ xs) (h1 : x.fr = y.fr) (h2 : x.to = y.to) : x = y := by
  obtain ⟨i, hi, rfl⟩ := List.mem_iff_getElem.1 hx
  obtain ⟨j, hj, rfl⟩ := List.mem_iff_getElem.1 hy
  rcases Nat.lt_trichotomy i j with h | h | h
  · have := List.pairwise_iff_getElem.1 hp i j hi hj h
    unfold Bef at this
    omega
  · subst h; rfl
  · have := List.pairwise_iff_getElem.1 hp j i hj hi h
    unfold Bef at this
    omega

theorem insRes_ok {xs : List St} {fr tq sl : Int} {k : Nat} {ok : Bool} (h : InsOk xs fr tq sl) (hs : Srch xs fr tq k ok) :
    SetsOk (insRes xs fr tq sl k ok) ∧ (∀ f t s, Mem3 (insRes xs fr tq sl k ok) f t s ↔ (f, t, s) = (fr, tq, sl) ∨ Mem3 xs f t s) ∧ (insRes xs fr tq sl k ok).length ≤ xs.length + 1 ∧
      ∀ n, (∀ x ∈ xs, x.slots.length ≤ n) → ∀ x ∈ insRes xs fr tq sl k ok, x.slots.length ≤ n + 1 := by
  obtain ⟨hv, h3, h4, h0⟩ := h
  obtain ⟨e1, e2⟩ := setsOk_iff.1 hv
  cases ok with
  | true =>
    obtain ⟨hk, hf, ht⟩ := (hs.here hv h3 h4).1 rfl
    have hr : insRes xs fr tq sl k true = xs.set k { xs[k] with slots := slotIns xs[k].slots sl } := by
      unfold insRes
      rw [dif_pos ⟨rfl, hk⟩]
    rw [hr]
    have hin := List.getElem_mem hk
    refine ⟨setsOk_iff.2 ⟨fun x hx => ?_, ?_⟩, fun f t s => ⟨?_, ?_⟩, by rw [List.length_set]; omega, fun n hn x hx => ?_⟩
    · rcases List.mem_or_eq_of_mem_set hx with hx | hx
      · exact e1 x hx
      · subst hx
        exact ⟨(e1 _ hin).1, (e1 _ hin).2.1, slotIns_ok (e1 _ hin).2.2 h0⟩
    · refine List.pairwise_iff_getElem.2 fun i j hi hj hij => ?_
      rw [List.length_set] at hi hj
      have := List.pairwise_iff_getElem.1 e2 i j hi hj hij
      rw [List.getElem_set, List.getElem_set]
      unfold Bef at *
      split
      · rename_i e; subst e
        split
        · omega
        · exact this
      · split
        · rename_i e; subst e
          exact this
        · exact this
    · rintro ⟨x, hx, hxf, hxt, hxs⟩
      rcases List.mem_or_eq_of_mem_set hx with hx | hx
      · exact .inr ⟨x, hx, hxf, hxt, hxs⟩
      · subst hx
        rcases slotIns_mem.1 hxs with e | e
        · left
          simp only at hxf hxt
          rw [← hxf, ← hxt, e, hf, ht]
        · exact .inr ⟨_, hin, hxf, hxt, e⟩
    · rintro (e | ⟨x, hx, hxf, hxt, hxs⟩)
      · injection e with e5 e6
        injection e6 with e6 e7
        subst e5 e6 e7
        exact ⟨_, List.mem_set hk _, hf, ht, slotIns_mem.2 (.inl rfl)⟩
      · by_cases hx2 : x = xs[k]
        · subst hx2
          exact ⟨_, List.mem_set hk _, hxf, hxt, slotIns_mem.2 (.inr hxs)⟩
        · obtain ⟨i, hi, rfl⟩ := List.mem_iff_getElem.1 hx
          have hne : k ≠ i := fun e => hx2 (by subst e; rfl)
          exact ⟨xs[i], List.mem_iff_getElem.2 ⟨i, by rw [List.length_set]; exact hi, List.getElem_set_ne hne _⟩, hxf, hxt, hxs⟩
    · rcases List.mem_or_eq_of_mem_set hx with hx | hx
      · have := hn x hx; omega
      · subst hx
        have h5 := slotIns_len xs[k].slots sl
        have h6 := hn _ hin
        simp only
        omega
  | false =>
    have hr : insRes xs fr tq sl k false = xs.insertIdx k ⟨fr, tq, [sl]⟩ := by
      unfold insRes
      rw [dif_neg (by simp)]
    rw [hr]
    refine ⟨setsOk_iff.2 ⟨fun x hx => ?_, ?_⟩, fun f t s => ⟨?_, ?_⟩, by rw [List.length_insertIdx]; split <;> omega, fun n hn x hx => ?_⟩
    · rcases (mem_insIdx hs.le).1 hx with hx | hx
      · subst hx
        exact ⟨h3, h4, slotsOk_iff.2 ⟨by simp, by simpa using h0, by simp⟩⟩
      · exact e1 x hx
    · exact pairwise_insIdx hs.le e2 (fun j hj hlt => hs.before hv h3 h4 j hj hlt) fun j hj hle => hs.behind hv h3 h4 j hj hle
    · rintro ⟨x, hx, hxf, hxt, hxs⟩
      rcases (mem_insIdx hs.le).1 hx with hx | hx
      · subst hx
        left
        simp only [List.mem_singleton] at hxf hxt hxs
        rw [← hxf, ← hxt, hxs]
      · exact .inr ⟨x, hx, hxf, hxt, hxs⟩
    · rintro (e | ⟨x, hx, hxf, hxt, hxs⟩)
      · injection e with e5 e6
        injection e6 with e6 e7
        subst e5 e6 e7
        exact ⟨⟨f, t, [s]⟩, (mem_insIdx hs.le).2 (.inl rfl), rfl, rfl, by simp⟩
      · exact ⟨x, (mem_insIdx hs.le).2 (.inr hx), hxf, hxt, hxs⟩
    · rcases (mem_insIdx hs.le).1 hx with hx | hx
      · subst hx; simp
      · have := hn x hx; omega

/-- valid sets that stand for a set of triples, not too many -/
structure Repr (xs : List St) (M : Int × Int × Int → Prop) (n : Nat) : Prop where
  ok : SetsOk xs
  mem : ∀ f t s, Mem3 xs f t s ↔ M (f, t, s)
  len : xs.length ≤ n
  slots : ∀ x ∈ xs, x.slots.length ≤ n

theorem Repr.nil : Repr [] (fun _ => False) 0 := ⟨fun i h => absurd h (Nat.not_lt_zero _), fun f t s => ⟨fun ⟨x, h, _⟩ => (by simp at h), fun h => h.elim⟩, Nat.le_refl _, fun x h => by simp at h⟩
theorem Repr.iff {xs : List St} {M M' : Int × Int × Int → Prop} {n : Nat} (h : Repr xs M n) (hm : ∀ x, M x ↔ M' x) : Repr xs M' n := ⟨h.ok, fun f t s => (h.mem f t s).trans (hm _), h.len, h.slots⟩
theorem Repr.uniq {xs ys : List St} {M : Int × Int × Int → Prop} {m n : Nat} (h : Repr xs M m) (k : Repr ys M n) : xs = ys := by
  have key : ∀ {xs ys : List St} {m n : Nat}, Repr xs M m → Repr ys M n → ∀ x ∈ xs, x ∈ ys := by
    intro xs ys m n h k x hx
    obtain ⟨e1, e2⟩ := setsOk_iff.1 h.ok
    obtain ⟨g1, g2⟩ := setsOk_iff.1 k.ok
    obtain ⟨f1, _, f3⟩ := slotsOk_iff.1 (e1 x hx).2.2
    obtain ⟨s, hs⟩ := List.exists_mem_of_ne_nil _ f1
    obtain ⟨y, hy, hyf, hyt, _⟩ := (k.mem _ _ _).2 ((h.mem x.fr x.to s).1 ⟨x, hx, rfl, rfl, hs⟩)
    obtain ⟨_, _, f6⟩ := slotsOk_iff.1 (g1 y hy).2.2
    have hsl : x.slots = y.slots := sorted_ext (fun a => Int.lt_irrefl a) (fun a b h => by omega) _ _ f3 f6 fun z => ⟨fun hz => ?_, fun hz => ?_⟩
    · have : x = y := st_ext hyf.symm hyt.symm hsl
      rw [this]; exact hy
    · obtain ⟨y', hy', a1, a2, a3⟩ := (k.mem _ _ _).2 ((h.mem x.fr x.to z).1 ⟨x, hx, rfl, rfl, hz⟩)
      rw [key_uniq g2 hy hy' (by omega) (by omega)]
      exact a3
    · obtain ⟨x', hx', a1, a2, a3⟩ := (h.mem _ _ _).2 ((k.mem y.fr y.to z).1 ⟨y, hy, rfl, rfl, hz⟩)
      rw [key_uniq e2 hx hx' (by omega) (by omega)]
      exact a3
  exact sorted_ext Bef.irrefl (fun a b h => h.asymm) _ _ h.ok.pair k.ok.pair fun x => ⟨key h k x, key k h x⟩
theorem Repr.ins {xs : List St} {M : Int × Int × Int → Prop} {n : Nat} (h : Repr xs M n) {fr tq sl : Int} (h3 : FrOk fr) (h4 : FrOk tq) (h0 : 0 ≤ sl) {k : Nat} {ok : Bool} (hs : Srch xs fr tq k ok) : Repr (insRes xs fr tq sl k ok) (fun x => x = (fr, tq, sl) ∨ M x) (n + 1) := by
  obtain ⟨a, b, c, d⟩ := insRes_ok ⟨h.ok, h3, h4, h0⟩ hs
  have := h.len
  exact ⟨a, fun f t s => by rw [b, h.mem], by omega, d n h.slots⟩
theorem Repr.has {xs : List St} {M : Int × Int × Int → Prop} {n : Nat} (h : Repr xs M n) {fr tq sl : Int} (h3 : FrOk fr) (h4 : FrOk tq) {k : Nat} {ok : Bool} (hs : Srch xs fr tq k ok) : (ok = true ∧ ∃ h : k < xs.length, sl ∈ xs[k].slots) ↔ M (fr, tq, sl) := by
  rw [← h.mem]
  constructor
  · rintro ⟨rfl, hk, hm⟩
    obtain ⟨_, h5, h6⟩ := (hs.here h.ok h3 h4).1 rfl
    exact ⟨_, List.getElem_mem hk, h5, h6, hm⟩
  · rintro ⟨x, hx, hf, ht, hm⟩
    cases ok with
    | true =>
      obtain ⟨hk, h5, h6⟩ := (hs.here h.ok h3 h4).1 rfl
      refine ⟨rfl, hk, ?_⟩
      rw [key_uniq h.ok.pair (List.getElem_mem hk) hx (by omega) (by omega)]
      exact hm
    | false =>
      obtain ⟨j, hj, rfl⟩ := List.mem_iff_getElem.1 hx
      exfalso
      rcases Nat.lt_or_ge j k with hlt | hge
      · have := hs.before h.ok h3 h4 j hj hlt
        unfold Bef at this
        simp only at this
        omega
      · have := hs.behind h.ok h3 h4 j hj hge
        unfold Bef at this
        simp only at this
        omega

theorem insert_repr (v : Value) (xs : List St) (w : World) (hv : Rd setE w v xs) {M : Int × Int × Int → Prop} {n : Nat} (h : Repr xs M n) (hn : n ≤ 1000) (fr tq sl : Int) (h3 : FrOk fr) (h4 : FrOk tq) (h0 : 0 ≤ sl) :
    Calls Try.prog 24 #[v, .int .i64 fr, .int .i64 tq, .int .i64 sl] w fun e w' => (∃ r zs, e = .returned (.tuple #[r, .int .i64 0]) ∧ Rd setE w' r zs ∧ Repr zs (fun x => x = (fr, tq, sl) ∨ M x) (n + 1)) ∧ Below w.heap.size w w' := by
  refine (insert_any v xs w hv (by have := h.len; omega) (fun x hx => by have := h.slots x hx; omega) fr tq sl).mono ?_
  rintro e w' ⟨⟨_, h2⟩, hb⟩
  obtain ⟨r, k, ok, rfl, hs, ho⟩ := h2 ⟨h.ok, h3, h4, h0⟩
  exact ⟨⟨r, _, rfl, ho.rd.own, h.ins h3 h4 h0 hs⟩, hb⟩
theorem has_repr (v : Value) (xs : List St) (w : World) (hv : Rd setE w v xs) {M : Int × Int × Int → Prop} {n : Nat} (h : Repr xs M n) (hn : n ≤ 1000) (fr tq sl : Int) (h3 : FrOk fr) (h4 : FrOk tq) :
    Calls Try.prog 25 #[v, .int .i64 fr, .int .i64 tq, .int .i64 sl] w fun e w' => RBs e (M (fr, tq, sl)) ∧ Below w.heap.size w w' := by
  refine (has_any v xs w hv (by have := h.len; omega) (fun x hx => ⟨by have := h.slots x hx; omega, ((setsOk_iff.1 h.ok).1 x hx).2.2.le⟩) fr tq sl).mono ?_
  rintro e w' ⟨⟨k, ok, hs, x, rfl, hx⟩, hb⟩
  exact ⟨⟨x, rfl, hx.trans (h.has h3 h4 hs)⟩, hb⟩
end Go.Proofs.Ytchdmemgkegefaa
