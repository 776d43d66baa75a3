/- slices.Insert of one element into a slice of the call's own, summed up. Condition: not too many elements; what is inserted lies in a block of its own. -/
import Derived.Test.YtchdmemgkegefaaIns
namespace Go.Proofs.Ytchdmemgkegefaa
open Go.RowKit Go.Shelf
set_option linter.unusedVariables false
set_option linter.unusedSimpArgs false

theorem grown_setCell' (w : World) (a : Addr) (u : Value) : w.grownBy (w.setCell a u) (some a.block) :=
  ⟨rfl, rfl, rfl, by simp [World.setCell], fun k _ hk => by
    unfold World.setCell
    rw [Array.getElem?_modify]
    rw [if_neg (fun e => hk (by rw [e]))]⟩
theorem grown_setCells (g : Nat) : ∀ (vs : List Value) (o : Nat) (w : World), w.grownBy (w.setCells g o vs) (some g)
  | [], _, w => grown_refl w _
  | v :: r, o, w => grown_trans (grown_setCell' w ⟨g, o, none⟩ v) (grown_setCells g r (o + 1) _)
theorem setCells_at {g T : Nat} : ∀ (vs : List Value) (o : Nat) (w : World) (cur : Array Value), w.heap[g]? = some (.cells cur T (0, 0)) → o + vs.length ≤ cur.size →
    ∃ cur', (w.setCells g o vs).heap[g]? = some (.cells cur' T (0, 0)) ∧ cur'.toList = cur.toList.take o ++ vs ++ cur.toList.drop (o + vs.length)
  | [], o, w, cur, h, _ => ⟨cur, h, by simp⟩
  | v :: r, o, w, cur, h, hl => by
    obtain ⟨cur', h1, h2⟩ := setCells_at r (o + 1) (w.setCell ⟨g, o, none⟩ v) (cur.setIfInBounds o v) (setCell_block h v) (by simp at hl ⊢; omega)
    refine ⟨cur', h1, ?_⟩
    rw [h2, Array.toList_setIfInBounds]
    exact list_seg_step cur.toList o v r (by simp at hl ⊢; omega)

theorem splice2 {L C vs D : List Value} {a k m : Nat} (hC : L.take m = C) (ha : a ≤ m) (hm : m + k ≤ L.length) (hv : vs.length = k) (hD : D = C.drop a) :
    (((L.take (a + k) ++ D ++ L.drop (a + k + D.length)).take a ++ vs ++ (L.take (a + k) ++ D ++ L.drop (a + k + D.length)).drop (a + vs.length))).take (m + k) = C.take a ++ vs ++ C.drop a := by
  subst hC hD
  have h1 : (L.take (a + k) ++ (L.take m).drop a ++ L.drop (a + k + ((L.take m).drop a).length)).take a = L.take a := by
    rw [List.append_assoc, List.take_append_of_le_length (by rw [List.length_take]; omega), List.take_take, Nat.min_eq_left (by omega)]
  have h2 : (L.take (a + k) ++ (L.take m).drop a ++ L.drop (a + k + ((L.take m).drop a).length)).drop (a + vs.length) = (L.take m).drop a ++ L.drop (a + k + ((L.take m).drop a).length) := by
    rw [hv, List.append_assoc, List.drop_append_of_le_length (by rw [List.length_take]; omega), List.drop_eq_nil_of_le (by rw [List.length_take]; omega), List.nil_append]
  rw [h1, h2, List.take_take, Nat.min_eq_left ha, ← List.append_assoc]
  rw [List.take_append_of_le_length (by simp; omega), List.take_of_length_le (by simp; omega)]

theorem splice3 {L A vs D : List Value} {a k m : Nat} (hA : L.take a = A) (ha : a ≤ m) (hm : m + k ≤ L.length) (hv : vs.length = k) (hD : D.length = m - a) :
    (((L.take a ++ vs ++ L.drop (a + vs.length)).take (a + k) ++ D ++ (L.take a ++ vs ++ L.drop (a + vs.length)).drop (a + k + D.length))).take (m + k) = A ++ vs ++ D := by
  subst hA
  have h1 : (L.take a ++ vs ++ L.drop (a + vs.length)).take (a + k) = L.take a ++ vs := by
    rw [List.take_append_of_le_length (by simp; omega), List.take_of_length_le (by simp; omega)]
  rw [h1, List.take_append_of_le_length (by simp; omega), List.take_of_length_le (by simp; omega)]

theorem chunk_insert {sz i : Nat} {C vs : List Value} (hi : i * sz ≤ C.length) (hv : vs.length = sz) (j : Nat) :
    ((C.take (i * sz) ++ vs ++ C.drop (i * sz)).drop (j * sz)).take sz = if j < i then (C.drop (j * sz)).take sz else if j = i then vs else (C.drop ((j - 1) * sz)).take sz := by
  by_cases h1 : j < i
  · have hle : j * sz + sz ≤ i * sz := by
      have := Nat.mul_le_mul_right sz (show j + 1 ≤ i by omega)
      rwa [Nat.succ_mul] at this
    rw [if_pos h1, List.append_assoc, List.drop_append_of_le_length (by rw [List.length_take]; omega), List.take_append_of_le_length (by rw [List.length_drop, List.length_take]; omega),
      List.drop_take, List.take_take, Nat.min_eq_left (by omega)]
  · rw [if_neg h1]
    by_cases h2 : j = i
    · subst h2
      rw [if_pos rfl, List.append_assoc, List.drop_append_of_le_length (by rw [List.length_take]; omega), List.drop_eq_nil_of_le (by rw [List.length_take]; omega), List.nil_append,
        List.take_append_of_le_length (by omega), List.take_of_length_le (by omega)]
    · rw [if_neg h2]
      obtain ⟨d, rfl⟩ : ∃ d, j = i + 1 + d := ⟨j - i - 1, by omega⟩
      have e1 : (i + 1 + d) * sz = i * sz + sz + d * sz := by rw [Nat.add_mul, Nat.add_mul, Nat.one_mul]
      have e2 : (i + 1 + d - 1) * sz = i * sz + d * sz := by rw [show i + 1 + d - 1 = i + d by omega, Nat.add_mul]
      rw [e1, e2, List.drop_append, List.drop_eq_nil_of_le (by simp; omega), List.nil_append, List.drop_drop]
      congr 2
      simp
      omega

/-- a row with one element more is a slice of the call's own with it -/
theorem Own.inserted {α : Type} {E : El α} {w w' : World} {B T : Nat} {v' : Value} {xs : List α} {C vs : List Value} {i : Nat} {x : α} (hl : C.length = xs.length * E.sz)
    (hel : ∀ j (h : j < xs.length), E.rel w xs[j] ((C.drop (j * E.sz)).take E.sz)) (hi : i ≤ xs.length) (hx : E.rel w x vs) (hkeep : ∀ y cs, E.rel w y cs → E.rel w' y cs)
    (hrow : w'.ownsRow B T E.sz v' (xs.length + 1) (C.take (i * E.sz) ++ vs ++ C.drop (i * E.sz))) : Own E w' B T v' (xs.insertIdx i x) := by
  have hil : i * E.sz ≤ C.length := by rw [hl]; exact Nat.mul_le_mul_right _ hi
  have hlen : (xs.insertIdx i x).length = xs.length + 1 := by rw [List.length_insertIdx, if_pos hi]
  refine ⟨_, by rw [hlen]; exact hrow, fun j hj => ?_⟩
  rw [chunk_insert hil (E.len _ _ _ hx) j, List.getElem_insertIdx hj]
  by_cases h1 : j < i
  · rw [dif_pos h1, if_pos h1]; exact hkeep _ _ (hel j (by omega))
  · rw [dif_neg h1, if_neg h1]
    by_cases h2 : j = i
    · rw [dif_pos h2, if_pos h2]; exact hkeep _ _ hx
    · rw [dif_neg h2, if_neg h2]; exact hkeep _ _ (hel (j - 1) (by rw [hlen] at hj; omega))

/-- what Insert of one element leaves -/
def InsPost {α : Type} (E : El α) (w : World) (B T : Nat) (v : Value) (ys : List α) : Ending → World → Prop := fun e w' =>
  ∃ r, e = .returned r ∧ Own E w' B T r ys ∧ w.grownBy w' v.ownBlock ∧ (r.ownBlock = v.ownBlock ∨ ∃ g, r.ownBlock = some g ∧ w.heap.size ≤ g)
theorem le_of_eq_len {a b c : Nat} (h : b = c) (k : a ≤ c) : a ≤ b := by omega
theorem zeroCells_length (cs : Array Value) (n : Nat) : (Builtin.zeroCells cs n).size = n * cs.size := by
  simp [Builtin.zeroCells]
theorem grown_new {w : World} {row : Option Nat} {o : Obj} : w.grownBy (w.alloc o) row :=
  ⟨rfl, rfl, rfl, by simp, fun k hk _ => by
    change (w.heap.push o)[k]? = _
    rw [Array.getElem?_push, if_neg (Nat.ne_of_lt hk)]⟩

set_option maxHeartbeats 1000000 in
theorem insS_any {α : Type} (E : El α) (hsz : E.sz = 3) (v : Value) (xs : List α) (w : World) (B : Nat) (hB : B ≤ w.heap.size) (hown : Own E w B 77 v xs) (i : Nat) (hi : i ≤ xs.length) (x : α) (vb : Nat) (vs : Array Value)
    (hvb : w.heap[vb]? = some (.cells vs 77 (0, 0))) (hx : E.rel w x vs.toList) (hne : some vb ≠ v.ownBlock) (hlen : xs.length ≤ 1000000) (h1 : ∀ w y cs, E.rel w y cs → ∀ u ∈ cs, u.oneCell' = true)
    (hkeep : ∀ w' y cs, w.grownBy w' v.ownBlock → E.rel w y cs → E.rel w' y cs) :
    Calls Try.prog 52 #[v, .int .i64 i, .slice (some ⟨vb, 0, none⟩) 1 1] w (InsPost E w B 77 v (xs.insertIdx i x)) := by
  obtain ⟨C, ⟨hl, hrow⟩, hel⟩ := hown
  have hvl : vs.toList.length = 1 * 3 := by rw [E.len _ _ _ hx, hsz, Nat.one_mul]
  have hvs : ∀ j u, vs.toList[j]? = some u → w.cell? ⟨vb, 0 + j, none⟩ = some u := fun j u h => by
    rw [Nat.zero_add, cell_block hvb]
    simpa using h
  have h1v := h1 _ _ _ hx
  have h1c : ∀ u ∈ C, u.oneCell' = true := by
    intro u hu
    obtain ⟨p, hp, rfl⟩ := List.mem_iff_getElem.1 hu
    have hp' : p / 3 < xs.length := by rw [hl, hsz] at hp; omega
    have hh := hel (p / 3) hp'
    refine h1 _ _ _ hh _ ?_
    rw [List.mem_iff_getElem?]
    refine ⟨p % 3, ?_⟩
    rw [hsz, List.getElem?_take_of_lt (by omega), List.getElem?_drop, show p / 3 * 3 + p % 3 = p by omega, List.getElem?_eq_getElem hp]
  rcases hrow with ⟨rfl, hn⟩ | ⟨g, cap, cur, rfl, hBg, hh, hc, hm, hs, ht⟩
  · have hx0 : xs = [] := List.length_eq_zero_iff.1 hn
    subst hx0
    have hi0 : i = 0 := by simpa using hi
    subst hi0
    have hC0 : C = [] := List.length_eq_zero_iff.1 (by simpa using hl)
    subst hC0
    refine (insS_end_grow none 0 0 vb 0 1 1 [] vs.toList w (by omega) (by omega) (by omega) (by omega) (by simp) hvl (fun _ => rfl) (by simp) hvs h1v).mono ?_
    rintro e w' ⟨rfl, rfl⟩
    refine ⟨_, rfl, Own.inserted (C := []) (w := w) hl hel hi hx (fun y cs h => E.keep _ _ _ _ h fun k hk => (grown_new (w := w.drew) (row := none)).block k hk (by simp)) ?_, grown_trans (grow_drew w) grown_new, .inr ⟨_, rfl, Nat.le_refl _⟩⟩
    refine ⟨by simp [E.len _ _ _ hx], .inr ⟨w.heap.size, _, _, rfl, hB, heap_alloc_new _ _, grownCap_ge w _ _ _, grownCap_le_maxLen w _ _ _ (by unfold maxLen; omega), ?_, ?_⟩⟩
    · have := grownCap_ge w (0 + 1) 0 77
      simp only [List.nil_append, Array.size_append, zeroCells_length, hsz, Array.toArray_toList]
      rw [show vs.size = 1 * 3 from by simpa using hvl, show (Value.agg #[.int .i64 0, .int .i64 0, .slice none 0 0]).cells.size = 3 from rfl]
      omega
    · simp only [List.nil_append, Array.toList_append, hsz, List.length_nil, Nat.zero_add, Nat.one_mul, List.take_nil, List.drop_nil, List.append_nil]
      rw [List.take_append_of_le_length (by simp at hvl ⊢; omega), List.take_of_length_le (by simp at hvl ⊢; omega)]
  · rw [hsz] at hl hs ht
    have hlL : C.length ≤ cur.toList.length := by rw [← ht, List.length_take]; omega
    have hkp : ∀ w', w.grownBy w' (some g) → ∀ y cs, E.rel w y cs → E.rel w' y cs := fun w' hg y cs h => hkeep w' y cs hg h
    have hne' : vb ≠ g := fun e => hne (by rw [e]; rfl)
    have hgl : g < w.heap.size := (Array.getElem?_eq_some_iff.1 hh).1
    have hcs : ∀ j u, C[j]? = some u → w.cell? ⟨g, 0 + j, none⟩ = some u := fun j u h => by
      rw [Nat.zero_add, cell_block hh]
      rw [← ht, List.getElem?_take] at h
      split at h
      · simpa using h
      · cases h
    have hcap63 : cap ≤ 9223372036854775807 := by unfold maxLen at hm; omega
    have hsp : ∀ j, j < (xs.length + 1) * 3 → xs.length + 1 ≤ cap → (w.cell? ⟨g, 0 + j, none⟩).isSome = true := fun j hj hr => by
      rw [Nat.zero_add, cell_block hh, Array.getElem?_eq_getElem (by omega)]; rfl
    have hfz : ∀ j, w.frozen? ⟨g, j, none⟩ = false := fun j => frozen_block hh
    by_cases hin : i = xs.length
    · subst hin
      by_cases hroom : xs.length + 1 ≤ cap
      · refine (insS_end_room g 0 xs.length cap vb 0 1 1 vs.toList w (by omega) hroom hcap63 hvl (fun j hj => by rw [Nat.add_assoc]; exact hsp _ (by omega) hroom) (fun j hj => hfz _) hvs h1v).mono ?_
        rintro e w' ⟨rfl, rfl⟩
        obtain ⟨cur', k1, k2⟩ := setCells_at (T := 77) vs.toList (0 + xs.length * 3) w cur hh (by rw [hvl]; omega)
        have hg := grown_setCells g vs.toList (0 + xs.length * 3) w
        refine ⟨_, rfl, Own.inserted (by rw [hsz]; exact hl) hel hi hx (hkp _ hg) ?_, hg, .inl rfl⟩
        have hsz' : cur'.size = cap * 3 := by
          have := congrArg List.length k2
          simp only [Array.length_toList, List.length_append, List.length_take, List.length_drop] at this
          simp only [Array.length_toList] at hvl
          omega
        refine ⟨?_, .inr ⟨g, cap, cur', rfl, hBg, k1, hroom, hm, by rw [hsz]; exact hsz', ?_⟩⟩
        · rw [hsz]
          simp only [List.length_append, List.length_take, List.length_drop, hvl, hl]
          omega
        · have ht' : cur.toList.take (xs.length * 3) = C := by simpa using ht
          have e1 : C.drop (xs.length * 3) = [] := List.drop_eq_nil_of_le (by omega)
          have e2 : C.take (xs.length * 3) = C := List.take_of_length_le (by omega)
          rw [hsz, k2, Nat.zero_add, show (xs.length + 1) * 3 = xs.length * 3 + 3 by omega, show xs.length * 3 = xs.length * 3 by omega, ht', e2, e1, List.append_nil]
          rw [List.take_append_of_le_length (by rw [List.length_append, hvl]; omega), List.take_of_length_le (by rw [List.length_append, hvl]; omega)]
      · refine (insS_end_grow (some ⟨g, 0, none⟩) xs.length cap vb 0 1 1 C vs.toList w (by omega) hc (by omega) (by omega) hl hvl (fun e => by cases e) (fun a e j u h => by
          injection e with e
          subst e
          rw [Addr.add_lit]
          exact hcs j u h) hvs h1v).mono ?_
        rintro e w' ⟨rfl, rfl⟩
        refine ⟨_, rfl, Own.inserted (w := w) (by rw [hsz]; exact hl) hel hi hx (fun y cs h => E.keep _ _ _ _ h fun k hk => (grown_new (w := w.drew) (row := none)).block k hk (by simp)) ?_, grown_trans (grow_drew w) grown_new, .inr ⟨_, rfl, Nat.le_refl _⟩⟩
        have hge := grownCap_ge w (xs.length + 1) cap 77
        refine ⟨?_, .inr ⟨w.heap.size, _, _, rfl, hB, heap_alloc_new _ _, hge, grownCap_le_maxLen w _ _ _ (by unfold maxLen; omega), ?_, ?_⟩⟩
        · rw [hsz]
          simp only [List.length_append, List.length_take, List.length_drop, hvl, hl]
          omega
        · rw [Array.size_append, zeroCells_length, hsz, show (Value.agg #[.int .i64 0, .int .i64 0, .slice none 0 0]).cells.size = 3 from rfl]
          simp only [List.size_toArray, List.length_append, hvl, hl]
          omega
        · rw [hsz, Array.toList_append, List.take_append_of_le_length (by simp only [List.length_append, hvl, hl]; omega)]
          simp only []
          rw [List.take_of_length_le (by simp only [List.length_append, hvl, hl]; omega), List.take_of_length_le (by omega), List.drop_eq_nil_of_le (by omega), List.append_nil]
    · have hin' : i < xs.length := by omega
      by_cases hroom : xs.length + 1 ≤ cap
      · have hkB : cur.size ≠ 0 := by omega
        refine (insS_shift g 0 xs.length cap i vb 0 1 1 C vs.toList w hin' (by omega) hroom hcap63 hne' hl hvl hcs (fun j hj => hsp j hj hroom) (fun j hj => hfz _) hvs h1c h1v 77 77 vs.size cur.size (by simp [World.shape?, hvb]) (by simp [World.shape?, hh]) hkB (frozen_block hvb) (frozen_block hvb)).mono ?_
        rintro e w' ⟨rfl, rfl⟩
        obtain ⟨cur1, k1, k2⟩ := setCells_at (T := 77) (C.drop (i * 3)) (0 + (i + 1) * 3) w.drew cur hh (by rw [List.length_drop]; omega)
        have hs1 : cur1.size = cap * 3 := by
          have := congrArg List.length k2
          simp only [Array.length_toList, List.length_append, List.length_take, List.length_drop] at this
          omega
        obtain ⟨cur2, j1, j2⟩ := setCells_at (T := 77) vs.toList (0 + i * 3) _ cur1 k1 (by rw [hvl]; omega)
        have hs2 : cur2.size = cap * 3 := by
          have := congrArg List.length j2
          simp only [Array.length_toList, List.length_append, List.length_take, List.length_drop] at this
          simp only [Array.length_toList] at hvl
          omega
        have hg : w.grownBy ((w.drew.setCells g (0 + (i + 1) * 3) (C.drop (i * 3))).setCells g (0 + i * 3) vs.toList) (some g) := grown_trans (grow_drew w) (grown_trans (grown_setCells g _ _ w.drew) (grown_setCells g _ _ _))
        refine ⟨_, rfl, Own.inserted (by rw [hsz]; exact hl) hel hi hx (hkp _ hg) ?_, hg, .inl rfl⟩
        refine ⟨?_, .inr ⟨g, cap, cur2, rfl, hBg, j1, hroom, hm, by rw [hsz]; exact hs2, ?_⟩⟩
        · rw [hsz]
          simp only [List.length_append, List.length_take, List.length_drop, hvl, hl]
          omega
        · have := splice2 (L := cur.toList) (C := C) (vs := vs.toList) (D := C.drop (i * 3)) (a := i * 3) (k := 3) (m := xs.length * 3) (by simpa using ht) (by omega) (le_of_eq_len (Array.length_toList (xs := cur)) (by omega)) (hvl.trans rfl) rfl
          rw [hsz, j2, k2, Nat.zero_add, Nat.zero_add, show (i + 1) * 3 = i * 3 + 3 by omega, show (xs.length + 1) * 3 = xs.length * 3 + 3 by omega, show i * 3 = i * 3 by omega]
          exact this
      · refine (insS_grow g 0 xs.length cap i vb 0 1 1 C vs.toList w hin' (by omega) hc (by omega) (by omega) hl hvl hcs hvs h1c h1v).mono ?_
        rintro e w' ⟨rfl, rfl⟩
        have hge := grownCap_ge w (xs.length + 1) cap 77
        generalize hG : grownCap w (xs.length + 1) cap 77 = G at hge ⊢
        have hGm : G ≤ maxLen := by rw [← hG]; exact grownCap_le_maxLen w _ _ _ (by unfold maxLen; omega)
        generalize hR : ((C.take (i * 3)).toArray ++ Builtin.zeroCells (Value.agg #[.int .i64 0, .int .i64 0, .slice none 0 0]).cells (xs.length + 1 - i) ++ Builtin.zeroCells (Value.agg #[.int .i64 0, .int .i64 0, .slice none 0 0]).cells (G - (xs.length + 1))) = R
        have hRs : R.size = G * 3 := by
          rw [← hR]
          simp only [Array.size_append, zeroCells_length, List.size_toArray, List.length_take, show (Value.agg #[.int .i64 0, .int .i64 0, .slice none 0 0]).cells.size = 3 from rfl]
          omega
        have hRt : R.toList.take (i * 3) = C.take (i * 3) := by
          rw [← hR, Array.toList_append, Array.toList_append, List.append_assoc]
          simp only []
          rw [List.take_append_of_le_length (by rw [List.length_take]; omega), List.take_take, Nat.min_self]
        obtain ⟨cur1, k1, k2⟩ := setCells_at (T := 77) vs.toList (i * 3) (w.alloc (.cells R 77)).drew R (heap_alloc_new w _) (by rw [hvl]; omega)
        have hs1 : cur1.size = G * 3 := by
          have := congrArg List.length k2
          simp only [Array.length_toList, List.length_append, List.length_take, List.length_drop] at this
          simp only [Array.length_toList] at hvl
          omega
        obtain ⟨cur2, j1, j2⟩ := setCells_at (T := 77) (C.drop (i * 3)) ((i + 1) * 3) (((w.alloc (.cells R 77)).drew.setCells w.heap.size (i * 3) vs.toList).drew) cur1 k1 (by rw [List.length_drop]; omega)
        have hs2 : cur2.size = G * 3 := by
          have := congrArg List.length j2
          simp only [Array.length_toList, List.length_append, List.length_take, List.length_drop] at this
          omega
        have hnew : ∀ k, k < w.heap.size → ((((w.alloc (.cells R 77)).drew.setCells w.heap.size (i * 3) vs.toList).drew).setCells w.heap.size ((i + 1) * 3) (C.drop (i * 3))).heap[k]? = w.heap[k]? := fun k hk => by
          have g1 : w.grownBy (w.alloc (.cells R 77)) none := grown_new
          have g2 := grown_setCells w.heap.size vs.toList (i * 3) (w.alloc (.cells R 77)).drew
          have g3 := grown_setCells w.heap.size (C.drop (i * 3)) ((i + 1) * 3) (((w.alloc (.cells R 77)).drew.setCells w.heap.size (i * 3) vs.toList).drew)
          have s1 : k < (w.alloc (.cells R 77)).drew.heap.size := Nat.lt_of_lt_of_le hk g1.size
          have s2 : k < (((w.alloc (.cells R 77)).drew.setCells w.heap.size (i * 3) vs.toList).drew).heap.size := Nat.lt_of_lt_of_le s1 g2.size
          exact (g3.block k s2 (fun e => by injection e; omega)).trans ((g2.block k s1 (fun e => by injection e; omega)).trans (g1.block k hk (by simp)))
        have hg0 : w.grownBy ((((w.alloc (.cells R 77)).drew.setCells w.heap.size (i * 3) vs.toList).drew).setCells w.heap.size ((i + 1) * 3) (C.drop (i * 3))) (some w.heap.size) :=
          grown_trans grown_new (grown_trans (grow_drew _) (grown_trans (grown_setCells _ _ _ _) (grown_trans (grow_drew _) (grown_setCells _ _ _ _))))
        have hg : w.grownBy ((((w.alloc (.cells R 77)).drew.setCells w.heap.size (i * 3) vs.toList).drew).setCells w.heap.size ((i + 1) * 3) (C.drop (i * 3))) (some g) :=
          ⟨hg0.os, hg0.tape, hg0.output, hg0.size, fun k hk _ => hnew k hk⟩
        refine ⟨_, rfl, Own.inserted (by rw [hsz]; exact hl) hel hi hx (fun y cs h => E.keep _ _ _ _ h hnew) ?_, hg, .inr ⟨_, rfl, Nat.le_refl _⟩⟩
        refine ⟨?_, .inr ⟨w.heap.size, G, cur2, rfl, hB, j1, hge, hGm, by rw [hsz]; exact hs2, ?_⟩⟩
        · rw [hsz]
          simp only [List.length_append, List.length_take, List.length_drop, hvl, hl]
          omega
        · have := splice3 (L := R.toList) (A := C.take (i * 3)) (vs := vs.toList) (D := C.drop (i * 3)) (a := i * 3) (k := 3) (m := xs.length * 3) hRt (by omega) (le_of_eq_len (Array.length_toList (xs := R)) (by omega)) (hvl.trans rfl) (by rw [List.length_drop]; omega)
          rw [hsz, j2, k2, show (i + 1) * 3 = i * 3 + 3 by omega, show (xs.length + 1) * 3 = xs.length * 3 + 3 by omega, show i * 3 = i * 3 by omega]
          exact this

set_option maxHeartbeats 1000000 in
theorem insI_any {α : Type} (E : El α) (hsz : E.sz = 1) (v : Value) (xs : List α) (w : World) (B : Nat) (hB : B ≤ w.heap.size) (hown : Own E w B 3 v xs) (i : Nat) (hi : i ≤ xs.length) (x : α) (vb : Nat) (vs : Array Value)
    (hvb : w.heap[vb]? = some (.cells vs 3 (0, 0))) (hx : E.rel w x vs.toList) (hne : some vb ≠ v.ownBlock) (hlen : xs.length ≤ 1000000) (h1 : ∀ w y cs, E.rel w y cs → ∀ u ∈ cs, u.oneCell' = true)
    (hkeep : ∀ w' y cs, w.grownBy w' v.ownBlock → E.rel w y cs → E.rel w' y cs) :
    Calls Try.prog 54 #[v, .int .i64 i, .slice (some ⟨vb, 0, none⟩) 1 1] w (InsPost E w B 3 v (xs.insertIdx i x)) := by
  obtain ⟨C, ⟨hl, hrow⟩, hel⟩ := hown
  have hvl : vs.toList.length = 1 * 1 := by rw [E.len _ _ _ hx, hsz, Nat.one_mul]
  have hvs : ∀ j u, vs.toList[j]? = some u → w.cell? ⟨vb, 0 + j, none⟩ = some u := fun j u h => by
    rw [Nat.zero_add, cell_block hvb]
    simpa using h
  have h1v := h1 _ _ _ hx
  have h1c : ∀ u ∈ C, u.oneCell' = true := by
    intro u hu
    obtain ⟨p, hp, rfl⟩ := List.mem_iff_getElem.1 hu
    have hp' : p / 1 < xs.length := by rw [hl, hsz] at hp; omega
    have hh := hel (p / 1) hp'
    refine h1 _ _ _ hh _ ?_
    rw [List.mem_iff_getElem?]
    refine ⟨p % 1, ?_⟩
    rw [hsz, List.getElem?_take_of_lt (by omega), List.getElem?_drop, show p / 1 * 1 + p % 1 = p by omega, List.getElem?_eq_getElem hp]
  rcases hrow with ⟨rfl, hn⟩ | ⟨g, cap, cur, rfl, hBg, hh, hc, hm, hs, ht⟩
  · have hx0 : xs = [] := List.length_eq_zero_iff.1 hn
    subst hx0
    have hi0 : i = 0 := by simpa using hi
    subst hi0
    have hC0 : C = [] := List.length_eq_zero_iff.1 (by simpa using hl)
    subst hC0
    refine (insI_end_grow none 0 0 vb 0 1 1 [] vs.toList w (by omega) (by omega) (by omega) (by omega) (by simp) hvl (fun _ => rfl) (by simp) hvs h1v).mono ?_
    rintro e w' ⟨rfl, rfl⟩
    refine ⟨_, rfl, Own.inserted (C := []) (w := w) hl hel hi hx (fun y cs h => E.keep _ _ _ _ h fun k hk => (grown_new (w := w.drew) (row := none)).block k hk (by simp)) ?_, grown_trans (grow_drew w) grown_new, .inr ⟨_, rfl, Nat.le_refl _⟩⟩
    refine ⟨by simp [E.len _ _ _ hx], .inr ⟨w.heap.size, _, _, rfl, hB, heap_alloc_new _ _, grownCap_ge w _ _ _, grownCap_le_maxLen w _ _ _ (by unfold maxLen; omega), ?_, ?_⟩⟩
    · have := grownCap_ge w (0 + 1) 0 3
      simp only [List.nil_append, Array.size_append, zeroCells_length, hsz, Array.toArray_toList]
      rw [show vs.size = 1 * 1 from by simpa using hvl, show (Value.int .i64 0).cells.size = 1 from rfl]
      omega
    · simp only [List.nil_append, Array.toList_append, hsz, List.length_nil, Nat.zero_add, Nat.one_mul, List.take_nil, List.drop_nil, List.append_nil]
      rw [List.take_append_of_le_length (by simp at hvl ⊢; omega), List.take_of_length_le (by simp at hvl ⊢; omega)]
  · rw [hsz] at hl hs ht
    have hlL : C.length ≤ cur.toList.length := by rw [← ht, List.length_take]; omega
    have hkp : ∀ w', w.grownBy w' (some g) → ∀ y cs, E.rel w y cs → E.rel w' y cs := fun w' hg y cs h => hkeep w' y cs hg h
    have hne' : vb ≠ g := fun e => hne (by rw [e]; rfl)
    have hgl : g < w.heap.size := (Array.getElem?_eq_some_iff.1 hh).1
    have hcs : ∀ j u, C[j]? = some u → w.cell? ⟨g, 0 + j, none⟩ = some u := fun j u h => by
      rw [Nat.zero_add, cell_block hh]
      rw [← ht, List.getElem?_take] at h
      split at h
      · simpa using h
      · cases h
    have hcap63 : cap ≤ 9223372036854775807 := by unfold maxLen at hm; omega
    have hsp : ∀ j, j < (xs.length + 1) * 1 → xs.length + 1 ≤ cap → (w.cell? ⟨g, 0 + j, none⟩).isSome = true := fun j hj hr => by
      rw [Nat.zero_add, cell_block hh, Array.getElem?_eq_getElem (by omega)]; rfl
    have hfz : ∀ j, w.frozen? ⟨g, j, none⟩ = false := fun j => frozen_block hh
    by_cases hin : i = xs.length
    · subst hin
      by_cases hroom : xs.length + 1 ≤ cap
      · refine (insI_end_room g 0 xs.length cap vb 0 1 1 vs.toList w (by omega) hroom hcap63 hvl (fun j hj => by rw [Nat.add_assoc]; exact hsp _ (by omega) hroom) (fun j hj => hfz _) hvs h1v).mono ?_
        rintro e w' ⟨rfl, rfl⟩
        obtain ⟨cur', k1, k2⟩ := setCells_at (T := 3) vs.toList (0 + xs.length) w cur hh (by rw [hvl]; omega)
        have hg := grown_setCells g vs.toList (0 + xs.length) w
        refine ⟨_, rfl, Own.inserted (by rw [hsz]; exact hl) hel hi hx (hkp _ hg) ?_, hg, .inl rfl⟩
        have hsz' : cur'.size = cap * 1 := by
          have := congrArg List.length k2
          simp only [Array.length_toList, List.length_append, List.length_take, List.length_drop] at this
          simp only [Array.length_toList] at hvl
          omega
        refine ⟨?_, .inr ⟨g, cap, cur', rfl, hBg, k1, hroom, hm, by rw [hsz]; exact hsz', ?_⟩⟩
        · rw [hsz]
          simp only [List.length_append, List.length_take, List.length_drop, hvl, hl]
          omega
        · have ht' : cur.toList.take (xs.length) = C := by simpa using ht
          have e1 : C.drop (xs.length) = [] := List.drop_eq_nil_of_le (by omega)
          have e2 : C.take (xs.length) = C := List.take_of_length_le (by omega)
          rw [hsz, k2, Nat.zero_add, show (xs.length + 1) * 1 = xs.length + 1 by omega, show xs.length * 1 = xs.length by omega, ht', e2, e1, List.append_nil]
          rw [List.take_append_of_le_length (by rw [List.length_append, hvl]; omega), List.take_of_length_le (by rw [List.length_append, hvl]; omega)]
      · refine (insI_end_grow (some ⟨g, 0, none⟩) xs.length cap vb 0 1 1 C vs.toList w (by omega) hc (by omega) (by omega) hl hvl (fun e => by cases e) (fun a e j u h => by
          injection e with e
          subst e
          rw [Addr.add_lit]
          exact hcs j u h) hvs h1v).mono ?_
        rintro e w' ⟨rfl, rfl⟩
        refine ⟨_, rfl, Own.inserted (w := w) (by rw [hsz]; exact hl) hel hi hx (fun y cs h => E.keep _ _ _ _ h fun k hk => (grown_new (w := w.drew) (row := none)).block k hk (by simp)) ?_, grown_trans (grow_drew w) grown_new, .inr ⟨_, rfl, Nat.le_refl _⟩⟩
        have hge := grownCap_ge w (xs.length + 1) cap 3
        refine ⟨?_, .inr ⟨w.heap.size, _, _, rfl, hB, heap_alloc_new _ _, hge, grownCap_le_maxLen w _ _ _ (by unfold maxLen; omega), ?_, ?_⟩⟩
        · rw [hsz]
          simp only [List.length_append, List.length_take, List.length_drop, hvl, hl]
          omega
        · rw [Array.size_append, zeroCells_length, hsz, show (Value.int .i64 0).cells.size = 1 from rfl]
          simp only [List.size_toArray, List.length_append, hvl, hl]
          omega
        · rw [hsz, Array.toList_append, List.take_append_of_le_length (by simp only [List.length_append, hvl, hl]; omega)]
          simp only []
          rw [List.take_of_length_le (by simp only [List.length_append, hvl, hl]; omega), List.take_of_length_le (by omega), List.drop_eq_nil_of_le (by omega), List.append_nil]
    · have hin' : i < xs.length := by omega
      by_cases hroom : xs.length + 1 ≤ cap
      · have hkB : cur.size ≠ 0 := by omega
        refine (insI_shift g 0 xs.length cap i vb 0 1 1 C vs.toList w hin' (by omega) hroom hcap63 hne' hl hvl hcs (fun j hj => hsp j hj hroom) (fun j hj => hfz _) hvs h1c h1v 3 3 vs.size cur.size (by simp [World.shape?, hvb]) (by simp [World.shape?, hh]) hkB (frozen_block hvb) (frozen_block hvb)).mono ?_
        rintro e w' ⟨rfl, rfl⟩
        obtain ⟨cur1, k1, k2⟩ := setCells_at (T := 3) (C.drop (i)) (0 + (i + 1)) w.drew cur hh (by rw [List.length_drop]; omega)
        have hs1 : cur1.size = cap * 1 := by
          have := congrArg List.length k2
          simp only [Array.length_toList, List.length_append, List.length_take, List.length_drop] at this
          omega
        obtain ⟨cur2, j1, j2⟩ := setCells_at (T := 3) vs.toList (0 + i) _ cur1 k1 (by rw [hvl]; omega)
        have hs2 : cur2.size = cap * 1 := by
          have := congrArg List.length j2
          simp only [Array.length_toList, List.length_append, List.length_take, List.length_drop] at this
          simp only [Array.length_toList] at hvl
          omega
        have hg : w.grownBy ((w.drew.setCells g (0 + (i + 1)) (C.drop (i))).setCells g (0 + i) vs.toList) (some g) := grown_trans (grow_drew w) (grown_trans (grown_setCells g _ _ w.drew) (grown_setCells g _ _ _))
        refine ⟨_, rfl, Own.inserted (by rw [hsz]; exact hl) hel hi hx (hkp _ hg) ?_, hg, .inl rfl⟩
        refine ⟨?_, .inr ⟨g, cap, cur2, rfl, hBg, j1, hroom, hm, by rw [hsz]; exact hs2, ?_⟩⟩
        · rw [hsz]
          simp only [List.length_append, List.length_take, List.length_drop, hvl, hl]
          omega
        · have := splice2 (L := cur.toList) (C := C) (vs := vs.toList) (D := C.drop (i)) (a := i) (k := 1) (m := xs.length) (by simpa using ht) (by omega) (le_of_eq_len (Array.length_toList (xs := cur)) (by omega)) (hvl.trans rfl) rfl
          rw [hsz, j2, k2, Nat.zero_add, Nat.zero_add, show (i + 1) = i + 1 by omega, show (xs.length + 1) * 1 = xs.length + 1 by omega, show i * 1 = i by omega]
          exact this
      · refine (insI_grow g 0 xs.length cap i vb 0 1 1 C vs.toList w hin' (by omega) hc (by omega) (by omega) hl hvl hcs hvs h1c h1v).mono ?_
        rintro e w' ⟨rfl, rfl⟩
        have hge := grownCap_ge w (xs.length + 1) cap 3
        generalize hG : grownCap w (xs.length + 1) cap 3 = G at hge ⊢
        have hGm : G ≤ maxLen := by rw [← hG]; exact grownCap_le_maxLen w _ _ _ (by unfold maxLen; omega)
        generalize hR : ((C.take (i)).toArray ++ Builtin.zeroCells (Value.int .i64 0).cells (xs.length + 1 - i) ++ Builtin.zeroCells (Value.int .i64 0).cells (G - (xs.length + 1))) = R
        have hRs : R.size = G * 1 := by
          rw [← hR]
          simp only [Array.size_append, zeroCells_length, List.size_toArray, List.length_take, show (Value.int .i64 0).cells.size = 1 from rfl]
          omega
        have hRt : R.toList.take (i) = C.take (i) := by
          rw [← hR, Array.toList_append, Array.toList_append, List.append_assoc]
          simp only []
          rw [List.take_append_of_le_length (by rw [List.length_take]; omega), List.take_take, Nat.min_self]
        obtain ⟨cur1, k1, k2⟩ := setCells_at (T := 3) vs.toList (i) (w.alloc (.cells R 3)).drew R (heap_alloc_new w _) (by rw [hvl]; omega)
        have hs1 : cur1.size = G * 1 := by
          have := congrArg List.length k2
          simp only [Array.length_toList, List.length_append, List.length_take, List.length_drop] at this
          simp only [Array.length_toList] at hvl
          omega
        obtain ⟨cur2, j1, j2⟩ := setCells_at (T := 3) (C.drop (i)) ((i + 1)) (((w.alloc (.cells R 3)).drew.setCells w.heap.size (i) vs.toList).drew) cur1 k1 (by rw [List.length_drop]; omega)
        have hs2 : cur2.size = G * 1 := by
          have := congrArg List.length j2
          simp only [Array.length_toList, List.length_append, List.length_take, List.length_drop] at this
          omega
        have hnew : ∀ k, k < w.heap.size → ((((w.alloc (.cells R 3)).drew.setCells w.heap.size (i) vs.toList).drew).setCells w.heap.size ((i + 1)) (C.drop (i))).heap[k]? = w.heap[k]? := fun k hk => by
          have g1 : w.grownBy (w.alloc (.cells R 3)) none := grown_new
          have g2 := grown_setCells w.heap.size vs.toList (i) (w.alloc (.cells R 3)).drew
          have g3 := grown_setCells w.heap.size (C.drop (i)) ((i + 1)) (((w.alloc (.cells R 3)).drew.setCells w.heap.size (i) vs.toList).drew)
          have s1 : k < (w.alloc (.cells R 3)).drew.heap.size := Nat.lt_of_lt_of_le hk g1.size
          have s2 : k < (((w.alloc (.cells R 3)).drew.setCells w.heap.size (i) vs.toList).drew).heap.size := Nat.lt_of_lt_of_le s1 g2.size
          exact (g3.block k s2 (fun e => by injection e; omega)).trans ((g2.block k s1 (fun e => by injection e; omega)).trans (g1.block k hk (by simp)))
        have hg0 : w.grownBy ((((w.alloc (.cells R 3)).drew.setCells w.heap.size (i) vs.toList).drew).setCells w.heap.size ((i + 1)) (C.drop (i))) (some w.heap.size) :=
          grown_trans grown_new (grown_trans (grow_drew _) (grown_trans (grown_setCells _ _ _ _) (grown_trans (grow_drew _) (grown_setCells _ _ _ _))))
        have hg : w.grownBy ((((w.alloc (.cells R 3)).drew.setCells w.heap.size (i) vs.toList).drew).setCells w.heap.size ((i + 1)) (C.drop (i))) (some g) :=
          ⟨hg0.os, hg0.tape, hg0.output, hg0.size, fun k hk _ => hnew k hk⟩
        refine ⟨_, rfl, Own.inserted (by rw [hsz]; exact hl) hel hi hx (fun y cs h => E.keep _ _ _ _ h hnew) ?_, hg, .inr ⟨_, rfl, Nat.le_refl _⟩⟩
        refine ⟨?_, .inr ⟨w.heap.size, G, cur2, rfl, hB, j1, hge, hGm, by rw [hsz]; exact hs2, ?_⟩⟩
        · rw [hsz]
          simp only [List.length_append, List.length_take, List.length_drop, hvl, hl]
          omega
        · have := splice3 (L := R.toList) (A := C.take (i)) (vs := vs.toList) (D := C.drop (i)) (a := i) (k := 1) (m := xs.length) hRt (by omega) (le_of_eq_len (Array.length_toList (xs := R)) (by omega)) (hvl.trans rfl) (by rw [List.length_drop]; omega)
          rw [hsz, j2, k2, show (i + 1) = i + 1 by omega, show (xs.length + 1) * 1 = xs.length + 1 by omega, show i * 1 = i by omega]
          exact this
end Go.Proofs.Ytchdmemgkegefaa
