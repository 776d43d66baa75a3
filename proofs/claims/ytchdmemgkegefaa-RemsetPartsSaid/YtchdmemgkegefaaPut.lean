/- ref18.Put: a slot put into valid sets. Condition: valid sets, not too many. -/
import Derived.Test.YtchdmemgkegefaaVar
import Derived.Test.YtchdmemgkegefaaWth
namespace Go.Proofs.Ytchdmemgkegefaa
open Go.RowKit
set_option linter.unusedVariables false
set_option linter.unusedSimpArgs false

theorem srch_of {xs : List St} {fr tq : Int} {k : Nat} {ok : Bool} (hv : SetsOk xs) (h3 : FrOk fr) (h4 : FrOk tq) (hk : k ≤ xs.length) (h1 : ∀ j (h : j < xs.length), j < k → Bef xs[j] ⟨fr, tq, []⟩) (h2 : ∀ h : k < xs.length, ¬ Bef xs[k] ⟨fr, tq, []⟩)
    (ho : ok = true ↔ ∃ h : k < xs.length, ¬ Bef ⟨fr, tq, []⟩ xs[k]) : Srch xs fr tq k ok := by
  refine ⟨hk, fun j h e => (cmpV_lt (hv j h).1 (hv j h).2.1 h3 h4).2 (h1 j h (by omega)), fun h hc => h2 h ((cmpV_lt (hv k h).1 (hv k h).2.1 h3 h4).1 hc), ho.trans ⟨fun ⟨h, hn⟩ => ⟨h, ?_⟩, fun ⟨h, e⟩ => ⟨h, ?_⟩⟩⟩
  · refine (cmpV_eq (hv k h).1 (hv k h).2.1 h3 h4).2 ?_
    have := h2 h
    unfold Bef at this hn
    simp only at this hn
    omega
  · have := (cmpV_eq (hv k h).1 (hv k h).2.1 h3 h4).1 e
    unfold Bef
    simp only
    omega
/-- sets whose blocks are numbered from C on -/
def setF (C : Nat) : El St :=
  ⟨3, fun w x cs => ∃ v, cs = [.int .i64 x.fr, .int .i64 x.to, v] ∧ Rd i64E w v x.slots ∧ ∀ q, v.ownBlock = some q → C ≤ q, fun _ _ _ ⟨_, h, _⟩ => by rw [h]; rfl, fun _ _ _ _ ⟨v, h, r, o⟩ k => ⟨v, h, r.keep k, o⟩⟩
theorem Rd.rel {α : Type} {E F : El α} {w : World} {v : Value} {xs : List α} (h : Rd E w v xs) (hs : E.sz = F.sz) (hr : ∀ x cs, E.rel w x cs → F.rel w x cs) : Rd F w v xs := by
  obtain ⟨a, cap, h1, h2, h3, h4⟩ := h
  refine ⟨a, cap, h1, h2, h3, ?_⟩
  rcases h4 with h4 | ⟨b, off, h5, h6⟩
  · exact .inl h4
  · refine .inr ⟨b, off, h5, fun i hi => ?_⟩
    obtain ⟨cs, r, c⟩ := h6 i hi
    exact ⟨cs, hr _ _ r, fun j hj => by rw [← hs]; exact c j (by rw [hs]; exact hj)⟩
theorem Rd.toE {C : Nat} {w : World} {v : Value} {xs : List St} (h : Rd (setF C) w v xs) : Rd setE w v xs := h.rel rfl fun _ _ ⟨u, e, r, _⟩ => ⟨u, e, r⟩
theorem Rd.toF {w : World} {v : Value} {xs : List St} (h : Rd setE w v xs) : Rd (setF 0) w v xs := h.rel rfl fun _ _ ⟨u, e, r⟩ => ⟨u, e, r, fun _ _ => Nat.zero_le _⟩
theorem own_setF {w : World} {B C D T : Nat} {v : Value} {ys : List (St × Option Nat)} (h : Own (setN B) w D T v ys) (hC : C ≤ B) : Rd (setF C) w v (ys.map (·.1)) :=
  (own_setO h (Nat.le_refl _) (Nat.le_refl _)).rd.rel rfl fun _ _ ⟨u, e, ho⟩ => ⟨u, e, ho.rd, fun q hq => Nat.le_trans hC (ho.lt q hq).1⟩
theorem setF_cell {C : Nat} {w : World} {b off n cap : Nat} {xs : List St} (h : Rd (setF C) w (.slice (some ⟨b, off, none⟩) n cap) xs) {i : Nat} (hi : i < xs.length) {u : Value} (hu : w.cell? ⟨b, off + i * 3 + 2, none⟩ = some u) : ∀ q, u.ownBlock = some q → C ≤ q := by
  obtain ⟨a, c, e, _, _, hf⟩ := h
  simp only [Value.slice.injEq] at e
  obtain ⟨rfl, rfl, rfl⟩ := e
  rcases hf with rfl | ⟨b', off', e, hf⟩
  · exact absurd hi (Nat.not_lt_zero _)
  · simp only [Option.some.injEq, Addr.mk.injEq, and_true] at e
    obtain ⟨rfl, rfl⟩ := e
    obtain ⟨cs, ⟨v, rfl, hr, ho⟩, hc⟩ := hf i hi
    have e2 := hc 2 (show 2 < 3 by decide)
    rw [show (setF C).sz = 3 from rfl, hu] at e2
    injection e2 with e2
    subst e2
    exact ho
theorem setN_store_rd {w w' : World} {B C C' g n c : Nat} {ys : List (St × Option Nat)} (h : Own (setN B) w C 77 (.slice (some ⟨g, 0, none⟩) n c) ys) {k : Nat} (hk : k < ys.length) (hb : Below w.heap.size w w') {r : Value} {l : List Int}
    (hC : C' ≤ B) (hr : Rd i64E (w'.setCell ⟨g, k * 3 + 2, none⟩ r) r l) (hrb : ∀ q, r.ownBlock = some q → C' ≤ q) : Rd (setF C') (w'.setCell ⟨g, k * 3 + 2, none⟩ r) (.slice (some ⟨g, 0, none⟩) n c) ((ys.map (·.1)).set k { ys[k].1 with slots := l }) := by
  obtain ⟨D, ⟨hl, hrow⟩, hel⟩ := h
  rcases hrow with ⟨hv, hn⟩ | ⟨g', cap, cur, hv, hB, hh, hc, hm, hs, ht⟩
  · omega
  simp only [Value.slice.injEq, Option.some.injEq, Addr.mk.injEq, and_true] at hv
  obtain ⟨rfl, hn, rfl⟩ := hv
  simp only [show (setN B).sz = 3 from rfl] at ht hl hs hel
  have hh' : w'.heap[g]? = some (.cells cur 77 (0, 0)) := below_block hb (block_lt hh) hh
  have hsc : w'.grownBy (w'.setCell ⟨g, k * 3 + 2, none⟩ r) (some g) := grown_setCell' _ _ _
  have hlen : ((ys.map (·.1)).set k { ys[k].1 with slots := l }).length = ys.length := by simp
  have hst : ∀ {u : Value} {zs : List Int}, Own i64E w B 3 u zs → Rd i64E (w'.setCell ⟨g, k * 3 + 2, none⟩ r) u zs := fun {u zs} ho => by
    have ho' := ho.below hb
    exact (ho'.kept hsc (.inr fun e => ho'.ne_block hh' (by decide) e.symm) (fun _ _ e => e)).rd
  refine ⟨some ⟨g, 0, none⟩, c, by rw [hlen, hn], by rw [hlen]; exact hc, hm, .inr ⟨g, 0, rfl, fun i hi => ?_⟩⟩
  rw [hlen] at hi
  obtain ⟨u, e, ho, eo⟩ := hel i hi
  have hcell : ∀ j, j < 3 → cur[i * 3 + j]? = [Value.int .i64 ys[i].1.fr, .int .i64 ys[i].1.to, u][j]? := fun j hj => by
    have := congrArg (fun l : List Value => l[j]?) e
    rw [← ht] at this
    simp only [List.getElem?_take_of_lt hj, List.getElem?_drop] at this
    rw [List.getElem?_take_of_lt (by omega)] at this
    simpa using this
  have hnew : ∀ j, j < 3 → (w'.setCell ⟨g, k * 3 + 2, none⟩ r).cell? ⟨g, 0 + i * (setF C').sz + j, none⟩ = (cur.setIfInBounds (k * 3 + 2) r)[i * 3 + j]? := fun j hj => by
    rw [cell_block (setCell_block hh' r), show (setF C').sz = 3 from rfl, Nat.zero_add]
  by_cases hik : i = k
  · subst hik
    refine ⟨[.int .i64 ys[i].1.fr, .int .i64 ys[i].1.to, r], ⟨r, by rw [List.getElem_set_self], by rw [List.getElem_set_self]; exact hr, hrb⟩, fun j hj => ?_⟩
    rw [hnew j hj, Array.getElem?_setIfInBounds]
    have h3 := hcell j hj
    match j, hj with
    | 0, _ => rw [if_neg (by omega)]; simpa using h3
    | 1, _ => rw [if_neg (by omega)]; simpa using h3
    | 2, _ => rw [if_pos rfl, if_pos (by omega)]; rfl
  · refine ⟨[.int .i64 ys[i].1.fr, .int .i64 ys[i].1.to, u], ⟨u, by rw [List.getElem_set_ne (Ne.symm hik), List.getElem_map], by rw [List.getElem_set_ne (Ne.symm hik), List.getElem_map]; exact hst ho, fun q hq => Nat.le_trans hC (ho.lt q hq).1⟩, fun j hj => ?_⟩
    have hj3 : j < 3 := hj
    rw [hnew j hj, Array.getElem?_setIfInBounds, if_neg (by omega)]
    exact hcell j hj
theorem Own.take {α : Type} {E : El α} {w : World} {B T g n c : Nat} {xs : List α} (h : Own E w B T (.slice (some ⟨g, 0, none⟩) n c) xs) {k : Nat} (hk : k ≤ xs.length) : Own E w B T (.slice (some ⟨g, 0, none⟩) k c) (xs.take k) := by
  obtain ⟨D, ⟨hl, hrow⟩, hel⟩ := h
  have hle : k * E.sz ≤ xs.length * E.sz := Nat.mul_le_mul_right _ hk
  have hkl : (xs.take k).length = k := by rw [List.length_take]; omega
  rcases hrow with ⟨hv, hn⟩ | ⟨g', cap, cur, hv, hB, hh, hc, hm, hs, ht⟩
  · cases hv
  · simp only [Value.slice.injEq, Option.some.injEq, Addr.mk.injEq, and_true] at hv
    obtain ⟨rfl, hn, rfl⟩ := hv
    refine ⟨D.take (k * E.sz), ⟨by rw [hkl, List.length_take]; omega, .inr ⟨g, c, cur, by rw [hkl], hB, hh, by rw [hkl]; omega, hm, hs, by rw [hkl, ← ht, List.take_take, Nat.min_eq_left hle]⟩⟩, fun i hi => ?_⟩
    rw [hkl] at hi
    have h2 := hel i (by omega)
    have hle2 : i * E.sz + E.sz ≤ k * E.sz := by
      have := Nat.mul_le_mul_right E.sz (show i + 1 ≤ k by omega)
      rwa [Nat.succ_mul] at this
    rw [List.getElem_take, List.drop_take, List.take_take, Nat.min_eq_left (by omega)]
    exact h2
/-- sets in another block stay where a block of sets changes -/
theorem setN_move {B C g : Nat} {W W' : World} {v : Value} {ys : List (St × Option Nat)} {cur : Array Value} (h : Own (setN B) W C 77 v ys) (hg : W.grownBy W' (some g)) (hh : W.heap[g]? = some (.cells cur 77 (0, 0))) (hne : v.ownBlock ≠ some g) : Own (setN B) W' C 77 v ys :=
  h.kept hg (.inr hne) fun x cs ⟨u, e, ho, eo⟩ => ⟨u, e, ho.kept hg (.inr fun e2 => ho.ne_block hh (by decide) e2.symm) (fun _ _ e => e), eo⟩
/-- an older block may change -/
theorem setN_old {B C p : Nat} {W W' : World} {v : Value} {ys : List (St × Option Nat)} (h : Own (setN B) W C 77 v ys) (hg : W.grownBy W' (some p)) (h1 : p < B) (h2 : p < C) : Own (setN B) W' C 77 v ys :=
  h.kept hg (.inr fun e => h.ne (.inl h2) e.symm) fun x cs ⟨u, e, ho, eo⟩ => ⟨u, e, ho.kept hg (.inr fun e2 => ho.ne (.inl h1) e2.symm) (fun _ _ e => e), eo⟩
theorem setN_none {B : Nat} {W W' : World} (hg : W.grownBy W' none) {x : St × Option Nat} {cs : List Value} (h : (setN B).rel W x cs) : (setN B).rel W' x cs := by
  obtain ⟨u, e, ho, eo⟩ := h
  exact ⟨u, e, ho.below (grow_none hg), eo⟩
theorem rd_empty {α : Type} {E : El α} {W W' : World} {v : Value} {ys : List α} (h : Rd E W v ys) (hy : ys = []) : Rd E W' v ys := by
  obtain ⟨a, c, e, h1, h2, _⟩ := h
  exact ⟨a, c, e, h1, h2, .inl hy⟩
theorem own_cap {α : Type} {E : El α} {w : World} {B T n c : Nat} {a : Option Addr} {xs : List α} (h : Own E w B T (.slice a n c) xs) : xs.length ≤ c ∧ n = xs.length ∧ c ≤ maxLen := by
  obtain ⟨_, _, e, h1, h2, _⟩ := h.rd
  injection e with e1 e2 e3
  subst e2 e3
  exact ⟨h1, rfl, h2⟩
theorem own_row {α : Type} {E : El α} {w : World} {B T g n c : Nat} {xs : List α} (h : Own E w B T (.slice (some ⟨g, 0, none⟩) n c) xs) : ∃ cur, w.heap[g]? = some (.cells cur T (0, 0)) ∧ B ≤ g ∧ g < w.heap.size := by
  obtain ⟨D, ⟨_, hrow⟩, _⟩ := h
  rcases hrow with ⟨hv, _⟩ | ⟨g', cap, cur, hv, hB, hh, _⟩
  · cases hv
  · simp only [Value.slice.injEq, Option.some.injEq, Addr.mk.injEq, and_true] at hv
    obtain ⟨rfl, _, rfl⟩ := hv
    exact ⟨cur, hh, hB, (Array.getElem?_eq_some_iff.1 hh).1⟩
theorem own_cases {α : Type} {E : El α} {w : World} {B T : Nat} {v : Value} {xs : List α} (h : Own E w B T v xs) : (v = .slice none 0 0 ∧ xs = []) ∨ ∃ g c, v = .slice (some ⟨g, 0, none⟩) xs.length c := by
  obtain ⟨D, ⟨_, hrow⟩, _⟩ := h
  rcases hrow with ⟨hv, h0⟩ | ⟨g, c, cur, hv, _⟩
  · exact .inl ⟨hv, List.length_eq_zero_iff.1 h0⟩
  · exact .inr ⟨g, c, hv⟩
theorem put_new {xs : List St} {ys : List (St × Option Nat)} {fr tq sl : Int} {k : Nat} {o : Option Nat} (hys : ys.map (·.1) = xs) (hk : k ≤ xs.length) : (ys.take k ++ [((⟨fr, tq, [sl]⟩ : St), o)] ++ ys.drop k).map (·.1) = insRes xs fr tq sl k false := by
  unfold insRes
  rw [dif_neg (by simp), insIdx_eq _ _ _ hk, ← hys]
  simp [List.map_take, List.map_drop]
def PutP (C : Nat) (xs : List St) (fr tq sl : Int) (e : Ending) (w' : World) : Prop := ∃ r k ok, e = .returned r ∧ Srch xs fr tq k ok ∧ Rd (setF C) w' r (insRes xs fr tq sl k ok) ∧ ∀ q, r.ownBlock = some q → C ≤ q

set_option maxRecDepth 100000 in
set_option maxHeartbeats 8000000 in
theorem put_any (C : Nat) (v : Value) (xs : List St) (w : World) (hC : C ≤ w.heap.size) (hvF : Rd (setF C) w v xs) (hok : SetsOk xs) (hb : xs.length ≤ 99999) (hsl : ∀ x ∈ xs, x.slots.length ≤ 99999) (fr tq sl : Int) (h3 : FrOk fr) (h4 : FrOk tq) :
    Calls Try.prog 56 #[v, .int .i64 fr, .int .i64 tq, .int .i64 sl] w fun e w' => PutP C xs fr tq sl e w' ∧ Below w.heap.size w w' := by
  have hv := hvF.toE
  obtain ⟨a, cap, rfl, hl, hm, _⟩ := id hv
  have HVF := Lib.hid hvF
  have HV := Lib.hid hv
  have HOK := Lib.hid hok
  have HSL := Lib.hid hsl
  have H3 := Lib.hid h3
  have H4 := Lib.hid h4
  clear hv hok hsl h3 h4 hvF
  unfold maxLen at hm
  go_enter Try.func56, Try.ntmps56
  go_wp2_with fail
  go_loopw [10] (fun i wr => ∃ k : Nat, k ≤ xs.length ∧ i = .int .i64 k ∧ Below (w.heap.size + 1) (w.alloc (.cells #[.int .i64 fr, .int .i64 tq, .slice none 0 0] 77)) wr ∧ ∀ j (h : j < xs.length), j < k → Bef xs[j] ⟨fr, tq, []⟩) (fun i _ => xs.length - (intOf i).toNat)
  case atStart => exact ⟨0, by omega, rfl, Below.refl _ _, fun j _ h => absurd h (Nat.not_lt_zero _)⟩
  case round =>
    obtain ⟨k, hk, rfl, hbel, hlo⟩ := hrel
    have HLO := Lib.hid hlo
    have HBE := Lib.hid hbel
    have hbw : Below w.heap.size w wr := ((Below.refl w.heap.size w).alloc (Nat.le_refl _) _).trans (hbel.mono (by simp))
    have HBW := Lib.hid hbw
    have VB : Hid (VbW w.heap.size ⟨fr, tq, []⟩ none 0 wr) := Lib.hid ⟨below_block hbel (by omega) (heap_alloc_new _ _)⟩
    have hps : w.heap.size + 1 ≤ wr.heap.size := by have := hbel.size; simpa using this
    clear hlo hbel
    by_cases hlt : k < xs.length
    · obtain ⟨b, off, rfl⟩ := rd_addr HV.out (by omega)
      obtain ⟨hq, ra, rc, x0, x1, x2, hrs⟩ := set_cells HV.out hlt
      have HY : Hid (∀ V, Below wr.heap.size wr V → V.cell? ⟨b, off + k * 3, none⟩ = some (.int .i64 xs[k].fr) ∧ V.cell? ⟨b, off + k * 3 + 1, none⟩ = some (.int .i64 xs[k].to) ∧ V.cell? ⟨b, off + k * 3 + 2, none⟩ = some (.slice ra xs[k].slots.length rc) ∧ b < V.heap.size) :=
        Lib.hid fun V hV => by
          have hV' := hbw.trans (hV.mono hbw.size)
          exact ⟨(hV'.cell (p := ⟨b, off + k * 3, none⟩) hq).trans x0, (hV'.cell (p := ⟨b, off + k * 3 + 1, none⟩) hq).trans x1, (hV'.cell (p := ⟨b, off + k * 3 + 2, none⟩) hq).trans x2, Nat.lt_of_lt_of_le hq hV'.size⟩
      have HRS := Lib.hid hrs
      have HRB := Lib.hid (setF_cell HVF.out hlt x2)
      clear x0 x1 x2 hrs hbw
      by_cases h1 : Bef xs[k] ⟨fr, tq, []⟩
      · have HBF := Lib.hid h1
        clear h1
        go_upto_region 3 with (fail)
        apply wp_region_vals (by kernel_rfl) Grw (Grw.drew _) [16, 17, 18, 19, 20, 21, 22, 23, 24, 25, 26, 27] [Is _, Is _, Is _, Is (.bool true), Is _, Is _, Is _, Is _, Is _, Is _, Is (.bool true), Is _] (stb_cons (Stb.is) (stb_cons (Stb.is) (stb_cons (Stb.is) (stb_cons (Stb.is) (stb_cons (Stb.is) (stb_cons (Stb.is) (stb_cons (Stb.is) (stb_cons (Stb.is) (stb_cons (Stb.is) (stb_cons (Stb.is) (stb_cons (Stb.is) (stb_cons (Stb.is) stb_nil)))))))))))) (by kernel_rfl) (by kernel_rfl) (by kernel_rfl)
        · refine VSteps.cons (VStep.mk Grw.trans rfl rfl fun t V hout hE hdep K hK => ?_) ?_
          · skip
            have t10 : t[10]? = some _ := hout 10 (by kernel_rfl)
            clear hout hdep
            go_simp
            exact hK.out _ _ (Grw.refl _) rfl
          refine VSteps.cons (VStep.mk Grw.trans rfl rfl fun t V hout hE hdep K hK => ?_) ?_
          · skip
            have t0 : t[0]? = some _ := hout 0 (by kernel_rfl)
            clear hout hdep
            go_simp
            exact hK.out _ _ (Grw.refl _) rfl
          refine VSteps.cons (VStep.mk Grw.trans rfl rfl fun t V hout hE hdep K hK => ?_) ?_
          · skip
            have t17 := by_is (W := V) (hdep 1 17 (by kernel_rfl))
            clear hout hdep
            go_simp
            exact hK.out _ _ (Grw.refl _) rfl
          refine VSteps.cons (VStep.mk Grw.trans rfl rfl fun t V hout hE hdep K hK => ?_) ?_
          · skip
            have t16 := by_is (W := V) (hdep 0 16 (by kernel_rfl))
            have t18 := by_is (W := V) (hdep 2 18 (by kernel_rfl))
            clear hout hdep
            go_simp
            exact hK.out _ _ (Grw.refl _) rfl
          refine VSteps.cons (VStep.mk Grw.trans rfl rfl fun t V hout hE hdep K hK => ?_) ?_
          · skip
            have t19 := by_is (W := V) (hdep 3 19 (by kernel_rfl))
            clear hout hdep
            go_simp
            exact hK.out _ _ (Grw.refl _) rfl
          refine VSteps.cons (VStep.mkG Grw.trans (dg := 20) rfl rfl (by kernel_rfl) (fun _ _ h => h) fun t V hout hE hdep K hK => ?_) ?_
          · skip
            have t0 : t[0]? = some _ := hout 0 (by kernel_rfl)
            clear hout hdep
            go_simp
            exact hK.out _ _ (Grw.refl _) rfl
          refine VSteps.cons (VStep.mkG Grw.trans (dg := 20) rfl rfl (by kernel_rfl) (fun _ _ h => h) fun t V hout hE hdep K hK => ?_) ?_
          · skip
            have t10 : t[10]? = some _ := hout 10 (by kernel_rfl)
            clear hout hdep
            go_simp
            exact hK.out _ _ (Grw.refl _) rfl
          refine VSteps.cons (VStep.mkG Grw.trans (dg := 20) rfl rfl (by kernel_rfl) (fun _ _ h => h) fun t V hout hE hdep K hK => ?_) ?_
          · skip
            have t21 := by_is (W := V) (hdep 5 21 (by kernel_rfl))
            have t22 := by_is (W := V) (hdep 6 22 (by kernel_rfl))
            clear hout hdep
            go_simp
            exact hK.out _ _ (Grw.refl _) rfl
          refine VSteps.cons (VStep.mkG Grw.trans (dg := 20) rfl rfl (by kernel_rfl) (fun _ _ h => h) fun t V hout hE hdep K hK => ?_) ?_
          · skip
            have t23 := by_is (W := V) (hdep 7 23 (by kernel_rfl))
            clear hout hdep
            obtain ⟨y0, y1, y2, yl⟩ := HY.out V (hE.mono (Nat.le_refl _))
            go_simp
            exact hK.out _ _ (Grw.refl _) rfl
          refine VSteps.cons (VStep.mkG Grw.trans (dg := 20) rfl rfl (by kernel_rfl) (fun _ _ h => h) fun t V hout hE hdep K hK => ?_) ?_
          · skip
            have t9 : t[9]? = some _ := hout 9 (by kernel_rfl)
            clear hout hdep
            obtain ⟨k0, k1, k2, kl⟩ := (VB.out.keep hE).cells
            change _ = some (Value.slice none 0 0) at k2
            go_simp
            exact hK.out _ _ (Grw.refl _) rfl
          refine VSteps.cons (VStep.mkG Grw.trans (dg := 20) rfl rfl (by kernel_rfl) (fun _ _ h => h) fun t V hout hE hdep K hK => ?_) ?_
          · skip
            have t24 := by_is (W := V) (hdep 8 24 (by kernel_rfl))
            have t25 := by_is (W := V) (hdep 9 25 (by kernel_rfl))
            clear hout hdep
            go_simp
            refine (bef_any (xs[k]) ⟨fr, tq, []⟩ _ _ _ _ _ _ _).mono ?_
            rintro e W5 ⟨⟨x, rfl, hx⟩, hb5⟩
            obtain rfl : x = true := hx.2 HBF.out
            go_simp
            exact hK.out _ _ hb5 rfl
          refine VSteps.cons (VStep.mk Grw.trans rfl rfl fun t V hout hE hdep K hK => ?_) ?_
          · skip
            have t20 := by_is (W := V) (hdep 4 20 (by kernel_rfl))
            have t26 := by_is (W := V) (hdep 10 26 (by kernel_rfl))
            clear hout hdep
            go_simp
            exact hK.out _ _ (Grw.refl _) rfl
          exact VSteps.nil (by decide)
        · intro f W hE hF
          have f16 : f 16 = _ := hF 0 16 (by kernel_rfl)
          have f17 : f 17 = _ := hF 1 17 (by kernel_rfl)
          have f18 : f 18 = _ := hF 2 18 (by kernel_rfl)
          have f19 : f 19 = _ := hF 3 19 (by kernel_rfl)
          have f20 : f 20 = _ := hF 4 20 (by kernel_rfl)
          have f21 : f 21 = _ := hF 5 21 (by kernel_rfl)
          have f22 : f 22 = _ := hF 6 22 (by kernel_rfl)
          have f23 : f 23 = _ := hF 7 23 (by kernel_rfl)
          have f24 : f 24 = _ := hF 8 24 (by kernel_rfl)
          have f25 : f 25 = _ := hF 9 25 (by kernel_rfl)
          have f26 : f 26 = _ := hF 10 26 (by kernel_rfl)
          have f27 : f 27 = _ := hF 11 27 (by kernel_rfl)
          simp only [setAllV, List.map_cons, List.map_nil, List.set_cons_succ, List.set_cons_zero, f16, f17, f18, f19, f20, f21, f22, f23, f24, f25, f26, f27]
          clear hF f16 f17 f18 f19 f20 f21 f22 f23 f24 f25 f26 f27
          have HBE2 := Lib.hid (HBE.out.trans (hE.mono hps))
          clear hE
          go_wp2
          go_roundw
          case rel => exact ⟨k + 1, by omega, by go_num, HBE2.out, fun j h hj => by
            rcases Nat.lt_succ_iff_lt_or_eq.1 hj with h5 | h5
            · exact HLO.out j h h5
            · subst h5; exact HBF.out⟩
          case measure => simp [intOf]; omega
      · have HBF := Lib.hid h1
        clear h1
        go_upto_region 3 with (fail)
        apply wp_region_vals (by kernel_rfl) Grw (Grw.drew _) [16, 17, 18, 19, 20, 21, 22, 23, 24, 25, 26, 27] [Is _, Is _, Is _, Is (.bool true), Is _, Is _, Is _, Is _, Is _, Is _, Is (.bool false), Is _] (stb_cons (Stb.is) (stb_cons (Stb.is) (stb_cons (Stb.is) (stb_cons (Stb.is) (stb_cons (Stb.is) (stb_cons (Stb.is) (stb_cons (Stb.is) (stb_cons (Stb.is) (stb_cons (Stb.is) (stb_cons (Stb.is) (stb_cons (Stb.is) (stb_cons (Stb.is) stb_nil)))))))))))) (by kernel_rfl) (by kernel_rfl) (by kernel_rfl)
        · refine VSteps.cons (VStep.mk Grw.trans rfl rfl fun t V hout hE hdep K hK => ?_) ?_
          · skip
            have t10 : t[10]? = some _ := hout 10 (by kernel_rfl)
            clear hout hdep
            go_simp
            exact hK.out _ _ (Grw.refl _) rfl
          refine VSteps.cons (VStep.mk Grw.trans rfl rfl fun t V hout hE hdep K hK => ?_) ?_
          · skip
            have t0 : t[0]? = some _ := hout 0 (by kernel_rfl)
            clear hout hdep
            go_simp
            exact hK.out _ _ (Grw.refl _) rfl
          refine VSteps.cons (VStep.mk Grw.trans rfl rfl fun t V hout hE hdep K hK => ?_) ?_
          · skip
            have t17 := by_is (W := V) (hdep 1 17 (by kernel_rfl))
            clear hout hdep
            go_simp
            exact hK.out _ _ (Grw.refl _) rfl
          refine VSteps.cons (VStep.mk Grw.trans rfl rfl fun t V hout hE hdep K hK => ?_) ?_
          · skip
            have t16 := by_is (W := V) (hdep 0 16 (by kernel_rfl))
            have t18 := by_is (W := V) (hdep 2 18 (by kernel_rfl))
            clear hout hdep
            go_simp
            exact hK.out _ _ (Grw.refl _) rfl
          refine VSteps.cons (VStep.mk Grw.trans rfl rfl fun t V hout hE hdep K hK => ?_) ?_
          · skip
            have t19 := by_is (W := V) (hdep 3 19 (by kernel_rfl))
            clear hout hdep
            go_simp
            exact hK.out _ _ (Grw.refl _) rfl
          refine VSteps.cons (VStep.mkG Grw.trans (dg := 20) rfl rfl (by kernel_rfl) (fun _ _ h => h) fun t V hout hE hdep K hK => ?_) ?_
          · skip
            have t0 : t[0]? = some _ := hout 0 (by kernel_rfl)
            clear hout hdep
            go_simp
            exact hK.out _ _ (Grw.refl _) rfl
          refine VSteps.cons (VStep.mkG Grw.trans (dg := 20) rfl rfl (by kernel_rfl) (fun _ _ h => h) fun t V hout hE hdep K hK => ?_) ?_
          · skip
            have t10 : t[10]? = some _ := hout 10 (by kernel_rfl)
            clear hout hdep
            go_simp
            exact hK.out _ _ (Grw.refl _) rfl
          refine VSteps.cons (VStep.mkG Grw.trans (dg := 20) rfl rfl (by kernel_rfl) (fun _ _ h => h) fun t V hout hE hdep K hK => ?_) ?_
          · skip
            have t21 := by_is (W := V) (hdep 5 21 (by kernel_rfl))
            have t22 := by_is (W := V) (hdep 6 22 (by kernel_rfl))
            clear hout hdep
            go_simp
            exact hK.out _ _ (Grw.refl _) rfl
          refine VSteps.cons (VStep.mkG Grw.trans (dg := 20) rfl rfl (by kernel_rfl) (fun _ _ h => h) fun t V hout hE hdep K hK => ?_) ?_
          · skip
            have t23 := by_is (W := V) (hdep 7 23 (by kernel_rfl))
            clear hout hdep
            obtain ⟨y0, y1, y2, yl⟩ := HY.out V (hE.mono (Nat.le_refl _))
            go_simp
            exact hK.out _ _ (Grw.refl _) rfl
          refine VSteps.cons (VStep.mkG Grw.trans (dg := 20) rfl rfl (by kernel_rfl) (fun _ _ h => h) fun t V hout hE hdep K hK => ?_) ?_
          · skip
            have t9 : t[9]? = some _ := hout 9 (by kernel_rfl)
            clear hout hdep
            obtain ⟨k0, k1, k2, kl⟩ := (VB.out.keep hE).cells
            change _ = some (Value.slice none 0 0) at k2
            go_simp
            exact hK.out _ _ (Grw.refl _) rfl
          refine VSteps.cons (VStep.mkG Grw.trans (dg := 20) rfl rfl (by kernel_rfl) (fun _ _ h => h) fun t V hout hE hdep K hK => ?_) ?_
          · skip
            have t24 := by_is (W := V) (hdep 8 24 (by kernel_rfl))
            have t25 := by_is (W := V) (hdep 9 25 (by kernel_rfl))
            clear hout hdep
            go_simp
            refine (bef_any (xs[k]) ⟨fr, tq, []⟩ _ _ _ _ _ _ _).mono ?_
            rintro e W5 ⟨⟨x, rfl, hx⟩, hb5⟩
            obtain rfl : x = false := by cases x with | false => rfl | true => exact absurd (hx.1 rfl) HBF.out
            go_simp
            exact hK.out _ _ hb5 rfl
          refine VSteps.cons (VStep.mk Grw.trans rfl rfl fun t V hout hE hdep K hK => ?_) ?_
          · skip
            have t20 := by_is (W := V) (hdep 4 20 (by kernel_rfl))
            have t26 := by_is (W := V) (hdep 10 26 (by kernel_rfl))
            clear hout hdep
            go_simp
            exact hK.out _ _ (Grw.refl _) rfl
          exact VSteps.nil (by decide)
        · intro f W0 hE hF
          have f16 : f 16 = _ := hF 0 16 (by kernel_rfl)
          have f17 : f 17 = _ := hF 1 17 (by kernel_rfl)
          have f18 : f 18 = _ := hF 2 18 (by kernel_rfl)
          have f19 : f 19 = _ := hF 3 19 (by kernel_rfl)
          have f20 : f 20 = _ := hF 4 20 (by kernel_rfl)
          have f21 : f 21 = _ := hF 5 21 (by kernel_rfl)
          have f22 : f 22 = _ := hF 6 22 (by kernel_rfl)
          have f23 : f 23 = _ := hF 7 23 (by kernel_rfl)
          have f24 : f 24 = _ := hF 8 24 (by kernel_rfl)
          have f25 : f 25 = _ := hF 9 25 (by kernel_rfl)
          have f26 : f 26 = _ := hF 10 26 (by kernel_rfl)
          have f27 : f 27 = _ := hF 11 27 (by kernel_rfl)
          simp only [setAllV, List.map_cons, List.map_nil, List.set_cons_succ, List.set_cons_zero, f16, f17, f18, f19, f20, f21, f22, f23, f24, f25, f26, f27]
          clear hF f16 f17 f18 f19 f20 f21 f22 f23 f24 f25 f26 f27
          have HBW2 := Lib.hid (HBW.out.trans (hE.mono (by omega)))
          have VB2 := Lib.hid (VB.out.keep hE)
          have hps2 := hE.size
          have HEX : Hid (Below wr.heap.size wr W0) := Lib.hid hE
          clear hE VB HBE
          go_wp2_with (go_at_call 57; fail)
          refine (rcn_any _ xs _ (HV.out.below HBW2.out) (by omega) (fun x hx => by have := HSL.out x hx; omega)).mono ?_
          rintro e w2 ⟨r, ys, rfl, hown, hys, hdst, hb2⟩
          have HB2 := Lib.hid hb2
          have HYS := Lib.hid hys
          have VB := Lib.hid (VB2.out.keep hb2)
          have hyl : ys.length = xs.length := by rw [← hys, List.length_map]
          have hs2 := hb2.size
          have HY2 := HY
          have HY : Hid (∀ V, Below w2.heap.size w2 V → V.cell? ⟨b, off + k * 3, none⟩ = some (.int .i64 xs[k].fr) ∧ V.cell? ⟨b, off + k * 3 + 1, none⟩ = some (.int .i64 xs[k].to) ∧ V.cell? ⟨b, off + k * 3 + 2, none⟩ = some (.slice ra xs[k].slots.length rc) ∧ b < V.heap.size) := Lib.hid fun V hV => HY2.out V (((HEX.out).trans (HB2.out.mono hps2)).trans (hV.mono (by omega)))
          have HBW3 := Lib.hid (HBW2.out.trans (hb2.mono (by omega)))
          clear hb2 hys hdst HY2 VB2 HBW2
          obtain ⟨g, cp, rfl⟩ := own_form hown (by omega)
          rw [hyl] at hown
          have HOW := Lib.hid hown
          have hcp := (own_cap hown).1
          have hnc : ¬ (cp = k) := by omega
          have hkc1 : (k : Int) ≤ (cp : Int) := by omega
          have hkc2 : k ≤ cp := by omega
          obtain ⟨cur, hgrow, hgB, hgl⟩ := own_row hown
          have hww : w.heap.size + 1 ≤ W0.heap.size := by omega
          clear hgrow
          clear hown
          by_cases h5 : Bef ⟨fr, tq, []⟩ xs[k]
          · have HBF2 := Lib.hid h5
            clear h5
            go_upto_region 6 with (fail)
            apply wp_region_vals (by kernel_rfl) Grw (Grw.drew _) [32, 33, 34, 35, 36, 37, 38, 39, 40, 41, 42, 43, 44] [Is _, Is _, Is _, Is (.bool true), Is _, Is _, Is _, Is _, Is _, Is _, Is (.bool true), Is _, Is _] (stb_cons (Stb.is) (stb_cons (Stb.is) (stb_cons (Stb.is) (stb_cons (Stb.is) (stb_cons (Stb.is) (stb_cons (Stb.is) (stb_cons (Stb.is) (stb_cons (Stb.is) (stb_cons (Stb.is) (stb_cons (Stb.is) (stb_cons (Stb.is) (stb_cons (Stb.is) (stb_cons (Stb.is) stb_nil))))))))))))) (by kernel_rfl) (by kernel_rfl) (by kernel_rfl)
            · refine VSteps.cons (VStep.mk Grw.trans rfl rfl fun t V hout hE hdep K hK => ?_) ?_
              · skip
                have t10 : t[10]? = some _ := hout 10 (by kernel_rfl)
                clear hout hdep
                go_simp
                exact hK.out _ _ (Grw.refl _) rfl
              refine VSteps.cons (VStep.mk Grw.trans rfl rfl fun t V hout hE hdep K hK => ?_) ?_
              · skip
                have t0 : t[0]? = some _ := hout 0 (by kernel_rfl)
                clear hout hdep
                go_simp
                exact hK.out _ _ (Grw.refl _) rfl
              refine VSteps.cons (VStep.mk Grw.trans rfl rfl fun t V hout hE hdep K hK => ?_) ?_
              · skip
                have t33 := by_is (W := V) (hdep 1 33 (by kernel_rfl))
                clear hout hdep
                go_simp
                exact hK.out _ _ (Grw.refl _) rfl
              refine VSteps.cons (VStep.mk Grw.trans rfl rfl fun t V hout hE hdep K hK => ?_) ?_
              · skip
                have t32 := by_is (W := V) (hdep 0 32 (by kernel_rfl))
                have t34 := by_is (W := V) (hdep 2 34 (by kernel_rfl))
                clear hout hdep
                go_simp
                exact hK.out _ _ (Grw.refl _) rfl
              refine VSteps.cons (VStep.mk Grw.trans rfl rfl fun t V hout hE hdep K hK => ?_) ?_
              · skip
                have t35 := by_is (W := V) (hdep 3 35 (by kernel_rfl))
                clear hout hdep
                go_simp
                exact hK.out _ _ (Grw.refl _) rfl
              refine VSteps.cons (VStep.mkG Grw.trans (dg := 36) rfl rfl (by kernel_rfl) (fun _ _ h => h) fun t V hout hE hdep K hK => ?_) ?_
              · skip
                have t9 : t[9]? = some _ := hout 9 (by kernel_rfl)
                clear hout hdep
                obtain ⟨k0, k1, k2, kl⟩ := (VB.out.keep hE).cells
                change _ = some (Value.slice none 0 0) at k2
                go_simp
                exact hK.out _ _ (Grw.refl _) rfl
              refine VSteps.cons (VStep.mkG Grw.trans (dg := 36) rfl rfl (by kernel_rfl) (fun _ _ h => h) fun t V hout hE hdep K hK => ?_) ?_
              · skip
                have t0 : t[0]? = some _ := hout 0 (by kernel_rfl)
                clear hout hdep
                go_simp
                exact hK.out _ _ (Grw.refl _) rfl
              refine VSteps.cons (VStep.mkG Grw.trans (dg := 36) rfl rfl (by kernel_rfl) (fun _ _ h => h) fun t V hout hE hdep K hK => ?_) ?_
              · skip
                have t10 : t[10]? = some _ := hout 10 (by kernel_rfl)
                clear hout hdep
                go_simp
                exact hK.out _ _ (Grw.refl _) rfl
              refine VSteps.cons (VStep.mkG Grw.trans (dg := 36) rfl rfl (by kernel_rfl) (fun _ _ h => h) fun t V hout hE hdep K hK => ?_) ?_
              · skip
                have t38 := by_is (W := V) (hdep 6 38 (by kernel_rfl))
                have t39 := by_is (W := V) (hdep 7 39 (by kernel_rfl))
                clear hout hdep
                go_simp
                exact hK.out _ _ (Grw.refl _) rfl
              refine VSteps.cons (VStep.mkG Grw.trans (dg := 36) rfl rfl (by kernel_rfl) (fun _ _ h => h) fun t V hout hE hdep K hK => ?_) ?_
              · skip
                have t40 := by_is (W := V) (hdep 8 40 (by kernel_rfl))
                clear hout hdep
                obtain ⟨y0, y1, y2, yl⟩ := HY.out V (hE.mono (Nat.le_refl _))
                go_simp
                exact hK.out _ _ (Grw.refl _) rfl
              refine VSteps.cons (VStep.mkG Grw.trans (dg := 36) rfl rfl (by kernel_rfl) (fun _ _ h => h) fun t V hout hE hdep K hK => ?_) ?_
              · skip
                have t37 := by_is (W := V) (hdep 5 37 (by kernel_rfl))
                have t41 := by_is (W := V) (hdep 9 41 (by kernel_rfl))
                clear hout hdep
                go_simp
                refine (bef_any ⟨fr, tq, []⟩ (xs[k]) _ _ _ _ _ _ _).mono ?_
                rintro e W5 ⟨⟨x, rfl, hx⟩, hb5⟩
                obtain rfl : x = true := hx.2 HBF2.out
                go_simp
                exact hK.out _ _ hb5 rfl
              refine VSteps.cons (VStep.mkG Grw.trans (dg := 36) rfl rfl (by kernel_rfl) (fun _ _ h => h) fun t V hout hE hdep K hK => ?_) ?_
              · skip
                have t42 := by_is (W := V) (hdep 10 42 (by kernel_rfl))
                clear hout hdep
                go_simp
                exact hK.out _ _ (Grw.refl _) rfl
              refine VSteps.cons (VStep.mk Grw.trans rfl rfl fun t V hout hE hdep K hK => ?_) ?_
              · skip
                have t36 := by_is (W := V) (hdep 4 36 (by kernel_rfl))
                have t43 := by_is (W := V) (hdep 11 43 (by kernel_rfl))
                clear hout hdep
                go_simp
                exact hK.out _ _ (Grw.refl _) rfl
              exact VSteps.nil (by decide)
            · intro f W hE hF
              have f32 : f 32 = _ := hF 0 32 (by kernel_rfl)
              have f33 : f 33 = _ := hF 1 33 (by kernel_rfl)
              have f34 : f 34 = _ := hF 2 34 (by kernel_rfl)
              have f35 : f 35 = _ := hF 3 35 (by kernel_rfl)
              have f36 : f 36 = _ := hF 4 36 (by kernel_rfl)
              have f37 : f 37 = _ := hF 5 37 (by kernel_rfl)
              have f38 : f 38 = _ := hF 6 38 (by kernel_rfl)
              have f39 : f 39 = _ := hF 7 39 (by kernel_rfl)
              have f40 : f 40 = _ := hF 8 40 (by kernel_rfl)
              have f41 : f 41 = _ := hF 9 41 (by kernel_rfl)
              have f42 : f 42 = _ := hF 10 42 (by kernel_rfl)
              have f43 : f 43 = _ := hF 11 43 (by kernel_rfl)
              have f44 : f 44 = _ := hF 12 44 (by kernel_rfl)
              simp only [setAllV, List.map_cons, List.map_nil, List.set_cons_succ, List.set_cons_zero, f32, f33, f34, f35, f36, f37, f38, f39, f40, f41, f42, f43, f44]
              clear hF f32 f33 f34 f35 f36 f37 f38 f39 f40 f41 f42 f43 f44
              have HB4 := Lib.hid hE
              have hs4 := hE.size
              have VB4 := Lib.hid (VB.out.keep hE)
              obtain ⟨k0, k1, k2, kl⟩ := VB4.out.cells
              change _ = some (Value.slice none 0 0) at k2
              have kf : W.frozen? ⟨w.heap.size, 2, none⟩ = false := frozen_block VB4.out.box
              have HSR := Lib.hid (srch_of (ok := false) HOK.out H3.out H4.out hk HLO.out (fun _ => HBF.out) (by simp; intro h; exact HBF2.out))
              have HB9 : Hid (Below w.heap.size w W) := Lib.hid (HBW3.out.trans (hE.mono (by omega)))
              clear hE
              generalize hBd : W0.heap.size = B at *
              have hg9 : W.grownBy ((W.setCell ⟨w.heap.size, 2, none⟩ (.slice (some ⟨W.heap.size, 0, none⟩) 1 1)).alloc (.cells #[.int .i64 sl] 3)) (some w.heap.size) := grown_trans (grown_setCell' _ _ _) grown_new
              have HOW9 := Lib.hid (setN_old (HOW.out.below HB4.out) hg9 (by omega) (by omega))
              have HQ9 : Hid (((W.setCell ⟨w.heap.size, 2, none⟩ (.slice (some ⟨W.heap.size, 0, none⟩) 1 1)).alloc (.cells #[.int .i64 sl] 3)).heap[W.heap.size]? = _) := Lib.hid (heap_alloc_at _ _ _ (by simp [World.setCell]))
              have HX9 : Hid (((W.setCell ⟨w.heap.size, 2, none⟩ (.slice (some ⟨W.heap.size, 0, none⟩) 1 1)).alloc (.cells #[.int .i64 sl] 3)).heap[w.heap.size]? = some (.cells #[.int .i64 fr, .int .i64 tq, .slice (some ⟨W.heap.size, 0, none⟩) 1 1] 77 (0, 0))) := Lib.hid (alloc_block (setCell_block VB4.out.box _))
              have HS9 : Hid (((W.setCell ⟨w.heap.size, 2, none⟩ (.slice (some ⟨W.heap.size, 0, none⟩) 1 1)).alloc (.cells #[.int .i64 sl] 3)).heap.size = W.heap.size + 1) := Lib.hid (by simp [World.setCell])
              have HB9' : Hid (Below w.heap.size w ((W.setCell ⟨w.heap.size, 2, none⟩ (.slice (some ⟨W.heap.size, 0, none⟩) 1 1)).alloc (.cells #[.int .i64 sl] 3))) := Lib.hid (HB9.out.grown hg9 (by omega) (fun q e => by injection e; omega))
              clear hg9
              go_wp2_with (at_builtin; go_loud (refine wpList_append_rd (setN B) setS rfl _ _ rfl (W.heap.size + 1) (.slice none 0 0) [] rfl (Own.nil _ _ _ _) _ (ys.drop k) rfl (Rd.dropA' (A := some ⟨g, k * 3, none⟩) HOW9.out.rd (by omega) rfl rfl (fun _ => by rw [Nat.zero_add]; rfl)) one_setN (by simp; omega) (by unfold maxLen; simp; omega) (by simp [World.setCell]) (fun _ _ _ hg h => setN_none hg h) ?_; intro v10 w10 ho10 hg10 hb10 hn10))
              all_goals
                have HO10 := Lib.hid ho10
                have hbw10 := grow_none hg10
                have hs10 := hbw10.size
                rw [HS9.out] at hs10
                have HOW10 := Lib.hid (HOW9.out.below hbw10)
                obtain ⟨cur10, hgr10, hgB10, hgl10⟩ := own_row HOW10.out
                have hq10 := below_block hbw10 (block_lt HQ9.out) HQ9.out
                have hx10 := below_block hbw10 (block_lt HX9.out) HX9.out
                have HB10 := Lib.hid (HB9'.out.trans (hbw10.mono (by rw [HS9.out]; omega)))
                have z0 : w10.cell? ⟨w.heap.size, 0, none⟩ = some (.int .i64 fr) := by rw [cell_block hx10]; rfl
                have z1 : w10.cell? ⟨w.heap.size, 1, none⟩ = some (.int .i64 tq) := by rw [cell_block hx10]; rfl
                have z2 : w10.cell? ⟨w.heap.size, 2, none⟩ = some (.slice (some ⟨W.heap.size, 0, none⟩) 1 1) := by rw [cell_block hx10]; rfl
                have HQ10 := Lib.hid hq10
                have hytl : (ys.take k).length = k := by rw [List.length_take]; omega
                have hydl : (ys.drop k).length ≤ 99999 := by rw [List.length_drop]; omega
                have hlit : ∀ o, Own i64E ((w10.alloc o).drew) B 3 (.slice (some ⟨W.heap.size, 0, none⟩) 1 1) [sl] := fun o => own_lit (by omega) (alloc_block HQ10.out) rfl rfl (by unfold maxLen; omega)
                have HLIT := Lib.hid hlit
                obtain ⟨a10, l10, c10, rfl⟩ := own_sl ho10
                clear ho10 hg10 hb10 hn10 hbw10 hq10 hx10 hlit
                go_region_law (first
                  | (refine step_append_lit (setN B) setS rfl _ _ rfl B _ (ys.take k) rfl (((HOW10.out.take (show k ≤ ys.length by omega)).alloc _).below (Below.refl _ _).drew) ((⟨fr, tq, [sl]⟩ : St), some W.heap.size) _ _ rfl (heap_alloc_new _ _) ⟨_, rfl, HLIT.out _, rfl⟩ (by simp [Value.oneCell']) (by omega) (by unfold maxLen; omega) (by simp; omega) (fun _ _ _ hg h => setN_kept (((HOW10.out.take (show k ≤ ys.length by omega)).alloc _).below (Below.refl _ _).drew) hg h) ?_; intro v11 w11 ho11 hg11 hb11)
                  | (refine step_wp rfl (wp_append_rd (setN B) setS _ _ rfl B _ (ys.take k ++ [((⟨fr, tq, [sl]⟩ : St), some W.heap.size)]) rfl ho11 _ (ys.drop k) rfl (setN_move (((HO10.out.alloc _).below (Below.refl _ _).drew)) hg11 (alloc_block hgr10) (fun e => HO10.out.ne (b := g) (.inl (by omega)) e.symm)).rd one_setN (by simp; omega) (by unfold maxLen; simp; omega) (by have := hb11.size; simp at this; omega) (fun _ _ _ hg h => setN_kept ho11 hg h) ?_); intro v12 w12 ho12 hg12 hb12 hn12))
                all_goals
                  have HRD := Lib.hid (own_setF (C := C) ho12 (by omega))
                  have HRO := Lib.hid (fun q hq => Nat.le_trans (show C ≤ B by omega) (ho12.lt q hq).1)
                  have hbf := ((HB10.out.alloc (by omega) (.cells #[.int .i64 fr, .int .i64 tq, .slice (some ⟨W.heap.size, 0, none⟩) 1 1] 77)).drew.trans (hb11.mono (by omega))).trans (hb12.mono (by omega))
                  have HBF := Lib.hid hbf
                  obtain ⟨a12, l12, c12, rfl⟩ := own_sl ho12
                  clear ho12 hg12 hb12 hn12 ho11 hg11 hb11 hbf
                  go_wp2
                  all_goals go_ret
                  all_goals exact ⟨⟨_, k, false, rfl, HSR.out, by rw [← put_new (o := some W.heap.size) HYS.out hk]; exact HRD.out, HRO.out⟩, HBF.out⟩
          · have HBF2 := Lib.hid h5
            clear h5
            go_upto_region 6 with (fail)
            apply wp_region_vals (by kernel_rfl) Grw (Grw.drew _) [32, 33, 34, 35, 36, 37, 38, 39, 40, 41, 42, 43, 44] [Is _, Is _, Is _, Is (.bool true), Is _, Is _, Is _, Is _, Is _, Is _, Is (.bool false), Is _, Is _] (stb_cons (Stb.is) (stb_cons (Stb.is) (stb_cons (Stb.is) (stb_cons (Stb.is) (stb_cons (Stb.is) (stb_cons (Stb.is) (stb_cons (Stb.is) (stb_cons (Stb.is) (stb_cons (Stb.is) (stb_cons (Stb.is) (stb_cons (Stb.is) (stb_cons (Stb.is) (stb_cons (Stb.is) stb_nil))))))))))))) (by kernel_rfl) (by kernel_rfl) (by kernel_rfl)
            · refine VSteps.cons (VStep.mk Grw.trans rfl rfl fun t V hout hE hdep K hK => ?_) ?_
              · skip
                have t10 : t[10]? = some _ := hout 10 (by kernel_rfl)
                clear hout hdep
                go_simp
                exact hK.out _ _ (Grw.refl _) rfl
              refine VSteps.cons (VStep.mk Grw.trans rfl rfl fun t V hout hE hdep K hK => ?_) ?_
              · skip
                have t0 : t[0]? = some _ := hout 0 (by kernel_rfl)
                clear hout hdep
                go_simp
                exact hK.out _ _ (Grw.refl _) rfl
              refine VSteps.cons (VStep.mk Grw.trans rfl rfl fun t V hout hE hdep K hK => ?_) ?_
              · skip
                have t33 := by_is (W := V) (hdep 1 33 (by kernel_rfl))
                clear hout hdep
                go_simp
                exact hK.out _ _ (Grw.refl _) rfl
              refine VSteps.cons (VStep.mk Grw.trans rfl rfl fun t V hout hE hdep K hK => ?_) ?_
              · skip
                have t32 := by_is (W := V) (hdep 0 32 (by kernel_rfl))
                have t34 := by_is (W := V) (hdep 2 34 (by kernel_rfl))
                clear hout hdep
                go_simp
                exact hK.out _ _ (Grw.refl _) rfl
              refine VSteps.cons (VStep.mk Grw.trans rfl rfl fun t V hout hE hdep K hK => ?_) ?_
              · skip
                have t35 := by_is (W := V) (hdep 3 35 (by kernel_rfl))
                clear hout hdep
                go_simp
                exact hK.out _ _ (Grw.refl _) rfl
              refine VSteps.cons (VStep.mkG Grw.trans (dg := 36) rfl rfl (by kernel_rfl) (fun _ _ h => h) fun t V hout hE hdep K hK => ?_) ?_
              · skip
                have t9 : t[9]? = some _ := hout 9 (by kernel_rfl)
                clear hout hdep
                obtain ⟨k0, k1, k2, kl⟩ := (VB.out.keep hE).cells
                change _ = some (Value.slice none 0 0) at k2
                go_simp
                exact hK.out _ _ (Grw.refl _) rfl
              refine VSteps.cons (VStep.mkG Grw.trans (dg := 36) rfl rfl (by kernel_rfl) (fun _ _ h => h) fun t V hout hE hdep K hK => ?_) ?_
              · skip
                have t0 : t[0]? = some _ := hout 0 (by kernel_rfl)
                clear hout hdep
                go_simp
                exact hK.out _ _ (Grw.refl _) rfl
              refine VSteps.cons (VStep.mkG Grw.trans (dg := 36) rfl rfl (by kernel_rfl) (fun _ _ h => h) fun t V hout hE hdep K hK => ?_) ?_
              · skip
                have t10 : t[10]? = some _ := hout 10 (by kernel_rfl)
                clear hout hdep
                go_simp
                exact hK.out _ _ (Grw.refl _) rfl
              refine VSteps.cons (VStep.mkG Grw.trans (dg := 36) rfl rfl (by kernel_rfl) (fun _ _ h => h) fun t V hout hE hdep K hK => ?_) ?_
              · skip
                have t38 := by_is (W := V) (hdep 6 38 (by kernel_rfl))
                have t39 := by_is (W := V) (hdep 7 39 (by kernel_rfl))
                clear hout hdep
                go_simp
                exact hK.out _ _ (Grw.refl _) rfl
              refine VSteps.cons (VStep.mkG Grw.trans (dg := 36) rfl rfl (by kernel_rfl) (fun _ _ h => h) fun t V hout hE hdep K hK => ?_) ?_
              · skip
                have t40 := by_is (W := V) (hdep 8 40 (by kernel_rfl))
                clear hout hdep
                obtain ⟨y0, y1, y2, yl⟩ := HY.out V (hE.mono (Nat.le_refl _))
                go_simp
                exact hK.out _ _ (Grw.refl _) rfl
              refine VSteps.cons (VStep.mkG Grw.trans (dg := 36) rfl rfl (by kernel_rfl) (fun _ _ h => h) fun t V hout hE hdep K hK => ?_) ?_
              · skip
                have t37 := by_is (W := V) (hdep 5 37 (by kernel_rfl))
                have t41 := by_is (W := V) (hdep 9 41 (by kernel_rfl))
                clear hout hdep
                go_simp
                refine (bef_any ⟨fr, tq, []⟩ (xs[k]) _ _ _ _ _ _ _).mono ?_
                rintro e W5 ⟨⟨x, rfl, hx⟩, hb5⟩
                obtain rfl : x = false := by cases x with | false => rfl | true => exact absurd (hx.1 rfl) HBF2.out
                go_simp
                exact hK.out _ _ hb5 rfl
              refine VSteps.cons (VStep.mkG Grw.trans (dg := 36) rfl rfl (by kernel_rfl) (fun _ _ h => h) fun t V hout hE hdep K hK => ?_) ?_
              · skip
                have t42 := by_is (W := V) (hdep 10 42 (by kernel_rfl))
                clear hout hdep
                go_simp
                exact hK.out _ _ (Grw.refl _) rfl
              refine VSteps.cons (VStep.mk Grw.trans rfl rfl fun t V hout hE hdep K hK => ?_) ?_
              · skip
                have t36 := by_is (W := V) (hdep 4 36 (by kernel_rfl))
                have t43 := by_is (W := V) (hdep 11 43 (by kernel_rfl))
                clear hout hdep
                go_simp
                exact hK.out _ _ (Grw.refl _) rfl
              exact VSteps.nil (by decide)
            · intro f W hE hF
              have f32 : f 32 = _ := hF 0 32 (by kernel_rfl)
              have f33 : f 33 = _ := hF 1 33 (by kernel_rfl)
              have f34 : f 34 = _ := hF 2 34 (by kernel_rfl)
              have f35 : f 35 = _ := hF 3 35 (by kernel_rfl)
              have f36 : f 36 = _ := hF 4 36 (by kernel_rfl)
              have f37 : f 37 = _ := hF 5 37 (by kernel_rfl)
              have f38 : f 38 = _ := hF 6 38 (by kernel_rfl)
              have f39 : f 39 = _ := hF 7 39 (by kernel_rfl)
              have f40 : f 40 = _ := hF 8 40 (by kernel_rfl)
              have f41 : f 41 = _ := hF 9 41 (by kernel_rfl)
              have f42 : f 42 = _ := hF 10 42 (by kernel_rfl)
              have f43 : f 43 = _ := hF 11 43 (by kernel_rfl)
              have f44 : f 44 = _ := hF 12 44 (by kernel_rfl)
              simp only [setAllV, List.map_cons, List.map_nil, List.set_cons_succ, List.set_cons_zero, f32, f33, f34, f35, f36, f37, f38, f39, f40, f41, f42, f43, f44]
              clear hF f32 f33 f34 f35 f36 f37 f38 f39 f40 f41 f42 f43 f44
              have HB4 := Lib.hid hE
              have hs4 := hE.size
              obtain ⟨y0, y1, y2, yl⟩ := HY.out _ hE
              have HSR := Lib.hid (srch_of (ok := true) HOK.out H3.out H4.out hk HLO.out (fun _ => HBF.out) (by simp [hlt]; exact HBF2.out))
              have HB9 : Hid (Below w.heap.size w W) := Lib.hid (HBW3.out.trans (hE.mono (by omega)))
              clear hE
              have hso := (HOK.out k hlt).2.2.2
              have hsl2 := HSL.out _ (List.getElem_mem hlt)
              have HWI := Lib.hid (with_any _ xs[k].slots W (HRS.out.below HB9.out) (by omega) hso.sorted sl)
              clear hso
              go_wp2_with (go_at_call 64; fail)
              refine HWI.out.mono ?_
              rintro e w5 ⟨⟨r', rfl, hr'⟩, hb5⟩
              have how5 := (HOW.out.below HB4.out).below hb5
              obtain ⟨hgB5, hgl5, hfz, u, hu, hou, hub⟩ := own_slots how5 (k := k) (by omega)
              obtain ⟨cur5, hgr5, _, _⟩ := own_row how5
              have hbf : Below w.heap.size w (w5.setCell ⟨g, k * 3 + 2, none⟩ r') := (HB9.out.trans (hb5.mono (by omega))).setCell (by show w.heap.size ≤ g; omega) _
              have hyk : ys[k].1 = xs[k] := by
                have := HYS.out
                subst this
                rw [List.getElem_map]
              have hrd : Rd i64E (w5.setCell ⟨g, k * 3 + 2, none⟩ r') r' (slotIns xs[k].slots sl) ∧ (∀ q, r'.ownBlock = some q → C ≤ q) ∧ ∃ a l c, r' = .slice a l c := by
                rcases hr' with ⟨rfl, hc⟩ | ⟨hc, ho⟩
                · refine ⟨?_, HRB.out, _, _, _, rfl⟩
                  unfold slotIns
                  rw [if_pos hc]
                  exact HRS.out.below hbf
                · exact ⟨(ho.kept (grown_setCell' _ _ _) (.inr fun e => ho.ne_block hgr5 (by decide) e.symm) (fun _ _ e => e)).rd, fun q hq => by have := (ho.lt q hq).1; omega, own_sl ho⟩
              have hres : Rd (setF C) (w5.setCell ⟨g, k * 3 + 2, none⟩ r') (.slice (some ⟨g, 0, none⟩) xs.length cp) (insRes xs fr tq sl k true) := by
                have := setN_store_rd how5 (C' := C) (k := k) (by omega) (Below.refl _ _) (by omega) hrd.1 hrd.2.1
                rw [HYS.out, hyk] at this
                unfold insRes
                rw [dif_pos ⟨rfl, hlt⟩]
                exact this
              have HRES := Lib.hid hres
              have HBF := Lib.hid hbf
              obtain ⟨_, _, ra5, rl5, rc5, rfl⟩ := hrd
              clear hr' hb5 how5 hou hub hbf hres hgr5
              go_wp2
              go_ret
              exact ⟨⟨_, k, true, rfl, HSR.out, HRES.out, fun q hq => by injection hq with hq; rw [← hq]; show C ≤ g; omega⟩, HBF.out⟩
    · obtain rfl : k = xs.length := by omega
      clear hbw
      go_upto_region 3 with (fail)
      apply wp_region_vals (by kernel_rfl) Grw (Grw.drew _) [16, 17, 18, 19, 20, 21, 22, 23, 24, 25, 26, 27] [Is _, Is _, Is _, Is (.bool false), Is _, Is _, Is _, Is _, Is _, Is _, Is _, Is _] (stb_cons (Stb.is) (stb_cons (Stb.is) (stb_cons (Stb.is) (stb_cons (Stb.is) (stb_cons (Stb.is) (stb_cons (Stb.is) (stb_cons (Stb.is) (stb_cons (Stb.is) (stb_cons (Stb.is) (stb_cons (Stb.is) (stb_cons (Stb.is) (stb_cons (Stb.is) stb_nil)))))))))))) (by kernel_rfl) (by kernel_rfl) (by kernel_rfl)
      · refine VSteps.cons (VStep.mk Grw.trans rfl rfl fun t V hout hE hdep K hK => ?_) ?_
        · skip
          have t10 : t[10]? = some _ := hout 10 (by kernel_rfl)
          clear hout hdep
          go_simp
          exact hK.out _ _ (Grw.refl _) rfl
        refine VSteps.cons (VStep.mk Grw.trans rfl rfl fun t V hout hE hdep K hK => ?_) ?_
        · skip
          have t0 : t[0]? = some _ := hout 0 (by kernel_rfl)
          clear hout hdep
          go_simp
          exact hK.out _ _ (Grw.refl _) rfl
        refine VSteps.cons (VStep.mk Grw.trans rfl rfl fun t V hout hE hdep K hK => ?_) ?_
        · skip
          have t17 := by_is (W := V) (hdep 1 17 (by kernel_rfl))
          clear hout hdep
          go_simp
          exact hK.out _ _ (Grw.refl _) rfl
        refine VSteps.cons (VStep.mk Grw.trans rfl rfl fun t V hout hE hdep K hK => ?_) ?_
        · skip
          have t16 := by_is (W := V) (hdep 0 16 (by kernel_rfl))
          have t18 := by_is (W := V) (hdep 2 18 (by kernel_rfl))
          clear hout hdep
          go_simp
          exact hK.out _ _ (Grw.refl _) rfl
        refine VSteps.cons (VStep.mk Grw.trans rfl rfl fun t V hout hE hdep K hK => ?_) ?_
        · skip
          have t19 := by_is (W := V) (hdep 3 19 (by kernel_rfl))
          clear hout hdep
          go_simp
          exact hK.out _ _ (Grw.refl _) rfl
        refine VSteps.cons (VStep.mkN Grw.refl (dg := 20) rfl rfl (by kernel_rfl) (fun _ _ h => h) (fun _ => rfl)) ?_
        refine VSteps.cons (VStep.mkN Grw.refl (dg := 20) rfl rfl (by kernel_rfl) (fun _ _ h => h) (fun _ => rfl)) ?_
        refine VSteps.cons (VStep.mkN Grw.refl (dg := 20) rfl rfl (by kernel_rfl) (fun _ _ h => h) (fun _ => rfl)) ?_
        refine VSteps.cons (VStep.mkN Grw.refl (dg := 20) rfl rfl (by kernel_rfl) (fun _ _ h => h) (fun _ => rfl)) ?_
        refine VSteps.cons (VStep.mkN Grw.refl (dg := 20) rfl rfl (by kernel_rfl) (fun _ _ h => h) (fun _ => rfl)) ?_
        refine VSteps.cons (VStep.mkN Grw.refl (dg := 20) rfl rfl (by kernel_rfl) (fun _ _ h => h) (fun _ => rfl)) ?_
        refine VSteps.cons (VStep.mk Grw.trans rfl rfl fun t V hout hE hdep K hK => ?_) ?_
        · skip
          have t20 := by_is (W := V) (hdep 4 20 (by kernel_rfl))
          have t26 := by_is (W := V) (hdep 10 26 (by kernel_rfl))
          clear hout hdep
          go_simp
          exact hK.out _ _ (Grw.refl _) rfl
        exact VSteps.nil (by decide)
      · intro f W0 hE hF
        have f16 : f 16 = _ := hF 0 16 (by kernel_rfl)
        have f17 : f 17 = _ := hF 1 17 (by kernel_rfl)
        have f18 : f 18 = _ := hF 2 18 (by kernel_rfl)
        have f19 : f 19 = _ := hF 3 19 (by kernel_rfl)
        have f20 : f 20 = _ := hF 4 20 (by kernel_rfl)
        have f21 : f 21 = _ := hF 5 21 (by kernel_rfl)
        have f22 : f 22 = _ := hF 6 22 (by kernel_rfl)
        have f23 : f 23 = _ := hF 7 23 (by kernel_rfl)
        have f24 : f 24 = _ := hF 8 24 (by kernel_rfl)
        have f25 : f 25 = _ := hF 9 25 (by kernel_rfl)
        have f26 : f 26 = _ := hF 10 26 (by kernel_rfl)
        have f27 : f 27 = _ := hF 11 27 (by kernel_rfl)
        simp only [setAllV, List.map_cons, List.map_nil, List.set_cons_succ, List.set_cons_zero, f16, f17, f18, f19, f20, f21, f22, f23, f24, f25, f26, f27]
        clear hF f16 f17 f18 f19 f20 f21 f22 f23 f24 f25 f26 f27
        have HBW2 := Lib.hid (HBW.out.trans (hE.mono (by omega)))
        have VB2 := Lib.hid (VB.out.keep hE)
        have hps2 := hE.size
        clear hE VB HBE
        go_wp2_with (go_at_call 57; fail)
        refine (rcn_any _ xs _ (HV.out.below HBW2.out) (by omega) (fun x hx => by have := HSL.out x hx; omega)).mono ?_
        rintro e w2 ⟨r, ys, rfl, hown, hys, hdst, hb2⟩
        have HB2 := Lib.hid hb2
        have HYS := Lib.hid hys
        have VB := Lib.hid (VB2.out.keep hb2)
        have hyl : ys.length = xs.length := by rw [← hys, List.length_map]
        have hs2 := hb2.size
        have HBW3 := Lib.hid (HBW2.out.trans (hb2.mono (by omega)))
        have hww : w.heap.size + 1 ≤ W0.heap.size := by omega
        clear hb2 hys hdst VB2 HBW2
        rcases own_cases hown with ⟨rfl, hnil⟩ | ⟨g, cp, rfl⟩
        · have HOW := Lib.hid hown
          have hxn : xs.length = 0 := by rw [← hyl, hnil]; rfl
          have hxz : (xs.length : Int) = 0 := by omega
          clear hown
          go_upto_region 6 with (fail)
          apply wp_region_vals (by kernel_rfl) Grw (Grw.drew _) [32, 33, 34, 35, 36, 37, 38, 39, 40, 41, 42, 43, 44] [Is _, Is _, Is _, Is (.bool false), Is _, Is _, Is _, Is _, Is _, Is _, Is _, Is _, Is _] (stb_cons (Stb.is) (stb_cons (Stb.is) (stb_cons (Stb.is) (stb_cons (Stb.is) (stb_cons (Stb.is) (stb_cons (Stb.is) (stb_cons (Stb.is) (stb_cons (Stb.is) (stb_cons (Stb.is) (stb_cons (Stb.is) (stb_cons (Stb.is) (stb_cons (Stb.is) (stb_cons (Stb.is) stb_nil))))))))))))) (by kernel_rfl) (by kernel_rfl) (by kernel_rfl)
          · refine VSteps.cons (VStep.mk Grw.trans rfl rfl fun t V hout hE hdep K hK => ?_) ?_
            · skip
              have t10 : t[10]? = some _ := hout 10 (by kernel_rfl)
              clear hout hdep
              go_simp
              exact hK.out _ _ (Grw.refl _) rfl
            refine VSteps.cons (VStep.mk Grw.trans rfl rfl fun t V hout hE hdep K hK => ?_) ?_
            · skip
              have t0 : t[0]? = some _ := hout 0 (by kernel_rfl)
              clear hout hdep
              go_simp
              exact hK.out _ _ (Grw.refl _) rfl
            refine VSteps.cons (VStep.mk Grw.trans rfl rfl fun t V hout hE hdep K hK => ?_) ?_
            · skip
              have t33 := by_is (W := V) (hdep 1 33 (by kernel_rfl))
              clear hout hdep
              go_simp
              exact hK.out _ _ (Grw.refl _) rfl
            refine VSteps.cons (VStep.mk Grw.trans rfl rfl fun t V hout hE hdep K hK => ?_) ?_
            · skip
              have t32 := by_is (W := V) (hdep 0 32 (by kernel_rfl))
              have t34 := by_is (W := V) (hdep 2 34 (by kernel_rfl))
              clear hout hdep
              go_simp
              exact hK.out _ _ (Grw.refl _) rfl
            refine VSteps.cons (VStep.mk Grw.trans rfl rfl fun t V hout hE hdep K hK => ?_) ?_
            · skip
              have t35 := by_is (W := V) (hdep 3 35 (by kernel_rfl))
              clear hout hdep
              go_simp
              exact hK.out _ _ (Grw.refl _) rfl
            refine VSteps.cons (VStep.mkN Grw.refl (dg := 36) rfl rfl (by kernel_rfl) (fun _ _ h => h) (fun _ => rfl)) ?_
            refine VSteps.cons (VStep.mkN Grw.refl (dg := 36) rfl rfl (by kernel_rfl) (fun _ _ h => h) (fun _ => rfl)) ?_
            refine VSteps.cons (VStep.mkN Grw.refl (dg := 36) rfl rfl (by kernel_rfl) (fun _ _ h => h) (fun _ => rfl)) ?_
            refine VSteps.cons (VStep.mkN Grw.refl (dg := 36) rfl rfl (by kernel_rfl) (fun _ _ h => h) (fun _ => rfl)) ?_
            refine VSteps.cons (VStep.mkN Grw.refl (dg := 36) rfl rfl (by kernel_rfl) (fun _ _ h => h) (fun _ => rfl)) ?_
            refine VSteps.cons (VStep.mkN Grw.refl (dg := 36) rfl rfl (by kernel_rfl) (fun _ _ h => h) (fun _ => rfl)) ?_
            refine VSteps.cons (VStep.mkN Grw.refl (dg := 36) rfl rfl (by kernel_rfl) (fun _ _ h => h) (fun _ => rfl)) ?_
            refine VSteps.cons (VStep.mk Grw.trans rfl rfl fun t V hout hE hdep K hK => ?_) ?_
            · skip
              have t36 := by_is (W := V) (hdep 4 36 (by kernel_rfl))
              have t43 := by_is (W := V) (hdep 11 43 (by kernel_rfl))
              clear hout hdep
              go_simp
              exact hK.out _ _ (Grw.refl _) rfl
            exact VSteps.nil (by decide)
          · intro f W hE hF
            have f32 : f 32 = _ := hF 0 32 (by kernel_rfl)
            have f33 : f 33 = _ := hF 1 33 (by kernel_rfl)
            have f34 : f 34 = _ := hF 2 34 (by kernel_rfl)
            have f35 : f 35 = _ := hF 3 35 (by kernel_rfl)
            have f36 : f 36 = _ := hF 4 36 (by kernel_rfl)
            have f37 : f 37 = _ := hF 5 37 (by kernel_rfl)
            have f38 : f 38 = _ := hF 6 38 (by kernel_rfl)
            have f39 : f 39 = _ := hF 7 39 (by kernel_rfl)
            have f40 : f 40 = _ := hF 8 40 (by kernel_rfl)
            have f41 : f 41 = _ := hF 9 41 (by kernel_rfl)
            have f42 : f 42 = _ := hF 10 42 (by kernel_rfl)
            have f43 : f 43 = _ := hF 11 43 (by kernel_rfl)
            have f44 : f 44 = _ := hF 12 44 (by kernel_rfl)
            simp only [setAllV, List.map_cons, List.map_nil, List.set_cons_succ, List.set_cons_zero, f32, f33, f34, f35, f36, f37, f38, f39, f40, f41, f42, f43, f44]
            clear hF f32 f33 f34 f35 f36 f37 f38 f39 f40 f41 f42 f43 f44
            have HB4 := Lib.hid hE
            have hs4 := hE.size
            have VB4 := Lib.hid (VB.out.keep hE)
            obtain ⟨k0, k1, k2, kl⟩ := VB4.out.cells
            change _ = some (Value.slice none 0 0) at k2
            have kf : W.frozen? ⟨w.heap.size, 2, none⟩ = false := frozen_block VB4.out.box
            have HSR := Lib.hid (srch_of (ok := false) HOK.out H3.out H4.out hk HLO.out (fun h => by omega) (by simp))
            have HB9 : Hid (Below w.heap.size w W) := Lib.hid (HBW3.out.trans (hE.mono (by omega)))
            clear hE
            generalize hBd : W0.heap.size = B at *
            have hg9 : W.grownBy ((W.setCell ⟨w.heap.size, 2, none⟩ (.slice (some ⟨W.heap.size, 0, none⟩) 1 1)).alloc (.cells #[.int .i64 sl] 3)) (some w.heap.size) := grown_trans (grown_setCell' _ _ _) grown_new
            have HOW9 := Lib.hid (setN_old (HOW.out.below HB4.out) hg9 (by omega) (by omega))
            have HQ9 : Hid (((W.setCell ⟨w.heap.size, 2, none⟩ (.slice (some ⟨W.heap.size, 0, none⟩) 1 1)).alloc (.cells #[.int .i64 sl] 3)).heap[W.heap.size]? = _) := Lib.hid (heap_alloc_at _ _ _ (by simp [World.setCell]))
            have HX9 : Hid (((W.setCell ⟨w.heap.size, 2, none⟩ (.slice (some ⟨W.heap.size, 0, none⟩) 1 1)).alloc (.cells #[.int .i64 sl] 3)).heap[w.heap.size]? = some (.cells #[.int .i64 fr, .int .i64 tq, .slice (some ⟨W.heap.size, 0, none⟩) 1 1] 77 (0, 0))) := Lib.hid (alloc_block (setCell_block VB4.out.box _))
            have HS9 : Hid (((W.setCell ⟨w.heap.size, 2, none⟩ (.slice (some ⟨W.heap.size, 0, none⟩) 1 1)).alloc (.cells #[.int .i64 sl] 3)).heap.size = W.heap.size + 1) := Lib.hid (by simp [World.setCell])
            have HB9' : Hid (Below w.heap.size w ((W.setCell ⟨w.heap.size, 2, none⟩ (.slice (some ⟨W.heap.size, 0, none⟩) 1 1)).alloc (.cells #[.int .i64 sl] 3))) := Lib.hid (HB9.out.grown hg9 (by omega) (fun q e => by injection e; omega))
            clear hg9
            go_wp2_with (at_builtin; go_loud (refine wpList_append_rd (setN B) setS rfl _ _ rfl (W.heap.size + 1) (.slice none 0 0) [] rfl (Own.nil _ _ _ _) _ (ys.drop xs.length) rfl (rd_none (List.drop_eq_nil_of_le (by omega)) (by unfold maxLen; omega)) one_setN (by simp; omega) (by unfold maxLen; simp; omega) (by simp [World.setCell]) (fun _ _ _ hg h => setN_none hg h) ?_; intro v10 w10 ho10 hg10 hb10 hn10))
            all_goals
              have HO10 := Lib.hid ho10
              have hbw10 := grow_none hg10
              have hs10 := hbw10.size
              rw [HS9.out] at hs10
              have HOW10 := Lib.hid (HOW9.out.below hbw10)
              have hdummy : True := trivial
              have hq10 := below_block hbw10 (block_lt HQ9.out) HQ9.out
              have hx10 := below_block hbw10 (block_lt HX9.out) HX9.out
              have HB10 := Lib.hid (HB9'.out.trans (hbw10.mono (by rw [HS9.out]; omega)))
              have z0 : w10.cell? ⟨w.heap.size, 0, none⟩ = some (.int .i64 fr) := by rw [cell_block hx10]; rfl
              have z1 : w10.cell? ⟨w.heap.size, 1, none⟩ = some (.int .i64 tq) := by rw [cell_block hx10]; rfl
              have z2 : w10.cell? ⟨w.heap.size, 2, none⟩ = some (.slice (some ⟨W.heap.size, 0, none⟩) 1 1) := by rw [cell_block hx10]; rfl
              have HQ10 := Lib.hid hq10
              have hytl : (ys.take xs.length).length = xs.length := by rw [List.length_take]; omega
              have hydl : (ys.drop xs.length).length ≤ 99999 := by rw [List.length_drop]; omega
              have hlit : ∀ o, Own i64E ((w10.alloc o).drew) B 3 (.slice (some ⟨W.heap.size, 0, none⟩) 1 1) [sl] := fun o => own_lit (by omega) (alloc_block HQ10.out) rfl rfl (by unfold maxLen; omega)
              have HLIT := Lib.hid hlit
              obtain ⟨a10, l10, c10, rfl⟩ := own_sl ho10
              clear ho10 hg10 hb10 hn10 hbw10 hq10 hx10 hlit
              go_region_law (first
                | (refine step_append_lit (setN B) setS rfl _ _ rfl B _ (ys.take xs.length) rfl (((show Own (setN B) w10 B 77 (.slice none 0 0) (ys.take xs.length) from by rw [hnil, List.take_nil]; exact Own.nil _ _ _ _).alloc _).below (Below.refl _ _).drew) ((⟨fr, tq, [sl]⟩ : St), some W.heap.size) _ _ rfl (heap_alloc_new _ _) ⟨_, rfl, HLIT.out _, rfl⟩ (by simp [Value.oneCell']) (by omega) (by unfold maxLen; omega) (by simp; omega) (fun _ _ _ hg h => setN_kept (((show Own (setN B) w10 B 77 (.slice none 0 0) (ys.take xs.length) from by rw [hnil, List.take_nil]; exact Own.nil _ _ _ _).alloc _).below (Below.refl _ _).drew) hg h) ?_; intro v11 w11 ho11 hg11 hb11)
                | (refine step_wp rfl (wp_append_rd (setN B) setS _ _ rfl B _ (ys.take xs.length ++ [((⟨fr, tq, [sl]⟩ : St), some W.heap.size)]) rfl ho11 _ (ys.drop xs.length) rfl (rd_empty HO10.out.rd (List.drop_eq_nil_of_le (by omega))) one_setN (by simp; omega) (by unfold maxLen; simp; omega) (by have := hb11.size; simp at this; omega) (fun _ _ _ hg h => setN_kept ho11 hg h) ?_); intro v12 w12 ho12 hg12 hb12 hn12))
              all_goals
                have HRD := Lib.hid (own_setF (C := C) ho12 (by omega))
                have HRO := Lib.hid (fun q hq => Nat.le_trans (show C ≤ B by omega) (ho12.lt q hq).1)
                have hbf := ((HB10.out.alloc (by omega) (.cells #[.int .i64 fr, .int .i64 tq, .slice (some ⟨W.heap.size, 0, none⟩) 1 1] 77)).drew.trans (hb11.mono (by omega))).trans (hb12.mono (by omega))
                have HBF := Lib.hid hbf
                obtain ⟨a12, l12, c12, rfl⟩ := own_sl ho12
                clear ho12 hg12 hb12 hn12 ho11 hg11 hb11 hbf
                go_wp2
                all_goals go_ret
                all_goals exact ⟨⟨_, xs.length, false, rfl, HSR.out, by rw [← put_new (o := some W.heap.size) HYS.out hk]; exact HRD.out, HRO.out⟩, HBF.out⟩
        · rw [hyl] at hown
          have HOW := Lib.hid hown
          have hcp := (own_cap hown).1
          have hkc1 : (xs.length : Int) ≤ (cp : Int) := by omega
          have hkc2 : xs.length ≤ cp := by omega
          obtain ⟨cur, hgrow, hgB, hgl⟩ := own_row hown
          clear hgrow hown
          by_cases hnc : cp = xs.length
          · subst hnc
            go_upto_region 6 with (fail)
            apply wp_region_vals (by kernel_rfl) Grw (Grw.drew _) [32, 33, 34, 35, 36, 37, 38, 39, 40, 41, 42, 43, 44] [Is _, Is _, Is _, Is (.bool false), Is _, Is _, Is _, Is _, Is _, Is _, Is _, Is _, Is _] (stb_cons (Stb.is) (stb_cons (Stb.is) (stb_cons (Stb.is) (stb_cons (Stb.is) (stb_cons (Stb.is) (stb_cons (Stb.is) (stb_cons (Stb.is) (stb_cons (Stb.is) (stb_cons (Stb.is) (stb_cons (Stb.is) (stb_cons (Stb.is) (stb_cons (Stb.is) (stb_cons (Stb.is) stb_nil))))))))))))) (by kernel_rfl) (by kernel_rfl) (by kernel_rfl)
            · refine VSteps.cons (VStep.mk Grw.trans rfl rfl fun t V hout hE hdep K hK => ?_) ?_
              · skip
                have t10 : t[10]? = some _ := hout 10 (by kernel_rfl)
                clear hout hdep
                go_simp
                exact hK.out _ _ (Grw.refl _) rfl
              refine VSteps.cons (VStep.mk Grw.trans rfl rfl fun t V hout hE hdep K hK => ?_) ?_
              · skip
                have t0 : t[0]? = some _ := hout 0 (by kernel_rfl)
                clear hout hdep
                go_simp
                exact hK.out _ _ (Grw.refl _) rfl
              refine VSteps.cons (VStep.mk Grw.trans rfl rfl fun t V hout hE hdep K hK => ?_) ?_
              · skip
                have t33 := by_is (W := V) (hdep 1 33 (by kernel_rfl))
                clear hout hdep
                go_simp
                exact hK.out _ _ (Grw.refl _) rfl
              refine VSteps.cons (VStep.mk Grw.trans rfl rfl fun t V hout hE hdep K hK => ?_) ?_
              · skip
                have t32 := by_is (W := V) (hdep 0 32 (by kernel_rfl))
                have t34 := by_is (W := V) (hdep 2 34 (by kernel_rfl))
                clear hout hdep
                go_simp
                exact hK.out _ _ (Grw.refl _) rfl
              refine VSteps.cons (VStep.mk Grw.trans rfl rfl fun t V hout hE hdep K hK => ?_) ?_
              · skip
                have t35 := by_is (W := V) (hdep 3 35 (by kernel_rfl))
                clear hout hdep
                go_simp
                exact hK.out _ _ (Grw.refl _) rfl
              refine VSteps.cons (VStep.mkN Grw.refl (dg := 36) rfl rfl (by kernel_rfl) (fun _ _ h => h) (fun _ => rfl)) ?_
              refine VSteps.cons (VStep.mkN Grw.refl (dg := 36) rfl rfl (by kernel_rfl) (fun _ _ h => h) (fun _ => rfl)) ?_
              refine VSteps.cons (VStep.mkN Grw.refl (dg := 36) rfl rfl (by kernel_rfl) (fun _ _ h => h) (fun _ => rfl)) ?_
              refine VSteps.cons (VStep.mkN Grw.refl (dg := 36) rfl rfl (by kernel_rfl) (fun _ _ h => h) (fun _ => rfl)) ?_
              refine VSteps.cons (VStep.mkN Grw.refl (dg := 36) rfl rfl (by kernel_rfl) (fun _ _ h => h) (fun _ => rfl)) ?_
              refine VSteps.cons (VStep.mkN Grw.refl (dg := 36) rfl rfl (by kernel_rfl) (fun _ _ h => h) (fun _ => rfl)) ?_
              refine VSteps.cons (VStep.mkN Grw.refl (dg := 36) rfl rfl (by kernel_rfl) (fun _ _ h => h) (fun _ => rfl)) ?_
              refine VSteps.cons (VStep.mk Grw.trans rfl rfl fun t V hout hE hdep K hK => ?_) ?_
              · skip
                have t36 := by_is (W := V) (hdep 4 36 (by kernel_rfl))
                have t43 := by_is (W := V) (hdep 11 43 (by kernel_rfl))
                clear hout hdep
                go_simp
                exact hK.out _ _ (Grw.refl _) rfl
              exact VSteps.nil (by decide)
            · intro f W hE hF
              have f32 : f 32 = _ := hF 0 32 (by kernel_rfl)
              have f33 : f 33 = _ := hF 1 33 (by kernel_rfl)
              have f34 : f 34 = _ := hF 2 34 (by kernel_rfl)
              have f35 : f 35 = _ := hF 3 35 (by kernel_rfl)
              have f36 : f 36 = _ := hF 4 36 (by kernel_rfl)
              have f37 : f 37 = _ := hF 5 37 (by kernel_rfl)
              have f38 : f 38 = _ := hF 6 38 (by kernel_rfl)
              have f39 : f 39 = _ := hF 7 39 (by kernel_rfl)
              have f40 : f 40 = _ := hF 8 40 (by kernel_rfl)
              have f41 : f 41 = _ := hF 9 41 (by kernel_rfl)
              have f42 : f 42 = _ := hF 10 42 (by kernel_rfl)
              have f43 : f 43 = _ := hF 11 43 (by kernel_rfl)
              have f44 : f 44 = _ := hF 12 44 (by kernel_rfl)
              simp only [setAllV, List.map_cons, List.map_nil, List.set_cons_succ, List.set_cons_zero, f32, f33, f34, f35, f36, f37, f38, f39, f40, f41, f42, f43, f44]
              clear hF f32 f33 f34 f35 f36 f37 f38 f39 f40 f41 f42 f43 f44
              have HB4 := Lib.hid hE
              have hs4 := hE.size
              have VB4 := Lib.hid (VB.out.keep hE)
              obtain ⟨k0, k1, k2, kl⟩ := VB4.out.cells
              change _ = some (Value.slice none 0 0) at k2
              have kf : W.frozen? ⟨w.heap.size, 2, none⟩ = false := frozen_block VB4.out.box
              have HSR := Lib.hid (srch_of (ok := false) HOK.out H3.out H4.out hk HLO.out (fun h => by omega) (by simp))
              have HB9 : Hid (Below w.heap.size w W) := Lib.hid (HBW3.out.trans (hE.mono (by omega)))
              clear hE
              generalize hBd : W0.heap.size = B at *
              have hg9 : W.grownBy ((W.setCell ⟨w.heap.size, 2, none⟩ (.slice (some ⟨W.heap.size, 0, none⟩) 1 1)).alloc (.cells #[.int .i64 sl] 3)) (some w.heap.size) := grown_trans (grown_setCell' _ _ _) grown_new
              have HOW9 := Lib.hid (setN_old (HOW.out.below HB4.out) hg9 (by omega) (by omega))
              have HQ9 : Hid (((W.setCell ⟨w.heap.size, 2, none⟩ (.slice (some ⟨W.heap.size, 0, none⟩) 1 1)).alloc (.cells #[.int .i64 sl] 3)).heap[W.heap.size]? = _) := Lib.hid (heap_alloc_at _ _ _ (by simp [World.setCell]))
              have HX9 : Hid (((W.setCell ⟨w.heap.size, 2, none⟩ (.slice (some ⟨W.heap.size, 0, none⟩) 1 1)).alloc (.cells #[.int .i64 sl] 3)).heap[w.heap.size]? = some (.cells #[.int .i64 fr, .int .i64 tq, .slice (some ⟨W.heap.size, 0, none⟩) 1 1] 77 (0, 0))) := Lib.hid (alloc_block (setCell_block VB4.out.box _))
              have HS9 : Hid (((W.setCell ⟨w.heap.size, 2, none⟩ (.slice (some ⟨W.heap.size, 0, none⟩) 1 1)).alloc (.cells #[.int .i64 sl] 3)).heap.size = W.heap.size + 1) := Lib.hid (by simp [World.setCell])
              have HB9' : Hid (Below w.heap.size w ((W.setCell ⟨w.heap.size, 2, none⟩ (.slice (some ⟨W.heap.size, 0, none⟩) 1 1)).alloc (.cells #[.int .i64 sl] 3))) := Lib.hid (HB9.out.grown hg9 (by omega) (fun q e => by injection e; omega))
              clear hg9
              go_wp2_with (at_builtin; go_loud (refine wpList_append_rd (setN B) setS rfl _ _ rfl (W.heap.size + 1) (.slice none 0 0) [] rfl (Own.nil _ _ _ _) _ (ys.drop xs.length) rfl (rd_none (List.drop_eq_nil_of_le (by omega)) (by have := (own_cap HOW9.out).2.2; unfold maxLen at this ⊢; omega)) one_setN (by simp; omega) (by unfold maxLen; simp; omega) (by simp [World.setCell]) (fun _ _ _ hg h => setN_none hg h) ?_; intro v10 w10 ho10 hg10 hb10 hn10))
              all_goals
                have HO10 := Lib.hid ho10
                have hbw10 := grow_none hg10
                have hs10 := hbw10.size
                rw [HS9.out] at hs10
                have HOW10 := Lib.hid (HOW9.out.below hbw10)
                obtain ⟨cur10, hgr10, hgB10, hgl10⟩ := own_row HOW10.out
                have hq10 := below_block hbw10 (block_lt HQ9.out) HQ9.out
                have hx10 := below_block hbw10 (block_lt HX9.out) HX9.out
                have HB10 := Lib.hid (HB9'.out.trans (hbw10.mono (by rw [HS9.out]; omega)))
                have z0 : w10.cell? ⟨w.heap.size, 0, none⟩ = some (.int .i64 fr) := by rw [cell_block hx10]; rfl
                have z1 : w10.cell? ⟨w.heap.size, 1, none⟩ = some (.int .i64 tq) := by rw [cell_block hx10]; rfl
                have z2 : w10.cell? ⟨w.heap.size, 2, none⟩ = some (.slice (some ⟨W.heap.size, 0, none⟩) 1 1) := by rw [cell_block hx10]; rfl
                have HQ10 := Lib.hid hq10
                have hytl : (ys.take xs.length).length = xs.length := by rw [List.length_take]; omega
                have hydl : (ys.drop xs.length).length ≤ 99999 := by rw [List.length_drop]; omega
                have hlit : ∀ o, Own i64E ((w10.alloc o).drew) B 3 (.slice (some ⟨W.heap.size, 0, none⟩) 1 1) [sl] := fun o => own_lit (by omega) (alloc_block HQ10.out) rfl rfl (by unfold maxLen; omega)
                have HLIT := Lib.hid hlit
                obtain ⟨a10, l10, c10, rfl⟩ := own_sl ho10
                clear ho10 hg10 hb10 hn10 hbw10 hq10 hx10 hlit
                go_region_law (first
                  | (refine step_append_lit (setN B) setS rfl _ _ rfl B _ (ys.take xs.length) rfl (((HOW10.out.take (show xs.length ≤ ys.length by omega)).alloc _).below (Below.refl _ _).drew) ((⟨fr, tq, [sl]⟩ : St), some W.heap.size) _ _ rfl (heap_alloc_new _ _) ⟨_, rfl, HLIT.out _, rfl⟩ (by simp [Value.oneCell']) (by omega) (by unfold maxLen; omega) (by simp; omega) (fun _ _ _ hg h => setN_kept (((HOW10.out.take (show xs.length ≤ ys.length by omega)).alloc _).below (Below.refl _ _).drew) hg h) ?_; intro v11 w11 ho11 hg11 hb11)
                  | (refine step_wp rfl (wp_append_rd (setN B) setS _ _ rfl B _ (ys.take xs.length ++ [((⟨fr, tq, [sl]⟩ : St), some W.heap.size)]) rfl ho11 _ (ys.drop xs.length) rfl (rd_empty HO10.out.rd (List.drop_eq_nil_of_le (by omega))) one_setN (by simp; omega) (by unfold maxLen; simp; omega) (by have := hb11.size; simp at this; omega) (fun _ _ _ hg h => setN_kept ho11 hg h) ?_); intro v12 w12 ho12 hg12 hb12 hn12))
                all_goals
                  have HRD := Lib.hid (own_setF (C := C) ho12 (by omega))
                  have HRO := Lib.hid (fun q hq => Nat.le_trans (show C ≤ B by omega) (ho12.lt q hq).1)
                  have hbf := ((HB10.out.alloc (by omega) (.cells #[.int .i64 fr, .int .i64 tq, .slice (some ⟨W.heap.size, 0, none⟩) 1 1] 77)).drew.trans (hb11.mono (by omega))).trans (hb12.mono (by omega))
                  have HBF := Lib.hid hbf
                  obtain ⟨a12, l12, c12, rfl⟩ := own_sl ho12
                  clear ho12 hg12 hb12 hn12 ho11 hg11 hb11 hbf
                  go_wp2
                  all_goals go_ret
                  all_goals exact ⟨⟨_, xs.length, false, rfl, HSR.out, by rw [← put_new (o := some W.heap.size) HYS.out hk]; exact HRD.out, HRO.out⟩, HBF.out⟩
          · go_upto_region 6 with (fail)
            apply wp_region_vals (by kernel_rfl) Grw (Grw.drew _) [32, 33, 34, 35, 36, 37, 38, 39, 40, 41, 42, 43, 44] [Is _, Is _, Is _, Is (.bool false), Is _, Is _, Is _, Is _, Is _, Is _, Is _, Is _, Is _] (stb_cons (Stb.is) (stb_cons (Stb.is) (stb_cons (Stb.is) (stb_cons (Stb.is) (stb_cons (Stb.is) (stb_cons (Stb.is) (stb_cons (Stb.is) (stb_cons (Stb.is) (stb_cons (Stb.is) (stb_cons (Stb.is) (stb_cons (Stb.is) (stb_cons (Stb.is) (stb_cons (Stb.is) stb_nil))))))))))))) (by kernel_rfl) (by kernel_rfl) (by kernel_rfl)
            · refine VSteps.cons (VStep.mk Grw.trans rfl rfl fun t V hout hE hdep K hK => ?_) ?_
              · skip
                have t10 : t[10]? = some _ := hout 10 (by kernel_rfl)
                clear hout hdep
                go_simp
                exact hK.out _ _ (Grw.refl _) rfl
              refine VSteps.cons (VStep.mk Grw.trans rfl rfl fun t V hout hE hdep K hK => ?_) ?_
              · skip
                have t0 : t[0]? = some _ := hout 0 (by kernel_rfl)
                clear hout hdep
                go_simp
                exact hK.out _ _ (Grw.refl _) rfl
              refine VSteps.cons (VStep.mk Grw.trans rfl rfl fun t V hout hE hdep K hK => ?_) ?_
              · skip
                have t33 := by_is (W := V) (hdep 1 33 (by kernel_rfl))
                clear hout hdep
                go_simp
                exact hK.out _ _ (Grw.refl _) rfl
              refine VSteps.cons (VStep.mk Grw.trans rfl rfl fun t V hout hE hdep K hK => ?_) ?_
              · skip
                have t32 := by_is (W := V) (hdep 0 32 (by kernel_rfl))
                have t34 := by_is (W := V) (hdep 2 34 (by kernel_rfl))
                clear hout hdep
                go_simp
                exact hK.out _ _ (Grw.refl _) rfl
              refine VSteps.cons (VStep.mk Grw.trans rfl rfl fun t V hout hE hdep K hK => ?_) ?_
              · skip
                have t35 := by_is (W := V) (hdep 3 35 (by kernel_rfl))
                clear hout hdep
                go_simp
                exact hK.out _ _ (Grw.refl _) rfl
              refine VSteps.cons (VStep.mkN Grw.refl (dg := 36) rfl rfl (by kernel_rfl) (fun _ _ h => h) (fun _ => rfl)) ?_
              refine VSteps.cons (VStep.mkN Grw.refl (dg := 36) rfl rfl (by kernel_rfl) (fun _ _ h => h) (fun _ => rfl)) ?_
              refine VSteps.cons (VStep.mkN Grw.refl (dg := 36) rfl rfl (by kernel_rfl) (fun _ _ h => h) (fun _ => rfl)) ?_
              refine VSteps.cons (VStep.mkN Grw.refl (dg := 36) rfl rfl (by kernel_rfl) (fun _ _ h => h) (fun _ => rfl)) ?_
              refine VSteps.cons (VStep.mkN Grw.refl (dg := 36) rfl rfl (by kernel_rfl) (fun _ _ h => h) (fun _ => rfl)) ?_
              refine VSteps.cons (VStep.mkN Grw.refl (dg := 36) rfl rfl (by kernel_rfl) (fun _ _ h => h) (fun _ => rfl)) ?_
              refine VSteps.cons (VStep.mkN Grw.refl (dg := 36) rfl rfl (by kernel_rfl) (fun _ _ h => h) (fun _ => rfl)) ?_
              refine VSteps.cons (VStep.mk Grw.trans rfl rfl fun t V hout hE hdep K hK => ?_) ?_
              · skip
                have t36 := by_is (W := V) (hdep 4 36 (by kernel_rfl))
                have t43 := by_is (W := V) (hdep 11 43 (by kernel_rfl))
                clear hout hdep
                go_simp
                exact hK.out _ _ (Grw.refl _) rfl
              exact VSteps.nil (by decide)
            · intro f W hE hF
              have f32 : f 32 = _ := hF 0 32 (by kernel_rfl)
              have f33 : f 33 = _ := hF 1 33 (by kernel_rfl)
              have f34 : f 34 = _ := hF 2 34 (by kernel_rfl)
              have f35 : f 35 = _ := hF 3 35 (by kernel_rfl)
              have f36 : f 36 = _ := hF 4 36 (by kernel_rfl)
              have f37 : f 37 = _ := hF 5 37 (by kernel_rfl)
              have f38 : f 38 = _ := hF 6 38 (by kernel_rfl)
              have f39 : f 39 = _ := hF 7 39 (by kernel_rfl)
              have f40 : f 40 = _ := hF 8 40 (by kernel_rfl)
              have f41 : f 41 = _ := hF 9 41 (by kernel_rfl)
              have f42 : f 42 = _ := hF 10 42 (by kernel_rfl)
              have f43 : f 43 = _ := hF 11 43 (by kernel_rfl)
              have f44 : f 44 = _ := hF 12 44 (by kernel_rfl)
              simp only [setAllV, List.map_cons, List.map_nil, List.set_cons_succ, List.set_cons_zero, f32, f33, f34, f35, f36, f37, f38, f39, f40, f41, f42, f43, f44]
              clear hF f32 f33 f34 f35 f36 f37 f38 f39 f40 f41 f42 f43 f44
              have HB4 := Lib.hid hE
              have hs4 := hE.size
              have VB4 := Lib.hid (VB.out.keep hE)
              obtain ⟨k0, k1, k2, kl⟩ := VB4.out.cells
              change _ = some (Value.slice none 0 0) at k2
              have kf : W.frozen? ⟨w.heap.size, 2, none⟩ = false := frozen_block VB4.out.box
              have HSR := Lib.hid (srch_of (ok := false) HOK.out H3.out H4.out hk HLO.out (fun h => by omega) (by simp))
              have HB9 : Hid (Below w.heap.size w W) := Lib.hid (HBW3.out.trans (hE.mono (by omega)))
              clear hE
              generalize hBd : W0.heap.size = B at *
              have hg9 : W.grownBy ((W.setCell ⟨w.heap.size, 2, none⟩ (.slice (some ⟨W.heap.size, 0, none⟩) 1 1)).alloc (.cells #[.int .i64 sl] 3)) (some w.heap.size) := grown_trans (grown_setCell' _ _ _) grown_new
              have HOW9 := Lib.hid (setN_old (HOW.out.below HB4.out) hg9 (by omega) (by omega))
              have HQ9 : Hid (((W.setCell ⟨w.heap.size, 2, none⟩ (.slice (some ⟨W.heap.size, 0, none⟩) 1 1)).alloc (.cells #[.int .i64 sl] 3)).heap[W.heap.size]? = _) := Lib.hid (heap_alloc_at _ _ _ (by simp [World.setCell]))
              have HX9 : Hid (((W.setCell ⟨w.heap.size, 2, none⟩ (.slice (some ⟨W.heap.size, 0, none⟩) 1 1)).alloc (.cells #[.int .i64 sl] 3)).heap[w.heap.size]? = some (.cells #[.int .i64 fr, .int .i64 tq, .slice (some ⟨W.heap.size, 0, none⟩) 1 1] 77 (0, 0))) := Lib.hid (alloc_block (setCell_block VB4.out.box _))
              have HS9 : Hid (((W.setCell ⟨w.heap.size, 2, none⟩ (.slice (some ⟨W.heap.size, 0, none⟩) 1 1)).alloc (.cells #[.int .i64 sl] 3)).heap.size = W.heap.size + 1) := Lib.hid (by simp [World.setCell])
              have HB9' : Hid (Below w.heap.size w ((W.setCell ⟨w.heap.size, 2, none⟩ (.slice (some ⟨W.heap.size, 0, none⟩) 1 1)).alloc (.cells #[.int .i64 sl] 3))) := Lib.hid (HB9.out.grown hg9 (by omega) (fun q e => by injection e; omega))
              clear hg9
              go_wp2_with (at_builtin; go_loud (refine wpList_append_rd (setN B) setS rfl _ _ rfl (W.heap.size + 1) (.slice none 0 0) [] rfl (Own.nil _ _ _ _) _ (ys.drop xs.length) rfl (rd_none (List.drop_eq_nil_of_le (by omega)) (by have := (own_cap HOW9.out).2.2; unfold maxLen at this ⊢; omega)) one_setN (by simp; omega) (by unfold maxLen; simp; omega) (by simp [World.setCell]) (fun _ _ _ hg h => setN_none hg h) ?_; intro v10 w10 ho10 hg10 hb10 hn10))
              all_goals
                have HO10 := Lib.hid ho10
                have hbw10 := grow_none hg10
                have hs10 := hbw10.size
                rw [HS9.out] at hs10
                have HOW10 := Lib.hid (HOW9.out.below hbw10)
                obtain ⟨cur10, hgr10, hgB10, hgl10⟩ := own_row HOW10.out
                have hq10 := below_block hbw10 (block_lt HQ9.out) HQ9.out
                have hx10 := below_block hbw10 (block_lt HX9.out) HX9.out
                have HB10 := Lib.hid (HB9'.out.trans (hbw10.mono (by rw [HS9.out]; omega)))
                have z0 : w10.cell? ⟨w.heap.size, 0, none⟩ = some (.int .i64 fr) := by rw [cell_block hx10]; rfl
                have z1 : w10.cell? ⟨w.heap.size, 1, none⟩ = some (.int .i64 tq) := by rw [cell_block hx10]; rfl
                have z2 : w10.cell? ⟨w.heap.size, 2, none⟩ = some (.slice (some ⟨W.heap.size, 0, none⟩) 1 1) := by rw [cell_block hx10]; rfl
                have HQ10 := Lib.hid hq10
                have hytl : (ys.take xs.length).length = xs.length := by rw [List.length_take]; omega
                have hydl : (ys.drop xs.length).length ≤ 99999 := by rw [List.length_drop]; omega
                have hlit : ∀ o, Own i64E ((w10.alloc o).drew) B 3 (.slice (some ⟨W.heap.size, 0, none⟩) 1 1) [sl] := fun o => own_lit (by omega) (alloc_block HQ10.out) rfl rfl (by unfold maxLen; omega)
                have HLIT := Lib.hid hlit
                obtain ⟨a10, l10, c10, rfl⟩ := own_sl ho10
                clear ho10 hg10 hb10 hn10 hbw10 hq10 hx10 hlit
                go_region_law (first
                  | (refine step_append_lit (setN B) setS rfl _ _ rfl B _ (ys.take xs.length) rfl (((HOW10.out.take (show xs.length ≤ ys.length by omega)).alloc _).below (Below.refl _ _).drew) ((⟨fr, tq, [sl]⟩ : St), some W.heap.size) _ _ rfl (heap_alloc_new _ _) ⟨_, rfl, HLIT.out _, rfl⟩ (by simp [Value.oneCell']) (by omega) (by unfold maxLen; omega) (by simp; omega) (fun _ _ _ hg h => setN_kept (((HOW10.out.take (show xs.length ≤ ys.length by omega)).alloc _).below (Below.refl _ _).drew) hg h) ?_; intro v11 w11 ho11 hg11 hb11)
                  | (refine step_wp rfl (wp_append_rd (setN B) setS _ _ rfl B _ (ys.take xs.length ++ [((⟨fr, tq, [sl]⟩ : St), some W.heap.size)]) rfl ho11 _ (ys.drop xs.length) rfl (rd_empty HO10.out.rd (List.drop_eq_nil_of_le (by omega))) one_setN (by simp; omega) (by unfold maxLen; simp; omega) (by have := hb11.size; simp at this; omega) (fun _ _ _ hg h => setN_kept ho11 hg h) ?_); intro v12 w12 ho12 hg12 hb12 hn12))
                all_goals
                  have HRD := Lib.hid (own_setF (C := C) ho12 (by omega))
                  have HRO := Lib.hid (fun q hq => Nat.le_trans (show C ≤ B by omega) (ho12.lt q hq).1)
                  have hbf := ((HB10.out.alloc (by omega) (.cells #[.int .i64 fr, .int .i64 tq, .slice (some ⟨W.heap.size, 0, none⟩) 1 1] 77)).drew.trans (hb11.mono (by omega))).trans (hb12.mono (by omega))
                  have HBF := Lib.hid hbf
                  obtain ⟨a12, l12, c12, rfl⟩ := own_sl ho12
                  clear ho12 hg12 hb12 hn12 ho11 hg11 hb11 hbf
                  go_wp2
                  all_goals go_ret
                  all_goals exact ⟨⟨_, xs.length, false, rfl, HSR.out, by rw [← put_new (o := some W.heap.size) HYS.out hk]; exact HRD.out, HRO.out⟩, HBF.out⟩
end Go.Proofs.Ytchdmemgkegefaa
