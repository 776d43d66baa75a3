/- Parts of the proof: S5, S6, S7, S8, S9, SA, K2, SB, SC, SD, SE, SF, SG, SH, OD, OpD, LM. No condition. -/
import Derived.Test.YtbidedbpmhcoaaaMM4
import Derived.ChangeSlices
import Derived.Deep.Slices
import Derived.Below
import Derived.Test.YtbidedbpmhcoaaaRows
import Derived.Test.YtbidedbpmhcoaaaChecked
import Derived.KernelRfl
/- Addresses in an increment: the words of a list of frames. No program. -/
namespace Go.Proofs.Ytbidedbpmhcoaaa
open Go.RowKit
set_option linter.unusedVariables false
set_option linter.unusedSimpArgs false

/-- the address of a word of a list of frames -/
def adr (z : Nat) (fr : List Nat) (p : Nat) : Nat := (fr[p / z]?).getD 0 * z + p % z
theorem Chn.drop {fs : List Fe} : ∀ (n : Nat) {l : List Nat}, Chn fs l → Chn fs (l.drop n)
  | 0, _, h => h
  | n + 1, [], h => trivial
  | n + 1, f :: l, h => h.2.2.drop n
/-- frames that all have an owner -/
def Own (fs : List Fe) (fr : List Nat) : Prop := ∀ k ∈ fr, ∀ h : k < fs.length, ¬ fs[k].ow = -1
theorem IncC.own {fs : List Fe} {i : Inc} {fr : List Nat} (h : IncC fs i fr) : Own fs fr := fun k hk hl e => by
  have := (h.ow k hl).2 hk
  have := h.sq.1
  omega
theorem adr_div {z : Nat} (hz : 0 < z) (fr : List Nat) (p : Nat) : adr z fr p / z = (fr[p / z]?).getD 0 ∧ adr z fr p % z = p % z := by
  unfold adr
  have := Nat.mod_lt p hz
  refine ⟨?_, ?_⟩
  · rw [Nat.add_comm, Nat.add_mul_div_right _ _ hz, Nat.div_eq_of_lt this, Nat.zero_add]
  · rw [Nat.add_comm, Nat.add_mul_mod_self_right, Nat.mod_eq_of_lt this]
theorem adr_lt {s : Sp} (hs : ShpS s) {fr : List Nat} (hl : ∀ k ∈ fr, k < s.fs.length) {p : Nat} (hp : p < fr.length * szS s) : adr (szS s) fr p < s.ws.length := by
  obtain ⟨g1, g2, g3, g4, g5⟩ := hs.z
  have h1 : p / szS s < fr.length := Nat.div_lt_of_lt_mul (by rw [Nat.mul_comm]; exact hp)
  have h2 := hl _ (List.getElem_mem h1)
  unfold adr
  rw [List.getElem?_eq_getElem h1, Option.getD_some, hs.wl]
  have h3 := Nat.mod_lt p (show 0 < szS s by omega)
  have h4 : (fr[p / szS s] + 1) * szS s ≤ s.fs.length * szS s := Nat.mul_le_mul_right _ h2
  rw [Nat.add_mul] at h4
  omega
theorem div_sub {z p k : Nat} (hz : 0 < z) : (p % z + k) / z + p / z = (p + k) / z ∧ (p % z + k) % z = (p + k) % z := by
  have h := Nat.div_add_mod p z
  have e : p + k = (p % z + k) + z * (p / z) := by omega
  refine ⟨?_, ?_⟩
  · rw [e, Nat.add_mul_div_left _ _ hz]
  · rw [e, Nat.add_mul_mod_self_left]
theorem go_adr {s : Sp} (hs : ShpS s) {fr : List Nat} (hc : Chn s.fs fr) (ho : Own s.fs fr) {p k : Nat} (hp : p < fr.length * szS s) :
    GoR s ((adr (szS s) fr p : Nat) : Int) (k : Int) = if p + k < fr.length * szS s then (((adr (szS s) fr (p + k) : Nat) : Int), (0 : Int)) else (0, 2) := by
  obtain ⟨g1, g2, g3, g4, g5⟩ := hs.z
  have hz : 0 < szS s := by omega
  have h1 : p / szS s < fr.length := Nat.div_lt_of_lt_mul (by rw [Nat.mul_comm]; exact hp)
  have hlt := adr_lt hs hc.lt hp
  obtain ⟨d1, d2⟩ := adr_div hz fr p
  rw [List.getElem?_eq_getElem h1, Option.getD_some] at d1
  have hf := hc.lt _ (List.getElem_mem h1)
  rw [GoR_in (by omega) (by omega) (by omega), ← Int.natCast_ediv, ← Int.natCast_emod, d1, d2, ownF_at hf, if_neg (ho _ (List.getElem_mem h1) hf)]
  obtain ⟨q1, q2⟩ := div_sub (p := p) (k := k) hz
  have hd : fr.drop (p / szS s) = fr[p / szS s] :: fr.drop (p / szS s + 1) := List.drop_eq_getElem_cons h1
  have hc2 := hc.drop (p / szS s)
  rw [hd] at hc2
  have hit := hc2.it ((p % szS s + k) / szS s)
  rw [← hd, List.getElem?_drop, Nat.add_comm (p / szS s), q1] at hit
  unfold adv
  rw [show ((p % szS s : Nat) : Int) + (k : Int) = ((p % szS s + k : Nat) : Int) by push_cast; rfl, ← Int.natCast_ediv, ← Int.natCast_emod, Int.toNat_natCast, hit, q2]
  by_cases hpk : p + k < fr.length * szS s
  · have h2 : (p + k) / szS s < fr.length := Nat.div_lt_of_lt_mul (by rw [Nat.mul_comm]; exact hpk)
    rw [if_pos hpk, List.getElem?_eq_getElem h2]
    dsimp only
    rw [if_pos (Int.natCast_nonneg _)]
    unfold adr
    rw [List.getElem?_eq_getElem h2, Option.getD_some]
    push_cast
    rfl
  · have h2 : fr.length ≤ (p + k) / szS s := by
      rw [Nat.le_div_iff_mul_le hz]
      omega
    rw [if_neg hpk, List.getElem?_eq_none h2]
    rfl
/-- addresses of different words differ -/
theorem adr_inj {z : Nat} (hz : 0 < z) {fr : List Nat} (hn : fr.Nodup) {p q : Nat} (hp : p < fr.length * z) (hq : q < fr.length * z) (e : adr z fr p = adr z fr q) : p = q := by
  have h1 : p / z < fr.length := Nat.div_lt_of_lt_mul (by rw [Nat.mul_comm]; exact hp)
  have h2 : q / z < fr.length := Nat.div_lt_of_lt_mul (by rw [Nat.mul_comm]; exact hq)
  obtain ⟨a1, a2⟩ := adr_div hz fr p
  obtain ⟨b1, b2⟩ := adr_div hz fr q
  rw [e] at a1 a2
  rw [List.getElem?_eq_getElem h1, Option.getD_some] at a1
  rw [List.getElem?_eq_getElem h2, Option.getD_some] at b1
  have h3 : fr[p / z] = fr[q / z] := by rw [← a1, ← b1]
  have h4 : p / z = q / z := by
    by_cases hne : p / z = q / z
    · exact hne
    · have hpw := List.pairwise_iff_getElem.1 hn
      rcases Nat.lt_or_gt_of_ne hne with h | h
      · exact absurd h3 (hpw _ _ h1 h2 h)
      · exact absurd h3.symm (hpw _ _ h2 h1 h)
  have e1 := Nat.div_add_mod p z
  have e2 := Nat.div_add_mod q z
  rw [h4] at e1
  omega
/-- addresses of increments that share no frame differ -/
theorem adr_ne {z : Nat} (hz : 0 < z) {fr fr' : List Nat} (hd : ∀ k ∈ fr, k ∉ fr') {p q : Nat} (hp : p < fr.length * z) (hq : q < fr'.length * z) : adr z fr p ≠ adr z fr' q := fun e => by
  have h1 : p / z < fr.length := Nat.div_lt_of_lt_mul (by rw [Nat.mul_comm]; exact hp)
  have h2 : q / z < fr'.length := Nat.div_lt_of_lt_mul (by rw [Nat.mul_comm]; exact hq)
  obtain ⟨a1, _⟩ := adr_div hz fr p
  obtain ⟨b1, _⟩ := adr_div hz fr' q
  rw [e] at a1
  rw [List.getElem?_eq_getElem h1, Option.getD_some] at a1
  rw [List.getElem?_eq_getElem h2, Option.getD_some] at b1
  have h3 : fr[p / z] = fr'[q / z] := by rw [← a1, ← b1]
  exact hd _ (List.getElem_mem h1) (h3 ▸ List.getElem_mem h2)
theorem adr_append {z : Nat} (hz : 0 < z) {fr l : List Nat} {p : Nat} (hp : p < fr.length * z) : adr z (fr ++ l) p = adr z fr p := by
  have h1 : p / z < fr.length := Nat.div_lt_of_lt_mul (by rw [Nat.mul_comm]; exact hp)
  unfold adr
  rw [List.getElem?_append_left h1]

theorem sub_len : ∀ (l l' : List Nat), l.Nodup → (∀ x ∈ l, x ∈ l') → l.length ≤ l'.length
  | [], _, _, _ => Nat.zero_le _
  | x :: l, l', hn, h => by
    have hx := h x (by simp)
    have hn2 := List.nodup_cons.1 hn
    have := sub_len l (l'.erase x) hn2.2 fun y hy => (List.mem_erase_of_ne (fun (e : y = x) => hn2.1 (by rw [← e]; exact hy))).2 (h y (List.mem_cons_of_mem _ hy))
    rw [List.length_erase_of_mem hx] at this
    have h1 : 0 < l'.length := List.length_pos_of_mem hx
    rw [List.length_cons]
    omega
/-- whether a frame has an owner -/
def isOw (fs : List Fe) (q : Int) (k : Nat) : Bool := match fs[k]? with | some f => decide (f.ow = q) | none => false
theorem isOw_at {fs : List Fe} {q : Int} {k : Nat} (h : k < fs.length) : isOw fs q k = decide (fs[k].ow = q) := by unfold isOw; rw [List.getElem?_eq_getElem h]
theorem cnO_filter (fs : List Fe) (q : Int) : ∀ k, k ≤ fs.length → cnO fs q k = ((List.range k).filter (isOw fs q)).length
  | 0, _ => rfl
  | k + 1, h => by
    have ih := cnO_filter fs q k (by omega)
    rw [List.range_succ, List.filter_append, List.length_append]
    by_cases ho : fs[k].ow = q
    · rw [cnO_t (by omega) ho, ih]
      have : isOw fs q k = true := by rw [isOw_at (by omega)]; exact decide_eq_true ho
      simp [this]
    · rw [cnO_f (by omega) ho, ih]
      have : isOw fs q k = false := by rw [isOw_at (by omega)]; exact decide_eq_false ho
      simp [this]
/-- an increment lies in a space -/
structure IncOk (s : Sp) (i : Inc) (fr : List Nat) : Prop extends IncC s.fs i fr where
  wd : 0 ≤ i.words ∧ i.words ≤ s.ws.length
  len : (fr.length : Int) = clN s i.words
theorem clN_nat {s : Sp} (hs : ShOk s.sh) {n : Nat} (hn : n ≤ 1099511627776) : clN s (n : Int) = ((n + szS s - 1) / szS s : Nat) := by
  obtain ⟨g1, g2, g3, g4, g5⟩ := sz_get hs
  unfold clN
  rw [if_neg (by omega)]
  push_cast [Int.natCast_sub (show 1 ≤ n + szS s by omega)]
  rfl
theorem nodup_len {n : Nat} {l : List Nat} (hn : l.Nodup) (h : ∀ x ∈ l, x < n) : l.length ≤ n := nodup_le n l hn h
theorem IncOk.fit {s : Sp} (hs : SpOk s) {i : Inc} {fr : List Nat} (h : IncOk s i fr) : FitP s i.seq i.belt i.first i.last i.words := by
  obtain ⟨g1, g2, g3, g4, g5⟩ := hs.shp.z
  have hw := hs.shp.small
  obtain ⟨n, hn⟩ : ∃ n : Nat, i.words = n := ⟨i.words.toNat, by have := h.wd.1; omega⟩
  have hl := h.len
  rw [hn, clN_nat hs.shp.sh (by have := h.wd.2; omega)] at hl
  refine ⟨h.sq, h.bl, h.wd, fun h0 => ?_, fun h0 => ?_⟩
  · have h1 : fr = [] := by
      have : n = 0 := by omega
      subst this
      rw [Nat.zero_add, Nat.div_eq_of_lt (by omega)] at hl
      exact List.length_eq_zero_iff.1 (by omega)
    rw [h.first, h.last, h1]
    exact ⟨rfl, rfl⟩
  · have h1 : 0 < fr.length := by
      have : 1 ≤ (n + szS s - 1) / szS s := by rw [Nat.le_div_iff_mul_le (by omega)]; omega
      omega
    cases fr with
    | nil => simp at h1
    | cons f l =>
      have hf : i.first = (f : Int) := h.first
      have hin := h.ch.lt
      have hcount : cnO s.fs i.seq s.fs.length = (f :: l).length := by
        rw [cnO_filter _ _ _ (Nat.le_refl _)]
        refine Nat.le_antisymm (sub_len _ _ (List.Pairwise.filter _ List.nodup_range) fun k hk => ?_) (sub_len _ _ h.nd fun k hk => ?_)
        · obtain ⟨k1, k2⟩ := List.mem_filter.1 hk
          have k3 := List.mem_range.1 k1
          rw [isOw_at k3] at k2
          exact (h.ow k k3).1 (of_decide_eq_true k2)
        · have k3 := hin k hk
          exact List.mem_filter.2 ⟨List.mem_range.2 k3, by rw [isOw_at k3]; exact decide_eq_true ((h.ow k k3).2 hk)⟩
      refine ⟨(f :: l).length, ⟨by simp, nodup_len h.nd hin, ?_, fun j hj => ?_⟩, ⟨by omega, by rw [hf]; exact hin f (by simp), ?_, ?_, by rw [hn, clN_nat hs.shp.sh (by have := h.wd.2; omega)]; exact hl, hcount.symm, ?_⟩⟩
      · rw [hf, h.ch.it, List.getElem?_eq_none (Nat.le_refl _)]
      · rw [hf, h.ch.it, List.getElem?_eq_getElem hj]
        have := hin _ (List.getElem_mem hj)
        dsimp only
        omega
      · simp only [hf, Int.toNat_natCast]
        exact (h.ow f (hin f (by simp))).2 (by simp)
      · simp only [hf, Int.toNat_natCast]
        exact h.st f (hin f (by simp)) (by simp)
      · rw [hf, h.ch.it, h.last, List.getLast?_eq_getElem?]
        cases (f :: l)[(f :: l).length - 1]? <;> rfl
end Go.Proofs.Ytbidedbpmhcoaaa
/- The reference's Grow and Alloc, as plain functions. No program. -/
namespace Go.Proofs.Ytbidedbpmhcoaaa
open Go.RowKit
set_option linter.unusedVariables false
set_option linter.unusedSimpArgs false

theorem growN_succ : ∀ (n : Nat) (fs : List Fe) (i : Inc), growN (n + 1) fs i = match frF (growN n fs i).1 with
    | none => growN n fs i
    | some f => lnk (growN n fs i).1 (growN n fs i).2 f
  | 0, fs, i => by
    show (match frF fs with | none => (fs, i) | some f => growN 0 (lnk fs i f).1 (lnk fs i f).2) = (match frF fs with | none => (fs, i) | some f => lnk fs i f)
    cases frF fs <;> rfl
  | n + 1, fs, i => by
    have e : ∀ m, growN (m + 1) fs i = match frF fs with | none => (fs, i) | some f => growN m (lnk fs i f).1 (lnk fs i f).2 := fun _ => rfl
    rw [e (n + 1), e n]
    cases h : frF fs with
    | none => dsimp only; rw [h]
    | some f => dsimp only; exact growN_succ n _ _
/-- how many frames more -/
def exN (s : Sp) (i : Inc) (n : Int) : Nat := (clN s (i.words + n) - clN s i.words).toNat
/-- what Grow leaves -/
def grw (s : Sp) (i : Inc) (n : Int) : Inc := let j := (growN (exN s i n) s.fs i).2; ⟨j.seq, j.belt, j.first, j.last, i.words + n⟩
def grwF (s : Sp) (i : Inc) (n : Int) : List Fe := (growN (exN s i n) s.fs i).1
theorem exN_ok {s : Sp} (hs : ShpS s) {i : Inc} {n : Int} (h0 : 0 ≤ i.words ∧ i.words ≤ s.ws.length) (hn : 1 ≤ n ∧ n ≤ 48) : clN s (i.words + n) - clN s i.words = exN s i n ∧ exN s i n ≤ 7 := by
  obtain ⟨g1, g2, g3, g4, g5⟩ := hs.z
  have hw := hs.small
  obtain ⟨a, ha⟩ : ∃ a : Nat, i.words = a := ⟨i.words.toNat, by omega⟩
  obtain ⟨b, rfl⟩ : ∃ b : Nat, n = b := ⟨n.toNat, by omega⟩
  unfold exN
  rw [ha, show (a : Int) + (b : Int) = ((a + b : Nat) : Int) by push_cast; rfl, clN_nat hs.sh (by omega), clN_nat hs.sh (by omega)]
  have h1 : (a + szS s - 1) / szS s ≤ (a + b + szS s - 1) / szS s := Nat.div_le_div_right (by omega)
  have h2 : (a + b + szS s - 1) / szS s ≤ (a + szS s - 1) / szS s + 7 := by
    have : a + b + szS s - 1 ≤ (a + szS s - 1) + 6 * szS s := by omega
    have h3 := Nat.div_le_div_right (c := szS s) this
    rw [Nat.add_mul_div_right _ _ (by omega)] at h3
    omega
  omega
theorem grow_words {s : Sp} (hs : ShpS s) {i : Inc} {fr : List Nat} (h : IncOk s i fr) {n : Int} (hn : 1 ≤ n ∧ n ≤ 48) : i.words + n ≤ ((fr.length + exN s i n) * szS s : Nat) ∧ 0 < fr.length + exN s i n ∧ ((fr.length + exN s i n : Nat) : Int) = clN s (i.words + n) := by
  obtain ⟨g1, g2, g3, g4, g5⟩ := hs.z
  have hw := hs.small
  obtain ⟨e1, e2⟩ := exN_ok hs h.wd hn
  have hl := h.len
  have e3 : ((fr.length + exN s i n : Nat) : Int) = clN s (i.words + n) := by push_cast; omega
  obtain ⟨a, ha⟩ : ∃ a : Nat, i.words + n = a := ⟨(i.words + n).toNat, by have := h.wd.1; omega⟩
  have e4 := e3
  rw [ha, clN_nat hs.sh (by have := h.wd.2; omega)] at e4
  have e5 : fr.length + exN s i n = (a + szS s - 1) / szS s := by omega
  have e6 : a ≤ (a + szS s - 1) / szS s * szS s := by
    have h1 := Nat.div_add_mod (a + szS s - 1) (szS s)
    have h2 := Nat.mod_lt (a + szS s - 1) (show 0 < szS s by omega)
    rw [Nat.mul_comm] at h1
    omega
  refine ⟨by rw [ha, e5]; omega, ?_, e3⟩
  rw [e5]
  have : 1 ≤ (a + szS s - 1) / szS s := by rw [Nat.le_div_iff_mul_le (by omega)]; have := h.wd.1; omega
  omega
/-- what an increment is after Grow -/
structure GrwOk (s : Sp) (i : Inc) (fr : List Nat) (n : Int) : Prop where
  sp : SpOk ⟨s.sh, s.ws, grwF s i n⟩
  len : (grwF s i n).length = s.fs.length
  inc : IncOk ⟨s.sh, s.ws, grwF s i n⟩ (grw s i n) (fr ++ (freeL s.fs).take (exN s i n))
  free : freeL (grwF s i n) = (freeL s.fs).drop (exN s i n)
  same : (grw s i n).words = i.words + n ∧ (grw s i n).seq = i.seq ∧ (grw s i n).belt = i.belt
  other : ∀ k (h : k < s.fs.length) (h' : k < (grwF s i n).length), k ∉ fr → k ∉ (freeL s.fs).take (exN s i n) → (grwF s i n)[k] = s.fs[k]
theorem grw_ok {s : Sp} (hs : SpOk s) {i : Inc} {fr : List Nat} (h : IncOk s i fr) {n : Int} (hn : 1 ≤ n ∧ n ≤ 48) (hf : exN s i n ≤ (freeL s.fs).length) : GrwOk s i fr n := by
  have g := growN_ok (exN s i n) hs h.toIncC hf
  obtain ⟨w1, w2, w3⟩ := grow_words hs.shp h hn
  have hc : IncC (grwF s i n) (grw s i n) (fr ++ (freeL s.fs).take (exN s i n)) := by
    have := g.inc
    exact ⟨this.sq, this.bl, this.ch, this.nd, this.ow, this.st, this.first, this.last⟩
  have hlen : (fr ++ (freeL s.fs).take (exN s i n)).length = fr.length + exN s i n := by
    rw [List.length_append, List.length_take, Nat.min_eq_left hf]
  refine ⟨g.sp, g.len, { hc with wd := ⟨by have := h.wd.1; show 0 ≤ i.words + n; omega, ?_⟩, len := ?_ }, g.free, ⟨rfl, g.words.2.1, g.words.2.2⟩, g.other⟩
  · show i.words + n ≤ s.ws.length
    have h1 := nodup_len hc.nd hc.ch.lt
    rw [hlen, show (grwF s i n).length = s.fs.length from g.len] at h1
    have h2 : (fr.length + exN s i n) * szS s ≤ s.fs.length * szS s := Nat.mul_le_mul_right _ h1
    rw [hs.shp.wl]
    omega
  · rw [hlen]
    exact w3
theorem GrwOk.at {s : Sp} {i : Inc} {fr : List Nat} {n : Int} (h : GrwOk s i fr n) (hs : SpOk s) (hi : IncOk s i fr) (hn : 1 ≤ n ∧ n ≤ 48) (hf : exN s i n ≤ (freeL s.fs).length) :
    GoR ⟨s.sh, s.ws, grwF s i n⟩ ((grw s i n).first * 2 ^ s.sh.toNat) i.words = (((adr (szS s) (fr ++ (freeL s.fs).take (exN s i n)) i.words.toNat : Nat) : Int), 0) := by
  obtain ⟨g1, g2, g3, g4, g5⟩ := hs.shp.z
  obtain ⟨w1, w2, w3⟩ := grow_words hs.shp hi hn
  have hlen : (fr ++ (freeL s.fs).take (exN s i n)).length = fr.length + exN s i n := by
    rw [List.length_append, List.length_take, Nat.min_eq_left hf]
  obtain ⟨a, ha⟩ : ∃ a : Nat, i.words = a := ⟨i.words.toNat, by have := hi.wd.1; omega⟩
  have hf0 := h.inc.first
  have hch := h.inc.ch
  have hown := h.inc.own
  generalize hF : fr ++ (freeL s.fs).take (exN s i n) = F at *
  cases F with
  | nil => simp at hlen; omega
  | cons f l =>
    have e0 : adr (szS s) (f :: l) 0 = f * szS s := by
      unfold adr
      simp
    have hgo := go_adr (s := ⟨s.sh, s.ws, grwF s i n⟩) h.sp.shp hch hown (p := 0) (k := a) (by show 0 < (f :: l).length * szS s; rw [hlen]; exact Nat.mul_pos w2 (by omega))
    rw [show szS (⟨s.sh, s.ws, grwF s i n⟩ : Sp) = szS s from rfl, e0] at hgo
    rw [hf0, g5, ha]
    show GoR _ ((f : Int) * (szS s : Int)) (a : Int) = _
    rw [show (f : Int) * (szS s : Int) = ((f * szS s : Nat) : Int) by push_cast; rfl, hgo, if_pos (by rw [hlen]; omega), Nat.zero_add]
    rfl
theorem grow_spec {s : Sp} (hs : SpOk s) {i : Inc} {fr : List Nat} (hi : IncOk s i fr) {n : Int} (hn : 1 ≤ n ∧ n ≤ 48) :
    F_ref09_Grow s i n = some (if exN s i n ≤ (freeL s.fs).length then (grw s i n, ((adr (szS s) (fr ++ (freeL s.fs).take (exN s i n)) i.words.toNat : Nat) : Int), 0, grwF s i n) else (⟨0, 0, 0, 0, 0⟩, 0, 4, s.fs)) := by
  obtain ⟨g1, g2, g3, g4, g5⟩ := hs.shp.z
  have hw := hs.shp.small
  have h64 := hs.shp.hi
  obtain ⟨e1, e2⟩ := exN_ok hs.shp hi.wd hn
  have hwd := hi.wd
  unfold F_ref09_Grow
  have x1 : F_ref09_Extra s i n = some (exN s i n : Int) := by
    unfold F_ref09_Extra
    rw [if_pos ⟨hs.shp.sh, by unfold I64; omega⟩, e1]
  refine bind_ok x1 ?_
  refine bind_ok (free_ok s (by omega)) ?_
  rw [List.length_map]
  by_cases hf : exN s i n ≤ (freeL s.fs).length
  · rw [if_neg (by omega)]
    have gk := grw_ok hs hi hn hf
    have lp : loopO (fun (s8 : List Fe × Inc × Int) =>
        if 0 < s8.2.2 then
          ((F_ref04_Lift (Sp.mk s.sh s.ws s8.1) s8.2.1.seq s8.2.1.belt).bind fun v13 =>
            if v13.2.length = s8.1.length then
              if s8.2.1.first = (-1) then (some (.go ((v13.2, Inc.mk s8.2.1.seq s8.2.1.belt v13.1 v13.1 s8.2.1.words, w64 (s8.2.2 - 1)))))
              else (at_ v13.2 s8.2.1.last).bind fun v16 => some (.go ((v13.2.set (Int.toNat s8.2.1.last) (Fe.mk v16.ow v16.st v13.1), Inc.mk s8.2.1.seq s8.2.1.belt s8.2.1.first v13.1 s8.2.1.words, w64 (s8.2.2 - 1))))
            else none)
        else some (.out ((s8.1, s8.2.1)))) (s.fs, i, (exN s i n : Int)) = some (grwF s i n, (growN (exN s i n) s.fs i).2) := by
      refine loop_end (σ := List Fe × Inc × Int) (fun j => ((growN j s.fs i).1, (growN j s.fs i).2, ((exN s i n : Int) - (j : Int)))) (exN s i n) (fun j hj => ?_) ?_
      · have gj := growN_ok j hs hi.toIncC (by omega)
        have hfj : freeL (growN j s.fs i).1 ≠ [] := fun e => by
          have := congrArg List.length (gj.free.symm.trans e)
          rw [List.length_drop] at this
          simp at this
          omega
        obtain ⟨f, hff⟩ := frF_of hfj
        obtain ⟨hfl, h0⟩ := frF_some hff
        have hsq := gj.inc.sq
        have hbl := gj.inc.bl
        have hl := lift_spec ⟨s.sh, s.ws, (growN j s.fs i).1⟩ (growN j s.fs i).2.seq (growN j s.fs i).2.belt hff (by show (growN j s.fs i).1.length ≤ _; rw [gj.len]; omega) hsq hbl
        have hsucc := growN_succ j s.fs i
        rw [hff] at hsucc
        dsimp only at hsucc hl ⊢
        rw [if_pos (by omega), hl]
        simp only [Option.bind_some]
        rw [if_pos (by simp), hsucc, show w64 ((exN s i n : Int) - (j : Int) - 1) = (exN s i n : Int) - ((j + 1 : Nat) : Int) from by rw [w64_in (by omega)]; push_cast; omega]
        generalize (growN j s.fs i).1 = fs at *
        generalize hI : (growN j s.fs i).2 = I at *
        unfold lnk
        dsimp only
        by_cases h1 : I.first = -1
        · rw [if_pos h1, if_pos h1]
        · rw [if_neg h1, if_neg h1]
          have hlast := gj.inc.last
          cases hg : (fr ++ (freeL s.fs).take j).getLast? with
          | none =>
            have hn0 := List.getLast?_eq_none_iff.1 hg
            exact absurd (by rw [gj.inc.first, hn0]; rfl) h1
          | some l =>
            rw [hg] at hlast
            dsimp only at hlast
            have hll := gj.inc.ch.lt l (List.mem_of_getLast? hg)
            have hlt : I.last.toNat < (fs.set f ⟨I.seq, I.belt * 4294967296 + I.seq, -1⟩).length := by rw [List.length_set, hlast]; exact hll
            rw [at_int (by rw [hlast]; omega) hlt, List.getElem?_eq_getElem hlt]
            rfl
      · dsimp only
        rw [if_neg (by omega)]
        rfl
    refine bind_ok (a := (grwF s i n, (growN (exN s i n) s.fs i).2)) lp ?_
    dsimp only
    have hwu : wu s.sh = s.sh := wu_in (by omega)
    rw [hwu, if_pos g1]
    have hsp := gk.sp
    have hfst : 0 ≤ (grw s i n).first ∧ (grw s i n).first < s.fs.length := by
      have hf0 := gk.inc.first
      obtain ⟨w1, w2, w3⟩ := grow_words hs.shp hi hn
      cases hh : (fr ++ (freeL s.fs).take (exN s i n)).head? with
      | none =>
        have := List.head?_eq_none_iff.1 hh
        have h2 := congrArg List.length this
        rw [List.length_append, List.length_take, Nat.min_eq_left hf, List.length_nil] at h2
        omega
      | some x =>
        rw [hh] at hf0
        have := gk.inc.ch.lt x (List.mem_of_head? hh)
        have h3 : (⟨s.sh, s.ws, grwF s i n⟩ : Sp).fs.length = s.fs.length := gk.len
        rw [h3] at this
        rw [hf0]
        dsimp only
        omega
    have hshl : shlN .i64 (growN (exN s i n) s.fs i).2.first s.sh = (grw s i n).first * 2 ^ s.sh.toNat := by
      obtain ⟨e, he⟩ : ∃ e : Nat, s.sh = e := ⟨s.sh.toNat, by omega⟩
      have hb : 0 ≤ (grw s i n).first * 2 ^ s.sh.toNat ∧ (grw s i n).first * 2 ^ s.sh.toNat ≤ 16384 := by
        rw [g5]
        refine ⟨Int.mul_nonneg hfst.1 (by omega), ?_⟩
        have h1 : (grw s i n).first * (szS s : Int) ≤ (64 : Int) * (szS s : Int) := Int.mul_le_mul_of_nonneg_right (by omega) (by omega)
        have h2 : (64 : Int) * (szS s : Int) ≤ 64 * 256 := by omega
        omega
      rw [he] at hb ⊢
      rw [Int.toNat_natCast] at hb ⊢
      exact shl_pow (by omega) (by show _ ≤ (grw s i n).first * 2 ^ e ∧ (grw s i n).first * 2 ^ e ≤ _; omega)
    rw [hshl]
    have hgo : F_ref05_Go ⟨s.sh, s.ws, grwF s i n⟩ ((grw s i n).first * 2 ^ s.sh.toNat) i.words = some (((adr (szS s) (fr ++ (freeL s.fs).take (exN s i n)) i.words.toNat : Nat) : Int), 0) := by
      have h1 : (grw s i n).first * (szS s : Int) ≤ (64 : Int) * (szS s : Int) := Int.mul_le_mul_of_nonneg_right (by omega) (by omega)
      have h2 : (64 : Int) * (szS s : Int) ≤ 64 * 256 := by omega
      have h3 : 0 ≤ (grw s i n).first * (szS s : Int) := Int.mul_nonneg hfst.1 (by omega)
      have hI : I64 ((grw s i n).first * 2 ^ s.sh.toNat) := by rw [g5]; unfold I64; omega
      have hJ : I64 i.words := by unfold I64; omega
      unfold F_ref05_Go
      rw [if_pos ⟨hsp.shp, nxin_of hsp.fm, hI, hJ⟩, gk.at hs hi hn hf]
    refine bind_ok hgo ?_
    have hwn : w64 ((growN (exN s i n) s.fs i).2.words + n) = i.words + n := by
      rw [(growN_ok (exN s i n) hs hi.toIncC hf).words.1]
      exact w64_in (by omega)
    rw [hwn, if_pos hf]
    rfl
  · rw [if_pos (by omega), if_neg hf]
end Go.Proofs.Ytbidedbpmhcoaaa
/- The reference's Alloc, and objects that are begun. No program. -/
namespace Go.Proofs.Ytbidedbpmhcoaaa
open Go.RowKit
set_option linter.unusedVariables false
set_option linter.unusedSimpArgs false

theorem copy_ok {s : Sp} (h1 : s.ws.length ≤ 65536) (h2 : s.fs.length ≤ 65536) : F_ref03_Copy s = some s := by
  unfold F_ref03_Copy F_ref02_Clone
  rw [if_pos (by omega)]
  simp only [Option.bind_some]
  rw [if_pos (by omega)]
theorem IncOk.nil {s : Sp} (hs : ShpS s) {i : Inc} {fr : List Nat} (h : IncOk s i fr) (h0 : i.words = 0) : fr = [] := by
  obtain ⟨g1, g2, g3, g4, g5⟩ := hs.z
  have hl := h.len
  rw [h0, show (0 : Int) = ((0 : Nat) : Int) from rfl, clN_nat hs.sh (by omega), Nat.zero_add, Nat.div_eq_of_lt (by omega)] at hl
  exact List.length_eq_zero_iff.1 (by omega)
theorem alloc_spec {s : Sp} (hs : SpOk s) (hW : SpW s) {i : Inc} {fr : List Nat} (hi : IncOk s i fr) {n : Int} (hn : 1 ≤ n ∧ n ≤ 48) :
    F_ref09_Alloc s i n = some (if exN s i n ≤ (freeL s.fs).length then (⟨s.sh, s.ws, grwF s i n⟩, grw s i n, ((adr (szS s) (fr ++ (freeL s.fs).take (exN s i n)) i.words.toNat : Nat) : Int), 0) else (⟨0, [], []⟩, ⟨0, 0, 0, 0, 0⟩, 0, 4)) := by
  have hw := hs.shp.small
  have h64 := hs.shp.hi
  unfold F_ref09_Alloc
  have hv : F_ref09_Valid s i = some true := by
    unfold F_ref09_Valid
    rw [if_pos hW, bP_t ⟨hs, hi.fit hs⟩]
  refine bind_ok hv ?_
  rw [if_pos rfl, if_neg (by omega), if_neg (by omega)]
  have rest : ((F_ref03_Copy s).bind fun v15 => (F_ref09_Grow v15 i n).bind fun v16 =>
      if v16.2.2.2.length = v15.fs.length then
        if v16.2.2.1 = 0 then (some ((Sp.mk v15.sh v15.ws v16.2.2.2, v16.1, v16.2.1, 0)))
        else some ((Sp.mk 0 ([] : List Int) ([] : List Fe), Inc.mk 0 0 0 0 0, 0, v16.2.2.1))
      else none) = some (if exN s i n ≤ (freeL s.fs).length then (⟨s.sh, s.ws, grwF s i n⟩, grw s i n, ((adr (szS s) (fr ++ (freeL s.fs).take (exN s i n)) i.words.toNat : Nat) : Int), 0) else (⟨0, [], []⟩, ⟨0, 0, 0, 0, 0⟩, 0, 4)) := by
    refine bind_ok (copy_ok (by omega) (by omega)) ?_
    refine bind_ok (grow_spec hs hi hn) ?_
    by_cases hf : exN s i n ≤ (freeL s.fs).length
    · simp only [if_pos hf]
      rw [if_pos (grw_ok hs hi hn hf).len, if_pos trivial]
    · simp only [if_neg hf]
      rw [if_pos trivial, if_neg (by omega)]
  by_cases h0 : i.words = 0
  · rw [if_pos h0]
    have hfr := hi.nil hs.shp h0
    have ho : F_ref09_Owns s i.seq = some false := by
      unfold F_ref09_Owns
      rw [if_pos trivial, bP_f]
      rintro ⟨f, hf, e⟩
      obtain ⟨k, hk, rfl⟩ := List.getElem_of_mem hf
      have := (hi.ow k hk).1 e
      rw [hfr] at this
      cases this
    refine bind_ok ho ?_
    rw [if_neg (by decide)]
    exact rest
  · rw [if_neg h0]
    exact rest

/-- words written, but not in free frames -/
theorem sp_ws {s : Sp} (hs : SpOk s) {ws : List Int} (hl : ws.length = s.ws.length) (h : ∀ k (hk : k < s.fs.length), s.fs[k].ow = -1 → ∀ a (h1 : a < s.ws.length) (h2 : a < ws.length), a / szS s = k → ws[a] = s.ws[a]) : SpOk ⟨s.sh, ws, s.fs⟩ := by
  obtain ⟨g1, g2, g3, g4, g5⟩ := hs.shp.z
  refine ⟨⟨hs.shp.sh, hs.shp.lo, hs.shp.hi, by show ws.length = _; rw [hl]; exact hs.shp.wl⟩, fun i hi => ?_, hs.uq, hs.ends⟩
  rcases hs.fm i hi with q | q
  · refine .inl ⟨q.1, q.2.1, q.2.2.1, fun a ha h1 h2 => ?_⟩
    have ha2 : a < s.ws.length := by have : a < ws.length := ha; omega
    show ws[a] = 0
    have e : szS (⟨s.sh, ws, s.fs⟩ : Sp) = szS s := rfl
    rw [e] at h1 h2
    have hd : a / szS s = i := Nat.div_eq_of_lt_le h1 h2
    rw [h i hi q.1 a ha2 ha hd]
    exact q.2.2.2 a ha2 h1 h2
  · exact .inr q
/-- the words behind a header are cleared -/
theorem clrL_get (s : Sp) (a : Int) : ∀ (n : Nat) (l : List Int) (x : Nat), (∀ k : Nat, 1 ≤ k → k ≤ n → (GoR s a (k : Int)).1.toNat ≠ x) → (clrL s a n l)[x]? = l[x]?
  | 0, l, x, _ => rfl
  | n + 1, l, x, h => by
    unfold clrL
    rw [List.getElem?_set_ne (by have := h (n + 1) (by omega) (by omega); exact_mod_cast this)]
    exact clrL_get s a n l x fun k h1 h2 => h k h1 (by omega)
theorem clrL_zero (s : Sp) (a : Int) : ∀ (n : Nat) (l : List Int) (k : Nat), 1 ≤ k → k ≤ n → (GoR s a (k : Int)).1.toNat < l.length → (clrL s a n l)[(GoR s a (k : Int)).1.toNat]? = some 0
  | 0, l, k, h1, h2, _ => by omega
  | n + 1, l, k, h1, h2, hl => by
    unfold clrL
    by_cases he : (GoR s a ((n + 1 : Nat) : Int)).1.toNat = (GoR s a (k : Int)).1.toNat
    · rw [he, List.getElem?_set_self (by rw [clrL_len]; exact hl)]
    · rw [List.getElem?_set_ne he]
      have : k ≠ n + 1 := fun e => he (by rw [e])
      exact clrL_zero s a n l k h1 (by omega) hl

/-- the words of an object that is begun -/
def iniW (s : Sp) (a r d : Nat) : List Int := clrL s a (r + d) (s.ws.set a (hdW r d))
theorem iniW_len (s : Sp) (a r d : Nat) : (iniW s a r d).length = s.ws.length := by unfold iniW; rw [clrL_len, List.length_set]
section
variable {s : Sp} {fr : List Nat} {p r d : Nat}
theorem go_k (hs : ShpS s) (hc : Chn s.fs fr) (ho : Own s.fs fr) {k : Nat} (h : p + k < fr.length * szS s) : GoR s ((adr (szS s) fr p : Nat) : Int) (k : Int) = (((adr (szS s) fr (p + k) : Nat) : Int), 0) := by
  rw [go_adr hs hc ho (by omega), if_pos h]
theorem iniW_hd (hs : ShpS s) (hc : Chn s.fs fr) (hn : fr.Nodup) (ho : Own s.fs fr) (hp : p + r + d < fr.length * szS s) : (iniW s (adr (szS s) fr p) r d)[adr (szS s) fr p]? = some (hdW r d) := by
  obtain ⟨g1, g2, g3, g4, g5⟩ := hs.z
  unfold iniW
  rw [clrL_get _ _ _ _ _ fun k h1 h2 e => ?_, List.getElem?_set_self (adr_lt hs hc.lt (by omega))]
  rw [go_k hs hc ho (by omega)] at e
  have := adr_inj (by omega) hn (by omega) (by omega) (show adr (szS s) fr (p + k) = adr (szS s) fr p from e)
  omega
theorem iniW_0 (hs : ShpS s) (hc : Chn s.fs fr) (hn : fr.Nodup) (ho : Own s.fs fr) (hp : p + r + d < fr.length * szS s) {k : Nat} (h1 : 1 ≤ k) (h2 : k ≤ r + d) : (iniW s (adr (szS s) fr p) r d)[adr (szS s) fr (p + k)]? = some 0 := by
  have e := go_k (k := k) hs hc ho (p := p) (by omega)
  have := clrL_zero s ((adr (szS s) fr p : Nat) : Int) (r + d) (s.ws.set (adr (szS s) fr p) (hdW r d)) k h1 h2 (by rw [e, List.length_set]; exact adr_lt hs hc.lt (by omega))
  rw [e] at this
  exact this
theorem iniW_else (hs : ShpS s) (hc : Chn s.fs fr) (ho : Own s.fs fr) (hp : p + r + d < fr.length * szS s) {x : Nat} (h : ∀ k, k ≤ r + d → x ≠ adr (szS s) fr (p + k)) : (iniW s (adr (szS s) fr p) r d)[x]? = s.ws[x]? := by
  have h0 : x ≠ adr (szS s) fr p := h 0 (Nat.zero_le _)
  unfold iniW
  rw [clrL_get _ _ _ _ _ fun k h1 h2 e => ?_, List.getElem?_set_ne fun e => h0 e.symm]
  rw [go_k hs hc ho (by omega)] at e
  exact h k h2 e.symm
theorem ini_spec (hs : SpOk s) (hW : SpW s) (hc : Chn s.fs fr) (hn : fr.Nodup) (ho : Own s.fs fr) (hp : p + r + d < fr.length * szS s) (hr : r ≤ 15) (hd : d ≤ 32) :
    F_ref08_Init s ((adr (szS s) fr p : Nat) : Int) r d = some (⟨s.sh, iniW s (adr (szS s) fr p) r d, s.fs⟩, 0) ∧ F_object_Init s ((adr (szS s) fr p : Nat) : Int) r d = some (⟨s.sh, iniW s (adr (szS s) fr p) r d, s.fs⟩, 0) := by
  have hw := hs.shp.small
  have h64 := hs.shp.hi
  have hlt := adr_lt hs.shp hc.lt (show p < fr.length * szS s by omega)
  have hpre : SpW s ∧ I64 ((adr (szS s) fr p : Nat) : Int) ∧ SpLen s := ⟨hW, by unfold I64; omega, by unfold SpLen; exact ⟨by show _ ≤ _; omega, by show _ ≤ _; omega⟩⟩
  have he : IniE s ((adr (szS s) fr p : Nat) : Int) r d = 0 := by
    rw [IniE_t hs]
    unfold MkE
    rw [if_pos (by unfold HdOk; omega), show (r : Int) + (d : Int) = ((r + d : Nat) : Int) by push_cast; rfl, go_k hs.shp hc ho (by omega)]
  have hv : IniR s ((adr (szS s) fr p : Nat) : Int) r d = (⟨s.sh, iniW s (adr (szS s) fr p) r d, s.fs⟩, 0) := by
    unfold IniR
    rw [if_pos he]
    rfl
  refine ⟨?_, ?_⟩
  · unfold F_ref08_Init
    rw [if_pos hpre, hv]
  · unfold F_object_Init
    rw [if_pos hpre, hv]
theorem ini_sp (hs : SpOk s) (hW : SpW s) (hc : Chn s.fs fr) (hn : fr.Nodup) (ho : Own s.fs fr) (hp : p + r + d < fr.length * szS s) (hr : r ≤ 15) (hd : d ≤ 32) : SpOk ⟨s.sh, iniW s (adr (szS s) fr p) r d, s.fs⟩ ∧ SpW ⟨s.sh, iniW s (adr (szS s) fr p) r d, s.fs⟩ := by
  obtain ⟨g1, g2, g3, g4, g5⟩ := hs.shp.z
  refine ⟨sp_ws hs (iniW_len ..) fun k hk hfree a h1 h2 hak => ?_, fun x hx => ?_, hW.2⟩
  · have := iniW_else hs.shp hc ho hp (x := a) fun j hj e => ?_
    · rw [List.getElem?_eq_getElem h2, List.getElem?_eq_getElem h1] at this
      exact Option.some.inj this
    · obtain ⟨d1, _⟩ := adr_div (show 0 < szS s by omega) fr (p + j)
      have hj2 : (p + j) / szS s < fr.length := Nat.div_lt_of_lt_mul (by rw [Nat.mul_comm]; omega)
      rw [← e, hak, List.getElem?_eq_getElem hj2, Option.getD_some] at d1
      subst d1
      exact ho _ (List.getElem_mem hj2) hk hfree
  · have hx : x ∈ iniW s (adr (szS s) fr p) r d := hx
    obtain ⟨a, ha, rfl⟩ := List.getElem_of_mem hx
    have h1 : (iniW s (adr (szS s) fr p) r d)[a]? = some (iniW s (adr (szS s) fr p) r d)[a] := List.getElem?_eq_getElem ha
    by_cases hk : ∃ k, k ≤ r + d ∧ a = adr (szS s) fr (p + k)
    · obtain ⟨k, hk, e⟩ := hk
      by_cases h0 : k = 0
      · subst h0
        subst e
        have this : (iniW s (adr (szS s) fr p) r d)[adr (szS s) fr (p + 0)]? = some (hdW r d) := iniW_hd hs.shp hc hn ho hp
        rw [h1] at this
        rw [Option.some.inj this]
        unfold U64 hdW
        omega
      · subst e
        have := iniW_0 hs.shp hc hn ho hp (k := k) (by omega) hk
        rw [h1] at this
        rw [Option.some.inj this]
        unfold U64
        omega
    · have := iniW_else hs.shp hc ho hp (x := a) fun k hkk e => hk ⟨k, hkk, e⟩
      rw [h1] at this
      exact hW.1 _ (List.mem_of_getElem? this.symm)
end
end Go.Proofs.Ytbidedbpmhcoaaa
/- Spaces with increments full of objects: an object more. No program. -/
namespace Go.Proofs.Ytbidedbpmhcoaaa
open Go.RowKit
set_option linter.unusedVariables false
set_option linter.unusedSimpArgs false

/-- objects one behind the other, from a word of an increment to another -/
def Lay (z : Nat) (ws : List Int) (fr : List Nat) : Nat → List (Nat × Nat) → Nat → Prop
  | p, [], q => p = q
  | p, (r, d) :: l, q => r ≤ 15 ∧ d ≤ 32 ∧ ws[adr z fr p]? = some (hdW r d) ∧ Lay z ws fr (p + 1 + r + d) l q
theorem Lay.le {z : Nat} {ws : List Int} {fr : List Nat} : ∀ {l : List (Nat × Nat)} {p q : Nat}, Lay z ws fr p l q → p ≤ q
  | [], p, q, h => Nat.le_of_eq h
  | (r, d) :: l, p, q, h => by have := h.2.2.2.le; omega
theorem Lay.congr {z : Nat} {ws ws' : List Int} {fr fr' : List Nat} : ∀ {l : List (Nat × Nat)} {p q : Nat}, Lay z ws fr p l q → (∀ k, p ≤ k → k < q → adr z fr' k = adr z fr k ∧ ws'[adr z fr k]? = ws[adr z fr k]?) → Lay z ws' fr' p l q
  | [], p, q, h, _ => h
  | (r, d) :: l, p, q, h, hk => by
    obtain ⟨h1, h2, h3, h4⟩ := h
    have hle := h4.le
    obtain ⟨e1, e2⟩ := hk p (Nat.le_refl _) (by omega)
    exact ⟨h1, h2, by rw [e1, e2]; exact h3, h4.congr fun k a b => hk k (by omega) b⟩
theorem Lay.snoc {z : Nat} {ws : List Int} {fr : List Nat} {r d : Nat} (hr : r ≤ 15) (hd : d ≤ 32) : ∀ {l : List (Nat × Nat)} {p q : Nat}, Lay z ws fr p l q → ws[adr z fr q]? = some (hdW r d) → Lay z ws fr p (l ++ [(r, d)]) (q + 1 + r + d)
  | [], p, q, h, hw => by
    have h : p = q := h
    subst h
    exact ⟨hr, hd, hw, rfl⟩
  | (r', d') :: l, p, q, h, hw => ⟨h.1, h.2.1, h.2.2.1, h.2.2.2.snoc hr hd hw⟩

/-- an increment, its frames, its objects -/
structure Itm where
  i : Inc
  fr : List Nat
  os : List (Nat × Nat)
structure ItmOk (s : Sp) (x : Itm) : Prop where
  inc : IncOk s x.i x.fr
  lay : Lay (szS s) s.ws x.fr 0 x.os x.i.words.toNat
structure SpInv (s : Sp) (L : List Itm) : Prop where
  ok : SpOk s
  w : SpW s
  each : ∀ x ∈ L, ItmOk s x
  seqs : L.Pairwise fun x y => x.i.seq ≠ y.i.seq
  all : ∀ k (h : k < s.fs.length), ¬ s.fs[k].ow = -1 → ∃ x ∈ L, k ∈ x.fr
theorem ItmOk.room {s : Sp} (hs : ShpS s) {x : Itm} (h : ItmOk s x) : x.i.words.toNat ≤ x.fr.length * szS s := by
  obtain ⟨g1, g2, g3, g4, g5⟩ := hs.z
  have hw := hs.small
  have hl := h.inc.len
  have hd := h.inc.wd
  obtain ⟨a, ha⟩ : ∃ a : Nat, x.i.words = a := ⟨x.i.words.toNat, by omega⟩
  rw [ha, clN_nat hs.sh (by omega)] at hl
  have e : x.fr.length = (a + szS s - 1) / szS s := by omega
  rw [e, ha, Int.toNat_natCast]
  have h1 := Nat.div_add_mod (a + szS s - 1) (szS s)
  have h2 := Nat.mod_lt (a + szS s - 1) (show 0 < szS s by omega)
  rw [Nat.mul_comm] at h1
  omega
/-- increments of different numbers share no frame -/
theorem IncC.disj {fs : List Fe} {i j : Inc} {fr fr' : List Nat} (h : IncC fs i fr) (h' : IncC fs j fr') (hne : i.seq ≠ j.seq) : ∀ k ∈ fr, k ∉ fr' := fun k hk hk' => by
  have hl := h.ch.lt k hk
  exact hne (((h.ow k hl).2 hk).symm.trans ((h'.ow k hl).2 hk'))
theorem freeL_mem {fs : List Fe} {k : Nat} (h : k ∈ freeL fs) : ∃ h' : k < fs.length, fs[k].ow = -1 := by
  unfold freeL at h
  exact isFr_lt (List.mem_filter.1 h).2

/-- the space behind an allocation, and the increment -/
def aloS (s : Sp) (x : Itm) (r d : Nat) : Sp := ⟨s.sh, iniW ⟨s.sh, s.ws, grwF s x.i ((1 + r + d : Nat) : Int)⟩ (adr (szS s) (x.fr ++ (freeL s.fs).take (exN s x.i ((1 + r + d : Nat) : Int))) x.i.words.toNat) r d, grwF s x.i ((1 + r + d : Nat) : Int)⟩
def aloX (s : Sp) (x : Itm) (r d : Nat) : Itm := ⟨grw s x.i ((1 + r + d : Nat) : Int), x.fr ++ (freeL s.fs).take (exN s x.i ((1 + r + d : Nat) : Int)), x.os ++ [(r, d)]⟩
theorem alo_own {s : Sp} (hs : SpOk s) (hW : SpW s) {x : Itm} (hx : ItmOk s x) {r d : Nat} (hr : r ≤ 15) (hd : d ≤ 32) (hf : exN s x.i ((1 + r + d : Nat) : Int) ≤ (freeL s.fs).length) :
    SpOk (aloS s x r d) ∧ SpW (aloS s x r d) ∧ ItmOk (aloS s x r d) (aloX s x r d) := by
  obtain ⟨g1, g2, g3, g4, g5⟩ := hs.shp.z
  have hn : 1 ≤ ((1 + r + d : Nat) : Int) ∧ ((1 + r + d : Nat) : Int) ≤ 48 := by omega
  have gk := grw_ok hs hx.inc hn hf
  obtain ⟨w1, w2, w3⟩ := grow_words hs.shp hx.inc hn
  have hwd := hx.inc.wd
  have hlen : (x.fr ++ (freeL s.fs).take (exN s x.i ((1 + r + d : Nat) : Int))).length = x.fr.length + exN s x.i ((1 + r + d : Nat) : Int) := by
    rw [List.length_append, List.length_take, Nat.min_eq_left hf]
  have hp : x.i.words.toNat + r + d < (x.fr ++ (freeL s.fs).take (exN s x.i ((1 + r + d : Nat) : Int))).length * szS s := by rw [hlen]; omega
  have hWg : SpW ⟨s.sh, s.ws, grwF s x.i ((1 + r + d : Nat) : Int)⟩ := ⟨hW.1, fun f hf => by
    obtain ⟨k, hk, rfl⟩ := List.getElem_of_mem hf
    have h64 := hs.shp.hi
    have hgl : (grwF s x.i ((1 + r + d : Nat) : Int)).length = s.fs.length := gk.len
    rcases gk.sp.fm k hk with h | h
    · obtain ⟨a, b, c, _⟩ := h
      rw [a, b, c]
      unfold I64
      omega
    · obtain ⟨⟨a, b, c, d1, d2, d3⟩, e1, e2, _⟩ := h
      have e2 : _ < ((grwF s x.i ((1 + r + d : Nat) : Int)).length : Int) := e2
      unfold I64
      omega⟩
  obtain ⟨q1, q2⟩ := ini_sp gk.sp hWg gk.inc.ch gk.inc.nd gk.inc.own (p := x.i.words.toNat) hp hr hd
  refine ⟨q1, q2, ?_, ?_⟩
  · have := gk.inc
    exact { this.toIncC with wd := ⟨this.wd.1, by show _ ≤ ((aloS s x r d).ws.length : Int); rw [show (aloS s x r d).ws.length = s.ws.length from iniW_len ..]; exact this.wd.2⟩, len := this.len }
  · have hroom := hx.room hs.shp
    show Lay (szS s) (aloS s x r d).ws (aloX s x r d).fr 0 (x.os ++ [(r, d)]) (x.i.words + ((1 + r + d : Nat) : Int)).toNat
    rw [show (x.i.words + ((1 + r + d : Nat) : Int)).toNat = x.i.words.toNat + 1 + r + d by omega]
    refine Lay.snoc hr hd (hx.lay.congr fun k _ hk => ⟨adr_append (by omega) (by omega), ?_⟩) ?_
    · have := iniW_else (s := ⟨s.sh, s.ws, grwF s x.i ((1 + r + d : Nat) : Int)⟩) gk.sp.shp gk.inc.ch gk.inc.own (p := x.i.words.toNat) hp (x := adr (szS s) x.fr k) fun j hj e => by
        rw [← adr_append (l := (freeL s.fs).take (exN s x.i ((1 + r + d : Nat) : Int))) (show 0 < szS s by omega) (show k < x.fr.length * szS s by omega)] at e
        have := adr_inj (show 0 < szS s by omega) gk.inc.nd (show k < _ * szS s by omega) (show x.i.words.toNat + j < _ * szS s by omega) e
        omega
      exact this
    · exact iniW_hd (s := ⟨s.sh, s.ws, grwF s x.i ((1 + r + d : Nat) : Int)⟩) gk.sp.shp gk.inc.ch gk.inc.nd gk.inc.own (p := x.i.words.toNat) hp
theorem alo_inv {s : Sp} {A B : List Itm} {x : Itm} (h : SpInv s (A ++ x :: B)) {r d : Nat} (hr : r ≤ 15) (hd : d ≤ 32) (hf : exN s x.i ((1 + r + d : Nat) : Int) ≤ (freeL s.fs).length) : SpInv (aloS s x r d) (A ++ aloX s x r d :: B) := by
  have hs := h.ok
  obtain ⟨g1, g2, g3, g4, g5⟩ := hs.shp.z
  have hx := h.each x (by simp)
  have hn : 1 ≤ ((1 + r + d : Nat) : Int) ∧ ((1 + r + d : Nat) : Int) ≤ 48 := by omega
  have gk := grw_ok hs hx.inc hn hf
  obtain ⟨q1, q2, q3⟩ := alo_own hs h.w hx hr hd hf
  have hsq : (aloX s x r d).i.seq = x.i.seq := gk.same.2.1
  have hne : ∀ y, y ∈ A ∨ y ∈ B → x.i.seq ≠ y.i.seq := fun y hy => by
    have hp := List.pairwise_append.1 h.seqs
    rcases hy with hy | hy
    · exact fun e => hp.2.2 y hy x (by simp) e.symm
    · exact (List.pairwise_cons.1 hp.2.1).1 y hy
  have hlen : (grwF s x.i ((1 + r + d : Nat) : Int)).length = s.fs.length := gk.len
  refine ⟨q1, q2, fun y hy => ?_, ?_, fun k hk ho => ?_⟩
  · have hy2 : y = aloX s x r d ∨ y ∈ A ∨ y ∈ B := by
      rcases List.mem_append.1 hy with h1 | h1
      · exact .inr (.inl h1)
      · rcases List.mem_cons.1 h1 with h2 | h2
        · exact .inl h2
        · exact .inr (.inr h2)
    rcases hy2 with rfl | hy2
    · exact q3
    · have hyI := h.each y (by rcases hy2 with h1 | h1 <;> simp [h1])
      have hney := hne y hy2
      have hdis := hx.inc.toIncC.disj hyI.inc.toIncC hney
      have notin : ∀ k ∈ y.fr, k ∉ x.fr ∧ k ∉ (freeL s.fs).take (exN s x.i ((1 + r + d : Nat) : Int)) := fun k hk => ⟨fun e => hdis k e hk, fun e => by
        obtain ⟨k1, k2⟩ := freeL_mem (List.mem_of_mem_take e)
        exact hyI.inc.own k hk k1 k2⟩
      have hsame : ∀ k (h1 : k < s.fs.length) (h2 : k < (grwF s x.i ((1 + r + d : Nat) : Int)).length), k ∈ y.fr → (grwF s x.i ((1 + r + d : Nat) : Int))[k] = s.fs[k] := fun k h1 h2 hk => gk.other k h1 h2 (notin k hk).1 (notin k hk).2
      refine ⟨⟨⟨hyI.inc.sq, hyI.inc.bl, ?_, hyI.inc.nd, fun k hk => ?_, fun k hk hky => ?_, hyI.inc.first, hyI.inc.last⟩, ⟨hyI.inc.wd.1, ?_⟩, hyI.inc.len⟩, ?_⟩
      · exact hyI.inc.ch.congr hlen fun k hk a b => by rw [hsame k a b hk]
      · have hk : k < (grwF s x.i ((1 + r + d : Nat) : Int)).length := hk
        have hk1 : k < s.fs.length := by omega
        by_cases hky : k ∈ y.fr
        · show (grwF s x.i ((1 + r + d : Nat) : Int))[k].ow = _ ↔ _
          rw [hsame k hk1 hk hky]
          exact hyI.inc.ow k hk1
        · refine ⟨fun e => ?_, fun e => absurd e hky⟩
          exfalso
          by_cases hkx : k ∈ x.fr ++ (freeL s.fs).take (exN s x.i ((1 + r + d : Nat) : Int))
          · have := (gk.inc.ow k hk).2 hkx
            rw [gk.same.2.1] at this
            exact hney (this.symm.trans e)
          · rw [List.mem_append, not_or] at hkx
            have h3 := gk.other k hk1 hk hkx.1 hkx.2
            have e : (grwF s x.i ((1 + r + d : Nat) : Int))[k].ow = y.i.seq := e
            rw [h3] at e
            exact hky ((hyI.inc.ow k hk1).1 e)
      · have hk : k < (grwF s x.i ((1 + r + d : Nat) : Int)).length := hk
        show (grwF s x.i ((1 + r + d : Nat) : Int))[k].st = _
        rw [hsame k (by omega) hk hky]
        exact hyI.inc.st k (by omega) hky
      · show _ ≤ ((aloS s x r d).ws.length : Int)
        rw [show (aloS s x r d).ws.length = s.ws.length from iniW_len ..]
        exact hyI.inc.wd.2
      · have hroom := hyI.room hs.shp
        refine hyI.lay.congr fun k _ hk => ⟨rfl, ?_⟩
        obtain ⟨w1, w2, w3⟩ := grow_words hs.shp hx.inc hn
        have hwd := hx.inc.wd
        have hlen2 : (x.fr ++ (freeL s.fs).take (exN s x.i ((1 + r + d : Nat) : Int))).length = x.fr.length + exN s x.i ((1 + r + d : Nat) : Int) := by
          rw [List.length_append, List.length_take, Nat.min_eq_left hf]
        have hp : x.i.words.toNat + r + d < (x.fr ++ (freeL s.fs).take (exN s x.i ((1 + r + d : Nat) : Int))).length * szS s := by rw [hlen2]; omega
        exact iniW_else (s := ⟨s.sh, s.ws, grwF s x.i ((1 + r + d : Nat) : Int)⟩) gk.sp.shp gk.inc.ch gk.inc.own (p := x.i.words.toNat) hp (x := adr (szS s) y.fr k) fun j hj e => by
          refine adr_ne (show 0 < szS s by omega) (fr := y.fr) (fr' := x.fr ++ (freeL s.fs).take (exN s x.i ((1 + r + d : Nat) : Int))) (fun k hk hk2 => ?_) (show k < _ * szS s by omega) (show x.i.words.toNat + j < _ * szS s by omega) e
          rcases List.mem_append.1 hk2 with h1 | h1
          · exact (notin k hk).1 h1
          · exact (notin k hk).2 h1
  · have hp := List.pairwise_append.1 h.seqs
    have hc := List.pairwise_cons.1 hp.2.1
    refine List.pairwise_append.2 ⟨hp.1, List.pairwise_cons.2 ⟨fun y hy => by rw [hsq]; exact hc.1 y hy, hc.2⟩, fun a ha b hb => ?_⟩
    rcases List.mem_cons.1 hb with rfl | hb
    · rw [hsq]; exact hp.2.2 a ha x (by simp)
    · exact hp.2.2 a ha b (by simp [hb])
  · have hk : k < (grwF s x.i ((1 + r + d : Nat) : Int)).length := hk
    by_cases hkx : k ∈ x.fr ++ (freeL s.fs).take (exN s x.i ((1 + r + d : Nat) : Int))
    · exact ⟨aloX s x r d, by simp, hkx⟩
    · rw [List.mem_append, not_or] at hkx
      have h3 := gk.other k (by omega) hk hkx.1 hkx.2
      have ho : ¬ (grwF s x.i ((1 + r + d : Nat) : Int))[k].ow = -1 := ho
      rw [h3] at ho
      obtain ⟨y, hy, hky⟩ := h.all k (by omega) ho
      rcases List.mem_append.1 hy with h1 | h1
      · exact ⟨y, by simp [h1], hky⟩
      · rcases List.mem_cons.1 h1 with rfl | h2
        · exact absurd hky hkx.1
        · exact ⟨y, by simp [h2], hky⟩
end Go.Proofs.Ytbidedbpmhcoaaa
/- The maker of spaces, as a plain function. No program. -/
namespace Go.Proofs.Ytbidedbpmhcoaaa
open Go.RowKit
set_option linter.unusedVariables false
set_option linter.unusedSimpArgs false

def DeckOk (d : BeltwaymakeDeck) : Prop := (∀ x ∈ d.l, I64 x) ∧ 0 ≤ d.pos ∧ d.l.length ≤ 9223372036854775807
theorem next_spec {d : BeltwaymakeDeck} (h : DeckOk d) {n : Int} (hn : 1 ≤ n ∧ n ≤ 9223372036854775807) : ∃ v d', F_make_Deck_Next d n = some (v, d') ∧ 0 ≤ v ∧ v < n ∧ DeckOk d' := by
  obtain ⟨h1, h2, h3⟩ := h
  unfold F_make_Deck_Next
  by_cases hp : (d.l.length : Int) ≤ d.pos
  · rw [if_pos hp]
    exact ⟨0, d, rfl, by omega, by omega, h1, h2, h3⟩
  · rw [if_neg hp]
    have e1 : w64 (d.pos + 1) = d.pos + 1 := w64_in (by omega)
    have e2 : w64 (d.pos + 1 - 1) = d.pos := by rw [w64_in (by omega)]; omega
    obtain ⟨v, hv, hm⟩ := at_ex (l := d.l) h2 (by omega)
    rw [e1, e2, hv]
    simp only [Option.bind_some]
    unfold F_make_Mod
    rw [if_pos ⟨h1 v hm, hn⟩]
    refine ⟨v % n, _, rfl, Int.emod_nonneg _ (by omega), Int.emod_lt_of_pos _ (by omega), h1, ?_, h3⟩
    show 0 ≤ d.pos + 1
    omega
theorem new_spec {k n : Int} (hk : ShOk k) (hn : 2 ≤ n ∧ n ≤ 64) : F_ref03_New k n = some (newS k n.toNat, 0) := by
  have hk0 := hk
  unfold ShOk at hk
  have hs : F_ref03_shift k = some true := by
    unfold F_ref03_shift
    simp [hk.1, hk.2]
  unfold F_ref03_New
  refine bind_ok hs ?_
  obtain ⟨e, he⟩ : ∃ e : Nat, k = e := ⟨k.toNat, by omega⟩
  obtain ⟨m, hm⟩ : ∃ m : Nat, n = m := ⟨n.toNat, by omega⟩
  subst he
  subst hm
  have hp : (2 : Nat) ^ e ≤ 2 ^ 8 := Nat.pow_le_pow_right (by decide) (by omega)
  have hp0 : 0 < (2 : Nat) ^ e := Nat.pow_pos (by decide)
  have hmul : m * 2 ^ e ≤ 64 * 256 := Nat.mul_le_mul (by omega) hp
  have hi : (m : Int) * 2 ^ e = ((m * 2 ^ e : Nat) : Int) := by push_cast; rfl
  have hsh : shlN .i64 (m : Int) (e : Int) = ((m * 2 ^ e : Nat) : Int) := by rw [shl_pow (by omega) (by rw [hi]; omega), hi]
  have hw : wu (e : Int) = (e : Int) := wu_in (by omega)
  rw [if_pos rfl, if_neg (by omega), if_neg (by omega), hw, if_pos (by omega), hsh, if_pos (by omega), if_pos (by omega)]
  have lp : loopO (fun (s12 : List Fe × Int) =>
      if s12.2 < ((List.replicate (Int.toNat (m : Int)) (Fe.mk 0 0 0)).length : Int) then
        ((at_ s12.1 s12.2).bind fun v17 => some (.go ((s12.1.set (Int.toNat s12.2) (Fe.mk (-1) (-1) (-1)), w64 (s12.2 + 1)))))
      else some (.out (((e : Int), List.replicate (Int.toNat ((m * 2 ^ e : Nat) : Int)) (0 : Int), s12.1)))) (List.replicate (Int.toNat (m : Int)) (Fe.mk 0 0 0), 0) = some ((e : Int), List.replicate (m * 2 ^ e) (0 : Int), List.replicate m feF) := by
    have h0 : List.replicate (Int.toNat (m : Int)) (Fe.mk 0 0 0) = List.replicate 0 feF ++ List.replicate (m - 0) (Fe.mk 0 0 0) := by simp
    rw [h0]
    refine loop_end (σ := List Fe × Int) (fun j => (List.replicate j feF ++ List.replicate (m - j) (Fe.mk 0 0 0), (j : Int))) m (fun j hj => ?_) ?_
    · dsimp only
      have hl : (List.replicate j feF ++ List.replicate (m - j) (Fe.mk 0 0 0)).length = m := by simp; omega
      rw [if_pos (by simp; omega), at_nat (by rw [hl]; exact hj)]
      simp only [Option.bind_some]
      rw [w64_in (by omega), Int.toNat_natCast]
      have hx : (List.replicate j feF ++ List.replicate (m - j) (Fe.mk 0 0 0)).set j (Fe.mk (-1) (-1) (-1)) = List.replicate (j + 1) feF ++ List.replicate (m - (j + 1)) (Fe.mk 0 0 0) := by
        rw [List.set_append_right _ _ (by simp), List.length_replicate, Nat.sub_self]
        obtain ⟨q, hq⟩ : ∃ q, m - j = q + 1 := ⟨m - j - 1, by omega⟩
        rw [hq, List.replicate_succ, List.set_cons_zero, show m - (j + 1) = q by omega, List.replicate_succ']
        simp
      rw [hx]
      rfl
    · dsimp only
      rw [if_neg (by simp), Nat.sub_self, Int.toNat_natCast]
      simp
  refine bind_ok lp ?_
  unfold newS
  simp
theorem new_inv {k : Int} {n : Nat} (hk : ShOk k) (hn : 2 ≤ n ∧ n ≤ 64) : SpInv (newS k n) [] := by
  have hg : ∀ i (h : i < (newS k n).fs.length), (newS k n).fs[i] = feF := fun i h => by simp [newS]
  refine ⟨⟨⟨hk, by simp [newS]; exact hn.1, by simp [newS]; exact hn.2, by simp [newS, szS]⟩, fun i hi => .inl ?_, fun i j hi hj hij _ e => by rw [hg], fun i hi => ?_⟩, ⟨fun x hx => ?_, fun f hf => ?_⟩, fun x hx => (by cases hx), List.Pairwise.nil, fun i hi ho => absurd (by rw [hg]) ho⟩
  · rw [hg]
    exact ⟨rfl, rfl, rfl, fun a ha _ _ => by simp [newS]⟩
  · rw [itF_step hi, hg]
    exact itF_neg _ rfl
  · have := List.eq_of_mem_replicate (show x ∈ List.replicate _ (0 : Int) from hx)
    subst this
    unfold U64
    omega
  · have := List.eq_of_mem_replicate (show f ∈ List.replicate _ feF from hf)
    subst this
    unfold I64
    exact ⟨by show _ ≤ (-1 : Int) ∧ (-1 : Int) ≤ _; omega, by show _ ≤ (-1 : Int) ∧ (-1 : Int) ≤ _; omega, by show _ ≤ (-1 : Int) ∧ (-1 : Int) ≤ _; omega⟩
theorem at4 {v : Int} (h : 0 ≤ v ∧ v < 4) : ∃ n : Int, at_ [3, 3, 9, 33] v = some n ∧ 1 ≤ n ∧ n ≤ 33 := by
  obtain ⟨n, hn, hm⟩ := at_ex (l := [(3 : Int), 3, 9, 33]) h.1 (by simp; omega)
  refine ⟨n, hn, ?_⟩
  simp only [List.mem_cons, List.not_mem_nil, or_false] at hm
  omega
theorem grown_spec {s : Sp} {A : List Itm} {x : Itm} (h : SpInv s (A ++ [x])) {d : BeltwaymakeDeck} (hd : DeckOk d) :
    ∃ t y d', F_make_grown d s x.i = some (t, y.i, d') ∧ SpInv t (A ++ [y]) ∧ DeckOk d' ∧ y.i.seq = x.i.seq ∧ y.i.belt = x.i.belt := by
  obtain ⟨r, d1, e1, r1, r2, hd1⟩ := next_spec hd (n := 4) (by omega)
  obtain ⟨q, d2, e2, q1, q2, hd2⟩ := next_spec hd1 (n := 4) (by omega)
  obtain ⟨m, e3, m1, m2⟩ := at4 ⟨q1, q2⟩
  obtain ⟨g, d3, e4, g1, g2, hd3⟩ := next_spec hd2 (n := m) (by omega)
  obtain ⟨r, rfl⟩ : ∃ r' : Nat, r = r' := ⟨r.toNat, by omega⟩
  obtain ⟨g, rfl⟩ : ∃ g' : Nat, g = g' := ⟨g.toNat, by omega⟩
  have hx := h.each x (by simp)
  unfold F_make_grown
  rw [e1, Option.bind_some, e2, Option.bind_some, e3, Option.bind_some, e4, Option.bind_some]
  dsimp only
  have ew : w64 (w64 (1 + (r : Int)) + (g : Int)) = ((1 + r + g : Nat) : Int) := by rw [w64_in (n := 1 + (r : Int)) (by omega), w64_in (by omega)]; push_cast; rfl
  rw [ew, alloc_spec h.ok h.w hx.inc (by omega), Option.bind_some]
  by_cases hf : exN s x.i ((1 + r + g : Nat) : Int) ≤ (freeL s.fs).length
  · rw [if_pos hf, if_pos rfl]
    obtain ⟨c1, c2, c3, c4, c5⟩ := h.ok.shp.z
    have hn : 1 ≤ ((1 + r + g : Nat) : Int) ∧ ((1 + r + g : Nat) : Int) ≤ 48 := by omega
    have gk := grw_ok h.ok hx.inc hn hf
    have hI := alo_inv h (r := r) (d := g) (by omega) (by omega) hf
    have hini : F_ref08_Init ⟨s.sh, s.ws, grwF s x.i ((1 + r + g : Nat) : Int)⟩ ((adr (szS s) (x.fr ++ (freeL s.fs).take (exN s x.i ((1 + r + g : Nat) : Int))) x.i.words.toNat : Nat) : Int) r g = some (aloS s x r g, 0) := by
      have hWg : SpW ⟨s.sh, s.ws, grwF s x.i ((1 + r + g : Nat) : Int)⟩ := ⟨h.w.1, hI.w.2⟩
      obtain ⟨w1, w2, w3⟩ := grow_words h.ok.shp hx.inc hn
      have hwd := hx.inc.wd
      have hlen : (x.fr ++ (freeL s.fs).take (exN s x.i ((1 + r + g : Nat) : Int))).length = x.fr.length + exN s x.i ((1 + r + g : Nat) : Int) := by
        rw [List.length_append, List.length_take, Nat.min_eq_left hf]
      exact (ini_spec gk.sp hWg gk.inc.ch gk.inc.nd gk.inc.own (p := x.i.words.toNat) (by show _ < _ * szS s; rw [hlen]; omega) (show r ≤ 15 by omega) (show g ≤ 32 by omega)).1
    rw [hini, Option.bind_some]
    exact ⟨_, aloX s x r g, d3, rfl, hI, hd3, gk.same.2.1, gk.same.2.2⟩
  · rw [if_neg hf, if_neg (by show ¬ (4 : Int) = 0; omega)]
    exact ⟨s, x, d3, rfl, h, hd3, rfl, rfl⟩
end Go.Proofs.Ytbidedbpmhcoaaa
/- The maker of spaces: what it returns. No program. -/
namespace Go.Proofs.Ytbidedbpmhcoaaa
open Go.RowKit
set_option linter.unusedVariables false
set_option linter.unusedSimpArgs false

/-- an increment without frames, beside the others -/
theorem SpInv.add {s : Sp} {L : List Itm} (h : SpInv s L) {q b : Int} (hq : 0 ≤ q ∧ q ≤ 4294967295) (hb : 0 ≤ b ∧ b < 4) (hn : ∀ x ∈ L, x.i.seq ≠ q) : SpInv s (L ++ [⟨⟨q, b, -1, -1, 0⟩, [], []⟩]) := by
  obtain ⟨g1, g2, g3, g4, g5⟩ := h.ok.shp.z
  refine ⟨h.ok, h.w, fun x hx => ?_, ?_, fun k hk ho => ?_⟩
  · rcases List.mem_append.1 hx with hx | hx
    · exact h.each x hx
    · rw [List.mem_singleton] at hx
      subst hx
      refine ⟨⟨⟨hq, hb, trivial, List.Pairwise.nil, fun k hk => ⟨fun e => ?_, fun e => by cases e⟩, (fun k hk e => by cases e), rfl, rfl⟩, ⟨by show (0 : Int) ≤ 0; omega, by show (0 : Int) ≤ _; omega⟩, ?_⟩, rfl⟩
      · have e : s.fs[k].ow = q := e
        obtain ⟨y, hy, hyk⟩ := h.all k hk (by rw [e]; omega)
        have := ((h.each y hy).inc.ow k hk).2 hyk
        exact absurd (this.symm.trans e) (hn y hy)
      · show ((0 : Nat) : Int) = clN s ((0 : Nat) : Int)
        rw [clN_nat h.ok.shp.sh (by omega), Nat.zero_add, Nat.div_eq_of_lt (by omega)]
  · refine List.pairwise_append.2 ⟨h.seqs, by simp, fun a ha b hb => ?_⟩
    rw [List.mem_singleton] at hb
    subst hb
    exact hn a ha
  · obtain ⟨y, hy, hyk⟩ := h.all k hk ho
    exact ⟨y, by simp [hy], hyk⟩
/-- an increment without words is left out -/
theorem SpInv.drop {s : Sp} {L : List Itm} {x : Itm} (h : SpInv s (L ++ [x])) (h0 : x.i.words = 0) : SpInv s L := by
  have hfr := (h.each x (by simp)).inc.nil h.ok.shp h0
  refine ⟨h.ok, h.w, fun y hy => h.each y (by simp [hy]), (List.pairwise_append.1 h.seqs).1, fun k hk ho => ?_⟩
  obtain ⟨y, hy, hyk⟩ := h.all k hk ho
  rcases List.mem_append.1 hy with h1 | h1
  · exact ⟨y, h1, hyk⟩
  · rw [List.mem_singleton] at h1
    subst h1
    rw [hfr] at hyk
    cases hyk
theorem space_spec {d : BeltwaymakeDeck} (hd : DeckOk d) : ∃ s L d', F_make_Space d = some (s, L.map Itm.i, d') ∧ SpInv s L ∧ (∀ x ∈ L, 0 < x.i.words ∧ x.i.seq ≤ 14 ∧ x.i.belt ≤ 2) ∧ L.length ≤ 4 ∧ DeckOk d' := by
  obtain ⟨v1, d1, e1, a1, b1, hd1⟩ := next_spec hd (n := 2) (by omega)
  obtain ⟨v2, d2, e2, a2, b2, hd2⟩ := next_spec hd1 (n := 9) (by omega)
  obtain ⟨v3, d3, e3, a3, b3, hd3⟩ := next_spec hd2 (n := 5) (by omega)
  have hk : ShOk (3 + v1) := by unfold ShOk; omega
  have hnew := new_inv (k := 3 + v1) (n := (2 + v2).toNat) hk (by omega)
  unfold F_make_Space
  rw [e1, Option.bind_some, e2, Option.bind_some]
  dsimp only
  rw [w64_in (n := 3 + v1) (by omega), w64_in (n := 2 + v2) (by omega), new_spec hk (by omega), Option.bind_some, e3, Option.bind_some]
  dsimp only
  obtain ⟨z, hz, L, q1, q2, q3, q4, q5⟩ := loop_ok (σ := BeltwaymakeDeck × Sp × List Inc × Int)
    (f := fun (s8 : BeltwaymakeDeck × Sp × List Inc × Int) =>
      if 0 < s8.2.2.2 then
        (((F_make_Deck_Next s8.1 3).bind fun v14 => (F_make_Deck_Next v14.2 3).bind fun v15 =>
          ((F_make_Deck_Next v15.2 5).bind fun v18 =>
            loopO (fun (s20 : BeltwaymakeDeck × Sp × Inc × Int) =>
              if 0 < s20.2.2.2 then
                ((F_make_grown s20.1 s20.2.1 s20.2.2.1).bind fun v25 => some (.go ((v25.2.2, v25.1, v25.2.1, w64 (s20.2.2.2 - 1)))))
              else some (.out ((s20.1, s20.2.1, s20.2.2.1)))) (v18.2, s8.2.1, Inc.mk (w64 ((w64 (3 * (s8.2.2.1.length : Int))) + v14.1)) v15.1 (-1) (-1) 0, w64 (1 + v18.1))).bind fun (b16 : BeltwaymakeDeck × Sp × Inc) =>
            if 0 < b16.2.2.words then
              (if ((s8.2.2.1.length : Int) + [b16.2.2].length) * 40 ≤ 140737488355328 ∧ (s8.2.2.1.length : Int) + [b16.2.2].length ≤ 9223372036854775807 then some ((b16.1, b16.2.1, s8.2.2.1 ++ [b16.2.2])) else none)
            else some ((b16.1, b16.2.1, s8.2.2.1))).bind fun (b12 : BeltwaymakeDeck × Sp × List Inc) =>
          some (.go ((b12.1, b12.2.1, b12.2.2, w64 (s8.2.2.2 - 1)))))
      else some (.out ((s8.1, s8.2.1, s8.2.2.1)))) (s := (d3, newS (3 + v1) (2 + v2).toNat, ([] : List Inc), v3))
    (fun st => DeckOk st.1 ∧ 0 ≤ st.2.2.2 ∧ ∃ L : List Itm, st.2.2.1 = L.map Itm.i ∧ SpInv st.2.1 L ∧ (∀ x ∈ L, 0 < x.i.words ∧ x.i.seq < 3 * (L.length : Int) ∧ x.i.belt ≤ 2) ∧ (L.length : Int) + st.2.2.2 ≤ 4)
    (fun b => ∃ L : List Itm, b.2.2 = L.map Itm.i ∧ SpInv b.2.1 L ∧ (∀ x ∈ L, 0 < x.i.words ∧ x.i.seq ≤ 14 ∧ x.i.belt ≤ 2) ∧ L.length ≤ 4 ∧ DeckOk b.1) (fun st => st.2.2.2.toNat)
    ⟨hd3, a3, [], rfl, hnew, (fun x hx => by cases hx), by show ((0 : Nat) : Int) + v3 ≤ 4; omega⟩
    (fun st ⟨i1, i2, L, i3, i4, i5, i6⟩ => by
      by_cases h0 : 0 < st.2.2.2
      · refine .inl ?_
        rw [if_pos h0]
        obtain ⟨u1, c1, f1, p1, r1, k1⟩ := next_spec i1 (n := 3) (by omega)
        obtain ⟨u2, c2, f2, p2, r2, k2⟩ := next_spec k1 (n := 3) (by omega)
        obtain ⟨u3, c3, f3, p3, r3, k3⟩ := next_spec k2 (n := 5) (by omega)
        have hlen : (st.2.2.1.length : Int) = L.length := by rw [i3, List.length_map]
        have hL4 : (L.length : Int) ≤ 4 := by omega
        have hsq : w64 (w64 (3 * (st.2.2.1.length : Int)) + u1) = 3 * (L.length : Int) + u1 := by rw [hlen, w64_in (n := 3 * (L.length : Int)) (by omega), w64_in (by omega)]
        have hadd := i4.add (q := 3 * (L.length : Int) + u1) (b := u2) (by omega) (by omega) fun x hx e => by have := (i5 x hx).2.1; omega
        obtain ⟨b16, hb, y, y1, y2, y3, y4, y5⟩ := loop_ok (σ := BeltwaymakeDeck × Sp × Inc × Int)
          (f := fun (s20 : BeltwaymakeDeck × Sp × Inc × Int) =>
              if 0 < s20.2.2.2 then
                ((F_make_grown s20.1 s20.2.1 s20.2.2.1).bind fun v25 => some (.go ((v25.2.2, v25.1, v25.2.1, w64 (s20.2.2.2 - 1)))))
              else some (.out ((s20.1, s20.2.1, s20.2.2.1)))) (s := (c3, st.2.1, Inc.mk (3 * (L.length : Int) + u1) u2 (-1) (-1) 0, 1 + u3))
          (fun t => DeckOk t.1 ∧ 0 ≤ t.2.2.2 ∧ t.2.2.2 ≤ 5 ∧ ∃ y : Itm, t.2.2.1 = y.i ∧ SpInv t.2.1 (L ++ [y]) ∧ y.i.seq = 3 * (L.length : Int) + u1 ∧ y.i.belt = u2)
          (fun b => ∃ y : Itm, b.2.2 = y.i ∧ SpInv b.2.1 (L ++ [y]) ∧ y.i.seq = 3 * (L.length : Int) + u1 ∧ y.i.belt = u2 ∧ DeckOk b.1) (fun t => t.2.2.2.toNat)
          ⟨k3, by show 0 ≤ 1 + u3; omega, by show 1 + u3 ≤ 5; omega, _, rfl, hadd, rfl, rfl⟩
          (fun t ⟨j1, j2, j2', y, j3, j4, j5, j6⟩ => by
            by_cases h1 : 0 < t.2.2.2
            · refine .inl ?_
              obtain ⟨t', y', d', m1, m2, m3, m4, m5⟩ := grown_spec j4 j1
              rw [if_pos h1, j3, m1, Option.bind_some]
              have hw : w64 (t.2.2.2 - 1) = t.2.2.2 - 1 := w64_in (by omega)
              rw [hw]
              exact ⟨_, rfl, ⟨m3, by show 0 ≤ t.2.2.2 - 1; omega, by show t.2.2.2 - 1 ≤ 5; omega, y', rfl, m2, m4.trans j5, m5.trans j6⟩, by show (t.2.2.2 - 1).toNat < t.2.2.2.toNat; omega⟩
            · refine .inr ?_
              rw [if_neg h1]
              exact ⟨_, rfl, y, j3, j4, j5, j6, j1⟩)
        rw [f1, Option.bind_some, f2, Option.bind_some, f3, Option.bind_some]
        dsimp only
        rw [hsq, w64_in (n := 1 + u3) (by omega), hb, Option.bind_some]
        have hwd := (y2.each y (by simp)).inc.wd
        rw [y1]
        by_cases hw : 0 < y.i.words
        · rw [if_pos hw, if_pos (by simp only [List.length_cons, List.length_nil]; rw [hlen]; omega), Option.bind_some, w64_in (n := st.2.2.2 - 1) (by omega)]
          refine ⟨_, rfl, ⟨y5, by show 0 ≤ st.2.2.2 - 1; omega, L ++ [y], by show st.2.2.1 ++ [y.i] = _; rw [i3, List.map_append]; rfl, y2, fun x hx => ?_, ?_⟩, by show (st.2.2.2 - 1).toNat < st.2.2.2.toNat; omega⟩
          · rw [List.length_append, List.length_singleton]
            rcases List.mem_append.1 hx with hx | hx
            · obtain ⟨z1, z2, z3⟩ := i5 x hx
              exact ⟨z1, by omega, z3⟩
            · rw [List.mem_singleton] at hx
              subst hx
              exact ⟨hw, by rw [y3]; omega, by rw [y4]; omega⟩
          · show ((L ++ [y]).length : Int) + (st.2.2.2 - 1) ≤ 4
            rw [List.length_append, List.length_singleton]
            omega
        · rw [if_neg hw, Option.bind_some, w64_in (n := st.2.2.2 - 1) (by omega)]
          exact ⟨_, rfl, ⟨y5, by show 0 ≤ st.2.2.2 - 1; omega, L, i3, y2.drop (by omega), i5, by show (L.length : Int) + (st.2.2.2 - 1) ≤ 4; omega⟩, by show (st.2.2.2 - 1).toNat < st.2.2.2.toNat; omega⟩
      · refine .inr ?_
        rw [if_neg h0]
        exact ⟨_, rfl, L, i3, i4, fun x hx => by obtain ⟨z1, z2, z3⟩ := i5 x hx; exact ⟨z1, by omega, z3⟩, by omega, i1⟩)
  rw [hz, Option.bind_some]
  exact ⟨z.2.1, L, z.1, by rw [q1], q2, q3, q4, q5⟩
end Go.Proofs.Ytbidedbpmhcoaaa
/- Trial. -/
namespace Go.Proofs.Ytbidedbpmhcoaaa
open Go.RowKit
set_option linter.unusedSimpArgs false
set_option linter.unusedVariables false
set_option maxRecDepth 20000 in
set_option maxHeartbeats 4000000 in
theorem F_law08_ObjectFields_ok {p0 : Sp} {p1 : List Int} {p2 : Int} {p3 : Int} {p4 : Int} {p5 : Int} {p6 : Int} {p7 : Int} {r : Bool} (H : F_law08_ObjectFields p0 p1 p2 p3 p4 p5 p6 p7 = some r) : DCall Try.prog 5 [.agg [DI p0.sh, .sl (p0.ws.map uC), .sl (p0.fs.map frC)], .sl (p1.map iC), DI p2, DI p3, DU p4, DI p5, DI p6, DI p7] [] (DB r) [] := by
 unfold F_law08_ObjectFields at H
 refine DCall.mk Try.func5 rfl rfl ?_
 refine d_rs rfl ?_
 refine go (m_box ty_25) ?_
 refine go (m_set) ?_
 refine .nil ⟨by kernel_rfl, ?_⟩
 refine d_seq fun K k1 => ?_
 replace H := bnd H
 obtain ⟨v2, hv2, H⟩ := H
 refine d_rs rfl ?_
 refine go (m_load ty_25) ?_
 refine go (m_cS [] (F_make_Small_ok hv2) rfl ScS.nil) ?_
 refine go (m_not) ?_
 refine .nil ⟨by kernel_rfl, ?_⟩
 by_cases h3 : v2 = true
 ·
  replace H := iT h3 H
  refine d_condN rfl (congrArg not h3) ?_
  refine d_skip ?_
  refine k1 _ ?_
  replace H := bnd H
  obtain ⟨v4, hv4, H⟩ := H
  replace H := bnd H
  obtain ⟨v5, hv5, H⟩ := H
  refine d_rs rfl ?_
  refine go (m_move) ?_
  refine go (m_cG [] (F_make_New_ok hv4)) ?_
  refine go (m_cG [(0, 1)] (F_make_Space_ok hv5)) ?_
  refine go (m_move) ?_
  refine go (m_ext) ?_
  refine go (m_ext) ?_
  refine go (m_alloc ty_25) ?_
  refine go (m_store ty_25) ?_
  refine go (m_set) ?_
  refine .nil ⟨by kernel_rfl, ?_⟩
  refine d_cutR (fun (b6 : Unit) => ⟨[], [], 0⟩) H (fun z7 H hr7 => ?_) (fun b6 H => ?_)
  ·
   replace H := bnd H
   obtain ⟨v8, hv8, H⟩ := H
   refine d_as mixedP rfl (by kernel_rfl) ?_
   refine go (m_load ty_25) ?_
   refine go (m_load ty_25) ?_
   refine go (m_load ty_25) ?_
   refine go (m_move) ?_
   refine go (m_move) ?_
   refine go (m_move) ?_
   refine go (m_cG [] (F_make_Spoilt_okp hv8)) ?_
   refine go (m_litE (c := spC) ([v5.1, p0, v8] : List Sp) ty_35 ty_25) ?_
   refine go (m_lenE ty_35) ?_
   refine go (m_move) ?_
   refine .nil ⟨⟨by kernel_rfl, by kernel_rfl⟩, ?_⟩
   refine d_block ?_
   refine d_loopF (fun (s10 : List Sp × Int) => ⟨[(2, DI p2), (3, DI p3), (4, DU p4), (17, .ptr 0 0 0), (18, .own 1 0 v5.2.1.length), (48, .own 2 0 s10.1.length), (49, DI ([v5.1, p0, v8].length : Int)), (50, DI s10.2)], [(0, ⟨3, false, false, [[DI v5.1.sh, .sl (v5.1.ws.map uC), .sl (v5.1.fs.map frC)]]⟩), (1, ⟨5, true, false, v5.2.1.map Inc.c⟩), (2, ⟨3, true, false, s10.1.map spC⟩)], 3⟩) H (wkE [(0, 3), (1, 2), (2, 4)]) (fun s10 y11 H hq11 => ?_)
   refine d_rs rfl ?_
   refine go (m_lss) ?_
   refine .nil ⟨by kernel_rfl, ?_⟩
   refine d_seq fun K k12 => ?_
   by_cases h13 : s10.2 < ([v5.1, p0, v8].length : Int)
   ·
    replace H := iT h13 H
    refine d_condE rfl (decide_eq_true h13) ?_
    refine d_skip ?_
    refine k12 _ ?_
    refine d_cutR (fun (b14 : List Sp) => ⟨[(2, DI p2), (3, DI p3), (4, DU p4), (17, .ptr 0 0 0), (18, .own 1 0 v5.2.1.length), (48, .own 2 0 b14.length), (49, DI ([v5.1, p0, v8].length : Int)), (50, DI s10.2)], [(0, ⟨3, false, false, [[DI v5.1.sh, .sl (v5.1.ws.map uC), .sl (v5.1.fs.map frC)]]⟩), (1, ⟨5, true, false, v5.2.1.map Inc.c⟩), (2, ⟨3, true, false, b14.map spC⟩)], 3⟩) H (fun z15 H hr15 => ?_) (fun b14 H => ?_)
    ·
     refine d_block ?_
     replace H := bnd H
     obtain ⟨v16, hv16, H⟩ := H
     refine d_rs rfl ?_
     refine go (m_iaO hv16 ty_35 ty_25 rfl rfl rfl) ?_
     refine go (m_ldO hv16 ty_25) ?_
     refine go (m_alloc ty_25) ?_
     refine go (m_store ty_25) ?_
     refine .nil ⟨by kernel_rfl, ?_⟩
     replace H := bnd H
     obtain ⟨v17, hv17, H⟩ := H
     replace H := bnd H
     obtain ⟨v18, hv18, H⟩ := H
     replace H := bnd H
     obtain ⟨v19, hv19, H⟩ := H
     refine d_as mixedP rfl (by kernel_rfl) ?_
     refine go (m_move) ?_
     refine go (m_move) ?_
     refine go (m_litE (c := iC) ([p2, p3] : List Int) ty_26 ty_3) ?_
     refine go (m_load ty_25) ?_
     refine go (m_move) ?_
     refine go (m_move) ?_
     refine go (m_cS [] (F_law08_near_ok hv17) rfl ScS.nil) ?_
     refine go (m_move) ?_
     refine go (m_cS [] (F_make_Mod_ok hv18) rfl ScS.nil) ?_
     refine go (m_sub) ?_
     refine go (m_litE (c := iC) ([v17, w64 (v18 - 1)] : List Int) ty_26 ty_3) ?_
     refine go (m_load ty_25) ?_
     refine go (m_move) ?_
     refine go (m_move) ?_
     refine go (m_cS [] (F_law08_near_ok hv19) rfl ScS.nil) ?_
     refine go (m_move) ?_
     refine go (m_litE (c := iC) ([v19, p3] : List Int) ty_26 ty_3) ?_
     refine go (m_litE (c := (lC iC)) ([[p2, p3], [v17, w64 (v18 - 1)], [v19, p3]] : List (List Int)) ty_38 ty_26) ?_
     refine go (m_lenE ty_38) ?_
     refine go (m_move) ?_
     refine .nil ⟨⟨by kernel_rfl, by kernel_rfl⟩, ?_⟩
     refine d_block ?_
     refine d_loopF (fun (s21 : Int) => ⟨[(2, DI p2), (3, DI p3), (4, DU p4), (17, .ptr 0 0 0), (18, .own 1 0 v5.2.1.length), (20, .ptr 2 0 0), (48, .own 3 0 s10.1.length), (49, DI ([v5.1, p0, v8].length : Int)), (50, DI s10.2), (71, .own 4 0 [[p2, p3], [v17, w64 (v18 - 1)], [v19, p3]].length), (72, DI ([[p2, p3], [v17, w64 (v18 - 1)], [v19, p3]].length : Int)), (73, DI s21)], [(0, ⟨3, false, false, [[DI v5.1.sh, .sl (v5.1.ws.map uC), .sl (v5.1.fs.map frC)]]⟩), (1, ⟨5, true, false, v5.2.1.map Inc.c⟩), (2, ⟨3, false, false, [[DI v16.sh, .sl (v16.ws.map uC), .sl (v16.fs.map frC)]]⟩), (3, ⟨3, true, false, s10.1.map spC⟩), (4, ⟨1, true, false, [[p2, p3], [v17, w64 (v18 - 1)], [v19, p3]].map (lC iC)⟩)], 5⟩) H (wkE [(0, 0), (1, 1), (2, 3), (3, 2), (4, 7)]) (fun s21 y22 H hq22 => ?_)
     refine d_rs rfl ?_
     refine go (m_lss) ?_
     refine .nil ⟨by kernel_rfl, ?_⟩
     refine d_seq fun K k23 => ?_
     by_cases h24 : s21 < ([[p2, p3], [v17, w64 (v18 - 1)], [v19, p3]].length : Int)
     ·
      replace H := iT h24 H
      refine d_condE rfl (decide_eq_true h24) ?_
      refine d_skip ?_
      refine k23 _ ?_
      refine d_seq fun K k25 => ?_
      refine d_block ?_
      replace H := bnd H
      obtain ⟨v26, hv26, H⟩ := H
      refine d_rs rfl ?_
      refine go (m_iaO hv26 ty_38 ty_26 rfl rfl rfl) ?_
      refine go (m_ldO hv26 ty_26) ?_
      refine go (m_set) ?_
      refine .nil ⟨by kernel_rfl, ?_⟩
      replace H := bnd H
      obtain ⟨v27, hv27, H⟩ := H
      replace H := bnd H
      obtain ⟨v28, hv28, H⟩ := H
      replace H := bnd H
      obtain ⟨v29, hv29, H⟩ := H
      refine d_as mixedP rfl (by kernel_rfl) ?_
      refine go (m_load ty_25) ?_
      refine go (m_move) ?_
      refine go (m_iaS hv27 ty_26 ty_3) ?_
      refine go (m_load ty_3) ?_
      refine go (m_move) ?_
      refine go (m_iaS hv28 ty_26 ty_3) ?_
      refine go (m_load ty_3) ?_
      refine go (m_cS [] (F_object_Ref_ok hv29) rfl ScS.nil) ?_
      refine go (m_move) ?_
      refine go (m_ext) ?_
      refine go (m_ext) ?_
      refine go (m_set) ?_
      refine go (m_set) ?_
      refine .nil ⟨⟨by kernel_rfl, by kernel_rfl⟩, ?_⟩
      replace H := bnd H
      obtain ⟨v30, hv30, H⟩ := H
      replace H := bnd H
      obtain ⟨v31, hv31, H⟩ := H
      replace H := bnd H
      obtain ⟨v32, hv32, H⟩ := H
      refine d_as mixedP rfl (by kernel_rfl) ?_
      refine go (m_load ty_25) ?_
      refine go (m_move) ?_
      refine go (m_iaS hv30 ty_26 ty_3) ?_
      refine go (m_load ty_3) ?_
      refine go (m_move) ?_
      refine go (m_iaS hv31 ty_26 ty_3) ?_
      refine go (m_load ty_3) ?_
      refine go (m_cS [] (F_ref08_Ref_ok hv32) rfl ScS.nil) ?_
      refine go (m_move) ?_
      refine go (m_ext) ?_
      refine go (m_ext) ?_
      refine go (m_set) ?_
      refine go (m_set) ?_
      refine .nil ⟨⟨by kernel_rfl, by kernel_rfl⟩, ?_⟩
      replace H := bnd H
      obtain ⟨v33, hv33, H⟩ := H
      replace H := bnd H
      obtain ⟨v34, hv34, H⟩ := H
      replace H := bnd H
      obtain ⟨v35, hv35, H⟩ := H
      refine d_as mixedP rfl (by kernel_rfl) ?_
      refine go (m_load ty_25) ?_
      refine go (m_move) ?_
      refine go (m_iaS hv33 ty_26 ty_3) ?_
      refine go (m_load ty_3) ?_
      refine go (m_move) ?_
      refine go (m_iaS hv34 ty_26 ty_3) ?_
      refine go (m_load ty_3) ?_
      refine go (m_move) ?_
      refine go (m_cG [] (F_object_SetRef_ok hv35)) ?_
      refine go (m_move) ?_
      refine go (m_ext) ?_
      refine go (m_ext) ?_
      refine go (m_alloc ty_25) ?_
      refine go (m_store ty_25) ?_
      refine go (m_set) ?_
      refine .nil ⟨⟨by kernel_rfl, by kernel_rfl⟩, ?_⟩
      replace H := bnd H
      obtain ⟨v36, hv36, H⟩ := H
      replace H := bnd H
      obtain ⟨v37, hv37, H⟩ := H
      replace H := bnd H
      obtain ⟨v38, hv38, H⟩ := H
      refine d_as mixedP rfl (by kernel_rfl) ?_
      refine go (m_load ty_25) ?_
      refine go (m_move) ?_
      refine go (m_iaS hv36 ty_26 ty_3) ?_
      refine go (m_load ty_3) ?_
      refine go (m_move) ?_
      refine go (m_iaS hv37 ty_26 ty_3) ?_
      refine go (m_load ty_3) ?_
      refine go (m_move) ?_
      refine go (m_cG [] (F_ref08_SetRef_ok hv38)) ?_
      refine go (m_move) ?_
      refine go (m_ext) ?_
      refine go (m_ext) ?_
      refine go (m_alloc ty_25) ?_
      refine go (m_store ty_25) ?_
      refine go (m_set) ?_
      refine .nil ⟨⟨by kernel_rfl, by kernel_rfl⟩, ?_⟩
      refine d_seq fun K k39 => ?_
      by_cases h40 : v29.1 = v32.1
      ·
       replace H := iT h40 H
       by_cases h41 : v29.2 = v32.2
       ·
        replace H := iT h41 H
        by_cases h42 : v35.2 = v38.2
        ·
         replace H := iT h42 H
         replace H := bnd H
         obtain ⟨v43, hv43, H⟩ := H
         refine d_rs rfl ?_
         refine go (m_move) ?_
         refine go (m_move) ?_
         refine go (m_neq) ?_
         refine go (m_move) ?_
         refine go (m_move) ?_ (gY (congrArg not (decide_eq_true h40)))
         refine go (m_move) ?_ (gY (congrArg not (decide_eq_true h40)))
         refine go (m_neq) ?_ (gY (congrArg not (decide_eq_true h40)))
         refine go (m_pickE (congrArg not (decide_eq_true h40))) ?_
         refine go (m_move) ?_
         refine go (m_move) ?_ (gY (congrArg not (decide_eq_true h41)))
         refine go (m_move) ?_ (gY (congrArg not (decide_eq_true h41)))
         refine go (m_neq) ?_ (gY (congrArg not (decide_eq_true h41)))
         refine go (m_pickE (congrArg not (decide_eq_true h41))) ?_
         refine go (m_move) ?_
         refine go (m_load ty_25) ?_ (gY (congrArg not (decide_eq_true h42)))
         refine go (m_load ty_25) ?_ (gY (congrArg not (decide_eq_true h42)))
         refine go (m_cS [] (F_ref03_Same_ok hv43) rfl ScS.nil) ?_ (gY (congrArg not (decide_eq_true h42)))
         refine go (m_not) ?_ (gY (congrArg not (decide_eq_true h42)))
         refine go (m_pickE (congrArg not (decide_eq_true h42))) ?_
         refine .nil ⟨by kernel_rfl, ?_⟩
         by_cases h44 : v43 = true
         ·
          replace H := iT h44 H
          refine d_condN rfl (congrArg not h44) ?_
          refine d_skip ?_
          refine k39 _ ?_
          replace H := bnd H
          obtain ⟨v45, hv45, H⟩ := H
          replace H := bnd H
          obtain ⟨v46, hv46, H⟩ := H
          replace H := bnd H
          obtain ⟨v47, hv47, H⟩ := H
          refine d_as mixedP rfl (by kernel_rfl) ?_
          refine go (m_load ty_25) ?_
          refine go (m_move) ?_
          refine go (m_iaS hv45 ty_26 ty_3) ?_
          refine go (m_load ty_3) ?_
          refine go (m_move) ?_
          refine go (m_iaS hv46 ty_26 ty_3) ?_
          refine go (m_load ty_3) ?_
          refine go (m_cS [] (F_object_Data_ok hv47) rfl ScS.nil) ?_
          refine go (m_move) ?_
          refine go (m_ext) ?_
          refine go (m_ext) ?_
          refine go (m_set) ?_
          refine go (m_set) ?_
          refine .nil ⟨⟨by kernel_rfl, by kernel_rfl⟩, ?_⟩
          replace H := bnd H
          obtain ⟨v48, hv48, H⟩ := H
          replace H := bnd H
          obtain ⟨v49, hv49, H⟩ := H
          replace H := bnd H
          obtain ⟨v50, hv50, H⟩ := H
          refine d_as mixedP rfl (by kernel_rfl) ?_
          refine go (m_load ty_25) ?_
          refine go (m_move) ?_
          refine go (m_iaS hv48 ty_26 ty_3) ?_
          refine go (m_load ty_3) ?_
          refine go (m_move) ?_
          refine go (m_iaS hv49 ty_26 ty_3) ?_
          refine go (m_load ty_3) ?_
          refine go (m_cS [] (F_ref08_Data_ok hv50) rfl ScS.nil) ?_
          refine go (m_move) ?_
          refine go (m_ext) ?_
          refine go (m_ext) ?_
          refine go (m_set) ?_
          refine go (m_set) ?_
          refine .nil ⟨⟨by kernel_rfl, by kernel_rfl⟩, ?_⟩
          replace H := bnd H
          obtain ⟨v51, hv51, H⟩ := H
          replace H := bnd H
          obtain ⟨v52, hv52, H⟩ := H
          replace H := bnd H
          obtain ⟨v53, hv53, H⟩ := H
          refine d_as mixedP rfl (by kernel_rfl) ?_
          refine go (m_load ty_25) ?_
          refine go (m_move) ?_
          refine go (m_iaS hv51 ty_26 ty_3) ?_
          refine go (m_load ty_3) ?_
          refine go (m_move) ?_
          refine go (m_iaS hv52 ty_26 ty_3) ?_
          refine go (m_load ty_3) ?_
          refine go (m_move) ?_
          refine go (m_cG [] (F_object_SetData_ok hv53)) ?_
          refine go (m_move) ?_
          refine go (m_ext) ?_
          refine go (m_ext) ?_
          refine go (m_store ty_25) ?_
          refine go (m_set) ?_
          refine .nil ⟨⟨by kernel_rfl, by kernel_rfl⟩, ?_⟩
          replace H := bnd H
          obtain ⟨v54, hv54, H⟩ := H
          replace H := bnd H
          obtain ⟨v55, hv55, H⟩ := H
          replace H := bnd H
          obtain ⟨v56, hv56, H⟩ := H
          refine d_as mixedP rfl (by kernel_rfl) ?_
          refine go (m_load ty_25) ?_
          refine go (m_move) ?_
          refine go (m_iaS hv54 ty_26 ty_3) ?_
          refine go (m_load ty_3) ?_
          refine go (m_move) ?_
          refine go (m_iaS hv55 ty_26 ty_3) ?_
          refine go (m_load ty_3) ?_
          refine go (m_move) ?_
          refine go (m_cG [] (F_ref08_SetData_ok hv56)) ?_
          refine go (m_move) ?_
          refine go (m_ext) ?_
          refine go (m_ext) ?_
          refine go (m_store ty_25) ?_
          refine go (m_set) ?_
          refine .nil ⟨⟨by kernel_rfl, by kernel_rfl⟩, ?_⟩
          by_cases h57 : v47.1 = v50.1
          ·
           replace H := iT h57 H
           by_cases h58 : v47.2 = v50.2
           ·
            replace H := iT h58 H
            by_cases h59 : v53.2 = v56.2
            ·
             replace H := iT h59 H
             replace H := bnd H
             obtain ⟨v60, hv60, H⟩ := H
             refine d_rs rfl ?_
             refine go (m_move) ?_
             refine go (m_move) ?_
             refine go (m_neq) ?_
             refine go (m_move) ?_
             refine go (m_move) ?_ (gY (congrArg not (decide_eq_true h57)))
             refine go (m_move) ?_ (gY (congrArg not (decide_eq_true h57)))
             refine go (m_neq) ?_ (gY (congrArg not (decide_eq_true h57)))
             refine go (m_pickE (congrArg not (decide_eq_true h57))) ?_
             refine go (m_move) ?_
             refine go (m_move) ?_ (gY (congrArg not (decide_eq_true h58)))
             refine go (m_move) ?_ (gY (congrArg not (decide_eq_true h58)))
             refine go (m_neq) ?_ (gY (congrArg not (decide_eq_true h58)))
             refine go (m_pickE (congrArg not (decide_eq_true h58))) ?_
             refine go (m_move) ?_
             refine go (m_load ty_25) ?_ (gY (congrArg not (decide_eq_true h59)))
             refine go (m_load ty_25) ?_ (gY (congrArg not (decide_eq_true h59)))
             refine go (m_cS [] (F_ref03_Same_ok hv60) rfl ScS.nil) ?_ (gY (congrArg not (decide_eq_true h59)))
             refine go (m_not) ?_ (gY (congrArg not (decide_eq_true h59)))
             refine go (m_pickE (congrArg not (decide_eq_true h59))) ?_
             refine .nil ⟨by kernel_rfl, ?_⟩
             by_cases h61 : v60 = true
             ·
              replace H := iT h61 H
              refine d_condN rfl (congrArg not h61) ?_
              refine d_skip ?_
              refine k25 _ ?_
              refine d_region rfl ?_
              refine go (m_add) ?_
              refine go (m_move) ?_
              refine .nil ⟨by kernel_rfl, ?_⟩
              have e := som H; subst e
              exact ⟨_, rfl, wkE [(0, 0), (1, 1), (2, 2), (3, 3), (4, 4)]⟩
             replace H := iF h61 H
             refine d_condE rfl (congrArg not (eq_false_of_ne_true h61)) ?_
             refine d_rs rfl ?_
             refine go (m_set) ?_
             refine .nil ⟨by kernel_rfl, ?_⟩
             refine d_ret ?_
             change RetD _ _ _ _ _ _ _
             have e := som H; subst e
             have e := hq22 _ rfl; subst e
             have e := hr15 _ rfl; subst e
             have e := hq11 _ rfl; subst e
             have e := hr7 _ rfl; subst e
             exact finE [] (.tmp (.nil))
            replace H := iF h59 H
            refine d_rs rfl ?_
            refine go (m_move) ?_
            refine go (m_move) ?_
            refine go (m_neq) ?_
            refine go (m_move) ?_
            refine go (m_move) ?_ (gY (congrArg not (decide_eq_true h57)))
            refine go (m_move) ?_ (gY (congrArg not (decide_eq_true h57)))
            refine go (m_neq) ?_ (gY (congrArg not (decide_eq_true h57)))
            refine go (m_pickE (congrArg not (decide_eq_true h57))) ?_
            refine go (m_move) ?_
            refine go (m_move) ?_ (gY (congrArg not (decide_eq_true h58)))
            refine go (m_move) ?_ (gY (congrArg not (decide_eq_true h58)))
            refine go (m_neq) ?_ (gY (congrArg not (decide_eq_true h58)))
            refine go (m_pickE (congrArg not (decide_eq_true h58))) ?_
            refine go (m_move) ?_
            refine noE (congrArg not (decide_eq_false h59)) ?_
            refine noE (congrArg not (decide_eq_false h59)) ?_
            refine noE (congrArg not (decide_eq_false h59)) ?_
            refine noE (congrArg not (decide_eq_false h59)) ?_
            refine go (m_pickE (congrArg not (decide_eq_false h59))) ?_
            refine .nil ⟨by kernel_rfl, ?_⟩
            refine d_condE rfl rfl ?_
            refine d_rs rfl ?_
            refine go (m_set) ?_
            refine .nil ⟨by kernel_rfl, ?_⟩
            refine d_ret ?_
            change RetD _ _ _ _ _ _ _
            have e := som H; subst e
            have e := hq22 _ rfl; subst e
            have e := hr15 _ rfl; subst e
            have e := hq11 _ rfl; subst e
            have e := hr7 _ rfl; subst e
            exact finE [] (.tmp (.nil))
           replace H := iF h58 H
           refine d_rs rfl ?_
           refine go (m_move) ?_
           refine go (m_move) ?_
           refine go (m_neq) ?_
           refine go (m_move) ?_
           refine go (m_move) ?_ (gY (congrArg not (decide_eq_true h57)))
           refine go (m_move) ?_ (gY (congrArg not (decide_eq_true h57)))
           refine go (m_neq) ?_ (gY (congrArg not (decide_eq_true h57)))
           refine go (m_pickE (congrArg not (decide_eq_true h57))) ?_
           refine go (m_move) ?_
           refine noE (congrArg not (decide_eq_false h58)) ?_
           refine noE (congrArg not (decide_eq_false h58)) ?_
           refine noE (congrArg not (decide_eq_false h58)) ?_
           refine go (m_pickE (congrArg not (decide_eq_false h58))) ?_
           refine go (m_move) ?_
           refine noE rfl ?_
           refine noE rfl ?_
           refine noE rfl ?_
           refine noE rfl ?_
           refine go (m_pickE rfl) ?_
           refine .nil ⟨by kernel_rfl, ?_⟩
           refine d_condE rfl rfl ?_
           refine d_rs rfl ?_
           refine go (m_set) ?_
           refine .nil ⟨by kernel_rfl, ?_⟩
           refine d_ret ?_
           change RetD _ _ _ _ _ _ _
           have e := som H; subst e
           have e := hq22 _ rfl; subst e
           have e := hr15 _ rfl; subst e
           have e := hq11 _ rfl; subst e
           have e := hr7 _ rfl; subst e
           exact finE [] (.tmp (.nil))
          replace H := iF h57 H
          refine d_rs rfl ?_
          refine go (m_move) ?_
          refine go (m_move) ?_
          refine go (m_neq) ?_
          refine go (m_move) ?_
          refine noE (congrArg not (decide_eq_false h57)) ?_
          refine noE (congrArg not (decide_eq_false h57)) ?_
          refine noE (congrArg not (decide_eq_false h57)) ?_
          refine go (m_pickE (congrArg not (decide_eq_false h57))) ?_
          refine go (m_move) ?_
          refine noE rfl ?_
          refine noE rfl ?_
          refine noE rfl ?_
          refine go (m_pickE rfl) ?_
          refine go (m_move) ?_
          refine noE rfl ?_
          refine noE rfl ?_
          refine noE rfl ?_
          refine noE rfl ?_
          refine go (m_pickE rfl) ?_
          refine .nil ⟨by kernel_rfl, ?_⟩
          refine d_condE rfl rfl ?_
          refine d_rs rfl ?_
          refine go (m_set) ?_
          refine .nil ⟨by kernel_rfl, ?_⟩
          refine d_ret ?_
          change RetD _ _ _ _ _ _ _
          have e := som H; subst e
          have e := hq22 _ rfl; subst e
          have e := hr15 _ rfl; subst e
          have e := hq11 _ rfl; subst e
          have e := hr7 _ rfl; subst e
          exact finE [] (.tmp (.nil))
         replace H := iF h44 H
         refine d_condE rfl (congrArg not (eq_false_of_ne_true h44)) ?_
         refine d_rs rfl ?_
         refine go (m_set) ?_
         refine .nil ⟨by kernel_rfl, ?_⟩
         refine d_ret ?_
         change RetD _ _ _ _ _ _ _
         have e := som H; subst e
         have e := hq22 _ rfl; subst e
         have e := hr15 _ rfl; subst e
         have e := hq11 _ rfl; subst e
         have e := hr7 _ rfl; subst e
         exact finE [] (.tmp (.nil))
        replace H := iF h42 H
        refine d_rs rfl ?_
        refine go (m_move) ?_
        refine go (m_move) ?_
        refine go (m_neq) ?_
        refine go (m_move) ?_
        refine go (m_move) ?_ (gY (congrArg not (decide_eq_true h40)))
        refine go (m_move) ?_ (gY (congrArg not (decide_eq_true h40)))
        refine go (m_neq) ?_ (gY (congrArg not (decide_eq_true h40)))
        refine go (m_pickE (congrArg not (decide_eq_true h40))) ?_
        refine go (m_move) ?_
        refine go (m_move) ?_ (gY (congrArg not (decide_eq_true h41)))
        refine go (m_move) ?_ (gY (congrArg not (decide_eq_true h41)))
        refine go (m_neq) ?_ (gY (congrArg not (decide_eq_true h41)))
        refine go (m_pickE (congrArg not (decide_eq_true h41))) ?_
        refine go (m_move) ?_
        refine noE (congrArg not (decide_eq_false h42)) ?_
        refine noE (congrArg not (decide_eq_false h42)) ?_
        refine noE (congrArg not (decide_eq_false h42)) ?_
        refine noE (congrArg not (decide_eq_false h42)) ?_
        refine go (m_pickE (congrArg not (decide_eq_false h42))) ?_
        refine .nil ⟨by kernel_rfl, ?_⟩
        refine d_condE rfl rfl ?_
        refine d_rs rfl ?_
        refine go (m_set) ?_
        refine .nil ⟨by kernel_rfl, ?_⟩
        refine d_ret ?_
        change RetD _ _ _ _ _ _ _
        have e := som H; subst e
        have e := hq22 _ rfl; subst e
        have e := hr15 _ rfl; subst e
        have e := hq11 _ rfl; subst e
        have e := hr7 _ rfl; subst e
        exact finE [] (.tmp (.nil))
       replace H := iF h41 H
       refine d_rs rfl ?_
       refine go (m_move) ?_
       refine go (m_move) ?_
       refine go (m_neq) ?_
       refine go (m_move) ?_
       refine go (m_move) ?_ (gY (congrArg not (decide_eq_true h40)))
       refine go (m_move) ?_ (gY (congrArg not (decide_eq_true h40)))
       refine go (m_neq) ?_ (gY (congrArg not (decide_eq_true h40)))
       refine go (m_pickE (congrArg not (decide_eq_true h40))) ?_
       refine go (m_move) ?_
       refine noE (congrArg not (decide_eq_false h41)) ?_
       refine noE (congrArg not (decide_eq_false h41)) ?_
       refine noE (congrArg not (decide_eq_false h41)) ?_
       refine go (m_pickE (congrArg not (decide_eq_false h41))) ?_
       refine go (m_move) ?_
       refine noE rfl ?_
       refine noE rfl ?_
       refine noE rfl ?_
       refine noE rfl ?_
       refine go (m_pickE rfl) ?_
       refine .nil ⟨by kernel_rfl, ?_⟩
       refine d_condE rfl rfl ?_
       refine d_rs rfl ?_
       refine go (m_set) ?_
       refine .nil ⟨by kernel_rfl, ?_⟩
       refine d_ret ?_
       change RetD _ _ _ _ _ _ _
       have e := som H; subst e
       have e := hq22 _ rfl; subst e
       have e := hr15 _ rfl; subst e
       have e := hq11 _ rfl; subst e
       have e := hr7 _ rfl; subst e
       exact finE [] (.tmp (.nil))
      replace H := iF h40 H
      refine d_rs rfl ?_
      refine go (m_move) ?_
      refine go (m_move) ?_
      refine go (m_neq) ?_
      refine go (m_move) ?_
      refine noE (congrArg not (decide_eq_false h40)) ?_
      refine noE (congrArg not (decide_eq_false h40)) ?_
      refine noE (congrArg not (decide_eq_false h40)) ?_
      refine go (m_pickE (congrArg not (decide_eq_false h40))) ?_
      refine go (m_move) ?_
      refine noE rfl ?_
      refine noE rfl ?_
      refine noE rfl ?_
      refine go (m_pickE rfl) ?_
      refine go (m_move) ?_
      refine noE rfl ?_
      refine noE rfl ?_
      refine noE rfl ?_
      refine noE rfl ?_
      refine go (m_pickE rfl) ?_
      refine .nil ⟨by kernel_rfl, ?_⟩
      refine d_condE rfl rfl ?_
      refine d_rs rfl ?_
      refine go (m_set) ?_
      refine .nil ⟨by kernel_rfl, ?_⟩
      refine d_ret ?_
      change RetD _ _ _ _ _ _ _
      have e := som H; subst e
      have e := hq22 _ rfl; subst e
      have e := hr15 _ rfl; subst e
      have e := hq11 _ rfl; subst e
      have e := hr7 _ rfl; subst e
      exact finE [] (.tmp (.nil))
     replace H := iF h24 H
     refine d_condN rfl (decide_eq_false h24) ?_
     refine d_exit ?_
     have e := som H; subst e
     have e := hq22 _ rfl; subst e
     exact ⟨_, rfl, wkE [(0, 0), (1, 1), (2, 3)]⟩
    refine d_region rfl ?_
    refine go (m_add) ?_
    refine go (m_move) ?_
    refine .nil ⟨by kernel_rfl, ?_⟩
    have e := som H; subst e
    exact ⟨_, rfl, wkE [(0, 0), (1, 1), (2, 2)]⟩
   replace H := iF h13 H
   refine d_condN rfl (decide_eq_false h13) ?_
   refine d_exit ?_
   have e := som H; subst e
   have e := hq11 _ rfl; subst e
   exact ⟨_, rfl, wkE []⟩
  replace H := bnd H
  obtain ⟨v62, hv62, H⟩ := H
  refine d_rs rfl ?_
  refine go (m_cS [] (F_law08_awake_ok hv62) rfl ScS.nil) ?_
  refine go (m_set) ?_
  refine .nil ⟨by kernel_rfl, ?_⟩
  refine d_ret ?_
  change RetD _ _ _ _ _ _ _
  have e := som H; subst e
  exact finE [] (.tmp (.nil))
 replace H := iF h3 H
 refine d_condE rfl (congrArg not (eq_false_of_ne_true h3)) ?_
 replace H := bnd H
 obtain ⟨v63, hv63, H⟩ := H
 refine d_rs rfl ?_
 refine go (m_cS [] (F_law08_awake_ok hv63) rfl ScS.nil) ?_
 refine go (m_set) ?_
 refine .nil ⟨by kernel_rfl, ?_⟩
 refine d_ret ?_
 change RetD _ _ _ _ _ _ _
 have e := som H; subst e
 exact finE [] (.tmp (.nil))

noncomputable def F_law08_ObjectFresh (p0 : List Int) (p1 : Int) (p2 : Int) : Option Bool :=
 (F_make_New p0).bind fun v1 =>
 (F_make_Space v1).bind fun v2 =>
 (F_make_Mod p1 16).bind fun v3 =>
 (F_make_Mod p2 33).bind fun v4 =>
 (F_ref09_Alloc v2.1 (Inc.mk 80 3 (-1) (-1) 0) (w64 ((w64 (1 + v3)) + v4))).bind fun v5 =>
 if v5.2.2.2 = 0 then
 ((F_object_Init v5.1 v5.2.2.1 v3 v4).bind fun v8 =>
 (F_object_Shape v8.1 v5.2.2.1).bind fun v9 =>
 (F_object_Slots v8.1 v5.2.2.1).bind fun v10 =>
 if v8.2 = 0 then
 (if v9.2.2 = 0 then
 (if v10.2 = 0 then
 (if v9.1 = v3 then
 (if v9.2.1 = v4 then
 (if (v10.1.length : Int) = v3 then
 (bndR (loopO (fun (s21 : Int) =>
 if s21 < (v10.1.length : Int) then
 ((F_object_Ref v8.1 v5.2.2.1 s21).bind fun v26 =>
 if v26.1 = 0 then
 (if v26.2 = 0 then
 (if 0 < s21 then
 ((at_ v10.1 (w64 (s21 - 1))).bind fun v30 =>
 (at_ v10.1 s21).bind fun v31 =>
 if v30 = v31 then
 (some (.out (.inr (false))))
 else
 some (.go (w64 (s21 + 1))))
 else
 some (.go (w64 (s21 + 1))))
 else
 some (.out (.inr (false))))
 else
 some (.out (.inr (false))))
 else
 some (.out (.inl (v8.1)))) 0) fun (b18 : Sp) =>
 bndR (loopO (fun (s36 : Int) =>
 if s36 < v4 then
 ((F_object_Data b18 v5.2.2.1 s36).bind fun v41 =>
 if v41.1 = 0 then
 (if v41.2 = 0 then
 (some (.go (w64 (s36 + 1))))
 else
 some (.out (.inr (false))))
 else
 some (.out (.inr (false))))
 else
 some (.out (.inl (())))) 0) fun (b33 : Unit) =>
 (F_law08_awake).bind fun v44 =>
 some (v44))
 else
 some (false))
 else
 some (false))
 else
 some (false))
 else
 some (false))
 else
 some (false))
 else
 some (false))
 else
 (F_law08_awake).bind fun v45 =>
 some (v45)

set_option maxRecDepth 20000 in
set_option maxHeartbeats 4000000 in
theorem F_law08_ObjectFresh_ok {p0 : List Int} {p1 : Int} {p2 : Int} {r : Bool} (H : F_law08_ObjectFresh p0 p1 p2 = some r) : DCall Try.prog 6 [.sl (p0.map iC), DI p1, DI p2] [] (DB r) [] := by
 unfold F_law08_ObjectFresh at H
 refine DCall.mk Try.func6 rfl rfl ?_
 refine d_rs rfl ?_
 refine go (m_set) ?_
 refine .nil ⟨by kernel_rfl, ?_⟩
 replace H := bnd H
 obtain ⟨v1, hv1, H⟩ := H
 replace H := bnd H
 obtain ⟨v2, hv2, H⟩ := H
 refine d_rs rfl ?_
 refine go (m_move) ?_
 refine go (m_cG [] (F_make_New_ok hv1)) ?_
 refine go (m_cG [(0, 0)] (F_make_Space_ok hv2)) ?_
 refine go (m_move) ?_
 refine go (m_ext) ?_
 refine go (m_ext) ?_
 refine go (m_alloc ty_25) ?_
 refine go (m_store ty_25) ?_
 refine go (m_set) ?_
 refine .nil ⟨by kernel_rfl, ?_⟩
 replace H := bnd H
 obtain ⟨v3, hv3, H⟩ := H
 replace H := bnd H
 obtain ⟨v4, hv4, H⟩ := H
 refine d_rs rfl ?_
 refine go (m_move) ?_
 refine go (m_cS [] (F_make_Mod_ok hv3) rfl ScS.nil) ?_
 refine go (m_move) ?_
 refine go (m_cS [] (F_make_Mod_ok hv4) rfl ScS.nil) ?_
 refine go (m_set) ?_
 refine go (m_set) ?_
 refine .nil ⟨by kernel_rfl, ?_⟩
 replace H := bnd H
 obtain ⟨v5, hv5, H⟩ := H
 refine d_rs rfl ?_
 refine go (m_load ty_25) ?_
 refine go (m_build ty_56) ?_
 refine go (m_move) ?_
 refine go (m_add) ?_
 refine go (m_move) ?_
 refine go (m_add) ?_
 refine go (m_cS [] (F_ref09_Alloc_ok hv5) rfl (ScS.cons (scC (fun _ => rfl)) (ScS.cons (scC (fun _ => rfl)) ScS.nil))) ?_
 refine go (m_move) ?_
 refine go (m_ext) ?_
 refine go (m_ext) ?_
 refine go (m_ext) ?_
 refine go (m_ext) ?_
 refine go (m_alloc ty_25) ?_
 refine go (m_alloc ty_56) ?_
 refine go (m_store ty_25) ?_
 refine go (m_store ty_56) ?_
 refine go (m_set) ?_
 refine go (m_set) ?_
 refine .nil ⟨by kernel_rfl, ?_⟩
 refine d_seq fun K k6 => ?_
 refine d_rs rfl ?_
 refine go (m_move) ?_
 refine go (m_neq) ?_
 refine .nil ⟨by kernel_rfl, ?_⟩
 by_cases h7 : v5.2.2.2 = 0
 ·
  replace H := iT h7 H
  refine d_condN rfl (congrArg not (decide_eq_true h7)) ?_
  refine d_skip ?_
  refine k6 _ ?_
  replace H := bnd H
  obtain ⟨v8, hv8, H⟩ := H
  refine d_rs rfl ?_
  refine go (m_load ty_25) ?_
  refine go (m_move) ?_
  refine go (m_move) ?_
  refine go (m_move) ?_
  refine go (m_cG [] (F_object_Init_ok hv8)) ?_
  refine go (m_move) ?_
  refine go (m_ext) ?_
  refine go (m_ext) ?_
  refine go (m_alloc ty_25) ?_
  refine go (m_store ty_25) ?_
  refine go (m_set) ?_
  refine .nil ⟨by kernel_rfl, ?_⟩
  replace H := bnd H
  obtain ⟨v9, hv9, H⟩ := H
  refine d_rs rfl ?_
  refine go (m_load ty_25) ?_
  refine go (m_move) ?_
  refine go (m_cS [] (F_object_Shape_ok hv9) rfl ScS.nil) ?_
  refine go (m_move) ?_
  refine go (m_ext) ?_
  refine go (m_ext) ?_
  refine go (m_ext) ?_
  refine go (m_set) ?_
  refine go (m_set) ?_
  refine go (m_set) ?_
  refine .nil ⟨by kernel_rfl, ?_⟩
  replace H := bnd H
  obtain ⟨v10, hv10, H⟩ := H
  refine d_rs rfl ?_
  refine go (m_load ty_25) ?_
  refine go (m_move) ?_
  refine go (m_cG [] (F_object_Slots_ok hv10)) ?_
  refine go (m_move) ?_
  refine go (m_ext) ?_
  refine go (m_ext) ?_
  refine go (m_set) ?_
  refine go (m_set) ?_
  refine .nil ⟨by kernel_rfl, ?_⟩
  refine d_seq fun K k11 => ?_
  by_cases h12 : v8.2 = 0
  ·
   replace H := iT h12 H
   by_cases h13 : v9.2.2 = 0
   ·
    replace H := iT h13 H
    by_cases h14 : v10.2 = 0
    ·
     replace H := iT h14 H
     by_cases h15 : v9.1 = v3
     ·
      replace H := iT h15 H
      by_cases h16 : v9.2.1 = v4
      ·
       replace H := iT h16 H
       refine d_rs rfl ?_
       refine go (m_move) ?_
       refine go (m_neq) ?_
       refine go (m_move) ?_
       refine go (m_move) ?_ (gY (congrArg not (decide_eq_true h12)))
       refine go (m_neq) ?_ (gY (congrArg not (decide_eq_true h12)))
       refine go (m_pickE (congrArg not (decide_eq_true h12))) ?_
       refine go (m_move) ?_
       refine go (m_move) ?_ (gY (congrArg not (decide_eq_true h13)))
       refine go (m_neq) ?_ (gY (congrArg not (decide_eq_true h13)))
       refine go (m_pickE (congrArg not (decide_eq_true h13))) ?_
       refine go (m_move) ?_
       refine go (m_move) ?_ (gY (congrArg not (decide_eq_true h14)))
       refine go (m_move) ?_ (gY (congrArg not (decide_eq_true h14)))
       refine go (m_neq) ?_ (gY (congrArg not (decide_eq_true h14)))
       refine go (m_pickE (congrArg not (decide_eq_true h14))) ?_
       refine go (m_move) ?_
       refine go (m_move) ?_ (gY (congrArg not (decide_eq_true h15)))
       refine go (m_move) ?_ (gY (congrArg not (decide_eq_true h15)))
       refine go (m_neq) ?_ (gY (congrArg not (decide_eq_true h15)))
       refine go (m_pickE (congrArg not (decide_eq_true h15))) ?_
       refine go (m_move) ?_
       refine go (m_move) ?_ (gY (congrArg not (decide_eq_true h16)))
       refine go (m_lenE ty_26) ?_ (gY (congrArg not (decide_eq_true h16)))
       refine go (m_move) ?_ (gY (congrArg not (decide_eq_true h16)))
       refine go (m_neq) ?_ (gY (congrArg not (decide_eq_true h16)))
       refine go (m_pickE (congrArg not (decide_eq_true h16))) ?_
       refine .nil ⟨by kernel_rfl, ?_⟩
       by_cases h17 : (v10.1.length : Int) = v3
       ·
        replace H := iT h17 H
        refine d_condN rfl (congrArg not (decide_eq_true h17)) ?_
        refine d_skip ?_
        refine k11 _ ?_
        refine d_cutR (fun (b18 : Sp) => ⟨[(10, DI v4), (13, DI v5.2.2.1), (15, .ptr 0 0 0)], [(0, ⟨3, false, false, [[DI b18.sh, .sl (b18.ws.map uC), .sl (b18.fs.map frC)]]⟩)], 1⟩) H (fun z19 H hr19 => ?_) (fun b18 H => ?_)
        ·
         refine d_rs rfl ?_
         refine go (m_move) ?_
         refine go (m_lenE ty_26) ?_
         refine go (m_move) ?_
         refine .nil ⟨by kernel_rfl, ?_⟩
         refine d_block ?_
         refine d_loopF (fun (s21 : Int) => ⟨[(10, DI v4), (13, DI v5.2.2.1), (15, .ptr 0 0 0), (19, .sl (v10.1.map iC)), (100, DI (v10.1.length : Int)), (101, DI s21)], [(0, ⟨3, false, false, [[DI v8.1.sh, .sl (v8.1.ws.map uC), .sl (v8.1.fs.map frC)]]⟩)], 1⟩) H (wkE [(0, 7)]) (fun s21 y22 H hq22 => ?_)
         refine d_rs rfl ?_
         refine go (m_lss) ?_
         refine .nil ⟨by kernel_rfl, ?_⟩
         refine d_seq fun K k23 => ?_
         by_cases h24 : s21 < (v10.1.length : Int)
         ·
          replace H := iT h24 H
          refine d_condE rfl (decide_eq_true h24) ?_
          refine d_skip ?_
          refine k23 _ ?_
          refine d_seq fun K k25 => ?_
          refine d_block ?_
          refine d_rs rfl ?_
          refine go (m_move) ?_
          refine go (m_set) ?_
          refine .nil ⟨by kernel_rfl, ?_⟩
          replace H := bnd H
          obtain ⟨v26, hv26, H⟩ := H
          refine d_rs rfl ?_
          refine go (m_load ty_25) ?_
          refine go (m_move) ?_
          refine go (m_move) ?_
          refine go (m_cS [] (F_object_Ref_ok hv26) rfl ScS.nil) ?_
          refine go (m_move) ?_
          refine go (m_ext) ?_
          refine go (m_ext) ?_
          refine go (m_set) ?_
          refine go (m_set) ?_
          refine .nil ⟨by kernel_rfl, ?_⟩
          by_cases h27 : v26.1 = 0
          ·
           replace H := iT h27 H
           by_cases h28 : v26.2 = 0
           ·
            replace H := iT h28 H
            by_cases h29 : 0 < s21
            ·
             replace H := iT h29 H
             replace H := bnd H
             obtain ⟨v30, hv30, H⟩ := H
             replace H := bnd H
             obtain ⟨v31, hv31, H⟩ := H
             refine d_as mixedP rfl (by kernel_rfl) ?_
             refine go (m_move) ?_
             refine go (m_neq) ?_
             refine go (m_move) ?_
             refine go (m_move) ?_ (gY (congrArg not (decide_eq_true h27)))
             refine go (m_neq) ?_ (gY (congrArg not (decide_eq_true h27)))
             refine go (m_pickE (congrArg not (decide_eq_true h27))) ?_
             refine go (m_move) ?_
             refine go (m_move) ?_ (gY (congrArg not (decide_eq_true h28)))
             refine go (m_gtr) ?_ (gY (congrArg not (decide_eq_true h28)))
             refine go (m_move) ?_ (gY (congrArg not (decide_eq_true h28)))
             refine go (m_move) ?_ (gY (decide_eq_true h29))
             refine go (m_move) ?_ (gY (decide_eq_true h29))
             refine go (m_sub) ?_ (gY (decide_eq_true h29))
             refine go (m_iaS hv30 ty_26 ty_3) ?_ (gY (decide_eq_true h29))
             refine go (m_load ty_3) ?_ (gY (decide_eq_true h29))
             refine go (m_move) ?_ (gY (decide_eq_true h29))
             refine go (m_move) ?_ (gY (decide_eq_true h29))
             refine go (m_iaS hv31 ty_26 ty_3) ?_ (gY (decide_eq_true h29))
             refine go (m_load ty_3) ?_ (gY (decide_eq_true h29))
             refine go (m_eql) ?_ (gY (decide_eq_true h29))
             refine go (m_pickE (decide_eq_true h29)) ?_ (gY (congrArg not (decide_eq_true h28)))
             refine go (m_pickE (congrArg not (decide_eq_true h28))) ?_
             refine .nil ⟨⟨by kernel_rfl, by kernel_rfl⟩, ?_⟩
             by_cases h32 : v30 = v31
             ·
              replace H := iT h32 H
              refine d_condE rfl (decide_eq_true h32) ?_
              refine d_rs rfl ?_
              refine go (m_set) ?_
              refine .nil ⟨by kernel_rfl, ?_⟩
              refine d_ret ?_
              change RetD _ _ _ _ _ _ _
              have e := som H; subst e
              have e := hq22 _ rfl; subst e
              have e := hr19 _ rfl; subst e
              exact finE [] (.tmp (.nil))
             replace H := iF h32 H
             refine d_condN rfl (decide_eq_false h32) ?_
             refine d_skip ?_
             refine k25 _ ?_
             refine d_region rfl ?_
             refine go (m_add) ?_
             refine go (m_move) ?_
             refine .nil ⟨by kernel_rfl, ?_⟩
             have e := som H; subst e
             exact ⟨_, rfl, wkE [(0, 0)]⟩
            replace H := iF h29 H
            refine d_as mixedP rfl (by kernel_rfl) ?_
            refine go (m_move) ?_
            refine go (m_neq) ?_
            refine go (m_move) ?_
            refine go (m_move) ?_ (gY (congrArg not (decide_eq_true h27)))
            refine go (m_neq) ?_ (gY (congrArg not (decide_eq_true h27)))
            refine go (m_pickE (congrArg not (decide_eq_true h27))) ?_
            refine go (m_move) ?_
            refine go (m_move) ?_ (gY (congrArg not (decide_eq_true h28)))
            refine go (m_gtr) ?_ (gY (congrArg not (decide_eq_true h28)))
            refine go (m_move) ?_ (gY (congrArg not (decide_eq_true h28)))
            refine noE (decide_eq_false h29) ?_
            refine noE (decide_eq_false h29) ?_
            refine noE (decide_eq_false h29) ?_
            refine noE (decide_eq_false h29) ?_
            refine noE (decide_eq_false h29) ?_
            refine noE (decide_eq_false h29) ?_
            refine noE (decide_eq_false h29) ?_
            refine noE (decide_eq_false h29) ?_
            refine noE (decide_eq_false h29) ?_
            refine noE (decide_eq_false h29) ?_
            refine go (m_pickE (decide_eq_false h29)) ?_ (gY (congrArg not (decide_eq_true h28)))
            refine go (m_pickE (congrArg not (decide_eq_true h28))) ?_
            refine .nil ⟨⟨by kernel_rfl, by kernel_rfl⟩, ?_⟩
            refine d_condN rfl rfl ?_
            refine d_skip ?_
            refine k25 _ ?_
            refine d_region rfl ?_
            refine go (m_add) ?_
            refine go (m_move) ?_
            refine .nil ⟨by kernel_rfl, ?_⟩
            have e := som H; subst e
            exact ⟨_, rfl, wkE [(0, 0)]⟩
           replace H := iF h28 H
           refine d_as mixedP rfl (by kernel_rfl) ?_
           refine go (m_move) ?_
           refine go (m_neq) ?_
           refine go (m_move) ?_
           refine go (m_move) ?_ (gY (congrArg not (decide_eq_true h27)))
           refine go (m_neq) ?_ (gY (congrArg not (decide_eq_true h27)))
           refine go (m_pickE (congrArg not (decide_eq_true h27))) ?_
           refine go (m_move) ?_
           refine noE (congrArg not (decide_eq_false h28)) ?_
           refine noE (congrArg not (decide_eq_false h28)) ?_
           refine noE (congrArg not (decide_eq_false h28)) ?_
           refine noU ?_
           refine noU ?_
           refine noU ?_
           refine noU ?_
           refine noU ?_
           refine noU ?_
           refine noU ?_
           refine noU ?_
           refine noU ?_
           refine noU ?_
           refine noE (congrArg not (decide_eq_false h28)) ?_
           refine go (m_pickE (congrArg not (decide_eq_false h28))) ?_
           refine .nil ⟨⟨by kernel_rfl, by kernel_rfl⟩, ?_⟩
           refine d_condE rfl rfl ?_
           refine d_rs rfl ?_
           refine go (m_set) ?_
           refine .nil ⟨by kernel_rfl, ?_⟩
           refine d_ret ?_
           change RetD _ _ _ _ _ _ _
           have e := som H; subst e
           have e := hq22 _ rfl; subst e
           have e := hr19 _ rfl; subst e
           exact finE [] (.tmp (.nil))
          replace H := iF h27 H
          refine d_as mixedP rfl (by kernel_rfl) ?_
          refine go (m_move) ?_
          refine go (m_neq) ?_
          refine go (m_move) ?_
          refine noE (congrArg not (decide_eq_false h27)) ?_
          refine noE (congrArg not (decide_eq_false h27)) ?_
          refine go (m_pickE (congrArg not (decide_eq_false h27))) ?_
          refine go (m_move) ?_
          refine noE rfl ?_
          refine noE rfl ?_
          refine noE rfl ?_
          refine noU ?_
          refine noU ?_
          refine noU ?_
          refine noU ?_
          refine noU ?_
          refine noU ?_
          refine noU ?_
          refine noU ?_
          refine noU ?_
          refine noU ?_
          refine noE rfl ?_
          refine go (m_pickE rfl) ?_
          refine .nil ⟨⟨by kernel_rfl, by kernel_rfl⟩, ?_⟩
          refine d_condE rfl rfl ?_
          refine d_rs rfl ?_
          refine go (m_set) ?_
          refine .nil ⟨by kernel_rfl, ?_⟩
          refine d_ret ?_
          change RetD _ _ _ _ _ _ _
          have e := som H; subst e
          have e := hq22 _ rfl; subst e
          have e := hr19 _ rfl; subst e
          exact finE [] (.tmp (.nil))
         replace H := iF h24 H
         refine d_condN rfl (decide_eq_false h24) ?_
         refine d_exit ?_
         have e := som H; subst e
         have e := hq22 _ rfl; subst e
         exact ⟨_, rfl, wkE [(0, 0)]⟩
        refine d_cutR (fun (b33 : Unit) => ⟨[], [], 0⟩) H (fun z34 H hr34 => ?_) (fun b33 H => ?_)
        ·
         refine d_rs rfl ?_
         refine go (m_set) ?_
         refine .nil ⟨by kernel_rfl, ?_⟩
         refine d_block ?_
         refine d_loopF (fun (s36 : Int) => ⟨[(10, DI v4), (13, DI v5.2.2.1), (15, .ptr 0 0 0), (24, DI s36)], [(0, ⟨3, false, false, [[DI b18.sh, .sl (b18.ws.map uC), .sl (b18.fs.map frC)]]⟩)], 1⟩) H (wkE [(0, 0)]) (fun s36 y37 H hq37 => ?_)
         refine d_seq fun K k38 => ?_
         refine d_rs rfl ?_
         refine go (m_move) ?_
         refine go (m_move) ?_
         refine go (m_lss) ?_
         refine .nil ⟨by kernel_rfl, ?_⟩
         by_cases h39 : s36 < v4
         ·
          replace H := iT h39 H
          refine d_condE rfl (decide_eq_true h39) ?_
          refine d_skip ?_
          refine k38 _ ?_
          refine d_seq fun K k40 => ?_
          refine d_block ?_
          replace H := bnd H
          obtain ⟨v41, hv41, H⟩ := H
          refine d_rs rfl ?_
          refine go (m_load ty_25) ?_
          refine go (m_move) ?_
          refine go (m_move) ?_
          refine go (m_cS [] (F_object_Data_ok hv41) rfl ScS.nil) ?_
          refine go (m_move) ?_
          refine go (m_ext) ?_
          refine go (m_ext) ?_
          refine go (m_set) ?_
          refine go (m_set) ?_
          refine .nil ⟨by kernel_rfl, ?_⟩
          by_cases h42 : v41.1 = 0
          ·
           replace H := iT h42 H
           refine d_rs rfl ?_
           refine go (m_move) ?_
           refine go (m_neq) ?_
           refine go (m_move) ?_
           refine go (m_move) ?_ (gY (congrArg not (decide_eq_true h42)))
           refine go (m_neq) ?_ (gY (congrArg not (decide_eq_true h42)))
           refine go (m_pickE (congrArg not (decide_eq_true h42))) ?_
           refine .nil ⟨by kernel_rfl, ?_⟩
           by_cases h43 : v41.2 = 0
           ·
            replace H := iT h43 H
            refine d_condN rfl (congrArg not (decide_eq_true h43)) ?_
            refine d_skip ?_
            refine k40 _ ?_
            refine d_region rfl ?_
            refine go (m_move) ?_
            refine go (m_add) ?_
            refine go (m_set) ?_
            refine .nil ⟨by kernel_rfl, ?_⟩
            have e := som H; subst e
            exact ⟨_, rfl, wkE [(0, 0)]⟩
           replace H := iF h43 H
           refine d_condE rfl (congrArg not (decide_eq_false h43)) ?_
           refine d_rs rfl ?_
           refine go (m_set) ?_
           refine .nil ⟨by kernel_rfl, ?_⟩
           refine d_ret ?_
           change RetD _ _ _ _ _ _ _
           have e := som H; subst e
           have e := hq37 _ rfl; subst e
           have e := hr34 _ rfl; subst e
           exact finE [] (.tmp (.nil))
          replace H := iF h42 H
          refine d_rs rfl ?_
          refine go (m_move) ?_
          refine go (m_neq) ?_
          refine go (m_move) ?_
          refine noE (congrArg not (decide_eq_false h42)) ?_
          refine noE (congrArg not (decide_eq_false h42)) ?_
          refine go (m_pickE (congrArg not (decide_eq_false h42))) ?_
          refine .nil ⟨by kernel_rfl, ?_⟩
          refine d_condE rfl rfl ?_
          refine d_rs rfl ?_
          refine go (m_set) ?_
          refine .nil ⟨by kernel_rfl, ?_⟩
          refine d_ret ?_
          change RetD _ _ _ _ _ _ _
          have e := som H; subst e
          have e := hq37 _ rfl; subst e
          have e := hr34 _ rfl; subst e
          exact finE [] (.tmp (.nil))
         replace H := iF h39 H
         refine d_condN rfl (decide_eq_false h39) ?_
         refine d_exit ?_
         have e := som H; subst e
         have e := hq37 _ rfl; subst e
         exact ⟨_, rfl, wkE []⟩
        replace H := bnd H
        obtain ⟨v44, hv44, H⟩ := H
        refine d_rs rfl ?_
        refine go (m_cS [] (F_law08_awake_ok hv44) rfl ScS.nil) ?_
        refine go (m_set) ?_
        refine .nil ⟨by kernel_rfl, ?_⟩
        refine d_ret ?_
        change RetD _ _ _ _ _ _ _
        have e := som H; subst e
        exact finE [] (.tmp (.nil))
       replace H := iF h17 H
       refine d_condE rfl (congrArg not (decide_eq_false h17)) ?_
       refine d_rs rfl ?_
       refine go (m_set) ?_
       refine .nil ⟨by kernel_rfl, ?_⟩
       refine d_ret ?_
       change RetD _ _ _ _ _ _ _
       have e := som H; subst e
       exact finE [] (.tmp (.nil))
      replace H := iF h16 H
      refine d_rs rfl ?_
      refine go (m_move) ?_
      refine go (m_neq) ?_
      refine go (m_move) ?_
      refine go (m_move) ?_ (gY (congrArg not (decide_eq_true h12)))
      refine go (m_neq) ?_ (gY (congrArg not (decide_eq_true h12)))
      refine go (m_pickE (congrArg not (decide_eq_true h12))) ?_
      refine go (m_move) ?_
      refine go (m_move) ?_ (gY (congrArg not (decide_eq_true h13)))
      refine go (m_neq) ?_ (gY (congrArg not (decide_eq_true h13)))
      refine go (m_pickE (congrArg not (decide_eq_true h13))) ?_
      refine go (m_move) ?_
      refine go (m_move) ?_ (gY (congrArg not (decide_eq_true h14)))
      refine go (m_move) ?_ (gY (congrArg not (decide_eq_true h14)))
      refine go (m_neq) ?_ (gY (congrArg not (decide_eq_true h14)))
      refine go (m_pickE (congrArg not (decide_eq_true h14))) ?_
      refine go (m_move) ?_
      refine go (m_move) ?_ (gY (congrArg not (decide_eq_true h15)))
      refine go (m_move) ?_ (gY (congrArg not (decide_eq_true h15)))
      refine go (m_neq) ?_ (gY (congrArg not (decide_eq_true h15)))
      refine go (m_pickE (congrArg not (decide_eq_true h15))) ?_
      refine go (m_move) ?_
      refine noE (congrArg not (decide_eq_false h16)) ?_
      refine noE (congrArg not (decide_eq_false h16)) ?_
      refine noE (congrArg not (decide_eq_false h16)) ?_
      refine noE (congrArg not (decide_eq_false h16)) ?_
      refine go (m_pickE (congrArg not (decide_eq_false h16))) ?_
      refine .nil ⟨by kernel_rfl, ?_⟩
      refine d_condE rfl rfl ?_
      refine d_rs rfl ?_
      refine go (m_set) ?_
      refine .nil ⟨by kernel_rfl, ?_⟩
      refine d_ret ?_
      change RetD _ _ _ _ _ _ _
      have e := som H; subst e
      exact finE [] (.tmp (.nil))
     replace H := iF h15 H
     refine d_rs rfl ?_
     refine go (m_move) ?_
     refine go (m_neq) ?_
     refine go (m_move) ?_
     refine go (m_move) ?_ (gY (congrArg not (decide_eq_true h12)))
     refine go (m_neq) ?_ (gY (congrArg not (decide_eq_true h12)))
     refine go (m_pickE (congrArg not (decide_eq_true h12))) ?_
     refine go (m_move) ?_
     refine go (m_move) ?_ (gY (congrArg not (decide_eq_true h13)))
     refine go (m_neq) ?_ (gY (congrArg not (decide_eq_true h13)))
     refine go (m_pickE (congrArg not (decide_eq_true h13))) ?_
     refine go (m_move) ?_
     refine go (m_move) ?_ (gY (congrArg not (decide_eq_true h14)))
     refine go (m_move) ?_ (gY (congrArg not (decide_eq_true h14)))
     refine go (m_neq) ?_ (gY (congrArg not (decide_eq_true h14)))
     refine go (m_pickE (congrArg not (decide_eq_true h14))) ?_
     refine go (m_move) ?_
     refine noE (congrArg not (decide_eq_false h15)) ?_
     refine noE (congrArg not (decide_eq_false h15)) ?_
     refine noE (congrArg not (decide_eq_false h15)) ?_
     refine go (m_pickE (congrArg not (decide_eq_false h15))) ?_
     refine go (m_move) ?_
     refine noE rfl ?_
     refine noE rfl ?_
     refine noE rfl ?_
     refine noE rfl ?_
     refine go (m_pickE rfl) ?_
     refine .nil ⟨by kernel_rfl, ?_⟩
     refine d_condE rfl rfl ?_
     refine d_rs rfl ?_
     refine go (m_set) ?_
     refine .nil ⟨by kernel_rfl, ?_⟩
     refine d_ret ?_
     change RetD _ _ _ _ _ _ _
     have e := som H; subst e
     exact finE [] (.tmp (.nil))
    replace H := iF h14 H
    refine d_rs rfl ?_
    refine go (m_move) ?_
    refine go (m_neq) ?_
    refine go (m_move) ?_
    refine go (m_move) ?_ (gY (congrArg not (decide_eq_true h12)))
    refine go (m_neq) ?_ (gY (congrArg not (decide_eq_true h12)))
    refine go (m_pickE (congrArg not (decide_eq_true h12))) ?_
    refine go (m_move) ?_
    refine go (m_move) ?_ (gY (congrArg not (decide_eq_true h13)))
    refine go (m_neq) ?_ (gY (congrArg not (decide_eq_true h13)))
    refine go (m_pickE (congrArg not (decide_eq_true h13))) ?_
    refine go (m_move) ?_
    refine noE (congrArg not (decide_eq_false h14)) ?_
    refine noE (congrArg not (decide_eq_false h14)) ?_
    refine noE (congrArg not (decide_eq_false h14)) ?_
    refine go (m_pickE (congrArg not (decide_eq_false h14))) ?_
    refine go (m_move) ?_
    refine noE rfl ?_
    refine noE rfl ?_
    refine noE rfl ?_
    refine go (m_pickE rfl) ?_
    refine go (m_move) ?_
    refine noE rfl ?_
    refine noE rfl ?_
    refine noE rfl ?_
    refine noE rfl ?_
    refine go (m_pickE rfl) ?_
    refine .nil ⟨by kernel_rfl, ?_⟩
    refine d_condE rfl rfl ?_
    refine d_rs rfl ?_
    refine go (m_set) ?_
    refine .nil ⟨by kernel_rfl, ?_⟩
    refine d_ret ?_
    change RetD _ _ _ _ _ _ _
    have e := som H; subst e
    exact finE [] (.tmp (.nil))
   replace H := iF h13 H
   refine d_rs rfl ?_
   refine go (m_move) ?_
   refine go (m_neq) ?_
   refine go (m_move) ?_
   refine go (m_move) ?_ (gY (congrArg not (decide_eq_true h12)))
   refine go (m_neq) ?_ (gY (congrArg not (decide_eq_true h12)))
   refine go (m_pickE (congrArg not (decide_eq_true h12))) ?_
   refine go (m_move) ?_
   refine noE (congrArg not (decide_eq_false h13)) ?_
   refine noE (congrArg not (decide_eq_false h13)) ?_
   refine go (m_pickE (congrArg not (decide_eq_false h13))) ?_
   refine go (m_move) ?_
   refine noE rfl ?_
   refine noE rfl ?_
   refine noE rfl ?_
   refine go (m_pickE rfl) ?_
   refine go (m_move) ?_
   refine noE rfl ?_
   refine noE rfl ?_
   refine noE rfl ?_
   refine go (m_pickE rfl) ?_
   refine go (m_move) ?_
   refine noE rfl ?_
   refine noE rfl ?_
   refine noE rfl ?_
   refine noE rfl ?_
   refine go (m_pickE rfl) ?_
   refine .nil ⟨by kernel_rfl, ?_⟩
   refine d_condE rfl rfl ?_
   refine d_rs rfl ?_
   refine go (m_set) ?_
   refine .nil ⟨by kernel_rfl, ?_⟩
   refine d_ret ?_
   change RetD _ _ _ _ _ _ _
   have e := som H; subst e
   exact finE [] (.tmp (.nil))
  replace H := iF h12 H
  refine d_rs rfl ?_
  refine go (m_move) ?_
  refine go (m_neq) ?_
  refine go (m_move) ?_
  refine noE (congrArg not (decide_eq_false h12)) ?_
  refine noE (congrArg not (decide_eq_false h12)) ?_
  refine go (m_pickE (congrArg not (decide_eq_false h12))) ?_
  refine go (m_move) ?_
  refine noE rfl ?_
  refine noE rfl ?_
  refine go (m_pickE rfl) ?_
  refine go (m_move) ?_
  refine noE rfl ?_
  refine noE rfl ?_
  refine noE rfl ?_
  refine go (m_pickE rfl) ?_
  refine go (m_move) ?_
  refine noE rfl ?_
  refine noE rfl ?_
  refine noE rfl ?_
  refine go (m_pickE rfl) ?_
  refine go (m_move) ?_
  refine noE rfl ?_
  refine noE rfl ?_
  refine noE rfl ?_
  refine noE rfl ?_
  refine go (m_pickE rfl) ?_
  refine .nil ⟨by kernel_rfl, ?_⟩
  refine d_condE rfl rfl ?_
  refine d_rs rfl ?_
  refine go (m_set) ?_
  refine .nil ⟨by kernel_rfl, ?_⟩
  refine d_ret ?_
  change RetD _ _ _ _ _ _ _
  have e := som H; subst e
  exact finE [] (.tmp (.nil))
 replace H := iF h7 H
 refine d_condE rfl (congrArg not (decide_eq_false h7)) ?_
 replace H := bnd H
 obtain ⟨v45, hv45, H⟩ := H
 refine d_rs rfl ?_
 refine go (m_cS [] (F_law08_awake_ok hv45) rfl ScS.nil) ?_
 refine go (m_set) ?_
 refine .nil ⟨by kernel_rfl, ?_⟩
 refine d_ret ?_
 change RetD _ _ _ _ _ _ _
 have e := som H; subst e
 exact finE [] (.tmp (.nil))

noncomputable def F_law08_ObjectKeeps (p0 : List Int) (p1 : Int) (p2 : Int) (p3 : Int) (p4 : Bool) : Option Bool :=
 (F_make_New p0).bind fun v1 =>
 (F_make_Space v1).bind fun v2 =>
 (F_law08_objects v2.1 v2.2.1).bind fun v3 =>
 if (v3.length : Int) = 0 then
 ((F_law08_awake).bind fun v6 =>
 some (v6))
 else
 (F_make_Mod p1 (v3.length : Int)).bind fun v7 =>
 (at_ v3 v7).bind fun v8 =>
 (F_object_Shape v2.1 v8).bind fun v9 =>
 (if p4 = true then
 (some (v9.1))
 else
 some (v9.2.1)).bind fun (b10 : Int) =>
 if v9.2.2 = 0 then
 (if b10 = 0 then
 ((F_law08_awake).bind fun v17 =>
 some (v17))
 else
 (F_make_Mod p2 b10).bind fun v18 =>
 (F_object_SetData v2.1 v8 v18 p3).bind fun v19 =>
 (if p4 = true then
 ((F_object_SetRef v2.1 v8 v18 p3).bind fun v23 =>
 some ((v23.2, v23.1)))
 else
 some ((v19.2, v19.1))).bind fun (b20 : Int × Sp) =>
 (F_object_Data b20.2 v8 v18).bind fun v24 =>
 (if p4 = true then
 ((F_object_Ref b20.2 v8 v18).bind fun v28 =>
 some ((v28.1, v28.2)))
 else
 some ((v24.1, v24.2))).bind fun (b25 : Int × Int) =>
 if b20.1 = 0 then
 (if b25.2 = 0 then
 (if b25.1 = p3 then
 (if (b20.2.ws.length : Int) = (v2.1.ws.length : Int) then
 ((loopO (fun (s37 : Int × Int) =>
 if s37.2 < (v2.1.ws.length : Int) then
 ((at_ v2.1.ws s37.2).bind fun v42 =>
 (at_ b20.2.ws s37.2).bind fun v43 =>
 if v42 = v43 then
 (some (.go ((s37.1, w64 (s37.2 + 1)))))
 else
 some (.go ((w64 (s37.1 + 1), w64 (s37.2 + 1)))))
 else
 some (.out (s37.1))) (0, 0)).bind fun (b34 : Int) =>
 bndR (loopO (fun (s48 : Int) =>
 if s48 < (v3.length : Int) then
 ((at_ v3 s48).bind fun v53 =>
 (F_object_Shape b20.2 v53).bind fun v54 =>
 (F_object_Shape v2.1 v53).bind fun v55 =>
 if v54.1 = v55.1 then
 (if v54.2.1 = v55.2.1 then
 (if v54.2.2 = 0 then
 (if v55.2.2 = 0 then
 (some (.go (w64 (s48 + 1))))
 else
 some (.out (.inr (false))))
 else
 some (.out (.inr (false))))
 else
 some (.out (.inr (false))))
 else
 some (.out (.inr (false))))
 else
 some (.out (.inl (())))) 0) fun (b45 : Unit) =>
 some (decide (b34 ≤ 1)))
 else
 some (false))
 else
 some (false))
 else
 some (false))
 else
 some (false))
 else
 some (false)

set_option maxRecDepth 20000 in
set_option maxHeartbeats 4000000 in
theorem F_law08_ObjectKeeps_ok {p0 : List Int} {p1 : Int} {p2 : Int} {p3 : Int} {p4 : Bool} {r : Bool} (H : F_law08_ObjectKeeps p0 p1 p2 p3 p4 = some r) : DCall Try.prog 7 [.sl (p0.map iC), DI p1, DI p2, DU p3, DB p4] [] (DB r) [] := by
 unfold F_law08_ObjectKeeps at H
 refine DCall.mk Try.func7 rfl rfl ?_
 refine d_rs rfl ?_
 refine go (m_set) ?_
 refine .nil ⟨by kernel_rfl, ?_⟩
 replace H := bnd H
 obtain ⟨v1, hv1, H⟩ := H
 replace H := bnd H
 obtain ⟨v2, hv2, H⟩ := H
 refine d_rs rfl ?_
 refine go (m_move) ?_
 refine go (m_cG [] (F_make_New_ok hv1)) ?_
 refine go (m_cG [(0, 0)] (F_make_Space_ok hv2)) ?_
 refine go (m_move) ?_
 refine go (m_ext) ?_
 refine go (m_ext) ?_
 refine go (m_alloc ty_25) ?_
 refine go (m_store ty_25) ?_
 refine go (m_set) ?_
 refine .nil ⟨by kernel_rfl, ?_⟩
 replace H := bnd H
 obtain ⟨v3, hv3, H⟩ := H
 refine d_rs rfl ?_
 refine go (m_load ty_25) ?_
 refine go (m_move) ?_
 refine go (m_cS [] (F_law08_objects_ok hv3) rfl (ScS.cons (scC (fun _ => rfl)) ScS.nil)) ?_
 refine go (m_set) ?_
 refine .nil ⟨by kernel_rfl, ?_⟩
 refine d_seq fun K k4 => ?_
 refine d_rs rfl ?_
 refine go (m_move) ?_
 refine go (m_lenE ty_26) ?_
 refine go (m_eql) ?_
 refine .nil ⟨by kernel_rfl, ?_⟩
 by_cases h5 : (v3.length : Int) = 0
 ·
  replace H := iT h5 H
  refine d_condE rfl (decide_eq_true h5) ?_
  replace H := bnd H
  obtain ⟨v6, hv6, H⟩ := H
  refine d_rs rfl ?_
  refine go (m_cS [] (F_law08_awake_ok hv6) rfl ScS.nil) ?_
  refine go (m_set) ?_
  refine .nil ⟨by kernel_rfl, ?_⟩
  refine d_ret ?_
  change RetD _ _ _ _ _ _ _
  have e := som H; subst e
  exact finE [] (.tmp (.nil))
 replace H := iF h5 H
 refine d_condN rfl (decide_eq_false h5) ?_
 refine d_skip ?_
 refine k4 _ ?_
 replace H := bnd H
 obtain ⟨v7, hv7, H⟩ := H
 replace H := bnd H
 obtain ⟨v8, hv8, H⟩ := H
 refine d_rs rfl ?_
 refine go (m_move) ?_
 refine go (m_move) ?_
 refine go (m_move) ?_
 refine go (m_lenE ty_26) ?_
 refine go (m_cS [] (F_make_Mod_ok hv7) rfl ScS.nil) ?_
 refine go (m_iaO hv8 ty_26 ty_3 rfl rfl rfl) ?_
 refine go (m_ldO hv8 ty_3) ?_
 refine go (m_set) ?_
 refine .nil ⟨by kernel_rfl, ?_⟩
 replace H := bnd H
 obtain ⟨v9, hv9, H⟩ := H
 refine d_rs rfl ?_
 refine go (m_load ty_25) ?_
 refine go (m_move) ?_
 refine go (m_cS [] (F_object_Shape_ok hv9) rfl ScS.nil) ?_
 refine go (m_move) ?_
 refine go (m_ext) ?_
 refine go (m_ext) ?_
 refine go (m_ext) ?_
 refine go (m_set) ?_
 refine go (m_set) ?_
 refine go (m_set) ?_
 refine .nil ⟨by kernel_rfl, ?_⟩
 refine d_rs rfl ?_
 refine go (m_move) ?_
 refine go (m_set) ?_
 refine .nil ⟨by kernel_rfl, ?_⟩
 refine d_cutF (fun (b10 : Int) => ⟨[(2, DI p2), (3, DU p3), (4, DB p4), (11, .ptr 0 0 0), (13, .own 1 0 v3.length), (14, DI v8), (17, DI v9.2.2), (18, DI b10)], [(0, ⟨3, false, false, [[DI v2.1.sh, .sl (v2.1.ws.map uC), .sl (v2.1.fs.map frC)]]⟩), (1, ⟨1, true, false, v3.map iC⟩)], 2⟩) H (fun z11 H => ?_) (fun b10 H => ?_)
 ·
  refine d_rs rfl ?_
  refine go (m_move) ?_
  refine .nil ⟨by kernel_rfl, ?_⟩
  by_cases h12 : p4 = true
  ·
   replace H := iT h12 H
   refine d_condE rfl h12 ?_
   refine d_region rfl ?_
   refine go (m_move) ?_
   refine go (m_set) ?_
   refine .nil ⟨by kernel_rfl, ?_⟩
   have e := som H; subst e
   exact wkE [(0, 2), (1, 3)]
  replace H := iF h12 H
  refine d_condN rfl (eq_false_of_ne_true h12) ?_
  refine d_skip ?_
  have e := som H; subst e
  exact wkE [(0, 2), (1, 3)]
 refine d_seq fun K k13 => ?_
 refine d_rs rfl ?_
 refine go (m_move) ?_
 refine go (m_neq) ?_
 refine .nil ⟨by kernel_rfl, ?_⟩
 by_cases h14 : v9.2.2 = 0
 ·
  replace H := iT h14 H
  refine d_condN rfl (congrArg not (decide_eq_true h14)) ?_
  refine d_skip ?_
  refine k13 _ ?_
  refine d_seq fun K k15 => ?_
  refine d_rs rfl ?_
  refine go (m_move) ?_
  refine go (m_eql) ?_
  refine .nil ⟨by kernel_rfl, ?_⟩
  by_cases h16 : b10 = 0
  ·
   replace H := iT h16 H
   refine d_condE rfl (decide_eq_true h16) ?_
   replace H := bnd H
   obtain ⟨v17, hv17, H⟩ := H
   refine d_rs rfl ?_
   refine go (m_cS [] (F_law08_awake_ok hv17) rfl ScS.nil) ?_
   refine go (m_set) ?_
   refine .nil ⟨by kernel_rfl, ?_⟩
   refine d_ret ?_
   change RetD _ _ _ _ _ _ _
   have e := som H; subst e
   exact finE [] (.tmp (.nil))
  replace H := iF h16 H
  refine d_condN rfl (decide_eq_false h16) ?_
  refine d_skip ?_
  refine k15 _ ?_
  replace H := bnd H
  obtain ⟨v18, hv18, H⟩ := H
  refine d_rs rfl ?_
  refine go (m_move) ?_
  refine go (m_move) ?_
  refine go (m_cS [] (F_make_Mod_ok hv18) rfl ScS.nil) ?_
  refine go (m_set) ?_
  refine .nil ⟨by kernel_rfl, ?_⟩
  replace H := bnd H
  obtain ⟨v19, hv19, H⟩ := H
  refine d_rs rfl ?_
  refine go (m_load ty_25) ?_
  refine go (m_move) ?_
  refine go (m_move) ?_
  refine go (m_move) ?_
  refine go (m_cG [] (F_object_SetData_ok hv19)) ?_
  refine go (m_move) ?_
  refine go (m_ext) ?_
  refine go (m_ext) ?_
  refine go (m_alloc ty_25) ?_
  refine go (m_store ty_25) ?_
  refine go (m_set) ?_
  refine .nil ⟨by kernel_rfl, ?_⟩
  refine d_cutF (fun (b20 : Int × Sp) => ⟨[(3, DU p3), (4, DB p4), (11, .ptr 0 0 0), (13, .own 1 0 v3.length), (14, DI v8), (17, DI b20.1), (19, DI v18), (20, .ptr 2 0 0)], [(0, ⟨3, false, false, [[DI v2.1.sh, .sl (v2.1.ws.map uC), .sl (v2.1.fs.map frC)]]⟩), (1, ⟨1, true, false, v3.map iC⟩), (2, ⟨3, false, false, [[DI b20.2.sh, .sl (b20.2.ws.map uC), .sl (b20.2.fs.map frC)]]⟩)], 3⟩) H (fun z21 H => ?_) (fun b20 H => ?_)
  ·
   refine d_rs rfl ?_
   refine go (m_move) ?_
   refine .nil ⟨by kernel_rfl, ?_⟩
   by_cases h22 : p4 = true
   ·
    replace H := iT h22 H
    refine d_condE rfl h22 ?_
    replace H := bnd H
    obtain ⟨v23, hv23, H⟩ := H
    refine d_region rfl ?_
    refine go (m_load ty_25) ?_
    refine go (m_move) ?_
    refine go (m_move) ?_
    refine go (m_move) ?_
    refine go (m_cG [] (F_object_SetRef_ok hv23)) ?_
    refine go (m_move) ?_
    refine go (m_ext) ?_
    refine go (m_ext) ?_
    refine go (m_store ty_25) ?_
    refine go (m_set) ?_
    refine .nil ⟨by kernel_rfl, ?_⟩
    have e := som H; subst e
    exact wkE [(0, 0), (1, 1), (2, 2)]
   replace H := iF h22 H
   refine d_condN rfl (eq_false_of_ne_true h22) ?_
   refine d_skip ?_
   have e := som H; subst e
   exact wkE [(0, 0), (1, 1), (2, 2)]
  replace H := bnd H
  obtain ⟨v24, hv24, H⟩ := H
  refine d_rs rfl ?_
  refine go (m_load ty_25) ?_
  refine go (m_move) ?_
  refine go (m_move) ?_
  refine go (m_cS [] (F_object_Data_ok hv24) rfl ScS.nil) ?_
  refine go (m_move) ?_
  refine go (m_ext) ?_
  refine go (m_ext) ?_
  refine go (m_set) ?_
  refine go (m_set) ?_
  refine .nil ⟨by kernel_rfl, ?_⟩
  refine d_cutF (fun (b25 : Int × Int) => ⟨[(3, DU p3), (11, .ptr 0 0 0), (13, .own 1 0 v3.length), (17, DI b20.1), (20, .ptr 2 0 0), (21, DU b25.1), (22, DI b25.2)], [(0, ⟨3, false, false, [[DI v2.1.sh, .sl (v2.1.ws.map uC), .sl (v2.1.fs.map frC)]]⟩), (1, ⟨1, true, false, v3.map iC⟩), (2, ⟨3, false, false, [[DI b20.2.sh, .sl (b20.2.ws.map uC), .sl (b20.2.fs.map frC)]]⟩)], 3⟩) H (fun z26 H => ?_) (fun b25 H => ?_)
  ·
   refine d_rs rfl ?_
   refine go (m_move) ?_
   refine .nil ⟨by kernel_rfl, ?_⟩
   by_cases h27 : p4 = true
   ·
    replace H := iT h27 H
    refine d_condE rfl h27 ?_
    replace H := bnd H
    obtain ⟨v28, hv28, H⟩ := H
    refine d_region rfl ?_
    refine go (m_load ty_25) ?_
    refine go (m_move) ?_
    refine go (m_move) ?_
    refine go (m_cS [] (F_object_Ref_ok hv28) rfl ScS.nil) ?_
    refine go (m_move) ?_
    refine go (m_ext) ?_
    refine go (m_ext) ?_
    refine go (m_set) ?_
    refine go (m_set) ?_
    refine .nil ⟨by kernel_rfl, ?_⟩
    have e := som H; subst e
    exact wkE [(0, 0), (1, 1), (2, 2)]
   replace H := iF h27 H
   refine d_condN rfl (eq_false_of_ne_true h27) ?_
   refine d_skip ?_
   have e := som H; subst e
   exact wkE [(0, 0), (1, 1), (2, 2)]
  refine d_seq fun K k29 => ?_
  by_cases h30 : b20.1 = 0
  ·
   replace H := iT h30 H
   by_cases h31 : b25.2 = 0
   ·
    replace H := iT h31 H
    by_cases h32 : b25.1 = p3
    ·
     replace H := iT h32 H
     refine d_rs rfl ?_
     refine go (m_move) ?_
     refine go (m_neq) ?_
     refine go (m_move) ?_
     refine go (m_move) ?_ (gY (congrArg not (decide_eq_true h30)))
     refine go (m_neq) ?_ (gY (congrArg not (decide_eq_true h30)))
     refine go (m_pickE (congrArg not (decide_eq_true h30))) ?_
     refine go (m_move) ?_
     refine go (m_move) ?_ (gY (congrArg not (decide_eq_true h31)))
     refine go (m_move) ?_ (gY (congrArg not (decide_eq_true h31)))
     refine go (m_neq) ?_ (gY (congrArg not (decide_eq_true h31)))
     refine go (m_pickE (congrArg not (decide_eq_true h31))) ?_
     refine go (m_move) ?_
     refine go (m_fa ty_25) ?_ (gY (congrArg not (decide_eq_true h32)))
     refine go (m_load ty_22) ?_ (gY (congrArg not (decide_eq_true h32)))
     refine go (m_lenE ty_22) ?_ (gY (congrArg not (decide_eq_true h32)))
     refine go (m_fa ty_25) ?_ (gY (congrArg not (decide_eq_true h32)))
     refine go (m_load ty_22) ?_ (gY (congrArg not (decide_eq_true h32)))
     refine go (m_lenE ty_22) ?_ (gY (congrArg not (decide_eq_true h32)))
     refine go (m_neq) ?_ (gY (congrArg not (decide_eq_true h32)))
     refine go (m_pickE (congrArg not (decide_eq_true h32))) ?_
     refine .nil ⟨by kernel_rfl, ?_⟩
     by_cases h33 : (b20.2.ws.length : Int) = (v2.1.ws.length : Int)
     ·
      replace H := iT h33 H
      refine d_condN rfl (congrArg not (decide_eq_true h33)) ?_
      refine d_skip ?_
      refine k29 _ ?_
      refine d_rs rfl ?_
      refine go (m_set) ?_
      refine .nil ⟨by kernel_rfl, ?_⟩
      refine d_cutF (fun (b34 : Int) => ⟨[(11, .ptr 0 0 0), (13, .own 1 0 v3.length), (20, .ptr 2 0 0), (23, DI b34)], [(0, ⟨3, false, false, [[DI v2.1.sh, .sl (v2.1.ws.map uC), .sl (v2.1.fs.map frC)]]⟩), (1, ⟨1, true, false, v3.map iC⟩), (2, ⟨3, false, false, [[DI b20.2.sh, .sl (b20.2.ws.map uC), .sl (b20.2.fs.map frC)]]⟩)], 3⟩) H (fun z35 H => ?_) (fun b34 H => ?_)
      ·
       refine d_rs rfl ?_
       refine go (m_fa ty_25) ?_
       refine go (m_load ty_22) ?_
       refine go (m_lenE ty_22) ?_
       refine go (m_move) ?_
       refine .nil ⟨by kernel_rfl, ?_⟩
       refine d_block ?_
       refine d_loopF (fun (s37 : Int × Int) => ⟨[(11, .ptr 0 0 0), (13, .own 1 0 v3.length), (20, .ptr 2 0 0), (23, DI s37.1), (125, DI (v2.1.ws.length : Int)), (126, DI s37.2)], [(0, ⟨3, false, false, [[DI v2.1.sh, .sl (v2.1.ws.map uC), .sl (v2.1.fs.map frC)]]⟩), (1, ⟨1, true, false, v3.map iC⟩), (2, ⟨3, false, false, [[DI b20.2.sh, .sl (b20.2.ws.map uC), .sl (b20.2.fs.map frC)]]⟩)], 3⟩) H (wkE [(0, 0), (1, 1), (2, 2)]) (fun s37 y38 H hq38 => ?_)
       refine d_rs rfl ?_
       refine go (m_lss) ?_
       refine .nil ⟨by kernel_rfl, ?_⟩
       refine d_seq fun K k39 => ?_
       by_cases h40 : s37.2 < (v2.1.ws.length : Int)
       ·
        replace H := iT h40 H
        refine d_condE rfl (decide_eq_true h40) ?_
        refine d_skip ?_
        refine k39 _ ?_
        refine d_seq fun K k41 => ?_
        refine d_block ?_
        refine d_rs rfl ?_
        refine go (m_move) ?_
        refine go (m_set) ?_
        refine .nil ⟨by kernel_rfl, ?_⟩
        replace H := bnd H
        obtain ⟨v42, hv42, H⟩ := H
        replace H := bnd H
        obtain ⟨v43, hv43, H⟩ := H
        refine d_as mixedP rfl (by kernel_rfl) ?_
        refine go (m_fa ty_25) ?_
        refine go (m_load ty_22) ?_
        refine go (m_move) ?_
        refine go (m_iaS hv42 ty_22 ty_50) ?_
        refine go (m_load ty_50) ?_
        refine go (m_fa ty_25) ?_
        refine go (m_load ty_22) ?_
        refine go (m_move) ?_
        refine go (m_iaS hv43 ty_22 ty_50) ?_
        refine go (m_load ty_50) ?_
        refine go (m_neq) ?_
        refine .nil ⟨⟨by kernel_rfl, by kernel_rfl⟩, ?_⟩
        by_cases h44 : v42 = v43
        ·
         replace H := iT h44 H
         refine d_condN rfl (congrArg not (decide_eq_true h44)) ?_
         refine d_skip ?_
         refine k41 _ ?_
         refine d_region rfl ?_
         refine go (m_add) ?_
         refine go (m_move) ?_
         refine .nil ⟨by kernel_rfl, ?_⟩
         have e := som H; subst e
         exact ⟨_, rfl, wkE [(0, 0), (1, 1), (2, 2)]⟩
        replace H := iF h44 H
        refine d_condE rfl (congrArg not (decide_eq_false h44)) ?_
        refine d_region rfl ?_
        refine go (m_move) ?_
        refine go (m_add) ?_
        refine go (m_set) ?_
        refine .nil ⟨by kernel_rfl, ?_⟩
        refine k41 _ ?_
        refine d_region rfl ?_
        refine go (m_add) ?_
        refine go (m_move) ?_
        refine .nil ⟨by kernel_rfl, ?_⟩
        have e := som H; subst e
        exact ⟨_, rfl, wkE [(0, 0), (1, 1), (2, 2)]⟩
       replace H := iF h40 H
       refine d_condN rfl (decide_eq_false h40) ?_
       refine d_exit ?_
       have e := som H; subst e
       have e := hq38 _ rfl; subst e
       exact wkE [(0, 0), (1, 1), (2, 2)]
      refine d_cutR (fun (b45 : Unit) => ⟨[(23, DI b34)], [], 0⟩) H (fun z46 H hr46 => ?_) (fun b45 H => ?_)
      ·
       refine d_rs rfl ?_
       refine go (m_move) ?_
       refine go (m_lenE ty_26) ?_
       refine go (m_move) ?_
       refine .nil ⟨by kernel_rfl, ?_⟩
       refine d_block ?_
       refine d_loopF (fun (s48 : Int) => ⟨[(11, .ptr 0 0 0), (20, .ptr 1 0 0), (23, DI b34), (143, .own 2 0 v3.length), (144, DI (v3.length : Int)), (145, DI s48)], [(0, ⟨3, false, false, [[DI v2.1.sh, .sl (v2.1.ws.map uC), .sl (v2.1.fs.map frC)]]⟩), (1, ⟨3, false, false, [[DI b20.2.sh, .sl (b20.2.ws.map uC), .sl (b20.2.fs.map frC)]]⟩), (2, ⟨1, true, false, v3.map iC⟩)], 3⟩) H (wkE [(0, 0), (1, 2), (2, 1)]) (fun s48 y49 H hq49 => ?_)
       refine d_rs rfl ?_
       refine go (m_lss) ?_
       refine .nil ⟨by kernel_rfl, ?_⟩
       refine d_seq fun K k50 => ?_
       by_cases h51 : s48 < (v3.length : Int)
       ·
        replace H := iT h51 H
        refine d_condE rfl (decide_eq_true h51) ?_
        refine d_skip ?_
        refine k50 _ ?_
        refine d_seq fun K k52 => ?_
        refine d_block ?_
        replace H := bnd H
        obtain ⟨v53, hv53, H⟩ := H
        refine d_rs rfl ?_
        refine go (m_iaO hv53 ty_26 ty_3 rfl rfl rfl) ?_
        refine go (m_ldO hv53 ty_3) ?_
        refine go (m_set) ?_
        refine .nil ⟨by kernel_rfl, ?_⟩
        replace H := bnd H
        obtain ⟨v54, hv54, H⟩ := H
        refine d_rs rfl ?_
        refine go (m_load ty_25) ?_
        refine go (m_move) ?_
        refine go (m_cS [] (F_object_Shape_ok hv54) rfl ScS.nil) ?_
        refine go (m_move) ?_
        refine go (m_ext) ?_
        refine go (m_ext) ?_
        refine go (m_ext) ?_
        refine go (m_set) ?_
        refine go (m_set) ?_
        refine go (m_set) ?_
        refine .nil ⟨by kernel_rfl, ?_⟩
        replace H := bnd H
        obtain ⟨v55, hv55, H⟩ := H
        refine d_rs rfl ?_
        refine go (m_load ty_25) ?_
        refine go (m_move) ?_
        refine go (m_cS [] (F_object_Shape_ok hv55) rfl ScS.nil) ?_
        refine go (m_move) ?_
        refine go (m_ext) ?_
        refine go (m_ext) ?_
        refine go (m_ext) ?_
        refine go (m_set) ?_
        refine go (m_set) ?_
        refine go (m_set) ?_
        refine .nil ⟨by kernel_rfl, ?_⟩
        by_cases h56 : v54.1 = v55.1
        ·
         replace H := iT h56 H
         by_cases h57 : v54.2.1 = v55.2.1
         ·
          replace H := iT h57 H
          by_cases h58 : v54.2.2 = 0
          ·
           replace H := iT h58 H
           refine d_rs rfl ?_
           refine go (m_move) ?_
           refine go (m_move) ?_
           refine go (m_neq) ?_
           refine go (m_move) ?_
           refine go (m_move) ?_ (gY (congrArg not (decide_eq_true h56)))
           refine go (m_move) ?_ (gY (congrArg not (decide_eq_true h56)))
           refine go (m_neq) ?_ (gY (congrArg not (decide_eq_true h56)))
           refine go (m_pickE (congrArg not (decide_eq_true h56))) ?_
           refine go (m_move) ?_
           refine go (m_move) ?_ (gY (congrArg not (decide_eq_true h57)))
           refine go (m_neq) ?_ (gY (congrArg not (decide_eq_true h57)))
           refine go (m_pickE (congrArg not (decide_eq_true h57))) ?_
           refine go (m_move) ?_
           refine go (m_move) ?_ (gY (congrArg not (decide_eq_true h58)))
           refine go (m_neq) ?_ (gY (congrArg not (decide_eq_true h58)))
           refine go (m_pickE (congrArg not (decide_eq_true h58))) ?_
           refine .nil ⟨by kernel_rfl, ?_⟩
           by_cases h59 : v55.2.2 = 0
           ·
            replace H := iT h59 H
            refine d_condN rfl (congrArg not (decide_eq_true h59)) ?_
            refine d_skip ?_
            refine k52 _ ?_
            refine d_region rfl ?_
            refine go (m_add) ?_
            refine go (m_move) ?_
            refine .nil ⟨by kernel_rfl, ?_⟩
            have e := som H; subst e
            exact ⟨_, rfl, wkE [(0, 0), (1, 1), (2, 2)]⟩
           replace H := iF h59 H
           refine d_condE rfl (congrArg not (decide_eq_false h59)) ?_
           refine d_rs rfl ?_
           refine go (m_set) ?_
           refine .nil ⟨by kernel_rfl, ?_⟩
           refine d_ret ?_
           change RetD _ _ _ _ _ _ _
           have e := som H; subst e
           have e := hq49 _ rfl; subst e
           have e := hr46 _ rfl; subst e
           exact finE [] (.tmp (.nil))
          replace H := iF h58 H
          refine d_rs rfl ?_
          refine go (m_move) ?_
          refine go (m_move) ?_
          refine go (m_neq) ?_
          refine go (m_move) ?_
          refine go (m_move) ?_ (gY (congrArg not (decide_eq_true h56)))
          refine go (m_move) ?_ (gY (congrArg not (decide_eq_true h56)))
          refine go (m_neq) ?_ (gY (congrArg not (decide_eq_true h56)))
          refine go (m_pickE (congrArg not (decide_eq_true h56))) ?_
          refine go (m_move) ?_
          refine go (m_move) ?_ (gY (congrArg not (decide_eq_true h57)))
          refine go (m_neq) ?_ (gY (congrArg not (decide_eq_true h57)))
          refine go (m_pickE (congrArg not (decide_eq_true h57))) ?_
          refine go (m_move) ?_
          refine noE (congrArg not (decide_eq_false h58)) ?_
          refine noE (congrArg not (decide_eq_false h58)) ?_
          refine go (m_pickE (congrArg not (decide_eq_false h58))) ?_
          refine .nil ⟨by kernel_rfl, ?_⟩
          refine d_condE rfl rfl ?_
          refine d_rs rfl ?_
          refine go (m_set) ?_
          refine .nil ⟨by kernel_rfl, ?_⟩
          refine d_ret ?_
          change RetD _ _ _ _ _ _ _
          have e := som H; subst e
          have e := hq49 _ rfl; subst e
          have e := hr46 _ rfl; subst e
          exact finE [] (.tmp (.nil))
         replace H := iF h57 H
         refine d_rs rfl ?_
         refine go (m_move) ?_
         refine go (m_move) ?_
         refine go (m_neq) ?_
         refine go (m_move) ?_
         refine go (m_move) ?_ (gY (congrArg not (decide_eq_true h56)))
         refine go (m_move) ?_ (gY (congrArg not (decide_eq_true h56)))
         refine go (m_neq) ?_ (gY (congrArg not (decide_eq_true h56)))
         refine go (m_pickE (congrArg not (decide_eq_true h56))) ?_
         refine go (m_move) ?_
         refine noE (congrArg not (decide_eq_false h57)) ?_
         refine noE (congrArg not (decide_eq_false h57)) ?_
         refine go (m_pickE (congrArg not (decide_eq_false h57))) ?_
         refine go (m_move) ?_
         refine noE rfl ?_
         refine noE rfl ?_
         refine go (m_pickE rfl) ?_
         refine .nil ⟨by kernel_rfl, ?_⟩
         refine d_condE rfl rfl ?_
         refine d_rs rfl ?_
         refine go (m_set) ?_
         refine .nil ⟨by kernel_rfl, ?_⟩
         refine d_ret ?_
         change RetD _ _ _ _ _ _ _
         have e := som H; subst e
         have e := hq49 _ rfl; subst e
         have e := hr46 _ rfl; subst e
         exact finE [] (.tmp (.nil))
        replace H := iF h56 H
        refine d_rs rfl ?_
        refine go (m_move) ?_
        refine go (m_move) ?_
        refine go (m_neq) ?_
        refine go (m_move) ?_
        refine noE (congrArg not (decide_eq_false h56)) ?_
        refine noE (congrArg not (decide_eq_false h56)) ?_
        refine noE (congrArg not (decide_eq_false h56)) ?_
        refine go (m_pickE (congrArg not (decide_eq_false h56))) ?_
        refine go (m_move) ?_
        refine noE rfl ?_
        refine noE rfl ?_
        refine go (m_pickE rfl) ?_
        refine go (m_move) ?_
        refine noE rfl ?_
        refine noE rfl ?_
        refine go (m_pickE rfl) ?_
        refine .nil ⟨by kernel_rfl, ?_⟩
        refine d_condE rfl rfl ?_
        refine d_rs rfl ?_
        refine go (m_set) ?_
        refine .nil ⟨by kernel_rfl, ?_⟩
        refine d_ret ?_
        change RetD _ _ _ _ _ _ _
        have e := som H; subst e
        have e := hq49 _ rfl; subst e
        have e := hr46 _ rfl; subst e
        exact finE [] (.tmp (.nil))
       replace H := iF h51 H
       refine d_condN rfl (decide_eq_false h51) ?_
       refine d_exit ?_
       have e := som H; subst e
       have e := hq49 _ rfl; subst e
       exact ⟨_, rfl, wkE []⟩
      refine d_rs rfl ?_
      refine go (m_move) ?_
      refine go (m_leq) ?_
      refine go (m_set) ?_
      refine .nil ⟨by kernel_rfl, ?_⟩
      refine d_ret ?_
      change RetD _ _ _ _ _ _ _
      have e := som H; subst e
      exact finE [] (.tmp (.nil))
     replace H := iF h33 H
     refine d_condE rfl (congrArg not (decide_eq_false h33)) ?_
     refine d_rs rfl ?_
     refine go (m_set) ?_
     refine .nil ⟨by kernel_rfl, ?_⟩
     refine d_ret ?_
     change RetD _ _ _ _ _ _ _
     have e := som H; subst e
     exact finE [] (.tmp (.nil))
    replace H := iF h32 H
    refine d_rs rfl ?_
    refine go (m_move) ?_
    refine go (m_neq) ?_
    refine go (m_move) ?_
    refine go (m_move) ?_ (gY (congrArg not (decide_eq_true h30)))
    refine go (m_neq) ?_ (gY (congrArg not (decide_eq_true h30)))
    refine go (m_pickE (congrArg not (decide_eq_true h30))) ?_
    refine go (m_move) ?_
    refine go (m_move) ?_ (gY (congrArg not (decide_eq_true h31)))
    refine go (m_move) ?_ (gY (congrArg not (decide_eq_true h31)))
    refine go (m_neq) ?_ (gY (congrArg not (decide_eq_true h31)))
    refine go (m_pickE (congrArg not (decide_eq_true h31))) ?_
    refine go (m_move) ?_
    refine noE (congrArg not (decide_eq_false h32)) ?_
    refine noE (congrArg not (decide_eq_false h32)) ?_
    refine noE (congrArg not (decide_eq_false h32)) ?_
    refine noE (congrArg not (decide_eq_false h32)) ?_
    refine noE (congrArg not (decide_eq_false h32)) ?_
    refine noE (congrArg not (decide_eq_false h32)) ?_
    refine noE (congrArg not (decide_eq_false h32)) ?_
    refine go (m_pickE (congrArg not (decide_eq_false h32))) ?_
    refine .nil ⟨by kernel_rfl, ?_⟩
    refine d_condE rfl rfl ?_
    refine d_rs rfl ?_
    refine go (m_set) ?_
    refine .nil ⟨by kernel_rfl, ?_⟩
    refine d_ret ?_
    change RetD _ _ _ _ _ _ _
    have e := som H; subst e
    exact finE [] (.tmp (.nil))
   replace H := iF h31 H
   refine d_rs rfl ?_
   refine go (m_move) ?_
   refine go (m_neq) ?_
   refine go (m_move) ?_
   refine go (m_move) ?_ (gY (congrArg not (decide_eq_true h30)))
   refine go (m_neq) ?_ (gY (congrArg not (decide_eq_true h30)))
   refine go (m_pickE (congrArg not (decide_eq_true h30))) ?_
   refine go (m_move) ?_
   refine noE (congrArg not (decide_eq_false h31)) ?_
   refine noE (congrArg not (decide_eq_false h31)) ?_
   refine noE (congrArg not (decide_eq_false h31)) ?_
   refine go (m_pickE (congrArg not (decide_eq_false h31))) ?_
   refine go (m_move) ?_
   refine noE rfl ?_
   refine noE rfl ?_
   refine noE rfl ?_
   refine noE rfl ?_
   refine noE rfl ?_
   refine noE rfl ?_
   refine noE rfl ?_
   refine go (m_pickE rfl) ?_
   refine .nil ⟨by kernel_rfl, ?_⟩
   refine d_condE rfl rfl ?_
   refine d_rs rfl ?_
   refine go (m_set) ?_
   refine .nil ⟨by kernel_rfl, ?_⟩
   refine d_ret ?_
   change RetD _ _ _ _ _ _ _
   have e := som H; subst e
   exact finE [] (.tmp (.nil))
  replace H := iF h30 H
  refine d_rs rfl ?_
  refine go (m_move) ?_
  refine go (m_neq) ?_
  refine go (m_move) ?_
  refine noE (congrArg not (decide_eq_false h30)) ?_
  refine noE (congrArg not (decide_eq_false h30)) ?_
  refine go (m_pickE (congrArg not (decide_eq_false h30))) ?_
  refine go (m_move) ?_
  refine noE rfl ?_
  refine noE rfl ?_
  refine noE rfl ?_
  refine go (m_pickE rfl) ?_
  refine go (m_move) ?_
  refine noE rfl ?_
  refine noE rfl ?_
  refine noE rfl ?_
  refine noE rfl ?_
  refine noE rfl ?_
  refine noE rfl ?_
  refine noE rfl ?_
  refine go (m_pickE rfl) ?_
  refine .nil ⟨by kernel_rfl, ?_⟩
  refine d_condE rfl rfl ?_
  refine d_rs rfl ?_
  refine go (m_set) ?_
  refine .nil ⟨by kernel_rfl, ?_⟩
  refine d_ret ?_
  change RetD _ _ _ _ _ _ _
  have e := som H; subst e
  exact finE [] (.tmp (.nil))
 replace H := iF h14 H
 refine d_condE rfl (congrArg not (decide_eq_false h14)) ?_
 refine d_rs rfl ?_
 refine go (m_set) ?_
 refine .nil ⟨by kernel_rfl, ?_⟩
 refine d_ret ?_
 change RetD _ _ _ _ _ _ _
 have e := som H; subst e
 exact finE [] (.tmp (.nil))

noncomputable def F_law08_ObjectApart (p0 : List Int) (p1 : Int) (p2 : Int) (p3 : Int) (p4 : Int) : Option Bool :=
 (F_make_New p0).bind fun v1 =>
 (F_make_Space v1).bind fun v2 =>
 (F_law08_objects v2.1 v2.2.1).bind fun v3 =>
 if (v3.length : Int) < 2 then
 ((F_law08_awake).bind fun v6 =>
 some (v6))
 else
 (F_make_Mod p1 (v3.length : Int)).bind fun v7 =>
 (at_ v3 v7).bind fun v8 =>
 (F_make_Mod p3 (v3.length : Int)).bind fun v9 =>
 (at_ v3 v9).bind fun v10 =>
 (F_object_Shape v2.1 v8).bind fun v11 =>
 if v11.2.2 = 0 then
 (if v8 = v10 then
 ((F_law08_awake).bind fun v16 =>
 some (v16))
 else
 if (w64 (v11.1 + v11.2.1)) = 0 then
 ((F_law08_awake).bind fun v18 =>
 some (v18))
 else
 (F_make_Mod p2 (w64 (v11.1 + v11.2.1))).bind fun v19 =>
 (F_object_SetRef v2.1 v8 v19 p4).bind fun v20 =>
 (if v11.1 ≤ v19 then
 ((F_object_SetData v2.1 v8 (w64 (v19 - v11.1)) p4).bind fun v24 =>
 some ((v24.2, v24.1)))
 else
 some ((v20.2, v20.1))).bind fun (b21 : Int × Sp) =>
 if b21.1 = 0 then
 ((F_object_Shape v2.1 v10).bind fun v27 =>
 if v27.2.2 = 0 then
 (bndR (loopO (fun (s33 : Int) =>
 if s33 < v27.1 then
 ((F_object_Ref v2.1 v10 s33).bind fun v38 =>
 (F_object_Ref b21.2 v10 s33).bind fun v39 =>
 if v38.1 = v39.1 then
 (if v38.2 = 0 then
 (if v39.2 = 0 then
 (some (.go (w64 (s33 + 1))))
 else
 some (.out (.inr (false))))
 else
 some (.out (.inr (false))))
 else
 some (.out (.inr (false))))
 else
 some (.out (.inl (())))) 0) fun (b30 : Unit) =>
 bndR (loopO (fun (s46 : Int) =>
 if s46 < v27.2.1 then
 ((F_object_Data v2.1 v10 s46).bind fun v51 =>
 (F_object_Data b21.2 v10 s46).bind fun v52 =>
 if v51.1 = v52.1 then
 (if v51.2 = 0 then
 (if v52.2 = 0 then
 (some (.go (w64 (s46 + 1))))
 else
 some (.out (.inr (false))))
 else
 some (.out (.inr (false))))
 else
 some (.out (.inr (false))))
 else
 some (.out (.inl (())))) 0) fun (b43 : Unit) =>
 (F_law08_awake).bind fun v56 =>
 some (v56))
 else
 some (false))
 else
 some (false))
 else
 some (false)

set_option maxRecDepth 20000 in
set_option maxHeartbeats 4000000 in
theorem F_law08_ObjectApart_ok {p0 : List Int} {p1 : Int} {p2 : Int} {p3 : Int} {p4 : Int} {r : Bool} (H : F_law08_ObjectApart p0 p1 p2 p3 p4 = some r) : DCall Try.prog 8 [.sl (p0.map iC), DI p1, DI p2, DI p3, DU p4] [] (DB r) [] := by
 unfold F_law08_ObjectApart at H
 refine DCall.mk Try.func8 rfl rfl ?_
 refine d_rs rfl ?_
 refine go (m_set) ?_
 refine .nil ⟨by kernel_rfl, ?_⟩
 replace H := bnd H
 obtain ⟨v1, hv1, H⟩ := H
 replace H := bnd H
 obtain ⟨v2, hv2, H⟩ := H
 refine d_rs rfl ?_
 refine go (m_move) ?_
 refine go (m_cG [] (F_make_New_ok hv1)) ?_
 refine go (m_cG [(0, 0)] (F_make_Space_ok hv2)) ?_
 refine go (m_move) ?_
 refine go (m_ext) ?_
 refine go (m_ext) ?_
 refine go (m_alloc ty_25) ?_
 refine go (m_store ty_25) ?_
 refine go (m_set) ?_
 refine .nil ⟨by kernel_rfl, ?_⟩
 replace H := bnd H
 obtain ⟨v3, hv3, H⟩ := H
 refine d_rs rfl ?_
 refine go (m_load ty_25) ?_
 refine go (m_move) ?_
 refine go (m_cS [] (F_law08_objects_ok hv3) rfl (ScS.cons (scC (fun _ => rfl)) ScS.nil)) ?_
 refine go (m_set) ?_
 refine .nil ⟨by kernel_rfl, ?_⟩
 refine d_seq fun K k4 => ?_
 refine d_rs rfl ?_
 refine go (m_move) ?_
 refine go (m_lenE ty_26) ?_
 refine go (m_lss) ?_
 refine .nil ⟨by kernel_rfl, ?_⟩
 by_cases h5 : (v3.length : Int) < 2
 ·
  replace H := iT h5 H
  refine d_condE rfl (decide_eq_true h5) ?_
  replace H := bnd H
  obtain ⟨v6, hv6, H⟩ := H
  refine d_rs rfl ?_
  refine go (m_cS [] (F_law08_awake_ok hv6) rfl ScS.nil) ?_
  refine go (m_set) ?_
  refine .nil ⟨by kernel_rfl, ?_⟩
  refine d_ret ?_
  change RetD _ _ _ _ _ _ _
  have e := som H; subst e
  exact finE [] (.tmp (.nil))
 replace H := iF h5 H
 refine d_condN rfl (decide_eq_false h5) ?_
 refine d_skip ?_
 refine k4 _ ?_
 replace H := bnd H
 obtain ⟨v7, hv7, H⟩ := H
 replace H := bnd H
 obtain ⟨v8, hv8, H⟩ := H
 refine d_rs rfl ?_
 refine go (m_move) ?_
 refine go (m_move) ?_
 refine go (m_move) ?_
 refine go (m_lenE ty_26) ?_
 refine go (m_cS [] (F_make_Mod_ok hv7) rfl ScS.nil) ?_
 refine go (m_iaO hv8 ty_26 ty_3 rfl rfl rfl) ?_
 refine go (m_ldO hv8 ty_3) ?_
 refine go (m_set) ?_
 refine .nil ⟨by kernel_rfl, ?_⟩
 replace H := bnd H
 obtain ⟨v9, hv9, H⟩ := H
 replace H := bnd H
 obtain ⟨v10, hv10, H⟩ := H
 refine d_rs rfl ?_
 refine go (m_move) ?_
 refine go (m_move) ?_
 refine go (m_move) ?_
 refine go (m_lenE ty_26) ?_
 refine go (m_cS [] (F_make_Mod_ok hv9) rfl ScS.nil) ?_
 refine go (m_iaO hv10 ty_26 ty_3 rfl rfl rfl) ?_
 refine go (m_ldO hv10 ty_3) ?_
 refine go (m_set) ?_
 refine .nil ⟨by kernel_rfl, ?_⟩
 replace H := bnd H
 obtain ⟨v11, hv11, H⟩ := H
 refine d_rs rfl ?_
 refine go (m_load ty_25) ?_
 refine go (m_move) ?_
 refine go (m_cS [] (F_object_Shape_ok hv11) rfl ScS.nil) ?_
 refine go (m_move) ?_
 refine go (m_ext) ?_
 refine go (m_ext) ?_
 refine go (m_ext) ?_
 refine go (m_set) ?_
 refine go (m_set) ?_
 refine go (m_set) ?_
 refine .nil ⟨by kernel_rfl, ?_⟩
 refine d_seq fun K k12 => ?_
 refine d_rs rfl ?_
 refine go (m_move) ?_
 refine go (m_neq) ?_
 refine .nil ⟨by kernel_rfl, ?_⟩
 by_cases h13 : v11.2.2 = 0
 ·
  replace H := iT h13 H
  refine d_condN rfl (congrArg not (decide_eq_true h13)) ?_
  refine d_skip ?_
  refine k12 _ ?_
  refine d_seq fun K k14 => ?_
  by_cases h15 : v8 = v10
  ·
   replace H := iT h15 H
   refine d_rs rfl ?_
   refine go (m_move) ?_
   refine go (m_move) ?_
   refine go (m_eql) ?_
   refine go (m_move) ?_
   refine noE (decide_eq_true h15) ?_
   refine noE (decide_eq_true h15) ?_
   refine noE (decide_eq_true h15) ?_
   refine noE (decide_eq_true h15) ?_
   refine go (m_pickE (decide_eq_true h15)) ?_
   refine .nil ⟨by kernel_rfl, ?_⟩
   refine d_condE rfl rfl ?_
   replace H := bnd H
   obtain ⟨v16, hv16, H⟩ := H
   refine d_rs rfl ?_
   refine go (m_cS [] (F_law08_awake_ok hv16) rfl ScS.nil) ?_
   refine go (m_set) ?_
   refine .nil ⟨by kernel_rfl, ?_⟩
   refine d_ret ?_
   change RetD _ _ _ _ _ _ _
   have e := som H; subst e
   exact finE [] (.tmp (.nil))
  replace H := iF h15 H
  refine d_rs rfl ?_
  refine go (m_move) ?_
  refine go (m_move) ?_
  refine go (m_eql) ?_
  refine go (m_move) ?_
  refine go (m_move) ?_ (gY (decide_eq_false h15))
  refine go (m_move) ?_ (gY (decide_eq_false h15))
  refine go (m_add) ?_ (gY (decide_eq_false h15))
  refine go (m_eql) ?_ (gY (decide_eq_false h15))
  refine go (m_pickE (decide_eq_false h15)) ?_
  refine .nil ⟨by kernel_rfl, ?_⟩
  by_cases h17 : (w64 (v11.1 + v11.2.1)) = 0
  ·
   replace H := iT h17 H
   refine d_condE rfl (decide_eq_true h17) ?_
   replace H := bnd H
   obtain ⟨v18, hv18, H⟩ := H
   refine d_rs rfl ?_
   refine go (m_cS [] (F_law08_awake_ok hv18) rfl ScS.nil) ?_
   refine go (m_set) ?_
   refine .nil ⟨by kernel_rfl, ?_⟩
   refine d_ret ?_
   change RetD _ _ _ _ _ _ _
   have e := som H; subst e
   exact finE [] (.tmp (.nil))
  replace H := iF h17 H
  refine d_condN rfl (decide_eq_false h17) ?_
  refine d_skip ?_
  refine k14 _ ?_
  replace H := bnd H
  obtain ⟨v19, hv19, H⟩ := H
  refine d_rs rfl ?_
  refine go (m_move) ?_
  refine go (m_move) ?_
  refine go (m_move) ?_
  refine go (m_add) ?_
  refine go (m_cS [] (F_make_Mod_ok hv19) rfl ScS.nil) ?_
  refine go (m_set) ?_
  refine .nil ⟨by kernel_rfl, ?_⟩
  replace H := bnd H
  obtain ⟨v20, hv20, H⟩ := H
  refine d_rs rfl ?_
  refine go (m_load ty_25) ?_
  refine go (m_move) ?_
  refine go (m_move) ?_
  refine go (m_move) ?_
  refine go (m_cG [] (F_object_SetRef_ok hv20)) ?_
  refine go (m_move) ?_
  refine go (m_ext) ?_
  refine go (m_ext) ?_
  refine go (m_alloc ty_25) ?_
  refine go (m_store ty_25) ?_
  refine go (m_set) ?_
  refine .nil ⟨by kernel_rfl, ?_⟩
  refine d_cutF (fun (b21 : Int × Sp) => ⟨[(11, .ptr 0 0 0), (15, DI v10), (18, DI b21.1), (20, .ptr 1 0 0)], [(0, ⟨3, false, false, [[DI v2.1.sh, .sl (v2.1.ws.map uC), .sl (v2.1.fs.map frC)]]⟩), (1, ⟨3, false, false, [[DI b21.2.sh, .sl (b21.2.ws.map uC), .sl (b21.2.fs.map frC)]]⟩)], 2⟩) H (fun z22 H => ?_) (fun b21 H => ?_)
  ·
   refine d_rs rfl ?_
   refine go (m_move) ?_
   refine go (m_move) ?_
   refine go (m_geq) ?_
   refine .nil ⟨by kernel_rfl, ?_⟩
   by_cases h23 : v11.1 ≤ v19
   ·
    replace H := iT h23 H
    refine d_condE rfl (decide_eq_true h23) ?_
    replace H := bnd H
    obtain ⟨v24, hv24, H⟩ := H
    refine d_region rfl ?_
    refine go (m_load ty_25) ?_
    refine go (m_move) ?_
    refine go (m_move) ?_
    refine go (m_move) ?_
    refine go (m_sub) ?_
    refine go (m_move) ?_
    refine go (m_cG [] (F_object_SetData_ok hv24)) ?_
    refine go (m_move) ?_
    refine go (m_ext) ?_
    refine go (m_ext) ?_
    refine go (m_store ty_25) ?_
    refine go (m_set) ?_
    refine .nil ⟨by kernel_rfl, ?_⟩
    have e := som H; subst e
    exact wkE [(0, 2), (1, 4)]
   replace H := iF h23 H
   refine d_condN rfl (decide_eq_false h23) ?_
   refine d_skip ?_
   have e := som H; subst e
   exact wkE [(0, 2), (1, 4)]
  refine d_seq fun K k25 => ?_
  refine d_rs rfl ?_
  refine go (m_move) ?_
  refine go (m_neq) ?_
  refine .nil ⟨by kernel_rfl, ?_⟩
  by_cases h26 : b21.1 = 0
  ·
   replace H := iT h26 H
   refine d_condN rfl (congrArg not (decide_eq_true h26)) ?_
   refine d_skip ?_
   refine k25 _ ?_
   replace H := bnd H
   obtain ⟨v27, hv27, H⟩ := H
   refine d_rs rfl ?_
   refine go (m_load ty_25) ?_
   refine go (m_move) ?_
   refine go (m_cS [] (F_object_Shape_ok hv27) rfl ScS.nil) ?_
   refine go (m_move) ?_
   refine go (m_ext) ?_
   refine go (m_ext) ?_
   refine go (m_ext) ?_
   refine go (m_set) ?_
   refine go (m_set) ?_
   refine go (m_set) ?_
   refine .nil ⟨by kernel_rfl, ?_⟩
   refine d_seq fun K k28 => ?_
   refine d_rs rfl ?_
   refine go (m_move) ?_
   refine go (m_neq) ?_
   refine .nil ⟨by kernel_rfl, ?_⟩
   by_cases h29 : v27.2.2 = 0
   ·
    replace H := iT h29 H
    refine d_condN rfl (congrArg not (decide_eq_true h29)) ?_
    refine d_skip ?_
    refine k28 _ ?_
    refine d_cutR (fun (b30 : Unit) => ⟨[(11, .ptr 0 0 0), (15, DI v10), (20, .ptr 1 0 0), (22, DI v27.2.1)], [(0, ⟨3, false, false, [[DI v2.1.sh, .sl (v2.1.ws.map uC), .sl (v2.1.fs.map frC)]]⟩), (1, ⟨3, false, false, [[DI b21.2.sh, .sl (b21.2.ws.map uC), .sl (b21.2.fs.map frC)]]⟩)], 2⟩) H (fun z31 H hr31 => ?_) (fun b30 H => ?_)
    ·
     refine d_rs rfl ?_
     refine go (m_set) ?_
     refine .nil ⟨by kernel_rfl, ?_⟩
     refine d_block ?_
     refine d_loopF (fun (s33 : Int) => ⟨[(11, .ptr 0 0 0), (15, DI v10), (20, .ptr 1 0 0), (21, DI v27.1), (22, DI v27.2.1), (23, DI s33)], [(0, ⟨3, false, false, [[DI v2.1.sh, .sl (v2.1.ws.map uC), .sl (v2.1.fs.map frC)]]⟩), (1, ⟨3, false, false, [[DI b21.2.sh, .sl (b21.2.ws.map uC), .sl (b21.2.fs.map frC)]]⟩)], 2⟩) H (wkE [(0, 0), (1, 1)]) (fun s33 y34 H hq34 => ?_)
     refine d_seq fun K k35 => ?_
     refine d_rs rfl ?_
     refine go (m_move) ?_
     refine go (m_move) ?_
     refine go (m_lss) ?_
     refine .nil ⟨by kernel_rfl, ?_⟩
     by_cases h36 : s33 < v27.1
     ·
      replace H := iT h36 H
      refine d_condE rfl (decide_eq_true h36) ?_
      refine d_skip ?_
      refine k35 _ ?_
      refine d_seq fun K k37 => ?_
      refine d_block ?_
      replace H := bnd H
      obtain ⟨v38, hv38, H⟩ := H
      refine d_rs rfl ?_
      refine go (m_load ty_25) ?_
      refine go (m_move) ?_
      refine go (m_move) ?_
      refine go (m_cS [] (F_object_Ref_ok hv38) rfl ScS.nil) ?_
      refine go (m_move) ?_
      refine go (m_ext) ?_
      refine go (m_ext) ?_
      refine go (m_set) ?_
      refine go (m_set) ?_
      refine .nil ⟨by kernel_rfl, ?_⟩
      replace H := bnd H
      obtain ⟨v39, hv39, H⟩ := H
      refine d_rs rfl ?_
      refine go (m_load ty_25) ?_
      refine go (m_move) ?_
      refine go (m_move) ?_
      refine go (m_cS [] (F_object_Ref_ok hv39) rfl ScS.nil) ?_
      refine go (m_move) ?_
      refine go (m_ext) ?_
      refine go (m_ext) ?_
      refine go (m_set) ?_
      refine go (m_set) ?_
      refine .nil ⟨by kernel_rfl, ?_⟩
      by_cases h40 : v38.1 = v39.1
      ·
       replace H := iT h40 H
       by_cases h41 : v38.2 = 0
       ·
        replace H := iT h41 H
        refine d_rs rfl ?_
        refine go (m_move) ?_
        refine go (m_move) ?_
        refine go (m_neq) ?_
        refine go (m_move) ?_
        refine go (m_move) ?_ (gY (congrArg not (decide_eq_true h40)))
        refine go (m_neq) ?_ (gY (congrArg not (decide_eq_true h40)))
        refine go (m_pickE (congrArg not (decide_eq_true h40))) ?_
        refine go (m_move) ?_
        refine go (m_move) ?_ (gY (congrArg not (decide_eq_true h41)))
        refine go (m_neq) ?_ (gY (congrArg not (decide_eq_true h41)))
        refine go (m_pickE (congrArg not (decide_eq_true h41))) ?_
        refine .nil ⟨by kernel_rfl, ?_⟩
        by_cases h42 : v39.2 = 0
        ·
         replace H := iT h42 H
         refine d_condN rfl (congrArg not (decide_eq_true h42)) ?_
         refine d_skip ?_
         refine k37 _ ?_
         refine d_region rfl ?_
         refine go (m_move) ?_
         refine go (m_add) ?_
         refine go (m_set) ?_
         refine .nil ⟨by kernel_rfl, ?_⟩
         have e := som H; subst e
         exact ⟨_, rfl, wkE [(0, 0), (1, 1)]⟩
        replace H := iF h42 H
        refine d_condE rfl (congrArg not (decide_eq_false h42)) ?_
        refine d_rs rfl ?_
        refine go (m_set) ?_
        refine .nil ⟨by kernel_rfl, ?_⟩
        refine d_ret ?_
        change RetD _ _ _ _ _ _ _
        have e := som H; subst e
        have e := hq34 _ rfl; subst e
        have e := hr31 _ rfl; subst e
        exact finE [] (.tmp (.nil))
       replace H := iF h41 H
       refine d_rs rfl ?_
       refine go (m_move) ?_
       refine go (m_move) ?_
       refine go (m_neq) ?_
       refine go (m_move) ?_
       refine go (m_move) ?_ (gY (congrArg not (decide_eq_true h40)))
       refine go (m_neq) ?_ (gY (congrArg not (decide_eq_true h40)))
       refine go (m_pickE (congrArg not (decide_eq_true h40))) ?_
       refine go (m_move) ?_
       refine noE (congrArg not (decide_eq_false h41)) ?_
       refine noE (congrArg not (decide_eq_false h41)) ?_
       refine go (m_pickE (congrArg not (decide_eq_false h41))) ?_
       refine .nil ⟨by kernel_rfl, ?_⟩
       refine d_condE rfl rfl ?_
       refine d_rs rfl ?_
       refine go (m_set) ?_
       refine .nil ⟨by kernel_rfl, ?_⟩
       refine d_ret ?_
       change RetD _ _ _ _ _ _ _
       have e := som H; subst e
       have e := hq34 _ rfl; subst e
       have e := hr31 _ rfl; subst e
       exact finE [] (.tmp (.nil))
      replace H := iF h40 H
      refine d_rs rfl ?_
      refine go (m_move) ?_
      refine go (m_move) ?_
      refine go (m_neq) ?_
      refine go (m_move) ?_
      refine noE (congrArg not (decide_eq_false h40)) ?_
      refine noE (congrArg not (decide_eq_false h40)) ?_
      refine go (m_pickE (congrArg not (decide_eq_false h40))) ?_
      refine go (m_move) ?_
      refine noE rfl ?_
      refine noE rfl ?_
      refine go (m_pickE rfl) ?_
      refine .nil ⟨by kernel_rfl, ?_⟩
      refine d_condE rfl rfl ?_
      refine d_rs rfl ?_
      refine go (m_set) ?_
      refine .nil ⟨by kernel_rfl, ?_⟩
      refine d_ret ?_
      change RetD _ _ _ _ _ _ _
      have e := som H; subst e
      have e := hq34 _ rfl; subst e
      have e := hr31 _ rfl; subst e
      exact finE [] (.tmp (.nil))
     replace H := iF h36 H
     refine d_condN rfl (decide_eq_false h36) ?_
     refine d_exit ?_
     have e := som H; subst e
     have e := hq34 _ rfl; subst e
     exact ⟨_, rfl, wkE [(0, 0), (1, 1)]⟩
    refine d_cutR (fun (b43 : Unit) => ⟨[], [], 0⟩) H (fun z44 H hr44 => ?_) (fun b43 H => ?_)
    ·
     refine d_rs rfl ?_
     refine go (m_set) ?_
     refine .nil ⟨by kernel_rfl, ?_⟩
     refine d_block ?_
     refine d_loopF (fun (s46 : Int) => ⟨[(11, .ptr 0 0 0), (15, DI v10), (20, .ptr 1 0 0), (22, DI v27.2.1), (28, DI s46)], [(0, ⟨3, false, false, [[DI v2.1.sh, .sl (v2.1.ws.map uC), .sl (v2.1.fs.map frC)]]⟩), (1, ⟨3, false, false, [[DI b21.2.sh, .sl (b21.2.ws.map uC), .sl (b21.2.fs.map frC)]]⟩)], 2⟩) H (wkE [(0, 0), (1, 1)]) (fun s46 y47 H hq47 => ?_)
     refine d_seq fun K k48 => ?_
     refine d_rs rfl ?_
     refine go (m_move) ?_
     refine go (m_move) ?_
     refine go (m_lss) ?_
     refine .nil ⟨by kernel_rfl, ?_⟩
     by_cases h49 : s46 < v27.2.1
     ·
      replace H := iT h49 H
      refine d_condE rfl (decide_eq_true h49) ?_
      refine d_skip ?_
      refine k48 _ ?_
      refine d_seq fun K k50 => ?_
      refine d_block ?_
      replace H := bnd H
      obtain ⟨v51, hv51, H⟩ := H
      refine d_rs rfl ?_
      refine go (m_load ty_25) ?_
      refine go (m_move) ?_
      refine go (m_move) ?_
      refine go (m_cS [] (F_object_Data_ok hv51) rfl ScS.nil) ?_
      refine go (m_move) ?_
      refine go (m_ext) ?_
      refine go (m_ext) ?_
      refine go (m_set) ?_
      refine go (m_set) ?_
      refine .nil ⟨by kernel_rfl, ?_⟩
      replace H := bnd H
      obtain ⟨v52, hv52, H⟩ := H
      refine d_rs rfl ?_
      refine go (m_load ty_25) ?_
      refine go (m_move) ?_
      refine go (m_move) ?_
      refine go (m_cS [] (F_object_Data_ok hv52) rfl ScS.nil) ?_
      refine go (m_move) ?_
      refine go (m_ext) ?_
      refine go (m_ext) ?_
      refine go (m_set) ?_
      refine go (m_set) ?_
      refine .nil ⟨by kernel_rfl, ?_⟩
      by_cases h53 : v51.1 = v52.1
      ·
       replace H := iT h53 H
       by_cases h54 : v51.2 = 0
       ·
        replace H := iT h54 H
        refine d_rs rfl ?_
        refine go (m_move) ?_
        refine go (m_move) ?_
        refine go (m_neq) ?_
        refine go (m_move) ?_
        refine go (m_move) ?_ (gY (congrArg not (decide_eq_true h53)))
        refine go (m_neq) ?_ (gY (congrArg not (decide_eq_true h53)))
        refine go (m_pickE (congrArg not (decide_eq_true h53))) ?_
        refine go (m_move) ?_
        refine go (m_move) ?_ (gY (congrArg not (decide_eq_true h54)))
        refine go (m_neq) ?_ (gY (congrArg not (decide_eq_true h54)))
        refine go (m_pickE (congrArg not (decide_eq_true h54))) ?_
        refine .nil ⟨by kernel_rfl, ?_⟩
        by_cases h55 : v52.2 = 0
        ·
         replace H := iT h55 H
         refine d_condN rfl (congrArg not (decide_eq_true h55)) ?_
         refine d_skip ?_
         refine k50 _ ?_
         refine d_region rfl ?_
         refine go (m_move) ?_
         refine go (m_add) ?_
         refine go (m_set) ?_
         refine .nil ⟨by kernel_rfl, ?_⟩
         have e := som H; subst e
         exact ⟨_, rfl, wkE [(0, 0), (1, 1)]⟩
        replace H := iF h55 H
        refine d_condE rfl (congrArg not (decide_eq_false h55)) ?_
        refine d_rs rfl ?_
        refine go (m_set) ?_
        refine .nil ⟨by kernel_rfl, ?_⟩
        refine d_ret ?_
        change RetD _ _ _ _ _ _ _
        have e := som H; subst e
        have e := hq47 _ rfl; subst e
        have e := hr44 _ rfl; subst e
        exact finE [] (.tmp (.nil))
       replace H := iF h54 H
       refine d_rs rfl ?_
       refine go (m_move) ?_
       refine go (m_move) ?_
       refine go (m_neq) ?_
       refine go (m_move) ?_
       refine go (m_move) ?_ (gY (congrArg not (decide_eq_true h53)))
       refine go (m_neq) ?_ (gY (congrArg not (decide_eq_true h53)))
       refine go (m_pickE (congrArg not (decide_eq_true h53))) ?_
       refine go (m_move) ?_
       refine noE (congrArg not (decide_eq_false h54)) ?_
       refine noE (congrArg not (decide_eq_false h54)) ?_
       refine go (m_pickE (congrArg not (decide_eq_false h54))) ?_
       refine .nil ⟨by kernel_rfl, ?_⟩
       refine d_condE rfl rfl ?_
       refine d_rs rfl ?_
       refine go (m_set) ?_
       refine .nil ⟨by kernel_rfl, ?_⟩
       refine d_ret ?_
       change RetD _ _ _ _ _ _ _
       have e := som H; subst e
       have e := hq47 _ rfl; subst e
       have e := hr44 _ rfl; subst e
       exact finE [] (.tmp (.nil))
      replace H := iF h53 H
      refine d_rs rfl ?_
      refine go (m_move) ?_
      refine go (m_move) ?_
      refine go (m_neq) ?_
      refine go (m_move) ?_
      refine noE (congrArg not (decide_eq_false h53)) ?_
      refine noE (congrArg not (decide_eq_false h53)) ?_
      refine go (m_pickE (congrArg not (decide_eq_false h53))) ?_
      refine go (m_move) ?_
      refine noE rfl ?_
      refine noE rfl ?_
      refine go (m_pickE rfl) ?_
      refine .nil ⟨by kernel_rfl, ?_⟩
      refine d_condE rfl rfl ?_
      refine d_rs rfl ?_
      refine go (m_set) ?_
      refine .nil ⟨by kernel_rfl, ?_⟩
      refine d_ret ?_
      change RetD _ _ _ _ _ _ _
      have e := som H; subst e
      have e := hq47 _ rfl; subst e
      have e := hr44 _ rfl; subst e
      exact finE [] (.tmp (.nil))
     replace H := iF h49 H
     refine d_condN rfl (decide_eq_false h49) ?_
     refine d_exit ?_
     have e := som H; subst e
     have e := hq47 _ rfl; subst e
     exact ⟨_, rfl, wkE []⟩
    replace H := bnd H
    obtain ⟨v56, hv56, H⟩ := H
    refine d_rs rfl ?_
    refine go (m_cS [] (F_law08_awake_ok hv56) rfl ScS.nil) ?_
    refine go (m_set) ?_
    refine .nil ⟨by kernel_rfl, ?_⟩
    refine d_ret ?_
    change RetD _ _ _ _ _ _ _
    have e := som H; subst e
    exact finE [] (.tmp (.nil))
   replace H := iF h29 H
   refine d_condE rfl (congrArg not (decide_eq_false h29)) ?_
   refine d_rs rfl ?_
   refine go (m_set) ?_
   refine .nil ⟨by kernel_rfl, ?_⟩
   refine d_ret ?_
   change RetD _ _ _ _ _ _ _
   have e := som H; subst e
   exact finE [] (.tmp (.nil))
  replace H := iF h26 H
  refine d_condE rfl (congrArg not (decide_eq_false h26)) ?_
  refine d_rs rfl ?_
  refine go (m_set) ?_
  refine .nil ⟨by kernel_rfl, ?_⟩
  refine d_ret ?_
  change RetD _ _ _ _ _ _ _
  have e := som H; subst e
  exact finE [] (.tmp (.nil))
 replace H := iF h13 H
 refine d_condE rfl (congrArg not (decide_eq_false h13)) ?_
 refine d_rs rfl ?_
 refine go (m_set) ?_
 refine .nil ⟨by kernel_rfl, ?_⟩
 refine d_ret ?_
 change RetD _ _ _ _ _ _ _
 have e := som H; subst e
 exact finE [] (.tmp (.nil))

end Go.Proofs.Ytbidedbpmhcoaaa
/- Objects of a space, as a plain function; spoilt spaces. No program. -/
namespace Go.Proofs.Ytbidedbpmhcoaaa
open Go.RowKit
set_option linter.unusedVariables false
set_option linter.unusedSimpArgs false

/-- where objects stand, with their numbers of fields -/
def obs : Nat → List (Nat × Nat) → List (Nat × Nat × Nat)
  | _, [] => []
  | p, (r, d) :: l => (p, r, d) :: obs (p + 1 + r + d) l
theorem obs_snoc {z : Nat} {ws : List Int} {fr : List Nat} {r d : Nat} : ∀ {l : List (Nat × Nat)} {p q : Nat}, Lay z ws fr p l q → obs p (l ++ [(r, d)]) = obs p l ++ [(q, r, d)]
  | [], p, q, h => by
    have h : p = q := h
    subst h
    rfl
  | (r', d') :: l, p, q, h => by
    show (p, r', d') :: obs _ (l ++ [(r, d)]) = (p, r', d') :: (obs _ l ++ [(q, r, d)])
    rw [obs_snoc h.2.2.2]
theorem Lay.get {z : Nat} {ws : List Int} {fr : List Nat} : ∀ {l : List (Nat × Nat)} {p q : Nat}, Lay z ws fr p l q → ∀ o ∈ obs p l, p ≤ o.1 ∧ o.1 + 1 + o.2.1 + o.2.2 ≤ q ∧ o.2.1 ≤ 15 ∧ o.2.2 ≤ 32 ∧ ws[adr z fr o.1]? = some (hdW o.2.1 o.2.2)
  | [], p, q, h, o, ho => by cases ho
  | (r, d) :: l, p, q, h, o, ho => by
    obtain ⟨h1, h2, h3, h4⟩ := h
    rcases List.mem_cons.1 ho with rfl | ho
    · exact ⟨Nat.le_refl _, h4.le, h1, h2, h3⟩
    · obtain ⟨k1, k2, k3⟩ := h4.get o ho
      exact ⟨by omega, k2, k3⟩
/-- the addresses of the objects -/
def adrs (s : Sp) (x : Itm) : List Int := (obs 0 x.os).map fun (o : Nat × Nat × Nat) => ((adr (szS s) x.fr o.1 : Nat) : Int)
theorem wAt_get {s : Sp} {a : Nat} {w : Int} (h : s.ws[a]? = some w) : wAt s (a : Int) = w := by
  have hl : a < s.ws.length := by
    rcases Nat.lt_or_ge a s.ws.length with h' | h'
    · exact h'
    · rw [List.getElem?_eq_none h'] at h; cases h
  rw [wAt_in (by omega) (by rw [Int.toNat_natCast]; exact hl)]
  rw [List.getElem?_eq_getElem hl] at h
  simpa using h
/-- an object at an address -/
theorem look_at {s : Sp} (hs : SpOk s) {fr : List Nat} (hc : Chn s.fs fr) (ho : Own s.fs fr) {p r d : Nat} (hp : p + r + d < fr.length * szS s) (hr : r ≤ 15) (hd : d ≤ 32) (hw : s.ws[adr (szS s) fr p]? = some (hdW r d)) :
    LookR s ((adr (szS s) fr p : Nat) : Int) = ⟨r, d, 0⟩ ∧ ShapeR s ((adr (szS s) fr p : Nat) : Int) = ⟨r, d, 0⟩ := by
  have h1 : LookR s ((adr (szS s) fr p : Nat) : Int) = ⟨r, d, 0⟩ := LookR_mk (by
      have := go_k (k := 0) hs.shp hc ho (p := p) (by omega)
      exact congrArg Prod.snd this) (wAt_get hw) (by unfold HdOk; omega) (by
      rw [show (r : Int) + (d : Int) = ((r + d : Nat) : Int) by push_cast; rfl, go_k hs.shp hc ho (by omega)])
  exact ⟨h1, by rw [ShapeR_t hs]; exact h1⟩
theorem shift_first {s : Sp} (hs : ShpS s) {f : Int} (hf : 0 ≤ f ∧ f < s.fs.length) : wu s.sh = s.sh ∧ 0 ≤ s.sh ∧ shlN .i64 f s.sh = f * szS s ∧ 0 ≤ f * szS s ∧ f * szS s ≤ 16384 := by
  obtain ⟨g1, g2, g3, g4, g5⟩ := hs.z
  have h64 := hs.hi
  obtain ⟨e, he⟩ : ∃ e : Nat, s.sh = e := ⟨s.sh.toNat, by omega⟩
  have hb : 0 ≤ f * (szS s : Int) ∧ f * (szS s : Int) ≤ 16384 := by
    refine ⟨Int.mul_nonneg hf.1 (by omega), ?_⟩
    have h1 : f * (szS s : Int) ≤ (64 : Int) * (szS s : Int) := Int.mul_le_mul_of_nonneg_right (by omega) (by omega)
    have h2 : (64 : Int) * (szS s : Int) ≤ 64 * 256 := by omega
    omega
  refine ⟨wu_in (by omega), g1, ?_, hb.1, hb.2⟩
  have e5 : (2 : Int) ^ e = szS s := by rw [← g5, he, Int.toNat_natCast]
  rw [he, shl_pow (by omega) (by rw [e5]; omega), e5]
theorem first_adr {fs : List Fe} {i : Inc} {fr : List Nat} (h : IncC fs i fr) (h0 : 0 < fr.length) (z : Nat) : 0 ≤ i.first ∧ i.first < fs.length ∧ i.first * (z : Int) = ((adr z fr 0 : Nat) : Int) := by
  cases fr with
  | nil => simp at h0
  | cons f l =>
    have hf : i.first = (f : Int) := h.first
    have := h.ch.lt f (by simp)
    rw [hf]
    refine ⟨by omega, by omega, ?_⟩
    unfold adr
    simp
theorem all_spec {s : Sp} (hs : SpOk s) (hW : SpW s) {x : Itm} (hx : ItmOk s x) : F_ref10_All s x.i = some (adrs s x, 0) := by
  obtain ⟨g1, g2, g3, g4, g5⟩ := hs.shp.z
  have hw := hs.shp.small
  have hroom := hx.room hs.shp
  have hwd := hx.inc.wd
  obtain ⟨n, hn⟩ : ∃ n : Nat, x.i.words = n := ⟨x.i.words.toNat, by omega⟩
  have hlay := hx.lay
  rw [hn, Int.toNat_natCast] at hlay hroom
  unfold F_ref10_All
  refine (bndR_eq (b := adrs s x) ?_).trans rfl
  refine loop_to (σ := List Int × Int) (fun st => ∃ (o1 o2 : List (Nat × Nat)) (p : Nat), x.os = o1 ++ o2 ∧ Lay (szS s) s.ws x.fr 0 o1 p ∧ Lay (szS s) s.ws x.fr p o2 n ∧ st = ((obs 0 o1).map (fun (o : Nat × Nat × Nat) => ((adr (szS s) x.fr o.1 : Nat) : Int)), (p : Int)) ∧ o1.length ≤ p) (fun st => n - st.2.toNat) ⟨[], x.os, 0, rfl, rfl, hlay, rfl, Nat.le_refl _⟩ ?_
  rintro st ⟨o1, o2, p, h1, h2, h3, rfl, h5⟩
  have hle := h3.le
  by_cases hp : p < n
  · refine .inl ?_
    cases o2 with
    | nil => have h3 : p = n := h3; omega
    | cons o l =>
      obtain ⟨r, d⟩ := o
      obtain ⟨k1, k2, k3, k4⟩ := h3
      have hle2 := k4.le
      have hfr : 0 < x.fr.length := by
        rcases Nat.eq_zero_or_pos x.fr.length with h0 | h0
        · rw [h0] at hroom; omega
        · exact h0
      obtain ⟨f1, f2, f3⟩ := first_adr hx.inc.toIncC hfr (szS s)
      obtain ⟨s1, s2, s3, s4, s5⟩ := shift_first hs.shp ⟨f1, f2⟩
      have hgo := go_k (k := p) hs.shp hx.inc.ch hx.inc.own (p := 0) (by omega)
      rw [Nat.zero_add] at hgo
      obtain ⟨l1, _⟩ := look_at hs hx.inc.ch hx.inc.own (p := p) (r := r) (d := d) (by omega) k1 k2 k3
      have hpl := adr_lt hs.shp hx.inc.ch.lt (show p < x.fr.length * szS s by omega)
      have hg : F_ref05_Go s (shlN .i64 x.i.first s.sh) (p : Int) = some (((adr (szS s) x.fr p : Nat) : Int), 0) := by
        unfold F_ref05_Go
        rw [s3, if_pos ⟨hs.shp, nxin_of hs.fm, by unfold I64; omega, by unfold I64; omega⟩, f3, hgo]
      have hl : F_ref08_Look s ((adr (szS s) x.fr p : Nat) : Int) = some ((r : Int), (d : Int), 0) := by
        unfold F_ref08_Look
        rw [if_pos ⟨hs, hW, by unfold I64; omega⟩, l1]
      have hol : (obs 0 o1).length = o1.length := by
        have : ∀ (l : List (Nat × Nat)) (p : Nat), (obs p l).length = l.length := by
          intro l
          induction l with
          | nil => intro p; rfl
          | cons o l ih => intro p; obtain ⟨a, b⟩ := o; show (obs _ l).length + 1 = _; rw [ih]; rfl
        exact this o1 0
      dsimp only
      rw [if_pos (by rw [hn]; omega), s1, if_pos s2, hg, Option.bind_some, hl, Option.bind_some]
      dsimp only
      have e1 : w64 (w64 (w64 ((p : Int) + 1) + r) + d) = ((p + 1 + r + d : Nat) : Int) := by rw [w64_in (n := (p : Int) + 1) (by omega), w64_in (n := (p : Int) + 1 + r) (by omega), w64_in (by omega)]; push_cast; rfl
      have e2 : w64 ((p : Int) + w64 (w64 (1 + (r : Int)) + d)) = ((p + 1 + r + d : Nat) : Int) := by rw [w64_in (n := 1 + (r : Int)) (by omega), w64_in (n := 1 + (r : Int) + d) (by omega), w64_in (by omega)]; push_cast; omega
      rw [if_pos rfl, e1, if_neg (by rw [hn]; omega), if_pos (by simp only [List.length_map, List.length_cons, List.length_nil, hol]; omega), e2]
      refine ⟨_, rfl, ⟨o1 ++ [(r, d)], l, p + 1 + r + d, by rw [h1, List.append_assoc]; rfl, h2.snoc k1 k2 k3, k4, ?_, by rw [List.length_append, List.length_singleton]; omega⟩, by show n - (((p + 1 + r + d : Nat) : Int)).toNat < n - ((p : Nat) : Int).toNat; omega⟩
      rw [obs_snoc h2, List.map_append]
      rfl
  · refine .inr ?_
    dsimp only
    rw [if_neg (by rw [hn]; omega)]
    have hpn : p = n := by omega
    subst hpn
    cases o2 with
    | nil =>
      rw [List.append_nil] at h1
      subst h1
      rfl
    | cons o l =>
      obtain ⟨r, d⟩ := o
      have := h3.2.2.2.le
      omega
end Go.Proofs.Ytbidedbpmhcoaaa
/- What the object laws draw from a space. No program. -/
namespace Go.Proofs.Ytbidedbpmhcoaaa
open Go.RowKit
set_option linter.unusedVariables false
set_option linter.unusedSimpArgs false

theorem obs_len : ∀ (l : List (Nat × Nat)) (p : Nat), (obs p l).length = l.length
  | [], p => rfl
  | (r, d) :: l, p => by show (obs _ l).length + 1 = _; rw [obs_len l]; rfl
theorem Lay.len {z : Nat} {ws : List Int} {fr : List Nat} : ∀ {l : List (Nat × Nat)} {p q : Nat}, Lay z ws fr p l q → p + l.length ≤ q
  | [], p, q, h => by have h : p = q := h; simp; omega
  | (r, d) :: l, p, q, h => by have := h.2.2.2.len; simp only [List.length_cons]; omega
theorem adrs_len {s : Sp} (hs : ShpS s) {x : Itm} (hx : ItmOk s x) : (adrs s x).length ≤ 16384 := by
  unfold adrs
  rw [List.length_map, obs_len]
  have := hx.lay.len
  have h2 := hx.inc.wd
  have h3 := hs.small
  omega
/-- an object of the space -/
structure ObAt (s : Sp) (x : Itm) (p r d : Nat) : Prop where
  mem : (p, r, d) ∈ obs 0 x.os
  room : p + r + d < x.fr.length * szS s
  r15 : r ≤ 15
  d32 : d ≤ 32
  hd : s.ws[adr (szS s) x.fr p]? = some (hdW r d)
theorem ObAt.of {s : Sp} (hs : ShpS s) {x : Itm} (hx : ItmOk s x) {o : Nat × Nat × Nat} (ho : o ∈ obs 0 x.os) : ObAt s x o.1 o.2.1 o.2.2 := by
  obtain ⟨h1, h2, h3, h4, h5⟩ := hx.lay.get o ho
  have := hx.room hs
  exact ⟨ho, by omega, h3, h4, h5⟩
theorem adrs_mem {s : Sp} (hs : ShpS s) {x : Itm} (hx : ItmOk s x) {a : Int} (h : a ∈ adrs s x) : ∃ p r d, a = ((adr (szS s) x.fr p : Nat) : Int) ∧ ObAt s x p r d := by
  obtain ⟨o, ho, rfl⟩ := List.mem_map.1 h
  exact ⟨o.1, o.2.1, o.2.2, rfl, ObAt.of hs hx ho⟩
/-- the addresses of the objects of the increments -/
def allA (s : Sp) : List Itm → List Int
  | [] => []
  | x :: L => adrs s x ++ allA s L
theorem allA_append (s : Sp) : ∀ (L M : List Itm), allA s (L ++ M) = allA s L ++ allA s M
  | [], M => rfl
  | x :: L, M => by show adrs s x ++ allA s (L ++ M) = _; rw [allA_append s L M, ← List.append_assoc]; rfl
theorem allA_mem {s : Sp} : ∀ {L : List Itm} {a : Int}, a ∈ allA s L → ∃ x ∈ L, a ∈ adrs s x
  | [], a, h => by cases h
  | x :: L, a, h => by
    rcases List.mem_append.1 h with h | h
    · exact ⟨x, by simp, h⟩
    · obtain ⟨y, hy, hay⟩ := allA_mem h
      exact ⟨y, by simp [hy], hay⟩
theorem objects_spec {s : Sp} {L : List Itm} (h : SpInv s L) (hl : L.length ≤ 4) : F_law08_objects s (L.map Itm.i) = some (allA s L) := by
  unfold F_law08_objects
  refine bind_ok (a := allA s L) (loop_to (σ := List Int × Int) (fun st => ∃ A B, L = A ++ B ∧ st = (allA s A, (A.length : Int)) ∧ (allA s A).length ≤ A.length * 16384) (fun st => L.length - st.2.toNat) ⟨[], L, rfl, rfl, Nat.le_refl _⟩ ?_) rfl
  rintro st ⟨A, B, hAB, rfl, hlen⟩
  have hL : L.length = A.length + B.length := by rw [hAB, List.length_append]
  cases B with
  | nil =>
    refine .inr ?_
    dsimp only
    rw [if_neg (by rw [List.length_map, hL]; simp), hAB, List.append_nil]
  | cons x B =>
    refine .inl ?_
    have hx : x ∈ L := by rw [hAB]; simp
    have hal := adrs_len h.ok.shp (h.each x hx)
    have hat : at_ (L.map Itm.i) (A.length : Int) = some x.i := by
      rw [at_nat (by rw [List.length_map, hL]; simp)]
      congr 1
      simp [hAB]
    have hA4 : A.length < 4 := by rw [List.length_cons] at hL; omega
    dsimp only
    rw [if_pos (by rw [List.length_map, hL, List.length_cons]; omega), hat, Option.bind_some, all_spec h.ok h.w (h.each x hx), Option.bind_some]
    dsimp only
    rw [if_pos (by omega), show w64 ((A.length : Int) + 1) = ((A ++ [x]).length : Int) from by rw [w64_in (by omega), List.length_append, List.length_singleton]; push_cast; rfl]
    refine ⟨_, rfl, ⟨A ++ [x], B, by rw [hAB, List.append_assoc]; rfl, ?_, ?_⟩, ?_⟩
    · rw [allA_append]
      show (allA s A ++ adrs s x, _) = (allA s A ++ (adrs s x ++ []), _)
      rw [List.append_nil]
    · rw [allA_append, List.length_append, List.length_append, List.length_singleton]
      show _ + (adrs s x ++ []).length ≤ _
      rw [List.append_nil]
      omega
    · show L.length - (((A ++ [x]).length : Nat) : Int).toNat < L.length - ((A.length : Nat) : Int).toNat
      rw [List.length_append, List.length_singleton, hL, List.length_cons]
      omega
theorem allA_rng {s : Sp} {L : List Itm} (h : SpInv s L) : ∀ a ∈ allA s L, 0 ≤ a ∧ a < s.ws.length := fun a ha => by
  obtain ⟨x, hx, hax⟩ := allA_mem ha
  obtain ⟨p, r, d, rfl, ho⟩ := adrs_mem h.ok.shp (h.each x hx) hax
  have := adr_lt h.ok.shp (h.each x hx).inc.ch.lt (show p < x.fr.length * szS s by have := ho.room; omega)
  omega
theorem allA_len {s : Sp} : ∀ {L : List Itm}, SpInv s L → (∀ x ∈ L, ItmOk s x) → (allA s L).length ≤ L.length * 16384 := fun {L} h hx => by
  clear hx
  have hx := h.each
  have hs := h.ok.shp
  clear h
  induction L with
  | nil => exact Nat.le_refl _
  | cons x L ih =>
    show (adrs s x ++ allA s L).length ≤ _
    rw [List.length_append, List.length_cons]
    have := adrs_len hs (hx x (by simp))
    have := ih fun y hy => hx y (by simp [hy])
    omega
theorem mod_spec {v n : Int} (hv : I64 v) (hn : 1 ≤ n ∧ n ≤ 9223372036854775807) : F_make_Mod v n = some (v % n) ∧ 0 ≤ v % n ∧ v % n < n := by
  refine ⟨?_, Int.emod_nonneg _ (by omega), Int.emod_lt_of_pos _ (by omega)⟩
  unfold F_make_Mod
  rw [if_pos ⟨hv, hn⟩]
theorem tdiv_64 {a : Int} (h : I64 a) : I64 (Int.tdiv a 5) := by
  unfold I64 at *
  have h1 : (Int.tdiv a 5).natAbs = a.natAbs / 5 := by rw [Int.natAbs_tdiv]; rfl
  omega
theorem near_spec {s : Sp} {L : List Itm} (h : SpInv s L) (hl : L.length ≤ 4) {a : Int} (ha : I64 a) : ∃ v, F_law08_near s (L.map Itm.i) a = some v ∧ I64 v := by
  have hw := h.ok.shp.small
  have hlen := allA_len h h.each
  have htd := tdiv_64 ha
  have e1 : w64 (Int.tdiv a 5) = Int.tdiv a 5 := w64_in htd
  have e2 : w64 ((s.ws.length : Int) + 2) = (s.ws.length : Int) + 2 := w64_in (by omega)
  obtain ⟨m1, m2, m3⟩ := mod_spec (v := Int.tdiv a 5) (n := (s.ws.length : Int) + 2) htd (by omega)
  unfold F_law08_near
  rw [objects_spec h hl, Option.bind_some, e1, e2, m1, Option.bind_some]
  have r1 : I64 (w64 (Int.tdiv a 5 % ((s.ws.length : Int) + 2) - 1)) := by rw [w64_in (by omega)]; unfold I64; omega
  by_cases h0 : ((allA s L).length : Int) = 0
  · rw [if_pos h0]
    exact ⟨_, rfl, r1⟩
  · rw [if_neg h0]
    obtain ⟨k1, k2, k3⟩ := mod_spec (v := a) (n := 5) ha (by omega)
    rw [k1, Option.bind_some]
    by_cases h5 : a % 5 = 0
    · rw [if_pos h5]
      exact ⟨_, rfl, r1⟩
    · rw [if_neg h5]
      obtain ⟨q1, q2, q3⟩ := mod_spec (v := Int.tdiv a 5) (n := ((allA s L).length : Int)) htd (by omega)
      rw [q1, Option.bind_some]
      obtain ⟨v, hv, hm⟩ := at_ex (l := allA s L) q2 q3
      rw [hv, Option.bind_some]
      have := allA_rng h v hm
      exact ⟨v, rfl, by unfold I64; omega⟩
theorem set_all {α : Type} {p : α → Prop} {l : List α} (h : ∀ x ∈ l, p x) {k : Nat} {a : α} (ha : p a) : ∀ x ∈ l.set k a, p x := fun x hx => by
  rcases List.mem_or_eq_of_mem_set hx with h1 | h1
  · exact h x h1
  · subst h1; exact ha
theorem spoilt_spec {s : Sp} (hs : ShpS s) (hW : SpW s) {a b c : Int} (ha : I64 a) (hb : I64 b) (hc : I64 c) : ∃ t, F_make_Spoilt s a b c = some t ∧ SpW t ∧ t.ws.length ≤ 65536 ∧ t.fs.length ≤ 65536 := by
  have hw := hs.small
  have h64 := hs.hi
  have hlo := hs.lo
  obtain ⟨g1, g2, g3, g4, g5⟩ := hs.z
  have hwl : 0 < s.ws.length := by rw [hs.wl]; exact Nat.mul_pos (by omega) (by omega)
  have hfw : ∀ f ∈ s.fs, I64 f.ow ∧ I64 f.st ∧ I64 f.nx := hW.2
  have w64I : ∀ x : Int, I64 (w64 x) := fun x => by
    unfold w64 I64
    rw [IntKind.wrap_i64]
    omega
  obtain ⟨m1, m2, m3⟩ := mod_spec (v := b) (n := (s.fs.length : Int)) hb (by omega)
  obtain ⟨k1, k2, k3⟩ := mod_spec (v := a) (n := 8) ha (by omega)
  obtain ⟨v, hv, hvm⟩ := at_ex (l := s.fs) m2 m3
  obtain ⟨v1, v2, v3⟩ := hfw v hvm
  unfold F_make_Spoilt
  rw [copy_ok (by omega) (by omega), Option.bind_some, m1, Option.bind_some, k1, Option.bind_some]
  have fin : ∀ f : Fe, I64 f.ow ∧ I64 f.st ∧ I64 f.nx → SpW (Sp.mk s.sh s.ws (s.fs.set (Int.toNat (b % (s.fs.length : Int))) f)) ∧ s.ws.length ≤ 65536 ∧ (s.fs.set (Int.toNat (b % (s.fs.length : Int))) f).length ≤ 65536 := fun f hf => ⟨⟨hW.1, set_all hfw hf⟩, by omega, by rw [List.length_set]; omega⟩
  split
  · obtain ⟨q1, _, _⟩ := mod_spec (v := c) (n := 6) hc (by omega)
    rw [q1, Option.bind_some, hv, Option.bind_some]
    exact ⟨_, rfl, fin _ ⟨w64I _, v2, v3⟩⟩
  split
  · obtain ⟨q1, q2, q3⟩ := mod_spec (v := c) (n := 4) hc (by omega)
    obtain ⟨u, hu, _⟩ := at_ex (l := [(1 : Int), (-1), 4294967296, 17179869184]) q2 (by simp; omega)
    rw [hv, Option.bind_some, q1, Option.bind_some, hu, Option.bind_some, Option.bind_some]
    exact ⟨_, rfl, fin _ ⟨v1, w64I _, v3⟩⟩
  split
  · obtain ⟨q1, _, _⟩ := mod_spec (v := c) (n := (s.fs.length : Int) + 2) hc (by omega)
    rw [w64_in (n := (s.fs.length : Int) + 2) (by omega), q1, Option.bind_some, hv, Option.bind_some]
    exact ⟨_, rfl, fin _ ⟨v1, v2, w64I _⟩⟩
  split
  · obtain ⟨q1, q2, q3⟩ := mod_spec (v := b) (n := (s.ws.length : Int)) hb (by omega)
    obtain ⟨u, hu, _⟩ := at_ex (l := s.ws) q2 q3
    rw [q1, Option.bind_some, hu, Option.bind_some]
    refine ⟨_, rfl, ⟨set_all hW.1 ?_, hfw⟩, by rw [List.length_set]; omega, by show s.fs.length ≤ _; omega⟩
    unfold wu U64
    rw [IntKind.wrap_u64]
    omega
  split
  · rw [if_pos (by simp only [List.length_cons, List.length_nil]; omega)]
    refine ⟨_, rfl, ⟨fun x hx => ?_, hfw⟩, by rw [List.length_append]; simp; omega, by show s.fs.length ≤ _; omega⟩
    rcases List.mem_append.1 hx with h1 | h1
    · exact hW.1 x h1
    · rw [List.mem_singleton] at h1
      subst h1
      unfold U64
      omega
  split
  · obtain ⟨q1, _, _⟩ := mod_spec (v := c) (n := 3) hc (by omega)
    rw [q1, Option.bind_some]
    exact ⟨_, rfl, ⟨hW.1, hfw⟩, by show s.ws.length ≤ _; omega, by show s.fs.length ≤ _; omega⟩
  split
  · rw [hv, Option.bind_some]
    exact ⟨_, rfl, fin _ ⟨by show _ ≤ (-1 : Int) ∧ (-1 : Int) ≤ _; omega, by show _ ≤ (-1 : Int) ∧ (-1 : Int) ≤ _; omega, by show _ ≤ (-1 : Int) ∧ (-1 : Int) ≤ _; omega⟩⟩
  · exact ⟨_, rfl, hW, by omega, by omega⟩
end Go.Proofs.Ytbidedbpmhcoaaa
/- The example that the object laws try. No program. -/
namespace Go.Proofs.Ytbidedbpmhcoaaa
open Go.RowKit
set_option linter.unusedVariables false
set_option linter.unusedSimpArgs false

def exI : Inc := ⟨1, 0, -1, -1, 0⟩
def exS : Sp := newS 3 4
def exF : List Fe := [⟨1, 1, -1⟩, feF, ⟨1, 1, 0⟩, feF]
theorem ex_ok : SpOk ⟨3, List.replicate 32 0, exF⟩ ∧ IncC exF ⟨1, 0, 2, 0, 0⟩ [2, 0] := by
  have h0 := new_inv (k := 3) (n := 4) (by unfold ShOk; omega) (by omega)
  have h1 := (h0.add (q := 1) (b := 0) (by omega) (by omega) (fun x hx => by cases hx)).each ⟨⟨1, 0, -1, -1, 0⟩, [], []⟩ (by simp)
  obtain ⟨a1, a2⟩ := lnk_ok h0.ok h1.inc.toIncC (f := 2) (by decide) rfl
  have e1 : lnk (newS 3 4).fs ⟨1, 0, -1, -1, 0⟩ 2 = ([feF, feF, ⟨1, 1, -1⟩, feF], ⟨1, 0, 2, 2, 0⟩) := rfl
  rw [e1] at a1 a2
  obtain ⟨b1, b2⟩ := lnk_ok a1 a2 (f := 0) (by show 0 < 4; omega) rfl
  have e2 : lnk [feF, feF, ⟨1, 1, -1⟩, feF] ⟨1, 0, 2, 2, 0⟩ 0 = (exF, ⟨1, 0, 2, 0, 0⟩) := rfl
  dsimp only at b1 b2
  rw [e2] at b1 b2
  exact ⟨b1, b2⟩
theorem exZ (ws : List Int) (fs : List Fe) : szS ⟨3, ws, fs⟩ = 8 := rfl
theorem adr8 {fr : List Nat} {p : Nat} : adr 8 fr p = (fr[p / 8]?).getD 0 * 8 + p % 8 := rfl
theorem awake08 : F_law08_awake = some true := by
  obtain ⟨hs, hc⟩ := ex_ok
  have hW : SpW ⟨3, List.replicate 32 0, exF⟩ := ⟨fun x hx => by
    have := List.eq_of_mem_replicate hx
    subst this
    unfold U64
    omega, fun f hf => by
    have : f = ⟨1, 1, -1⟩ ∨ f = feF ∨ f = ⟨1, 1, 0⟩ ∨ f = feF := by simpa [exF] using hf
    unfold I64
    rcases this with rfl | rfl | rfl | rfl <;> simp [feF]⟩
  have a22 : adr 8 [2, 0] 6 = 22 := rfl
  have i1 := (ini_spec hs hW hc.ch hc.nd hc.own (p := 6) (r := 1) (d := 2) (by decide) (by omega) (by omega)).2
  obtain ⟨j1, j2⟩ := ini_sp hs hW hc.ch hc.nd hc.own (p := 6) (r := 1) (d := 2) (by decide) (by omega) (by omega)
  have j3 := iniW_hd hs.shp hc.ch hc.nd hc.own (p := 6) (r := 1) (d := 2) (by decide)
  rw [exZ, a22] at i1 j1 j2 j3
  have hl : (iniW ⟨3, List.replicate 32 0, exF⟩ 22 1 2).length = 32 := by rw [iniW_len]; rfl
  generalize iniW ⟨3, List.replicate 32 0, exF⟩ 22 1 2 = w at *
  have hlk := look_at j1 (fr := [2, 0]) hc.ch hc.own (p := 6) (r := 1) (d := 2) (by show _ < 2 * 8; omega) (by omega) (by omega) (by rw [exZ, a22]; exact j3)
  rw [exZ, a22] at hlk
  have go1 : ∀ k : Nat, k < 10 → GoR ⟨3, w, exF⟩ ((22 : Nat) : Int) (k : Int) = (((adr 8 [2, 0] (6 + k) : Nat) : Int), 0) := fun k hk => by
    have := go_k (k := k) j1.shp (fr := [2, 0]) hc.ch hc.own (p := 6) (by show _ < 2 * 8; omega)
    rw [exZ, a22] at this
    exact this
  have hsp : SpLen ⟨3, w, exF⟩ := ⟨by show w.length ≤ _; omega, by show 4 ≤ 4294967296; omega⟩
  have hI : I64 (((22 : Nat) : Int)) := by unfold I64; omega
  have s1 : F_object_Slots ⟨3, w, exF⟩ ((22 : Nat) : Int) = some ([23], 0) := by
    unfold F_object_Slots
    rw [if_pos ⟨j2, hI, trivial⟩]
    congr 1
    unfold SlR
    rw [hlk.2]
    show (if (0 : Int) = 0 then (fldL _ _ (((1 : Nat) : Int)).toNat, (0 : Int)) else ([], 0)) = _
    rw [if_pos rfl]
    show ([(GoR ⟨3, w, exF⟩ ((22 : Nat) : Int) (1 + ((0 : Nat) : Int))).1], (0 : Int)) = _
    rw [show (1 : Int) + ((0 : Nat) : Int) = ((1 : Nat) : Int) from rfl, go1 1 (by omega)]
    rfl
  have hp : PlaceR ⟨3, w, exF⟩ ((22 : Nat) : Int) 1 false = (1, 0) := by
    have := PlaceR_t (ref := false) (i := 1) hlk.2 (by simp)
    rw [this]
    show ((GoR ⟨3, w, exF⟩ ((22 : Nat) : Int) (((1 + 1 + 1 : Nat) : Int))).1, (0 : Int)) = _
    rw [go1 3 (by omega)]
    rfl
  have s2 : F_object_SetData ⟨3, w, exF⟩ ((22 : Nat) : Int) 1 9 = some (⟨3, w.set 1 9, exF⟩, 0) := by
    unfold F_object_SetData
    rw [if_pos ⟨j2, hI, hsp⟩]
    congr 1
    unfold SetR
    rw [hp, if_pos rfl]
    rfl
  have n1 : F_ref03_New 3 4 = some (newS 3 4, 0) := new_spec (by unfold ShOk; omega) (by omega)
  unfold F_law08_awake
  rw [n1, Option.bind_some]
  have f1 : at_ (newS 3 4, (0 : Int)).1.fs 0 = some feF := rfl
  rw [f1, Option.bind_some]
  have f2 : at_ ((newS 3 4, (0 : Int)).1.fs.set (Int.toNat 0) (Fe.mk 1 1 (-1))) 2 = some feF := rfl
  rw [f2, Option.bind_some]
  have f3 : Sp.mk (newS 3 4, (0 : Int)).1.sh (newS 3 4, (0 : Int)).1.ws (((newS 3 4, (0 : Int)).1.fs.set (Int.toNat 0) (Fe.mk 1 1 (-1))).set (Int.toNat 2) (Fe.mk 1 1 0)) = ⟨3, List.replicate 32 0, exF⟩ := rfl
  rw [f3]
  have i2 : F_object_Init ⟨3, List.replicate 32 0, exF⟩ 22 1 2 = some (⟨3, w, exF⟩, 0) := i1
  rw [i2, Option.bind_some]
  have s1' : F_object_Slots ⟨3, w, exF⟩ 22 = some ([23], 0) := s1
  have s2' : F_object_SetData ⟨3, w, exF⟩ 22 1 9 = some (⟨3, w.set 1 9, exF⟩, 0) := s2
  dsimp only
  rw [s1', Option.bind_some, s2', Option.bind_some]
  rw [if_pos rfl, if_pos rfl, if_pos rfl, if_pos (by simp)]
  have f4 : at_ [(23 : Int)] 0 = some 23 := rfl
  rw [f4, Option.bind_some, if_pos rfl, if_pos (by rw [List.length_set, hl]; rfl)]
  have f5 : at_ (w.set 1 9) 1 = some 9 := by
    rw [at_int (by omega) (by rw [List.length_set, hl]; decide)]
    simp
  rw [f5, Option.bind_some]
  rfl
end Go.Proofs.Ytbidedbpmhcoaaa
/- The laws ObjectMakes, ObjectShapes, ObjectFields as plain functions: they answer true. No program. -/
namespace Go.Proofs.Ytbidedbpmhcoaaa
open Go.RowKit
set_option linter.unusedVariables false
set_option linter.unusedSimpArgs false

theorem deck_new {l : List Int} (h : ∀ x ∈ l, I64 x) (hl : l.length ≤ 9223372036854775807) : ∃ d, F_make_New l = some d ∧ DeckOk d := ⟨⟨l, 0⟩, rfl, h, by show (0 : Int) ≤ 0; omega, hl⟩
theorem small_ok (s : Sp) : F_make_Small s = some (bP (s.ws.length ≤ 3000 ∧ s.fs.length ≤ 80)) := by unfold F_make_Small; rw [if_pos trivial]
theorem same_ok (s : Sp) : F_ref03_Same s s = some true := by unfold F_ref03_Same; rw [if_pos trivial, bP_t ⟨rfl, rfl, rfl⟩]
theorem w64_succ {j : Nat} (h : j ≤ 4611686018427387904) : w64 ((j : Int) + 1) = ((j + 1 : Nat) : Int) := w64_in (by omega)
theorem sameInts_ok (l : List Int) (h : l.length ≤ 4611686018427387904) : F_ref18_SameInts l l = some true := by
  unfold F_ref18_SameInts
  rw [if_pos rfl]
  refine (bndR_eq (b := ()) (loop_to (fun st => ∃ j : Nat, st = (j : Int) ∧ j ≤ l.length) (fun st => l.length - st.toNat) ⟨0, rfl, by omega⟩ ?_)).trans rfl
  rintro st ⟨j, rfl, hj⟩
  by_cases h0 : j < l.length
  · refine .inl ?_
    rw [if_pos (by omega), at_nat h0, Option.bind_some, Option.bind_some, if_pos rfl, w64_succ (by omega)]
    exact ⟨_, rfl, ⟨j + 1, rfl, by omega⟩, by omega⟩
  · refine .inr ?_
    rw [if_neg (by omega)]
/-- a space that came in or was made -/
def SpIn (s : Sp) : Prop := SpW s ∧ SpLen s
theorem spin_of {s : Sp} (h : SpW s) (h1 : s.ws.length ≤ 65536) (h2 : s.fs.length ≤ 65536) : SpIn s := ⟨h, by show _ ≤ _; omega, by show _ ≤ _; omega⟩

section
variable {raw : Sp} {l : List Int} {a b c w e : Int}
theorem makes_true {refs data what at' by' : Int} (hr : SpW raw) (hl : ∀ x ∈ l, I64 x) (hll : l.length ≤ 9223372036854775807) (ha : I64 a) (h1 : I64 refs) (h2 : I64 data) (h3 : I64 what) (h4 : I64 at') (h5 : I64 by') :
    F_law08_ObjectMakes raw l a refs data what at' by' = some true := by
  unfold F_law08_ObjectMakes
  rw [small_ok, Option.bind_some]
  by_cases hs : raw.ws.length ≤ 3000 ∧ raw.fs.length ≤ 80
  · rw [bP_t hs, if_pos rfl]
    obtain ⟨d, hd, hdk⟩ := deck_new hl hll
    obtain ⟨s, L, d', hsp, hI, hL, hL4, _⟩ := space_spec hdk
    have hw := hI.ok.shp.small
    have h64 := hI.ok.shp.hi
    obtain ⟨t, ht, ht1, ht2, ht3⟩ := spoilt_spec hI.ok.shp hI.w h3 h4 h5
    obtain ⟨v, hv, hvI⟩ := near_spec hI hL4 ha
    obtain ⟨m1, m1a, m1b⟩ := mod_spec (n := 5) h1 (by omega)
    obtain ⟨m2, m2a, m2b⟩ := mod_spec (n := 7) h2 (by omega)
    obtain ⟨m3, m3a, m3b⟩ := mod_spec (n := 18) h1 (by omega)
    obtain ⟨m4, m4a, m4b⟩ := mod_spec (n := 35) h2 (by omega)
    rw [hd, Option.bind_some, hsp, Option.bind_some]
    dsimp only
    rw [ht, Option.bind_some]
    have hin : ∀ x ∈ [s, raw, t], SpIn x := fun x hx => by
      simp only [List.mem_cons, List.not_mem_nil, or_false] at hx
      rcases hx with rfl | rfl | rfl
      · exact spin_of hI.w (by omega) (by omega)
      · exact spin_of hr (by omega) (by omega)
      · exact spin_of ht1 ht2 ht3
    refine (bndR_eq (b := ()) (loop_to (σ := List Sp × Int) (fun st => ∃ j : Nat, st = ([s, raw, t], (j : Int)) ∧ j ≤ 3) (fun st => 3 - st.2.toNat) ⟨0, rfl, by omega⟩ ?_)).trans (bind_ok awake08 rfl)
    rintro st ⟨j, rfl, hj⟩
    dsimp only
    by_cases h0 : j < 3
    · refine .inl ?_
      obtain ⟨x, hx, hxm⟩ := at_ex (l := [s, raw, t]) (i := (j : Int)) (by omega) (by show (j : Int) < ((3 : Nat) : Int); omega)
      obtain ⟨hxW, hxl⟩ := hin x hxm
      rw [if_pos (by show (j : Int) < ((3 : Nat) : Int); omega), hx, Option.bind_some, hv, Option.bind_some, m1, Option.bind_some, m2, Option.bind_some, Option.bind_some, m3, Option.bind_some, m4, Option.bind_some, w64_succ (by omega)]
      have hrow : ∀ row ∈ [[a, refs, data], [v, refs % 5, data % 7], [v, w64 (refs % 18 - 1), w64 (data % 35 - 1)]], ∃ p q r, row = [p, q, r] ∧ I64 p := fun row h => by
        simp only [List.mem_cons, List.not_mem_nil, or_false] at h
        rcases h with rfl | rfl | rfl
        · exact ⟨_, _, _, rfl, ha⟩
        · exact ⟨_, _, _, rfl, hvI⟩
        · exact ⟨_, _, _, rfl, hvI⟩
      generalize hR : [[a, refs, data], [v, refs % 5, data % 7], [v, w64 (refs % 18 - 1), w64 (data % 35 - 1)]] = R at *
      have hRl : R.length = 3 := by rw [← hR]; rfl
      refine ⟨([s, raw, t], ((j + 1 : Nat) : Int)), (bndR_eq (b := [s, raw, t]) (loop_to (fun st => ∃ j : Nat, st = (j : Int) ∧ j ≤ 3) (fun st => 3 - st.toNat) ⟨0, rfl, by omega⟩ ?_)).trans rfl, ⟨j + 1, rfl, by omega⟩, by show 3 - (((j + 1 : Nat) : Int)).toNat < 3 - ((j : Nat) : Int).toNat; omega⟩
      rintro st ⟨i, rfl, hi⟩
      by_cases h0 : i < 3
      · refine .inl ?_
        obtain ⟨row, hrw, hrm⟩ := at_ex (l := R) (i := (i : Int)) (by omega) (by rw [hRl]; omega)
        obtain ⟨p, q, r, rfl, hp⟩ := hrow row hrm
        have z0 : at_ [p, q, r] 0 = some p := rfl
        have z1 : at_ [p, q, r] 1 = some q := rfl
        have z2 : at_ [p, q, r] 2 = some r := rfl
        have i1 : F_object_Init x p q r = some (IniR x p q r) := by unfold F_object_Init; rw [if_pos ⟨hxW, hp, hxl⟩]
        have i2 : F_ref08_Init x p q r = some (IniR x p q r) := by unfold F_ref08_Init; rw [if_pos ⟨hxW, hp, hxl⟩]
        rw [if_pos (by rw [hRl]; omega), hrw]
        simp only [Option.bind_some, z0, z1, z2, i1, i2]
        rw [if_pos trivial, same_ok, Option.bind_some, if_pos rfl, w64_succ (by omega)]
        exact ⟨_, rfl, ⟨i + 1, rfl, by omega⟩, by omega⟩
      · refine .inr ?_
        rw [if_neg (by rw [hRl]; omega)]
    · refine .inr ?_
      rw [if_neg (by show ¬ (j : Int) < ((3 : Nat) : Int); omega)]
  · rw [bP_f hs, if_neg (by decide)]
    exact bind_ok awake08 rfl
end
end Go.Proofs.Ytbidedbpmhcoaaa
/- The laws ObjectShapes and ObjectFields as plain functions: they answer true. No program. -/
namespace Go.Proofs.Ytbidedbpmhcoaaa
open Go.RowKit
set_option linter.unusedVariables false
set_option linter.unusedSimpArgs false

theorem SlR_len (s : Sp) (a : Int) (hW : SpW s) : (SlR s a).1.length ≤ 4611686018427387904 := by
  unfold SlR
  split
  · rename_i h
    obtain ⟨r, d, e, he, hc⟩ := ShapeR_cases s a
    rw [he] at h
    have h : e = 0 := h
    subst h
    obtain ⟨_, _, _, _, hk, _, _⟩ := ShapeR_ok hW he
    show (fldL s a (ShapeR s a).r.toNat).length ≤ _
    unfold fldL
    rw [List.length_map, List.length_range, he]
    unfold HdOk at hk
    show r.toNat ≤ _
    omega
  · exact Nat.zero_le _
section
variable {raw : Sp} {l : List Int} {a : Int}
theorem shapes_true {what at' by' : Int} (hr : SpW raw) (hl : ∀ x ∈ l, I64 x) (hll : l.length ≤ 9223372036854775807) (ha : I64 a) (h3 : I64 what) (h4 : I64 at') (h5 : I64 by') :
    F_law08_ObjectShapes raw l a what at' by' = some true := by
  unfold F_law08_ObjectShapes
  rw [small_ok, Option.bind_some]
  by_cases hs : raw.ws.length ≤ 3000 ∧ raw.fs.length ≤ 80
  · rw [bP_t hs, if_pos rfl]
    obtain ⟨d, hd, hdk⟩ := deck_new hl hll
    obtain ⟨s, L, d', hsp, hI, hL, hL4, _⟩ := space_spec hdk
    have hw := hI.ok.shp.small
    have h64 := hI.ok.shp.hi
    obtain ⟨t, ht, ht1, ht2, ht3⟩ := spoilt_spec hI.ok.shp hI.w h3 h4 h5
    obtain ⟨v, hv, hvI⟩ := near_spec hI hL4 ha
    obtain ⟨u, hu, hu1, hu2, hu3⟩ := spoilt_spec hI.ok.shp hI.w (a := 3) (by unfold I64; omega) hvI h5
    rw [hd, Option.bind_some, hsp, Option.bind_some]
    dsimp only
    rw [ht, Option.bind_some, hv, Option.bind_some, hu, Option.bind_some]
    have hin : ∀ x ∈ [s, raw, t, u], SpIn x := fun x hx => by
      simp only [List.mem_cons, List.not_mem_nil, or_false] at hx
      rcases hx with rfl | rfl | rfl | rfl
      · exact spin_of hI.w (by omega) (by omega)
      · exact spin_of hr (by omega) (by omega)
      · exact spin_of ht1 ht2 ht3
      · exact spin_of hu1 hu2 hu3
    refine (bndR_eq (b := ()) (loop_to (σ := List Sp × Int) (fun st => ∃ j : Nat, st = ([s, raw, t, u], (j : Int)) ∧ j ≤ 4) (fun st => 4 - st.2.toNat) ⟨0, rfl, by omega⟩ ?_)).trans (bind_ok awake08 rfl)
    rintro st ⟨j, rfl, hj⟩
    dsimp only
    by_cases h0 : j < 4
    · refine .inl ?_
      obtain ⟨x, hx, hxm⟩ := at_ex (l := [s, raw, t, u]) (i := (j : Int)) (by omega) (by show (j : Int) < ((4 : Nat) : Int); omega)
      obtain ⟨hxW, hxl⟩ := hin x hxm
      rw [if_pos (by show (j : Int) < ((4 : Nat) : Int); omega), hx, Option.bind_some, Option.bind_some, w64_succ (by omega)]
      have hrow : ∀ p ∈ [a, v], I64 p := fun p h => by
        simp only [List.mem_cons, List.not_mem_nil, or_false] at h
        rcases h with rfl | rfl
        · exact ha
        · exact hvI
      refine ⟨([s, raw, t, u], ((j + 1 : Nat) : Int)), (bndR_eq (b := [s, raw, t, u]) (loop_to (fun st => ∃ j : Nat, st = (j : Int) ∧ j ≤ 2) (fun st => 2 - st.toNat) ⟨0, rfl, by omega⟩ ?_)).trans rfl, ⟨j + 1, rfl, by omega⟩, by show 4 - (((j + 1 : Nat) : Int)).toNat < 4 - ((j : Nat) : Int).toNat; omega⟩
      rintro st ⟨i, rfl, hi⟩
      by_cases h0 : i < 2
      · refine .inl ?_
        obtain ⟨p, hrw, hrm⟩ := at_ex (l := [a, v]) (i := (i : Int)) (by omega) (by show (i : Int) < ((2 : Nat) : Int); omega)
        have hp := hrow p hrm
        have i1 : F_object_Shape x p = some ((ShapeR x p).r, (ShapeR x p).d, (ShapeR x p).e) := by unfold F_object_Shape; rw [if_pos ⟨hxW, hp⟩]
        have i2 : F_ref08_Shape x p = some ((ShapeR x p).r, (ShapeR x p).d, (ShapeR x p).e) := by unfold F_ref08_Shape; rw [if_pos ⟨hxW, hp⟩]
        have i3 : F_object_Slots x p = some (SlR x p) := by unfold F_object_Slots; rw [if_pos ⟨hxW, hp, trivial⟩]
        have i4 : F_ref08_Slots x p = some (SlR x p) := by unfold F_ref08_Slots; rw [if_pos ⟨hxW, hp, trivial⟩]
        rw [if_pos (by show (i : Int) < ((2 : Nat) : Int); omega), hrw]
        simp only [Option.bind_some, i1, i2, i3, i4, if_true]
        rw [sameInts_ok _ (SlR_len x p hxW), Option.bind_some, if_pos rfl, w64_succ (by omega)]
        exact ⟨_, rfl, ⟨i + 1, rfl, by omega⟩, by omega⟩
      · refine .inr ?_
        rw [if_neg (by show ¬ (i : Int) < ((2 : Nat) : Int); omega)]
    · refine .inr ?_
      rw [if_neg (by show ¬ (j : Int) < ((4 : Nat) : Int); omega)]
  · rw [bP_f hs, if_neg (by decide)]
    exact bind_ok awake08 rfl
theorem fields_true {i w what at' by' : Int} (hr : SpW raw) (hl : ∀ x ∈ l, I64 x) (hll : l.length ≤ 9223372036854775807) (ha : I64 a) (h1 : I64 i) (h3 : I64 what) (h4 : I64 at') (h5 : I64 by') :
    F_law08_ObjectFields raw l a i w what at' by' = some true := by
  unfold F_law08_ObjectFields
  rw [small_ok, Option.bind_some]
  by_cases hs : raw.ws.length ≤ 3000 ∧ raw.fs.length ≤ 80
  · rw [bP_t hs, if_pos rfl]
    obtain ⟨d, hd, hdk⟩ := deck_new hl hll
    obtain ⟨s, L, d', hsp, hI, hL, hL4, _⟩ := space_spec hdk
    have hw := hI.ok.shp.small
    have h64 := hI.ok.shp.hi
    obtain ⟨t, ht, ht1, ht2, ht3⟩ := spoilt_spec hI.ok.shp hI.w h3 h4 h5
    obtain ⟨v, hv, hvI⟩ := near_spec hI hL4 ha
    obtain ⟨m1, m1a, m1b⟩ := mod_spec (n := 6) h1 (by omega)
    rw [hd, Option.bind_some, hsp, Option.bind_some]
    dsimp only
    rw [ht, Option.bind_some]
    have hin : ∀ x ∈ [s, raw, t], SpIn x := fun x hx => by
      simp only [List.mem_cons, List.not_mem_nil, or_false] at hx
      rcases hx with rfl | rfl | rfl
      · exact spin_of hI.w (by omega) (by omega)
      · exact spin_of hr (by omega) (by omega)
      · exact spin_of ht1 ht2 ht3
    refine (bndR_eq (b := ()) (loop_to (σ := List Sp × Int) (fun st => ∃ j : Nat, st = ([s, raw, t], (j : Int)) ∧ j ≤ 3) (fun st => 3 - st.2.toNat) ⟨0, rfl, by omega⟩ ?_)).trans (bind_ok awake08 rfl)
    rintro st ⟨j, rfl, hj⟩
    dsimp only
    by_cases h0 : j < 3
    · refine .inl ?_
      obtain ⟨x, hx, hxm⟩ := at_ex (l := [s, raw, t]) (i := (j : Int)) (by omega) (by show (j : Int) < ((3 : Nat) : Int); omega)
      obtain ⟨hxW, hxl⟩ := hin x hxm
      rw [if_pos (by show (j : Int) < ((3 : Nat) : Int); omega), hx, Option.bind_some, hv, Option.bind_some, m1, Option.bind_some, Option.bind_some, w64_succ (by omega)]
      have hrow : ∀ row ∈ [[a, i], [v, w64 (i % 6 - 1)], [v, i]], ∃ p q, row = [p, q] ∧ I64 p := fun row h => by
        simp only [List.mem_cons, List.not_mem_nil, or_false] at h
        rcases h with rfl | rfl | rfl
        · exact ⟨_, _, rfl, ha⟩
        · exact ⟨_, _, rfl, hvI⟩
        · exact ⟨_, _, rfl, hvI⟩
      generalize hR : [[a, i], [v, w64 (i % 6 - 1)], [v, i]] = R at *
      have hRl : R.length = 3 := by rw [← hR]; rfl
      refine ⟨([s, raw, t], ((j + 1 : Nat) : Int)), (bndR_eq (b := [s, raw, t]) (loop_to (fun st => ∃ j : Nat, st = (j : Int) ∧ j ≤ 3) (fun st => 3 - st.toNat) ⟨0, rfl, by omega⟩ ?_)).trans rfl, ⟨j + 1, rfl, by omega⟩, by show 3 - (((j + 1 : Nat) : Int)).toNat < 3 - ((j : Nat) : Int).toNat; omega⟩
      rintro st ⟨k, rfl, hi⟩
      by_cases h0 : k < 3
      · refine .inl ?_
        obtain ⟨row, hrw, hrm⟩ := at_ex (l := R) (i := (k : Int)) (by omega) (by rw [hRl]; omega)
        obtain ⟨p, q, rfl, hp⟩ := hrow row hrm
        have z0 : at_ [p, q] 0 = some p := rfl
        have z1 : at_ [p, q] 1 = some q := rfl
        have i1 : F_object_Ref x p q = some (GetR x p q true) := by unfold F_object_Ref; rw [if_pos ⟨hxW, hp⟩]
        have i2 : F_ref08_Ref x p q = some (GetR x p q true) := by unfold F_ref08_Ref; rw [if_pos ⟨hxW, hp⟩]
        have i3 : F_object_Data x p q = some (GetR x p q false) := by unfold F_object_Data; rw [if_pos ⟨hxW, hp⟩]
        have i4 : F_ref08_Data x p q = some (GetR x p q false) := by unfold F_ref08_Data; rw [if_pos ⟨hxW, hp⟩]
        have i5 : F_object_SetRef x p q w = some (SetR x p q true w) := by unfold F_object_SetRef; rw [if_pos ⟨hxW, hp, hxl⟩]
        have i6 : F_ref08_SetRef x p q w = some (SetR x p q true w) := by unfold F_ref08_SetRef; rw [if_pos ⟨hxW, hp, hxl⟩]
        have i7 : F_object_SetData x p q w = some (SetR x p q false w) := by unfold F_object_SetData; rw [if_pos ⟨hxW, hp, hxl⟩]
        have i8 : F_ref08_SetData x p q w = some (SetR x p q false w) := by unfold F_ref08_SetData; rw [if_pos ⟨hxW, hp, hxl⟩]
        rw [if_pos (by rw [hRl]; omega), hrw]
        simp only [Option.bind_some, z0, z1, i1, i2, i3, i4, i5, i6, i7, i8, if_true, same_ok]
        rw [w64_succ (by omega)]
        exact ⟨_, rfl, ⟨k + 1, rfl, by omega⟩, by omega⟩
      · refine .inr ?_
        rw [if_neg (by rw [hRl]; omega)]
    · refine .inr ?_
      rw [if_neg (by show ¬ (j : Int) < ((3 : Nat) : Int); omega)]
  · rw [bP_f hs, if_neg (by decide)]
    exact bind_ok awake08 rfl
end
end Go.Proofs.Ytbidedbpmhcoaaa
/- Objects do not overlap: one field written. No program. -/
namespace Go.Proofs.Ytbidedbpmhcoaaa
open Go.RowKit
set_option linter.unusedVariables false
set_option linter.unusedSimpArgs false

theorem pair_cases {α : Type} {R : α → α → Prop} : ∀ {l : List α}, l.Pairwise R → ∀ x ∈ l, ∀ y ∈ l, x = y ∨ R x y ∨ R y x
  | [], _, x, hx, _, _ => by cases hx
  | a :: l, h, x, hx, y, hy => by
    obtain ⟨h1, h2⟩ := List.pairwise_cons.1 h
    rcases List.mem_cons.1 hx with e1 | m1
    · rcases List.mem_cons.1 hy with e2 | m2
      · exact .inl (e1.trans e2.symm)
      · exact .inr (.inl (e1 ▸ h1 y m2))
    · rcases List.mem_cons.1 hy with e2 | m2
      · exact .inr (.inr (e2 ▸ h1 x m1))
      · exact pair_cases h2 x m1 y m2
theorem obs_ge : ∀ {l : List (Nat × Nat)} {p : Nat} {o : Nat × Nat × Nat}, o ∈ obs p l → p ≤ o.1
  | [], p, o, h => by cases h
  | (r, d) :: l, p, o, h => by
    rcases List.mem_cons.1 h with rfl | h
    · exact Nat.le_refl _
    · have := obs_ge h; omega
theorem obs_sep : ∀ {l : List (Nat × Nat)} {p : Nat} {o o' : Nat × Nat × Nat}, o ∈ obs p l → o' ∈ obs p l → o = o' ∨ o.1 + 1 + o.2.1 + o.2.2 ≤ o'.1 ∨ o'.1 + 1 + o'.2.1 + o'.2.2 ≤ o.1
  | [], p, o, o', h, _ => by cases h
  | (r, d) :: l, p, o, o', h, h' => by
    rcases List.mem_cons.1 h with rfl | h
    · rcases List.mem_cons.1 h' with rfl | h'
      · exact .inl rfl
      · exact .inr (.inl (obs_ge h'))
    · rcases List.mem_cons.1 h' with rfl | h'
      · exact .inr (.inr (obs_ge h))
      · exact obs_sep h h'
section
variable {s : Sp} {L : List Itm} {x y : Itm} {p r d p' r' d' : Nat}
/-- words of different objects are different -/
theorem obj_sep (h : SpInv s L) (hx : x ∈ L) (hy : y ∈ L) (ho : ObAt s x p r d) (ho' : ObAt s y p' r' d') (hne : adr (szS s) x.fr p ≠ adr (szS s) y.fr p') {k k' : Nat} (hk : k ≤ r + d) (hk' : k' ≤ r' + d') : adr (szS s) x.fr (p + k) ≠ adr (szS s) y.fr (p' + k') := by
  obtain ⟨g1, g2, g3, g4, g5⟩ := h.ok.shp.z
  have hr := ho.room
  have hr' := ho'.room
  rcases pair_cases h.seqs x hx y hy with rfl | hs
  · intro e
    have e2 := adr_inj (show 0 < szS s by omega) (h.each x hx).inc.nd (show p + k < _ * _ by omega) (show p' + k' < _ * _ by omega) e
    rcases obs_sep ho.mem ho'.mem with e3 | e3 | e3
    · injection e3 with e3 _
      exact hne (by rw [e3])
    · have e3 : p + 1 + r + d ≤ p' := e3
      omega
    · have e3 : p' + 1 + r' + d' ≤ p := e3
      omega
  · have hseq : x.i.seq ≠ y.i.seq := by
      rcases hs with hs | hs
      · exact hs
      · exact fun e => hs e.symm
    exact adr_ne (show 0 < szS s by omega) ((h.each x hx).inc.toIncC.disj (h.each y hy).inc.toIncC hseq) (by omega) (by omega)
/-- the word of a field -/
def fpos (r : Nat) (ref : Bool) (i : Nat) : Nat := if ref then 1 + i else 1 + r + i
theorem place_at (hs : SpOk s) (hc : Chn s.fs x.fr) (ho : Own s.fs x.fr) (hp : p + r + d < x.fr.length * szS s) (hS : ShapeR s ((adr (szS s) x.fr p : Nat) : Int) = ⟨r, d, 0⟩) {ref : Bool} {i : Nat} (hi : i < if ref then r else d) :
    PlaceR s ((adr (szS s) x.fr p : Nat) : Int) i ref = (((adr (szS s) x.fr (p + fpos r ref i) : Nat) : Int), 0) := by
  have hb : fpos r ref i ≤ r + d := by unfold fpos; cases ref <;> simp at hi ⊢ <;> omega
  rw [PlaceR_t hS ⟨by omega, by cases ref <;> simp at hi ⊢ <;> omega⟩]
  have e : ((if ref = true then (1 : Int) else 1 + (r : Int)) + (i : Int)) = ((fpos r ref i : Nat) : Int) := by unfold fpos; cases ref <;> simp <;> omega
  rw [e, go_k hs.shp hc ho (by omega)]
theorem get_at (hs : SpOk s) (hc : Chn s.fs x.fr) (ho : Own s.fs x.fr) (hp : p + r + d < x.fr.length * szS s) (hS : ShapeR s ((adr (szS s) x.fr p : Nat) : Int) = ⟨r, d, 0⟩) {ref : Bool} {i : Nat} (hi : i < if ref then r else d) :
    GetR s ((adr (szS s) x.fr p : Nat) : Int) i ref = (wAt s ((adr (szS s) x.fr (p + fpos r ref i) : Nat) : Int), 0) := GetR_t (place_at hs hc ho hp hS hi)
theorem fpos_le {ref : Bool} {i : Nat} (hi : i < if ref then r else d) : 1 ≤ fpos r ref i ∧ fpos r ref i ≤ r + d := by unfold fpos; cases ref <;> simp at hi ⊢ <;> omega
theorem wAt_eq {s t : Sp} {a : Nat} (h : t.ws[a]? = s.ws[a]?) (hl : t.ws.length = s.ws.length) : wAt t (a : Int) = wAt s (a : Int) := by
  by_cases ha : a < s.ws.length
  · have h1 : s.ws[a]? = some s.ws[a] := List.getElem?_eq_getElem ha
    rw [wAt_get h1, wAt_get (h.trans h1)]
  · unfold wAt
    rw [dif_neg (by omega), dif_neg (by omega)]
/-- a field is written -/
theorem set_sp (h : SpInv s L) (hx : x ∈ L) (ho : ObAt s x p r d) {k : Nat} (hk : k ≤ r + d) {w : Int} (hw : U64 w) : SpOk (setS s ((adr (szS s) x.fr (p + k) : Nat) : Int) w) ∧ SpW (setS s ((adr (szS s) x.fr (p + k) : Nat) : Int) w) := by
  obtain ⟨g1, g2, g3, g4, g5⟩ := h.ok.shp.z
  have hI := (h.each x hx).inc
  have hr := ho.room
  refine ⟨sp_ws h.ok (List.length_set ..) fun j hj hfree a h1 h2 haj => ?_, set_all h.w.1 hw, h.w.2⟩
  rw [List.getElem_set_ne]
  intro e
  rw [Int.toNat_natCast] at e
  obtain ⟨d1, _⟩ := adr_div (show 0 < szS s by omega) x.fr (p + k)
  have hj2 : (p + k) / szS s < x.fr.length := Nat.div_lt_of_lt_mul (by rw [Nat.mul_comm]; omega)
  rw [e, haj, List.getElem?_eq_getElem hj2, Option.getD_some] at d1
  subst d1
  exact hI.own _ (List.getElem_mem hj2) hj hfree
theorem set_ws {s : Sp} {a b : Nat} {w : Int} (h : a ≠ b) : (setS s (a : Int) w).ws[b]? = s.ws[b]? := by
  show (s.ws.set (a : Int).toNat w)[b]? = _
  rw [Int.toNat_natCast, List.getElem?_set_ne h]
theorem set_ws' {s : Sp} {a : Nat} {w : Int} (h : a < s.ws.length) : (setS s (a : Int) w).ws[a]? = some w := by
  show (s.ws.set (a : Int).toNat w)[a]? = _
  rw [Int.toNat_natCast, List.getElem?_set_self h]
/-- all objects keep their shapes -/
theorem set_shape (h : SpInv s L) (hx : x ∈ L) (ho : ObAt s x p r d) {k : Nat} (hk1 : 1 ≤ k) (hk : k ≤ r + d) {w : Int} (hw : U64 w) (hy : y ∈ L) (ho' : ObAt s y p' r' d') :
    ShapeR (setS s ((adr (szS s) x.fr (p + k) : Nat) : Int) w) ((adr (szS s) y.fr p' : Nat) : Int) = ⟨r', d', 0⟩ := by
  obtain ⟨g1, g2, g3, g4, g5⟩ := h.ok.shp.z
  obtain ⟨q1, q2⟩ := set_sp h hx ho hk hw
  have hI := (h.each y hy).inc
  have hne : adr (szS s) x.fr (p + k) ≠ adr (szS s) y.fr p' := by
    by_cases he : adr (szS s) x.fr p = adr (szS s) y.fr p'
    · rw [← he]
      intro e
      have := adr_inj (show 0 < szS s by omega) (h.each x hx).inc.nd (show p + k < _ * _ by have := ho.room; omega) (show p < _ * _ by have := ho.room; omega) e
      omega
    · exact obj_sep h hx hy ho ho' he hk (Nat.zero_le _)
  exact (look_at q1 hI.ch hI.own (p := p') (r := r') (d := d') ho'.room ho'.r15 ho'.d32 (by
    show (setS s ((adr (szS s) x.fr (p + k) : Nat) : Int) w).ws[adr (szS s) y.fr p']? = _
    rw [set_ws hne]; exact ho'.hd)).2
theorem shape_at (h : SpInv s L) (hy : y ∈ L) (ho' : ObAt s y p' r' d') : ShapeR s ((adr (szS s) y.fr p' : Nat) : Int) = ⟨r', d', 0⟩ :=
  (look_at h.ok (h.each y hy).inc.ch (h.each y hy).inc.own ho'.room ho'.r15 ho'.d32 ho'.hd).2
end
end Go.Proofs.Ytbidedbpmhcoaaa
/- The law ObjectKeeps as a plain function: it answers true. No program. -/
namespace Go.Proofs.Ytbidedbpmhcoaaa
open Go.RowKit
set_option linter.unusedVariables false
set_option linter.unusedSimpArgs false

section
variable {s : Sp} {L : List Itm}
theorem objShape (h : SpInv s L) {x : Itm} (hx : x ∈ L) {p r d : Nat} (ho : ObAt s x p r d) : F_object_Shape s ((adr (szS s) x.fr p : Nat) : Int) = some ((r : Int), (d : Int), 0) := by
  unfold F_object_Shape
  have hl := adr_lt h.ok.shp (h.each x hx).inc.ch.lt (show p < x.fr.length * szS s by have := ho.room; omega)
  have := h.ok.shp.small
  rw [if_pos ⟨h.w, by unfold I64; omega⟩, shape_at h hx ho]
theorem adI (h : SpInv s L) {x : Itm} (hx : x ∈ L) {p r d : Nat} (ho : ObAt s x p r d) : I64 ((adr (szS s) x.fr p : Nat) : Int) := by
  have hl := adr_lt h.ok.shp (h.each x hx).inc.ch.lt (show p < x.fr.length * szS s by have := ho.room; omega)
  have := h.ok.shp.small
  unfold I64; omega
theorem spl (h : SpInv s L) : SpLen s := by
  have := h.ok.shp.small
  have := h.ok.shp.hi
  exact ⟨by show _ ≤ _; omega, by show _ ≤ _; omega⟩
theorem keeps_true {l : List Int} {a i w : Int} {ref : Bool} (hl : ∀ x ∈ l, I64 x) (hll : l.length ≤ 9223372036854775807) (ha : I64 a) (hi : I64 i) (hw : U64 w) : F_law08_ObjectKeeps l a i w ref = some true := by
  unfold F_law08_ObjectKeeps
  obtain ⟨dk, hd, hdk⟩ := deck_new hl hll
  obtain ⟨s, L, d', hsp, hI, hL, hL4, _⟩ := space_spec hdk
  have hsm := hI.ok.shp.small
  rw [hd, Option.bind_some, hsp, Option.bind_some]
  dsimp only
  rw [objects_spec hI hL4, Option.bind_some]
  have hal := allA_len hI hI.each
  by_cases h0 : ((allA s L).length : Int) = 0
  · rw [if_pos h0]
    exact bind_ok awake08 rfl
  · rw [if_neg h0]
    obtain ⟨m1, m2, m3⟩ := mod_spec (n := ((allA s L).length : Int)) ha (by omega)
    obtain ⟨v, hv, hvm⟩ := at_ex (l := allA s L) m2 m3
    obtain ⟨x, hx, hax⟩ := allA_mem hvm
    obtain ⟨p, r, d, rfl, ho⟩ := adrs_mem hI.ok.shp (hI.each x hx) hax
    have hII := (hI.each x hx).inc
    have hS := shape_at hI hx ho
    have hr15 := ho.r15
    have hd32 := ho.d32
    rw [m1, Option.bind_some, hv, Option.bind_some, objShape hI hx ho, Option.bind_some]
    dsimp only
    have hb10 : (if ref = true then some (r : Int) else some (d : Int)) = some (((if ref then r else d : Nat) : Int)) := by cases ref <;> rfl
    rw [hb10, Option.bind_some, if_pos rfl]
    by_cases hn : ((if ref then r else d : Nat) : Int) = 0
    · rw [if_pos hn]
      exact bind_ok awake08 rfl
    · rw [if_neg hn]
      obtain ⟨k1, k2, k3⟩ := mod_spec (n := ((if ref then r else d : Nat) : Int)) hi (by cases ref <;> simp at hn ⊢ <;> omega)
      rw [k1, Option.bind_some]
      obtain ⟨k, hk⟩ : ∃ k : Nat, i % ((if ref then r else d : Nat) : Int) = k := ⟨_, (Int.toNat_of_nonneg k2).symm⟩
      have hkl : k < if ref then r else d := by omega
      rw [hk]
      have hA := adI hI hx ho
      have g1 : ∀ b : Bool, F_object_SetData s ((adr (szS s) x.fr p : Nat) : Int) (k : Int) w = some (SetR s ((adr (szS s) x.fr p : Nat) : Int) k false w) ∧ F_object_SetRef s ((adr (szS s) x.fr p : Nat) : Int) (k : Int) w = some (SetR s ((adr (szS s) x.fr p : Nat) : Int) k true w) := fun _ => ⟨by unfold F_object_SetData; rw [if_pos ⟨hI.w, hA, spl hI⟩], by unfold F_object_SetRef; rw [if_pos ⟨hI.w, hA, spl hI⟩]⟩
      have hsv : SetR s ((adr (szS s) x.fr p : Nat) : Int) k ref w = (setS s ((adr (szS s) x.fr (p + fpos r ref k) : Nat) : Int) w, 0) := by
        unfold SetR
        rw [place_at hI.ok hII.ch hII.own ho.room hS hkl, if_pos rfl]
      obtain ⟨f1, f2⟩ := fpos_le hkl
      obtain ⟨t1, t2⟩ := set_sp hI hx ho f2 hw
      have hpos := adr_lt hI.ok.shp hII.ch.lt (show p + fpos r ref k < x.fr.length * szS s by have := ho.room; omega)
      have hST := set_shape hI hx ho f1 f2 hw hx ho
      have hget : GetR (setS s ((adr (szS s) x.fr (p + fpos r ref k) : Nat) : Int) w) ((adr (szS s) x.fr p : Nat) : Int) k ref = (w, 0) := by
        have := get_at (s := setS s ((adr (szS s) x.fr (p + fpos r ref k) : Nat) : Int) w) (x := x) t1 hII.ch hII.own (p := p) (r := r) (d := d) ho.room hST hkl
        rw [show szS (setS s ((adr (szS s) x.fr (p + fpos r ref k) : Nat) : Int) w) = szS s from rfl] at this
        rw [this, wAt_get (set_ws' hpos)]
      rw [(g1 true).1, Option.bind_some, (g1 true).2]
      have e1 : (if ref = true then ((some (SetR s ((adr (szS s) x.fr p : Nat) : Int) k true w)).bind fun v23 => some ((v23.2, v23.1))) else some (((SetR s ((adr (szS s) x.fr p : Nat) : Int) k false w).2, (SetR s ((adr (szS s) x.fr p : Nat) : Int) k false w).1))) = some ((0 : Int), setS s ((adr (szS s) x.fr (p + fpos r ref k) : Nat) : Int) w) := by
        cases ref
        · rw [if_neg (by decide), hsv]
        · rw [if_pos rfl, Option.bind_some, hsv]
      rw [e1, Option.bind_some]
      dsimp only
      generalize hT : setS s ((adr (szS s) x.fr (p + fpos r ref k) : Nat) : Int) w = T at *
      have g2 : F_object_Data T ((adr (szS s) x.fr p : Nat) : Int) (k : Int) = some (GetR T ((adr (szS s) x.fr p : Nat) : Int) k false) := by unfold F_object_Data; rw [if_pos ⟨t2, hA⟩]
      have g3 : F_object_Ref T ((adr (szS s) x.fr p : Nat) : Int) (k : Int) = some (GetR T ((adr (szS s) x.fr p : Nat) : Int) k true) := by unfold F_object_Ref; rw [if_pos ⟨t2, hA⟩]
      rw [g2, Option.bind_some, g3]
      have e2 : (if ref = true then ((some (GetR T ((adr (szS s) x.fr p : Nat) : Int) k true)).bind fun v28 => some ((v28.1, v28.2))) else some (((GetR T ((adr (szS s) x.fr p : Nat) : Int) k false).1, (GetR T ((adr (szS s) x.fr p : Nat) : Int) k false).2))) = some (w, (0 : Int)) := by
        cases ref
        · rw [if_neg (by decide), hget]
        · rw [if_pos rfl, Option.bind_some, hget]
      rw [e2, Option.bind_some]
      have hTl : T.ws.length = s.ws.length := by rw [← hT]; exact setS_len ..
      rw [if_pos rfl, if_pos rfl, if_pos rfl, if_pos (by rw [hTl])]
      obtain ⟨c, hc, hc1⟩ := loop_ok (σ := Int × Int) (f := fun (s37 : Int × Int) =>
          if s37.2 < (s.ws.length : Int) then
            ((at_ s.ws s37.2).bind fun v42 => (at_ T.ws s37.2).bind fun v43 => if v42 = v43 then (some (.go ((s37.1, w64 (s37.2 + 1))))) else some (.go ((w64 (s37.1 + 1), w64 (s37.2 + 1)))))
          else some (.out (s37.1))) (s := (0, 0)) (fun st => ∃ j : Nat, st.2 = (j : Int) ∧ j ≤ s.ws.length ∧ (st.1 = 0 ∨ st.1 = 1 ∧ adr (szS s) x.fr (p + fpos r ref k) < j)) (fun c : Int => c ≤ 1) (fun st => s.ws.length - st.2.toNat) ⟨0, rfl, by omega, .inl rfl⟩
          (fun st ⟨j, e3, e4, e5⟩ => by
            obtain ⟨c, q⟩ := st
            dsimp only at e3 e5 ⊢
            subst e3
            by_cases hj : j < s.ws.length
            · refine .inl ?_
              have hj2 : j < T.ws.length := by omega
              rw [if_pos (by omega), at_nat hj, Option.bind_some, at_nat hj2, Option.bind_some, w64_succ (by omega)]
              by_cases hd2 : s.ws[j] = T.ws[j]
              · rw [if_pos hd2]
                exact ⟨_, rfl, ⟨j + 1, rfl, by omega, e5.imp id fun h => ⟨h.1, by omega⟩⟩, by show s.ws.length - (((j + 1 : Nat) : Int)).toNat < s.ws.length - ((j : Nat) : Int).toNat; omega⟩
              · rw [if_neg hd2]
                have hjp : adr (szS s) x.fr (p + fpos r ref k) = j := Classical.byContradiction fun hne => hd2 (by
                  have := set_ws (s := s) (w := w) hne
                  rw [hT, List.getElem?_eq_getElem hj, List.getElem?_eq_getElem hj2] at this
                  exact (Option.some.inj this).symm)
                rcases e5 with e5 | ⟨_, e5⟩
                · subst e5
                  exact ⟨_, rfl, ⟨j + 1, rfl, by omega, .inr ⟨rfl, by omega⟩⟩, by show s.ws.length - (((j + 1 : Nat) : Int)).toNat < s.ws.length - ((j : Nat) : Int).toNat; omega⟩
                · omega
            · refine .inr ?_
              rw [if_neg (by omega)]
              exact ⟨_, rfl, by rcases e5 with e5 | ⟨e5, _⟩ <;> omega⟩)
      rw [hc, Option.bind_some]
      refine (bndR_eq (b := ()) (loop_to (fun st => ∃ j : Nat, st = (j : Int) ∧ j ≤ (allA s L).length) (fun st => (allA s L).length - st.toNat) ⟨0, rfl, by omega⟩ ?_)).trans (by rw [decide_eq_true hc1])
      rintro st ⟨j, rfl, hj⟩
      by_cases hj0 : j < (allA s L).length
      · refine .inl ?_
        obtain ⟨u, hu, hum⟩ := at_ex (l := allA s L) (i := (j : Int)) (by omega) (by omega)
        obtain ⟨y, hy, hay⟩ := allA_mem hum
        obtain ⟨p', r', d', rfl, ho'⟩ := adrs_mem hI.ok.shp (hI.each y hy) hay
        have hs1 := set_shape hI hx ho f1 f2 hw hy ho'
        rw [hT] at hs1
        have hsh : F_object_Shape T ((adr (szS s) y.fr p' : Nat) : Int) = some ((r' : Int), (d' : Int), 0) := by
          unfold F_object_Shape
          rw [if_pos ⟨t2, adI hI hy ho'⟩, hs1]
        rw [if_pos (by omega), hu, Option.bind_some, hsh, Option.bind_some, objShape hI hy ho', Option.bind_some, if_pos rfl, if_pos rfl, if_pos rfl, if_pos rfl, w64_succ (by omega)]
        exact ⟨_, rfl, ⟨j + 1, rfl, by omega⟩, by omega⟩
      · refine .inr ?_
        rw [if_neg (by omega)]
end
end Go.Proofs.Ytbidedbpmhcoaaa
/- What came in, read as data; a contract as a call of the statement's kind. No condition. -/
namespace Go.Proofs.Ytbidedbpmhcoaaa
open Go.RowKit Go.ChangeShapes Go.WideShapes Go.Deep
set_option linter.unusedVariables false
set_option linter.unusedSimpArgs false

abbrev mem0 (w : World) : Mem := ⟨w, fun _ => False, fun _ => none⟩
theorem mem0_no (w : World) (k : Nat) : ¬ (mem0 w).no k := fun h => by
  rcases h with h | ⟨s, e, c, h, _⟩
  · exact h
  · cases h
theorem Reps.nil' {m : Mem} : Reps m [] [] := ⟨rfl, fun i v d h => by simp at h⟩
theorem Reps.cons' {m : Mem} {v : Value} {d : DV} {vs : List Value} {ds : List DV} (h : Rep m v d) (hs : Reps m vs ds) : Reps m (v :: vs) (d :: ds) := ⟨by rw [List.length_cons, List.length_cons, hs.1], fun i u e hu he => by
  cases i with
  | zero =>
    simp only [List.getElem?_cons_zero, Option.some.injEq] at hu he
    subst hu
    subst he
    exact h
  | succ i => exact hs.2 i u e (by simpa using hu) (by simpa using he)⟩
/-- a contract, as a call -/
theorem DCall.walk {P : Program} {f : FuncId} {ds : List DV} (h : DCall P f ds [] (DB true) []) {w : World} {vs : List Value} (hr : Reps (mem0 w) vs ds) : Calls P f vs.toArray w fun e w' => e = .returned (.bool true) ∧ Below w.heap.size w w' := by
  have hx : ∀ k, ¬ Xof (fun _ => none) k := fun k ⟨s, e, c, h, _⟩ => by cases h
  have hI : Inv ⟨w, Xof (fun _ => none), Yof (fun _ => none)⟩ (mem0 w) := ⟨rfl, rfl, rfl, Nat.le_refl _, fun _ _ _ => rfl, fun s s' e e' g c c' h => (by cases h), fun s e g c h => (by cases h), fun k h => False.elim h⟩
  refine Calls.mono (h.2 w (fun _ => False) (fun _ => none) vs hI (fun s ob h => by cases h) (fun _ _ => rfl) hr) fun e w' ⟨v, σ', he, q1, q2, q3, q4, q5⟩ => ?_
  subst he
  rw [q3.lit_inv]
  exact ⟨rfl, q1.os, q1.tape, q1.output, q1.size, fun k hk => q1.old k hk (hx k)⟩

/-- cells that read as plain data -/
def CRd (w : World) (cs : List Value) (ds : List DV) : Prop := cs.length = ds.length ∧ ∀ (i : Nat) v d, cs[i]? = some v → ds[i]? = some d → PRep w (mem0 w).no v d
theorem CRd.one {w : World} {v : Value} {d : DV} (h : PRep w (mem0 w).no v d) : CRd w [v] [d] := ⟨rfl, fun i u e hu he => by
  cases i with
  | zero =>
    simp only [List.getElem?_cons_zero, Option.some.injEq] at hu he
    subst hu
    subst he
    exact h
  | succ i => simp at hu⟩
theorem CRd.get {w : World} {v : Value} {d : DV} (h : CRd w [v] [d]) : PRep w (mem0 w).no v d := h.2 0 v d rfl rfl
theorem CRd.append {w : World} {cs cs' : List Value} {ds ds' : List DV} (h : CRd w cs ds) (h' : CRd w cs' ds') : CRd w (cs ++ cs') (ds ++ ds') := by
  refine ⟨by rw [List.length_append, List.length_append, h.1, h'.1], fun i v d hv hd => ?_⟩
  by_cases hi : i < cs.length
  · rw [List.getElem?_append_left hi] at hv
    rw [List.getElem?_append_left (by rw [← h.1]; exact hi)] at hd
    exact h.2 i v d hv hd
  · rw [List.getElem?_append_right (by omega)] at hv
    rw [List.getElem?_append_right (by rw [← h.1]; omega), ← h.1] at hd
    exact h'.2 _ v d hv hd

section
variable {P : Program}
/-- cells of a type read as data of a kind -/
def OpD {α : Type} (P : Program) (t : TypeId) (c : α → List DV) (ok : α → Prop) : Prop :=
  ∀ (H : Type) (enc : TypeId × Value → H) (w : World) (base : Nat) (spare : Nat → Bool) (held : Bool) (fuel : Nat) (cs : List Value) (x : DataW H × List MemPlace),
    DataW.trod enc P w base spare held fuel t cs = some x → ∃ a, CRd w cs (c a) ∧ ok a
theorem OpD.i64 {t : TypeId} (ht : P.underlying t = some (.int .i64)) : OpD P t iC I64 := by
  intro H enc w base spare held fuel cs x h
  obtain ⟨n, rfl, _, hn⟩ := DataW.trod_int ht h
  refine ⟨n, CRd.one (.lit _ rfl), ?_⟩
  simp [Lit.wf, IntKind.min, IntKind.max, IntKind.bits, IntKind.signed] at hn
  unfold I64
  omega
theorem OpD.u64 {t : TypeId} (ht : P.underlying t = some (.int .u64)) : OpD P t uC U64 := by
  intro H enc w base spare held fuel cs x h
  obtain ⟨n, rfl, _, hn⟩ := DataW.trod_int ht h
  refine ⟨n, CRd.one (.lit _ rfl), ?_⟩
  simp [Lit.wf, IntKind.min, IntKind.max, IntKind.bits, IntKind.signed] at hn
  unfold U64
  omega
theorem OpD.bool {t : TypeId} (ht : P.underlying t = some .bool) : OpD P t bC fun _ => True := by
  intro H enc w base spare held fuel cs x h
  obtain ⟨n, rfl, _⟩ := DataW.trod_bool ht h
  exact ⟨n, CRd.one (.lit _ rfl), trivial⟩
theorem choose_listD {α : Type} {n : Nat} {p : Nat → α → Prop} (h : ∀ i, i < n → ∃ a, p i a) : ∃ l : List α, l.length = n ∧ ∀ i (hi : i < l.length), p i l[i] := by
  induction n with
  | zero => exact ⟨[], rfl, fun i hi => absurd hi (Nat.not_lt_zero _)⟩
  | succ n ih =>
    obtain ⟨l, hl, hp⟩ := ih fun i hi => h i (by omega)
    obtain ⟨a, ha⟩ := h n (by omega)
    refine ⟨l ++ [a], by simp [hl], fun i hi => ?_⟩
    by_cases hlt : i < l.length
    · rw [List.getElem_append_left hlt]; exact hp i hlt
    · have : i = n := by simp at hi; omega
      subst this
      rw [List.getElem_append_right (by omega)]
      simpa using ha
theorem OpD.slice {α : Type} {c : α → List DV} {ok : α → Prop} {t e sz : Nat} (ht : P.underlying t = some (.slice e)) (hc : P.cellsOf e = sz) (hp : 0 < sz) (hz : ∀ a, (c a).length = sz) (h : OpD P e c ok) : OpD P t (lC c) fun xs => (∀ x ∈ xs, ok x) ∧ xs.length ≤ 9223372036854775807 := by
  intro H enc w base spare held fuel cs x hx
  rcases open_slice ht hx with ⟨rfl, _⟩ | ⟨a, len, cap, m, n, D, Pl, rfl, hb, hl, hm, hmm, _, hel⟩
  · exact ⟨[], CRd.one (.nil none 0 (Nat.zero_le _)), (fun x hx => by cases hx), by simp⟩
  · have hlm : len ≤ m := by rw [hmm]; split <;> omega
    obtain ⟨l, hll, hlp⟩ := choose_listD (n := len) (p := fun i y => ok y ∧ ∃ cs', CRd w cs' (c y) ∧ ∀ j, j < sz → w.cell? (a.add (i * sz + j)) = cs'[j]?) fun i hi => by
      obtain ⟨cs', h1, h2⟩ := hel i (by omega)
      obtain ⟨y, hy, hok⟩ := h H enc w base spare held n cs' _ h2
      rw [hc] at h1
      obtain ⟨_, hlen, hcell⟩ := World.cells?_some h1
      refine ⟨y, hok, cs', hy, fun j hj => ?_⟩
      have := hcell j (by omega)
      rw [add_add] at this
      rw [this]
    refine ⟨l, CRd.one ?_, fun x hx => ?_, by unfold maxLen at hm; omega⟩
    · by_cases h0 : len = 0
      · have : l = [] := List.length_eq_zero_iff.1 (by omega)
        subst this
        subst h0
        exact .nil _ _ hm
      · obtain ⟨b, off, spot⟩ := a
        obtain ⟨_, cs0, hr0, hcl0⟩ := hlp 0 (by omega)
        have hl0 : cs0.length = sz := by rw [hr0.1, hz]
        have h00 := hcl0 0 hp
        rw [List.getElem?_eq_getElem (by omega)] at h00
        have hspot : spot = none := by
          have := World.cell?_spot h00
          simpa [Addr.add] using this
        subst hspot
        have hadd : ∀ k, (⟨b, off, none⟩ : Addr).add k = ⟨b, off + k, none⟩ := fun k => add_lit
        rw [hadd] at h00
        have hbl := World.block_lt_of_cell? w (a := _) (u := _) h00
        have hf : ∀ i, ∃ g : Nat → Value, i < l.length → ∀ j d, ((l.map c)[i]?).bind (·[j]?) = some d → w.cell? ⟨b, off + i * sz + j, none⟩ = some (g j) ∧ PRep w (mem0 w).no (g j) d := fun i => by
          by_cases hi : i < l.length
          · obtain ⟨_, cs', hr, hcl⟩ := hlp i hi
            refine ⟨fun j => cs'.getD j undef, fun _ j d hd => ?_⟩
            rw [List.getElem?_map, List.getElem?_eq_getElem hi] at hd
            simp only [Option.map_some, Option.bind_some] at hd
            have hj : j < sz := by
              rw [← hz l[i]]
              rcases Nat.lt_or_ge j (c l[i]).length with h' | h'
              · exact h'
              · rw [List.getElem?_eq_none h'] at hd; cases hd
            have hl2 : cs'.length = sz := by rw [hr.1, hz]
            have hc2 := hcl j hj
            rw [List.getElem?_eq_getElem (by omega), hadd] at hc2
            have hgd : cs'.getD j undef = cs'[j]'(by omega) := by simp [List.getD, show j < cs'.length by omega]
            dsimp only
            rw [hgd, Nat.add_assoc]
            exact ⟨hc2, hr.2 j _ d (List.getElem?_eq_getElem (by omega)) hd⟩
          · exact ⟨fun _ => undef, fun h => absurd h hi⟩
        have key := Classical.axiomOfChoice hf
        obtain ⟨g, hg⟩ := key
        have hlt : ∀ (i : Nat) (x : List DV), (l.map c)[i]? = some x → i < l.length := fun i x hx => by
          rcases Nat.lt_or_ge i l.length with h' | h'
          · exact h'
          · rw [List.getElem?_eq_none (by simpa using h')] at hx; cases hx
        have := PRep.sl (w := w) (no := (mem0 w).no) b off cap sz (l.map c) g hp (by rw [List.length_map]; omega) (by rw [List.length_map]; omega) hm (mem0_no w b) hbl (fun i x hx => by
          have hi := hlt i x hx
          rw [List.getElem?_map, List.getElem?_eq_getElem hi] at hx
          simp only [Option.map_some, Option.some.injEq] at hx
          rw [← hx, hz]) (fun i x j d hx hd => (hg i (hlt i x hx) j d (by rw [hx]; exact hd)).1) (fun i x j d hx hd => (hg i (hlt i x hx) j d (by rw [hx]; exact hd)).2)
        rw [List.length_map, hll] at this
        exact this
    · obtain ⟨i, hi, rfl⟩ := List.getElem_of_mem hx
      exact (hlp i hi).1
/-- the fields of a struct -/
inductive FOpD (P : Program) : {α : Type} → List Field → Nat → (α → List DV) → Nat → (α → Prop) → Prop
  | nil {off : Nat} : FOpD P [] off (fun _ : Unit => []) 0 fun _ => True
  | cons {α β : Type} {f : Field} {fs : List Field} {off z z' : Nat} {c : α → List DV} {c' : β → List DV} {ok : α → Prop} {okF : β → Prop} (ho : f.offset = off) (hc : P.cellsOf f.type = z) (h : OpD P f.type c ok) (hs : FOpD P fs (off + z) c' z' okF) :
      FOpD P (f :: fs) off (fun p : α × β => c p.1 ++ c' p.2) (z + z') fun p => ok p.1 ∧ okF p.2
theorem fields_openD {α : Type} {fs : List Field} {off z : Nat} {c : α → List DV} {ok : α → Prop} (hf : FOpD P fs off c z ok) :
    ∀ (H : Type) (enc : TypeId × Value → H) (w : World) (base : Nat) (spare : Nat → Bool) (held : Bool) (n : Nat) (cs : List Value), cs.length = off + z →
      (∀ (i : Nat) (f : Field), fs[i]? = some f → ∃ y, DataW.trod enc P w base spare held n f.type ((cs.drop f.offset).take (P.cellsOf f.type)) = some y) → ∃ a, CRd w (cs.drop off) (c a) ∧ ok a := by
  induction hf with
  | nil =>
    intro H enc w base spare held n cs hl _
    rw [List.drop_eq_nil_of_le (by omega)]
    exact ⟨(), ⟨rfl, fun i v d h => by simp at h⟩, trivial⟩
  | @cons α β f fs off z z' c c' ok okF ho hc h hs ih =>
    intro H enc w base spare held n cs hl hfs
    obtain ⟨y, hy⟩ := hfs 0 f rfl
    obtain ⟨a, ha, hoka⟩ := h H enc w base spare held n _ _ hy
    obtain ⟨b, hb, hokb⟩ := ih H enc w base spare held n cs (by omega) fun i g hg => hfs (i + 1) g (by simpa using hg)
    rw [ho, hc] at ha
    refine ⟨(a, b), ?_, hoka, hokb⟩
    have := ha.append hb
    rw [← List.drop_drop, List.take_append_drop] at this
    exact this
theorem OpD.struct {α : Type} {c : α → List DV} {ok : α → Prop} {t z : Nat} {fs : Array Field} (ht : P.underlying t = some (.struct fs)) (hc : P.cellsOf t = z) (hf : FOpD P fs.toList 0 c z ok) : OpD P t c ok := by
  intro H enc w base spare held fuel cs x h
  obtain ⟨xs, n, _, _, hcl, hxl, hfs⟩ := DataW.trod_struct ht h
  obtain ⟨a, ha, hok⟩ := fields_openD hf H enc w base spare held n cs (by rw [hcl, hc]; omega) fun i f hi => by
    have hi' : fs[i]? = some f := by simpa using hi
    have := hfs i f hi'
    have hlt : i < xs.length := by
      rw [hxl]
      exact (Array.getElem?_eq_some_iff.1 hi').1
    exact ⟨xs[i], by rw [this, List.getElem?_eq_getElem hlt]⟩
  exact ⟨a, by simpa using ha, hok⟩
theorem OpD.map {α β : Type} {c : α → List DV} {c' : β → List DV} {ok : α → Prop} {ok' : β → Prop} {t : TypeId} (h : OpD P t c ok) (g : α → β) (hg : ∀ a, c' (g a) = c a) (hok : ∀ a, ok a → ok' (g a)) : OpD P t c' ok' := by
  intro H enc w base spare held fuel cs x hx
  obtain ⟨a, ha, hk⟩ := h H enc w base spare held fuel cs x hx
  exact ⟨g a, by rw [hg]; exact ha, hok a hk⟩
/-- an argument that is one cell -/
theorem OpD.arg {α : Type} {t : TypeId} {c : α → List DV} {ok : α → Prop} (h : OpD P t c ok) {H : Type} {enc : TypeId × Value → H} {w : World} {base : Nat} {spare : Nat → Bool} {held : Bool} {v : Value} {d : DataW H} {ps : List MemPlace}
    (hd : DataW.Trod enc P w base spare held t v d ps) : ∃ a, CRd w v.cells.toList (c a) ∧ ok a := by
  obtain ⟨fuel, hf⟩ := hd
  exact h H enc w base spare held fuel _ _ hf
end
theorem CRd.agg {w : World} {cs : Array Value} {ds : List DV} (h : CRd w (Value.agg cs).cells.toList ds) : Rep (mem0 w) (.agg cs) (.agg ds) := by
  have := Rep.agg (m := mem0 w) (vs := cs.toList) (xs := ds) h.1 fun i v d hv hd => .pure (h.2 i v d hv hd)
  simpa using this
theorem CRd.slc {w : World} {a : Option Addr} {l c : Nat} {d : DV} (h : CRd w (Value.slice a l c).cells.toList [d]) : Rep (mem0 w) (.slice a l c) d := .pure (CRd.get (by simpa [Value.cells] using h))
end Go.Proofs.Ytbidedbpmhcoaaa
/- The kinds of arguments of the laws, as data. No condition. -/
namespace Go.Proofs.Ytbidedbpmhcoaaa
open Go.RowKit Go.ChangeShapes Go.WideShapes Go.Deep
set_option linter.unusedVariables false

theorem i64_of {a : Int} (h : (Lit.int .i64 a).wf = true) : I64 a := by
  simp [Lit.wf, IntKind.min, IntKind.max, IntKind.bits, IntKind.signed] at h
  unfold I64
  omega
theorem u64_of {a : Int} (h : (Lit.int .u64 a).wf = true) : U64 a := by
  simp [Lit.wf, IntKind.min, IntKind.max, IntKind.bits, IntKind.signed] at h
  unfold U64
  omega
theorem op_int : OpD Try.prog 3 iC I64 := OpD.i64 Try.underlying3
theorem op_ints : OpD Try.prog 26 (lC iC) fun xs => (∀ x ∈ xs, I64 x) ∧ xs.length ≤ 9223372036854775807 := OpD.slice (sz := 1) Try.underlying26 (by kernel_rfl) (by decide) (fun _ => rfl) op_int
theorem op_words : OpD Try.prog 22 (lC uC) fun xs => (∀ x ∈ xs, U64 x) ∧ xs.length ≤ 9223372036854775807 := OpD.slice (sz := 1) Try.underlying22 (by kernel_rfl) (by decide) (fun _ => rfl) (OpD.u64 Try.underlying50)
theorem op_frame : OpD Try.prog 79 frC fun f => I64 f.ow ∧ I64 f.st ∧ I64 f.nx :=
  (OpD.struct Try.underlying79 (by kernel_rfl) (.cons (z := 1) rfl (by kernel_rfl) op_int (.cons (z := 1) rfl (by kernel_rfl) op_int (.cons (z := 1) rfl (by kernel_rfl) op_int .nil)))).map (fun p => ⟨p.1, p.2.1, p.2.2.1⟩) (fun _ => rfl) fun _ h => ⟨h.1, h.2.1, h.2.2.1⟩
theorem op_frames : OpD Try.prog 23 (lC frC) fun xs => (∀ f ∈ xs, I64 f.ow ∧ I64 f.st ∧ I64 f.nx) ∧ xs.length ≤ 9223372036854775807 := OpD.slice (sz := 3) Try.underlying23 (by kernel_rfl) (by decide) (fun _ => rfl) op_frame
theorem op_space : OpD Try.prog 25 spC SpW :=
  (OpD.struct Try.underlying25 (by kernel_rfl) (.cons (z := 1) rfl (by kernel_rfl) op_int (.cons (z := 1) rfl (by kernel_rfl) op_words (.cons (z := 1) rfl (by kernel_rfl) op_frames .nil)))).map (fun p => ⟨p.1, p.2.1, p.2.2.1⟩) (fun _ => rfl) fun _ h => ⟨h.2.1.1, h.2.2.1.1⟩
end Go.Proofs.Ytbidedbpmhcoaaa
/- ObjectMakes: the contract of the law. No condition. -/
namespace Go.Proofs.Ytbidedbpmhcoaaa
open Go.RowKit
theorem objectMakes_dc (s : Sp) (l : List Int) (a refs data what at' by' : Int) (hs : SpW s) (hl : (∀ x ∈ l, I64 x) ∧ l.length ≤ 9223372036854775807) (h1 : I64 a) (h2 : I64 refs) (h3 : I64 data) (h4 : I64 what) (h5 : I64 at') (h6 : I64 by') :
    DCall Try.prog 3 [.agg (spC s), .sl (l.map iC), DI a, DI refs, DI data, DI what, DI at', DI by'] [] (DB true) [] := F_law08_ObjectMakes_ok (makes_true hs hl.1 hl.2 h1 h2 h3 h4 h5 h6)
end Go.Proofs.Ytbidedbpmhcoaaa
