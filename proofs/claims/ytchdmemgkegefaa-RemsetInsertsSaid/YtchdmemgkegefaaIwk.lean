/- The walk of RemsetInserts. Condition: sets that came in with memory's bounds. -/
import Derived.Test.YtchdmemgkegefaaSlt
import Derived.Test.YtchdmemgkegefaaSpo
import Derived.Test.YtchdmemgkegefaaRin
import Derived.Test.YtchdmemgkegefaaRegX
import Derived.Test.YtchdmemgkegefaaIsRow
import Derived.Test.YtchdmemgkegefaaOpen
namespace Go.Proofs.Ytchdmemgkegefaa
open Go.RowKit
set_option linter.unusedVariables false
set_option linter.unusedSimpArgs false

theorem i64_wf {z : Int} (h : (Lit.int .i64 z).wf = true) : I64 z := by
  simp [Lit.wf, IntKind.min, IntKind.max, IntKind.bits, IntKind.signed] at h
  unfold I64
  omega
/-- what Insert says -/
def Res (xs : List St) (fr tq sl : Int) (zs : List St) (er : Int) : Prop := (¬ InsOk xs fr tq sl ∧ er = 1 ∧ zs = []) ∨ (InsOk xs fr tq sl ∧ er = 0 ∧ ∃ k ok, Srch xs fr tq k ok ∧ zs = insRes xs fr tq sl k ok)
theorem Res.uniq {xs : List St} {fr tq sl : Int} {zs zs' : List St} {er er' : Int} (h : Res xs fr tq sl zs er) (h' : Res xs fr tq sl zs' er') : zs = zs' ∧ er = er' := by
  rcases h with ⟨h1, h2, h3⟩ | ⟨h1, h2, k, ok, hs, h3⟩ <;> rcases h' with ⟨g1, g2, g3⟩ | ⟨g1, g2, k', ok', hs', g3⟩
  · exact ⟨h3.trans g3.symm, h2.trans g2.symm⟩
  · exact absurd g1 h1
  · exact absurd h1 g1
  · exact ⟨h3.trans ((ins_same h1 hs hs').trans g3.symm), h2.trans g2.symm⟩
theorem Res.some (xs : List St) (fr tq sl : Int) : ∃ zs er, ∀ zs' er', Res xs fr tq sl zs' er' → zs' = zs ∧ er' = er := by
  by_cases h : ∃ zs er, Res xs fr tq sl zs er
  · obtain ⟨zs, er, h⟩ := h
    exact ⟨zs, er, fun _ _ h' => h'.uniq h⟩
  · exact ⟨[], 0, fun zs' er' h' => absurd ⟨zs', er', h'⟩ h⟩
def InF (zs : List St) (er : Int) : Value → World → Prop := fun v W => ∃ r, v = .tuple #[r, .int .i64 er] ∧ Rd setE W r zs
theorem InF.stb {zs : List St} {er : Int} : Stb Grw (InF zs er) := fun _ _ _ he ⟨r, e, h⟩ => ⟨r, e, h.below he⟩
def InE (zs : List St) (er : Int) (e : Ending) (w : World) : Prop := ∃ r, e = .returned (.tuple #[r, .int .i64 er]) ∧ Rd setE w r zs
/-- small enough to be counted -/
def Sml (xs : List St) : Prop := xs.length ≤ 99999 ∧ (∀ x ∈ xs, x.slots.length ≤ 99999) ∧ (xs.map (·.slots.length)).sum ≤ 1000000
theorem insert_res {zs : List St} {er : Int} (v : Value) (xs : List St) (w : World) (hv : Rd setE w v xs) (hb : Sml xs) (fr tq sl : Int) (h0 : ∀ zs' er', Res xs fr tq sl zs' er' → zs' = zs ∧ er' = er) :
    Calls Try.prog 24 #[v, .int .i64 fr, .int .i64 tq, .int .i64 sl] w fun e w' => InE zs er e w' ∧ Below w.heap.size w w' := by
  refine (insert_any v xs w hv hb.1 hb.2.1 fr tq sl).mono ?_
  rintro e w' ⟨⟨h1, h2⟩, hb'⟩
  refine ⟨?_, hb'⟩
  by_cases h : InsOk xs fr tq sl
  · obtain ⟨r, k, ok, he, hs, ho⟩ := h2 h
    obtain ⟨e1, e2⟩ := h0 _ _ (.inr ⟨h, rfl, k, ok, hs, rfl⟩)
    subst e1 e2
    exact ⟨r, he, setO_rd ho⟩
  · obtain ⟨e1, e2⟩ := h0 _ _ (.inl ⟨h, rfl, rfl⟩)
    subst e1 e2
    exact ⟨_, h1 h, Rd.nil _ _⟩
theorem rinsert_res {zs : List St} {er : Int} (v : Value) (xs : List St) (w : World) (hv : Rd setE w v xs) (hb : Sml xs) (fr tq sl : Int) (h0 : ∀ zs' er', Res xs fr tq sl zs' er' → zs' = zs ∧ er' = er) :
    Calls Try.prog 35 #[v, .int .i64 fr, .int .i64 tq, .int .i64 sl] w fun e w' => InE zs er e w' ∧ Below w.heap.size w w' := by
  refine (rinsert_any v xs w hv hb.1 hb.2.1 fr tq sl).mono ?_
  rintro e w' ⟨⟨h1, h2⟩, hb'⟩
  refine ⟨?_, hb'⟩
  by_cases h : InsOk xs fr tq sl
  · obtain ⟨r, k, ok, he, hs, ho⟩ := h2 h
    obtain ⟨e1, e2⟩ := h0 _ _ (.inr ⟨h, rfl, k, ok, hs, rfl⟩)
    subst e1 e2
    exact ⟨r, he, ho⟩
  · obtain ⟨e1, e2⟩ := h0 _ _ (.inl ⟨h, rfl, rfl⟩)
    subst e1 e2
    exact ⟨_, h1 h, Rd.nil _ _⟩
theorem rbs_b {e : Ending} {p : Prop} {b : Bool} (hb : b = true ↔ p) (h : RBs e p) : e = .returned (.bool b) := by
  obtain ⟨x, rfl, hx⟩ := h
  rw [Bool.eq_iff_iff.2 (hx.trans hb.symm)]
theorem valid_b {b : Bool} (v : Value) (xs : List St) (w : World) (hv : Rd setE w v xs) (h : b = true ↔ SetsOk xs) : Calls Try.prog 27 #[v] w fun e w' => e = .returned (.bool b) ∧ Below w.heap.size w w' :=
  (valid_any18 v xs w hv).mono fun e w' ⟨a, c⟩ => ⟨rbs_b h a, c⟩
theorem rvalid_b {b : Bool} (v : Value) (xs : List St) (w : World) (hv : Rd setE w v xs) (h : b = true ↔ SetsOk xs) : Calls Try.prog 32 #[v] w fun e w' => e = .returned (.bool b) ∧ Below w.heap.size w w' :=
  (rvalid_any v xs w hv).mono fun e w' ⟨a, c⟩ => ⟨rbs_b h a, c⟩
theorem rhas_b {b : Bool} (v : Value) (xs : List St) (w : World) (hv : Rd setE w v xs) (fr tq sl : Int) (h : b = true ↔ Mem3 xs fr tq sl) : Calls Try.prog 36 #[v, .int .i64 fr, .int .i64 tq, .int .i64 sl] w fun e w' => e = .returned (.bool b) ∧ Below w.heap.size w w' :=
  (rhas_any v xs w hv fr tq sl).mono fun e w' ⟨a, c⟩ => ⟨rbs_b h a, c⟩
theorem has_b {b : Bool} (v : Value) (xs : List St) (w : World) (hv : Rd setE w v xs) (hb : Sml xs) (hok : SetsOk xs) (fr tq sl : Int) (h3 : I64 fr) (h4 : I64 tq) (h : b = true ↔ Mem3 xs fr tq sl) : Calls Try.prog 25 #[v, .int .i64 fr, .int .i64 tq, .int .i64 sl] w fun e w' => e = .returned (.bool b) ∧ Below w.heap.size w w' :=
  (has_any v xs w hv (by have := hb.1; omega) (fun x hx => ⟨by have := hb.2.1 x hx; omega, ((setsOk_iff.1 hok).1 x hx).2.2.le⟩) fr tq sl).mono fun e w' ⟨⟨k, ok, hs, a⟩, c⟩ => ⟨rbs_b (h.trans (has_all hok h3 h4 hs).symm) a, c⟩
theorem sum_le {xs : List St} {n : Nat} (h : ∀ x ∈ xs, x.slots.length ≤ n) : (xs.map (·.slots.length)).sum ≤ xs.length * n := by
  induction xs with
  | nil => simp
  | cons a l ih =>
    have h1 := ih fun x hx => h x (List.mem_cons_of_mem _ hx)
    have h2 := h a (List.mem_cons_self ..)
    rw [List.map_cons, List.sum_cons, List.length_cons, Nat.succ_mul]
    omega
theorem Sml.of {xs : List St} {m n : Nat} (h1 : xs.length ≤ m) (h2 : ∀ x ∈ xs, x.slots.length ≤ n) (h3 : m * n ≤ 1000000) (h4 : m ≤ 99999) (h5 : n ≤ 99999) : Sml xs :=
  ⟨by omega, fun x hx => by have := h2 x hx; omega, Nat.le_trans (sum_le h2) (Nat.le_trans (Nat.mul_le_mul_right _ h1) h3)⟩
theorem Sml.raw {xs : List St} (h : xs.length ≤ 40 ∧ IntKind.i64.wrap ((xs.map (·.slots.length)).sum : Nat) ≤ 300) (hb : ∀ x ∈ xs, (Lit.int .i64 x.fr).wf = true ∧ (Lit.int .i64 x.to).wf = true ∧ x.slots.length * 8 ≤ reachBytes) : Sml xs := by
  obtain ⟨h1, h2⟩ := h
  have h3 : ∀ x ∈ xs, x.slots.length ≤ reachBytes / 8 := fun x hx => by have := (hb x hx).2.2; omega
  have h4 := sum_le h3
  have h5 : xs.length * (reachBytes / 8) ≤ 40 * (reachBytes / 8) := Nat.mul_le_mul_right _ h1
  have h6 : 40 * (reachBytes / 8) ≤ 9223372036854775807 := by unfold reachBytes; decide
  have h7 : IntKind.i64.wrap ((xs.map (·.slots.length)).sum : Nat) = ((xs.map (·.slots.length)).sum : Nat) := IntWalk.i64_in _ (by omega)
  rw [h7] at h2
  refine ⟨by omega, fun x hx => ?_, by omega⟩
  have := le_sum_of_mem (List.mem_map.2 ⟨x, hx, rfl⟩ : x.slots.length ∈ xs.map (·.slots.length))
  omega
/-- a row of single cells -/
theorem rd_row1 {α : Type} {E : El α} {w : World} {b n : Nat} {cs : Array Value} {T : TypeId} {xs : List α} (hsz : E.sz = 1) (h : w.heap[b]? = some (.cells cs T (0, 0))) (hn : n = xs.length) (hm : n ≤ maxLen) (hel : ∀ i (hi : i < xs.length), ∃ v, cs[i]? = some v ∧ E.rel w xs[i] [v]) : Rd E w (.slice (some ⟨b, 0, none⟩) n n) xs := by
  subst hn
  refine ⟨_, _, rfl, Nat.le_refl _, hm, .inr ⟨b, 0, rfl, fun i hi => ?_⟩⟩
  obtain ⟨v, h1, h2⟩ := hel i hi
  refine ⟨[v], h2, fun j hj => ?_⟩
  obtain rfl : j = 0 := by omega
  rw [cell_block h, hsz, Nat.zero_add, Nat.mul_one, Nat.add_zero, h1]
  rfl
/-- the cells of a slice of slices -/
theorem sl_cells {α : Type} {E : El α} {w : World} {b off n cap : Nat} {xs : List (List α)} (h : Rd (sliceE E) w (.slice (some ⟨b, off, none⟩) n cap) xs) {i : Nat} (hi : i < xs.length) : b < w.heap.size ∧ ∃ v, w.cell? ⟨b, off + i, none⟩ = some v ∧ Rd E w v xs[i] := by
  obtain ⟨a, c, e, _, _, hf⟩ := h
  simp only [Value.slice.injEq] at e
  obtain ⟨rfl, rfl, rfl⟩ := e
  rcases hf with rfl | ⟨b', off', e, hf⟩
  · exact absurd hi (Nat.not_lt_zero _)
  · simp only [Option.some.injEq, Addr.mk.injEq, and_true] at e
    obtain ⟨rfl, rfl⟩ := e
    obtain ⟨cs, ⟨v, rfl, hr⟩, hc⟩ := hf i hi
    have e0 := hc 0 (show 0 < 1 by decide)
    simp only [show (sliceE E).sz = 1 from rfl, Nat.mul_one, Nat.add_zero] at e0
    exact ⟨World.block_lt_of_cell? w (a := ⟨b, off + i, none⟩) e0, v, e0, hr⟩
theorem rd3 {w : World} {q : Nat} {a b c : Int} {T : TypeId} (h : w.heap[q]? = some (.cells #[.int .i64 a, .int .i64 b, .int .i64 c] T (0, 0))) : Rd i64E w (.slice (some ⟨q, 0, none⟩) 3 3) [a, b, c] :=
  rd_row1 rfl h rfl (by unfold maxLen; decide) fun i hi => match i, hi with
    | 0, _ => ⟨_, rfl, rfl⟩
    | 1, _ => ⟨_, rfl, rfl⟩
    | 2, _ => ⟨_, rfl, rfl⟩

set_option maxRecDepth 100000 in
set_option maxHeartbeats 16000000 in
theorem remsetInserts_walk (w : World) (u : Value) (xs : List St) (hu : Rd setE w u xs) (hx : ∀ x ∈ xs, (Lit.int .i64 x.fr).wf = true ∧ (Lit.int .i64 x.to).wf = true ∧ x.slots.length * 8 ≤ reachBytes) (u2 : Value) (l : List Int) (hl : Rd i64E w u2 l) (hli : ∀ x ∈ l, I64 x)
    (fr : Int) (wfr : (Lit.int .i64 fr).wf = true) (tq : Int) (wtq : (Lit.int .i64 tq).wf = true) (sl : Int) (wsl : (Lit.int .i64 sl).wf = true) (wh : Int) (_ : (Lit.int .i64 wh).wf = true) (at' : Int) (_ : (Lit.int .i64 at').wf = true) (by' : Int) (_ : (Lit.int .i64 by').wf = true) :
    Calls Try.prog 7 #[u, u2, .int .i64 fr, .int .i64 tq, .int .i64 sl, .int .i64 wh, .int .i64 at', .int .i64 by'] w fun e w' => e = .returned (.bool true) ∧ Below w.heap.size w w' := by
  have HU := Lib.hid hu
  have HXB := Lib.hid hx
  have HL := Lib.hid hl
  have HLI := Lib.hid hli
  have HI1 : Hid (I64 fr) := Lib.hid (i64_wf wfr)
  have HI2 : Hid (I64 tq) := Lib.hid (i64_wf wtq)
  obtain ⟨_, _, rfl, _⟩ := hu
  obtain ⟨_, _, rfl, _⟩ := hl
  clear hx hli wfr wtq wsl
  go_enter Try.func7, Try.ntmps7
  go_wp2_with (go_at_call 29; fail)
  refine (sets_any _ xs _ HU.out).mono ?_
  rintro e w1 ⟨⟨b, rfl, hb⟩, hb1⟩
  have HB1 := Lib.hid hb1
  have hs1 := hb1.size
  clear hb1
  cases b with
  | false =>
    clear hb
    go_wp2_with (go_at_call 28; fail)
    refine (awake_any _).mono ?_
    rintro e w9 ⟨rfl, hb9⟩
    have HB9 := Lib.hid (HB1.out.trans (hb9.mono hs1))
    clear hb9
    go_wp2
    go_ret
    exact ⟨rfl, HB9.out⟩
  | true =>
    have HSX : Hid (Sml xs) := Lib.hid (Sml.raw (hb.1 rfl) HXB.out)
    clear hb
    go_wp2_with (go_at_call 11; fail)
    refine (new_any _ l _ (HL.out.below HB1.out) HLI.out).mono ?_
    rintro e w2 ⟨g, rfl, hdk, hb2⟩
    have HDK := Lib.hid hdk
    have HB2 := Lib.hid hb2
    have hgl := hdk.lt
    clear hdk hb2
    go_wp2_with (go_at_call 30; fail)
    refine (slots_any w2 g w1 HDK.out HB2.out hgl).mono ?_
    rintro e w3 ⟨⟨us, ss, rfl, hus, hsok, hsl, hss⟩, hb3⟩
    have HUS := Lib.hid hus
    have HSS : Hid (Sml ss) := Lib.hid (Sml.of hsl hss (by decide) (by decide) (by decide))
    have HB3 := Lib.hid (HB1.out.trans (hb3.mono hs1))
    have HSO := Lib.hid hsok
    have HSS2 := Lib.hid hss
    obtain ⟨_, _, rfl, _⟩ := hus
    clear hb3 hsok hss
    go_wp2_with (go_at_call 31; fail)
    refine (spoilt_any _ ss _ HUS.out HSO.out hsl HSS2.out wh at' by').mono ?_
    rintro e w4 ⟨⟨up, sp, rfl, hup, hpl, hps⟩, hb4⟩
    have HUP := Lib.hid hup
    have HSP : Hid (Sml sp) := Lib.hid (Sml.of hpl hps (by decide) (by decide) (by decide))
    have HB4 := Lib.hid (HB3.out.trans (hb4.mono HB3.out.size))
    have HUS4 := Lib.hid (HUS.out.below hb4)
    obtain ⟨_, _, rfl, _⟩ := hup
    clear hps hb4 HUS HSO HSS2 HDK
    have HALL : Hid (∀ ys ∈ [ss, xs, sp], Sml ys) := Lib.hid fun ys hy => by
      simp only [List.mem_cons, List.not_mem_nil, or_false] at hy
      rcases hy with rfl | rfl | rfl
      · exact HSS.out
      · exact HSX.out
      · exact HSP.out
    generalize hyy : [ss, xs, sp] = yss at HALL
    have hyl : yss.length = 3 := by rw [← hyy]; rfl
    obtain ⟨m1, e1, l1, g1⟩ : ∃ m, fr % 7 = m ∧ 0 ≤ m ∧ m < 7 := ⟨_, rfl, Int.emod_nonneg _ (by decide), Int.emod_lt_of_pos _ (by decide)⟩
    obtain ⟨m2, e2, l2, g2⟩ : ∃ m, tq % 7 = m ∧ 0 ≤ m ∧ m < 7 := ⟨_, rfl, Int.emod_nonneg _ (by decide), Int.emod_lt_of_pos _ (by decide)⟩
    obtain ⟨m3, e3, l3, g3⟩ : ∃ m, sl % 41 = m ∧ 0 ≤ m ∧ m < 41 := ⟨_, rfl, Int.emod_nonneg _ (by decide), Int.emod_lt_of_pos _ (by decide)⟩
    obtain ⟨m4, e4, l4, g4⟩ : ∃ m, fr % 67 = m ∧ 0 ≤ m ∧ m < 67 := ⟨_, rfl, Int.emod_nonneg _ (by decide), Int.emod_lt_of_pos _ (by decide)⟩
    obtain ⟨m5, e5, l5, g5⟩ : ∃ m, tq % 67 = m ∧ 0 ≤ m ∧ m < 67 := ⟨_, rfl, Int.emod_nonneg _ (by decide), Int.emod_lt_of_pos _ (by decide)⟩
    have q3 : IntKind.i64.wrap (m3 - 1) = m3 - 1 := IntWalk.i64_in _ (by omega)
    have q4 : IntKind.i64.wrap (m4 - 1) = m4 - 1 := IntWalk.i64_in _ (by omega)
    have q5 : IntKind.i64.wrap (m5 - 1) = m5 - 1 := IntWalk.i64_in _ (by omega)
    have HTI : Hid (∀ p ∈ [(fr, tq, sl), (m1, m2, m3), (m4 - 1, m5 - 1, m3 - 1)], I64 p.1 ∧ I64 p.2.1) := Lib.hid fun p hp => by
      simp only [List.mem_cons, List.not_mem_nil, or_false] at hp
      rcases hp with rfl | rfl | rfl
      · exact ⟨HI1.out, HI2.out⟩
      · unfold I64; simp only; omega
      · unfold I64; simp only; omega
    generalize hpp : [(fr, tq, sl), (m1, m2, m3), (m4 - 1, m5 - 1, m3 - 1)] = ps at HTI
    have hpl : ps.length = 3 := by rw [← hpp]; rfl
    go_wp2_with fail
    go_loopw [42] (fun i W => ∃ k : Nat, k ≤ 3 ∧ i = .int .i64 k ∧ Below w.heap.size w W ∧ Rd (sliceE setE) W (.slice (some ⟨w4.heap.size, 0, none⟩) 3 3) yss) (fun i _ => 3 - (intOf i).toNat)
    case atStart =>
      refine ⟨0, by omega, rfl, HB4.out.alloc HB4.out.size _, ?_⟩
      rw [← hyy]
      refine rd_row1 rfl (heap_alloc_new _ _) rfl (by unfold maxLen; decide) fun i hi => ?_
      match i, hi with
      | 0, _ => exact ⟨_, rfl, _, rfl, (HUS4.out.below ((Below.refl _ _).alloc (Nat.le_refl _) _))⟩
      | 1, _ => exact ⟨_, rfl, _, rfl, (HU.out.below (HB4.out.alloc HB4.out.size _))⟩
      | 2, _ => exact ⟨_, rfl, _, rfl, (HUP.out.below ((Below.refl _ _).alloc (Nat.le_refl _) _))⟩
    case round =>
      obtain ⟨k, hk, rfl, hbel, hro⟩ := hrel
      have HBW := Lib.hid hbel
      have HRO := Lib.hid hro
      by_cases hlt : k < 3
      · obtain ⟨hq, vx, y0, hrx⟩ := sl_cells hro (i := k) (by omega)
        rw [Nat.zero_add] at y0
        have HX := Lib.hid hrx
        have HSM : Hid (Sml yss[k]) := Lib.hid (HALL.out _ (List.getElem_mem (by omega)))
        generalize yss[k] = ys at HX HSM hrx
        obtain ⟨xa, xc, rfl, _⟩ := hrx
        obtain ⟨ob, hob⟩ : ∃ b : Bool, b = true ↔ SetsOk ys := by
          by_cases h : SetsOk ys
          · exact ⟨true, fun _ => h, fun _ => rfl⟩
          · exact ⟨false, fun h => (by cases h), fun h' => absurd h' h⟩
        have HOKB := Lib.hid hob
        clear hob hro hbel
        go_wp2_with (go_at_call 27; fail)
        refine (valid_b _ _ _ HX.out HOKB.out).mono ?_
        rintro e w5 ⟨rfl, hb5⟩
        have HX5 := Lib.hid (HX.out.below hb5)
        have HB5 := Lib.hid (HBW.out.trans (hb5.mono HBW.out.size))
        have HR5 := Lib.hid (HRO.out.below hb5)
        clear hb5
        go_wp2_with (go_at_call 32; fail)
        refine (rvalid_b _ _ _ HX5.out HOKB.out).mono ?_
        rintro e w6 ⟨rfl, hb6⟩
        have HX6 := Lib.hid (HX5.out.below hb6)
        have HB6 := Lib.hid (HB5.out.trans (hb6.mono HB5.out.size))
        have HR6 := Lib.hid (HR5.out.below hb6)
        clear hb6
        go_wp2_with (go_at_call 33; fail)
        refine (count_any _ _ _ HX6.out HSM.out.2.2).mono ?_
        rintro e w7 ⟨rfl, hb7⟩
        have HX7 := Lib.hid (HX6.out.below hb7)
        have HB7 := Lib.hid (HB6.out.trans (hb7.mono HB6.out.size))
        have HR7 := Lib.hid (HR6.out.below hb7)
        clear hb7
        go_wp2_with (go_at_call 34; fail)
        refine (rcount_any _ _ _ HX7.out HSM.out.2.2).mono ?_
        rintro e w8 ⟨rfl, hb8⟩
        have HX8 := Lib.hid (HX7.out.below hb8)
        have HB8 := Lib.hid (HB7.out.trans (hb8.mono HB7.out.size))
        have HR8 := Lib.hid (HR7.out.below hb8)
        clear hb8 HX HX5 HX6 HX7 HB5 HB6 HB7 HR5 HR6 HR7 y0 hq HRO HBW
        go_wp2_with ((go_at_call 14; refine (mod_any _ _ _ (by omega) (by omega)).mono ?_; rintro e w5 ⟨rfl, rfl⟩; (first | rw [e1] | rw [e2] | rw [e3] | rw [e4] | rw [e5])))
        go_loopw [81] (fun i W => ∃ j : Nat, j ≤ 3 ∧ i = .int .i64 j ∧ Below w.heap.size w W ∧ Rd (sliceE setE) W (.slice (some ⟨w4.heap.size, 0, none⟩) 3 3) yss ∧ Rd setE W (.slice xa ys.length xc) ys ∧ Rd trE W (.slice (some ⟨w8.heap.size + 3, 0, none⟩) 3 3) ps) (fun i _ => 3 - (intOf i).toNat)
        case atStart =>
          have hb9 : ∀ a b c d, Below w8.heap.size w8 ((((w8.alloc a).alloc b).alloc c).alloc d) := fun a b c d => ((((Below.refl _ _).alloc (Nat.le_refl _) _).alloc (by simp) _).alloc (by simp; omega) _).alloc (by simp; omega) _
          refine ⟨0, by omega, rfl, HB8.out.trans ((hb9 _ _ _ _).mono HB8.out.size), HR8.out.below (hb9 _ _ _ _), HX8.out.below (hb9 _ _ _ _), ?_⟩
          rw [← hpp]
          refine rd_row1 rfl (heap_alloc_at _ _ _ (by simp)) rfl (by unfold maxLen; decide) fun i hi => ?_
          match i, hi with
          | 0, _ => exact ⟨_, rfl, _, rfl, rd3 (alloc_block (alloc_block (alloc_block (heap_alloc_new _ _))))⟩
          | 1, _ => exact ⟨_, rfl, _, rfl, rd3 (alloc_block (alloc_block (heap_alloc_at _ _ _ (by simp))))⟩
          | 2, _ => exact ⟨_, rfl, _, rfl, rd3 (alloc_block (heap_alloc_at _ _ _ (by simp)))⟩
        case round =>
          obtain ⟨j, hj, rfl, hbel, hro, hrx, hrt⟩ := hrel
          have HBW := Lib.hid hbel
          have HRO := Lib.hid hro
          have HX := Lib.hid hrx
          have HRT := Lib.hid hrt
          clear hro hrx HX8 HB8 HR8
          by_cases hjt : j < 3
          · obtain ⟨hq, qb, qo, rc, x0, hcv⟩ := tr_cells hrt (i := j) (by omega)
            rw [Nat.zero_add] at x0
            have HI : Hid (I64 (ps[j]'(by omega)).1 ∧ I64 (ps[j]'(by omega)).2.1) := Lib.hid (HTI.out _ (List.getElem_mem (by omega)))
            obtain ⟨p1, p2, p3, hpv⟩ : ∃ a b c, ps[j] = (a, b, c) := ⟨_, _, _, rfl⟩
            rw [hpv] at hcv HI
            have HCQ := Lib.hid hcv
            obtain ⟨zs, er, hres⟩ := Res.some ys p1 p2 p3
            have HRES := Lib.hid hres
            obtain ⟨hb, hhb⟩ : ∃ b : Bool, b = true ↔ Mem3 ys p1 p2 p3 := by
              by_cases h : Mem3 ys p1 p2 p3
              · exact ⟨true, fun _ => h, fun _ => rfl⟩
              · exact ⟨false, fun h => (by cases h), fun h' => absurd h' h⟩
            have HMB := Lib.hid hhb
            have HI1 := Lib.hid HI.out.1
            have HI2 := Lib.hid HI.out.2
            have HBE : Hid (Below wr.heap.size wr wr) := Lib.hid (Below.refl _ _)
            clear hcv hpv hres hhb hrt hbel
            go_upto_region 12 with (fail)
            apply wp_region_valsX (by kernel_rfl) Grw (Grw.drew _) [86, 87, 88, 89, 90, 91, 92, 93, 94, 95, 96, 85, 97, 98, 22, 23] [Is _, Is _, Is _, Is _, Is _, Is _, Is _, Is _, Is _, Is _, (InF zs er), (InF zs er), (fun v W => Rd setE W v zs), Is (.int .i64 er), (fun v W => Rd setE W v zs), Is _] (stb_cons (Stb.is) (stb_cons (Stb.is) (stb_cons (Stb.is) (stb_cons (Stb.is) (stb_cons (Stb.is) (stb_cons (Stb.is) (stb_cons (Stb.is) (stb_cons (Stb.is) (stb_cons (Stb.is) (stb_cons (Stb.is) (stb_cons (InF.stb) (stb_cons (InF.stb) (stb_cons (Stb.rd) (stb_cons (Stb.is) (stb_cons (Stb.rd) (stb_cons (Stb.is) stb_nil)))))))))))))))) (by kernel_rfl) (by kernel_rfl) (by kernel_rfl)
            · intro hlt
              refine XSteps.cons (XStep.mk Grw.trans Grw.refl rfl rfl (hlt 0 _ rfl) fun t V hout hE hdep K hK => ?_) ?_
              · skip
                have t19 : t[19]? = some _ := hout 19 (by kernel_rfl)
                clear hout hdep
                go_simp
                exact hK.out _ _ (Grw.refl _) rfl
              refine XSteps.cons (XStep.mk Grw.trans Grw.refl rfl rfl (hlt 1 _ rfl) fun t V hout hE hdep K hK => ?_) ?_
              · skip
                have t21 : t[21]? = some _ := hout 21 (by kernel_rfl)
                clear hout hdep
                go_simp
                exact hK.out _ _ (Grw.refl _) rfl
              refine XSteps.cons (XStep.mk Grw.trans Grw.refl rfl rfl (hlt 2 _ rfl) fun t V hout hE hdep K hK => ?_) ?_
              · skip
                have t87 := by_is (W := V) (hdep 1 87 (by kernel_rfl))
                clear hout hdep
                go_simp
                exact hK.out _ _ (Grw.refl _) rfl
              refine XSteps.cons (XStep.mk Grw.trans Grw.refl rfl rfl (hlt 3 _ rfl) fun t V hout hE hdep K hK => ?_) ?_
              · skip
                have t88 := by_is (W := V) (hdep 2 88 (by kernel_rfl))
                clear hout hdep
                have hV := HBE.out.trans (hE.mono HBE.out.size)
                obtain ⟨c0, c1, c2, c3⟩ := HCQ.out V hV
                go_simp
                exact hK.out _ _ (Grw.refl _) rfl
              refine XSteps.cons (XStep.mk Grw.trans Grw.refl rfl rfl (hlt 4 _ rfl) fun t V hout hE hdep K hK => ?_) ?_
              · skip
                have t21 : t[21]? = some _ := hout 21 (by kernel_rfl)
                clear hout hdep
                go_simp
                exact hK.out _ _ (Grw.refl _) rfl
              refine XSteps.cons (XStep.mk Grw.trans Grw.refl rfl rfl (hlt 5 _ rfl) fun t V hout hE hdep K hK => ?_) ?_
              · skip
                have t90 := by_is (W := V) (hdep 4 90 (by kernel_rfl))
                clear hout hdep
                go_simp
                exact hK.out _ _ (Grw.refl _) rfl
              refine XSteps.cons (XStep.mk Grw.trans Grw.refl rfl rfl (hlt 6 _ rfl) fun t V hout hE hdep K hK => ?_) ?_
              · skip
                have t91 := by_is (W := V) (hdep 5 91 (by kernel_rfl))
                clear hout hdep
                have hV := HBE.out.trans (hE.mono HBE.out.size)
                obtain ⟨c0, c1, c2, c3⟩ := HCQ.out V hV
                go_simp
                exact hK.out _ _ (Grw.refl _) rfl
              refine XSteps.cons (XStep.mk Grw.trans Grw.refl rfl rfl (hlt 7 _ rfl) fun t V hout hE hdep K hK => ?_) ?_
              · skip
                have t21 : t[21]? = some _ := hout 21 (by kernel_rfl)
                clear hout hdep
                go_simp
                exact hK.out _ _ (Grw.refl _) rfl
              refine XSteps.cons (XStep.mk Grw.trans Grw.refl rfl rfl (hlt 8 _ rfl) fun t V hout hE hdep K hK => ?_) ?_
              · skip
                have t93 := by_is (W := V) (hdep 7 93 (by kernel_rfl))
                clear hout hdep
                go_simp
                exact hK.out _ _ (Grw.refl _) rfl
              refine XSteps.cons (XStep.mk Grw.trans Grw.refl rfl rfl (hlt 9 _ rfl) fun t V hout hE hdep K hK => ?_) ?_
              · skip
                have t94 := by_is (W := V) (hdep 8 94 (by kernel_rfl))
                clear hout hdep
                have hV := HBE.out.trans (hE.mono HBE.out.size)
                obtain ⟨c0, c1, c2, c3⟩ := HCQ.out V hV
                go_simp
                exact hK.out _ _ (Grw.refl _) rfl
              refine XSteps.cons (XStep.mk Grw.trans Grw.refl rfl rfl (hlt 10 _ rfl) fun t V hout hE hdep K hK => ?_) ?_
              · skip
                have t86 := by_is (W := V) (hdep 0 86 (by kernel_rfl))
                have t89 := by_is (W := V) (hdep 3 89 (by kernel_rfl))
                have t92 := by_is (W := V) (hdep 6 92 (by kernel_rfl))
                have t95 := by_is (W := V) (hdep 9 95 (by kernel_rfl))
                clear hout hdep
                go_simp
                refine (insert_res _ _ V (HX.out.below hE) HSM.out _ _ _ HRES.out).mono ?_
                rintro e W5 ⟨⟨r, rfl, hr⟩, hb5⟩
                go_simp
                exact hK.out _ _ hb5 ⟨r, rfl, hr⟩
              refine XSteps.cons (XStep.mk Grw.trans Grw.refl rfl rfl (hlt 11 _ rfl) fun t V hout hE hdep K hK => ?_) ?_
              · skip
                obtain ⟨v96, t96, e96⟩ := hdep 10 96 (by kernel_rfl)
                clear hout hdep
                obtain ⟨r, rfl, hr⟩ := e96
                go_simp
                exact hK.out _ _ (Grw.refl _) ⟨r, rfl, hr⟩
              refine XSteps.cons (XStep.mk Grw.trans Grw.refl rfl rfl (hlt 12 _ rfl) fun t V hout hE hdep K hK => ?_) ?_
              · skip
                obtain ⟨v85, t85, e85⟩ := hdep 11 85 (by kernel_rfl)
                clear hout hdep
                obtain ⟨r, rfl, hr⟩ := e85
                go_simp
                exact hK.out _ _ (Grw.refl _) hr
              refine XSteps.cons (XStep.mk Grw.trans Grw.refl rfl rfl (hlt 13 _ rfl) fun t V hout hE hdep K hK => ?_) ?_
              · skip
                obtain ⟨v85, t85, e85⟩ := hdep 11 85 (by kernel_rfl)
                clear hout hdep
                obtain ⟨r, rfl, hr⟩ := e85
                go_simp
                exact hK.out _ _ (Grw.refl _) rfl
              refine XSteps.cons (XStep.mk Grw.trans Grw.refl rfl rfl (hlt 14 _ rfl) fun t V hout hE hdep K hK => ?_) ?_
              · skip
                obtain ⟨v97, t97, e97⟩ := hdep 12 97 (by kernel_rfl)
                clear hout hdep
                go_simp
                exact hK.out _ _ (Grw.refl _) e97
              refine XSteps.cons (XStep.mk Grw.trans Grw.refl rfl rfl (hlt 15 _ rfl) fun t V hout hE hdep K hK => ?_) ?_
              · skip
                have t98 := by_is (W := V) (hdep 13 98 (by kernel_rfl))
                clear hout hdep
                go_simp
                exact hK.out _ _ (Grw.refl _) rfl
              exact XSteps.nil (by decide)
            · intro f W hE hF
              have f86 : f 86 = _ := hF 0 86 (by kernel_rfl)
              have f87 : f 87 = _ := hF 1 87 (by kernel_rfl)
              have f88 : f 88 = _ := hF 2 88 (by kernel_rfl)
              have f89 : f 89 = _ := hF 3 89 (by kernel_rfl)
              have f90 : f 90 = _ := hF 4 90 (by kernel_rfl)
              have f91 : f 91 = _ := hF 5 91 (by kernel_rfl)
              have f92 : f 92 = _ := hF 6 92 (by kernel_rfl)
              have f93 : f 93 = _ := hF 7 93 (by kernel_rfl)
              have f94 : f 94 = _ := hF 8 94 (by kernel_rfl)
              have f95 : f 95 = _ := hF 9 95 (by kernel_rfl)
              have f96 := hF 10 96 (by kernel_rfl)
              have f85 := hF 11 85 (by kernel_rfl)
              have f97 := hF 12 97 (by kernel_rfl)
              have f98 : f 98 = _ := hF 13 98 (by kernel_rfl)
              have f22 := hF 14 22 (by kernel_rfl)
              have f23 : f 23 = _ := hF 15 23 (by kernel_rfl)
              simp only [setAllV, List.map_cons, List.map_nil, List.set_cons_succ, List.set_cons_zero, f86, f87, f88, f89, f90, f91, f92, f93, f94, f95, f98, f23]
              clear hF f86 f87 f88 f89 f90 f91 f92 f93 f94 f95 f98 f23
              generalize f 96 = v96 at *
              generalize f 85 = v85 at *
              generalize f 97 = v97 at *
              generalize f 22 = v22 at *
              obtain ⟨_, _, ra1, _⟩ := id f22
              subst ra1
              have HA := Lib.hid f22
              have HX2 := Lib.hid (HX.out.below hE)
              have HBE2 : Hid (Below wr.heap.size wr W) := Lib.hid hE
              clear f22 f96 f85 f97 hE
              go_upto_region 13 with (fail)
              apply wp_region_valsX (by kernel_rfl) Grw (Grw.drew _) [100, 101, 102, 103, 104, 105, 106, 107, 108, 109, 110, 99, 111, 112, 24, 25] [Is _, Is _, Is _, Is _, Is _, Is _, Is _, Is _, Is _, Is _, (InF zs er), (InF zs er), (fun v W => Rd setE W v zs), Is (.int .i64 er), (fun v W => Rd setE W v zs), Is _] (stb_cons (Stb.is) (stb_cons (Stb.is) (stb_cons (Stb.is) (stb_cons (Stb.is) (stb_cons (Stb.is) (stb_cons (Stb.is) (stb_cons (Stb.is) (stb_cons (Stb.is) (stb_cons (Stb.is) (stb_cons (Stb.is) (stb_cons (InF.stb) (stb_cons (InF.stb) (stb_cons (Stb.rd) (stb_cons (Stb.is) (stb_cons (Stb.rd) (stb_cons (Stb.is) stb_nil)))))))))))))))) (by kernel_rfl) (by kernel_rfl) (by kernel_rfl)
              · intro hlt
                refine XSteps.cons (XStep.mk Grw.trans Grw.refl rfl rfl (hlt 0 _ rfl) fun t V hout hE hdep K hK => ?_) ?_
                · skip
                  have t19 : t[19]? = some _ := hout 19 (by kernel_rfl)
                  clear hout hdep
                  go_simp
                  exact hK.out _ _ (Grw.refl _) rfl
                refine XSteps.cons (XStep.mk Grw.trans Grw.refl rfl rfl (hlt 1 _ rfl) fun t V hout hE hdep K hK => ?_) ?_
                · skip
                  have t21 : t[21]? = some _ := hout 21 (by kernel_rfl)
                  clear hout hdep
                  go_simp
                  exact hK.out _ _ (Grw.refl _) rfl
                refine XSteps.cons (XStep.mk Grw.trans Grw.refl rfl rfl (hlt 2 _ rfl) fun t V hout hE hdep K hK => ?_) ?_
                · skip
                  have t101 := by_is (W := V) (hdep 1 101 (by kernel_rfl))
                  clear hout hdep
                  go_simp
                  exact hK.out _ _ (Grw.refl _) rfl
                refine XSteps.cons (XStep.mk Grw.trans Grw.refl rfl rfl (hlt 3 _ rfl) fun t V hout hE hdep K hK => ?_) ?_
                · skip
                  have t102 := by_is (W := V) (hdep 2 102 (by kernel_rfl))
                  clear hout hdep
                  have hV := HBE2.out.trans (hE.mono HBE2.out.size)
                  obtain ⟨c0, c1, c2, c3⟩ := HCQ.out V hV
                  go_simp
                  exact hK.out _ _ (Grw.refl _) rfl
                refine XSteps.cons (XStep.mk Grw.trans Grw.refl rfl rfl (hlt 4 _ rfl) fun t V hout hE hdep K hK => ?_) ?_
                · skip
                  have t21 : t[21]? = some _ := hout 21 (by kernel_rfl)
                  clear hout hdep
                  go_simp
                  exact hK.out _ _ (Grw.refl _) rfl
                refine XSteps.cons (XStep.mk Grw.trans Grw.refl rfl rfl (hlt 5 _ rfl) fun t V hout hE hdep K hK => ?_) ?_
                · skip
                  have t104 := by_is (W := V) (hdep 4 104 (by kernel_rfl))
                  clear hout hdep
                  go_simp
                  exact hK.out _ _ (Grw.refl _) rfl
                refine XSteps.cons (XStep.mk Grw.trans Grw.refl rfl rfl (hlt 6 _ rfl) fun t V hout hE hdep K hK => ?_) ?_
                · skip
                  have t105 := by_is (W := V) (hdep 5 105 (by kernel_rfl))
                  clear hout hdep
                  have hV := HBE2.out.trans (hE.mono HBE2.out.size)
                  obtain ⟨c0, c1, c2, c3⟩ := HCQ.out V hV
                  go_simp
                  exact hK.out _ _ (Grw.refl _) rfl
                refine XSteps.cons (XStep.mk Grw.trans Grw.refl rfl rfl (hlt 7 _ rfl) fun t V hout hE hdep K hK => ?_) ?_
                · skip
                  have t21 : t[21]? = some _ := hout 21 (by kernel_rfl)
                  clear hout hdep
                  go_simp
                  exact hK.out _ _ (Grw.refl _) rfl
                refine XSteps.cons (XStep.mk Grw.trans Grw.refl rfl rfl (hlt 8 _ rfl) fun t V hout hE hdep K hK => ?_) ?_
                · skip
                  have t107 := by_is (W := V) (hdep 7 107 (by kernel_rfl))
                  clear hout hdep
                  go_simp
                  exact hK.out _ _ (Grw.refl _) rfl
                refine XSteps.cons (XStep.mk Grw.trans Grw.refl rfl rfl (hlt 9 _ rfl) fun t V hout hE hdep K hK => ?_) ?_
                · skip
                  have t108 := by_is (W := V) (hdep 8 108 (by kernel_rfl))
                  clear hout hdep
                  have hV := HBE2.out.trans (hE.mono HBE2.out.size)
                  obtain ⟨c0, c1, c2, c3⟩ := HCQ.out V hV
                  go_simp
                  exact hK.out _ _ (Grw.refl _) rfl
                refine XSteps.cons (XStep.mk Grw.trans Grw.refl rfl rfl (hlt 10 _ rfl) fun t V hout hE hdep K hK => ?_) ?_
                · skip
                  have t100 := by_is (W := V) (hdep 0 100 (by kernel_rfl))
                  have t103 := by_is (W := V) (hdep 3 103 (by kernel_rfl))
                  have t106 := by_is (W := V) (hdep 6 106 (by kernel_rfl))
                  have t109 := by_is (W := V) (hdep 9 109 (by kernel_rfl))
                  clear hout hdep
                  go_simp
                  refine (rinsert_res _ _ V (HX2.out.below hE) HSM.out _ _ _ HRES.out).mono ?_
                  rintro e W5 ⟨⟨r, rfl, hr⟩, hb5⟩
                  go_simp
                  exact hK.out _ _ hb5 ⟨r, rfl, hr⟩
                refine XSteps.cons (XStep.mk Grw.trans Grw.refl rfl rfl (hlt 11 _ rfl) fun t V hout hE hdep K hK => ?_) ?_
                · skip
                  obtain ⟨v110, t110, e110⟩ := hdep 10 110 (by kernel_rfl)
                  clear hout hdep
                  obtain ⟨r, rfl, hr⟩ := e110
                  go_simp
                  exact hK.out _ _ (Grw.refl _) ⟨r, rfl, hr⟩
                refine XSteps.cons (XStep.mk Grw.trans Grw.refl rfl rfl (hlt 12 _ rfl) fun t V hout hE hdep K hK => ?_) ?_
                · skip
                  obtain ⟨v99, t99, e99⟩ := hdep 11 99 (by kernel_rfl)
                  clear hout hdep
                  obtain ⟨r, rfl, hr⟩ := e99
                  go_simp
                  exact hK.out _ _ (Grw.refl _) hr
                refine XSteps.cons (XStep.mk Grw.trans Grw.refl rfl rfl (hlt 13 _ rfl) fun t V hout hE hdep K hK => ?_) ?_
                · skip
                  obtain ⟨v99, t99, e99⟩ := hdep 11 99 (by kernel_rfl)
                  clear hout hdep
                  obtain ⟨r, rfl, hr⟩ := e99
                  go_simp
                  exact hK.out _ _ (Grw.refl _) rfl
                refine XSteps.cons (XStep.mk Grw.trans Grw.refl rfl rfl (hlt 14 _ rfl) fun t V hout hE hdep K hK => ?_) ?_
                · skip
                  obtain ⟨v111, t111, e111⟩ := hdep 12 111 (by kernel_rfl)
                  clear hout hdep
                  go_simp
                  exact hK.out _ _ (Grw.refl _) e111
                refine XSteps.cons (XStep.mk Grw.trans Grw.refl rfl rfl (hlt 15 _ rfl) fun t V hout hE hdep K hK => ?_) ?_
                · skip
                  have t112 := by_is (W := V) (hdep 13 112 (by kernel_rfl))
                  clear hout hdep
                  go_simp
                  exact hK.out _ _ (Grw.refl _) rfl
                exact XSteps.nil (by decide)
              · intro f W hE hF
                have f100 : f 100 = _ := hF 0 100 (by kernel_rfl)
                have f101 : f 101 = _ := hF 1 101 (by kernel_rfl)
                have f102 : f 102 = _ := hF 2 102 (by kernel_rfl)
                have f103 : f 103 = _ := hF 3 103 (by kernel_rfl)
                have f104 : f 104 = _ := hF 4 104 (by kernel_rfl)
                have f105 : f 105 = _ := hF 5 105 (by kernel_rfl)
                have f106 : f 106 = _ := hF 6 106 (by kernel_rfl)
                have f107 : f 107 = _ := hF 7 107 (by kernel_rfl)
                have f108 : f 108 = _ := hF 8 108 (by kernel_rfl)
                have f109 : f 109 = _ := hF 9 109 (by kernel_rfl)
                have f110 := hF 10 110 (by kernel_rfl)
                have f99 := hF 11 99 (by kernel_rfl)
                have f111 := hF 12 111 (by kernel_rfl)
                have f112 : f 112 = _ := hF 13 112 (by kernel_rfl)
                have f24 := hF 14 24 (by kernel_rfl)
                have f25 : f 25 = _ := hF 15 25 (by kernel_rfl)
                simp only [setAllV, List.map_cons, List.map_nil, List.set_cons_succ, List.set_cons_zero, f100, f101, f102, f103, f104, f105, f106, f107, f108, f109, f112, f25]
                clear hF f100 f101 f102 f103 f104 f105 f106 f107 f108 f109 f112 f25
                generalize f 110 = v110 at *
                generalize f 99 = v99 at *
                generalize f 111 = v111 at *
                generalize f 24 = v24 at *
                obtain ⟨_, _, ra2, _⟩ := id f24
                subst ra2
                have HB := Lib.hid f24
                have HA2 := Lib.hid (HA.out.below hE)
                have HX3 := Lib.hid (HX2.out.below hE)
                have HBE3 := Lib.hid (HBE2.out.trans (hE.mono HBE2.out.size))
                clear f24 f110 f99 f111 hE
                cases ob with
                | true =>
                  go_upto_region 14 with (fail)
                  apply wp_region_vals (by kernel_rfl) Grw (Grw.drew _) [113, 114, 115, 116, 117, 118, 119, 120, 121, 122, 123, 124, 125, 126, 127, 128, 129, 130, 131, 132, 133, 134, 135, 136, 137, 138, 139, 140, 141, 142, 143, 144, 145, 146, 147, 148, 149, 150] [Is _, Is _, Is _, Is _, Is _, Is _, Is (.bool true), Is _, Is _, Is _, Is _, Is (.bool true), Is _, Is _, Is _, Is _, Is _, Is _, Is _, Is _, Is _, Is _, Is _, Is (.bool hb), Is _, Is _, Is _, Is _, Is _, Is _, Is _, Is _, Is _, Is _, Is (.bool hb), Is _, Is _, Is _] (stb_cons (Stb.is) (stb_cons (Stb.is) (stb_cons (Stb.is) (stb_cons (Stb.is) (stb_cons (Stb.is) (stb_cons (Stb.is) (stb_cons (Stb.is) (stb_cons (Stb.is) (stb_cons (Stb.is) (stb_cons (Stb.is) (stb_cons (Stb.is) (stb_cons (Stb.is) (stb_cons (Stb.is) (stb_cons (Stb.is) (stb_cons (Stb.is) (stb_cons (Stb.is) (stb_cons (Stb.is) (stb_cons (Stb.is) (stb_cons (Stb.is) (stb_cons (Stb.is) (stb_cons (Stb.is) (stb_cons (Stb.is) (stb_cons (Stb.is) (stb_cons (Stb.is) (stb_cons (Stb.is) (stb_cons (Stb.is) (stb_cons (Stb.is) (stb_cons (Stb.is) (stb_cons (Stb.is) (stb_cons (Stb.is) (stb_cons (Stb.is) (stb_cons (Stb.is) (stb_cons (Stb.is) (stb_cons (Stb.is) (stb_cons (Stb.is) (stb_cons (Stb.is) (stb_cons (Stb.is) (stb_cons (Stb.is) stb_nil)))))))))))))))))))))))))))))))))))))) (by kernel_rfl) (by kernel_rfl) (by kernel_rfl)
                  · refine VSteps.cons (VStep.mk Grw.trans rfl rfl fun t V hout hE hdep K hK => ?_) ?_
                    · skip
                      have t23 : t[23]? = some _ := hout 23 (by kernel_rfl)
                      clear hout hdep
                      go_simp
                      exact hK.out _ _ (Grw.refl _) rfl
                    refine VSteps.cons (VStep.mk Grw.trans rfl rfl fun t V hout hE hdep K hK => ?_) ?_
                    · skip
                      have t25 : t[25]? = some _ := hout 25 (by kernel_rfl)
                      clear hout hdep
                      go_simp
                      exact hK.out _ _ (Grw.refl _) rfl
                    refine VSteps.cons (VStep.mk Grw.trans rfl rfl fun t V hout hE hdep K hK => ?_) ?_
                    · skip
                      have t113 := by_is (W := V) (hdep 0 113 (by kernel_rfl))
                      have t114 := by_is (W := V) (hdep 1 114 (by kernel_rfl))
                      clear hout hdep
                      go_simp
                      exact hK.out _ _ (Grw.refl _) rfl
                    refine VSteps.cons (VStep.mk Grw.trans rfl rfl fun t V hout hE hdep K hK => ?_) ?_
                    · skip
                      have t115 := by_is (W := V) (hdep 2 115 (by kernel_rfl))
                      clear hout hdep
                      go_simp
                      exact hK.out _ _ (Grw.refl _) rfl
                    refine VSteps.cons (VStep.mkG Grw.trans (dg := 116) rfl rfl (by kernel_rfl) (fun _ _ h => h) fun t V hout hE hdep K hK => ?_) ?_
                    · skip
                      have t22 : t[22]? = some _ := hout 22 (by kernel_rfl)
                      clear hout hdep
                      go_simp
                      exact hK.out _ _ (Grw.refl _) rfl
                    refine VSteps.cons (VStep.mkG Grw.trans (dg := 116) rfl rfl (by kernel_rfl) (fun _ _ h => h) fun t V hout hE hdep K hK => ?_) ?_
                    · skip
                      have t24 : t[24]? = some _ := hout 24 (by kernel_rfl)
                      clear hout hdep
                      go_simp
                      exact hK.out _ _ (Grw.refl _) rfl
                    refine VSteps.cons (VStep.mkG Grw.trans (dg := 116) rfl rfl (by kernel_rfl) (fun _ _ h => h) fun t V hout hE hdep K hK => ?_) ?_
                    · skip
                      have t117 := by_is (W := V) (hdep 4 117 (by kernel_rfl))
                      have t118 := by_is (W := V) (hdep 5 118 (by kernel_rfl))
                      clear hout hdep
                      go_simp
                      refine (same_t _ _ _ _ V (HA2.out.below hE) (HB.out.below hE) rfl).mono ?_
                      rintro e W5 ⟨rfl, hb5⟩
                      go_simp
                      exact hK.out _ _ hb5 rfl
                    refine VSteps.cons (VStep.mkG Grw.trans (dg := 116) rfl rfl (by kernel_rfl) (fun _ _ h => h) fun t V hout hE hdep K hK => ?_) ?_
                    · skip
                      have t119 := by_is (W := V) (hdep 6 119 (by kernel_rfl))
                      clear hout hdep
                      go_simp
                      exact hK.out _ _ (Grw.refl _) rfl
                    refine VSteps.cons (VStep.mk Grw.trans rfl rfl fun t V hout hE hdep K hK => ?_) ?_
                    · skip
                      have t116 := by_is (W := V) (hdep 3 116 (by kernel_rfl))
                      have t120 := by_is (W := V) (hdep 7 120 (by kernel_rfl))
                      clear hout hdep
                      go_simp
                      exact hK.out _ _ (Grw.refl _) rfl
                    refine VSteps.cons (VStep.mk Grw.trans rfl rfl fun t V hout hE hdep K hK => ?_) ?_
                    · skip
                      have t121 := by_is (W := V) (hdep 8 121 (by kernel_rfl))
                      clear hout hdep
                      go_simp
                      exact hK.out _ _ (Grw.refl _) rfl
                    refine VSteps.cons (VStep.mkG Grw.trans (dg := 122) rfl rfl (by kernel_rfl) (fun _ _ h => h) fun t V hout hE hdep K hK => ?_) ?_
                    · skip
                      have t19 : t[19]? = some _ := hout 19 (by kernel_rfl)
                      clear hout hdep
                      go_simp
                      exact hK.out _ _ (Grw.refl _) rfl
                    refine VSteps.cons (VStep.mkG Grw.trans (dg := 122) rfl rfl (by kernel_rfl) (fun _ _ h => h) fun t V hout hE hdep K hK => ?_) ?_
                    · skip
                      have t123 := by_is (W := V) (hdep 10 123 (by kernel_rfl))
                      clear hout hdep
                      go_simp
                      refine (rvalid_b _ _ V (HX3.out.below hE) HOKB.out).mono ?_
                      rintro e W5 ⟨rfl, hb5⟩
                      go_simp
                      exact hK.out _ _ hb5 rfl
                    refine VSteps.cons (VStep.mkG Grw.trans (dg := 122) rfl rfl (by kernel_rfl) (fun _ _ h => h) fun t V hout hE hdep K hK => ?_) ?_
                    · skip
                      have t124 := by_is (W := V) (hdep 11 124 (by kernel_rfl))
                      clear hout hdep
                      go_simp
                      exact hK.out _ _ (Grw.refl _) rfl
                    refine VSteps.cons (VStep.mkG Grw.trans (dg := 125) rfl rfl (by kernel_rfl) (fun _ _ h => h) fun t V hout hE hdep K hK => ?_) ?_
                    · skip
                      have t19 : t[19]? = some _ := hout 19 (by kernel_rfl)
                      clear hout hdep
                      go_simp
                      exact hK.out _ _ (Grw.refl _) rfl
                    refine VSteps.cons (VStep.mkG Grw.trans (dg := 125) rfl rfl (by kernel_rfl) (fun _ _ h => h) fun t V hout hE hdep K hK => ?_) ?_
                    · skip
                      have t21 : t[21]? = some _ := hout 21 (by kernel_rfl)
                      clear hout hdep
                      go_simp
                      exact hK.out _ _ (Grw.refl _) rfl
                    refine VSteps.cons (VStep.mkG Grw.trans (dg := 125) rfl rfl (by kernel_rfl) (fun _ _ h => h) fun t V hout hE hdep K hK => ?_) ?_
                    · skip
                      have t127 := by_is (W := V) (hdep 14 127 (by kernel_rfl))
                      clear hout hdep
                      go_simp
                      exact hK.out _ _ (Grw.refl _) rfl
                    refine VSteps.cons (VStep.mkG Grw.trans (dg := 125) rfl rfl (by kernel_rfl) (fun _ _ h => h) fun t V hout hE hdep K hK => ?_) ?_
                    · skip
                      have t128 := by_is (W := V) (hdep 15 128 (by kernel_rfl))
                      clear hout hdep
                      have hV := HBE3.out.trans (hE.mono HBE3.out.size)
                      obtain ⟨c0, c1, c2, c3⟩ := HCQ.out V hV
                      go_simp
                      exact hK.out _ _ (Grw.refl _) rfl
                    refine VSteps.cons (VStep.mkG Grw.trans (dg := 125) rfl rfl (by kernel_rfl) (fun _ _ h => h) fun t V hout hE hdep K hK => ?_) ?_
                    · skip
                      have t21 : t[21]? = some _ := hout 21 (by kernel_rfl)
                      clear hout hdep
                      go_simp
                      exact hK.out _ _ (Grw.refl _) rfl
                    refine VSteps.cons (VStep.mkG Grw.trans (dg := 125) rfl rfl (by kernel_rfl) (fun _ _ h => h) fun t V hout hE hdep K hK => ?_) ?_
                    · skip
                      have t130 := by_is (W := V) (hdep 17 130 (by kernel_rfl))
                      clear hout hdep
                      go_simp
                      exact hK.out _ _ (Grw.refl _) rfl
                    refine VSteps.cons (VStep.mkG Grw.trans (dg := 125) rfl rfl (by kernel_rfl) (fun _ _ h => h) fun t V hout hE hdep K hK => ?_) ?_
                    · skip
                      have t131 := by_is (W := V) (hdep 18 131 (by kernel_rfl))
                      clear hout hdep
                      have hV := HBE3.out.trans (hE.mono HBE3.out.size)
                      obtain ⟨c0, c1, c2, c3⟩ := HCQ.out V hV
                      go_simp
                      exact hK.out _ _ (Grw.refl _) rfl
                    refine VSteps.cons (VStep.mkG Grw.trans (dg := 125) rfl rfl (by kernel_rfl) (fun _ _ h => h) fun t V hout hE hdep K hK => ?_) ?_
                    · skip
                      have t21 : t[21]? = some _ := hout 21 (by kernel_rfl)
                      clear hout hdep
                      go_simp
                      exact hK.out _ _ (Grw.refl _) rfl
                    refine VSteps.cons (VStep.mkG Grw.trans (dg := 125) rfl rfl (by kernel_rfl) (fun _ _ h => h) fun t V hout hE hdep K hK => ?_) ?_
                    · skip
                      have t133 := by_is (W := V) (hdep 20 133 (by kernel_rfl))
                      clear hout hdep
                      go_simp
                      exact hK.out _ _ (Grw.refl _) rfl
                    refine VSteps.cons (VStep.mkG Grw.trans (dg := 125) rfl rfl (by kernel_rfl) (fun _ _ h => h) fun t V hout hE hdep K hK => ?_) ?_
                    · skip
                      have t134 := by_is (W := V) (hdep 21 134 (by kernel_rfl))
                      clear hout hdep
                      have hV := HBE3.out.trans (hE.mono HBE3.out.size)
                      obtain ⟨c0, c1, c2, c3⟩ := HCQ.out V hV
                      go_simp
                      exact hK.out _ _ (Grw.refl _) rfl
                    refine VSteps.cons (VStep.mkG Grw.trans (dg := 125) rfl rfl (by kernel_rfl) (fun _ _ h => h) fun t V hout hE hdep K hK => ?_) ?_
                    · skip
                      have t126 := by_is (W := V) (hdep 13 126 (by kernel_rfl))
                      have t129 := by_is (W := V) (hdep 16 129 (by kernel_rfl))
                      have t132 := by_is (W := V) (hdep 19 132 (by kernel_rfl))
                      have t135 := by_is (W := V) (hdep 22 135 (by kernel_rfl))
                      clear hout hdep
                      go_simp
                      refine (has_b _ _ V (HX3.out.below hE) HSM.out (HOKB.out.1 rfl) _ _ _ HI1.out HI2.out HMB.out).mono ?_
                      rintro e W5 ⟨rfl, hb5⟩
                      go_simp
                      exact hK.out _ _ hb5 rfl
                    refine VSteps.cons (VStep.mkG Grw.trans (dg := 125) rfl rfl (by kernel_rfl) (fun _ _ h => h) fun t V hout hE hdep K hK => ?_) ?_
                    · skip
                      have t19 : t[19]? = some _ := hout 19 (by kernel_rfl)
                      clear hout hdep
                      go_simp
                      exact hK.out _ _ (Grw.refl _) rfl
                    refine VSteps.cons (VStep.mkG Grw.trans (dg := 125) rfl rfl (by kernel_rfl) (fun _ _ h => h) fun t V hout hE hdep K hK => ?_) ?_
                    · skip
                      have t21 : t[21]? = some _ := hout 21 (by kernel_rfl)
                      clear hout hdep
                      go_simp
                      exact hK.out _ _ (Grw.refl _) rfl
                    refine VSteps.cons (VStep.mkG Grw.trans (dg := 125) rfl rfl (by kernel_rfl) (fun _ _ h => h) fun t V hout hE hdep K hK => ?_) ?_
                    · skip
                      have t138 := by_is (W := V) (hdep 25 138 (by kernel_rfl))
                      clear hout hdep
                      go_simp
                      exact hK.out _ _ (Grw.refl _) rfl
                    refine VSteps.cons (VStep.mkG Grw.trans (dg := 125) rfl rfl (by kernel_rfl) (fun _ _ h => h) fun t V hout hE hdep K hK => ?_) ?_
                    · skip
                      have t139 := by_is (W := V) (hdep 26 139 (by kernel_rfl))
                      clear hout hdep
                      have hV := HBE3.out.trans (hE.mono HBE3.out.size)
                      obtain ⟨c0, c1, c2, c3⟩ := HCQ.out V hV
                      go_simp
                      exact hK.out _ _ (Grw.refl _) rfl
                    refine VSteps.cons (VStep.mkG Grw.trans (dg := 125) rfl rfl (by kernel_rfl) (fun _ _ h => h) fun t V hout hE hdep K hK => ?_) ?_
                    · skip
                      have t21 : t[21]? = some _ := hout 21 (by kernel_rfl)
                      clear hout hdep
                      go_simp
                      exact hK.out _ _ (Grw.refl _) rfl
                    refine VSteps.cons (VStep.mkG Grw.trans (dg := 125) rfl rfl (by kernel_rfl) (fun _ _ h => h) fun t V hout hE hdep K hK => ?_) ?_
                    · skip
                      have t141 := by_is (W := V) (hdep 28 141 (by kernel_rfl))
                      clear hout hdep
                      go_simp
                      exact hK.out _ _ (Grw.refl _) rfl
                    refine VSteps.cons (VStep.mkG Grw.trans (dg := 125) rfl rfl (by kernel_rfl) (fun _ _ h => h) fun t V hout hE hdep K hK => ?_) ?_
                    · skip
                      have t142 := by_is (W := V) (hdep 29 142 (by kernel_rfl))
                      clear hout hdep
                      have hV := HBE3.out.trans (hE.mono HBE3.out.size)
                      obtain ⟨c0, c1, c2, c3⟩ := HCQ.out V hV
                      go_simp
                      exact hK.out _ _ (Grw.refl _) rfl
                    refine VSteps.cons (VStep.mkG Grw.trans (dg := 125) rfl rfl (by kernel_rfl) (fun _ _ h => h) fun t V hout hE hdep K hK => ?_) ?_
                    · skip
                      have t21 : t[21]? = some _ := hout 21 (by kernel_rfl)
                      clear hout hdep
                      go_simp
                      exact hK.out _ _ (Grw.refl _) rfl
                    refine VSteps.cons (VStep.mkG Grw.trans (dg := 125) rfl rfl (by kernel_rfl) (fun _ _ h => h) fun t V hout hE hdep K hK => ?_) ?_
                    · skip
                      have t144 := by_is (W := V) (hdep 31 144 (by kernel_rfl))
                      clear hout hdep
                      go_simp
                      exact hK.out _ _ (Grw.refl _) rfl
                    refine VSteps.cons (VStep.mkG Grw.trans (dg := 125) rfl rfl (by kernel_rfl) (fun _ _ h => h) fun t V hout hE hdep K hK => ?_) ?_
                    · skip
                      have t145 := by_is (W := V) (hdep 32 145 (by kernel_rfl))
                      clear hout hdep
                      have hV := HBE3.out.trans (hE.mono HBE3.out.size)
                      obtain ⟨c0, c1, c2, c3⟩ := HCQ.out V hV
                      go_simp
                      exact hK.out _ _ (Grw.refl _) rfl
                    refine VSteps.cons (VStep.mkG Grw.trans (dg := 125) rfl rfl (by kernel_rfl) (fun _ _ h => h) fun t V hout hE hdep K hK => ?_) ?_
                    · skip
                      have t137 := by_is (W := V) (hdep 24 137 (by kernel_rfl))
                      have t140 := by_is (W := V) (hdep 27 140 (by kernel_rfl))
                      have t143 := by_is (W := V) (hdep 30 143 (by kernel_rfl))
                      have t146 := by_is (W := V) (hdep 33 146 (by kernel_rfl))
                      clear hout hdep
                      go_simp
                      refine (rhas_b _ _ V (HX3.out.below hE) _ _ _ HMB.out).mono ?_
                      rintro e W5 ⟨rfl, hb5⟩
                      go_simp
                      exact hK.out _ _ hb5 rfl
                    refine VSteps.cons (VStep.mkG Grw.trans (dg := 125) rfl rfl (by kernel_rfl) (fun _ _ h => h) fun t V hout hE hdep K hK => ?_) ?_
                    · skip
                      have t136 := by_is (W := V) (hdep 23 136 (by kernel_rfl))
                      have t147 := by_is (W := V) (hdep 34 147 (by kernel_rfl))
                      clear hout hdep
                      go_simp
                      exact hK.out _ _ (Grw.refl _) rfl
                    refine VSteps.cons (VStep.mkG Grw.trans (dg := 122) rfl rfl (by kernel_rfl) (fun _ _ h => h) fun t V hout hE hdep K hK => ?_) ?_
                    · skip
                      have t125 := by_is (W := V) (hdep 12 125 (by kernel_rfl))
                      have t148 := by_is (W := V) (hdep 35 148 (by kernel_rfl))
                      clear hout hdep
                      go_simp
                      exact hK.out _ _ (Grw.refl _) rfl
                    refine VSteps.cons (VStep.mk Grw.trans rfl rfl fun t V hout hE hdep K hK => ?_) ?_
                    · skip
                      have t122 := by_is (W := V) (hdep 9 122 (by kernel_rfl))
                      have t149 := by_is (W := V) (hdep 36 149 (by kernel_rfl))
                      clear hout hdep
                      go_simp
                      exact hK.out _ _ (Grw.refl _) rfl
                    exact VSteps.nil (by decide)
                  · intro f W hE hF
                    have f113 : f 113 = _ := hF 0 113 (by kernel_rfl)
                    have f114 : f 114 = _ := hF 1 114 (by kernel_rfl)
                    have f115 : f 115 = _ := hF 2 115 (by kernel_rfl)
                    have f116 : f 116 = _ := hF 3 116 (by kernel_rfl)
                    have f117 : f 117 = _ := hF 4 117 (by kernel_rfl)
                    have f118 : f 118 = _ := hF 5 118 (by kernel_rfl)
                    have f119 : f 119 = _ := hF 6 119 (by kernel_rfl)
                    have f120 : f 120 = _ := hF 7 120 (by kernel_rfl)
                    have f121 : f 121 = _ := hF 8 121 (by kernel_rfl)
                    have f122 : f 122 = _ := hF 9 122 (by kernel_rfl)
                    have f123 : f 123 = _ := hF 10 123 (by kernel_rfl)
                    have f124 : f 124 = _ := hF 11 124 (by kernel_rfl)
                    have f125 : f 125 = _ := hF 12 125 (by kernel_rfl)
                    have f126 : f 126 = _ := hF 13 126 (by kernel_rfl)
                    have f127 : f 127 = _ := hF 14 127 (by kernel_rfl)
                    have f128 : f 128 = _ := hF 15 128 (by kernel_rfl)
                    have f129 : f 129 = _ := hF 16 129 (by kernel_rfl)
                    have f130 : f 130 = _ := hF 17 130 (by kernel_rfl)
                    have f131 : f 131 = _ := hF 18 131 (by kernel_rfl)
                    have f132 : f 132 = _ := hF 19 132 (by kernel_rfl)
                    have f133 : f 133 = _ := hF 20 133 (by kernel_rfl)
                    have f134 : f 134 = _ := hF 21 134 (by kernel_rfl)
                    have f135 : f 135 = _ := hF 22 135 (by kernel_rfl)
                    have f136 : f 136 = _ := hF 23 136 (by kernel_rfl)
                    have f137 : f 137 = _ := hF 24 137 (by kernel_rfl)
                    have f138 : f 138 = _ := hF 25 138 (by kernel_rfl)
                    have f139 : f 139 = _ := hF 26 139 (by kernel_rfl)
                    have f140 : f 140 = _ := hF 27 140 (by kernel_rfl)
                    have f141 : f 141 = _ := hF 28 141 (by kernel_rfl)
                    have f142 : f 142 = _ := hF 29 142 (by kernel_rfl)
                    have f143 : f 143 = _ := hF 30 143 (by kernel_rfl)
                    have f144 : f 144 = _ := hF 31 144 (by kernel_rfl)
                    have f145 : f 145 = _ := hF 32 145 (by kernel_rfl)
                    have f146 : f 146 = _ := hF 33 146 (by kernel_rfl)
                    have f147 : f 147 = _ := hF 34 147 (by kernel_rfl)
                    have f148 : f 148 = _ := hF 35 148 (by kernel_rfl)
                    have f149 : f 149 = _ := hF 36 149 (by kernel_rfl)
                    have f150 : f 150 = _ := hF 37 150 (by kernel_rfl)
                    simp only [setAllV, List.map_cons, List.map_nil, List.set_cons_succ, List.set_cons_zero, f113, f114, f115, f116, f117, f118, f119, f120, f121, f122, f123, f124, f125, f126, f127, f128, f129, f130, f131, f132, f133, f134, f135, f136, f137, f138, f139, f140, f141, f142, f143, f144, f145, f146, f147, f148, f149, f150]
                    clear hF f113 f114 f115 f116 f117 f118 f119 f120 f121 f122 f123 f124 f125 f126 f127 f128 f129 f130 f131 f132 f133 f134 f135 f136 f137 f138 f139 f140 f141 f142 f143 f144 f145 f146 f147 f148 f149 f150
                    have HBE4 := Lib.hid (HBE3.out.trans (hE.mono HBE3.out.size))
                    clear hE
                    go_wp2
                    go_roundw
                    case rel => exact ⟨j + 1, by omega, by go_num, HBW.out.trans (HBE4.out.mono HBW.out.size), HRO.out.below HBE4.out, HX.out.below HBE4.out, HRT.out.below HBE4.out⟩
                    case measure => simp [intOf]; omega
                | false =>
                  go_upto_region 14 with (fail)
                  apply wp_region_vals (by kernel_rfl) Grw (Grw.drew _) [113, 114, 115, 116, 117, 118, 119, 120, 121, 122, 123, 124, 125, 126, 127, 128, 129, 130, 131, 132, 133, 134, 135, 136, 137, 138, 139, 140, 141, 142, 143, 144, 145, 146, 147, 148, 149, 150] [Is _, Is _, Is _, Is _, Is _, Is _, Is (.bool true), Is _, Is _, Is _, Is _, Is (.bool false), Is _, Is _, Is _, Is _, Is _, Is _, Is _, Is _, Is _, Is _, Is _, Is _, Is _, Is _, Is _, Is _, Is _, Is _, Is _, Is _, Is _, Is _, Is _, Is _, Is _, Is _] (stb_cons (Stb.is) (stb_cons (Stb.is) (stb_cons (Stb.is) (stb_cons (Stb.is) (stb_cons (Stb.is) (stb_cons (Stb.is) (stb_cons (Stb.is) (stb_cons (Stb.is) (stb_cons (Stb.is) (stb_cons (Stb.is) (stb_cons (Stb.is) (stb_cons (Stb.is) (stb_cons (Stb.is) (stb_cons (Stb.is) (stb_cons (Stb.is) (stb_cons (Stb.is) (stb_cons (Stb.is) (stb_cons (Stb.is) (stb_cons (Stb.is) (stb_cons (Stb.is) (stb_cons (Stb.is) (stb_cons (Stb.is) (stb_cons (Stb.is) (stb_cons (Stb.is) (stb_cons (Stb.is) (stb_cons (Stb.is) (stb_cons (Stb.is) (stb_cons (Stb.is) (stb_cons (Stb.is) (stb_cons (Stb.is) (stb_cons (Stb.is) (stb_cons (Stb.is) (stb_cons (Stb.is) (stb_cons (Stb.is) (stb_cons (Stb.is) (stb_cons (Stb.is) (stb_cons (Stb.is) (stb_cons (Stb.is) stb_nil)))))))))))))))))))))))))))))))))))))) (by kernel_rfl) (by kernel_rfl) (by kernel_rfl)
                  · refine VSteps.cons (VStep.mk Grw.trans rfl rfl fun t V hout hE hdep K hK => ?_) ?_
                    · skip
                      have t23 : t[23]? = some _ := hout 23 (by kernel_rfl)
                      clear hout hdep
                      go_simp
                      exact hK.out _ _ (Grw.refl _) rfl
                    refine VSteps.cons (VStep.mk Grw.trans rfl rfl fun t V hout hE hdep K hK => ?_) ?_
                    · skip
                      have t25 : t[25]? = some _ := hout 25 (by kernel_rfl)
                      clear hout hdep
                      go_simp
                      exact hK.out _ _ (Grw.refl _) rfl
                    refine VSteps.cons (VStep.mk Grw.trans rfl rfl fun t V hout hE hdep K hK => ?_) ?_
                    · skip
                      have t113 := by_is (W := V) (hdep 0 113 (by kernel_rfl))
                      have t114 := by_is (W := V) (hdep 1 114 (by kernel_rfl))
                      clear hout hdep
                      go_simp
                      exact hK.out _ _ (Grw.refl _) rfl
                    refine VSteps.cons (VStep.mk Grw.trans rfl rfl fun t V hout hE hdep K hK => ?_) ?_
                    · skip
                      have t115 := by_is (W := V) (hdep 2 115 (by kernel_rfl))
                      clear hout hdep
                      go_simp
                      exact hK.out _ _ (Grw.refl _) rfl
                    refine VSteps.cons (VStep.mkG Grw.trans (dg := 116) rfl rfl (by kernel_rfl) (fun _ _ h => h) fun t V hout hE hdep K hK => ?_) ?_
                    · skip
                      have t22 : t[22]? = some _ := hout 22 (by kernel_rfl)
                      clear hout hdep
                      go_simp
                      exact hK.out _ _ (Grw.refl _) rfl
                    refine VSteps.cons (VStep.mkG Grw.trans (dg := 116) rfl rfl (by kernel_rfl) (fun _ _ h => h) fun t V hout hE hdep K hK => ?_) ?_
                    · skip
                      have t24 : t[24]? = some _ := hout 24 (by kernel_rfl)
                      clear hout hdep
                      go_simp
                      exact hK.out _ _ (Grw.refl _) rfl
                    refine VSteps.cons (VStep.mkG Grw.trans (dg := 116) rfl rfl (by kernel_rfl) (fun _ _ h => h) fun t V hout hE hdep K hK => ?_) ?_
                    · skip
                      have t117 := by_is (W := V) (hdep 4 117 (by kernel_rfl))
                      have t118 := by_is (W := V) (hdep 5 118 (by kernel_rfl))
                      clear hout hdep
                      go_simp
                      refine (same_t _ _ _ _ V (HA2.out.below hE) (HB.out.below hE) rfl).mono ?_
                      rintro e W5 ⟨rfl, hb5⟩
                      go_simp
                      exact hK.out _ _ hb5 rfl
                    refine VSteps.cons (VStep.mkG Grw.trans (dg := 116) rfl rfl (by kernel_rfl) (fun _ _ h => h) fun t V hout hE hdep K hK => ?_) ?_
                    · skip
                      have t119 := by_is (W := V) (hdep 6 119 (by kernel_rfl))
                      clear hout hdep
                      go_simp
                      exact hK.out _ _ (Grw.refl _) rfl
                    refine VSteps.cons (VStep.mk Grw.trans rfl rfl fun t V hout hE hdep K hK => ?_) ?_
                    · skip
                      have t116 := by_is (W := V) (hdep 3 116 (by kernel_rfl))
                      have t120 := by_is (W := V) (hdep 7 120 (by kernel_rfl))
                      clear hout hdep
                      go_simp
                      exact hK.out _ _ (Grw.refl _) rfl
                    refine VSteps.cons (VStep.mk Grw.trans rfl rfl fun t V hout hE hdep K hK => ?_) ?_
                    · skip
                      have t121 := by_is (W := V) (hdep 8 121 (by kernel_rfl))
                      clear hout hdep
                      go_simp
                      exact hK.out _ _ (Grw.refl _) rfl
                    refine VSteps.cons (VStep.mkG Grw.trans (dg := 122) rfl rfl (by kernel_rfl) (fun _ _ h => h) fun t V hout hE hdep K hK => ?_) ?_
                    · skip
                      have t19 : t[19]? = some _ := hout 19 (by kernel_rfl)
                      clear hout hdep
                      go_simp
                      exact hK.out _ _ (Grw.refl _) rfl
                    refine VSteps.cons (VStep.mkG Grw.trans (dg := 122) rfl rfl (by kernel_rfl) (fun _ _ h => h) fun t V hout hE hdep K hK => ?_) ?_
                    · skip
                      have t123 := by_is (W := V) (hdep 10 123 (by kernel_rfl))
                      clear hout hdep
                      go_simp
                      refine (rvalid_b _ _ V (HX3.out.below hE) HOKB.out).mono ?_
                      rintro e W5 ⟨rfl, hb5⟩
                      go_simp
                      exact hK.out _ _ hb5 rfl
                    refine VSteps.cons (VStep.mkG Grw.trans (dg := 122) rfl rfl (by kernel_rfl) (fun _ _ h => h) fun t V hout hE hdep K hK => ?_) ?_
                    · skip
                      have t124 := by_is (W := V) (hdep 11 124 (by kernel_rfl))
                      clear hout hdep
                      go_simp
                      exact hK.out _ _ (Grw.refl _) rfl
                    refine VSteps.cons (VStep.mkN Grw.refl (dg := 125) rfl rfl (by kernel_rfl) (fun _ _ h => h) (fun _ => rfl)) ?_
                    refine VSteps.cons (VStep.mkN Grw.refl (dg := 125) rfl rfl (by kernel_rfl) (fun _ _ h => h) (fun _ => rfl)) ?_
                    refine VSteps.cons (VStep.mkN Grw.refl (dg := 125) rfl rfl (by kernel_rfl) (fun _ _ h => h) (fun _ => rfl)) ?_
                    refine VSteps.cons (VStep.mkN Grw.refl (dg := 125) rfl rfl (by kernel_rfl) (fun _ _ h => h) (fun _ => rfl)) ?_
                    refine VSteps.cons (VStep.mkN Grw.refl (dg := 125) rfl rfl (by kernel_rfl) (fun _ _ h => h) (fun _ => rfl)) ?_
                    refine VSteps.cons (VStep.mkN Grw.refl (dg := 125) rfl rfl (by kernel_rfl) (fun _ _ h => h) (fun _ => rfl)) ?_
                    refine VSteps.cons (VStep.mkN Grw.refl (dg := 125) rfl rfl (by kernel_rfl) (fun _ _ h => h) (fun _ => rfl)) ?_
                    refine VSteps.cons (VStep.mkN Grw.refl (dg := 125) rfl rfl (by kernel_rfl) (fun _ _ h => h) (fun _ => rfl)) ?_
                    refine VSteps.cons (VStep.mkN Grw.refl (dg := 125) rfl rfl (by kernel_rfl) (fun _ _ h => h) (fun _ => rfl)) ?_
                    refine VSteps.cons (VStep.mkN Grw.refl (dg := 125) rfl rfl (by kernel_rfl) (fun _ _ h => h) (fun _ => rfl)) ?_
                    refine VSteps.cons (VStep.mkN Grw.refl (dg := 125) rfl rfl (by kernel_rfl) (fun _ _ h => h) (fun _ => rfl)) ?_
                    refine VSteps.cons (VStep.mkN Grw.refl (dg := 125) rfl rfl (by kernel_rfl) (fun _ _ h => h) (fun _ => rfl)) ?_
                    refine VSteps.cons (VStep.mkN Grw.refl (dg := 125) rfl rfl (by kernel_rfl) (fun _ _ h => h) (fun _ => rfl)) ?_
                    refine VSteps.cons (VStep.mkN Grw.refl (dg := 125) rfl rfl (by kernel_rfl) (fun _ _ h => h) (fun _ => rfl)) ?_
                    refine VSteps.cons (VStep.mkN Grw.refl (dg := 125) rfl rfl (by kernel_rfl) (fun _ _ h => h) (fun _ => rfl)) ?_
                    refine VSteps.cons (VStep.mkN Grw.refl (dg := 125) rfl rfl (by kernel_rfl) (fun _ _ h => h) (fun _ => rfl)) ?_
                    refine VSteps.cons (VStep.mkN Grw.refl (dg := 125) rfl rfl (by kernel_rfl) (fun _ _ h => h) (fun _ => rfl)) ?_
                    refine VSteps.cons (VStep.mkN Grw.refl (dg := 125) rfl rfl (by kernel_rfl) (fun _ _ h => h) (fun _ => rfl)) ?_
                    refine VSteps.cons (VStep.mkN Grw.refl (dg := 125) rfl rfl (by kernel_rfl) (fun _ _ h => h) (fun _ => rfl)) ?_
                    refine VSteps.cons (VStep.mkN Grw.refl (dg := 125) rfl rfl (by kernel_rfl) (fun _ _ h => h) (fun _ => rfl)) ?_
                    refine VSteps.cons (VStep.mkN Grw.refl (dg := 125) rfl rfl (by kernel_rfl) (fun _ _ h => h) (fun _ => rfl)) ?_
                    refine VSteps.cons (VStep.mkN Grw.refl (dg := 125) rfl rfl (by kernel_rfl) (fun _ _ h => h) (fun _ => rfl)) ?_
                    refine VSteps.cons (VStep.mkN Grw.refl (dg := 125) rfl rfl (by kernel_rfl) (fun _ _ h => h) (fun _ => rfl)) ?_
                    refine VSteps.cons (VStep.mkG Grw.trans (dg := 122) rfl rfl (by kernel_rfl) (fun _ _ h => h) fun t V hout hE hdep K hK => ?_) ?_
                    · skip
                      have t125 := by_is (W := V) (hdep 12 125 (by kernel_rfl))
                      have t148 := by_is (W := V) (hdep 35 148 (by kernel_rfl))
                      clear hout hdep
                      go_simp
                      exact hK.out _ _ (Grw.refl _) rfl
                    refine VSteps.cons (VStep.mk Grw.trans rfl rfl fun t V hout hE hdep K hK => ?_) ?_
                    · skip
                      have t122 := by_is (W := V) (hdep 9 122 (by kernel_rfl))
                      have t149 := by_is (W := V) (hdep 36 149 (by kernel_rfl))
                      clear hout hdep
                      go_simp
                      exact hK.out _ _ (Grw.refl _) rfl
                    exact VSteps.nil (by decide)
                  · intro f W hE hF
                    have f113 : f 113 = _ := hF 0 113 (by kernel_rfl)
                    have f114 : f 114 = _ := hF 1 114 (by kernel_rfl)
                    have f115 : f 115 = _ := hF 2 115 (by kernel_rfl)
                    have f116 : f 116 = _ := hF 3 116 (by kernel_rfl)
                    have f117 : f 117 = _ := hF 4 117 (by kernel_rfl)
                    have f118 : f 118 = _ := hF 5 118 (by kernel_rfl)
                    have f119 : f 119 = _ := hF 6 119 (by kernel_rfl)
                    have f120 : f 120 = _ := hF 7 120 (by kernel_rfl)
                    have f121 : f 121 = _ := hF 8 121 (by kernel_rfl)
                    have f122 : f 122 = _ := hF 9 122 (by kernel_rfl)
                    have f123 : f 123 = _ := hF 10 123 (by kernel_rfl)
                    have f124 : f 124 = _ := hF 11 124 (by kernel_rfl)
                    have f125 : f 125 = _ := hF 12 125 (by kernel_rfl)
                    have f126 : f 126 = _ := hF 13 126 (by kernel_rfl)
                    have f127 : f 127 = _ := hF 14 127 (by kernel_rfl)
                    have f128 : f 128 = _ := hF 15 128 (by kernel_rfl)
                    have f129 : f 129 = _ := hF 16 129 (by kernel_rfl)
                    have f130 : f 130 = _ := hF 17 130 (by kernel_rfl)
                    have f131 : f 131 = _ := hF 18 131 (by kernel_rfl)
                    have f132 : f 132 = _ := hF 19 132 (by kernel_rfl)
                    have f133 : f 133 = _ := hF 20 133 (by kernel_rfl)
                    have f134 : f 134 = _ := hF 21 134 (by kernel_rfl)
                    have f135 : f 135 = _ := hF 22 135 (by kernel_rfl)
                    have f136 : f 136 = _ := hF 23 136 (by kernel_rfl)
                    have f137 : f 137 = _ := hF 24 137 (by kernel_rfl)
                    have f138 : f 138 = _ := hF 25 138 (by kernel_rfl)
                    have f139 : f 139 = _ := hF 26 139 (by kernel_rfl)
                    have f140 : f 140 = _ := hF 27 140 (by kernel_rfl)
                    have f141 : f 141 = _ := hF 28 141 (by kernel_rfl)
                    have f142 : f 142 = _ := hF 29 142 (by kernel_rfl)
                    have f143 : f 143 = _ := hF 30 143 (by kernel_rfl)
                    have f144 : f 144 = _ := hF 31 144 (by kernel_rfl)
                    have f145 : f 145 = _ := hF 32 145 (by kernel_rfl)
                    have f146 : f 146 = _ := hF 33 146 (by kernel_rfl)
                    have f147 : f 147 = _ := hF 34 147 (by kernel_rfl)
                    have f148 : f 148 = _ := hF 35 148 (by kernel_rfl)
                    have f149 : f 149 = _ := hF 36 149 (by kernel_rfl)
                    have f150 : f 150 = _ := hF 37 150 (by kernel_rfl)
                    simp only [setAllV, List.map_cons, List.map_nil, List.set_cons_succ, List.set_cons_zero, f113, f114, f115, f116, f117, f118, f119, f120, f121, f122, f123, f124, f125, f126, f127, f128, f129, f130, f131, f132, f133, f134, f135, f136, f137, f138, f139, f140, f141, f142, f143, f144, f145, f146, f147, f148, f149, f150]
                    clear hF f113 f114 f115 f116 f117 f118 f119 f120 f121 f122 f123 f124 f125 f126 f127 f128 f129 f130 f131 f132 f133 f134 f135 f136 f137 f138 f139 f140 f141 f142 f143 f144 f145 f146 f147 f148 f149 f150
                    have HBE4 := Lib.hid (HBE3.out.trans (hE.mono HBE3.out.size))
                    clear hE
                    go_wp2
                    go_roundw
                    case rel => exact ⟨j + 1, by omega, by go_num, HBW.out.trans (HBE4.out.mono HBW.out.size), HRO.out.below HBE4.out, HX.out.below HBE4.out, HRT.out.below HBE4.out⟩
                    case measure => simp [intOf]; omega
          · go_wp2
            go_roundw
            case rel => exact ⟨k + 1, by omega, by go_num, HBW.out, HRO.out⟩
            case measure => simp [intOf]; omega
      · clear hro hbel
        go_wp2_with (go_at_call 28; fail)
        refine (awake_any _).mono ?_
        rintro e w9 ⟨rfl, hb9⟩
        have HB9 := Lib.hid (HBW.out.trans (hb9.mono HBW.out.size))
        clear hb9
        go_wp2
        go_ret
        exact ⟨rfl, HB9.out⟩
end Go.Proofs.Ytchdmemgkegefaa
