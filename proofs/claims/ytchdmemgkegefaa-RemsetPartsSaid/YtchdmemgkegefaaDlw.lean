/- The walks of RemsetDrops and RemsetParts. No condition. -/
import Derived.Test.YtchdmemgkegefaaSlt
import Derived.Test.YtchdmemgkegefaaInt
import Derived.Test.YtchdmemgkegefaaIsRow
import Derived.Test.YtchdmemgkegefaaOpen
namespace Go.Proofs.Ytchdmemgkegefaa
open Go.RowKit
set_option linter.unusedVariables false
set_option linter.unusedSimpArgs false

/-- the cells of a slice of slices -/
theorem sli_cells {α : Type} {E : El α} {w : World} {b off n cap : Nat} {xs : List (List α)} (h : Rd (sliceE E) w (.slice (some ⟨b, off, none⟩) n cap) xs) {i : Nat} (hi : i < xs.length) : b < w.heap.size ∧ ∃ v, w.cell? ⟨b, off + i, none⟩ = some v ∧ Rd E w v xs[i] := by
  obtain ⟨a, c, e, _, _, hf⟩ := h
  simp only [Value.slice.injEq] at e
  obtain ⟨rfl, rfl, rfl⟩ := e
  rcases hf with rfl | ⟨b', off', e, hf⟩
  · exact absurd hi (Nat.not_lt_zero _)
  · simp only [Option.some.injEq, Addr.mk.injEq, and_true] at e
    obtain ⟨rfl, rfl⟩ := e
    obtain ⟨cs, ⟨v, rfl, hr⟩, hc⟩ := hf i hi
    have e0 := hc 0 (show 0 < 1 by decide)
    simp only [show (sliceE E).sz = 1 from rfl, Nat.mul_one, Nat.add_zero] at e0
    exact ⟨World.block_lt_of_cell? w (a := ⟨b, off + i, none⟩) e0, v, e0, hr⟩
theorem rd_two {α : Type} {E : El α} {w : World} {b : Nat} {u v : Value} {T : TypeId} {xs ys : List α} (h : w.heap[b]? = some (.cells #[u, v] T (0, 0))) (hx : Rd E w u xs) (hy : Rd E w v ys) : Rd (sliceE E) w (.slice (some ⟨b, 0, none⟩) 2 2) [xs, ys] := by
  refine ⟨_, 2, rfl, by simp, by unfold maxLen; decide, .inr ⟨b, 0, rfl, fun i hi => ?_⟩⟩
  match i, hi with
  | 0, _ => exact ⟨[u], ⟨u, rfl, hx⟩, fun j hj => by
      obtain rfl : j = 0 := by have : j < 1 := hj; omega
      rw [cell_block h]; rfl⟩
  | 1, _ => exact ⟨[v], ⟨v, rfl, hy⟩, fun j hj => by
      obtain rfl : j = 0 := by have : j < 1 := hj; omega
      rw [cell_block h]; rfl⟩

/-- the state while frames are drawn -/
structure FmW (w w2 : World) (g : Nat) (v : Value) (fs : List Int) (W : World) : Prop where
  fr : Own i64E W w2.heap.size 3 v fs
  dk : Deck w.heap.size W g
  bel : Below w.heap.size w W
  gr : w2.grownBy W (some g)
theorem FmW.next {w w2 : World} {g : Nat} {v : Value} {fs : List Int} {W W' : World} (h : FmW w w2 g v fs W) (hd : Deck w.heap.size W' g) (hg : W.grownBy W' (some g)) (hC : g < w2.heap.size) : FmW w w2 g v fs W' :=
  ⟨h.fr.kept hg (.inr fun e => by have := (h.fr.lt g e).1; omega) (fun _ _ e => e), hd, h.bel.grown hg h.bel.size (fun k e => by cases e; exact h.dk.1), grown_trans h.gr hg⟩
theorem FmW.append {w w2 : World} {g : Nat} {v v' : Value} {fs fs' : List Int} {W W' : World} (h : FmW w w2 g v fs W) (ho : Own i64E W' w2.heap.size 3 v' fs') (hb : Below w2.heap.size W W') (hC : g < w2.heap.size) (hw : w.heap.size ≤ w2.heap.size) : FmW w w2 g v' fs' W' :=
  ⟨ho, h.dk.below hb hC, h.bel.trans (hb.mono hw), grown_below h.gr hb⟩
/-- sets and frames read -/
theorem sml_sum {xs : List St} (h1 : xs.length ≤ 20) (h2 : ∀ x ∈ xs, x.slots.length ≤ 20) : (xs.map (·.slots.length)).sum ≤ 1000000 := by
  have h3 : (xs.map (·.slots.length)).sum ≤ xs.length * 20 := by
    clear h1
    induction xs with
    | nil => simp
    | cons a l ih =>
      have h1 := ih fun x hx => h2 x (List.mem_cons_of_mem _ hx)
      have h2 := h2 a (List.mem_cons_self ..)
      rw [List.map_cons, List.sum_cons, List.length_cons, Nat.succ_mul]
      omega
  omega
def TupP (xs : List St) (fs : List Int) (e : Ending) (w : World) : Prop := IntP xs fs e w
theorem sint_t (u v : Value) (l : List Int) (w : World) (hu : Rd i64E w u l) (hv : Rd i64E w v l) : Calls Try.prog 39 #[u, v] w fun e w' => e = .returned (.bool true) ∧ Below w.heap.size w w' :=
  (sint_any u v l l w hu hv).mono fun e w' ⟨a, b⟩ => ⟨rbs_true rfl a, b⟩

set_option maxRecDepth 100000 in
set_option maxHeartbeats 8000000 in
theorem remsetDrops_walk (w : World) (u : Value) (l : List Int) (hu : Rd i64E w u l) (hli : ∀ x ∈ l, I64 x) (u2 : Value) (fl : List Int) (hf : Rd i64E w u2 fl) (_ : ∀ x ∈ fl, I64 x) :
    Calls Try.prog 8 #[u, u2] w fun e w' => e = .returned (.bool true) ∧ Below w.heap.size w w' := by
  have HFL := Lib.hid hf
  obtain ⟨fa, fc, rfl, _⟩ := hf
  have HU := Lib.hid hu
  have HLI := Lib.hid hli
  obtain ⟨ua, uc, rfl, _⟩ := hu
  clear hli
  go_enter Try.func8, Try.ntmps8
  by_cases h60 : 60 < fl.length
  · have h60' : (60 : Int) < (fl.length : Int) := by omega
    go_wp2_with (go_at_call 28; fail)
    refine (awake_any _).mono ?_
    rintro e w9 ⟨rfl, hb9⟩
    go_wp2
    go_ret
    exact ⟨rfl, hb9⟩
  have h60' : ¬ (60 : Int) < (fl.length : Int) := by omega
  go_wp2_with (go_at_call 11; fail)
  refine (new_any _ l _ HU.out HLI.out).mono ?_
  rintro e w1 ⟨g, rfl, hdk, hb1⟩
  have HDK := Lib.hid hdk
  have HB1 := Lib.hid hb1
  have hgl := hdk.lt
  have hs1 := hb1.size
  clear hdk hb1
  go_wp2_with (go_at_call 30; fail)
  refine (slots_dk w1 g w HDK.out HB1.out hgl).mono ?_
  rintro e w2 ⟨⟨us, ss, rfl, hus, hown, hok, hsl, hss⟩, hdk2, hsz, hb2⟩
  have HOK := Lib.hid hok
  have HSS := Lib.hid hss
  have HUS := Lib.hid hus
  obtain ⟨sa, sc, rfl, _⟩ := id hus
  have HFM : Hid (FmW w w2 g (.slice none 0 0) [] w2) := Lib.hid ⟨Own.nil _ _ _ _, hdk2, hb2, grown_refl _ _⟩
  have HOWN := Lib.hid hown
  have hgl2 : g < w2.heap.size := by omega
  have hw2 := hb2.size
  clear hus hown hok hss hdk2 hb2
  go_wp2_with (go_at_call 23; fail)
  refine (next_any _ _ 4 _ HFM.out.dk (by omega) (by omega)).mono ?_
  rintro e w3 ⟨r0, hr0, hr1, rfl, hd3, hg3⟩
  have HF3 := Lib.hid (HFM.out.next hd3 hg3 hgl2)
  clear hd3 hg3
  obtain ⟨j0, rfl⟩ : ∃ j : Nat, r0 = j := ⟨r0.toNat, by omega⟩
  go_wp2_with fail
  go_loopw [7, 8] (fun v j W => ∃ (m : Nat) (fs : List Int), j = .int .i64 m ∧ fs.length + m ≤ 3 ∧ FmW w w2 g v fs W) (fun _ j _ => (intOf j).toNat)
  case atStart => exact ⟨j0, [], rfl, by simp; omega, HF3.out⟩
  case round =>
    obtain ⟨m, fs, rfl, hm, hor⟩ := hrel
    have HOR := Lib.hid hor
    obtain ⟨_, _, rfl, _⟩ := hor.fr.rd
    clear hor
    by_cases hm0 : 0 < m
    · go_wp2_with (go_at_call 23; fail)
      refine (next_any _ _ 7 _ HOR.out.dk (by omega) (by omega)).mono ?_
      rintro e w4 ⟨f1, hf1, hf2, rfl, hd4, hg4⟩
      have HO4 := Lib.hid (HOR.out.next hd4 hg4 hgl2)
      clear hd4 hg4
      have hs4 := HO4.out.gr.size
      go_wp2_with (at_builtin; (refine wpList_append_lit i64E i64S rfl _ _ rfl w2.heap.size _ fs rfl HO4.out.fr f1 _ _ rfl rfl rfl (by simp [Value.oneCell']) (by omega) (by unfold maxLen; omega) hs4 (fun _ _ _ _ h => h) ?_; intro v' w6 ho6 hg6 hb6))
      have HO6 : Hid (FmW w w2 g v' (fs ++ [f1]) w6) := Lib.hid (HO4.out.append ho6 hb6 hgl2 (by omega))
      obtain ⟨_, _, _, rfl⟩ := own_sl ho6
      clear ho6 hg6 hb6
      go_wp2
      go_roundw
      case rel => exact ⟨m - 1, fs ++ [f1], by go_num, by simp; omega, HO6.out⟩
      case measure => simp [intOf]; omega
    · have hme : (m : Int) = 0 := by omega
      rw [hme]
      have HSR := Lib.hid (rdF_keep HUS.out HOWN.out HOR.out.gr hgl).toE
      have HFR := Lib.hid HOR.out.fr.rd
      have HBW := Lib.hid HOR.out.bel
      clear HOR HF3 HFM
      have HSUM := Lib.hid (sml_sum hsl HSS.out)
      go_wp2_with fail
      go_loopw [38] (fun i W => ∃ k : Nat, k ≤ 2 ∧ i = .int .i64 k ∧ Below w.heap.size w W ∧ Rd setE W (.slice sa ss.length sc) ss ∧ Rd (sliceE i64E) W (.slice (some ⟨wr.heap.size, 0, none⟩) 2 2) [fl, fs]) (fun i _ => 2 - (intOf i).toNat)
      case atStart =>
        have hb9 : ∀ o, Below wr.heap.size wr (wr.alloc o) := fun o => (Below.refl _ _).alloc (Nat.le_refl _) _
        exact ⟨0, by omega, rfl, HBW.out.alloc HBW.out.size _, HSR.out.below (hb9 _), rd_two (heap_alloc_new _ _) ((HFL.out.below HBW.out).below (hb9 _)) (HFR.out.below (hb9 _))⟩
      case round =>
        obtain ⟨k, hk, rfl, hbel, hsr, hro⟩ := hrel
        have HBE := Lib.hid hbel
        have HS := Lib.hid hsr
        have HRO := Lib.hid hro
        clear hsr hbel
        by_cases hlt : k < 2
        · obtain ⟨hq, vx, y0, hrx⟩ := sli_cells hro (i := k) (by simpa using hlt)
          rw [Nat.zero_add] at y0
          have HX := Lib.hid hrx
          generalize [fl, fs][k] = qs at HX hrx
          obtain ⟨xa, xc, rfl, _⟩ := hrx
          clear hro
          go_wp2_with (go_at_call 37; fail)
          refine (into_any _ _ ss qs _ HS.out HX.out HSUM.out).mono ?_
          rintro e w5 ⟨⟨r5, rfl, hr5⟩, hb5⟩
          have HR5 := Lib.hid hr5
          have HS5 := Lib.hid (HS.out.below hb5)
          have HX5 := Lib.hid (HX.out.below hb5)
          have HB5 : Hid (Below wr.heap.size wr w5) := Lib.hid hb5
          obtain ⟨_, _, rfl, _⟩ := hr5
          clear hb5
          go_wp2_with (go_at_call 38; fail)
          refine (rinto_any _ _ ss qs _ HS5.out HX5.out HSUM.out).mono ?_
          rintro e w6 ⟨⟨r6, rfl, hr6⟩, hb6⟩
          have HR6 := Lib.hid hr6
          have HR5' := Lib.hid (HR5.out.below hb6)
          have HB6 := Lib.hid (HB5.out.trans (hb6.mono HB5.out.size))
          obtain ⟨_, _, rfl, _⟩ := hr6
          clear hb6
          go_wp2_with (go_at_call 39; fail)
          refine (sint_t _ _ _ _ HR5'.out HR6.out).mono ?_
          rintro e w7 ⟨rfl, hb7⟩
          have HB7 := Lib.hid (HB6.out.trans (hb7.mono HB6.out.size))
          have HS7 := Lib.hid (HS.out.below HB7.out)
          have HX7 := Lib.hid (HX.out.below HB7.out)
          clear hb7 HR5 HR6 HR5' HS5 HX5
          go_wp2_with (go_at_call 40; fail)
          refine (drop_any _ _ ss qs _ HS7.out HX7.out (by omega) (fun x hx => by have := HSS.out x hx; omega)).mono ?_
          rintro e w8 ⟨⟨r8, rfl, hr8⟩, hb8⟩
          have HR8 := Lib.hid hr8
          have HS8 := Lib.hid (HS7.out.below hb8)
          have HX8 := Lib.hid (HX7.out.below hb8)
          have HB8 := Lib.hid (HB7.out.trans (hb8.mono HB7.out.size))
          obtain ⟨_, _, rfl, _⟩ := hr8
          clear hb8
          go_wp2_with (go_at_call 41; fail)
          refine (rdrop_any _ _ ss qs _ HS8.out HX8.out (by omega) (fun x hx => by have := HSS.out x hx; omega)).mono ?_
          rintro e w9 ⟨⟨r9, rfl, hr9⟩, hb9⟩
          have HR9 := Lib.hid hr9
          have HR8' := Lib.hid (HR8.out.below hb9)
          have HB9 := Lib.hid (HB8.out.trans (hb9.mono HB8.out.size))
          obtain ⟨_, _, rfl, _⟩ := hr9
          clear hb9
          go_wp2_with (go_at_call 26; fail)
          refine (same_t _ _ _ _ _ HR8'.out HR9.out rfl).mono ?_
          rintro e w10 ⟨rfl, hb10⟩
          have HB10 := Lib.hid (HB9.out.trans (hb10.mono HB9.out.size))
          clear hb10
          go_wp2
          go_roundw
          case rel => exact ⟨k + 1, by omega, by go_num, HBE.out.trans (HB10.out.mono HBE.out.size), HS.out.below HB10.out, HRO.out.below HB10.out⟩
          case measure => simp [intOf]; omega
        · clear hro
          go_wp2_with (go_at_call 28; fail)
          refine (awake_any _).mono ?_
          rintro e w9 ⟨rfl, hb9⟩
          have HB9 := Lib.hid (HBE.out.trans (hb9.mono HBE.out.size))
          clear hb9
          go_wp2
          go_ret
          exact ⟨rfl, HB9.out⟩

theorem filter_sum {xs : List St} {fs : List Int} : ((xs.filter (Kp fs)).map (·.slots.length)).sum + (ptS xs fs).length ≤ (xs.map (·.slots.length)).sum := by
  unfold ptS
  induction xs with
  | nil => simp
  | cons a l ih =>
    rw [List.filter_cons, List.filter_cons, List.map_cons, List.sum_cons]
    by_cases hk : Kp fs a = true
    · have hp : ¬ Pt fs a = true := fun h => kp_iff.1 hk (.inr (pt_iff.1 h).1)
      rw [if_pos hk, if_neg hp, List.map_cons, List.sum_cons]
      omega
    · rw [if_neg hk]
      split
      · rw [List.flatMap_cons, List.length_append]; omega
      · omega
theorem filter_sum' {xs : List St} {p : St → Bool} : ((xs.filter p).map (·.slots.length)).sum ≤ (xs.map (·.slots.length)).sum := by
  induction xs with
  | nil => simp
  | cons a l ih =>
    rw [List.filter_cons, List.map_cons, List.sum_cons]
    split
    · rw [List.map_cons, List.sum_cons]; omega
    · omega
theorem filter_valid {xs : List St} {p : St → Bool} (h : SetsOk xs) : SetsOk (xs.filter p) := by
  obtain ⟨h1, h2⟩ := setsOk_iff.1 h
  exact setsOk_iff.2 ⟨fun x hx => h1 x (List.mem_filter.1 hx).1, h2.filter p⟩
theorem ptS_kept (xs : List St) (fs : List Int) : ptS (xs.filter (Kp fs)) fs = [] := by
  unfold ptS
  rw [List.filter_filter, List.filter_eq_nil_iff.2 fun x _ h => ?_]
  · rfl
  · rw [Bool.and_eq_true] at h
    exact kp_iff.1 h.2 (.inr (pt_iff.1 h.1).1)
theorem setL_nil : setL [] = [] := List.length_eq_zero_iff.1 (Nat.le_zero.1 (setL_len []))

set_option maxRecDepth 100000 in
set_option maxHeartbeats 8000000 in
theorem remsetParts_walk (w : World) (u : Value) (l : List Int) (hu : Rd i64E w u l) (hli : ∀ x ∈ l, I64 x) :
    Calls Try.prog 9 #[u] w fun e w' => e = .returned (.bool true) ∧ Below w.heap.size w w' := by
  have HU := Lib.hid hu
  have HLI := Lib.hid hli
  obtain ⟨ua, uc, rfl, _⟩ := hu
  clear hli
  go_enter Try.func9, Try.ntmps9
  go_wp2_with (go_at_call 11; fail)
  refine (new_any _ l _ HU.out HLI.out).mono ?_
  rintro e w1 ⟨g, rfl, hdk, hb1⟩
  have HDK := Lib.hid hdk
  have HB1 := Lib.hid hb1
  have hgl := hdk.lt
  have hs1 := hb1.size
  clear hdk hb1
  go_wp2_with (go_at_call 30; fail)
  refine (slots_dk w1 g w HDK.out HB1.out hgl).mono ?_
  rintro e w2 ⟨⟨us, ss, rfl, hus, hown, hok, hsl, hss⟩, hdk2, hsz, hb2⟩
  have HOK := Lib.hid hok
  have HSS := Lib.hid hss
  have HUS := Lib.hid hus
  obtain ⟨sa, sc, rfl, _⟩ := id hus
  have HFM : Hid (FmW w w2 g (.slice none 0 0) [] w2) := Lib.hid ⟨Own.nil _ _ _ _, hdk2, hb2, grown_refl _ _⟩
  have HOWN := Lib.hid hown
  have hgl2 : g < w2.heap.size := by omega
  have hw2 := hb2.size
  clear hus hown hok hss hdk2 hb2
  go_wp2_with (go_at_call 23; fail)
  refine (next_any _ _ 4 _ HFM.out.dk (by omega) (by omega)).mono ?_
  rintro e w3 ⟨r0, hr0, hr1, rfl, hd3, hg3⟩
  have HF3 := Lib.hid (HFM.out.next hd3 hg3 hgl2)
  clear hd3 hg3
  obtain ⟨j0, rfl⟩ : ∃ j : Nat, r0 = j := ⟨r0.toNat, by omega⟩
  go_wp2_with fail
  go_loopw [5, 6] (fun v j W => ∃ (m : Nat) (fs : List Int), j = .int .i64 m ∧ fs.length + m ≤ 3 ∧ FmW w w2 g v fs W) (fun _ j _ => (intOf j).toNat)
  case atStart => exact ⟨j0, [], rfl, by simp; omega, HF3.out⟩
  case round =>
    obtain ⟨m, fs, rfl, hm, hor⟩ := hrel
    have HOR := Lib.hid hor
    obtain ⟨_, _, rfl, _⟩ := hor.fr.rd
    clear hor
    by_cases hm0 : 0 < m
    · go_wp2_with (go_at_call 23; fail)
      refine (next_any _ _ 7 _ HOR.out.dk (by omega) (by omega)).mono ?_
      rintro e w4 ⟨f1, hf1, hf2, rfl, hd4, hg4⟩
      have HO4 := Lib.hid (HOR.out.next hd4 hg4 hgl2)
      clear hd4 hg4
      have hs4 := HO4.out.gr.size
      go_wp2_with (at_builtin; (refine wpList_append_lit i64E i64S rfl _ _ rfl w2.heap.size _ fs rfl HO4.out.fr f1 _ _ rfl rfl rfl (by simp [Value.oneCell']) (by omega) (by unfold maxLen; omega) hs4 (fun _ _ _ _ h => h) ?_; intro v' w6 ho6 hg6 hb6))
      have HO6 : Hid (FmW w w2 g v' (fs ++ [f1]) w6) := Lib.hid (HO4.out.append ho6 hb6 hgl2 (by omega))
      obtain ⟨_, _, _, rfl⟩ := own_sl ho6
      clear ho6 hg6 hb6
      go_wp2
      go_roundw
      case rel => exact ⟨m - 1, fs ++ [f1], by go_num, by simp; omega, HO6.out⟩
      case measure => simp [intOf]; omega
    · have hme : (m : Int) = 0 := by omega
      rw [hme]
      have HSR := Lib.hid (rdF_keep HUS.out HOWN.out HOR.out.gr hgl).toE
      have HFR := Lib.hid HOR.out.fr.rd
      have HFRO := Lib.hid HOR.out.fr
      have HBW := Lib.hid HOR.out.bel
      clear HOR HF3 HFM
      have HSUM := Lib.hid (sml_sum hsl HSS.out)
      go_wp2_with (go_at_call 40; fail)
      refine (drop_any _ _ ss fs _ HSR.out HFR.out (by omega) (fun x hx => by have := HSS.out x hx; omega)).mono ?_
      rintro e w5 ⟨⟨r5, rfl, hr5⟩, hb5⟩
      have HR5 := Lib.hid hr5
      have HS5 := Lib.hid (HSR.out.below hb5)
      have HX5 := Lib.hid (HFR.out.below hb5)
      have HB5 := Lib.hid (HBW.out.trans (hb5.mono HBW.out.size))
      obtain ⟨_, _, rfl, _⟩ := hr5
      clear hb5
      go_wp2_with (go_at_call 37; fail)
      refine (into_any _ _ ss fs _ HS5.out HX5.out HSUM.out).mono ?_
      rintro e w6 ⟨⟨r6, rfl, hr6⟩, hb6⟩
      have HR6 := Lib.hid hr6
      have HR5b := Lib.hid (HR5.out.below hb6)
      have HS6 := Lib.hid (HS5.out.below hb6)
      have HX6 := Lib.hid (HX5.out.below hb6)
      have HB6 := Lib.hid (HB5.out.trans (hb6.mono HB5.out.size))
      obtain ⟨ia, ic, rfl, _⟩ := hr6
      clear hb6
      have HSUM2 : Hid (((ss.filter (Kp fs)).map (·.slots.length)).sum ≤ 1000000) := Lib.hid (Nat.le_trans filter_sum' HSUM.out)
      go_wp2_with (go_at_call 37; fail)
      refine (into_any _ _ (ss.filter (Kp fs)) fs _ HR5b.out HX6.out HSUM2.out).mono ?_
      rintro e w7 ⟨⟨r7, rfl, hr7⟩, hb7⟩
      rw [ptS_kept, setL_nil] at hr7
      rw [ptS_kept]
      have HR6b := Lib.hid (HR6.out.below hb7)
      have HR7 := Lib.hid (HR5b.out.below hb7)
      have HS7 := Lib.hid (HS6.out.below hb7)
      have HB7 := Lib.hid (HB6.out.trans (hb7.mono HB6.out.size))
      obtain ⟨_, _, rfl, _⟩ := hr7
      clear hb7
      have hle := setL_len (ptS ss fs)
      have hle' : ¬ ((ptS ss fs).length : Int) < ((setL (ptS ss fs)).length : Int) := by omega
      have hfs := filter_sum (xs := ss) (fs := fs)
      have hsum := HSUM.out
      go_wp2_with (go_at_call 33; fail)
      refine (count_any _ _ _ HR7.out HSUM2.out).mono ?_
      rintro e w8 ⟨rfl, hb8⟩
      have HR8 := Lib.hid (HR7.out.below hb8)
      have HR6c := Lib.hid (HR6b.out.below hb8)
      have HS8 := Lib.hid (HS7.out.below hb8)
      have HB8 := Lib.hid (HB7.out.trans (hb8.mono HB7.out.size))
      clear hb8
      go_wp2_with (go_at_call 33; fail)
      refine (count_any _ _ _ HS8.out HSUM.out).mono ?_
      rintro e w9 ⟨rfl, hb9⟩
      have HR9 := Lib.hid (HR8.out.below hb9)
      have HR6d := Lib.hid (HR6c.out.below hb9)
      have HB9 := Lib.hid (HB8.out.trans (hb9.mono HB8.out.size))
      clear hb9
      generalize hn1 : ((ss.filter (Kp fs)).map (·.slots.length)).sum = n1 at *
      generalize hn2 : (ss.map (·.slots.length)).sum = n2 at *
      generalize hn3 : (ptS ss fs).length = n3 at *
      have hwr : IntKind.i64.wrap ((n1 : Int) + (n3 : Int)) = (n1 : Int) + (n3 : Int) := IntWalk.i64_in _ (by omega)
      have hgt : ¬ (n2 : Int) < (n1 : Int) + (n3 : Int) := by omega
      go_wp2_with (go_at_call 27; fail)
      refine (valid_t _ _ _ HR9.out (filter_valid HOK.out)).mono ?_
      rintro e w10 ⟨rfl, hb10⟩
      have HR6e := Lib.hid (HR6d.out.below hb10)
      have HB10 := Lib.hid (HB9.out.trans (hb10.mono HB9.out.size))
      clear hb10
      have HPW := Lib.hid (setL_ok (ptS ss fs)).1
      generalize hq : setL (ptS ss fs) = qs at *
      obtain ⟨_, _, ei, _, hcm, _⟩ := id HR6e.out
      simp only [Value.slice.injEq] at ei
      obtain ⟨rfl, _, rfl⟩ := ei
      unfold maxLen at hcm
      go_wp2_with fail
      go_loopw [12] (fun i W => ∃ k : Nat, 1 ≤ k ∧ (k ≤ qs.length ∨ k = 1) ∧ i = .int .i64 k ∧ Below w.heap.size w W ∧ Rd i64E W (.slice ia qs.length ic) qs) (fun i _ => qs.length - (intOf i).toNat)
      case atStart => exact ⟨1, by omega, .inr rfl, rfl, HB10.out, HR6e.out⟩
      case round =>
        obtain ⟨k, hk1, hk, rfl, hbel, hrd⟩ := hrel
        have HBE := Lib.hid hbel
        have HQ := Lib.hid hrd
        by_cases hlt : k < qs.length
        · obtain ⟨b, off, rfl⟩ := rd_addr hrd (by omega)
          obtain ⟨g1, g2⟩ := int_cells hrd hlt
          obtain ⟨g3, g4⟩ := int_cells hrd (i := k - 1) (by omega)
          have hlt3 : qs[k - 1] < qs[k] := List.pairwise_iff_getElem.1 HPW.out (k - 1) k (by omega) hlt (by omega)
          have hlt4 : ¬ qs[k] ≤ qs[k - 1] := by omega
          have hkm : IntKind.i64.wrap ((k - 1 : Nat) : Int) = ((k - 1 : Nat) : Int) := IntWalk.i64_in _ (by omega)
          have hkl : k - 1 < qs.length := by omega
          have hkl2 : ((k - 1 : Nat) : Int) < (qs.length : Int) := by omega
          have hkm2 : (k : Int) - 1 = ((k - 1 : Nat) : Int) := by omega
          have HC : Hid (∀ V, Below wr.heap.size wr V → V.cell? ⟨b, off + k, none⟩ = some (.int .i64 qs[k]) ∧ V.cell? ⟨b, off + (k - 1), none⟩ = some (.int .i64 qs[k - 1]) ∧ b < V.heap.size) := Lib.hid fun V hV => ⟨(hV.cell (p := ⟨b, off + k, none⟩) g1).trans g2, (hV.cell (p := ⟨b, off + (k - 1), none⟩) g1).trans g4, Nat.lt_of_lt_of_le g1 hV.size⟩
          clear hrd hbel g2 g4 g3
          go_upto_region 16 with (fail)
          apply wp_region_vals (by kernel_rfl) Grw (Grw.drew _) [76, 77, 78, 79, 80, 81, 82, 83, 84, 85] [Is _, Is _, Is _, Is _, Is _, Is _, Is _, Is _, Is _, Is (.bool false)] (stb_cons (Stb.is) (stb_cons (Stb.is) (stb_cons (Stb.is) (stb_cons (Stb.is) (stb_cons (Stb.is) (stb_cons (Stb.is) (stb_cons (Stb.is) (stb_cons (Stb.is) (stb_cons (Stb.is) (stb_cons (Stb.is) stb_nil)))))))))) (by kernel_rfl) (by kernel_rfl) (by kernel_rfl)
          · refine VSteps.cons (VStep.mk Grw.trans rfl rfl fun t V hout hE hdep K hK => ?_) ?_
            · skip
              have t8 : t[8]? = some _ := hout 8 (by kernel_rfl)
              clear hout hdep
              obtain ⟨c0, c1, c2⟩ := HC.out V hE
              go_simp
              exact hK.out _ _ (Grw.refl _) rfl
            refine VSteps.cons (VStep.mk Grw.trans rfl rfl fun t V hout hE hdep K hK => ?_) ?_
            · skip
              have t12 : t[12]? = some _ := hout 12 (by kernel_rfl)
              clear hout hdep
              obtain ⟨c0, c1, c2⟩ := HC.out V hE
              go_simp
              exact hK.out _ _ (Grw.refl _) rfl
            refine VSteps.cons (VStep.mk Grw.trans rfl rfl fun t V hout hE hdep K hK => ?_) ?_
            · skip
              have t77 := by_is (W := V) (hdep 1 77 (by kernel_rfl))
              clear hout hdep
              obtain ⟨c0, c1, c2⟩ := HC.out V hE
              go_simp
              exact hK.out _ _ (Grw.refl _) rfl
            refine VSteps.cons (VStep.mk Grw.trans rfl rfl fun t V hout hE hdep K hK => ?_) ?_
            · skip
              have t76 := by_is (W := V) (hdep 0 76 (by kernel_rfl))
              have t78 := by_is (W := V) (hdep 2 78 (by kernel_rfl))
              clear hout hdep
              obtain ⟨c0, c1, c2⟩ := HC.out V hE
              go_simp
              exact hK.out _ _ (Grw.refl _) rfl
            refine VSteps.cons (VStep.mk Grw.trans rfl rfl fun t V hout hE hdep K hK => ?_) ?_
            · skip
              have t79 := by_is (W := V) (hdep 3 79 (by kernel_rfl))
              clear hout hdep
              obtain ⟨c0, c1, c2⟩ := HC.out V hE
              go_simp
              exact hK.out _ _ (Grw.refl _) rfl
            refine VSteps.cons (VStep.mk Grw.trans rfl rfl fun t V hout hE hdep K hK => ?_) ?_
            · skip
              have t8 : t[8]? = some _ := hout 8 (by kernel_rfl)
              clear hout hdep
              obtain ⟨c0, c1, c2⟩ := HC.out V hE
              go_simp
              exact hK.out _ _ (Grw.refl _) rfl
            refine VSteps.cons (VStep.mk Grw.trans rfl rfl fun t V hout hE hdep K hK => ?_) ?_
            · skip
              have t12 : t[12]? = some _ := hout 12 (by kernel_rfl)
              clear hout hdep
              obtain ⟨c0, c1, c2⟩ := HC.out V hE
              go_simp
              exact hK.out _ _ (Grw.refl _) rfl
            refine VSteps.cons (VStep.mk Grw.trans rfl rfl fun t V hout hE hdep K hK => ?_) ?_
            · skip
              have t81 := by_is (W := V) (hdep 5 81 (by kernel_rfl))
              have t82 := by_is (W := V) (hdep 6 82 (by kernel_rfl))
              clear hout hdep
              obtain ⟨c0, c1, c2⟩ := HC.out V hE
              go_simp
              exact hK.out _ _ (Grw.refl _) rfl
            refine VSteps.cons (VStep.mk Grw.trans rfl rfl fun t V hout hE hdep K hK => ?_) ?_
            · skip
              have t83 := by_is (W := V) (hdep 7 83 (by kernel_rfl))
              clear hout hdep
              obtain ⟨c0, c1, c2⟩ := HC.out V hE
              go_simp
              exact hK.out _ _ (Grw.refl _) rfl
            refine VSteps.cons (VStep.mk Grw.trans rfl rfl fun t V hout hE hdep K hK => ?_) ?_
            · skip
              have t80 := by_is (W := V) (hdep 4 80 (by kernel_rfl))
              have t84 := by_is (W := V) (hdep 8 84 (by kernel_rfl))
              clear hout hdep
              go_simp
              exact hK.out _ _ (Grw.refl _) rfl
            exact VSteps.nil (by decide)
          · intro f W hE hF
            have f76 : f 76 = _ := hF 0 76 (by kernel_rfl)
            have f77 : f 77 = _ := hF 1 77 (by kernel_rfl)
            have f78 : f 78 = _ := hF 2 78 (by kernel_rfl)
            have f79 : f 79 = _ := hF 3 79 (by kernel_rfl)
            have f80 : f 80 = _ := hF 4 80 (by kernel_rfl)
            have f81 : f 81 = _ := hF 5 81 (by kernel_rfl)
            have f82 : f 82 = _ := hF 6 82 (by kernel_rfl)
            have f83 : f 83 = _ := hF 7 83 (by kernel_rfl)
            have f84 : f 84 = _ := hF 8 84 (by kernel_rfl)
            have f85 : f 85 = _ := hF 9 85 (by kernel_rfl)
            simp only [setAllV, List.map_cons, List.map_nil, List.set_cons_succ, List.set_cons_zero, f76, f77, f78, f79, f80, f81, f82, f83, f84, f85]
            clear hF f76 f77 f78 f79 f80 f81 f82 f83 f84 f85
            have HBN := Lib.hid (HBE.out.trans (hE.mono HBE.out.size))
            have HQN := Lib.hid (HQ.out.below hE)
            clear hE
            go_wp2
            go_roundw
            case rel => exact ⟨k + 1, by omega, .inl (by omega), by go_num, HBN.out, HQN.out⟩
            case measure => simp [intOf]; omega
        · clear hrd hbel
          go_wp2_with (go_at_call 28; fail)
          refine (awake_any _).mono ?_
          rintro e w11 ⟨rfl, hb11⟩
          have HB11 := Lib.hid (HBE.out.trans (hb11.mono HBE.out.size))
          clear hb11
          go_wp2
          go_ret
          exact ⟨rfl, HB11.out⟩
end Go.Proofs.Ytchdmemgkegefaa
