/- The walk of the law on the bytes of a script. -/
import Derived.Test.YtadoehlhfccacaaScp
import Derived.Test.YtadoehlhfccacaaRegV
import Derived.Test.YtadoehlhfccacaaConv
import Derived.Test.YtadoehlhfccacaaScrL
import Derived.Test.YtadoehlhfccacaaIsRow
import Derived.StillTailTactics
namespace Go.Proofs.Ytadoehlhfccacaa
open Go.RowKit
set_option linter.unusedVariables false

/-- how many bytes the first operation has -/
def firstLen (xs : List Int) : Nat := match xs with
  | [] => 0
  | c :: r => if opn c < 0 then 1 else if r.length < (opn c).toNat then r.length + 1 else (opn c).toNat + 1
theorem firstLen_le (c : Int) (r : List Int) : firstLen (c :: r) ≤ r.length + 1 ∧ 1 ≤ firstLen (c :: r) := by
  unfold firstLen
  dsimp only
  split
  · omega
  · split <;> omega
theorem opn_code {c : Int} : (opn c < 0) ↔ ¬ (1 ≤ c ∧ c ≤ 10) := by
  unfold opn
  constructor
  · intro h h2; repeat' split at h <;> omega
  · intro h; repeat' split <;> omega
theorem firstLen_short {c : Int} {r : List Int} {m : Nat} (hm : opn c = m) (hs : r.length < m) : firstLen (c :: r) = r.length + 1 := by
  unfold firstLen
  dsimp only
  rw [if_neg (by omega), if_pos (by omega)]
theorem firstLen_op {c : Int} {r : List Int} {m : Nat} (hm : opn c = m) (hs : ¬ r.length < m) : firstLen (c :: r) = m + 1 := by
  unfold firstLen
  dsimp only
  rw [if_neg (by omega), if_neg (by omega)]
  omega
/-- the operations of what follows the first one's bytes -/
theorem dec_first (c : Int) (r : List Int) (hx : ∀ x ∈ c :: r, 0 ≤ x ∧ x ≤ 255) :
    ∃ o, dec (c :: r) = o :: dec ((c :: r).drop (firstLen (c :: r))) ∧ (o.c ≠ 0 → (enc [o]).length = firstLen (c :: r) ∧ o.I) ∧ (o.c = 0 → (1 ≤ c ∧ c ≤ 10 → firstLen (c :: r) = r.length + 1) ∧ (¬ (1 ≤ c ∧ c ≤ 10) → firstLen (c :: r) = 1)) := by
  by_cases h0 : opn c < 0
  · refine ⟨⟨0, 0, 0, 0⟩, ?_, fun h => absurd rfl h, fun _ => ⟨fun h => absurd h (opn_code.1 h0), fun _ => by simp [firstLen, h0]⟩⟩
    rw [dec_bad h0]
    simp [firstLen, h0]
  · obtain ⟨m, hm⟩ : ∃ m : Nat, opn c = m := ⟨(opn c).toNat, by omega⟩
    by_cases hs : r.length < m
    · refine ⟨⟨0, 0, 0, 0⟩, ?_, fun h => absurd rfl h, fun _ => ⟨fun _ => firstLen_short hm hs, fun h => absurd (opn_code.2 h) h0⟩⟩
      rw [dec_short hm hs]
      rw [firstLen_short hm hs]
      simp [dec]
    · have hfl := firstLen_op hm hs
      have hc : c ≠ 0 := by
        rintro rfl
        have : opn 0 = -1 := by decide
        omega
      refine ⟨op4 c r, ?_, fun _ => ⟨?_, ?_⟩, fun h => absurd h hc⟩
      · rw [dec_op hm (by omega), hfl]; simp
      · have h1 := enc_op4 hm (by omega) hx
        simp only [enc, List.append_nil, h1, hfl, List.length_cons, List.length_take]
        omega
      · have hr := dec_range (c :: r) hx (op4 c r) (by rw [dec_op hm (by omega)]; simp)
        exact hr

/-- what is left of a slice from n on; where nothing is left the address is no matter -/
theorem Rd.dropA {α : Type} {E : El α} {w : World} {b off m c n : Nat} {A : Option Addr} {xs : List α} (h : Rd E w (.slice (some ⟨b, off, none⟩) m c) xs) (hn : n ≤ m) (hA : n < m → A = some ⟨b, off + n * E.sz, none⟩) : Rd E w (.slice A (m - n) (c - n)) (xs.drop n) := by
  obtain ⟨a', c', e, h2, h3, h4⟩ := h
  simp only [Value.slice.injEq] at e
  obtain ⟨rfl, rfl, rfl⟩ := e
  refine ⟨A, c - n, by rw [List.length_drop], by rw [List.length_drop]; omega, by omega, ?_⟩
  by_cases hl : n < xs.length
  · rcases h4 with h4 | ⟨b', off', e2, h4⟩
    · rw [h4] at hl; simp at hl
    · simp only [Option.some.injEq, Addr.mk.injEq, and_true] at e2
      obtain ⟨rfl, rfl⟩ := e2
      refine .inr ⟨b, off + n * E.sz, hA hl, fun i hi => ?_⟩
      rw [List.length_drop] at hi
      obtain ⟨cs, hr, hc⟩ := h4 (n + i) (by omega)
      refine ⟨cs, by rw [List.getElem_drop]; exact hr, fun j hj => ?_⟩
      rw [← hc j hj, Nat.add_mul]
      congr 2
      omega
  · exact .inl (List.drop_eq_nil_of_le (by omega))

theorem Rd.dropA' {α : Type} {E : El α} {w : World} {b off m c n k c' : Nat} {A : Option Addr} {xs : List α} (h : Rd E w (.slice (some ⟨b, off, none⟩) m c) xs) (hn : n ≤ m) (hk : k = m - n) (hc : c' = c - n) (hA : n < m → A = some ⟨b, off + n * E.sz, none⟩) : Rd E w (.slice A k c') (xs.drop n) := by
  subst hk hc
  exact h.dropA hn hA

/-- what is known of a script that is not empty -/
structure ByF (W : World) (c : Int) (r : List Int) (xc oc : Nat) (o : Op4) (ds : List Op4) (fl xb xo ob oo : Nat) : Prop where
  dl : (dec (c :: r)).length = ds.length + 1
  dd : dec (c :: r) = o :: ds
  dr : dec ((c :: r).drop fl) = ds
  x0 : W.cell? ⟨xb, xo, none⟩ = some (.int .u8 c)
  x1 : xb < W.heap.size
  o0 : W.cell? ⟨ob, oo, none⟩ = some (.int .i64 o.c)
  o1 : ob < W.heap.size
  f1 : fl ≤ r.length + 1
  f2 : 1 ≤ fl
  cx : r.length + 1 ≤ xc
  co : ds.length + 1 ≤ oc
  en : o.c ≠ 0 → (enc [o]).length = fl ∧ o.I
  z1 : o.c = 0 → 1 ≤ c ∧ c ≤ 10 → fl = r.length + 1
  z2 : o.c = 0 → ¬ (1 ≤ c ∧ c ≤ 10) → fl = 1
theorem by_open {W : World} {c : Int} {r : List Int} {xa oa : Option Addr} {xc oc : Nat} (hx : Rd byteE W (.slice xa (c :: r).length xc) (c :: r)) (ho : Rd op4E W (.slice oa (dec (c :: r)).length oc) (dec (c :: r))) (hr : ∀ x ∈ c :: r, 0 ≤ x ∧ x ≤ 255) :
    ∃ o ds fl xb xo ob oo, xa = some ⟨xb, xo, none⟩ ∧ oa = some ⟨ob, oo, none⟩ ∧ ByF W c r xc oc o ds fl xb xo ob oo := by
  obtain ⟨o, hdd, ho1, ho2⟩ := dec_first c r hr
  obtain ⟨hf1, hf2⟩ := firstLen_le c r
  obtain ⟨a', c', e, hcl, hcm, hf⟩ := hx.flat
  simp only [Value.slice.injEq, true_and] at e
  obtain ⟨rfl, rfl⟩ := e
  obtain ⟨xb, xo, rfl, hxb, hxc⟩ := hf.resolve_left (by simp)
  obtain ⟨a', c', e, hcl2, hcm2, hf2'⟩ := ho.flat
  simp only [Value.slice.injEq, true_and] at e
  obtain ⟨rfl, rfl⟩ := e
  obtain ⟨ob, oo, rfl, hob, hoc⟩ := hf2'.resolve_left (by rw [hdd]; simp)
  refine ⟨o, dec ((c :: r).drop (firstLen (c :: r))), firstLen (c :: r), xb, xo, ob, oo, rfl, rfl, ?_⟩
  have h1 := hxc 0 (by simp) 0 (by decide)
  have h2 := hoc 0 (by rw [hdd]; simp) 0 (by decide)
  have h3 : (dec (c :: r))[0]'(by rw [hdd]; simp) = o := by simp [hdd]
  rw [h3] at h2
  refine ⟨by rw [hdd]; simp, hdd, rfl, by simpa using h1, hxb (by decide), by simpa [Op4.cells] using h2, hob (by decide), hf1, hf2, by simpa using hcl, by rw [hdd] at hcl2; simpa using hcl2, ho1, fun h => (ho2 h).1, fun h => (ho2 h).2⟩

/-- at the head of a round: the two scripts -/
def ByL (w0 : World) (pb : Nat) (v1 v2 : Value) (xs1 xs2 : List Int) (i : Value) (W : World) : Prop := ∃ k : Nat, k ≤ 2 ∧ i = .int .i64 k ∧ Below w0.heap.size w0 W ∧ W.heap[pb]? = some (.cells #[v1, v2] 22 (0, 0)) ∧ Rd byteE W v1 xs1 ∧ Rd byteE W v2 xs2
theorem ByL.out {w0 : World} {pb : Nat} {v1 v2 : Value} {xs1 xs2 : List Int} {i : Value} {W : World} (h : ByL w0 pb v1 v2 xs1 xs2 i W) : ∃ k : Nat, k ≤ 2 ∧ i = .int .i64 k ∧ Below w0.heap.size w0 W ∧ W.heap[pb]? = some (.cells #[v1, v2] 22 (0, 0)) ∧ Rd byteE W v1 xs1 ∧ Rd byteE W v2 xs2 := h

theorem ByL.below {w0 : World} {pb : Nat} {v1 v2 : Value} {xs1 xs2 : List Int} {i : Value} {W W' : World} (h : ByL w0 pb v1 v2 xs1 xs2 i W) (hb : Grw W W') : ByL w0 pb v1 v2 xs1 xs2 i W' := by
  obtain ⟨k, h1, h2, h3, h4, h5, h6⟩ := h
  exact ⟨k, h1, h2, h3.trans (hb.mono h3.size), below_block hb (block_lt h4) h4, h5.below hb, h6.below hb⟩
set_option maxRecDepth 100000 in
set_option maxHeartbeats 4000000 in
theorem scriptBytes_walk (w : World) (u : Value) (l : List Int) (hu : Rd i64E w u l) (hl : ∀ x ∈ l, I64 x) (v : Value) (bs : List Int) (hv : Rd byteE w v bs) (hb : ∀ x ∈ bs, 0 ≤ x ∧ x ≤ 255) :
    Calls Try.prog 4 #[u, v] w fun e w' => e = .returned (.bool true) ∧ Below w.heap.size w w' := by
  have HU := Lib.hid hu
  have HV := Lib.hid hv
  have HL := Lib.hid hl
  have HB := Lib.hid hb
  clear hu hl hb
  obtain ⟨a2, c2, rfl, hc1, hc2, hvc⟩ := hv.flat
  clear hv hvc
  unfold maxLen at hc2
  by_cases hlen : 900 < bs.length
  · have hd : decide ((900 : Int) < bs.length) = true := by simp; omega
    go_enter Try.func4, Try.ntmps4
    go_wp2_with (first | (go_at_call 11; refine (awake_any _).mono ?_; rintro e w' ⟨rfl, hb'⟩))
    go_ret
    exact ⟨rfl, hb'⟩
  · have hle : bs.length ≤ 900 := by omega
    have hd : decide ((900 : Int) < bs.length) = false := by simp; omega
    go_enter Try.func4, Try.ntmps4
    go_wp2_with fail
    refine (new_any _ l _ HU.out HL.out).mono ?_
    rintro e w1 ⟨g, rfl, hdk, hb1⟩
    have HD1 := Lib.hid hdk
    have HB1 := Lib.hid hb1
    have hgge := hdk.1
    clear hdk hb1
    go_wp2_with fail
    refine (script_any w.heap.size g 25 w1 HD1.out (by omega)).mono ?_
    rintro e w2 ⟨v2, xs2, rfl, hr2, hx2, hl2, _, hg2⟩
    have hb2 : Below w.heap.size w w2 := HB1.out.grown hg2 HB1.out.size (fun q hq => by injection hq with hq; omega)
    have HV1 := Lib.hid (HV.out.below hb2)
    have HR2 := Lib.hid hr2
    have HX2 := Lib.hid hx2
    have HB2 := Lib.hid hb2
    obtain ⟨s2, n2, rfl, _, _⟩ := hr2
    clear hx2 hg2 hb2
    go_wp2
    have hs2 := HB2.out.size
    go_loopw [19] (fun i wr => ByL w w2.heap.size (.slice a2 bs.length c2) (.slice s2 xs2.length n2) bs xs2 i wr) (fun i _ => 2 - (intOf i).toNat)
    case atStart => exact ⟨0, by omega, rfl, HB2.out.alloc hs2 _, heap_alloc_new _ _, HV1.out.below ((Below.refl _ _).alloc (Nat.le_refl _) _), HR2.out.below ((Below.refl _ _).alloc (Nat.le_refl _) _)⟩
    case round =>
      obtain ⟨k, hk, rfl, hbel, hpb, hra, hrb⟩ := hrel.out
      clear hrel HV1 HR2 HB2
      have hpl := block_lt hpb
      generalize w2.heap.size = pb at *
      by_cases hlt : k < 2
      · obtain ⟨xa, xc, xs, hcell, hrx, hxr, hxl⟩ : ∃ xa xc xs, wr.cell? ⟨pb, k, none⟩ = some (.slice xa xs.length xc) ∧ Rd byteE wr (.slice xa xs.length xc) xs ∧ (∀ x ∈ xs, 0 ≤ x ∧ x ≤ 255) ∧ xs.length ≤ 900 := by
          have : k = 0 ∨ k = 1 := by omega
          rcases this with rfl | rfl
          · exact ⟨_, _, bs, by rw [cell_block hpb]; rfl, hra, HB.out, hle⟩
          · exact ⟨_, _, xs2, by rw [cell_block hpb]; rfl, hrb, HX2.out, by omega⟩
        have HBEL := Lib.hid hbel
        have HPB := Lib.hid hpb
        have HRA := Lib.hid hra
        have HRB := Lib.hid hrb
        have HRX := Lib.hid hrx
        have HXR := Lib.hid hxr
        clear hbel hpb hra hrb hrx hxr
        go_wp2_with fail
        refine (decode_any _ xs _ HRX.out HXR.out).mono ?_
        rintro e w3 ⟨r3, rfl, ho3, hb3⟩
        rw [List.take_of_length_le (by omega)] at ho3
        have HL3 : Hid (ByL w pb (.slice a2 bs.length c2) (.slice s2 xs2.length n2) bs xs2 (.int .i64 ((k : Int) + 1)) w3) := Lib.hid ⟨k + 1, by omega, by norm_cast, HBEL.out.trans (hb3.mono HBEL.out.size), below_block hb3 hpl HPB.out, HRA.out.below hb3, HRB.out.below hb3⟩
        have HRX3 := Lib.hid (HRX.out.below hb3)
        have hs3 := hb3.size
        clear hb3 HRA HRB HPB HRX hcell
        have HO3 := Lib.hid ho3
        obtain ⟨oa, oc, rfl⟩ := own_form ho3
        clear ho3
        cases xs with
        | nil =>
          have hdn : (dec ([] : List Int)).length = 0 := by simp [dec]
          have HDN := Lib.hid hdn
          rw [hdn]
          clear hdn
          go_wp2
          go_roundw
          case rel => exact HL3.out
          case measure => simp [intOf]; omega
        | cons c r =>
          obtain ⟨o, ds, fl, xb, xo, ob, oo, hxa, hoa, F⟩ := by_open HRX3.out HO3.out.rd HXR.out
          subst hxa hoa
          have hdl := F.dl
          rw [hdl]
          clear hdl
          have x0 := F.x0
          have x1 := F.x1
          have o0 := F.o0
          have o1 := F.o1
          have f1 := F.f1
          have f2 := F.f2
          have HF := Lib.hid F
          clear F
          have hr1 := Rd.take HO3.out.rd (n := 1) (by rw [HF.out.dl]; omega)
          rw [HF.out.dd, List.take_succ_cons, List.take_zero] at hr1
          have HR1 := Lib.hid hr1
          have hco := HF.out.co
          have hcx := HF.out.cx
          clear hr1
          have hrl : r.length ≤ 899 := by simpa using hxl
          have q1 : decide ((r.length : Int) + 1 < fl) = false := by simp; omega
          by_cases hc : o.c = 0
          · have hcz : (o.c != 0) = false := by simpa using hc
            by_cases hcc : 1 ≤ c ∧ c ≤ 10
            · have hfl := HF.out.z1 hc hcc
              have g1 : decide (c ≥ 1) = true := by simp; omega
              have g2 : decide (c ≤ 10) = true := by simp; omega
              have q2 : decide ((r.length : Int) + 1 < r.length + 1) = false := by simp
              clear hc
              go_wp2_with fail
              apply wp_region_vals (by kernel_rfl) Grw (Grw.drew _) [55, 56, 57, 58, 59, 60, 61, 62, 63, 64, 65, 66, 67, 68] [Is _, Is _, Is _, Is _, Is _, Is _, Is _, (fun v W => Rd byteE W v ((c :: r).drop fl)), (fun v W => Rd op4E W v ds), Is _, (fun v W => Rd op4E W v ds), Is _, Is _, Is _] (stb_cons (Stb.is) (stb_cons (Stb.is) (stb_cons (Stb.is) (stb_cons (Stb.is) (stb_cons (Stb.is) (stb_cons (Stb.is) (stb_cons (Stb.is) (stb_cons (Stb.rd) (stb_cons (Stb.rd) (stb_cons (Stb.is) (stb_cons (Stb.rd) (stb_cons (Stb.is) (stb_cons (Stb.is) (stb_cons (Stb.is) stb_nil)))))))))))))) (by kernel_rfl) (by kernel_rfl) (by kernel_rfl)
              · refine VSteps.cons (VStep.mk Grw.trans rfl rfl fun t V hout hE hdep K hK => ?_) ?_
                · skip
                  have t8 : t[8]? = some _ := hout 8 (by kernel_rfl)
                  clear hout hdep
                  go_simp
                  exact hK.out _ _ (Grw.refl _) rfl
                refine VSteps.cons (VStep.mk Grw.trans rfl rfl fun t V hout hE hdep K hK => ?_) ?_
                · skip
                  have t6 : t[6]? = some _ := hout 6 (by kernel_rfl)
                  clear hout hdep
                  go_simp
                  exact hK.out _ _ (Grw.refl _) rfl
                refine VSteps.cons (VStep.mk Grw.trans rfl rfl fun t V hout hE hdep K hK => ?_) ?_
                · skip
                  have t56 := by_is (W := V) (hdep 1 56 (by kernel_rfl))
                  clear hout hdep
                  go_simp
                  exact hK.out _ _ (Grw.refl _) rfl
                refine VSteps.cons (VStep.mk Grw.trans rfl rfl fun t V hout hE hdep K hK => ?_) ?_
                · skip
                  have t55 := by_is (W := V) (hdep 0 55 (by kernel_rfl))
                  have t57 := by_is (W := V) (hdep 2 57 (by kernel_rfl))
                  clear hout hdep
                  go_simp
                  exact hK.out _ _ (Grw.refl _) rfl
                refine VSteps.cons (VStep.mk Grw.trans rfl rfl fun t V hout hE hdep K hK => ?_) ?_
                · skip
                  have t58 := by_is (W := V) (hdep 3 58 (by kernel_rfl))
                  clear hout hdep
                  go_simp
                  exact hK.out _ _ (Grw.refl _) rfl
                refine VSteps.cons (VStep.mkG Grw.trans (dg := 59) rfl rfl (by kernel_rfl) (fun _ _ h => h) fun t V hout hE hdep K hK => ?_) ?_
                · skip
                  have t6 : t[6]? = some _ := hout 6 (by kernel_rfl)
                  clear hout hdep
                  go_simp
                  exact hK.out _ _ (Grw.refl _) rfl
                refine VSteps.cons (VStep.mkG Grw.trans (dg := 59) rfl rfl (by kernel_rfl) (fun _ _ h => h) fun t V hout hE hdep K hK => ?_) ?_
                · skip
                  have t8 : t[8]? = some _ := hout 8 (by kernel_rfl)
                  clear hout hdep
                  go_simp
                  exact hK.out _ _ (Grw.refl _) rfl
                refine VSteps.cons (VStep.mkG Grw.trans (dg := 59) rfl rfl (by kernel_rfl) (fun _ _ h => h) fun t V hout hE hdep K hK => ?_) ?_
                · skip
                  have t60 := by_is (W := V) (hdep 5 60 (by kernel_rfl))
                  have t61 := by_is (W := V) (hdep 6 61 (by kernel_rfl))
                  clear hout hdep
                  have k1 : (fl : Int) ≤ (r.length : Int) + 1 := by omega
                  have k2 : (0 : Int) ≤ (fl : Int) := by omega
                  have k3 : (1 : Int) ≤ (r.length : Int) + 1 := by omega
                  go_simp
                  refine hK.out _ _ (Grw.refl _) ?_
                  change Rd byteE V _ ((c :: r).drop fl)
                  refine Rd.dropA' (xs := c :: r) (HRX3.out.below hE) ?_ ?_ ?_ ?_
                  · first | (simp; done) | (simp; omega)
                  · first | (simp; done) | (simp; omega)
                  · first | rfl | omega
                  · intro h; have h2 : fl < r.length + 1 := h; first | (exfalso; omega) | (rw [if_neg (by omega)]; simp [byteE, flat]; done) | (rw [if_neg (by omega)]; simp [byteE, flat]; omega) | (simp [byteE, flat]; omega)
                refine VSteps.cons (VStep.mkG Grw.trans (dg := 59) rfl rfl (by kernel_rfl) (fun _ _ h => h) fun t V hout hE hdep K hK => ?_) ?_
                · skip
                  obtain ⟨v62, t62, e62⟩ := hdep 7 62 (by kernel_rfl)
                  clear hout hdep
                  go_simp
                  refine (decode_any _ _ _ e62 (fun x hx => HXR.out x (List.mem_of_mem_drop hx))).mono ?_
                  rintro e W5 ⟨v5, rfl, ho5, hb5⟩
                  rw [List.take_of_length_le (by rw [List.length_drop, List.length_cons]; omega), HF.out.dr] at ho5
                  go_simp
                  exact hK.out _ _ hb5 ho5.rd
                refine VSteps.cons (VStep.mkG Grw.trans (dg := 59) rfl rfl (by kernel_rfl) (fun _ _ h => h) fun t V hout hE hdep K hK => ?_) ?_
                · skip
                  have t7 : t[7]? = some _ := hout 7 (by kernel_rfl)
                  clear hout hdep
                  go_simp
                  exact hK.out _ _ (Grw.refl _) rfl
                refine VSteps.cons (VStep.mkG Grw.trans (dg := 59) rfl rfl (by kernel_rfl) (fun _ _ h => h) fun t V hout hE hdep K hK => ?_) ?_
                · skip
                  have t64 := by_is (W := V) (hdep 9 64 (by kernel_rfl))
                  clear hout hdep
                  have k1 : (1 : Int) ≤ (ds.length : Int) + 1 := by omega
                  go_simp
                  refine hK.out _ _ (Grw.refl _) ?_
                  have hro := HO3.out.rd.below hE
                  rw [HF.out.dd] at hro
                  change Rd op4E V _ ((o :: ds).drop 1)
                  refine Rd.dropA' (xs := o :: ds) hro ?_ ?_ ?_ ?_
                  · simp
                  · simp
                  · first | rfl | omega
                  · intro h; have h2 : 1 < ds.length + 1 := h; rw [if_neg (by omega)]; simp [op4E, flat]
                refine VSteps.cons (VStep.mkG Grw.trans (dg := 59) rfl rfl (by kernel_rfl) (fun _ _ h => h) fun t V hout hE hdep K hK => ?_) ?_
                · skip
                  obtain ⟨v63, t63, e63⟩ := hdep 8 63 (by kernel_rfl)
                  obtain ⟨v65, t65, e65⟩ := hdep 10 65 (by kernel_rfl)
                  clear hout hdep
                  go_simp
                  refine (sameOps_true _ _ _ _ e63 e65).mono ?_
                  rintro e w6 ⟨rfl, n6, rfl⟩
                  go_simp
                  exact hK.out _ _ ⟨rfl, rfl, rfl, Nat.le_refl _, fun _ _ => rfl⟩ rfl
                refine VSteps.cons (VStep.mkG Grw.trans (dg := 59) rfl rfl (by kernel_rfl) (fun _ _ h => h) fun t V hout hE hdep K hK => ?_) ?_
                · skip
                  have t66 := by_is (W := V) (hdep 11 66 (by kernel_rfl))
                  clear hout hdep
                  go_simp
                  exact hK.out _ _ (Grw.refl _) rfl
                refine VSteps.cons (VStep.mk Grw.trans rfl rfl fun t V hout hE hdep K hK => ?_) ?_
                · skip
                  have t59 := by_is (W := V) (hdep 4 59 (by kernel_rfl))
                  have t67 := by_is (W := V) (hdep 12 67 (by kernel_rfl))
                  clear hout hdep
                  go_simp
                  exact hK.out _ _ (Grw.refl _) rfl
                exact VSteps.nil (by decide)
              · intro f W hE hF
                have f55 : f 55 = _ := hF 0 55 (by kernel_rfl)
                have f56 : f 56 = _ := hF 1 56 (by kernel_rfl)
                have f57 : f 57 = _ := hF 2 57 (by kernel_rfl)
                have f58 : f 58 = _ := hF 3 58 (by kernel_rfl)
                have f59 : f 59 = _ := hF 4 59 (by kernel_rfl)
                have f60 : f 60 = _ := hF 5 60 (by kernel_rfl)
                have f61 : f 61 = _ := hF 6 61 (by kernel_rfl)
                have f62 := hF 7 62 (by kernel_rfl)
                have f63 := hF 8 63 (by kernel_rfl)
                have f64 : f 64 = _ := hF 9 64 (by kernel_rfl)
                have f65 := hF 10 65 (by kernel_rfl)
                have f66 : f 66 = _ := hF 11 66 (by kernel_rfl)
                have f67 : f 67 = _ := hF 12 67 (by kernel_rfl)
                have f68 : f 68 = _ := hF 13 68 (by kernel_rfl)
                simp only [setAllV, List.map_cons, List.map_nil, List.set_cons_succ, List.set_cons_zero, f55, f56, f57, f58, f59, f60, f61, f64, f66, f67, f68]
                clear hF f55 f56 f57 f58 f59 f60 f61 f64 f66 f67 f68
                generalize f 62 = v62 at *
                generalize f 63 = v63 at *
                generalize f 65 = v65 at *
                have HE := Lib.hid hE
                clear hE
                go_wp2
                go_roundw
                case rel => exact HL3.out.below HE
                case measure => simp [intOf]; omega
            · have hfl := HF.out.z2 hc hcc
              have q2 : decide ((r.length : Int) + 1 < 1) = false := by simp; omega
              by_cases hc1 : 1 ≤ c
              · have g1 : decide (c ≥ 1) = true := by simp; omega
                have g2 : decide (c ≤ 10) = false := by simp; omega
                clear hc
                go_wp2_with fail
                apply wp_region_vals (by kernel_rfl) Grw (Grw.drew _) [55, 56, 57, 58, 59, 60, 61, 62, 63, 64, 65, 66, 67, 68] [Is _, Is _, Is _, Is _, Is _, Is _, Is _, (fun v W => Rd byteE W v ((c :: r).drop fl)), (fun v W => Rd op4E W v ds), Is _, (fun v W => Rd op4E W v ds), Is _, Is _, Is _] (stb_cons (Stb.is) (stb_cons (Stb.is) (stb_cons (Stb.is) (stb_cons (Stb.is) (stb_cons (Stb.is) (stb_cons (Stb.is) (stb_cons (Stb.is) (stb_cons (Stb.rd) (stb_cons (Stb.rd) (stb_cons (Stb.is) (stb_cons (Stb.rd) (stb_cons (Stb.is) (stb_cons (Stb.is) (stb_cons (Stb.is) stb_nil)))))))))))))) (by kernel_rfl) (by kernel_rfl) (by kernel_rfl)
                · refine VSteps.cons (VStep.mk Grw.trans rfl rfl fun t V hout hE hdep K hK => ?_) ?_
                  · skip
                    have t8 : t[8]? = some _ := hout 8 (by kernel_rfl)
                    clear hout hdep
                    go_simp
                    exact hK.out _ _ (Grw.refl _) rfl
                  refine VSteps.cons (VStep.mk Grw.trans rfl rfl fun t V hout hE hdep K hK => ?_) ?_
                  · skip
                    have t6 : t[6]? = some _ := hout 6 (by kernel_rfl)
                    clear hout hdep
                    go_simp
                    exact hK.out _ _ (Grw.refl _) rfl
                  refine VSteps.cons (VStep.mk Grw.trans rfl rfl fun t V hout hE hdep K hK => ?_) ?_
                  · skip
                    have t56 := by_is (W := V) (hdep 1 56 (by kernel_rfl))
                    clear hout hdep
                    go_simp
                    exact hK.out _ _ (Grw.refl _) rfl
                  refine VSteps.cons (VStep.mk Grw.trans rfl rfl fun t V hout hE hdep K hK => ?_) ?_
                  · skip
                    have t55 := by_is (W := V) (hdep 0 55 (by kernel_rfl))
                    have t57 := by_is (W := V) (hdep 2 57 (by kernel_rfl))
                    clear hout hdep
                    go_simp
                    exact hK.out _ _ (Grw.refl _) rfl
                  refine VSteps.cons (VStep.mk Grw.trans rfl rfl fun t V hout hE hdep K hK => ?_) ?_
                  · skip
                    have t58 := by_is (W := V) (hdep 3 58 (by kernel_rfl))
                    clear hout hdep
                    go_simp
                    exact hK.out _ _ (Grw.refl _) rfl
                  refine VSteps.cons (VStep.mkG Grw.trans (dg := 59) rfl rfl (by kernel_rfl) (fun _ _ h => h) fun t V hout hE hdep K hK => ?_) ?_
                  · skip
                    have t6 : t[6]? = some _ := hout 6 (by kernel_rfl)
                    clear hout hdep
                    go_simp
                    exact hK.out _ _ (Grw.refl _) rfl
                  refine VSteps.cons (VStep.mkG Grw.trans (dg := 59) rfl rfl (by kernel_rfl) (fun _ _ h => h) fun t V hout hE hdep K hK => ?_) ?_
                  · skip
                    have t8 : t[8]? = some _ := hout 8 (by kernel_rfl)
                    clear hout hdep
                    go_simp
                    exact hK.out _ _ (Grw.refl _) rfl
                  refine VSteps.cons (VStep.mkG Grw.trans (dg := 59) rfl rfl (by kernel_rfl) (fun _ _ h => h) fun t V hout hE hdep K hK => ?_) ?_
                  · skip
                    have t60 := by_is (W := V) (hdep 5 60 (by kernel_rfl))
                    have t61 := by_is (W := V) (hdep 6 61 (by kernel_rfl))
                    clear hout hdep
                    have k1 : (fl : Int) ≤ (r.length : Int) + 1 := by omega
                    have k2 : (0 : Int) ≤ (fl : Int) := by omega
                    have k3 : (1 : Int) ≤ (r.length : Int) + 1 := by omega
                    go_simp
                    refine hK.out _ _ (Grw.refl _) ?_
                    change Rd byteE V _ ((c :: r).drop fl)
                    refine Rd.dropA' (xs := c :: r) (HRX3.out.below hE) ?_ ?_ ?_ ?_
                    · first | (simp; done) | (simp; omega)
                    · first | (simp; done) | (simp; omega)
                    · first | rfl | omega
                    · intro h; have h2 : fl < r.length + 1 := h; first | (exfalso; omega) | (rw [if_neg (by omega)]; simp [byteE, flat]; done) | (rw [if_neg (by omega)]; simp [byteE, flat]; omega) | (simp [byteE, flat]; omega)
                  refine VSteps.cons (VStep.mkG Grw.trans (dg := 59) rfl rfl (by kernel_rfl) (fun _ _ h => h) fun t V hout hE hdep K hK => ?_) ?_
                  · skip
                    obtain ⟨v62, t62, e62⟩ := hdep 7 62 (by kernel_rfl)
                    clear hout hdep
                    go_simp
                    refine (decode_any _ _ _ e62 (fun x hx => HXR.out x (List.mem_of_mem_drop hx))).mono ?_
                    rintro e W5 ⟨v5, rfl, ho5, hb5⟩
                    rw [List.take_of_length_le (by rw [List.length_drop, List.length_cons]; omega), HF.out.dr] at ho5
                    go_simp
                    exact hK.out _ _ hb5 ho5.rd
                  refine VSteps.cons (VStep.mkG Grw.trans (dg := 59) rfl rfl (by kernel_rfl) (fun _ _ h => h) fun t V hout hE hdep K hK => ?_) ?_
                  · skip
                    have t7 : t[7]? = some _ := hout 7 (by kernel_rfl)
                    clear hout hdep
                    go_simp
                    exact hK.out _ _ (Grw.refl _) rfl
                  refine VSteps.cons (VStep.mkG Grw.trans (dg := 59) rfl rfl (by kernel_rfl) (fun _ _ h => h) fun t V hout hE hdep K hK => ?_) ?_
                  · skip
                    have t64 := by_is (W := V) (hdep 9 64 (by kernel_rfl))
                    clear hout hdep
                    have k1 : (1 : Int) ≤ (ds.length : Int) + 1 := by omega
                    go_simp
                    refine hK.out _ _ (Grw.refl _) ?_
                    have hro := HO3.out.rd.below hE
                    rw [HF.out.dd] at hro
                    change Rd op4E V _ ((o :: ds).drop 1)
                    refine Rd.dropA' (xs := o :: ds) hro ?_ ?_ ?_ ?_
                    · simp
                    · simp
                    · first | rfl | omega
                    · intro h; have h2 : 1 < ds.length + 1 := h; rw [if_neg (by omega)]; simp [op4E, flat]
                  refine VSteps.cons (VStep.mkG Grw.trans (dg := 59) rfl rfl (by kernel_rfl) (fun _ _ h => h) fun t V hout hE hdep K hK => ?_) ?_
                  · skip
                    obtain ⟨v63, t63, e63⟩ := hdep 8 63 (by kernel_rfl)
                    obtain ⟨v65, t65, e65⟩ := hdep 10 65 (by kernel_rfl)
                    clear hout hdep
                    go_simp
                    refine (sameOps_true _ _ _ _ e63 e65).mono ?_
                    rintro e w6 ⟨rfl, n6, rfl⟩
                    go_simp
                    exact hK.out _ _ ⟨rfl, rfl, rfl, Nat.le_refl _, fun _ _ => rfl⟩ rfl
                  refine VSteps.cons (VStep.mkG Grw.trans (dg := 59) rfl rfl (by kernel_rfl) (fun _ _ h => h) fun t V hout hE hdep K hK => ?_) ?_
                  · skip
                    have t66 := by_is (W := V) (hdep 11 66 (by kernel_rfl))
                    clear hout hdep
                    go_simp
                    exact hK.out _ _ (Grw.refl _) rfl
                  refine VSteps.cons (VStep.mk Grw.trans rfl rfl fun t V hout hE hdep K hK => ?_) ?_
                  · skip
                    have t59 := by_is (W := V) (hdep 4 59 (by kernel_rfl))
                    have t67 := by_is (W := V) (hdep 12 67 (by kernel_rfl))
                    clear hout hdep
                    go_simp
                    exact hK.out _ _ (Grw.refl _) rfl
                  exact VSteps.nil (by decide)
                · intro f W hE hF
                  have f55 : f 55 = _ := hF 0 55 (by kernel_rfl)
                  have f56 : f 56 = _ := hF 1 56 (by kernel_rfl)
                  have f57 : f 57 = _ := hF 2 57 (by kernel_rfl)
                  have f58 : f 58 = _ := hF 3 58 (by kernel_rfl)
                  have f59 : f 59 = _ := hF 4 59 (by kernel_rfl)
                  have f60 : f 60 = _ := hF 5 60 (by kernel_rfl)
                  have f61 : f 61 = _ := hF 6 61 (by kernel_rfl)
                  have f62 := hF 7 62 (by kernel_rfl)
                  have f63 := hF 8 63 (by kernel_rfl)
                  have f64 : f 64 = _ := hF 9 64 (by kernel_rfl)
                  have f65 := hF 10 65 (by kernel_rfl)
                  have f66 : f 66 = _ := hF 11 66 (by kernel_rfl)
                  have f67 : f 67 = _ := hF 12 67 (by kernel_rfl)
                  have f68 : f 68 = _ := hF 13 68 (by kernel_rfl)
                  simp only [setAllV, List.map_cons, List.map_nil, List.set_cons_succ, List.set_cons_zero, f55, f56, f57, f58, f59, f60, f61, f64, f66, f67, f68]
                  clear hF f55 f56 f57 f58 f59 f60 f61 f64 f66 f67 f68
                  generalize f 62 = v62 at *
                  generalize f 63 = v63 at *
                  generalize f 65 = v65 at *
                  have HE := Lib.hid hE
                  clear hE
                  go_wp2
                  go_roundw
                  case rel => exact HL3.out.below HE
                  case measure => simp [intOf]; omega
              · have g1 : decide (c ≥ 1) = false := by simp; omega
                clear hc
                go_wp2_with fail
                apply wp_region_vals (by kernel_rfl) Grw (Grw.drew _) [55, 56, 57, 58, 59, 60, 61, 62, 63, 64, 65, 66, 67, 68] [Is _, Is _, Is _, Is _, Is _, Is _, Is _, (fun v W => Rd byteE W v ((c :: r).drop fl)), (fun v W => Rd op4E W v ds), Is _, (fun v W => Rd op4E W v ds), Is _, Is _, Is _] (stb_cons (Stb.is) (stb_cons (Stb.is) (stb_cons (Stb.is) (stb_cons (Stb.is) (stb_cons (Stb.is) (stb_cons (Stb.is) (stb_cons (Stb.is) (stb_cons (Stb.rd) (stb_cons (Stb.rd) (stb_cons (Stb.is) (stb_cons (Stb.rd) (stb_cons (Stb.is) (stb_cons (Stb.is) (stb_cons (Stb.is) stb_nil)))))))))))))) (by kernel_rfl) (by kernel_rfl) (by kernel_rfl)
                · refine VSteps.cons (VStep.mk Grw.trans rfl rfl fun t V hout hE hdep K hK => ?_) ?_
                  · skip
                    have t8 : t[8]? = some _ := hout 8 (by kernel_rfl)
                    clear hout hdep
                    go_simp
                    exact hK.out _ _ (Grw.refl _) rfl
                  refine VSteps.cons (VStep.mk Grw.trans rfl rfl fun t V hout hE hdep K hK => ?_) ?_
                  · skip
                    have t6 : t[6]? = some _ := hout 6 (by kernel_rfl)
                    clear hout hdep
                    go_simp
                    exact hK.out _ _ (Grw.refl _) rfl
                  refine VSteps.cons (VStep.mk Grw.trans rfl rfl fun t V hout hE hdep K hK => ?_) ?_
                  · skip
                    have t56 := by_is (W := V) (hdep 1 56 (by kernel_rfl))
                    clear hout hdep
                    go_simp
                    exact hK.out _ _ (Grw.refl _) rfl
                  refine VSteps.cons (VStep.mk Grw.trans rfl rfl fun t V hout hE hdep K hK => ?_) ?_
                  · skip
                    have t55 := by_is (W := V) (hdep 0 55 (by kernel_rfl))
                    have t57 := by_is (W := V) (hdep 2 57 (by kernel_rfl))
                    clear hout hdep
                    go_simp
                    exact hK.out _ _ (Grw.refl _) rfl
                  refine VSteps.cons (VStep.mk Grw.trans rfl rfl fun t V hout hE hdep K hK => ?_) ?_
                  · skip
                    have t58 := by_is (W := V) (hdep 3 58 (by kernel_rfl))
                    clear hout hdep
                    go_simp
                    exact hK.out _ _ (Grw.refl _) rfl
                  refine VSteps.cons (VStep.mkG Grw.trans (dg := 59) rfl rfl (by kernel_rfl) (fun _ _ h => h) fun t V hout hE hdep K hK => ?_) ?_
                  · skip
                    have t6 : t[6]? = some _ := hout 6 (by kernel_rfl)
                    clear hout hdep
                    go_simp
                    exact hK.out _ _ (Grw.refl _) rfl
                  refine VSteps.cons (VStep.mkG Grw.trans (dg := 59) rfl rfl (by kernel_rfl) (fun _ _ h => h) fun t V hout hE hdep K hK => ?_) ?_
                  · skip
                    have t8 : t[8]? = some _ := hout 8 (by kernel_rfl)
                    clear hout hdep
                    go_simp
                    exact hK.out _ _ (Grw.refl _) rfl
                  refine VSteps.cons (VStep.mkG Grw.trans (dg := 59) rfl rfl (by kernel_rfl) (fun _ _ h => h) fun t V hout hE hdep K hK => ?_) ?_
                  · skip
                    have t60 := by_is (W := V) (hdep 5 60 (by kernel_rfl))
                    have t61 := by_is (W := V) (hdep 6 61 (by kernel_rfl))
                    clear hout hdep
                    have k1 : (fl : Int) ≤ (r.length : Int) + 1 := by omega
                    have k2 : (0 : Int) ≤ (fl : Int) := by omega
                    have k3 : (1 : Int) ≤ (r.length : Int) + 1 := by omega
                    go_simp
                    refine hK.out _ _ (Grw.refl _) ?_
                    change Rd byteE V _ ((c :: r).drop fl)
                    refine Rd.dropA' (xs := c :: r) (HRX3.out.below hE) ?_ ?_ ?_ ?_
                    · first | (simp; done) | (simp; omega)
                    · first | (simp; done) | (simp; omega)
                    · first | rfl | omega
                    · intro h; have h2 : fl < r.length + 1 := h; first | (exfalso; omega) | (rw [if_neg (by omega)]; simp [byteE, flat]; done) | (rw [if_neg (by omega)]; simp [byteE, flat]; omega) | (simp [byteE, flat]; omega)
                  refine VSteps.cons (VStep.mkG Grw.trans (dg := 59) rfl rfl (by kernel_rfl) (fun _ _ h => h) fun t V hout hE hdep K hK => ?_) ?_
                  · skip
                    obtain ⟨v62, t62, e62⟩ := hdep 7 62 (by kernel_rfl)
                    clear hout hdep
                    go_simp
                    refine (decode_any _ _ _ e62 (fun x hx => HXR.out x (List.mem_of_mem_drop hx))).mono ?_
                    rintro e W5 ⟨v5, rfl, ho5, hb5⟩
                    rw [List.take_of_length_le (by rw [List.length_drop, List.length_cons]; omega), HF.out.dr] at ho5
                    go_simp
                    exact hK.out _ _ hb5 ho5.rd
                  refine VSteps.cons (VStep.mkG Grw.trans (dg := 59) rfl rfl (by kernel_rfl) (fun _ _ h => h) fun t V hout hE hdep K hK => ?_) ?_
                  · skip
                    have t7 : t[7]? = some _ := hout 7 (by kernel_rfl)
                    clear hout hdep
                    go_simp
                    exact hK.out _ _ (Grw.refl _) rfl
                  refine VSteps.cons (VStep.mkG Grw.trans (dg := 59) rfl rfl (by kernel_rfl) (fun _ _ h => h) fun t V hout hE hdep K hK => ?_) ?_
                  · skip
                    have t64 := by_is (W := V) (hdep 9 64 (by kernel_rfl))
                    clear hout hdep
                    have k1 : (1 : Int) ≤ (ds.length : Int) + 1 := by omega
                    go_simp
                    refine hK.out _ _ (Grw.refl _) ?_
                    have hro := HO3.out.rd.below hE
                    rw [HF.out.dd] at hro
                    change Rd op4E V _ ((o :: ds).drop 1)
                    refine Rd.dropA' (xs := o :: ds) hro ?_ ?_ ?_ ?_
                    · simp
                    · simp
                    · first | rfl | omega
                    · intro h; have h2 : 1 < ds.length + 1 := h; rw [if_neg (by omega)]; simp [op4E, flat]
                  refine VSteps.cons (VStep.mkG Grw.trans (dg := 59) rfl rfl (by kernel_rfl) (fun _ _ h => h) fun t V hout hE hdep K hK => ?_) ?_
                  · skip
                    obtain ⟨v63, t63, e63⟩ := hdep 8 63 (by kernel_rfl)
                    obtain ⟨v65, t65, e65⟩ := hdep 10 65 (by kernel_rfl)
                    clear hout hdep
                    go_simp
                    refine (sameOps_true _ _ _ _ e63 e65).mono ?_
                    rintro e w6 ⟨rfl, n6, rfl⟩
                    go_simp
                    exact hK.out _ _ ⟨rfl, rfl, rfl, Nat.le_refl _, fun _ _ => rfl⟩ rfl
                  refine VSteps.cons (VStep.mkG Grw.trans (dg := 59) rfl rfl (by kernel_rfl) (fun _ _ h => h) fun t V hout hE hdep K hK => ?_) ?_
                  · skip
                    have t66 := by_is (W := V) (hdep 11 66 (by kernel_rfl))
                    clear hout hdep
                    go_simp
                    exact hK.out _ _ (Grw.refl _) rfl
                  refine VSteps.cons (VStep.mk Grw.trans rfl rfl fun t V hout hE hdep K hK => ?_) ?_
                  · skip
                    have t59 := by_is (W := V) (hdep 4 59 (by kernel_rfl))
                    have t67 := by_is (W := V) (hdep 12 67 (by kernel_rfl))
                    clear hout hdep
                    go_simp
                    exact hK.out _ _ (Grw.refl _) rfl
                  exact VSteps.nil (by decide)
                · intro f W hE hF
                  have f55 : f 55 = _ := hF 0 55 (by kernel_rfl)
                  have f56 : f 56 = _ := hF 1 56 (by kernel_rfl)
                  have f57 : f 57 = _ := hF 2 57 (by kernel_rfl)
                  have f58 : f 58 = _ := hF 3 58 (by kernel_rfl)
                  have f59 : f 59 = _ := hF 4 59 (by kernel_rfl)
                  have f60 : f 60 = _ := hF 5 60 (by kernel_rfl)
                  have f61 : f 61 = _ := hF 6 61 (by kernel_rfl)
                  have f62 := hF 7 62 (by kernel_rfl)
                  have f63 := hF 8 63 (by kernel_rfl)
                  have f64 : f 64 = _ := hF 9 64 (by kernel_rfl)
                  have f65 := hF 10 65 (by kernel_rfl)
                  have f66 : f 66 = _ := hF 11 66 (by kernel_rfl)
                  have f67 : f 67 = _ := hF 12 67 (by kernel_rfl)
                  have f68 : f 68 = _ := hF 13 68 (by kernel_rfl)
                  simp only [setAllV, List.map_cons, List.map_nil, List.set_cons_succ, List.set_cons_zero, f55, f56, f57, f58, f59, f60, f61, f64, f66, f67, f68]
                  clear hF f55 f56 f57 f58 f59 f60 f61 f64 f66 f67 f68
                  generalize f 62 = v62 at *
                  generalize f 63 = v63 at *
                  generalize f 65 = v65 at *
                  have HE := Lib.hid hE
                  clear hE
                  go_wp2
                  go_roundw
                  case rel => exact HL3.out.below HE
                  case measure => simp [intOf]; omega
          · have hcz : (o.c != 0) = true := by simpa using hc
            obtain ⟨hen, hoI⟩ := HF.out.en hc
            have HEN2 := Lib.hid hen
            have HOI := Lib.hid hoI
            clear hen hc hoI
            go_wp2_with fail
            refine (rencode_any _ [o] _ HR1.out (fun o' ho' => by rw [List.mem_singleton.1 ho']; exact HOI.out) (by simp)).mono ?_
            rintro e w4 ⟨r4, rfl, ho4, hb4⟩
            have hel : (enc [o]).length = fl := HEN2.out
            have HO4 := Lib.hid ho4
            obtain ⟨ea, ec, rfl⟩ := own_form ho4
            rw [hel]
            have HB4 := Lib.hid hb4
            clear hb4 ho4
            go_wp2_with fail
            apply wp_region_vals (by kernel_rfl) Grw (Grw.drew _) [55, 56, 57, 58, 59, 60, 61, 62, 63, 64, 65, 66, 67, 68] [Is _, Is _, Is _, Is _, Is _, Is _, Is _, (fun v W => Rd byteE W v ((c :: r).drop fl)), (fun v W => Rd op4E W v ds), Is _, (fun v W => Rd op4E W v ds), Is _, Is _, Is _] (stb_cons (Stb.is) (stb_cons (Stb.is) (stb_cons (Stb.is) (stb_cons (Stb.is) (stb_cons (Stb.is) (stb_cons (Stb.is) (stb_cons (Stb.is) (stb_cons (Stb.rd) (stb_cons (Stb.rd) (stb_cons (Stb.is) (stb_cons (Stb.rd) (stb_cons (Stb.is) (stb_cons (Stb.is) (stb_cons (Stb.is) stb_nil)))))))))))))) (by kernel_rfl) (by kernel_rfl) (by kernel_rfl)
            · refine VSteps.cons (VStep.mk Grw.trans rfl rfl fun t V hout hE hdep K hK => ?_) ?_
              · skip
                have t8 : t[8]? = some _ := hout 8 (by kernel_rfl)
                clear hout hdep
                go_simp
                exact hK.out _ _ (Grw.refl _) rfl
              refine VSteps.cons (VStep.mk Grw.trans rfl rfl fun t V hout hE hdep K hK => ?_) ?_
              · skip
                have t6 : t[6]? = some _ := hout 6 (by kernel_rfl)
                clear hout hdep
                go_simp
                exact hK.out _ _ (Grw.refl _) rfl
              refine VSteps.cons (VStep.mk Grw.trans rfl rfl fun t V hout hE hdep K hK => ?_) ?_
              · skip
                have t56 := by_is (W := V) (hdep 1 56 (by kernel_rfl))
                clear hout hdep
                go_simp
                exact hK.out _ _ (Grw.refl _) rfl
              refine VSteps.cons (VStep.mk Grw.trans rfl rfl fun t V hout hE hdep K hK => ?_) ?_
              · skip
                have t55 := by_is (W := V) (hdep 0 55 (by kernel_rfl))
                have t57 := by_is (W := V) (hdep 2 57 (by kernel_rfl))
                clear hout hdep
                go_simp
                exact hK.out _ _ (Grw.refl _) rfl
              refine VSteps.cons (VStep.mk Grw.trans rfl rfl fun t V hout hE hdep K hK => ?_) ?_
              · skip
                have t58 := by_is (W := V) (hdep 3 58 (by kernel_rfl))
                clear hout hdep
                go_simp
                exact hK.out _ _ (Grw.refl _) rfl
              refine VSteps.cons (VStep.mkG Grw.trans (dg := 59) rfl rfl (by kernel_rfl) (fun _ _ h => h) fun t V hout hE hdep K hK => ?_) ?_
              · skip
                have t6 : t[6]? = some _ := hout 6 (by kernel_rfl)
                clear hout hdep
                go_simp
                exact hK.out _ _ (Grw.refl _) rfl
              refine VSteps.cons (VStep.mkG Grw.trans (dg := 59) rfl rfl (by kernel_rfl) (fun _ _ h => h) fun t V hout hE hdep K hK => ?_) ?_
              · skip
                have t8 : t[8]? = some _ := hout 8 (by kernel_rfl)
                clear hout hdep
                go_simp
                exact hK.out _ _ (Grw.refl _) rfl
              refine VSteps.cons (VStep.mkG Grw.trans (dg := 59) rfl rfl (by kernel_rfl) (fun _ _ h => h) fun t V hout hE hdep K hK => ?_) ?_
              · skip
                have t60 := by_is (W := V) (hdep 5 60 (by kernel_rfl))
                have t61 := by_is (W := V) (hdep 6 61 (by kernel_rfl))
                clear hout hdep
                have k1 : (fl : Int) ≤ (r.length : Int) + 1 := by omega
                have k2 : (0 : Int) ≤ (fl : Int) := by omega
                have k3 : (1 : Int) ≤ (r.length : Int) + 1 := by omega
                go_simp
                refine hK.out _ _ (Grw.refl _) ?_
                change Rd byteE V _ ((c :: r).drop fl)
                refine Rd.dropA' (xs := c :: r) ((HRX3.out.below HB4.out).below hE) ?_ ?_ ?_ ?_
                · first | (simp; done) | (simp; omega)
                · first | (simp; done) | (simp; omega)
                · first | rfl | omega
                · intro h; have h2 : fl < r.length + 1 := h; first | (exfalso; omega) | (rw [if_neg (by omega)]; simp [byteE, flat]; done) | (rw [if_neg (by omega)]; simp [byteE, flat]; omega) | (simp [byteE, flat]; omega)
              refine VSteps.cons (VStep.mkG Grw.trans (dg := 59) rfl rfl (by kernel_rfl) (fun _ _ h => h) fun t V hout hE hdep K hK => ?_) ?_
              · skip
                obtain ⟨v62, t62, e62⟩ := hdep 7 62 (by kernel_rfl)
                clear hout hdep
                go_simp
                refine (decode_any _ _ _ e62 (fun x hx => HXR.out x (List.mem_of_mem_drop hx))).mono ?_
                rintro e W5 ⟨v5, rfl, ho5, hb5⟩
                rw [List.take_of_length_le (by rw [List.length_drop, List.length_cons]; omega), HF.out.dr] at ho5
                go_simp
                exact hK.out _ _ hb5 ho5.rd
              refine VSteps.cons (VStep.mkG Grw.trans (dg := 59) rfl rfl (by kernel_rfl) (fun _ _ h => h) fun t V hout hE hdep K hK => ?_) ?_
              · skip
                have t7 : t[7]? = some _ := hout 7 (by kernel_rfl)
                clear hout hdep
                go_simp
                exact hK.out _ _ (Grw.refl _) rfl
              refine VSteps.cons (VStep.mkG Grw.trans (dg := 59) rfl rfl (by kernel_rfl) (fun _ _ h => h) fun t V hout hE hdep K hK => ?_) ?_
              · skip
                have t64 := by_is (W := V) (hdep 9 64 (by kernel_rfl))
                clear hout hdep
                have k1 : (1 : Int) ≤ (ds.length : Int) + 1 := by omega
                go_simp
                refine hK.out _ _ (Grw.refl _) ?_
                have hro := (HO3.out.rd.below HB4.out).below hE
                rw [HF.out.dd] at hro
                change Rd op4E V _ ((o :: ds).drop 1)
                refine Rd.dropA' (xs := o :: ds) hro ?_ ?_ ?_ ?_
                · simp
                · simp
                · first | rfl | omega
                · intro h; have h2 : 1 < ds.length + 1 := h; rw [if_neg (by omega)]; simp [op4E, flat]
              refine VSteps.cons (VStep.mkG Grw.trans (dg := 59) rfl rfl (by kernel_rfl) (fun _ _ h => h) fun t V hout hE hdep K hK => ?_) ?_
              · skip
                obtain ⟨v63, t63, e63⟩ := hdep 8 63 (by kernel_rfl)
                obtain ⟨v65, t65, e65⟩ := hdep 10 65 (by kernel_rfl)
                clear hout hdep
                go_simp
                refine (sameOps_true _ _ _ _ e63 e65).mono ?_
                rintro e w6 ⟨rfl, n6, rfl⟩
                go_simp
                exact hK.out _ _ ⟨rfl, rfl, rfl, Nat.le_refl _, fun _ _ => rfl⟩ rfl
              refine VSteps.cons (VStep.mkG Grw.trans (dg := 59) rfl rfl (by kernel_rfl) (fun _ _ h => h) fun t V hout hE hdep K hK => ?_) ?_
              · skip
                have t66 := by_is (W := V) (hdep 11 66 (by kernel_rfl))
                clear hout hdep
                go_simp
                exact hK.out _ _ (Grw.refl _) rfl
              refine VSteps.cons (VStep.mk Grw.trans rfl rfl fun t V hout hE hdep K hK => ?_) ?_
              · skip
                have t59 := by_is (W := V) (hdep 4 59 (by kernel_rfl))
                have t67 := by_is (W := V) (hdep 12 67 (by kernel_rfl))
                clear hout hdep
                go_simp
                exact hK.out _ _ (Grw.refl _) rfl
              exact VSteps.nil (by decide)
            · intro f W hE hF
              have f55 : f 55 = _ := hF 0 55 (by kernel_rfl)
              have f56 : f 56 = _ := hF 1 56 (by kernel_rfl)
              have f57 : f 57 = _ := hF 2 57 (by kernel_rfl)
              have f58 : f 58 = _ := hF 3 58 (by kernel_rfl)
              have f59 : f 59 = _ := hF 4 59 (by kernel_rfl)
              have f60 : f 60 = _ := hF 5 60 (by kernel_rfl)
              have f61 : f 61 = _ := hF 6 61 (by kernel_rfl)
              have f62 := hF 7 62 (by kernel_rfl)
              have f63 := hF 8 63 (by kernel_rfl)
              have f64 : f 64 = _ := hF 9 64 (by kernel_rfl)
              have f65 := hF 10 65 (by kernel_rfl)
              have f66 : f 66 = _ := hF 11 66 (by kernel_rfl)
              have f67 : f 67 = _ := hF 12 67 (by kernel_rfl)
              have f68 : f 68 = _ := hF 13 68 (by kernel_rfl)
              simp only [setAllV, List.map_cons, List.map_nil, List.set_cons_succ, List.set_cons_zero, f55, f56, f57, f58, f59, f60, f61, f64, f66, f67, f68]
              clear hF f55 f56 f57 f58 f59 f60 f61 f64 f66 f67 f68
              generalize f 62 = v62 at *
              generalize f 63 = v63 at *
              generalize f 65 = v65 at *
              have HE := Lib.hid (Grw.trans _ _ _ HB4.out hE)
              clear hE
              go_wp2
              go_roundw
              case rel => exact HL3.out.below HE
              case measure => simp [intOf]; omega
      · go_wp2_with (first | (go_at_call 11; refine (awake_any _).mono ?_; rintro e w' ⟨rfl, hb'⟩))
        go_ret
        exact ⟨rfl, hbel.trans (hb'.mono hbel.size)⟩
end Go.Proofs.Ytadoehlhfccacaa
