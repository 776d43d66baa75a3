/- The walk of the law on scripts that are read back. -/
import Derived.Test.YtadoehlhfccacaaConv
import Derived.Test.YtadoehlhfccacaaOp
import Derived.Test.YtadoehlhfccacaaScrL
import Derived.Test.YtadoehlhfccacaaIsRow
import Derived.StillTailTactics
namespace Go.Proofs.Ytadoehlhfccacaa
open Go.RowKit

/-- what holds at the head of a round that draws operations -/
def RBack (B g : Nat) (w : World) (v i : Value) (wr : World) : Prop :=
  ∃ (k : Nat) (xs : List Op4), i = .int .i64 k ∧ xs.length + k ≤ 30 ∧ Own op4E wr B 35 v xs ∧ (∀ o ∈ xs, OpOk' o ∧ o.c ≠ 0) ∧ Deck B wr g ∧ Below B w wr

set_option maxRecDepth 100000 in
set_option maxHeartbeats 2000000 in
theorem scriptBack_walk (w : World) (u : Value) (l : List Int) (hu : Rd i64E w u l) (hl : ∀ x ∈ l, I64 x) (v : Value) (bs : List Int) (hv : Rd byteE w v bs) (hb : ∀ x ∈ bs, 0 ≤ x ∧ x ≤ 255) :
    Calls Try.prog 6 #[u, v] w fun e w' => e = .returned (.bool true) ∧ Below w.heap.size w w' := by
  have HU := Lib.hid hu
  have HV := Lib.hid hv
  have HL := Lib.hid hl
  have HB := Lib.hid hb
  clear hu hl hb
  obtain ⟨a2, c2, rfl, hc1, hc2, hvc⟩ := hv.flat
  unfold maxLen at hc2
  by_cases hlen : 900 < bs.length
  · have hd : decide ((900 : Int) < bs.length) = true := by simp; omega
    go_enter Try.func6, Try.ntmps6
    go_wp2_with (first | (go_at_call 11; refine (awake_any _).mono ?_; rintro e w' ⟨rfl, hb'⟩))
    go_ret
    exact ⟨rfl, hb'⟩
  · have hle : bs.length ≤ 900 := by omega
    have hd : decide ((900 : Int) < bs.length) = false := by simp; omega
    go_enter Try.func6, Try.ntmps6
    go_wp2_with fail
    refine (new_any _ l _ HU.out HL.out).mono ?_
    rintro e w1 ⟨g, rfl, hdk, hb1⟩
    have HD1 := Lib.hid hdk
    have HB1 := Lib.hid hb1
    clear hdk hb1
    go_wp2_with fail
    refine (next_any _ _ 30 _ HD1.out (by omega) (by omega)).mono ?_
    rintro e w2 ⟨k0, hk0, hk1, rfl, hdk2, hg2⟩
    obtain ⟨k, rfl⟩ := Int.eq_ofNat_of_zero_le hk0
    have hB2 : Below w.heap.size w w2 := HB1.out.grown hg2 HB1.out.size (fun q hq => by injection hq with hq; have := HD1.out.1; omega)
    have HD2 := Lib.hid hdk2
    clear hdk2 hg2
    go_wp2_with fail
    go_loopw [6, 7] (fun v i wr => RBack w.heap.size g w v i wr) (fun _ i _ => (intOf i).toNat)
    case atStart => exact ⟨k, [], rfl, by simp; omega, Own.nil _ _ _ _, by simp, HD2.out, hB2⟩
    case round =>
      obtain ⟨q, xs, rfl, hql, hown, hok, hdk, hbel⟩ := hrel
      have HO := Lib.hid hown
      have HK := Lib.hid hok
      have HDK := Lib.hid hdk
      clear hown hok hdk hB2
      by_cases hq : 0 < q
      · obtain ⟨p, rfl⟩ : ∃ p, q = p + 1 := ⟨q - 1, by omega⟩
        clear hq
        go_wp2_with fail
        refine (op_none _ _ _ HDK.out).mono ?_
        rintro e w3 ⟨o, rfl, hoo, hdk3, hg3⟩
        have ho3 : Own op4E w3 w.heap.size 35 u6 xs := by
          obtain ⟨_, _, _, _, hblk, _⟩ := HDK.out
          exact HO.out.kept hg3 (Or.inr (Ne.symm (HO.out.ne_block hblk (by decide)))) (fun _ _ h => h)
        have hB3 : Below w.heap.size w w3 := hbel.grown hg3 hbel.size (fun q hq => by injection hq with hq; have := HDK.out.1; omega)
        have HOO := Lib.hid hoo
        have HD3 := Lib.hid hdk3
        have hs3 := hB3.size
        clear hoo hdk3 hg3
        by_cases hc : o.c = 0
        · have hcz : (o.c != 0) = false := by simp [hc]
          have HC := Lib.hid hc; clear hc
          go_wp2
          go_roundw
          case rel => exact ⟨p, xs, by go_num, by omega, ho3.alloc _, HK.out, HD3.out.below (C := w3.heap.size) ((Below.refl _ _).alloc (Nat.le_refl _) _) HD3.out.lt, hB3.alloc hs3 _⟩
          case measure => simp [intOf]
        · have hcz : (o.c != 0) = true := by simp [hc]
          have HC := Lib.hid hc; clear hc
          go_wp2_with (at_builtin; go_must (refine wpList_append_lit op4E opS rfl _ _ rfl w.heap.size _ xs rfl (ho3.alloc _) o _ _ rfl ?_ rfl ?_ ?_ ?_ ?_ (fun _ _ _ _ h => h) ?_))
          · simp
          · simp [Value.oneCell']
          · omega
          · unfold maxLen; omega
          · exact Nat.le_trans hs3 (by simp)
          · intro v4 w4 ho4 hg4 hbb4
            have e4 : Below w.heap.size w w4 := hB3.trans (Below.trans ((Below.refl _ _).alloc hs3 _) hbb4)
            have hdk4 : Deck w.heap.size w4 g := by
              have hd3 := HD3.out
              obtain ⟨_, _, _, _, hblk, _⟩ := HD3.out
              have hblk4 := grown_block hg4 (alloc_block (alloc_block hblk)) (ho3.ne_block hblk (by decide))
              exact hd3.keep (fun k hk => by rw [e4.block k hk, hB3.block k hk]) (by rw [hblk4, hblk])
            clear hg4 hbb4 ho3
            go_wp2
            go_roundw
            case rel =>
              refine ⟨p, xs ++ [o], by go_num, by simp; omega, ho4, ?_, hdk4, e4⟩
              intro o' ho'
              rcases List.mem_append.1 ho' with h | h
              · exact HK.out o' h
              · rw [List.mem_singleton.1 h]; exact ⟨HOO.out, HC.out⟩
            case measure => simp [intOf]
      · have hq0 : q = 0 := by omega
        have hxl : xs.length ≤ 30 := by omega
        subst hq0
        clear hq
        have hrd := HO.out.rd
        have HR := Lib.hid hrd; clear hrd
        go_wp2_with fail
        refine (encode_any _ xs _ HR.out ?_ (by omega)).mono ?_
        · intro o ho
          have h := (HK.out o ho).1
          obtain ⟨h1, h2, h3, h4, _⟩ := h
          exact ⟨by omega, by omega, by omega, by omega⟩
        rintro e w4 ⟨r4, rfl, ho4, hb4⟩
        have HR4 := Lib.hid ho4.rd
        have HRx := Lib.hid (HR.out.below hb4)
        have e4 : Below w.heap.size w w4 := hbel.trans (hb4.mono hbel.size)
        clear ho4 hb4
        go_wp2_with fail
        refine (decode_any _ (enc xs) _ HR4.out (enc_range xs)).mono ?_
        rintro e w5 ⟨r5, rfl, ho5, hb5⟩
        have hel := enc_length xs
        rw [List.take_of_length_le (by omega), dec_enc xs HK.out] at ho5
        have HR5 := Lib.hid ho5.rd
        have HRy := Lib.hid (HRx.out.below hb5)
        have e5 : Below w.heap.size w w5 := e4.trans (hb5.mono e4.size)
        clear ho5 hb5
        go_wp2_with fail
        refine (sameOps_true _ _ _ _ HR5.out HRy.out).mono ?_
        rintro e w6 ⟨rfl, n6, rfl⟩
        go_wp2_with fail
        have e6 : Below w.heap.size w (w5.drewN n6) := e5.trans ⟨rfl, rfl, rfl, Nat.le_refl _, fun _ _ => rfl⟩
        refine (decode_any _ bs _ (HV.out.below e6) HB.out).mono ?_
        rintro e w7 ⟨r7, rfl, ho7, hb7⟩
        have e7 : Below w.heap.size w w7 := e6.trans (hb7.mono e6.size)
        rw [List.take_of_length_le (by omega)] at ho7
        have hr7 := ho7.rd
        have HR7 := Lib.hid hr7
        clear ho7 hb7 e6 e5 e4
        obtain ⟨a7, c7, rfl, hq1, hq2, hr7⟩ := hr7.flat
        unfold maxLen at hq2
        have hdl := dec_length bs
        go_wp2_with fail
        go_loopw [10] (fun i wr => ∃ n : Nat, n ≤ (dec bs).length ∧ i = .int .i64 n ∧ (∀ j (h : j < (dec bs).length), j < n → (dec bs)[j].c ≠ 0) ∧ wr = w7) (fun i _ => (dec bs).length - (intOf i).toNat)
        case atStart => exact ⟨0, Nat.zero_le _, rfl, fun j h h' => absurd h' (Nat.not_lt_zero _), rfl⟩
        case round =>
          obtain ⟨n, hn, rfl, hnz, rfl⟩ := hrel
          have HN := Lib.hid hnz; clear hnz
          by_cases hlt : n < (dec bs).length
          · rcases hr7 with hr7 | ⟨b7, o7, rfl, _, hr7⟩
            · simp [hr7] at hlt
            have x0 := hr7 n hlt 0 (by omega)
            simp [Op4.cells] at x0
            clear hr7
            by_cases hc : (dec bs)[n].c = 0
            · have hcz : ((dec bs)[n].c != 0) = false := by simp [hc]
              clear hc
              go_wp2_with fail
              have hrt := Rd.take HR7.out hn
              obtain ⟨rest, hrest⟩ := enc_dec_take n bs HB.out hn HN.out
              have hlt' : ((dec bs).take n).length ≤ 900 := by rw [List.length_take]; omega
              refine (encode_any _ ((dec bs).take n) _ hrt (fun o ho => dec_range bs HB.out o (List.mem_of_mem_take ho)) (by omega)).mono ?_
              rintro e w8 ⟨r8, rfl, ho8, hb8⟩
              have e8 : Below w.heap.size w w8 := e7.trans (hb8.mono e7.size)
              generalize enc ((dec bs).take n) = ys at ho8 hrest
              have hr8 := ho8.rd
              have hyl : ys.length ≤ bs.length := by rw [hrest]; simp
              have hbt : bs.take ys.length = ys := by rw [hrest]; simp
              have hv8 := Rd.take (HV.out.below e8) hyl
              rw [hbt] at hv8
              have H8 := Lib.hid hr8
              obtain ⟨a8, c8, rfl, _, _, _⟩ := hr8
              have cv1 := conv_bytes (P := Try.prog) (src := 22) (dst := 9) Try.underlying22 Try.underlying5 Try.underlying9 w8.drew _ _ _ ys (H8.out.keep (w' := w8.drew) fun _ _ => rfl)
              have cv2 := conv_bytes (P := Try.prog) (src := 22) (dst := 9) Try.underlying22 Try.underlying5 Try.underlying9 w8.drew _ _ _ ys (hv8.keep (w' := w8.drew) fun _ _ => rfl)
              have hy2 : ys.length ≤ c2 := by omega
              have hle1 : decide ((ys.length : Int) ≤ bs.length) = true := by simp; omega
              clear hrest hbt hv8 ho8 hb8 hrt hlt'
              go_wp2_with fail
              refine wp_region_still_tail 16 (by kernel_rfl) (by kernel_rfl) ?_
              simp only [List.take_succ_cons, List.take_zero, List.drop_succ_cons, List.drop_zero]
              change wpStill _ _ (World.drew _) _ _ _
              repeat still_step
              refine wpStill_nil ?_
              change wpList _ _ _ _ _ (World.drew _)
              go_wp2_with (first | (go_at_call 11; refine (awake_any _).mono ?_; rintro e w9 ⟨rfl, hb9⟩))
              go_ret
              exact ⟨rfl, e8.trans (Below.trans (b := w8.drew) ((Below.refl _ _).drew) (hb9.mono e8.size))⟩
            · have hcz : ((dec bs)[n].c != 0) = true := by simp [hc]
              have HC := Lib.hid hc; clear hc
              go_wp2
              go_roundw
              case rel =>
                refine ⟨n + 1, hlt, by go_num, fun j h hj => ?_, by first | rfl | trivial⟩
                by_cases e : j = n
                · subst e; exact HC.out
                · exact HN.out j h (by omega)
              case measure => simp [intOf]; omega
          · go_wp2_with fail
            have hrt := Rd.take HR7.out hn
            obtain ⟨rest, hrest⟩ := enc_dec_take n bs HB.out hn HN.out
            have hlt' : ((dec bs).take n).length ≤ 900 := by rw [List.length_take]; omega
            refine (encode_any _ ((dec bs).take n) _ hrt (fun o ho => dec_range bs HB.out o (List.mem_of_mem_take ho)) (by omega)).mono ?_
            rintro e w8 ⟨r8, rfl, ho8, hb8⟩
            have e8 : Below w.heap.size w w8 := e7.trans (hb8.mono e7.size)
            generalize enc ((dec bs).take n) = ys at ho8 hrest
            have hr8 := ho8.rd
            have hyl : ys.length ≤ bs.length := by rw [hrest]; simp
            have hbt : bs.take ys.length = ys := by rw [hrest]; simp
            have hv8 := Rd.take (HV.out.below e8) hyl
            rw [hbt] at hv8
            have H8 := Lib.hid hr8
            obtain ⟨a8, c8, rfl, _, _, _⟩ := hr8
            have cv1 := conv_bytes (P := Try.prog) (src := 22) (dst := 9) Try.underlying22 Try.underlying5 Try.underlying9 w8.drew _ _ _ ys (H8.out.keep (w' := w8.drew) fun _ _ => rfl)
            have cv2 := conv_bytes (P := Try.prog) (src := 22) (dst := 9) Try.underlying22 Try.underlying5 Try.underlying9 w8.drew _ _ _ ys (hv8.keep (w' := w8.drew) fun _ _ => rfl)
            have hy2 : ys.length ≤ c2 := by omega
            have hle1 : decide ((ys.length : Int) ≤ bs.length) = true := by simp; omega
            clear hrest hbt hv8 ho8 hb8 hrt hlt'
            go_wp2_with fail
            refine wp_region_still_tail 16 (by kernel_rfl) (by kernel_rfl) ?_
            simp only [List.take_succ_cons, List.take_zero, List.drop_succ_cons, List.drop_zero]
            change wpStill _ _ (World.drew _) _ _ _
            repeat still_step
            refine wpStill_nil ?_
            change wpList _ _ _ _ _ (World.drew _)
            go_wp2_with (first | (go_at_call 11; refine (awake_any _).mono ?_; rintro e w9 ⟨rfl, hb9⟩))
            go_ret
            exact ⟨rfl, e8.trans (Below.trans (b := w8.drew) ((Below.refl _ _).drew) (hb9.mono e8.size))⟩
end Go.Proofs.Ytadoehlhfccacaa
