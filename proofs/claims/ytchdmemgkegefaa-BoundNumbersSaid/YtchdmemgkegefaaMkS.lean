/- The maker's shares: a share that is permitted. Condition: a deck in memory. -/
import Derived.Test.YtchdmemgkegefaaPre
import Derived.Test.YtchdmemgkegefaaBas4
namespace Go.Proofs.Ytchdmemgkegefaa
open Go.RowKit
set_option linter.unusedVariables false

/-- a world behind a call's entry: the deck, and what may have changed -/
structure DkW (w : World) (B g : Nat) (W : World) : Prop where
  deck : Deck B W g
  gr : w.grownBy W (some g)
theorem DkW.lt {w : World} {B g : Nat} {W : World} (h : DkW w B g W) : g < W.heap.size := h.deck.lt
theorem DkW.below {w : World} {B g : Nat} {W W' : World} (h : DkW w B g W) (hb : Below W.heap.size W W') : DkW w B g W' := ⟨h.deck.below hb h.lt, grown_below h.gr (hb.mono h.gr.size)⟩
theorem DkW.alloc {w : World} {B g : Nat} {W : World} (h : DkW w B g W) (o : Obj) : DkW w B g (W.alloc o) := h.below ((Below.refl _ _).alloc (Nat.le_refl _) _)
theorem DkW.next {w : World} {B g : Nat} {W W' : World} (h : DkW w B g W) (hd : Deck B W' g) (hg : W.grownBy W' (some g)) : DkW w B g W' := ⟨hd, grown_trans h.gr hg⟩
theorem DkW.set {w : World} {B g b o : Nat} {W : World} (h : DkW w B g W) (hb : w.heap.size ≤ b) (hg : b ≠ g) (hB : B ≤ w.heap.size) (v : Value) : DkW w B g (W.setCell ⟨b, o, none⟩ v) :=
  ⟨h.deck.keep (fun k hk => setCell_other v (by omega)) (setCell_other v (Ne.symm hg)), ⟨h.gr.os, h.gr.tape, h.gr.output, by rw [setCell_size]; exact h.gr.size, fun k hk hkr => by rw [setCell_other v (by omega)]; exact h.gr.block k hk hkr⟩⟩

theorem five : ([4602678819172646912, 4593671619917905920, 4607182418800017408, 4599676419421066581, 4562254508917369340] : List Nat).all (fun x => (FloatKind.f64.format.order x 0 == some Ordering.gt) && (FloatKind.f64.format.order x 4607182418800017408 == some Ordering.lt || FloatKind.f64.format.order x 4607182418800017408 == some Ordering.eq)) = true := by decide +kernel
theorem share5 {x : Nat} (h : x ∈ ([4602678819172646912, 4593671619917905920, 4607182418800017408, 4599676419421066581, 4562254508917369340] : List Nat)) : shareB x = true := by
  have := List.all_eq_true.1 five x h
  unfold shareB
  rw [this]
  simp

set_option maxRecDepth 100000 in
set_option maxHeartbeats 4000000 in
theorem share_any (B g : Nat) (w : World) (hd : Deck B w g) (hB : B ≤ w.heap.size) : Calls Try.prog 44 #[.pointer (some ⟨g, 0, none⟩)] w fun e w' => ∃ x : Nat, e = .returned (.float .f64 x) ∧ shareB x = true ∧ DkW w B g w' := by
  have HD := Lib.hid hd
  clear hd
  go_enter Try.func44, Try.ntmps44
  go_wp2_with fail
  refine (next_any _ _ 4 _ HD.out (by omega) (by omega)).mono ?_
  rintro e w1 ⟨r1, h10, h11, rfl, hd1, hg1⟩
  have HS : Hid (DkW w B g w1) := Lib.hid ⟨hd1, hg1⟩
  have hs1 := hg1.size
  clear hd1 hg1
  by_cases hr : r1 = 0
  · subst hr
    go_wp2_with fail
    have hq := (HS.out.alloc (.cells #[.float .f64 4602678819172646912, .float .f64 4593671619917905920, .float .f64 4607182418800017408, .float .f64 4599676419421066581, .float .f64 4562254508917369340] 65))
    have HQ := Lib.hid hq
    clear hq
    refine (next_any _ _ 5 _ HQ.out.deck (by omega) (by omega)).mono ?_
    rintro e w2 ⟨r2, h20, h21, rfl, hd2, hg2⟩
    obtain ⟨j, rfl⟩ := Int.eq_ofNat_of_zero_le h20
    have hgl := HS.out.lt
    have hbk := grown_block hg2 (heap_alloc_new w1 _) (by intro e; injection e with e; omega)
    have hlt2 := block_lt hbk
    obtain ⟨x, hx, hc⟩ : ∃ x, shareB x = true ∧ w2.cell? ⟨w1.heap.size, j, none⟩ = some (.float .f64 x) := by
      have hj : j = 0 ∨ j = 1 ∨ j = 2 ∨ j = 3 ∨ j = 4 := by omega
      rcases hj with rfl | rfl | rfl | rfl | rfl
      · exact ⟨_, share5 (x := 4602678819172646912) (by simp), by rw [cell_block hbk]; rfl⟩
      · exact ⟨_, share5 (x := 4593671619917905920) (by simp), by rw [cell_block hbk]; rfl⟩
      · exact ⟨_, share5 (x := 4607182418800017408) (by simp), by rw [cell_block hbk]; rfl⟩
      · exact ⟨_, share5 (x := 4599676419421066581) (by simp), by rw [cell_block hbk]; rfl⟩
      · exact ⟨_, share5 (x := 4562254508917369340) (by simp), by rw [cell_block hbk]; rfl⟩
    have H2 : Hid (DkW w B g w2) := Lib.hid (HQ.out.next hd2 hg2)
    have HX := Lib.hid hx
    clear hbk hd2 hg2 hx
    go_wp2
    go_ret
    exact ⟨x, rfl, HX.out, H2.out⟩
  · have hz : (r1 == 0) = false := by simpa using hr
    clear hr
    go_wp2_with fail
    refine (next_any _ _ 100 _ HS.out.deck (by omega) (by omega)).mono ?_
    rintro e w2 ⟨r2, h20, h21, rfl, hd2, hg2⟩
    have H2 : Hid (DkW w B g w2) := Lib.hid (HS.out.next hd2 hg2)
    have hw : IntKind.i64.wrap (1 + r2) = 1 + r2 := IntWalk.i64_in _ (by omega)
    clear hd2 hg2
    go_wp2_with fail
    refine (percent_any (1 + r2) _ (by omega) (by omega)).mono ?_
    rintro e w3 ⟨⟨x, rfl, hx, _⟩, rfl⟩
    have HX := Lib.hid hx
    clear hx
    go_wp2
    go_ret
    exact ⟨x, rfl, HX.out, H2.out⟩
end Go.Proofs.Ytchdmemgkegefaa
