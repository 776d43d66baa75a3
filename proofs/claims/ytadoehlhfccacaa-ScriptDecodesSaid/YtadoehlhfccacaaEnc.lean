/- Encoding operations: the program and the reference. -/
import Derived.Test.YtadoehlhfccacaaScrR
import Derived.Test.YtadoehlhfccacaaBas4
namespace Go.Proofs.Ytadoehlhfccacaa
open Go.RowKit

theorem byteS : SlT Try.prog 22 5 1 1 (.int .u8 0) := ⟨Try.underlying22, by kernel_rfl, rfl, by decide⟩

def encOp (o : Op4) : List Int := if opn o.c < 0 then [0] else (o.c % 256) :: (([o.x, o.y, o.z].take (opn o.c).toNat).map (· % 256))
def enc : List Op4 → List Int
  | [] => []
  | o :: r => encOp o ++ enc r
theorem encOp_length (o : Op4) : (encOp o).length ≤ 4 := by
  have := opn_bd o.c
  unfold encOp
  split
  · simp
  · simp; omega
theorem enc_append (l r : List Op4) : enc (l ++ r) = enc l ++ enc r := by
  induction l with
  | nil => rfl
  | cons o l ih => simp [enc, ih]
theorem enc_length (l : List Op4) : (enc l).length ≤ 4 * l.length := by
  induction l with
  | nil => simp [enc]
  | cons o l ih => have := encOp_length o; simp [enc]; omega
theorem enc_take_succ {l : List Op4} {k : Nat} (h : k < l.length) : enc (l.take (k + 1)) = enc (l.take k) ++ encOp l[k] := by
  rw [List.take_succ_eq_append_getElem h, enc_append]; simp [enc]
theorem enc_take_length {l : List Op4} (k : Nat) : (enc (l.take k)).length ≤ 4 * l.length := by
  have := enc_length (l.take k)
  rw [List.length_take] at this
  omega
def Op4.I (o : Op4) : Prop := (-9223372036854775808 ≤ o.c ∧ o.c ≤ 9223372036854775807) ∧ (-9223372036854775808 ≤ o.x ∧ o.x ≤ 9223372036854775807) ∧ (-9223372036854775808 ≤ o.y ∧ o.y ≤ 9223372036854775807) ∧ -9223372036854775808 ≤ o.z ∧ o.z ≤ 9223372036854775807
theorem encOp_neg {o : Op4} (h : opn o.c < 0) : encOp o = [0] := by unfold encOp; rw [if_pos h]
theorem encOp_at {o : Op4} {m : Nat} (h : opn o.c = m) : encOp o = (o.c % 256) :: (([o.x, o.y, o.z].take m).map (· % 256)) := by
  unfold encOp; rw [if_neg (by omega), h]; rfl

/-- what holds at the head of a round of Encode -/
def REnc (l : List Op4) (B : Nat) (w : World) (i o : Value) (wr : World) : Prop :=
  ∃ k : Nat, k ≤ l.length ∧ i = .int .i64 k ∧ Own byteE wr B 5 o (enc (l.take k)) ∧ Below B w wr

set_option maxRecDepth 100000 in
set_option maxHeartbeats 4000000 in
theorem encode_any (v : Value) (l : List Op4) (w : World) (hv : Rd op4E w v l) (hi : ∀ o ∈ l, o.I) (hl : l.length ≤ 1000000) :
    Calls Try.prog 16 #[v] w fun e w' => ∃ r, e = .returned r ∧ Own byteE w' w.heap.size 5 r (enc l) ∧ Below w.heap.size w w' := by
  obtain ⟨a1, c1, rfl, hl1, hl2, hv⟩ := hv.flat
  unfold maxLen at hl2
  go_enter Try.func16, Try.ntmps16
  go_wp2
  go_loopw [11, 3] (fun i o wr => REnc l w.heap.size w i o wr) (fun i _ _ => l.length - (intOf i).toNat)
  case atStart => exact ⟨0, Nat.zero_le _, rfl, Own.nil _ _ _ _, Below.refl _ _⟩
  case round =>
    obtain ⟨k, hk, rfl, hown, hbel⟩ := hrel
    by_cases hlt : k < l.length
    · rcases hv with hv | ⟨b1, o1, rfl, hb, hv⟩
      · simp [hv] at hlt
      have hbw := hb (by omega)
      have ha1 : w.heap.size ≤ wr.heap.size := hbel.size
      have hb1 : b1 < wr.heap.size := Nat.lt_of_lt_of_le hbw ha1
      have hx : ∀ j (hj : j < 4), wr.cell? ⟨b1, o1 + k * 4 + j, none⟩ = (Op4.cells l[k])[j]? := fun j hj => by rw [hbel.cell (p := ⟨b1, o1 + k * 4 + j, none⟩) hbw]; exact hv k hlt j hj
      have x0 := hx 0 (by omega)
      have x1 := hx 1 (by omega)
      have x2 := hx 2 (by omega)
      have x3 := hx 3 (by omega)
      simp [Op4.cells] at x0 x1 x2 x3
      have hI := hi l[k] (List.getElem_mem hlt)
      have HST := Lib.hid (enc_take_succ hlt)
      have hxl := enc_take_length (l := l) k
      obtain ⟨xs, hxs⟩ : ∃ xs, xs = enc (l.take k) := ⟨_, rfl⟩
      rw [← hxs] at hown hxl
      have HX := Lib.hid hxs
      obtain ⟨oc, hoc⟩ : ∃ o, o = l[k] := ⟨_, rfl⟩
      rw [← hoc] at x0 x1 x2 x3 hI
      have HOC := Lib.hid hoc
      clear hv hx hi hoc hxs hb
      obtain ⟨hI0, hI1, hI2, hI3⟩ := hI
      obtain ⟨m, hm⟩ : ∃ m, m = opn oc.c := ⟨_, rfl⟩
      have hm1 : -1 ≤ m ∧ m ≤ 3 := by rw [hm]; exact opn_bd _
      have HM := Lib.hid hm.symm; clear hm
      have ne1 := hown.ne (b := wr.heap.size) (Or.inr (Nat.le_refl _))
      by_cases hn : m < 0
      · go_wp2_with (first | (go_at_call 18; refine (operands_at _ _ _ HM).mono ?_; rintro e w' ⟨rfl, rfl⟩) | (at_builtin; go_must (refine wpList_append_lit byteE byteS rfl _ _ rfl w.heap.size _ xs rfl (hown.alloc _) 0 _ _ rfl ?_ rfl ?_ ?_ ?_ ?_ (fun _ _ _ _ h => h) ?_)))
        · simp
        · simp [Value.oneCell']
        · omega
        · unfold maxLen; omega
        · simp; omega
        · intro v1 w1 ho hg hb2
          have e1 : Below w.heap.size w w1 := hbel.trans (Below.trans ((Below.refl _ _).alloc ha1 _) hb2)
          clear hown hg hb2
          go_wp2
          go_roundw
          case rel => exact ⟨k + 1, hlt, by go_num, by rw [HST.out, ← HX.out, ← HOC.out, encOp_neg (by rw [HM.out]; exact hn)]; exact ho, e1⟩
          case measure => simp [intOf]; omega
      · obtain rfl | rfl | rfl | rfl : m = 0 ∨ m = 1 ∨ m = 2 ∨ m = 3 := by omega
        · go_wp2_with (first | (go_at_call 18; refine (operands_at _ _ _ HM).mono ?_; rintro e w' ⟨rfl, rfl⟩) | (at_builtin; go_must (refine wpList_append_lit byteE byteS rfl _ _ rfl w.heap.size _ xs rfl (hown.below ?_) (oc.c % 256) _ _ rfl ?_ ?_ ?_ ?_ ?_ ?_ (fun _ _ _ _ h => h) ?_)))
          · exact (Below.refl _ _).alloc (Nat.le_refl _) _
          · simp
          · rfl
          · simp [Value.oneCell']
          · omega
          · unfold maxLen; omega
          · simp; omega
          · intro v1 w1 ho1 hg1 hbb1
            have e1 : Below w.heap.size w w1 := hbel.trans (Below.trans ((Below.refl _ _).alloc ha1 _) hbb1)
            have k1 : w1.heap[wr.heap.size]? = some (.cells #[.int .i64 oc.c, .int .i64 oc.x, .int .i64 oc.y, .int .i64 oc.z] 35 (0, 0)) := grown_block hg1 (alloc_block (heap_alloc_new _ _)) ne1
            have hs1 := block_lt k1
            have c1 : w1.cell? ⟨wr.heap.size, 1, none⟩ = some (.int .i64 oc.x) := by rw [cell_block k1]; rfl
            have c2 : w1.cell? ⟨wr.heap.size, 2, none⟩ = some (.int .i64 oc.y) := by rw [cell_block k1]; rfl
            have c3 : w1.cell? ⟨wr.heap.size, 3, none⟩ = some (.int .i64 oc.z) := by rw [cell_block k1]; rfl
            have ha2 := e1.size
            clear hown hg1 hbb1 k1 ne1
            go_wp2
            refine wp_loop_rounds 1 ?_
            rw [rounds_succ]
            go_wp2
            go_roundw
            case rel => exact ⟨k + 1, hlt, by go_num, by rw [HST.out, ← HX.out, ← HOC.out, encOp_at (m := 0) HM.out]; simpa using ho1.alloc _, e1.alloc ha2 _⟩
            case measure => simp [intOf]; omega
        · go_wp2_with (first | (go_at_call 18; refine (operands_at _ _ _ HM).mono ?_; rintro e w' ⟨rfl, rfl⟩) | (at_builtin; go_must (refine wpList_append_lit byteE byteS rfl _ _ rfl w.heap.size _ xs rfl (hown.below ?_) (oc.c % 256) _ _ rfl ?_ ?_ ?_ ?_ ?_ ?_ (fun _ _ _ _ h => h) ?_)))
          · exact (Below.refl _ _).alloc (Nat.le_refl _) _
          · simp
          · rfl
          · simp [Value.oneCell']
          · omega
          · unfold maxLen; omega
          · simp; omega
          · intro v1 w1 ho1 hg1 hbb1
            have e1 : Below w.heap.size w w1 := hbel.trans (Below.trans ((Below.refl _ _).alloc ha1 _) hbb1)
            have k1 : w1.heap[wr.heap.size]? = some (.cells #[.int .i64 oc.c, .int .i64 oc.x, .int .i64 oc.y, .int .i64 oc.z] 35 (0, 0)) := grown_block hg1 (alloc_block (heap_alloc_new _ _)) ne1
            have hs1 := block_lt k1
            have c1 : w1.cell? ⟨wr.heap.size, 1, none⟩ = some (.int .i64 oc.x) := by rw [cell_block k1]; rfl
            have c2 : w1.cell? ⟨wr.heap.size, 2, none⟩ = some (.int .i64 oc.y) := by rw [cell_block k1]; rfl
            have c3 : w1.cell? ⟨wr.heap.size, 3, none⟩ = some (.int .i64 oc.z) := by rw [cell_block k1]; rfl
            have ha2 := e1.size
            clear hown hg1 hbb1 k1 ne1
            go_wp2
            refine wp_loop_rounds 2 ?_
            rw [rounds_succ]
            go_wp2_with (at_builtin; go_must (refine wpList_append_lit byteE byteS rfl _ _ rfl w.heap.size _ _ rfl (ho1.alloc _) (oc.x % 256) _ _ rfl ?_ ?_ ?_ ?_ ?_ ?_ (fun _ _ _ _ h => h) ?_))
            · simp
            · rfl
            · simp [Value.oneCell']
            · simp; omega
            · unfold maxLen; simp; omega
            · first | omega | (simp; omega)
            intro v2 w2 ho2 hg2 hbb2
            have k2 := grown_block hg2 (alloc_block (heap_alloc_new _ _)) (ho1.ne (b := w1.heap.size) (Or.inr (Nat.le_refl _)))
            have e2 : Below w.heap.size w w2 := e1.trans (Below.trans ((Below.refl _ _).alloc ha2 _) hbb2)
            have d2 : w2.cell? ⟨w1.heap.size, 1, none⟩ = some (.int .i64 oc.y) := by rw [cell_block k2]; rfl
            have hs2 := block_lt k2
            have ha3 := e2.size
            have K2 := Lib.hid k2; clear hg2 hbb2
            clear k2
            go_wp2
            rw [rounds_succ]
            go_wp2
            go_roundw
            case rel => exact ⟨k + 1, hlt, by go_num, by rw [HST.out, ← HX.out, ← HOC.out, encOp_at (m := 1) HM.out]; simpa using ho2, e2⟩
            case measure => simp [intOf]; omega
        · go_wp2_with (first | (go_at_call 18; refine (operands_at _ _ _ HM).mono ?_; rintro e w' ⟨rfl, rfl⟩) | (at_builtin; go_must (refine wpList_append_lit byteE byteS rfl _ _ rfl w.heap.size _ xs rfl (hown.below ?_) (oc.c % 256) _ _ rfl ?_ ?_ ?_ ?_ ?_ ?_ (fun _ _ _ _ h => h) ?_)))
          · exact (Below.refl _ _).alloc (Nat.le_refl _) _
          · simp
          · rfl
          · simp [Value.oneCell']
          · omega
          · unfold maxLen; omega
          · simp; omega
          · intro v1 w1 ho1 hg1 hbb1
            have e1 : Below w.heap.size w w1 := hbel.trans (Below.trans ((Below.refl _ _).alloc ha1 _) hbb1)
            have k1 : w1.heap[wr.heap.size]? = some (.cells #[.int .i64 oc.c, .int .i64 oc.x, .int .i64 oc.y, .int .i64 oc.z] 35 (0, 0)) := grown_block hg1 (alloc_block (heap_alloc_new _ _)) ne1
            have hs1 := block_lt k1
            have c1 : w1.cell? ⟨wr.heap.size, 1, none⟩ = some (.int .i64 oc.x) := by rw [cell_block k1]; rfl
            have c2 : w1.cell? ⟨wr.heap.size, 2, none⟩ = some (.int .i64 oc.y) := by rw [cell_block k1]; rfl
            have c3 : w1.cell? ⟨wr.heap.size, 3, none⟩ = some (.int .i64 oc.z) := by rw [cell_block k1]; rfl
            have ha2 := e1.size
            clear hown hg1 hbb1 k1 ne1
            go_wp2
            refine wp_loop_rounds 3 ?_
            rw [rounds_succ]
            go_wp2_with (at_builtin; go_must (refine wpList_append_lit byteE byteS rfl _ _ rfl w.heap.size _ _ rfl (ho1.alloc _) (oc.x % 256) _ _ rfl ?_ ?_ ?_ ?_ ?_ ?_ (fun _ _ _ _ h => h) ?_))
            · simp
            · rfl
            · simp [Value.oneCell']
            · simp; omega
            · unfold maxLen; simp; omega
            · first | omega | (simp; omega)
            intro v2 w2 ho2 hg2 hbb2
            have k2 := grown_block hg2 (alloc_block (heap_alloc_new _ _)) (ho1.ne (b := w1.heap.size) (Or.inr (Nat.le_refl _)))
            have e2 : Below w.heap.size w w2 := e1.trans (Below.trans ((Below.refl _ _).alloc ha2 _) hbb2)
            have d2 : w2.cell? ⟨w1.heap.size, 1, none⟩ = some (.int .i64 oc.y) := by rw [cell_block k2]; rfl
            have hs2 := block_lt k2
            have ha3 := e2.size
            have K2 := Lib.hid k2; clear hg2 hbb2
            clear k2
            go_wp2
            rw [rounds_succ]
            go_wp2_with (at_builtin; go_must (refine wpList_append_lit byteE byteS rfl _ _ rfl w.heap.size _ _ rfl ho2 (oc.y % 256) _ _ rfl ?_ ?_ ?_ ?_ ?_ ?_ (fun _ _ _ _ h => h) ?_))
            · simp
            · rfl
            · simp [Value.oneCell']
            · simp; omega
            · unfold maxLen; simp; omega
            · first | omega | (simp; omega)
            intro v3 w3 ho3 hg3 hbb3
            have k3 := grown_block hg3 (alloc_block K2.out) (ho2.ne_block K2.out (by decide))
            have e3 : Below w.heap.size w w3 := e2.trans hbb3
            have d3 : w3.cell? ⟨w1.heap.size, 2, none⟩ = some (.int .i64 oc.z) := by rw [cell_block k3]; rfl
            have hs3 := block_lt k3
            have ha4 := e3.size
            have K3 := Lib.hid k3; clear hg3 hbb3
            clear k3
            go_wp2
            rw [rounds_succ]
            go_wp2
            go_roundw
            case rel => exact ⟨k + 1, hlt, by go_num, by rw [HST.out, ← HX.out, ← HOC.out, encOp_at (m := 2) HM.out]; simpa using ho3, e3⟩
            case measure => simp [intOf]; omega
        · go_wp2_with (first | (go_at_call 18; refine (operands_at _ _ _ HM).mono ?_; rintro e w' ⟨rfl, rfl⟩) | (at_builtin; go_must (refine wpList_append_lit byteE byteS rfl _ _ rfl w.heap.size _ xs rfl (hown.below ?_) (oc.c % 256) _ _ rfl ?_ ?_ ?_ ?_ ?_ ?_ (fun _ _ _ _ h => h) ?_)))
          · exact (Below.refl _ _).alloc (Nat.le_refl _) _
          · simp
          · rfl
          · simp [Value.oneCell']
          · omega
          · unfold maxLen; omega
          · simp; omega
          · intro v1 w1 ho1 hg1 hbb1
            have e1 : Below w.heap.size w w1 := hbel.trans (Below.trans ((Below.refl _ _).alloc ha1 _) hbb1)
            have k1 : w1.heap[wr.heap.size]? = some (.cells #[.int .i64 oc.c, .int .i64 oc.x, .int .i64 oc.y, .int .i64 oc.z] 35 (0, 0)) := grown_block hg1 (alloc_block (heap_alloc_new _ _)) ne1
            have hs1 := block_lt k1
            have c1 : w1.cell? ⟨wr.heap.size, 1, none⟩ = some (.int .i64 oc.x) := by rw [cell_block k1]; rfl
            have c2 : w1.cell? ⟨wr.heap.size, 2, none⟩ = some (.int .i64 oc.y) := by rw [cell_block k1]; rfl
            have c3 : w1.cell? ⟨wr.heap.size, 3, none⟩ = some (.int .i64 oc.z) := by rw [cell_block k1]; rfl
            have ha2 := e1.size
            clear hown hg1 hbb1 k1 ne1
            go_wp2
            refine wp_loop_rounds 4 ?_
            rw [rounds_succ]
            go_wp2_with (at_builtin; go_must (refine wpList_append_lit byteE byteS rfl _ _ rfl w.heap.size _ _ rfl (ho1.alloc _) (oc.x % 256) _ _ rfl ?_ ?_ ?_ ?_ ?_ ?_ (fun _ _ _ _ h => h) ?_))
            · simp
            · rfl
            · simp [Value.oneCell']
            · simp; omega
            · unfold maxLen; simp; omega
            · first | omega | (simp; omega)
            intro v2 w2 ho2 hg2 hbb2
            have k2 := grown_block hg2 (alloc_block (heap_alloc_new _ _)) (ho1.ne (b := w1.heap.size) (Or.inr (Nat.le_refl _)))
            have e2 : Below w.heap.size w w2 := e1.trans (Below.trans ((Below.refl _ _).alloc ha2 _) hbb2)
            have d2 : w2.cell? ⟨w1.heap.size, 1, none⟩ = some (.int .i64 oc.y) := by rw [cell_block k2]; rfl
            have hs2 := block_lt k2
            have ha3 := e2.size
            have K2 := Lib.hid k2; clear hg2 hbb2
            clear k2
            go_wp2
            rw [rounds_succ]
            go_wp2_with (at_builtin; go_must (refine wpList_append_lit byteE byteS rfl _ _ rfl w.heap.size _ _ rfl ho2 (oc.y % 256) _ _ rfl ?_ ?_ ?_ ?_ ?_ ?_ (fun _ _ _ _ h => h) ?_))
            · simp
            · rfl
            · simp [Value.oneCell']
            · simp; omega
            · unfold maxLen; simp; omega
            · first | omega | (simp; omega)
            intro v3 w3 ho3 hg3 hbb3
            have k3 := grown_block hg3 (alloc_block K2.out) (ho2.ne_block K2.out (by decide))
            have e3 : Below w.heap.size w w3 := e2.trans hbb3
            have d3 : w3.cell? ⟨w1.heap.size, 2, none⟩ = some (.int .i64 oc.z) := by rw [cell_block k3]; rfl
            have hs3 := block_lt k3
            have ha4 := e3.size
            have K3 := Lib.hid k3; clear hg3 hbb3
            clear k3
            go_wp2
            rw [rounds_succ]
            go_wp2_with (at_builtin; go_must (refine wpList_append_lit byteE byteS rfl _ _ rfl w.heap.size _ _ rfl ho3 (oc.z % 256) _ _ rfl ?_ ?_ ?_ ?_ ?_ ?_ (fun _ _ _ _ h => h) ?_))
            · simp
            · rfl
            · simp [Value.oneCell']
            · simp; omega
            · unfold maxLen; simp; omega
            · first | omega | (simp; omega)
            intro v4 w4 ho4 hg4 hbb4
            have k4 := grown_block hg4 (alloc_block K3.out) (ho3.ne_block K3.out (by decide))
            have e4 : Below w.heap.size w w4 := e3.trans hbb4
            have hs4 := block_lt k4
            have ha5 := e4.size
            have K4 := Lib.hid k4; clear hg4 hbb4
            clear k4
            go_wp2
            rw [rounds_succ]
            go_wp2
            go_roundw
            case rel => exact ⟨k + 1, hlt, by go_num, by rw [HST.out, ← HX.out, ← HOC.out, encOp_at (m := 3) HM.out]; simpa using ho4, e4⟩
            case measure => simp [intOf]; omega
    · have hkl : k = l.length := by omega
      rw [hkl, List.take_length] at hown
      have HO := Lib.hid hown
      clear hown hkl
      go_wp2
      go_ret
      exact ⟨_, rfl, HO.out, hbel⟩

set_option maxRecDepth 100000 in
set_option maxHeartbeats 4000000 in
theorem rencode_any (v : Value) (l : List Op4) (w : World) (hv : Rd op4E w v l) (hi : ∀ o ∈ l, o.I) (hl : l.length ≤ 1000000) :
    Calls Try.prog 14 #[v] w fun e w' => ∃ r, e = .returned r ∧ Own byteE w' w.heap.size 5 r (enc l) ∧ Below w.heap.size w w' := by
  obtain ⟨a1, c1, rfl, hl1, hl2, hv⟩ := hv.flat
  unfold maxLen at hl2
  go_enter Try.func14, Try.ntmps14
  go_wp2
  go_loopw [11, 3] (fun i o wr => REnc l w.heap.size w i o wr) (fun i _ _ => l.length - (intOf i).toNat)
  case atStart => exact ⟨0, Nat.zero_le _, rfl, Own.nil _ _ _ _, Below.refl _ _⟩
  case round =>
    obtain ⟨k, hk, rfl, hown, hbel⟩ := hrel
    by_cases hlt : k < l.length
    · rcases hv with hv | ⟨b1, o1, rfl, hb, hv⟩
      · simp [hv] at hlt
      have hbw := hb (by omega)
      have ha1 : w.heap.size ≤ wr.heap.size := hbel.size
      have hb1 : b1 < wr.heap.size := Nat.lt_of_lt_of_le hbw ha1
      have hx : ∀ j (hj : j < 4), wr.cell? ⟨b1, o1 + k * 4 + j, none⟩ = (Op4.cells l[k])[j]? := fun j hj => by rw [hbel.cell (p := ⟨b1, o1 + k * 4 + j, none⟩) hbw]; exact hv k hlt j hj
      have x0 := hx 0 (by omega)
      have x1 := hx 1 (by omega)
      have x2 := hx 2 (by omega)
      have x3 := hx 3 (by omega)
      simp [Op4.cells] at x0 x1 x2 x3
      have hI := hi l[k] (List.getElem_mem hlt)
      have HST := Lib.hid (enc_take_succ hlt)
      have hxl := enc_take_length (l := l) k
      obtain ⟨xs, hxs⟩ : ∃ xs, xs = enc (l.take k) := ⟨_, rfl⟩
      rw [← hxs] at hown hxl
      have HX := Lib.hid hxs
      obtain ⟨oc, hoc⟩ : ∃ o, o = l[k] := ⟨_, rfl⟩
      rw [← hoc] at x0 x1 x2 x3 hI
      have HOC := Lib.hid hoc
      clear hv hx hi hoc hxs hb
      obtain ⟨hI0, hI1, hI2, hI3⟩ := hI
      obtain ⟨m, hm⟩ : ∃ m, m = opn oc.c := ⟨_, rfl⟩
      have hm1 : -1 ≤ m ∧ m ≤ 3 := by rw [hm]; exact opn_bd _
      have HM := Lib.hid hm.symm; clear hm
      have ne1 := hown.ne (b := wr.heap.size) (Or.inr (Nat.le_refl _))
      by_cases hn : m < 0
      · go_wp2_with (first | (go_at_call 19; refine (roperands_at _ _ _ HM).mono ?_; rintro e w' ⟨rfl, rfl⟩) | (at_builtin; go_must (refine wpList_append_lit byteE byteS rfl _ _ rfl w.heap.size _ xs rfl (hown.alloc _) 0 _ _ rfl ?_ rfl ?_ ?_ ?_ ?_ (fun _ _ _ _ h => h) ?_)))
        · simp
        · simp [Value.oneCell']
        · omega
        · unfold maxLen; omega
        · simp; omega
        · intro v1 w1 ho hg hb2
          have e1 : Below w.heap.size w w1 := hbel.trans (Below.trans ((Below.refl _ _).alloc ha1 _) hb2)
          clear hown hg hb2
          go_wp2
          go_roundw
          case rel => exact ⟨k + 1, hlt, by go_num, by rw [HST.out, ← HX.out, ← HOC.out, encOp_neg (by rw [HM.out]; exact hn)]; exact ho, e1⟩
          case measure => simp [intOf]; omega
      · obtain rfl | rfl | rfl | rfl : m = 0 ∨ m = 1 ∨ m = 2 ∨ m = 3 := by omega
        · go_wp2_with (first | (go_at_call 19; refine (roperands_at _ _ _ HM).mono ?_; rintro e w' ⟨rfl, rfl⟩) | (at_builtin; go_must (refine wpList_append_lit byteE byteS rfl _ _ rfl w.heap.size _ xs rfl (hown.below ?_) (oc.c % 256) _ _ rfl ?_ ?_ ?_ ?_ ?_ ?_ (fun _ _ _ _ h => h) ?_)))
          · exact ((Below.refl _ _).alloc (Nat.le_refl _) _).alloc (by simp) _
          · simp
          · rfl
          · simp [Value.oneCell']
          · omega
          · unfold maxLen; omega
          · simp; omega
          · intro v1 w1 ho1 hg1 hbb1
            have e1 : Below w.heap.size w w1 := hbel.trans (Below.trans (((Below.refl _ _).alloc ha1 _).alloc (by simp; omega) _) hbb1)
            have k1 : w1.heap[wr.heap.size + 1]? = some (.cells #[.int .i64 oc.x, .int .i64 oc.y, .int .i64 oc.z] 48 (0, 0)) := grown_block hg1 (alloc_block (heap_alloc_at _ _ _ (by simp))) (hown.ne (Or.inr (by omega)))
            have hs1 := block_lt k1
            have d1 : w1.cell? ⟨wr.heap.size + 1, 0, none⟩ = some (.int .i64 oc.x) := by rw [cell_block k1]; rfl
            have ha2 := e1.size
            have K1 := Lib.hid k1
            clear hown hg1 hbb1 k1 ne1
            go_wp2
            refine wp_loop_rounds 1 ?_
            rw [rounds_succ]
            go_wp2
            go_roundw
            case rel => exact ⟨k + 1, hlt, by go_num, by rw [HST.out, ← HX.out, ← HOC.out, encOp_at (m := 0) HM.out]; simpa using ho1, e1⟩
            case measure => simp [intOf]; omega
        · go_wp2_with (first | (go_at_call 19; refine (roperands_at _ _ _ HM).mono ?_; rintro e w' ⟨rfl, rfl⟩) | (at_builtin; go_must (refine wpList_append_lit byteE byteS rfl _ _ rfl w.heap.size _ xs rfl (hown.below ?_) (oc.c % 256) _ _ rfl ?_ ?_ ?_ ?_ ?_ ?_ (fun _ _ _ _ h => h) ?_)))
          · exact ((Below.refl _ _).alloc (Nat.le_refl _) _).alloc (by simp) _
          · simp
          · rfl
          · simp [Value.oneCell']
          · omega
          · unfold maxLen; omega
          · simp; omega
          · intro v1 w1 ho1 hg1 hbb1
            have e1 : Below w.heap.size w w1 := hbel.trans (Below.trans (((Below.refl _ _).alloc ha1 _).alloc (by simp; omega) _) hbb1)
            have k1 : w1.heap[wr.heap.size + 1]? = some (.cells #[.int .i64 oc.x, .int .i64 oc.y, .int .i64 oc.z] 48 (0, 0)) := grown_block hg1 (alloc_block (heap_alloc_at _ _ _ (by simp))) (hown.ne (Or.inr (by omega)))
            have hs1 := block_lt k1
            have d1 : w1.cell? ⟨wr.heap.size + 1, 0, none⟩ = some (.int .i64 oc.x) := by rw [cell_block k1]; rfl
            have ha2 := e1.size
            have K1 := Lib.hid k1
            clear hown hg1 hbb1 k1 ne1
            go_wp2
            refine wp_loop_rounds 2 ?_
            rw [rounds_succ]
            go_wp2_with (at_builtin; go_must (refine wpList_append_lit byteE byteS rfl _ _ rfl w.heap.size _ _ rfl ho1 (oc.x % 256) _ _ rfl ?_ ?_ ?_ ?_ ?_ ?_ (fun _ _ _ _ h => h) ?_))
            · simp
            · rfl
            · simp [Value.oneCell']
            · first | omega | (simp; omega)
            · unfold maxLen; simp; omega
            · first | omega | (simp; omega)
            intro v2 w2 ho2 hg2 hbb2
            have k2 := grown_block hg2 (alloc_block K1.out) (ho1.ne_block K1.out (by decide))
            have e2 : Below w.heap.size w w2 := e1.trans hbb2
            have d2 : w2.cell? ⟨wr.heap.size + 1, 1, none⟩ = some (.int .i64 oc.y) := by rw [cell_block k2]; rfl
            have hs2 := block_lt k2
            have ha3 := e2.size
            have K2 := Lib.hid k2; clear hg2 hbb2
            clear k2
            go_wp2
            rw [rounds_succ]
            go_wp2
            go_roundw
            case rel => exact ⟨k + 1, hlt, by go_num, by rw [HST.out, ← HX.out, ← HOC.out, encOp_at (m := 1) HM.out]; simpa using ho2, e2⟩
            case measure => simp [intOf]; omega
        · go_wp2_with (first | (go_at_call 19; refine (roperands_at _ _ _ HM).mono ?_; rintro e w' ⟨rfl, rfl⟩) | (at_builtin; go_must (refine wpList_append_lit byteE byteS rfl _ _ rfl w.heap.size _ xs rfl (hown.below ?_) (oc.c % 256) _ _ rfl ?_ ?_ ?_ ?_ ?_ ?_ (fun _ _ _ _ h => h) ?_)))
          · exact ((Below.refl _ _).alloc (Nat.le_refl _) _).alloc (by simp) _
          · simp
          · rfl
          · simp [Value.oneCell']
          · omega
          · unfold maxLen; omega
          · simp; omega
          · intro v1 w1 ho1 hg1 hbb1
            have e1 : Below w.heap.size w w1 := hbel.trans (Below.trans (((Below.refl _ _).alloc ha1 _).alloc (by simp; omega) _) hbb1)
            have k1 : w1.heap[wr.heap.size + 1]? = some (.cells #[.int .i64 oc.x, .int .i64 oc.y, .int .i64 oc.z] 48 (0, 0)) := grown_block hg1 (alloc_block (heap_alloc_at _ _ _ (by simp))) (hown.ne (Or.inr (by omega)))
            have hs1 := block_lt k1
            have d1 : w1.cell? ⟨wr.heap.size + 1, 0, none⟩ = some (.int .i64 oc.x) := by rw [cell_block k1]; rfl
            have ha2 := e1.size
            have K1 := Lib.hid k1
            clear hown hg1 hbb1 k1 ne1
            go_wp2
            refine wp_loop_rounds 3 ?_
            rw [rounds_succ]
            go_wp2_with (at_builtin; go_must (refine wpList_append_lit byteE byteS rfl _ _ rfl w.heap.size _ _ rfl ho1 (oc.x % 256) _ _ rfl ?_ ?_ ?_ ?_ ?_ ?_ (fun _ _ _ _ h => h) ?_))
            · simp
            · rfl
            · simp [Value.oneCell']
            · first | omega | (simp; omega)
            · unfold maxLen; simp; omega
            · first | omega | (simp; omega)
            intro v2 w2 ho2 hg2 hbb2
            have k2 := grown_block hg2 (alloc_block K1.out) (ho1.ne_block K1.out (by decide))
            have e2 : Below w.heap.size w w2 := e1.trans hbb2
            have d2 : w2.cell? ⟨wr.heap.size + 1, 1, none⟩ = some (.int .i64 oc.y) := by rw [cell_block k2]; rfl
            have hs2 := block_lt k2
            have ha3 := e2.size
            have K2 := Lib.hid k2; clear hg2 hbb2
            clear k2
            go_wp2
            rw [rounds_succ]
            go_wp2_with (at_builtin; go_must (refine wpList_append_lit byteE byteS rfl _ _ rfl w.heap.size _ _ rfl ho2 (oc.y % 256) _ _ rfl ?_ ?_ ?_ ?_ ?_ ?_ (fun _ _ _ _ h => h) ?_))
            · simp
            · rfl
            · simp [Value.oneCell']
            · first | omega | (simp; omega)
            · unfold maxLen; simp; omega
            · first | omega | (simp; omega)
            intro v3 w3 ho3 hg3 hbb3
            have k3 := grown_block hg3 (alloc_block K2.out) (ho2.ne_block K2.out (by decide))
            have e3 : Below w.heap.size w w3 := e2.trans hbb3
            have d3 : w3.cell? ⟨wr.heap.size + 1, 2, none⟩ = some (.int .i64 oc.z) := by rw [cell_block k3]; rfl
            have hs3 := block_lt k3
            have ha4 := e3.size
            have K3 := Lib.hid k3; clear hg3 hbb3
            clear k3
            go_wp2
            rw [rounds_succ]
            go_wp2
            go_roundw
            case rel => exact ⟨k + 1, hlt, by go_num, by rw [HST.out, ← HX.out, ← HOC.out, encOp_at (m := 2) HM.out]; simpa using ho3, e3⟩
            case measure => simp [intOf]; omega
        · go_wp2_with (first | (go_at_call 19; refine (roperands_at _ _ _ HM).mono ?_; rintro e w' ⟨rfl, rfl⟩) | (at_builtin; go_must (refine wpList_append_lit byteE byteS rfl _ _ rfl w.heap.size _ xs rfl (hown.below ?_) (oc.c % 256) _ _ rfl ?_ ?_ ?_ ?_ ?_ ?_ (fun _ _ _ _ h => h) ?_)))
          · exact ((Below.refl _ _).alloc (Nat.le_refl _) _).alloc (by simp) _
          · simp
          · rfl
          · simp [Value.oneCell']
          · omega
          · unfold maxLen; omega
          · simp; omega
          · intro v1 w1 ho1 hg1 hbb1
            have e1 : Below w.heap.size w w1 := hbel.trans (Below.trans (((Below.refl _ _).alloc ha1 _).alloc (by simp; omega) _) hbb1)
            have k1 : w1.heap[wr.heap.size + 1]? = some (.cells #[.int .i64 oc.x, .int .i64 oc.y, .int .i64 oc.z] 48 (0, 0)) := grown_block hg1 (alloc_block (heap_alloc_at _ _ _ (by simp))) (hown.ne (Or.inr (by omega)))
            have hs1 := block_lt k1
            have d1 : w1.cell? ⟨wr.heap.size + 1, 0, none⟩ = some (.int .i64 oc.x) := by rw [cell_block k1]; rfl
            have ha2 := e1.size
            have K1 := Lib.hid k1
            clear hown hg1 hbb1 k1 ne1
            go_wp2
            refine wp_loop_rounds 4 ?_
            rw [rounds_succ]
            go_wp2_with (at_builtin; go_must (refine wpList_append_lit byteE byteS rfl _ _ rfl w.heap.size _ _ rfl ho1 (oc.x % 256) _ _ rfl ?_ ?_ ?_ ?_ ?_ ?_ (fun _ _ _ _ h => h) ?_))
            · simp
            · rfl
            · simp [Value.oneCell']
            · first | omega | (simp; omega)
            · unfold maxLen; simp; omega
            · first | omega | (simp; omega)
            intro v2 w2 ho2 hg2 hbb2
            have k2 := grown_block hg2 (alloc_block K1.out) (ho1.ne_block K1.out (by decide))
            have e2 : Below w.heap.size w w2 := e1.trans hbb2
            have d2 : w2.cell? ⟨wr.heap.size + 1, 1, none⟩ = some (.int .i64 oc.y) := by rw [cell_block k2]; rfl
            have hs2 := block_lt k2
            have ha3 := e2.size
            have K2 := Lib.hid k2; clear hg2 hbb2
            clear k2
            go_wp2
            rw [rounds_succ]
            go_wp2_with (at_builtin; go_must (refine wpList_append_lit byteE byteS rfl _ _ rfl w.heap.size _ _ rfl ho2 (oc.y % 256) _ _ rfl ?_ ?_ ?_ ?_ ?_ ?_ (fun _ _ _ _ h => h) ?_))
            · simp
            · rfl
            · simp [Value.oneCell']
            · first | omega | (simp; omega)
            · unfold maxLen; simp; omega
            · first | omega | (simp; omega)
            intro v3 w3 ho3 hg3 hbb3
            have k3 := grown_block hg3 (alloc_block K2.out) (ho2.ne_block K2.out (by decide))
            have e3 : Below w.heap.size w w3 := e2.trans hbb3
            have d3 : w3.cell? ⟨wr.heap.size + 1, 2, none⟩ = some (.int .i64 oc.z) := by rw [cell_block k3]; rfl
            have hs3 := block_lt k3
            have ha4 := e3.size
            have K3 := Lib.hid k3; clear hg3 hbb3
            clear k3
            go_wp2
            rw [rounds_succ]
            go_wp2_with (at_builtin; go_must (refine wpList_append_lit byteE byteS rfl _ _ rfl w.heap.size _ _ rfl ho3 (oc.z % 256) _ _ rfl ?_ ?_ ?_ ?_ ?_ ?_ (fun _ _ _ _ h => h) ?_))
            · simp
            · rfl
            · simp [Value.oneCell']
            · first | omega | (simp; omega)
            · unfold maxLen; simp; omega
            · first | omega | (simp; omega)
            intro v4 w4 ho4 hg4 hbb4
            have k4 := grown_block hg4 (alloc_block K3.out) (ho3.ne_block K3.out (by decide))
            have e4 : Below w.heap.size w w4 := e3.trans hbb4
            have d4 : w4.cell? ⟨wr.heap.size + 1, 2, none⟩ = some (.int .i64 oc.z) := by rw [cell_block k4]; rfl
            have hs4 := block_lt k4
            have ha5 := e4.size
            have K4 := Lib.hid k4; clear hg4 hbb4
            clear k4
            go_wp2
            rw [rounds_succ]
            go_wp2
            go_roundw
            case rel => exact ⟨k + 1, hlt, by go_num, by rw [HST.out, ← HX.out, ← HOC.out, encOp_at (m := 3) HM.out]; simpa using ho4, e4⟩
            case measure => simp [intOf]; omega
    · have hkl : k = l.length := by omega
      rw [hkl, List.take_length] at hown
      have HO := Lib.hid hown
      clear hown hkl
      go_wp2
      go_ret
      exact ⟨_, rfl, HO.out, hbel⟩

end Go.Proofs.Ytadoehlhfccacaa
