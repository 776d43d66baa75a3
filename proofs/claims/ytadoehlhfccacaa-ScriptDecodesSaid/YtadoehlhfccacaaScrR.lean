/- Decoding scripts by the reference: the same operations. -/
import Derived.Test.YtadoehlhfccacaaScr
import Derived.Test.YtadoehlhfccacaaBas2
import Derived.Test.YtadoehlhfccacaaBas3
namespace Go.Proofs.Ytadoehlhfccacaa
open Go.RowKit

theorem roperands_any (c : Int) (w : World) :
    Calls Try.prog 19 #[.int .i64 c] w fun e w' => e = .returned (.int .i64 (opn c)) ∧ w = w' := by
  go_enter Try.func19, Try.ntmps19
  go_wp2
  all_goals (go_ret; exact ⟨ret_int (by simp_all [opn]), rfl⟩)
theorem roperands_at (c m : Int) (w : World) (h : Hid (opn c = m)) : Calls Try.prog 19 #[.int .i64 c] w fun e w' => e = .returned (.int .i64 m) ∧ w = w' :=
  (roperands_any c w).mono fun e w' ⟨h1, h2⟩ => ⟨by rw [h1, h.out], h2⟩

/-- what holds at the head of a round of the reference's Decode -/
def RDec (n B T : Nat) (a1 : Option Addr) (ys : List Int) (w : World) (b o : Value) (wr : World) : Prop :=
  ∃ (k r : Nat) (xs : List Op4), k + r ≤ n ∧ n ≤ k + r ∧ (∃ a' c', b = .slice a' r c' ∧ r ≤ c' ∧ c' ≤ 9223372036854775807 ∧ (k < n → ∃ b1 o1, a1 = some ⟨b1, o1, none⟩ ∧ a' = some ⟨b1, o1 + k, none⟩)) ∧ Own op4E wr B T o xs ∧ xs.length ≤ k ∧ xs ++ dec (ys.drop k) = dec ys ∧ Below B w wr

theorem RDec.next {n B T b1 o1 k r j cc : Nat} {A : Option Addr} {ys : List Int} {w wr' : World} {o : Value} {xs : List Op4} {x : Op4} (hk : k + r ≤ n) (hk2 : n ≤ k + r) (hj : j ≤ r) (hj1 : 1 ≤ j) (hc : r - j ≤ cc) (hcc : cc ≤ 9223372036854775807)
    (hA : k + j < n → A = some ⟨b1, o1 + k + j, none⟩) (ho : Own op4E wr' B T o (xs ++ [x])) (hx : xs.length ≤ k) (hd : xs ++ dec (ys.drop k) = dec ys) (hx2 : dec (ys.drop k) = x :: dec (ys.drop (k + j))) (hb : Below B w wr') :
    RDec n B T (some ⟨b1, o1, none⟩) ys w (.slice A (r - j) cc) o wr' ∧ r - j < r := by
  refine ⟨⟨k + j, r - j, xs ++ [x], by omega, by omega, ⟨A, cc, rfl, hc, hcc, fun h => ⟨b1, o1, rfl, by rw [hA h, Nat.add_assoc]⟩⟩, ho, by simp; omega, ?_, hb⟩, by omega⟩
  rw [← hd, hx2, List.append_assoc]; rfl

set_option maxRecDepth 100000 in
set_option maxHeartbeats 4000000 in
theorem rdecode_any (v : Value) (bs : List Int) (w : World) (hv : Rd byteE w v bs) (h0 : ∀ x ∈ bs, 0 ≤ x ∧ x ≤ 255) :
    Calls Try.prog 10 #[v] w fun e w' => ∃ r, e = .returned r ∧ Own op4E w' w.heap.size 35 r (dec (bs.take 4096)) ∧ Below w.heap.size w w' := by
  obtain ⟨a1, c1, rfl, hl1, hl2, hv⟩ := hv.flat
  unfold maxLen at hl2
  obtain ⟨ys, hys⟩ : ∃ ys, ys = bs.take 4096 := ⟨_, rfl⟩
  have hyl : ys.length = min 4096 bs.length := by rw [hys, List.length_take]
  have HY := Lib.hid hyl; clear hyl
  have hcell : ∀ j (h : j < ys.length), ∃ b1 o1, a1 = some ⟨b1, o1, none⟩ ∧ b1 < w.heap.size ∧ w.cell? ⟨b1, o1 + j, none⟩ = some (.int .u8 ys[j]) := by
    intro j h
    have := HY.out
    rcases hv with hv | ⟨b1, o1, rfl, hb, hv⟩
    · rw [hv] at this; simp at this; rw [this] at h; exact absurd h (Nat.not_lt_zero _)
    have hx := hv j (by omega) 0 (by omega)
    simp at hx
    subst hys
    exact ⟨b1, o1, rfl, hb (by omega), by simpa using hx⟩
  have hr : ∀ j (h : j < ys.length), 0 ≤ ys[j] ∧ ys[j] ≤ 255 := by
    intro j h
    exact h0 _ (by subst hys; exact List.mem_of_mem_take (List.getElem_mem h))
  obtain ⟨n, hnm, hny1, hny2⟩ : ∃ n, n = min 4096 bs.length ∧ n ≤ ys.length ∧ ys.length ≤ n := ⟨_, rfl, Nat.le_of_eq HY.out.symm, Nat.le_of_eq HY.out⟩
  have hn1 : n ≤ 4096 := by omega
  have hn2 : n ≤ c1 := by omega
  have HN := Lib.hid hnm
  have HC := Lib.hid hcell; clear hcell
  have HV := Lib.hid hr; clear hr hv
  have HS := Lib.hid hys; clear hys
  have h00 : ∃ a' c', Value.slice a1 n c1 = .slice a' n c' ∧ n ≤ c' ∧ c' ≤ 9223372036854775807 ∧ (0 < n → ∃ b1 o1, a1 = some ⟨b1, o1, none⟩ ∧ a' = some ⟨b1, o1 + 0, none⟩) := by
    refine ⟨a1, c1, rfl, hn2, by omega, fun h => ?_⟩
    obtain ⟨b1, o1, e, _⟩ := HC.out 0 (by omega)
    exact ⟨b1, o1, e, e⟩
  by_cases hL : bs.length ≤ 4096
  all_goals
    try clear hnm
    go_enter Try.func10, Try.ntmps10
    go_wp2
    go_loopw [0, 3] (fun b o wr => RDec n w.heap.size 35 a1 ys w b o wr) (fun b _ _ => lenOf b)
    case atStart =>
      have h1 := HN.out
      exact ⟨0, n, [], by omega, by omega, (by first | (rw [show bs.length = n by omega]; exact h00) | (rw [show 4096 = n by omega]; exact h00)), Own.nil _ _ _ _, by simp, by simp, Below.refl _ _⟩
    case round =>
      obtain ⟨k, r, xs, hk, hk2, ⟨a', c', rfl, hc1, hc2, ha⟩, hown, hxl, hdec, hbel⟩ := hrel
      have HD := Lib.hid hdec; clear hdec
      by_cases hlt : k < n
      · obtain ⟨b1, o1, rfl, rfl⟩ := ha hlt
        have hky : k < ys.length := by omega
        have hbw : b1 < w.heap.size := by obtain ⟨_, _, e, h, _⟩ := HC.out k hky; cases e; exact h
        have hb1 : b1 < wr.heap.size := by obtain ⟨_, _, e, h, _⟩ := HC.out k hky; cases e; exact Nat.lt_of_lt_of_le h hbel.size
        have hcell : ∀ j (h : j < ys.length), wr.cell? ⟨b1, o1 + j, none⟩ = some (.int .u8 ys[j]) := by
          intro j h
          obtain ⟨_, _, e, h, h2⟩ := HC.out j h
          cases e
          rw [hbel.cell (p := ⟨b1, o1 + j, none⟩) h]
          exact h2
        have x0 := hcell k hky
        have r0 := HV.out k hky
        have hdr : ys.drop k = ys[k] :: ys.drop (k + 1) := List.drop_eq_getElem_cons hky
        have HR := Lib.hid hdr; clear hdr
        have HW := Lib.hid hcell; clear hcell ha h00
        have ha1 : w.heap.size ≤ wr.heap.size := hbel.size
        obtain ⟨m, hm⟩ : ∃ m, m = opn ys[k] := ⟨_, rfl⟩
        have hm1 : -1 ≤ m ∧ m ≤ 3 := by rw [hm]; exact opn_bd _
        have HM := Lib.hid hm.symm; clear hm
        have hbd : (xs.length + 1) * 32 ≤ 140737488355328 := by omega
        have hml : xs.length + 1 ≤ maxLen := by unfold maxLen; omega
        by_cases hn : m < 0
        · go_wp2_with (first | (go_at_call 19; refine (roperands_at _ _ _ HM).mono ?_; rintro e w' ⟨rfl, rfl⟩) | (at_builtin; go_must (refine wpList_append_lit op4E opS rfl _ _ rfl w.heap.size _ xs rfl hown ⟨0, 0, 0, 0⟩ _ _ rfl rfl rfl ?_ hbd hml ha1 (fun _ _ _ _ h => h) ?_)))
          · simp [Value.oneCell']
          · intro v' w' ho hg hb2
            clear hown hg
            go_wp2
            all_goals
              have L := fun A cc h1 h2 hA => RDec.next (n := n) (B := w.heap.size) (T := 35) (b1 := b1) (o1 := o1) (k := k) (r := r) (j := 1) (cc := cc) (A := A) (ys := ys) (w := w) hk hk2 (by omega) (by omega) h1 h2 hA ho hxl HD.out (by rw [HR.out, dec_bad (by rw [HM.out]; exact hn)]) (hbel.trans hb2)
              first
                | exact L _ _ (by omega) (by omega) (by intro _; first | rfl | (rw [if_neg (by omega)]) | (exfalso; omega))
                | exact ⟨⟨_, _, _, (L _ _ (by omega) (by omega) (by intro _; first | rfl | (exfalso; omega))).1, rfl, rfl, rfl⟩, (by show r - 1 < r; omega)⟩
        · by_cases hsh : r < 1 + m.toNat
          · go_wp2_with (first | (go_at_call 19; refine (roperands_at _ _ _ HM).mono ?_; rintro e w' ⟨rfl, rfl⟩) | (at_builtin; go_must (refine wpList_append_lit op4E opS rfl _ _ rfl w.heap.size _ xs rfl hown ⟨0, 0, 0, 0⟩ _ _ rfl rfl rfl ?_ hbd hml ha1 (fun _ _ _ _ h => h) ?_)))
            · simp [Value.oneCell']
            · intro v' w' ho hg hb2
              clear hown hg
              go_wp2
              go_ret
              refine ⟨_, rfl, ?_, hbel.trans hb2⟩
              rw [← HS.out, ← HD.out, HR.out, dec_short (m := m.toNat) (by rw [HM.out]; omega) (by rw [List.length_drop]; omega)]
              exact ho
          · have hb11 : b1 < wr.heap.size + 1 := by omega
            obtain rfl | rfl | rfl | rfl : m = 0 ∨ m = 1 ∨ m = 2 ∨ m = 3 := by omega
            · have ne1 := hown.ne (b := wr.heap.size) (Or.inr (Nat.le_refl _))
              have ne2 := hown.ne (b := b1) (Or.inl hbw)
              have hw0 : IntKind.i64.wrap ys[k] = ys[k] := IntWalk.i64_in _ (by omega)
              go_wp2_with (go_at_call 19; refine (roperands_at _ _ _ HM).mono ?_; rintro e w' ⟨rfl, rfl⟩)
              refine wp_loop_rounds 1 ?_
              rw [rounds_succ]
              go_wp2
              go_region_held3 (fun W => W.cell? ⟨wr.heap.size, 0, none⟩ = some (.int .i64 (0)) ∧ W.cell? ⟨wr.heap.size, 1, none⟩ = some (.int .i64 (0)) ∧ W.cell? ⟨wr.heap.size, 2, none⟩ = some (.int .i64 (0)) ∧ W.cell? ⟨b1, o1 + k, none⟩ = some (.int .u8 ys[k]))
                (first | go_keep | (go_split_ands; exact ⟨hg.cell (by assumption) ne1, hg.cell (by assumption) ne1, hg.cell (by assumption) ne1, hg.cell (by assumption) ne2⟩))
                ((refine step_append_lit op4E opS rfl _ _ rfl w.heap.size _ xs rfl (hown.below (by repeat (first | exact Below.refl _ _ | refine Below.drew ?_ | refine Below.setCell ?_ (by simp) _ | refine Below.alloc ?_ (by simp) _))) ⟨ys[k], 0, 0, 0⟩ #[.int .i64 (ys[k]), .int .i64 (0), .int .i64 (0), .int .i64 (0)] _ rfl (by exact heap_alloc_at _ _ _ (by simp)) rfl (by simp [Value.oneCell']) hbd hml (by simp; omega) (fun _ _ _ _ h => h) ?_; intro v' w' ho hg hb2))
              · skip
                have hb3 : Below w.heap.size w w' := by
                  refine hbel.trans (Below.trans ?_ hb2)
                  refine Below.mono (B := wr.heap.size) ?_ ha1
                  repeat (first | exact Below.refl _ _ | refine Below.drew ?_ | refine Below.setCell ?_ (by simp) _ | refine Below.alloc ?_ (by simp) _)
                clear hown hg hb2
                go_wp2
                all_goals
                  have L := fun A cc h1 h2 hA => RDec.next (n := n) (B := w.heap.size) (T := 35) (b1 := b1) (o1 := o1) (k := k) (r := r) (j := 1) (cc := cc) (A := A) (ys := ys) (w := w) hk hk2 (by omega) (by omega) h1 h2 hA ho hxl HD.out (dec_at0 (by omega) HM.out) hb3
                  first
                    | exact L _ _ (by omega) (by omega) (by intro _; first | rfl | (rw [if_neg (by omega)]) | (exfalso; omega))
                    | exact ⟨⟨_, _, _, (L _ _ (by omega) (by omega) (by intro _; first | rfl | (exfalso; omega))).1, rfl, rfl, rfl⟩, (by show r - 1 < r; omega)⟩
            · have x1 := HW.out (k + 1) (by omega)
              rw [← Nat.add_assoc] at x1
              have r1 := HV.out (k + 1) (by omega)
              have ne1 := hown.ne (b := wr.heap.size) (Or.inr (Nat.le_refl _))
              have ne2 := hown.ne (b := b1) (Or.inl hbw)
              have hw0 : IntKind.i64.wrap ys[k] = ys[k] := IntWalk.i64_in _ (by omega)
              go_wp2_with (go_at_call 19; refine (roperands_at _ _ _ HM).mono ?_; rintro e w' ⟨rfl, rfl⟩)
              refine wp_loop_rounds 2 ?_
              rw [rounds_succ]
              go_wp2
              rw [rounds_succ]
              go_wp2
              go_region_held3 (fun W => W.cell? ⟨wr.heap.size, 0, none⟩ = some (.int .i64 (ys[k + 1])) ∧ W.cell? ⟨wr.heap.size, 1, none⟩ = some (.int .i64 (0)) ∧ W.cell? ⟨wr.heap.size, 2, none⟩ = some (.int .i64 (0)) ∧ W.cell? ⟨b1, o1 + k, none⟩ = some (.int .u8 ys[k]))
                (first | go_keep | (go_split_ands; exact ⟨hg.cell (by assumption) ne1, hg.cell (by assumption) ne1, hg.cell (by assumption) ne1, hg.cell (by assumption) ne2⟩))
                ((refine step_append_lit op4E opS rfl _ _ rfl w.heap.size _ xs rfl (hown.below (by repeat (first | exact Below.refl _ _ | refine Below.drew ?_ | refine Below.setCell ?_ (by simp) _ | refine Below.alloc ?_ (by simp) _))) ⟨ys[k], ys[k + 1], 0, 0⟩ #[.int .i64 (ys[k]), .int .i64 (ys[k + 1]), .int .i64 (0), .int .i64 (0)] _ rfl (by exact heap_alloc_at _ _ _ (by simp)) rfl (by simp [Value.oneCell']) hbd hml (by simp; omega) (fun _ _ _ _ h => h) ?_; intro v' w' ho hg hb2))
              · skip
                have hb3 : Below w.heap.size w w' := by
                  refine hbel.trans (Below.trans ?_ hb2)
                  refine Below.mono (B := wr.heap.size) ?_ ha1
                  repeat (first | exact Below.refl _ _ | refine Below.drew ?_ | refine Below.setCell ?_ (by simp) _ | refine Below.alloc ?_ (by simp) _)
                clear hown hg hb2
                go_wp2
                all_goals
                  have L := fun A cc h1 h2 hA => RDec.next (n := n) (B := w.heap.size) (T := 35) (b1 := b1) (o1 := o1) (k := k) (r := r) (j := 2) (cc := cc) (A := A) (ys := ys) (w := w) hk hk2 (by omega) (by omega) h1 h2 hA ho hxl HD.out (dec_at1 (by omega) HM.out) hb3
                  first
                    | exact L _ _ (by omega) (by omega) (by intro _; first | rfl | (rw [if_neg (by omega)]) | (exfalso; omega))
                    | exact ⟨⟨_, _, _, (L _ _ (by omega) (by omega) (by intro _; first | rfl | (exfalso; omega))).1, rfl, rfl, rfl⟩, (by show r - 2 < r; omega)⟩
            · have x1 := HW.out (k + 1) (by omega)
              rw [← Nat.add_assoc] at x1
              have r1 := HV.out (k + 1) (by omega)
              have x2 := HW.out (k + 2) (by omega)
              rw [← Nat.add_assoc] at x2
              have r2 := HV.out (k + 2) (by omega)
              have ne1 := hown.ne (b := wr.heap.size) (Or.inr (Nat.le_refl _))
              have ne2 := hown.ne (b := b1) (Or.inl hbw)
              have hw0 : IntKind.i64.wrap ys[k] = ys[k] := IntWalk.i64_in _ (by omega)
              go_wp2_with (go_at_call 19; refine (roperands_at _ _ _ HM).mono ?_; rintro e w' ⟨rfl, rfl⟩)
              refine wp_loop_rounds 3 ?_
              rw [rounds_succ]
              go_wp2
              rw [rounds_succ]
              go_wp2
              rw [rounds_succ]
              go_wp2
              go_region_held3 (fun W => W.cell? ⟨wr.heap.size, 0, none⟩ = some (.int .i64 (ys[k + 1])) ∧ W.cell? ⟨wr.heap.size, 1, none⟩ = some (.int .i64 (ys[k + 2])) ∧ W.cell? ⟨wr.heap.size, 2, none⟩ = some (.int .i64 (0)) ∧ W.cell? ⟨b1, o1 + k, none⟩ = some (.int .u8 ys[k]))
                (first | go_keep | (go_split_ands; exact ⟨hg.cell (by assumption) ne1, hg.cell (by assumption) ne1, hg.cell (by assumption) ne1, hg.cell (by assumption) ne2⟩))
                ((refine step_append_lit op4E opS rfl _ _ rfl w.heap.size _ xs rfl (hown.below (by repeat (first | exact Below.refl _ _ | refine Below.drew ?_ | refine Below.setCell ?_ (by simp) _ | refine Below.alloc ?_ (by simp) _))) ⟨ys[k], ys[k + 1], ys[k + 2], 0⟩ #[.int .i64 (ys[k]), .int .i64 (ys[k + 1]), .int .i64 (ys[k + 2]), .int .i64 (0)] _ rfl (by exact heap_alloc_at _ _ _ (by simp)) rfl (by simp [Value.oneCell']) hbd hml (by simp; omega) (fun _ _ _ _ h => h) ?_; intro v' w' ho hg hb2))
              · skip
                have hb3 : Below w.heap.size w w' := by
                  refine hbel.trans (Below.trans ?_ hb2)
                  refine Below.mono (B := wr.heap.size) ?_ ha1
                  repeat (first | exact Below.refl _ _ | refine Below.drew ?_ | refine Below.setCell ?_ (by simp) _ | refine Below.alloc ?_ (by simp) _)
                clear hown hg hb2
                go_wp2
                all_goals
                  have L := fun A cc h1 h2 hA => RDec.next (n := n) (B := w.heap.size) (T := 35) (b1 := b1) (o1 := o1) (k := k) (r := r) (j := 3) (cc := cc) (A := A) (ys := ys) (w := w) hk hk2 (by omega) (by omega) h1 h2 hA ho hxl HD.out (dec_at2 (by omega) HM.out) hb3
                  first
                    | exact L _ _ (by omega) (by omega) (by intro _; first | rfl | (rw [if_neg (by omega)]) | (exfalso; omega))
                    | exact ⟨⟨_, _, _, (L _ _ (by omega) (by omega) (by intro _; first | rfl | (exfalso; omega))).1, rfl, rfl, rfl⟩, (by show r - 3 < r; omega)⟩
            · have x1 := HW.out (k + 1) (by omega)
              rw [← Nat.add_assoc] at x1
              have r1 := HV.out (k + 1) (by omega)
              have x2 := HW.out (k + 2) (by omega)
              rw [← Nat.add_assoc] at x2
              have r2 := HV.out (k + 2) (by omega)
              have x3 := HW.out (k + 3) (by omega)
              rw [← Nat.add_assoc] at x3
              have r3 := HV.out (k + 3) (by omega)
              have ne1 := hown.ne (b := wr.heap.size) (Or.inr (Nat.le_refl _))
              have ne2 := hown.ne (b := b1) (Or.inl hbw)
              have hw0 : IntKind.i64.wrap ys[k] = ys[k] := IntWalk.i64_in _ (by omega)
              go_wp2_with (go_at_call 19; refine (roperands_at _ _ _ HM).mono ?_; rintro e w' ⟨rfl, rfl⟩)
              refine wp_loop_rounds 4 ?_
              rw [rounds_succ]
              go_wp2
              rw [rounds_succ]
              go_wp2
              rw [rounds_succ]
              go_wp2
              rw [rounds_succ]
              go_wp2
              go_region_held3 (fun W => W.cell? ⟨wr.heap.size, 0, none⟩ = some (.int .i64 (ys[k + 1])) ∧ W.cell? ⟨wr.heap.size, 1, none⟩ = some (.int .i64 (ys[k + 2])) ∧ W.cell? ⟨wr.heap.size, 2, none⟩ = some (.int .i64 (ys[k + 3])) ∧ W.cell? ⟨b1, o1 + k, none⟩ = some (.int .u8 ys[k]))
                (first | go_keep | (go_split_ands; exact ⟨hg.cell (by assumption) ne1, hg.cell (by assumption) ne1, hg.cell (by assumption) ne1, hg.cell (by assumption) ne2⟩))
                ((refine step_append_lit op4E opS rfl _ _ rfl w.heap.size _ xs rfl (hown.below (by repeat (first | exact Below.refl _ _ | refine Below.drew ?_ | refine Below.setCell ?_ (by simp) _ | refine Below.alloc ?_ (by simp) _))) ⟨ys[k], ys[k + 1], ys[k + 2], ys[k + 3]⟩ #[.int .i64 (ys[k]), .int .i64 (ys[k + 1]), .int .i64 (ys[k + 2]), .int .i64 (ys[k + 3])] _ rfl (by exact heap_alloc_at _ _ _ (by simp)) rfl (by simp [Value.oneCell']) hbd hml (by simp; omega) (fun _ _ _ _ h => h) ?_; intro v' w' ho hg hb2))
              · skip
                have hb3 : Below w.heap.size w w' := by
                  refine hbel.trans (Below.trans ?_ hb2)
                  refine Below.mono (B := wr.heap.size) ?_ ha1
                  repeat (first | exact Below.refl _ _ | refine Below.drew ?_ | refine Below.setCell ?_ (by simp) _ | refine Below.alloc ?_ (by simp) _)
                clear hown hg hb2
                go_wp2
                all_goals
                  have L := fun A cc h1 h2 hA => RDec.next (n := n) (B := w.heap.size) (T := 35) (b1 := b1) (o1 := o1) (k := k) (r := r) (j := 4) (cc := cc) (A := A) (ys := ys) (w := w) hk hk2 (by omega) (by omega) h1 h2 hA ho hxl HD.out (dec_at3 (by omega) HM.out) hb3
                  first
                    | exact L _ _ (by omega) (by omega) (by intro _; first | rfl | (rw [if_neg (by omega)]) | (exfalso; omega))
                    | exact ⟨⟨_, _, _, (L _ _ (by omega) (by omega) (by intro _; first | rfl | (exfalso; omega))).1, rfl, rfl, rfl⟩, (by show r - 4 < r; omega)⟩
      · go_wp2
        go_ret
        refine ⟨_, rfl, ?_, hbel⟩
        rw [← HS.out, ← HD.out, List.drop_eq_nil_of_le (by omega), dec, List.append_nil]
        exact hown
end Go.Proofs.Ytadoehlhfccacaa
