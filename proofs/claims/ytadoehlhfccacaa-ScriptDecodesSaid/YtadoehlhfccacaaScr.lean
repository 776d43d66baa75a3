/- Decoding scripts: what operands and the two Decode functions compute. -/
import Derived.Test.YtadoehlhfccacaaRows
import Derived.Test.YtadoehlhfccacaaBase
import Derived.Deep.QuietTactic
import Derived.BigQuiet
namespace Go.Proofs.Ytadoehlhfccacaa
open Go.RowKit

structure Op4 where
  c : Int
  x : Int
  y : Int
  z : Int
deriving DecidableEq, Inhabited
def Op4.cells (o : Op4) : List Value := [.int .i64 o.c, .int .i64 o.x, .int .i64 o.y, .int .i64 o.z]
def op4E : El Op4 := flat 4 Op4.cells fun _ => rfl
def byteE : El Int := flat 1 (fun x => [.int .u8 x]) fun _ => rfl
def intE : El Int := flat 1 (fun x => [.int .i64 x]) fun _ => rfl
/-- operands of a code -/
def opn (c : Int) : Int := if c = 1 ∨ c = 2 ∨ c = 4 ∨ c = 6 then 2 else if c = 3 ∨ c = 5 then 3 else if c = 7 ∨ c = 9 then 1 else if c = 8 ∨ c = 10 then 0 else -1
theorem opn_bd (c : Int) : -1 ≤ opn c ∧ opn c ≤ 3 := by unfold opn; repeat' split <;> omega
def arg (n : Nat) (r : List Int) (i : Nat) : Int := if i < n then r.getD i 0 else 0
def op4 (c : Int) (r : List Int) : Op4 := ⟨c, arg (opn c).toNat r 0, arg (opn c).toNat r 1, arg (opn c).toNat r 2⟩
def dec (l : List Int) : List Op4 :=
  match l with
  | [] => []
  | c :: r => if opn c < 0 then ⟨0, 0, 0, 0⟩ :: dec r else if r.length < (opn c).toNat then [⟨0, 0, 0, 0⟩] else op4 c r :: dec (r.drop (opn c).toNat)
termination_by l.length
decreasing_by
  · simp
  · simp; omega

theorem dec_bad {c : Int} {r : List Int} (h : opn c < 0) : dec (c :: r) = ⟨0, 0, 0, 0⟩ :: dec r := by rw [dec, if_pos h]
theorem dec_short {c : Int} {r : List Int} {m : Nat} (h : opn c = m) (h2 : r.length < m) : dec (c :: r) = [⟨0, 0, 0, 0⟩] := by
  rw [dec, if_neg (by omega), if_pos (by omega)]
theorem dec_op {c : Int} {r : List Int} {m : Nat} (h : opn c = m) (h2 : m ≤ r.length) : dec (c :: r) = op4 c r :: dec (r.drop m) := by
  rw [dec, if_neg (by omega), if_neg (by omega), h]; rfl

theorem ret_int {k : IntKind} {a b : Int} (h : a = b) : Ending.returned (.int k a) = .returned (.int k b) := by rw [h]
theorem operands_any (c : Int) (w : World) :
    Calls Try.prog 18 #[.int .i64 c] w fun e w' => e = .returned (.int .i64 (opn c)) ∧ w = w' := by
  go_enter Try.func18, Try.ntmps18
  go_wp2
  all_goals (go_ret; exact ⟨ret_int (by simp_all [opn]), rfl⟩)
theorem operands_at (c m : Int) (w : World) (h : Hid (opn c = m)) : Calls Try.prog 18 #[.int .i64 c] w fun e w' => e = .returned (.int .i64 m) ∧ w = w' :=
  (operands_any c w).mono fun e w' ⟨h1, h2⟩ => ⟨by rw [h1, h.out], h2⟩

theorem opS : SlT Try.prog 25 35 4 32 (.agg #[.int .i64 0, .int .i64 0, .int .i64 0, .int .i64 0]) := ⟨Try.underlying25, by kernel_rfl, rfl, by decide⟩

theorem dec_at0 {ys : List Int} {k : Nat} (h : k < ys.length) (hm : opn ys[k] = 0) : dec (ys.drop k) = ⟨ys[k], 0, 0, 0⟩ :: dec (ys.drop (k + 1 + 0)) := by
  rw [List.drop_eq_getElem_cons h, dec_op (m := 0) hm (Nat.zero_le _)]; simp [op4, arg, hm]
theorem dec_at1 {ys : List Int} {k : Nat} (h : k + 1 < ys.length) (hm : opn ys[k] = 1) : dec (ys.drop k) = ⟨ys[k], ys[k + 1], 0, 0⟩ :: dec (ys.drop (k + 1 + 1)) := by
  rw [List.drop_eq_getElem_cons (by omega), dec_op (m := 1) hm (by simp; omega)]; simp [op4, arg, hm, h]
theorem dec_at2 {ys : List Int} {k : Nat} (h : k + 2 < ys.length) (hm : opn ys[k] = 2) : dec (ys.drop k) = ⟨ys[k], ys[k + 1], ys[k + 2], 0⟩ :: dec (ys.drop (k + 1 + 2)) := by
  rw [List.drop_eq_getElem_cons (by omega), dec_op (m := 2) hm (by simp; omega)]; simp [op4, arg, hm, show k + 1 < ys.length by omega, show k + 1 + 1 < ys.length by omega]
theorem dec_at3 {ys : List Int} {k : Nat} (h : k + 3 < ys.length) (hm : opn ys[k] = 3) : dec (ys.drop k) = ⟨ys[k], ys[k + 1], ys[k + 2], ys[k + 3]⟩ :: dec (ys.drop (k + 1 + 3)) := by
  rw [List.drop_eq_getElem_cons (by omega), dec_op (m := 3) hm (by simp; omega)]; simp [op4, arg, hm, show k + 1 < ys.length by omega, show k + 1 + 1 < ys.length by omega, show k + 1 + 2 < ys.length by omega]

set_option maxRecDepth 100000 in
set_option maxHeartbeats 4000000 in
theorem decode_any (v : Value) (bs : List Int) (w : World) (hv : Rd byteE w v bs) (h0 : ∀ x ∈ bs, 0 ≤ x ∧ x ≤ 255) :
    Calls Try.prog 9 #[v] w fun e w' => ∃ r, e = .returned r ∧ Own op4E w' w.heap.size 35 r (dec (bs.take 4096)) ∧ Below w.heap.size w w' := by
  obtain ⟨a1, c1, rfl, hl1, hl2, hv⟩ := hv.flat
  unfold maxLen at hl2
  obtain ⟨ys, hys⟩ : ∃ ys, ys = bs.take 4096 := ⟨_, rfl⟩
  have hyl : ys.length = min 4096 bs.length := by rw [hys, List.length_take]
  have HY := Lib.hid hyl; clear hyl
  by_cases hL : bs.length ≤ 4096
  all_goals
    go_enter Try.func9, Try.ntmps9
    go_wp2
    go_loopw [4, 3] (fun i o wr => ∃ (k : Nat) (xs : List Op4), k ≤ bs.length ∧ k ≤ 4096 ∧ i = .int .i64 k ∧ Own op4E wr w.heap.size 35 o xs ∧ xs.length ≤ k ∧ xs ++ dec (ys.drop k) = dec ys ∧ Below w.heap.size w wr) (fun i _ _ => 4096 - (intOf i).toNat)
    case atStart => exact ⟨0, [], by omega, by omega, rfl, Own.nil _ _ _ _, by simp, by simp, Below.refl _ _⟩
    case round =>
      obtain ⟨k, xs, hk, hk2, rfl, hown, hxl, hdec, hbel⟩ := hrel
      have HD := Lib.hid hdec; clear hdec
      by_cases hlt : k < bs.length ∧ k < 4096
      · obtain ⟨hlt1, hlt2⟩ := hlt
        have hky : k < ys.length := by have := HY.out; omega
        rcases hv with hv | ⟨b1, o1, rfl, hb, hv⟩
        · simp [hv] at hlt1
        have hcell : ∀ j (h : j < ys.length), wr.cell? ⟨b1, o1 + j, none⟩ = some (.int .u8 ys[j]) := by
          intro j h
          have := HY.out
          have hx := hv j (by omega) 0 (by omega)
          simp at hx
          subst hys
          rw [hbel.cell (p := ⟨b1, o1 + j, none⟩) (hb (by omega))]
          simpa using hx
        have hr : ∀ j (h : j < ys.length), 0 ≤ ys[j] ∧ ys[j] ≤ 255 := by
          intro j h
          exact h0 _ (by subst hys; exact List.mem_of_mem_take (List.getElem_mem h))
        have x0 := hcell k hky
        have r0 := hr k hky
        have hdr : ys.drop k = ys[k] :: ys.drop (k + 1) := List.drop_eq_getElem_cons hky
        have HR := Lib.hid hdr; clear hdr
        have HC := Lib.hid hcell; clear hcell
        have HV := Lib.hid hr; clear hr hv
        have HS := Lib.hid hys; clear hys
        have ha1 : w.heap.size ≤ wr.heap.size := hbel.size
        obtain ⟨m, hm⟩ : ∃ m, m = opn ys[k] := ⟨_, rfl⟩
        have hm1 : -1 ≤ m ∧ m ≤ 3 := by rw [hm]; exact opn_bd _
        have HM := Lib.hid hm.symm; clear hm
        have hbd : (xs.length + 1) * 32 ≤ 140737488355328 := by omega
        have hml : xs.length + 1 ≤ maxLen := by unfold maxLen; omega
        by_cases hn : m < 0
        · go_wp2_with (first | (go_at_call 18; refine (operands_at _ _ _ HM).mono ?_; rintro e w' ⟨rfl, rfl⟩) | (at_builtin; go_must (refine wpList_append_lit op4E opS rfl _ _ rfl w.heap.size _ xs rfl hown ⟨0, 0, 0, 0⟩ _ _ rfl rfl rfl ?_ hbd hml ha1 (fun _ _ _ _ h => h) ?_)))
          · simp [Value.oneCell']
          · intro v' w' ho hg hb2
            clear hown hg
            go_wp2
            go_roundw
            case rel =>
              refine ⟨k + 1, xs ++ [⟨0, 0, 0, 0⟩], by omega, by omega, by go_num, ho, by simp; omega, ?_, hbel.trans hb2⟩
              rw [← HD.out, HR.out, dec_bad (by rw [HM.out]; exact hn), List.append_assoc]; rfl
            case measure => simp [intOf]; omega
        · by_cases hsh : ys.length < k + 1 + m.toNat
          · have hyl := HY.out
            have hs1 : bs.length < k + 1 + m.toNat ∨ 4096 < k + 1 + m.toNat := by omega
            clear hyl
            go_wp2_with (first | (go_at_call 18; refine (operands_at _ _ _ HM).mono ?_; rintro e w' ⟨rfl, rfl⟩) | (at_builtin; go_must (refine wpList_append_lit op4E opS rfl _ _ rfl w.heap.size _ xs rfl hown ⟨0, 0, 0, 0⟩ _ _ rfl rfl rfl ?_ hbd hml ha1 (fun _ _ _ _ h => h) ?_)))
            · simp [Value.oneCell']
            · intro v' w' ho hg hb2
              clear hown hg
              go_wp2
              go_ret
              refine ⟨_, rfl, ?_, hbel.trans hb2⟩
              rw [← HS.out, ← HD.out, HR.out, dec_short (m := m.toNat) (by rw [HM.out]; omega) (by rw [List.length_drop]; omega)]
              exact ho
          · have hyl := HY.out
            have hs1 : k + 1 + m.toNat ≤ bs.length ∧ k + 1 + m.toNat ≤ 4096 := by omega
            obtain ⟨hs1, hs2⟩ := hs1
            have hb1 : b1 < wr.heap.size := Nat.lt_of_lt_of_le (hb (by omega)) ha1
            have hb2 : b1 < wr.heap.size + 1 := by omega
            clear hb
            clear hyl
            obtain rfl | rfl | rfl | rfl : m = 0 ∨ m = 1 ∨ m = 2 ∨ m = 3 := by omega
            · go_wp2_with (go_at_call 18; refine (operands_at _ _ _ HM).mono ?_; rintro e w' ⟨rfl, rfl⟩)
              refine wp_loop_rounds 1 ?_
              rw [rounds_succ]
              go_wp2_with (at_builtin; go_must (refine wpList_append_lit op4E opS rfl _ _ rfl w.heap.size _ xs rfl (hown.below ?_) ⟨ys[k], 0, 0, 0⟩ _ _ rfl ?_ rfl ?_ hbd hml ?_ (fun _ _ _ _ h => h) ?_))
              · repeat (first | exact Below.refl _ _ | refine Below.setCell ?_ (by simp) _ | refine Below.alloc ?_ (by simp) _)
              · simp
              · simp [Value.oneCell']
              · simp; omega
              · intro v' w' ho hg hb2
                clear hown hg
                go_wp2
                go_roundw
                case rel =>
                  refine ⟨k + 1 + 0, xs ++ [⟨ys[k], 0, 0, 0⟩], by omega, by omega, by go_num, ho, by simp; omega, ?_, hbel.trans (Below.trans ?_ hb2)⟩
                  · rw [← HD.out, dec_at0 (by omega) HM.out, List.append_assoc]; rfl
                  · refine Below.mono (B := wr.heap.size) ?_ ha1
                    repeat (first | exact Below.refl _ _ | refine Below.setCell ?_ (by simp) _ | refine Below.alloc ?_ (by simp) _)
                case measure => simp [intOf]; omega
            · have x1 := HC.out (k + 1) (by have := HY.out; omega)
              have r1 := HV.out (k + 1) (by have := HY.out; omega)
              go_wp2_with (go_at_call 18; refine (operands_at _ _ _ HM).mono ?_; rintro e w' ⟨rfl, rfl⟩)
              refine wp_loop_rounds 2 ?_
              rw [rounds_succ]
              go_wp2
              rw [rounds_succ]
              go_wp2_with (at_builtin; go_must (refine wpList_append_lit op4E opS rfl _ _ rfl w.heap.size _ xs rfl (hown.below ?_) ⟨ys[k], ys[k + 1], 0, 0⟩ _ _ rfl ?_ rfl ?_ hbd hml ?_ (fun _ _ _ _ h => h) ?_))
              · repeat (first | exact Below.refl _ _ | refine Below.setCell ?_ (by simp) _ | refine Below.alloc ?_ (by simp) _)
              · simp
              · simp [Value.oneCell']
              · simp; omega
              · intro v' w' ho hg hb2
                clear hown hg
                go_wp2
                go_roundw
                case rel =>
                  refine ⟨k + 1 + 1, xs ++ [⟨ys[k], ys[k + 1], 0, 0⟩], by omega, by omega, by go_num, ho, by simp; omega, ?_, hbel.trans (Below.trans ?_ hb2)⟩
                  · rw [← HD.out, dec_at1 (by omega) HM.out, List.append_assoc]; rfl
                  · refine Below.mono (B := wr.heap.size) ?_ ha1
                    repeat (first | exact Below.refl _ _ | refine Below.setCell ?_ (by simp) _ | refine Below.alloc ?_ (by simp) _)
                case measure => simp [intOf]; omega
            · have x1 := HC.out (k + 1) (by have := HY.out; omega)
              have r1 := HV.out (k + 1) (by have := HY.out; omega)
              have x2 := HC.out (k + 2) (by have := HY.out; omega)
              have r2 := HV.out (k + 2) (by have := HY.out; omega)
              go_wp2_with (go_at_call 18; refine (operands_at _ _ _ HM).mono ?_; rintro e w' ⟨rfl, rfl⟩)
              refine wp_loop_rounds 3 ?_
              rw [rounds_succ]
              go_wp2
              rw [rounds_succ]
              go_wp2
              rw [rounds_succ]
              go_wp2_with (at_builtin; go_must (refine wpList_append_lit op4E opS rfl _ _ rfl w.heap.size _ xs rfl (hown.below ?_) ⟨ys[k], ys[k + 1], ys[k + 2], 0⟩ _ _ rfl ?_ rfl ?_ hbd hml ?_ (fun _ _ _ _ h => h) ?_))
              · repeat (first | exact Below.refl _ _ | refine Below.setCell ?_ (by simp) _ | refine Below.alloc ?_ (by simp) _)
              · simp
              · simp [Value.oneCell']
              · simp; omega
              · intro v' w' ho hg hb2
                clear hown hg
                go_wp2
                go_roundw
                case rel =>
                  refine ⟨k + 1 + 2, xs ++ [⟨ys[k], ys[k + 1], ys[k + 2], 0⟩], by omega, by omega, by go_num, ho, by simp; omega, ?_, hbel.trans (Below.trans ?_ hb2)⟩
                  · rw [← HD.out, dec_at2 (by omega) HM.out, List.append_assoc]; rfl
                  · refine Below.mono (B := wr.heap.size) ?_ ha1
                    repeat (first | exact Below.refl _ _ | refine Below.setCell ?_ (by simp) _ | refine Below.alloc ?_ (by simp) _)
                case measure => simp [intOf]; omega
            · have x1 := HC.out (k + 1) (by have := HY.out; omega)
              have r1 := HV.out (k + 1) (by have := HY.out; omega)
              have x2 := HC.out (k + 2) (by have := HY.out; omega)
              have r2 := HV.out (k + 2) (by have := HY.out; omega)
              have x3 := HC.out (k + 3) (by have := HY.out; omega)
              have r3 := HV.out (k + 3) (by have := HY.out; omega)
              go_wp2_with (go_at_call 18; refine (operands_at _ _ _ HM).mono ?_; rintro e w' ⟨rfl, rfl⟩)
              refine wp_loop_rounds 4 ?_
              rw [rounds_succ]
              go_wp2
              rw [rounds_succ]
              go_wp2
              rw [rounds_succ]
              go_wp2
              rw [rounds_succ]
              go_wp2_with (at_builtin; go_must (refine wpList_append_lit op4E opS rfl _ _ rfl w.heap.size _ xs rfl (hown.below ?_) ⟨ys[k], ys[k + 1], ys[k + 2], ys[k + 3]⟩ _ _ rfl ?_ rfl ?_ hbd hml ?_ (fun _ _ _ _ h => h) ?_))
              · repeat (first | exact Below.refl _ _ | refine Below.setCell ?_ (by simp) _ | refine Below.alloc ?_ (by simp) _)
              · simp
              · simp [Value.oneCell']
              · simp; omega
              · intro v' w' ho hg hb2
                clear hown hg
                go_wp2
                go_roundw
                case rel =>
                  refine ⟨k + 1 + 3, xs ++ [⟨ys[k], ys[k + 1], ys[k + 2], ys[k + 3]⟩], by omega, by omega, by go_num, ho, by simp; omega, ?_, hbel.trans (Below.trans ?_ hb2)⟩
                  · rw [← HD.out, dec_at3 (by omega) HM.out, List.append_assoc]; rfl
                  · refine Below.mono (B := wr.heap.size) ?_ ha1
                    repeat (first | exact Below.refl _ _ | refine Below.setCell ?_ (by simp) _ | refine Below.alloc ?_ (by simp) _)
                case measure => simp [intOf]; omega
      · go_wp2
        go_ret
        refine ⟨_, rfl, ?_, hbel⟩
        have := HY.out
        rw [← hys, ← HD.out, List.drop_eq_nil_of_le (by omega), dec, List.append_nil]
        exact hown
end Go.Proofs.Ytadoehlhfccacaa
