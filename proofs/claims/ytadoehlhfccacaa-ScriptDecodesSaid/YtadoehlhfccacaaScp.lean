/- mk.Script: some bytes, for every deck. Condition: at most 30 operations. -/
import Derived.Test.YtadoehlhfccacaaScpS
import Derived.Test.YtadoehlhfccacaaDo
import Derived.Test.YtadoehlhfccacaaOp
import Derived.Test.YtadoehlhfccacaaGrN
namespace Go.Proofs.Ytadoehlhfccacaa
open Go.RowKit
set_option linter.unusedVariables false

theorem one_byte : ∀ w x cs, byteE.rel w x cs → ∀ u ∈ cs, u.oneCell' = true := by
  intro w x cs h u hu
  have h' : cs = [.int .u8 x] := h
  subst h'
  simp at hu; subst hu; rfl
theorem Rd.one {w : World} {b c : Nat} {o : Op4} (h : w.heap[b]? = some (.cells #[.int .i64 o.c, .int .i64 o.x, .int .i64 o.y, .int .i64 o.z] 35 (0, 0))) (hc : 1 ≤ c) (hm : c ≤ maxLen) : Rd op4E w (.slice (some ⟨b, 0, none⟩) 1 c) [o] := by
  refine ⟨_, c, rfl, hc, hm, .inr ⟨b, 0, rfl, fun i hi => ⟨Op4.cells o, ?_, fun j hj => ?_⟩⟩⟩
  · have : i = 0 := by simp at hi; omega
    subst this; rfl
  · have : i = 0 := by simp at hi; omega
    subst this
    rw [cell_block h]
    simp [op4E] at hj
    simp [op4E, Op4.cells]

set_option maxRecDepth 100000 in
set_option maxHeartbeats 8000000 in
theorem script_any (B gd : Nat) (n : Nat) (w : World) (hd : Deck B w gd) (hn : n ≤ 30) :
    Calls Try.prog 12 #[.pointer (some ⟨gd, 0, none⟩), .int .i64 n] w fun e w' => ∃ v bs, e = .returned v ∧ Rd byteE w' v bs ∧ (∀ x ∈ bs, 0 ≤ x ∧ x ≤ 255) ∧ bs.length ≤ 4 * n ∧ Deck B w' gd ∧ w.grownBy w' (some gd) := by
  have HD := Lib.hid hd
  have hgl := hd.lt
  clear hd
  go_enter Try.func12, Try.ntmps12
  go_wp2_with fail
  refine (gnew_any _).mono ?_
  rintro e w1 ⟨rb, nv, uv, rv, g, rfl, hm, hok, hb1⟩
  obtain ⟨na, nc, ua, uc, rc, rfl, rfl, rfl⟩ := hm.forms
  have HS0 : Hid (ScS w B gd w1.heap.size 0 (.slice none 0 0) [] rb (.slice na g.nodes.length nc) (.slice ua g.used.length uc) (.slice (some ⟨rb, 0, none⟩) g.roots.length rc) g (w1.alloc (.cells #[.slice na g.nodes.length nc, .slice ua g.used.length uc, .slice (some ⟨rb, 0, none⟩) g.roots.length rc] 45))) :=
    Lib.hid ⟨grown_below (grown_below (grown_refl _ _) hb1) ((Below.refl _ _).alloc hb1.size _), (HD.out.below hb1 hgl).alloc _, hgl, Own.nil _ _ _ _, by simp, hm.keep fun k hk => Below.heap_alloc _ _ _ hk, hok, heap_alloc_new _ _, hb1.size⟩
  clear hm hok hb1
  go_wp2
  go_loopw [6, 7] (fun v i wr => ScL w B gd w1.heap.size n v i wr) (fun _ i _ => n - (intOf i).toNat)
  case atStart => exact ⟨0, [], rb, _, _, _, g, Nat.zero_le _, rfl, by simp, HS0.out⟩
  case round =>
    obtain ⟨k, bs, rb, nv, uv, rv, g, hk, rfl, hbl, hS⟩ := hrel.out
    clear hrel HS0
    generalize w1.heap.size = p at *
    have HS := Lib.hid hS
    obtain ⟨ba, bc, rfl⟩ := own_form hS.own
    clear hS
    by_cases hlt : k < n
    · go_wp2_with fail
      refine (left_any B gd _ HS.out.dk).mono ?_
      rintro e w2 ⟨⟨lb, rfl⟩, nq, rfl⟩
      have HS2 := Lib.hid (HS.out.low (grown_drew (grown_refl _ _) nq) (HS.out.dk.drew nq))
      clear HS
      cases lb with
      | true =>
        go_wp2_with fail
        refine (next_any B gd 40 _ HS2.out.dk (by omega) (by omega)).mono ?_
        rintro e w3 ⟨r, hr0, hr1, rfl, hd3, hg3⟩
        have HS3 := Lib.hid (HS2.out.low hg3 hd3)
        clear hd3 hg3 HS2
        by_cases h39 : r = 39
        · subst h39
          go_wp2_with fail
          refine (next_any B gd 256 _ HS3.out.dk (by omega) (by omega)).mono ?_
          rintro e w4 ⟨r4, hr40, hr41, rfl, hd4, hg4⟩
          have HS4 := Lib.hid (HS3.out.low hg4 hd4)
          clear hd4 hg4 HS3
          have hw8 : IntKind.u8.wrap r4 = r4 := by rw [IntKind.wrap_u8]; omega
          have hws := HS4.out.gr.size
          have hbytes : (bs.length + 1) * 1 ≤ 140737488355328 := by omega
          have hml : bs.length + 1 ≤ maxLen := by unfold maxLen; omega
          go_wp2_with (at_builtin; go_must (refine wpList_append_lit byteE byteS rfl _ _ rfl w.heap.size _ bs rfl HS4.out.own r4 _ _ rfl rfl rfl ?_ hbytes hml hws (fun _ _ _ _ h => h) ?_))
          · simp [Value.oneCell']
          · intro v' w' ho hg hb2
            have HS5 := Lib.hid ((HS4.out.below ((Below.refl _ _).alloc (Nat.le_refl _) _)).bytes ho hg ((Below.refl _ _).grown hg (by simp; omega) (fun q hq => (HS4.out.own.lt q hq).1)) (fun x hx => by rw [List.mem_singleton] at hx; subst hx; omega))
            clear ho hg hb2
            go_wp2
            go_roundw
            case rel => exact ⟨k + 1, _, _, _, _, _, _, by omega, by go_num, by simp; omega, HS5.out.more (by omega)⟩
            case measure => simp [intOf]; omega
        · have h39b : (r == 39) = false := by simpa using h39
          clear h39
          have hsz := HS3.out.size
          obtain ⟨c0, f0⟩ := HS3.out.c0
          obtain ⟨c1, f1⟩ := HS3.out.c1
          obtain ⟨c2, f2⟩ := HS3.out.c2
          have hws := HS3.out.gr.size
          obtain ⟨na, nc, ua, uc, rc, rfl, rfl, rfl⟩ := HS3.out.gm.forms
          have HUL := Lib.hid HS3.out.ok.ul
          go_wp2_with fail
          refine (op_any B gd _ HS3.out.dk na (some ⟨rb, 0, none⟩) _ nc _ rc _ g.used HS3.out.gm.used.rd (by have := HUL.out; omega)).mono ?_
          rintro e w4 ⟨o, rfl, hoo, hd4, hg4⟩
          have HS4 := Lib.hid (HS3.out.low hg4 hd4)
          have HOO := Lib.hid hoo
          clear hd4 hg4 hoo c0 c1 c2 f0 f1 f2 hsz hws
          go_wp2_with fail
          refine (rencode_any _ [o] _ (Rd.one (heap_alloc_at _ _ _ (by simp)) (by omega) (by unfold maxLen; omega)) (fun o' ho' => ?_) (by simp)).mono ?_
          · rw [List.mem_singleton] at ho'
            subst ho'
            obtain ⟨h1, h2, h3, h4, _⟩ := HOO.out
            exact ⟨by omega, by omega, by omega, by omega⟩
          rintro e w5 ⟨r5, rfl, ho5, hb5⟩
          have HS5 := Lib.hid (HS4.out.below ((((Below.refl _ _).alloc (Nat.le_refl _) _).alloc (by simp) _).trans (hb5.mono (by simp; omega))))
          have hop : w5.heap[w4.heap.size]? = some (.cells #[.int .i64 o.c, .int .i64 o.x, .int .i64 o.y, .int .i64 o.z] 35 (0, 0)) := below_block hb5 (by simp; omega) (alloc_block (heap_alloc_new _ _))
          have HR5 := Lib.hid ho5.rd
          have hel : (enc [o]).length ≤ 4 := by have := enc_length [o]; simpa using this
          have hws := HS5.out.gr.size
          have hbytes : (bs.length + (enc [o]).length) * 1 ≤ 140737488355328 := by omega
          have hml : bs.length + (enc [o]).length ≤ maxLen := by unfold maxLen; omega
          have HOP := Lib.hid hop
          obtain ⟨ra5, rc5, rfl⟩ := own_form ho5
          clear ho5 hb5 hop HS4
          go_wp2_with (at_builtin; go_must (refine wpList_append_rd byteE byteS rfl _ _ rfl w.heap.size _ bs rfl HS5.out.own _ (enc [o]) rfl HR5.out one_byte hbytes hml hws (fun _ _ _ _ h => h) ?_))
          intro v' w6 ho hg hb6 _
          have HS6 := Lib.hid (HS5.out.bytes ho hg hb6 (enc_range [o]))
          have hop6 := grown_block hg HOP.out (HS5.out.own.ne_block HOP.out (by decide))
          have o0 : w6.cell? ⟨w4.heap.size, 0, none⟩ = some (.int .i64 o.c) := by rw [cell_block hop6]; rfl
          have o1 : w6.cell? ⟨w4.heap.size, 1, none⟩ = some (.int .i64 o.x) := by rw [cell_block hop6]; rfl
          have o2 : w6.cell? ⟨w4.heap.size, 2, none⟩ = some (.int .i64 o.y) := by rw [cell_block hop6]; rfl
          have o3 : w6.cell? ⟨w4.heap.size, 3, none⟩ = some (.int .i64 o.z) := by rw [cell_block hop6]; rfl
          have ol := block_lt hop6
          have hblen : (bs ++ enc [o]).length ≤ 4 * (k + 1) := by rw [List.length_append]; omega
          have HBL := Lib.hid hblen
          clear hws hbytes hml hel
          have hsz := HS6.out.size
          obtain ⟨c0, f0⟩ := HS6.out.c0
          obtain ⟨c1, f1⟩ := HS6.out.c1
          obtain ⟨c2, f2⟩ := HS6.out.c2
          have hws := HS6.out.gr.size
          clear ho hg hb6 hop6 hblen HS5 HOP
          generalize bs ++ enc [o] = bs' at *
          go_wp2_with fail
          refine (do_any _ w.heap.size rb hws _ _ _ g HS6.out.gm k HS6.out.ok (by omega) o HOO.out).mono ?_
          rintro e w7 ⟨rb', nv', uv', rv', g', a1, a2, rfl, hm7, hok7, hb7⟩
          have HS7 := Lib.hid (HS6.out.below hb7)
          have HM7 := Lib.hid hm7
          have HOK7 := Lib.hid hok7
          obtain ⟨na', nc', ua', uc', rc', rfl, rfl, rfl⟩ := hm7.forms
          clear hm7 hok7 hb7 HS6 c0 c1 c2 f0 f1 f2 hsz hws o0 o1 o2 o3 ol
          have hsz := HS7.out.size
          obtain ⟨c0, f0⟩ := HS7.out.c0
          obtain ⟨c1, f1⟩ := HS7.out.c1
          obtain ⟨c2, f2⟩ := HS7.out.c2
          have hws := HS7.out.gr.size
          go_wp2
          go_roundw
          case rel => exact ⟨k + 1, _, _, _, _, _, _, by omega, by go_num, HBL.out, HS7.out.graph HM7.out HOK7.out⟩
          case measure => simp [intOf]; omega
      | false =>
        by_cases h3 : k < 3
        · have hk3 : decide ((k : Int) < 3) = true := by simp; omega
          go_wp2_with fail
          refine (next_any B gd 40 _ HS2.out.dk (by omega) (by omega)).mono ?_
          rintro e w3 ⟨r, hr0, hr1, rfl, hd3, hg3⟩
          have HS3 := Lib.hid (HS2.out.low hg3 hd3)
          clear hd3 hg3 HS2
          by_cases h39 : r = 39
          · subst h39
            go_wp2_with fail
            refine (next_any B gd 256 _ HS3.out.dk (by omega) (by omega)).mono ?_
            rintro e w4 ⟨r4, hr40, hr41, rfl, hd4, hg4⟩
            have HS4 := Lib.hid (HS3.out.low hg4 hd4)
            clear hd4 hg4 HS3
            have hw8 : IntKind.u8.wrap r4 = r4 := by rw [IntKind.wrap_u8]; omega
            have hws := HS4.out.gr.size
            have hbytes : (bs.length + 1) * 1 ≤ 140737488355328 := by omega
            have hml : bs.length + 1 ≤ maxLen := by unfold maxLen; omega
            go_wp2_with (at_builtin; go_must (refine wpList_append_lit byteE byteS rfl _ _ rfl w.heap.size _ bs rfl HS4.out.own r4 _ _ rfl rfl rfl ?_ hbytes hml hws (fun _ _ _ _ h => h) ?_))
            · simp [Value.oneCell']
            · intro v' w' ho hg hb2
              have HS5 := Lib.hid ((HS4.out.below ((Below.refl _ _).alloc (Nat.le_refl _) _)).bytes ho hg ((Below.refl _ _).grown hg (by simp; omega) (fun q hq => (HS4.out.own.lt q hq).1)) (fun x hx => by rw [List.mem_singleton] at hx; subst hx; omega))
              clear ho hg hb2
              go_wp2
              go_roundw
              case rel => exact ⟨k + 1, _, _, _, _, _, _, by omega, by go_num, by simp; omega, HS5.out.more (by omega)⟩
              case measure => simp [intOf]; omega
          · have h39b : (r == 39) = false := by simpa using h39
            clear h39
            have hsz := HS3.out.size
            obtain ⟨c0, f0⟩ := HS3.out.c0
            obtain ⟨c1, f1⟩ := HS3.out.c1
            obtain ⟨c2, f2⟩ := HS3.out.c2
            have hws := HS3.out.gr.size
            obtain ⟨na, nc, ua, uc, rc, rfl, rfl, rfl⟩ := HS3.out.gm.forms
            have HUL := Lib.hid HS3.out.ok.ul
            go_wp2_with fail
            refine (op_any B gd _ HS3.out.dk na (some ⟨rb, 0, none⟩) _ nc _ rc _ g.used HS3.out.gm.used.rd (by have := HUL.out; omega)).mono ?_
            rintro e w4 ⟨o, rfl, hoo, hd4, hg4⟩
            have HS4 := Lib.hid (HS3.out.low hg4 hd4)
            have HOO := Lib.hid hoo
            clear hd4 hg4 hoo c0 c1 c2 f0 f1 f2 hsz hws
            go_wp2_with fail
            refine (rencode_any _ [o] _ (Rd.one (heap_alloc_at _ _ _ (by simp)) (by omega) (by unfold maxLen; omega)) (fun o' ho' => ?_) (by simp)).mono ?_
            · rw [List.mem_singleton] at ho'
              subst ho'
              obtain ⟨h1, h2, h3, h4, _⟩ := HOO.out
              exact ⟨by omega, by omega, by omega, by omega⟩
            rintro e w5 ⟨r5, rfl, ho5, hb5⟩
            have HS5 := Lib.hid (HS4.out.below ((((Below.refl _ _).alloc (Nat.le_refl _) _).alloc (by simp) _).trans (hb5.mono (by simp; omega))))
            have hop : w5.heap[w4.heap.size]? = some (.cells #[.int .i64 o.c, .int .i64 o.x, .int .i64 o.y, .int .i64 o.z] 35 (0, 0)) := below_block hb5 (by simp; omega) (alloc_block (heap_alloc_new _ _))
            have HR5 := Lib.hid ho5.rd
            have hel : (enc [o]).length ≤ 4 := by have := enc_length [o]; simpa using this
            have hws := HS5.out.gr.size
            have hbytes : (bs.length + (enc [o]).length) * 1 ≤ 140737488355328 := by omega
            have hml : bs.length + (enc [o]).length ≤ maxLen := by unfold maxLen; omega
            have HOP := Lib.hid hop
            obtain ⟨ra5, rc5, rfl⟩ := own_form ho5
            clear ho5 hb5 hop HS4
            go_wp2_with (at_builtin; go_must (refine wpList_append_rd byteE byteS rfl _ _ rfl w.heap.size _ bs rfl HS5.out.own _ (enc [o]) rfl HR5.out one_byte hbytes hml hws (fun _ _ _ _ h => h) ?_))
            intro v' w6 ho hg hb6 _
            have HS6 := Lib.hid (HS5.out.bytes ho hg hb6 (enc_range [o]))
            have hop6 := grown_block hg HOP.out (HS5.out.own.ne_block HOP.out (by decide))
            have o0 : w6.cell? ⟨w4.heap.size, 0, none⟩ = some (.int .i64 o.c) := by rw [cell_block hop6]; rfl
            have o1 : w6.cell? ⟨w4.heap.size, 1, none⟩ = some (.int .i64 o.x) := by rw [cell_block hop6]; rfl
            have o2 : w6.cell? ⟨w4.heap.size, 2, none⟩ = some (.int .i64 o.y) := by rw [cell_block hop6]; rfl
            have o3 : w6.cell? ⟨w4.heap.size, 3, none⟩ = some (.int .i64 o.z) := by rw [cell_block hop6]; rfl
            have ol := block_lt hop6
            have hblen : (bs ++ enc [o]).length ≤ 4 * (k + 1) := by rw [List.length_append]; omega
            have HBL := Lib.hid hblen
            clear hws hbytes hml hel
            have hsz := HS6.out.size
            obtain ⟨c0, f0⟩ := HS6.out.c0
            obtain ⟨c1, f1⟩ := HS6.out.c1
            obtain ⟨c2, f2⟩ := HS6.out.c2
            have hws := HS6.out.gr.size
            clear ho hg hb6 hop6 hblen HS5 HOP
            generalize bs ++ enc [o] = bs' at *
            go_wp2_with fail
            refine (do_any _ w.heap.size rb hws _ _ _ g HS6.out.gm k HS6.out.ok (by omega) o HOO.out).mono ?_
            rintro e w7 ⟨rb', nv', uv', rv', g', a1, a2, rfl, hm7, hok7, hb7⟩
            have HS7 := Lib.hid (HS6.out.below hb7)
            have HM7 := Lib.hid hm7
            have HOK7 := Lib.hid hok7
            obtain ⟨na', nc', ua', uc', rc', rfl, rfl, rfl⟩ := hm7.forms
            clear hm7 hok7 hb7 HS6 c0 c1 c2 f0 f1 f2 hsz hws o0 o1 o2 o3 ol
            have hsz := HS7.out.size
            obtain ⟨c0, f0⟩ := HS7.out.c0
            obtain ⟨c1, f1⟩ := HS7.out.c1
            obtain ⟨c2, f2⟩ := HS7.out.c2
            have hws := HS7.out.gr.size
            go_wp2
            go_roundw
            case rel => exact ⟨k + 1, _, _, _, _, _, _, by omega, by go_num, HBL.out, HS7.out.graph HM7.out HOK7.out⟩
            case measure => simp [intOf]; omega
        · have hk3 : decide ((k : Int) < 3) = false := by simp; omega
          go_wp2
          go_ret
          exact ⟨_, bs, rfl, HS2.out.own.rd, HS2.out.rng, by omega, HS2.out.dk, HS2.out.gr⟩
    · go_wp2
      go_ret
      exact ⟨_, bs, rfl, HS.out.own.rd, HS.out.rng, by omega, HS.out.dk, HS.out.gr⟩
end Go.Proofs.Ytadoehlhfccacaa
