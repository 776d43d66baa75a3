/- The walk of the law on what stays safe. -/
import Derived.Test.YtchdmemgkegefaaMkK
import Derived.Test.YtchdmemgkegefaaIsRow
import Derived.StillTailTactics
namespace Go.Proofs.Ytchdmemgkegefaa
open Go.RowKit
set_option linter.unusedVariables false

theorem SafeP.less {c : Cf} {s n a b a' b' n' : Int} (h : SafeP c s n a b) (h1 : 0 ≤ a') (h2 : a' ≤ a) (h3 : 1 ≤ b') (h4 : b' ≤ b) (h5 : n ≤ n') (h6 : n' ≤ 64) : SafeP c s n' a' b' := by
  obtain ⟨g0, ⟨g1, g2, g3, g4⟩, g5, g6, g7, g8, g9⟩ := h
  have hp : (0 : Int) < 2 ^ s.toNat := Int.pow_pos (by omega)
  have hm : n * 2 ^ s.toNat ≤ n' * 2 ^ s.toNat := Int.mul_le_mul_of_nonneg_right h5 (by omega)
  exact ⟨g0, ⟨g1, g2, by omega, h6⟩, h1, by omega, h3, by omega, by omega⟩
theorem due_val {c : Cf} {s n x : Int} (h : DueP c s n x) (hd : CfDone c) (hp : 3 ≤ s ∧ s ≤ 8 ∧ 2 ≤ n ∧ n ≤ 64) : x = (c.full + 2) * (n * 2 ^ s.toNat) := by
  rcases h with ⟨_, h⟩ | ⟨h, _⟩
  · exact h
  · exact absurd ⟨hd, hp⟩ h
theorem done_more {c : Cf} (h : CfDone c) (hf : c.full ≤ 63) : CfDone ⟨c.name, c.rules, c.full + 1⟩ := by
  obtain ⟨⟨a1, a2, a3, a4, a5, a6⟩, b⟩ := h
  refine ⟨⟨a1, a2, a3, a4, a5, fun hl => ?_⟩, b⟩
  have := a6 hl
  rw [if_pos (b hl)] at this
  dsimp only
  rw [if_pos (b hl)]
  omega

structure MrW (w : World) (q : Nat) (c : Cf) (ra : Option Addr) (rc : Nat) (W : World) : Prop where
  bel : Below w.heap.size w W
  blk : W.heap[q]? = some (.cells #[.string c.name, .slice ra c.rules.length rc, .int .i64 c.full] 24 (0, 0))
  rd : Rd ruleE W (.slice ra c.rules.length rc) c.rules
theorem MrW.keep {w : World} {q : Nat} {c : Cf} {ra : Option Addr} {rc : Nat} {W W' : World} (h : MrW w q c ra rc W) (hb : Below W.heap.size W W') : MrW w q c ra rc W' :=
  ⟨h.bel.trans (hb.mono h.bel.size), below_block hb (block_lt h.blk) h.blk, h.rd.below hb⟩
theorem MrW.cells {w : World} {q : Nat} {c : Cf} {ra : Option Addr} {rc : Nat} {W : World} (h : MrW w q c ra rc W) : q < W.heap.size ∧ W.cell? ⟨q, 0, none⟩ = some (.string c.name) ∧ W.cell? ⟨q, 1, none⟩ = some (.slice ra c.rules.length rc) ∧ W.cell? ⟨q, 2, none⟩ = some (.int .i64 c.full) :=
  ⟨block_lt h.blk, by rw [cell_block h.blk]; rfl, by rw [cell_block h.blk]; rfl, by rw [cell_block h.blk]; rfl⟩
/-- .. and the copy with one more -/
structure MsW (w : World) (q p : Nat) (c : Cf) (ra : Option Addr) (rc : Nat) (W : World) : Prop extends MrW w q c ra rc W where
  cpy : W.heap[p]? = some (.cells #[.string c.name, .slice ra c.rules.length rc, .int .i64 (c.full + 1)] 24 (0, 0))
theorem MsW.keep {w : World} {q p : Nat} {c : Cf} {ra : Option Addr} {rc : Nat} {W W' : World} (h : MsW w q p c ra rc W) (hb : Below W.heap.size W W') : MsW w q p c ra rc W' :=
  ⟨h.toMrW.keep hb, below_block hb (block_lt h.cpy) h.cpy⟩
theorem MsW.cells {w : World} {q p : Nat} {c : Cf} {ra : Option Addr} {rc : Nat} {W : World} (h : MsW w q p c ra rc W) : q < W.heap.size ∧ W.cell? ⟨q, 0, none⟩ = some (.string c.name) ∧ W.cell? ⟨q, 1, none⟩ = some (.slice ra c.rules.length rc) ∧ W.cell? ⟨q, 2, none⟩ = some (.int .i64 c.full) ∧
    p < W.heap.size ∧ W.cell? ⟨p, 0, none⟩ = some (.string c.name) ∧ W.cell? ⟨p, 1, none⟩ = some (.slice ra c.rules.length rc) ∧ W.cell? ⟨p, 2, none⟩ = some (.int .i64 (c.full + 1)) :=
  ⟨block_lt h.blk, by rw [cell_block h.blk]; rfl, by rw [cell_block h.blk]; rfl, by rw [cell_block h.blk]; rfl, block_lt h.cpy, by rw [cell_block h.cpy]; rfl, by rw [cell_block h.cpy]; rfl, by rw [cell_block h.cpy]; rfl⟩

set_option maxRecDepth 100000 in
set_option maxHeartbeats 8000000 in
theorem boundMore_walk (w : World) (u : Value) (l : List Int) (hu : Rd i64E w u l) (hl : ∀ x ∈ l, I64 x) (sh : Int) (_ : (Lit.int .i64 sh).wf = true) (n : Int) (_ : (Lit.int .i64 n).wf = true) (live : Int) (_ : (Lit.int .i64 live).wf = true) (words : Int) (_ : (Lit.int .i64 words).wf = true) (by' : Int) (_ : (Lit.int .i64 by').wf = true) :
    Calls Try.prog 5 #[u, .int .i64 sh, .int .i64 n, .int .i64 live, .int .i64 words, .int .i64 by'] w fun e w' => e = .returned (.bool true) ∧ Below w.heap.size w w' := by
  have HU := Lib.hid hu
  have HL := Lib.hid hl
  clear hl
  obtain ⟨a2, c2, rfl, hc1, hc2, hvc⟩ := hu
  clear hvc
  go_enter Try.func5, Try.ntmps5
  go_wp2_with fail
  refine (new_any _ l _ HU.out HL.out).mono ?_
  rintro e w1 ⟨g, rfl, hdk, hb1⟩
  have HD1 := Lib.hid hdk
  have HB1 := Lib.hid hb1
  have hs1 := hb1.size
  clear hdk hb1
  go_wp2_with fail
  refine (mkcomplete_any w.heap.size g _ HD1.out hs1).mono ?_
  rintro e w2 ⟨v, c, rfl, ho, hdn, hdk⟩
  have hb2 : Below w.heap.size w w2 := HB1.out.grown hdk.gr hs1 (fun q hq => by injection hq with hq; have := HD1.out.1; omega)
  have HO := Lib.hid ho.v
  obtain ⟨rv, rfl, hrd⟩ := ho.v
  obtain ⟨ra, rc, rfl, _⟩ := id hrd
  have HDN := Lib.hid hdn
  have hsz : c.name.size ≤ 9223372036854775807 := by have := hdn.1.1.1.2.1; omega
  have MR : Hid (MrW w w2.heap.size c ra rc (w2.alloc (.cells #[.string c.name, .slice ra c.rules.length rc, .int .i64 c.full] 24))) := Lib.hid ⟨hb2.alloc hb2.size _, heap_alloc_new _ _, hrd.below ((Below.refl _ _).alloc (Nat.le_refl _) _)⟩
  have hfb : 1 ≤ c.full ∧ c.full ≤ 6 := ⟨(done_full hdn.1).1, hdn.2⟩
  obtain ⟨hf1, hf6⟩ := hfb
  clear ho hdn hdk hb2 hrd
  go_upto_region 4 with (first | (go_at_call 14; refine (mod_any _ _ _ (by omega) (by omega)).mono ?_; rintro e w' ⟨rfl, rfl⟩))
  obtain ⟨S, hS, hS1, hS2⟩ : ∃ S, S = 3 + sh % 3 ∧ 3 ≤ S ∧ S ≤ 5 := ⟨_, rfl, by omega, by omega⟩
  obtain ⟨F, hF, hF1, hF2⟩ : ∃ F, F = 2 + n % 60 ∧ 2 ≤ F ∧ F ≤ 61 := ⟨_, rfl, by omega, by omega⟩
  obtain ⟨A, hA, hA1, hA2⟩ : ∃ A, A = live % 300 ∧ 0 ≤ A ∧ A < 300 := ⟨_, rfl, by omega, by omega⟩
  obtain ⟨D, hD, hD1, hD2⟩ : ∃ D, D = 1 + words % 48 ∧ 1 ≤ D ∧ D ≤ 48 := ⟨_, rfl, by omega, by omega⟩
  obtain ⟨K, hK, hK1, hK2⟩ : ∃ K, K = by' % 4 ∧ 0 ≤ K ∧ K < 4 := ⟨_, rfl, by omega, by omega⟩
  rw [← hS, ← hF, ← hA, ← hD, ← hK]
  generalize sh % 3 = sh3 at *
  generalize n % 60 = n60 at *
  generalize words % 48 = w48 at *
  clear hS hF hA hD hK
  generalize hq2 : w2.heap.size = q at *
  generalize w2.alloc (.cells #[.string c.name, .slice ra c.rules.length rc, .int .i64 c.full] 24) = V0 at *
  obtain ⟨z0, z1, z2, z3⟩ := MR.out.cells
  go_cut [76] from 36 to 76 (fun r wx => r = .bool false ∧ MrW w q c ra rc wx)
  case first =>
    go_wp2_with fail
    refine (safe_any c _ _ ⟨_, rfl, MR.out.rd⟩ hsz _ _ _ _).mono ?_
    rintro e V1 ⟨⟨x1, rfl, hx1⟩, hb⟩
    have M1 := Lib.hid (MR.out.keep hb)
    have HX1 := Lib.hid hx1
    clear hb hx1 z0 z1 z2 z3
    obtain ⟨z0, z1, z2, z3⟩ := M1.out.cells
    cases x1 with
    | false =>
      go_wp2_with fail
      go_meet
      case rel => exact ⟨rfl, M1.out⟩
    | true =>
      have HS : Hid (SafeP c S F A D) := Lib.hid (HX1.out.1 rfl)
      have hAK : A ≤ K ∨ K < A := by omega
      have hDK : D - K ≤ 1 ∨ 1 < D - K := by omega
      rcases hAK with hAK | hAK <;> rcases hDK with hDK | hDK
      · go_wp2_with fail
        refine (safe_any c _ _ ⟨_, rfl, M1.out.rd⟩ hsz _ _ _ _).mono ?_
        rintro e V2 ⟨⟨x2, rfl, hx2⟩, hb⟩
        obtain rfl : x2 = true := hx2.2 (HS.out.less (by omega) (by omega) (by omega) (by omega) (by omega) (by omega))
        have M2 := Lib.hid (M1.out.keep hb)
        clear hb hx2 z0 z1 z2 z3
        obtain ⟨z0, z1, z2, z3⟩ := M2.out.cells
        go_wp2_with fail
        refine (safe_any c _ _ ⟨_, rfl, M2.out.rd⟩ hsz _ _ _ _).mono ?_
        rintro e V3 ⟨⟨x3, rfl, hx3⟩, hb⟩
        obtain rfl : x3 = true := hx3.2 (HS.out.less (by omega) (by omega) (by omega) (by omega) (by omega) (by omega))
        have M3 := Lib.hid (M2.out.keep hb)
        clear hb hx3 z0 z1 z2 z3
        obtain ⟨z0, z1, z2, z3⟩ := M3.out.cells
        go_wp2_with fail
        refine (safe_any c _ _ ⟨_, rfl, M3.out.rd⟩ hsz _ _ _ _).mono ?_
        rintro e V4 ⟨⟨x4, rfl, hx4⟩, hb⟩
        obtain rfl : x4 = true := hx4.2 (HS.out.less (by omega) (by omega) (by omega) (by omega) (by omega) (by omega))
        have M4 := Lib.hid (M3.out.keep hb)
        clear hb hx4 z0 z1 z2 z3
        obtain ⟨z0, z1, z2, z3⟩ := M4.out.cells
        go_wp2_with fail
        go_meet
        case rel => exact ⟨rfl, M4.out⟩
      · go_wp2_with fail
        refine (safe_any c _ _ ⟨_, rfl, M1.out.rd⟩ hsz _ _ _ _).mono ?_
        rintro e V2 ⟨⟨x2, rfl, hx2⟩, hb⟩
        obtain rfl : x2 = true := hx2.2 (HS.out.less (by omega) (by omega) (by omega) (by omega) (by omega) (by omega))
        have M2 := Lib.hid (M1.out.keep hb)
        clear hb hx2 z0 z1 z2 z3
        obtain ⟨z0, z1, z2, z3⟩ := M2.out.cells
        go_wp2_with fail
        refine (safe_any c _ _ ⟨_, rfl, M2.out.rd⟩ hsz _ _ _ _).mono ?_
        rintro e V3 ⟨⟨x3, rfl, hx3⟩, hb⟩
        obtain rfl : x3 = true := hx3.2 (HS.out.less (by omega) (by omega) (by omega) (by omega) (by omega) (by omega))
        have M3 := Lib.hid (M2.out.keep hb)
        clear hb hx3 z0 z1 z2 z3
        obtain ⟨z0, z1, z2, z3⟩ := M3.out.cells
        go_wp2_with fail
        refine (safe_any c _ _ ⟨_, rfl, M3.out.rd⟩ hsz _ _ _ _).mono ?_
        rintro e V4 ⟨⟨x4, rfl, hx4⟩, hb⟩
        obtain rfl : x4 = true := hx4.2 (HS.out.less (by omega) (by omega) (by omega) (by omega) (by omega) (by omega))
        have M4 := Lib.hid (M3.out.keep hb)
        clear hb hx4 z0 z1 z2 z3
        obtain ⟨z0, z1, z2, z3⟩ := M4.out.cells
        go_wp2_with fail
        go_meet
        case rel => exact ⟨rfl, M4.out⟩
      · go_wp2_with fail
        refine (safe_any c _ _ ⟨_, rfl, M1.out.rd⟩ hsz _ _ _ _).mono ?_
        rintro e V2 ⟨⟨x2, rfl, hx2⟩, hb⟩
        obtain rfl : x2 = true := hx2.2 (HS.out.less (by omega) (by omega) (by omega) (by omega) (by omega) (by omega))
        have M2 := Lib.hid (M1.out.keep hb)
        clear hb hx2 z0 z1 z2 z3
        obtain ⟨z0, z1, z2, z3⟩ := M2.out.cells
        go_wp2_with fail
        refine (safe_any c _ _ ⟨_, rfl, M2.out.rd⟩ hsz _ _ _ _).mono ?_
        rintro e V3 ⟨⟨x3, rfl, hx3⟩, hb⟩
        obtain rfl : x3 = true := hx3.2 (HS.out.less (by omega) (by omega) (by omega) (by omega) (by omega) (by omega))
        have M3 := Lib.hid (M2.out.keep hb)
        clear hb hx3 z0 z1 z2 z3
        obtain ⟨z0, z1, z2, z3⟩ := M3.out.cells
        go_wp2_with fail
        refine (safe_any c _ _ ⟨_, rfl, M3.out.rd⟩ hsz _ _ _ _).mono ?_
        rintro e V4 ⟨⟨x4, rfl, hx4⟩, hb⟩
        obtain rfl : x4 = true := hx4.2 (HS.out.less (by omega) (by omega) (by omega) (by omega) (by omega) (by omega))
        have M4 := Lib.hid (M3.out.keep hb)
        clear hb hx4 z0 z1 z2 z3
        obtain ⟨z0, z1, z2, z3⟩ := M4.out.cells
        go_wp2_with fail
        go_meet
        case rel => exact ⟨rfl, M4.out⟩
      · go_wp2_with fail
        refine (safe_any c _ _ ⟨_, rfl, M1.out.rd⟩ hsz _ _ _ _).mono ?_
        rintro e V2 ⟨⟨x2, rfl, hx2⟩, hb⟩
        obtain rfl : x2 = true := hx2.2 (HS.out.less (by omega) (by omega) (by omega) (by omega) (by omega) (by omega))
        have M2 := Lib.hid (M1.out.keep hb)
        clear hb hx2 z0 z1 z2 z3
        obtain ⟨z0, z1, z2, z3⟩ := M2.out.cells
        go_wp2_with fail
        refine (safe_any c _ _ ⟨_, rfl, M2.out.rd⟩ hsz _ _ _ _).mono ?_
        rintro e V3 ⟨⟨x3, rfl, hx3⟩, hb⟩
        obtain rfl : x3 = true := hx3.2 (HS.out.less (by omega) (by omega) (by omega) (by omega) (by omega) (by omega))
        have M3 := Lib.hid (M2.out.keep hb)
        clear hb hx3 z0 z1 z2 z3
        obtain ⟨z0, z1, z2, z3⟩ := M3.out.cells
        go_wp2_with fail
        refine (safe_any c _ _ ⟨_, rfl, M3.out.rd⟩ hsz _ _ _ _).mono ?_
        rintro e V4 ⟨⟨x4, rfl, hx4⟩, hb⟩
        obtain rfl : x4 = true := hx4.2 (HS.out.less (by omega) (by omega) (by omega) (by omega) (by omega) (by omega))
        have M4 := Lib.hid (M3.out.keep hb)
        clear hb hx4 z0 z1 z2 z3
        obtain ⟨z0, z1, z2, z3⟩ := M4.out.cells
        go_wp2_with fail
        go_meet
        case rel => exact ⟨rfl, M4.out⟩
  case rest =>
    obtain ⟨rfl, hm⟩ := hcut
    have M := Lib.hid hm
    clear hm MR z0 z1 z2 z3
    obtain ⟨z0, z1, z2, z3⟩ := M.out.cells
    have hwf : IntKind.i64.wrap (c.full + 1) = c.full + 1 := IntWalk.i64_in _ (by omega)
    go_upto_region 8 with (fail)
    have hms : MsW w q wc.heap.size c ra rc (wc.alloc (.cells #[.string c.name, .slice ra c.rules.length rc, .int .i64 (c.full + 1)] 24)) := ⟨M.out.keep ((Below.refl _ _).alloc (Nat.le_refl _) _), heap_alloc_new _ _⟩
    have MS := Lib.hid hms
    have HDD := Lib.hid (done_more HDN.out.1 (by omega))
    have HP : Hid (3 ≤ S ∧ S ≤ 8 ∧ 2 ≤ F ∧ F ≤ 64) := Lib.hid ⟨by omega, by omega, by omega, by omega⟩
    clear hms z0 z1 z2 z3 M
    generalize wc.alloc (.cells #[.string c.name, .slice ra c.rules.length rc, .int .i64 (c.full + 1)] 24) = Z at *
    generalize wc.heap.size = p at *
    obtain rfl | rfl | rfl : S = 3 ∨ S = 4 ∨ S = 5 := by omega
    · go_wp2_with fail
      apply wp_region_vals (by kernel_rfl) Grw (Grw.drew _) [82, 83, 84, 85, 86, 87, 88, 89, 90, 91, 92, 93, 94, 95, 96, 97, 98, 12] [Is (.agg #[.string c.name, .slice ra c.rules.length rc, .int .i64 (c.full + 1)]), Is _, Is _, Is (.int .i64 ((c.full + 1 + 2) * (F * 8))), Is (.agg #[.string c.name, .slice ra c.rules.length rc, .int .i64 c.full]), Is _, Is _, Is (.int .i64 ((c.full + 2) * (F * 8))), Is (.int .i64 (F * 8)), Is _, Is _, Is _, Is (.int .i64 (F * 8)), Is (.bool true), Is _, Is (.bool true), Is _, Is _] (stb_cons (Stb.is) (stb_cons (Stb.is) (stb_cons (Stb.is) (stb_cons (Stb.is) (stb_cons (Stb.is) (stb_cons (Stb.is) (stb_cons (Stb.is) (stb_cons (Stb.is) (stb_cons (Stb.is) (stb_cons (Stb.is) (stb_cons (Stb.is) (stb_cons (Stb.is) (stb_cons (Stb.is) (stb_cons (Stb.is) (stb_cons (Stb.is) (stb_cons (Stb.is) (stb_cons (Stb.is) (stb_cons (Stb.is) stb_nil)))))))))))))))))) (by kernel_rfl) (by kernel_rfl) (by kernel_rfl)
      · refine VSteps.cons (VStep.mk Grw.trans rfl rfl fun t V hout hE hdep K hK => ?_) ?_
        · skip
          have t19 : t[19]? = some _ := hout 19 (by kernel_rfl)
          clear hout hdep
          obtain ⟨k1, k2, k3, k4, k5, k6, k7, k8⟩ := (MS.out.keep hE).cells
          go_simp
          exact hK.out _ _ (Grw.refl _) rfl
        refine VSteps.cons (VStep.mk Grw.trans rfl rfl fun t V hout hE hdep K hK => ?_) ?_
        · skip
          have t14 : t[14]? = some _ := hout 14 (by kernel_rfl)
          clear hout hdep
          go_simp
          exact hK.out _ _ (Grw.refl _) rfl
        refine VSteps.cons (VStep.mk Grw.trans rfl rfl fun t V hout hE hdep K hK => ?_) ?_
        · skip
          have t15 : t[15]? = some _ := hout 15 (by kernel_rfl)
          clear hout hdep
          go_simp
          exact hK.out _ _ (Grw.refl _) rfl
        refine VSteps.cons (VStep.mk Grw.trans rfl rfl fun t V hout hE hdep K hK => ?_) ?_
        · skip
          have t82 := by_is (W := V) (hdep 0 82 (by kernel_rfl))
          have t83 := by_is (W := V) (hdep 1 83 (by kernel_rfl))
          have t84 := by_is (W := V) (hdep 2 84 (by kernel_rfl))
          clear hout hdep
          go_simp
          refine (due_any ⟨c.name, c.rules, c.full + 1⟩ _ _ ⟨_, rfl, (MS.out.keep hE).rd⟩ hsz _ _).mono ?_
          rintro e W5 ⟨⟨x, rfl, hx⟩, hb5⟩
          obtain rfl := due_val hx HDD.out HP.out
          go_simp
          exact hK.out _ _ hb5 (congrArg (Value.int .i64) (by first | rfl | simp))
        refine VSteps.cons (VStep.mk Grw.trans rfl rfl fun t V hout hE hdep K hK => ?_) ?_
        · skip
          have t13 : t[13]? = some _ := hout 13 (by kernel_rfl)
          clear hout hdep
          obtain ⟨k1, k2, k3, k4, k5, k6, k7, k8⟩ := (MS.out.keep hE).cells
          go_simp
          exact hK.out _ _ (Grw.refl _) rfl
        refine VSteps.cons (VStep.mk Grw.trans rfl rfl fun t V hout hE hdep K hK => ?_) ?_
        · skip
          have t14 : t[14]? = some _ := hout 14 (by kernel_rfl)
          clear hout hdep
          go_simp
          exact hK.out _ _ (Grw.refl _) rfl
        refine VSteps.cons (VStep.mk Grw.trans rfl rfl fun t V hout hE hdep K hK => ?_) ?_
        · skip
          have t15 : t[15]? = some _ := hout 15 (by kernel_rfl)
          clear hout hdep
          go_simp
          exact hK.out _ _ (Grw.refl _) rfl
        refine VSteps.cons (VStep.mk Grw.trans rfl rfl fun t V hout hE hdep K hK => ?_) ?_
        · skip
          have t86 := by_is (W := V) (hdep 4 86 (by kernel_rfl))
          have t87 := by_is (W := V) (hdep 5 87 (by kernel_rfl))
          have t88 := by_is (W := V) (hdep 6 88 (by kernel_rfl))
          clear hout hdep
          go_simp
          refine (due_any c _ _ ⟨_, rfl, (MS.out.keep hE).rd⟩ hsz _ _).mono ?_
          rintro e W5 ⟨⟨x, rfl, hx⟩, hb5⟩
          obtain rfl := due_val hx HDN.out.1 HP.out
          go_simp
          exact hK.out _ _ hb5 (congrArg (Value.int .i64) (by first | rfl | simp))
        refine VSteps.cons (VStep.mk Grw.trans rfl rfl fun t V hout hE hdep K hK => ?_) ?_
        · skip
          have t85 := by_is (W := V) (hdep 3 85 (by kernel_rfl))
          have t89 := by_is (W := V) (hdep 7 89 (by kernel_rfl))
          clear hout hdep
          have hw : IntKind.i64.wrap ((c.full + 1 + 2) * (F * 8) - (c.full + 2) * (F * 8)) = F * 8 := by
            rw [show (c.full + 1 + 2) * (F * 8) - (c.full + 2) * (F * 8) = F * 8 by rw [← Int.sub_mul]; omega]
            exact IntWalk.i64_in _ (by omega)
          go_simp
          exact hK.out _ _ (Grw.refl _) rfl
        refine VSteps.cons (VStep.mk Grw.trans rfl rfl fun t V hout hE hdep K hK => ?_) ?_
        · skip
          have t15 : t[15]? = some _ := hout 15 (by kernel_rfl)
          clear hout hdep
          go_simp
          exact hK.out _ _ (Grw.refl _) rfl
        refine VSteps.cons (VStep.mk Grw.trans rfl rfl fun t V hout hE hdep K hK => ?_) ?_
        · skip
          have t14 : t[14]? = some _ := hout 14 (by kernel_rfl)
          clear hout hdep
          go_simp
          exact hK.out _ _ (Grw.refl _) rfl
        refine VSteps.cons (VStep.mk Grw.trans rfl rfl fun t V hout hE hdep K hK => ?_) ?_
        · skip
          have t92 := by_is (W := V) (hdep 10 92 (by kernel_rfl))
          clear hout hdep
          go_simp
          exact hK.out _ _ (Grw.refl _) rfl
        refine VSteps.cons (VStep.mk Grw.trans rfl rfl fun t V hout hE hdep K hK => ?_) ?_
        · skip
          have t91 := by_is (W := V) (hdep 9 91 (by kernel_rfl))
          have t93 := by_is (W := V) (hdep 11 93 (by kernel_rfl))
          clear hout hdep
          go_simp
          exact hK.out _ _ (Grw.refl _) (congrArg (Value.int .i64) (by rw [show IntKind.u64.wrap 3 = 3 by decide, show ((2 : Int) ^ min ((3 : Int).toNat) 64) = 8 from rfl]; exact IntWalk.i64_in _ (by omega)))
        refine VSteps.cons (VStep.mk Grw.trans rfl rfl fun t V hout hE hdep K hK => ?_) ?_
        · skip
          have t90 := by_is (W := V) (hdep 8 90 (by kernel_rfl))
          have t94 := by_is (W := V) (hdep 12 94 (by kernel_rfl))
          clear hout hdep
          go_simp
          exact hK.out _ _ (Grw.refl _) (by first | rfl | (unfold fAt; simp [Is]) | simp [fAt, Is])
        refine VSteps.cons (VStep.mk Grw.trans rfl rfl fun t V hout hE hdep K hK => ?_) ?_
        · skip
          have t95 := by_is (W := V) (hdep 13 95 (by kernel_rfl))
          clear hout hdep
          go_simp
          exact hK.out _ _ (Grw.refl _) rfl
        refine VSteps.cons (VStep.mkG Grw.trans (dg := 96) rfl rfl (by kernel_rfl) (fun _ _ h => h) fun t V hout hE hdep K hK => ?_) ?_
        · skip
          clear hout hdep
          go_simp
          refine (awake33 _).mono ?_
          rintro e W5 ⟨rfl, hb5⟩
          go_simp
          exact hK.out _ _ hb5 rfl
        refine VSteps.cons (VStep.mk Grw.trans rfl rfl fun t V hout hE hdep K hK => ?_) ?_
        · skip
          have t96 := by_is (W := V) (hdep 14 96 (by kernel_rfl))
          have t97 := by_is (W := V) (hdep 15 97 (by kernel_rfl))
          clear hout hdep
          go_simp
          exact hK.out _ _ (Grw.refl _) rfl
        refine VSteps.cons (VStep.mk Grw.trans rfl rfl fun t V hout hE hdep K hK => ?_) ?_
        · skip
          have t98 := by_is (W := V) (hdep 16 98 (by kernel_rfl))
          clear hout hdep
          go_simp
          exact hK.out _ _ (Grw.refl _) rfl
        exact VSteps.nil (by decide)
      · intro f W hE hF
        have f82 : f 82 = _ := hF 0 82 (by kernel_rfl)
        have f83 : f 83 = _ := hF 1 83 (by kernel_rfl)
        have f84 : f 84 = _ := hF 2 84 (by kernel_rfl)
        have f85 : f 85 = _ := hF 3 85 (by kernel_rfl)
        have f86 : f 86 = _ := hF 4 86 (by kernel_rfl)
        have f87 : f 87 = _ := hF 5 87 (by kernel_rfl)
        have f88 : f 88 = _ := hF 6 88 (by kernel_rfl)
        have f89 : f 89 = _ := hF 7 89 (by kernel_rfl)
        have f90 : f 90 = _ := hF 8 90 (by kernel_rfl)
        have f91 : f 91 = _ := hF 9 91 (by kernel_rfl)
        have f92 : f 92 = _ := hF 10 92 (by kernel_rfl)
        have f93 : f 93 = _ := hF 11 93 (by kernel_rfl)
        have f94 : f 94 = _ := hF 12 94 (by kernel_rfl)
        have f95 : f 95 = _ := hF 13 95 (by kernel_rfl)
        have f96 : f 96 = _ := hF 14 96 (by kernel_rfl)
        have f97 : f 97 = _ := hF 15 97 (by kernel_rfl)
        have f98 : f 98 = _ := hF 16 98 (by kernel_rfl)
        have f12 : f 12 = _ := hF 17 12 (by kernel_rfl)
        simp only [setAllV, List.map_cons, List.map_nil, List.set_cons_succ, List.set_cons_zero, f82, f83, f84, f85, f86, f87, f88, f89, f90, f91, f92, f93, f94, f95, f96, f97, f98, f12]
        clear hF f82 f83 f84 f85 f86 f87 f88 f89 f90 f91 f92 f93 f94 f95 f96 f97 f98 f12
        go_wp2
        go_ret
        exact ⟨rfl, MS.out.bel.trans (hE.mono MS.out.bel.size)⟩
    · go_wp2_with fail
      apply wp_region_vals (by kernel_rfl) Grw (Grw.drew _) [82, 83, 84, 85, 86, 87, 88, 89, 90, 91, 92, 93, 94, 95, 96, 97, 98, 12] [Is (.agg #[.string c.name, .slice ra c.rules.length rc, .int .i64 (c.full + 1)]), Is _, Is _, Is (.int .i64 ((c.full + 1 + 2) * (F * 16))), Is (.agg #[.string c.name, .slice ra c.rules.length rc, .int .i64 c.full]), Is _, Is _, Is (.int .i64 ((c.full + 2) * (F * 16))), Is (.int .i64 (F * 16)), Is _, Is _, Is _, Is (.int .i64 (F * 16)), Is (.bool true), Is _, Is (.bool true), Is _, Is _] (stb_cons (Stb.is) (stb_cons (Stb.is) (stb_cons (Stb.is) (stb_cons (Stb.is) (stb_cons (Stb.is) (stb_cons (Stb.is) (stb_cons (Stb.is) (stb_cons (Stb.is) (stb_cons (Stb.is) (stb_cons (Stb.is) (stb_cons (Stb.is) (stb_cons (Stb.is) (stb_cons (Stb.is) (stb_cons (Stb.is) (stb_cons (Stb.is) (stb_cons (Stb.is) (stb_cons (Stb.is) (stb_cons (Stb.is) stb_nil)))))))))))))))))) (by kernel_rfl) (by kernel_rfl) (by kernel_rfl)
      · refine VSteps.cons (VStep.mk Grw.trans rfl rfl fun t V hout hE hdep K hK => ?_) ?_
        · skip
          have t19 : t[19]? = some _ := hout 19 (by kernel_rfl)
          clear hout hdep
          obtain ⟨k1, k2, k3, k4, k5, k6, k7, k8⟩ := (MS.out.keep hE).cells
          go_simp
          exact hK.out _ _ (Grw.refl _) rfl
        refine VSteps.cons (VStep.mk Grw.trans rfl rfl fun t V hout hE hdep K hK => ?_) ?_
        · skip
          have t14 : t[14]? = some _ := hout 14 (by kernel_rfl)
          clear hout hdep
          go_simp
          exact hK.out _ _ (Grw.refl _) rfl
        refine VSteps.cons (VStep.mk Grw.trans rfl rfl fun t V hout hE hdep K hK => ?_) ?_
        · skip
          have t15 : t[15]? = some _ := hout 15 (by kernel_rfl)
          clear hout hdep
          go_simp
          exact hK.out _ _ (Grw.refl _) rfl
        refine VSteps.cons (VStep.mk Grw.trans rfl rfl fun t V hout hE hdep K hK => ?_) ?_
        · skip
          have t82 := by_is (W := V) (hdep 0 82 (by kernel_rfl))
          have t83 := by_is (W := V) (hdep 1 83 (by kernel_rfl))
          have t84 := by_is (W := V) (hdep 2 84 (by kernel_rfl))
          clear hout hdep
          go_simp
          refine (due_any ⟨c.name, c.rules, c.full + 1⟩ _ _ ⟨_, rfl, (MS.out.keep hE).rd⟩ hsz _ _).mono ?_
          rintro e W5 ⟨⟨x, rfl, hx⟩, hb5⟩
          obtain rfl := due_val hx HDD.out HP.out
          go_simp
          exact hK.out _ _ hb5 (congrArg (Value.int .i64) (by first | rfl | simp))
        refine VSteps.cons (VStep.mk Grw.trans rfl rfl fun t V hout hE hdep K hK => ?_) ?_
        · skip
          have t13 : t[13]? = some _ := hout 13 (by kernel_rfl)
          clear hout hdep
          obtain ⟨k1, k2, k3, k4, k5, k6, k7, k8⟩ := (MS.out.keep hE).cells
          go_simp
          exact hK.out _ _ (Grw.refl _) rfl
        refine VSteps.cons (VStep.mk Grw.trans rfl rfl fun t V hout hE hdep K hK => ?_) ?_
        · skip
          have t14 : t[14]? = some _ := hout 14 (by kernel_rfl)
          clear hout hdep
          go_simp
          exact hK.out _ _ (Grw.refl _) rfl
        refine VSteps.cons (VStep.mk Grw.trans rfl rfl fun t V hout hE hdep K hK => ?_) ?_
        · skip
          have t15 : t[15]? = some _ := hout 15 (by kernel_rfl)
          clear hout hdep
          go_simp
          exact hK.out _ _ (Grw.refl _) rfl
        refine VSteps.cons (VStep.mk Grw.trans rfl rfl fun t V hout hE hdep K hK => ?_) ?_
        · skip
          have t86 := by_is (W := V) (hdep 4 86 (by kernel_rfl))
          have t87 := by_is (W := V) (hdep 5 87 (by kernel_rfl))
          have t88 := by_is (W := V) (hdep 6 88 (by kernel_rfl))
          clear hout hdep
          go_simp
          refine (due_any c _ _ ⟨_, rfl, (MS.out.keep hE).rd⟩ hsz _ _).mono ?_
          rintro e W5 ⟨⟨x, rfl, hx⟩, hb5⟩
          obtain rfl := due_val hx HDN.out.1 HP.out
          go_simp
          exact hK.out _ _ hb5 (congrArg (Value.int .i64) (by first | rfl | simp))
        refine VSteps.cons (VStep.mk Grw.trans rfl rfl fun t V hout hE hdep K hK => ?_) ?_
        · skip
          have t85 := by_is (W := V) (hdep 3 85 (by kernel_rfl))
          have t89 := by_is (W := V) (hdep 7 89 (by kernel_rfl))
          clear hout hdep
          have hw : IntKind.i64.wrap ((c.full + 1 + 2) * (F * 16) - (c.full + 2) * (F * 16)) = F * 16 := by
            rw [show (c.full + 1 + 2) * (F * 16) - (c.full + 2) * (F * 16) = F * 16 by rw [← Int.sub_mul]; omega]
            exact IntWalk.i64_in _ (by omega)
          go_simp
          exact hK.out _ _ (Grw.refl _) rfl
        refine VSteps.cons (VStep.mk Grw.trans rfl rfl fun t V hout hE hdep K hK => ?_) ?_
        · skip
          have t15 : t[15]? = some _ := hout 15 (by kernel_rfl)
          clear hout hdep
          go_simp
          exact hK.out _ _ (Grw.refl _) rfl
        refine VSteps.cons (VStep.mk Grw.trans rfl rfl fun t V hout hE hdep K hK => ?_) ?_
        · skip
          have t14 : t[14]? = some _ := hout 14 (by kernel_rfl)
          clear hout hdep
          go_simp
          exact hK.out _ _ (Grw.refl _) rfl
        refine VSteps.cons (VStep.mk Grw.trans rfl rfl fun t V hout hE hdep K hK => ?_) ?_
        · skip
          have t92 := by_is (W := V) (hdep 10 92 (by kernel_rfl))
          clear hout hdep
          go_simp
          exact hK.out _ _ (Grw.refl _) rfl
        refine VSteps.cons (VStep.mk Grw.trans rfl rfl fun t V hout hE hdep K hK => ?_) ?_
        · skip
          have t91 := by_is (W := V) (hdep 9 91 (by kernel_rfl))
          have t93 := by_is (W := V) (hdep 11 93 (by kernel_rfl))
          clear hout hdep
          go_simp
          exact hK.out _ _ (Grw.refl _) (congrArg (Value.int .i64) (by rw [show IntKind.u64.wrap 4 = 4 by decide, show ((2 : Int) ^ min ((4 : Int).toNat) 64) = 16 from rfl]; exact IntWalk.i64_in _ (by omega)))
        refine VSteps.cons (VStep.mk Grw.trans rfl rfl fun t V hout hE hdep K hK => ?_) ?_
        · skip
          have t90 := by_is (W := V) (hdep 8 90 (by kernel_rfl))
          have t94 := by_is (W := V) (hdep 12 94 (by kernel_rfl))
          clear hout hdep
          go_simp
          exact hK.out _ _ (Grw.refl _) (by first | rfl | (unfold fAt; simp [Is]) | simp [fAt, Is])
        refine VSteps.cons (VStep.mk Grw.trans rfl rfl fun t V hout hE hdep K hK => ?_) ?_
        · skip
          have t95 := by_is (W := V) (hdep 13 95 (by kernel_rfl))
          clear hout hdep
          go_simp
          exact hK.out _ _ (Grw.refl _) rfl
        refine VSteps.cons (VStep.mkG Grw.trans (dg := 96) rfl rfl (by kernel_rfl) (fun _ _ h => h) fun t V hout hE hdep K hK => ?_) ?_
        · skip
          clear hout hdep
          go_simp
          refine (awake33 _).mono ?_
          rintro e W5 ⟨rfl, hb5⟩
          go_simp
          exact hK.out _ _ hb5 rfl
        refine VSteps.cons (VStep.mk Grw.trans rfl rfl fun t V hout hE hdep K hK => ?_) ?_
        · skip
          have t96 := by_is (W := V) (hdep 14 96 (by kernel_rfl))
          have t97 := by_is (W := V) (hdep 15 97 (by kernel_rfl))
          clear hout hdep
          go_simp
          exact hK.out _ _ (Grw.refl _) rfl
        refine VSteps.cons (VStep.mk Grw.trans rfl rfl fun t V hout hE hdep K hK => ?_) ?_
        · skip
          have t98 := by_is (W := V) (hdep 16 98 (by kernel_rfl))
          clear hout hdep
          go_simp
          exact hK.out _ _ (Grw.refl _) rfl
        exact VSteps.nil (by decide)
      · intro f W hE hF
        have f82 : f 82 = _ := hF 0 82 (by kernel_rfl)
        have f83 : f 83 = _ := hF 1 83 (by kernel_rfl)
        have f84 : f 84 = _ := hF 2 84 (by kernel_rfl)
        have f85 : f 85 = _ := hF 3 85 (by kernel_rfl)
        have f86 : f 86 = _ := hF 4 86 (by kernel_rfl)
        have f87 : f 87 = _ := hF 5 87 (by kernel_rfl)
        have f88 : f 88 = _ := hF 6 88 (by kernel_rfl)
        have f89 : f 89 = _ := hF 7 89 (by kernel_rfl)
        have f90 : f 90 = _ := hF 8 90 (by kernel_rfl)
        have f91 : f 91 = _ := hF 9 91 (by kernel_rfl)
        have f92 : f 92 = _ := hF 10 92 (by kernel_rfl)
        have f93 : f 93 = _ := hF 11 93 (by kernel_rfl)
        have f94 : f 94 = _ := hF 12 94 (by kernel_rfl)
        have f95 : f 95 = _ := hF 13 95 (by kernel_rfl)
        have f96 : f 96 = _ := hF 14 96 (by kernel_rfl)
        have f97 : f 97 = _ := hF 15 97 (by kernel_rfl)
        have f98 : f 98 = _ := hF 16 98 (by kernel_rfl)
        have f12 : f 12 = _ := hF 17 12 (by kernel_rfl)
        simp only [setAllV, List.map_cons, List.map_nil, List.set_cons_succ, List.set_cons_zero, f82, f83, f84, f85, f86, f87, f88, f89, f90, f91, f92, f93, f94, f95, f96, f97, f98, f12]
        clear hF f82 f83 f84 f85 f86 f87 f88 f89 f90 f91 f92 f93 f94 f95 f96 f97 f98 f12
        go_wp2
        go_ret
        exact ⟨rfl, MS.out.bel.trans (hE.mono MS.out.bel.size)⟩
    · go_wp2_with fail
      apply wp_region_vals (by kernel_rfl) Grw (Grw.drew _) [82, 83, 84, 85, 86, 87, 88, 89, 90, 91, 92, 93, 94, 95, 96, 97, 98, 12] [Is (.agg #[.string c.name, .slice ra c.rules.length rc, .int .i64 (c.full + 1)]), Is _, Is _, Is (.int .i64 ((c.full + 1 + 2) * (F * 32))), Is (.agg #[.string c.name, .slice ra c.rules.length rc, .int .i64 c.full]), Is _, Is _, Is (.int .i64 ((c.full + 2) * (F * 32))), Is (.int .i64 (F * 32)), Is _, Is _, Is _, Is (.int .i64 (F * 32)), Is (.bool true), Is _, Is (.bool true), Is _, Is _] (stb_cons (Stb.is) (stb_cons (Stb.is) (stb_cons (Stb.is) (stb_cons (Stb.is) (stb_cons (Stb.is) (stb_cons (Stb.is) (stb_cons (Stb.is) (stb_cons (Stb.is) (stb_cons (Stb.is) (stb_cons (Stb.is) (stb_cons (Stb.is) (stb_cons (Stb.is) (stb_cons (Stb.is) (stb_cons (Stb.is) (stb_cons (Stb.is) (stb_cons (Stb.is) (stb_cons (Stb.is) (stb_cons (Stb.is) stb_nil)))))))))))))))))) (by kernel_rfl) (by kernel_rfl) (by kernel_rfl)
      · refine VSteps.cons (VStep.mk Grw.trans rfl rfl fun t V hout hE hdep K hK => ?_) ?_
        · skip
          have t19 : t[19]? = some _ := hout 19 (by kernel_rfl)
          clear hout hdep
          obtain ⟨k1, k2, k3, k4, k5, k6, k7, k8⟩ := (MS.out.keep hE).cells
          go_simp
          exact hK.out _ _ (Grw.refl _) rfl
        refine VSteps.cons (VStep.mk Grw.trans rfl rfl fun t V hout hE hdep K hK => ?_) ?_
        · skip
          have t14 : t[14]? = some _ := hout 14 (by kernel_rfl)
          clear hout hdep
          go_simp
          exact hK.out _ _ (Grw.refl _) rfl
        refine VSteps.cons (VStep.mk Grw.trans rfl rfl fun t V hout hE hdep K hK => ?_) ?_
        · skip
          have t15 : t[15]? = some _ := hout 15 (by kernel_rfl)
          clear hout hdep
          go_simp
          exact hK.out _ _ (Grw.refl _) rfl
        refine VSteps.cons (VStep.mk Grw.trans rfl rfl fun t V hout hE hdep K hK => ?_) ?_
        · skip
          have t82 := by_is (W := V) (hdep 0 82 (by kernel_rfl))
          have t83 := by_is (W := V) (hdep 1 83 (by kernel_rfl))
          have t84 := by_is (W := V) (hdep 2 84 (by kernel_rfl))
          clear hout hdep
          go_simp
          refine (due_any ⟨c.name, c.rules, c.full + 1⟩ _ _ ⟨_, rfl, (MS.out.keep hE).rd⟩ hsz _ _).mono ?_
          rintro e W5 ⟨⟨x, rfl, hx⟩, hb5⟩
          obtain rfl := due_val hx HDD.out HP.out
          go_simp
          exact hK.out _ _ hb5 (congrArg (Value.int .i64) (by first | rfl | simp))
        refine VSteps.cons (VStep.mk Grw.trans rfl rfl fun t V hout hE hdep K hK => ?_) ?_
        · skip
          have t13 : t[13]? = some _ := hout 13 (by kernel_rfl)
          clear hout hdep
          obtain ⟨k1, k2, k3, k4, k5, k6, k7, k8⟩ := (MS.out.keep hE).cells
          go_simp
          exact hK.out _ _ (Grw.refl _) rfl
        refine VSteps.cons (VStep.mk Grw.trans rfl rfl fun t V hout hE hdep K hK => ?_) ?_
        · skip
          have t14 : t[14]? = some _ := hout 14 (by kernel_rfl)
          clear hout hdep
          go_simp
          exact hK.out _ _ (Grw.refl _) rfl
        refine VSteps.cons (VStep.mk Grw.trans rfl rfl fun t V hout hE hdep K hK => ?_) ?_
        · skip
          have t15 : t[15]? = some _ := hout 15 (by kernel_rfl)
          clear hout hdep
          go_simp
          exact hK.out _ _ (Grw.refl _) rfl
        refine VSteps.cons (VStep.mk Grw.trans rfl rfl fun t V hout hE hdep K hK => ?_) ?_
        · skip
          have t86 := by_is (W := V) (hdep 4 86 (by kernel_rfl))
          have t87 := by_is (W := V) (hdep 5 87 (by kernel_rfl))
          have t88 := by_is (W := V) (hdep 6 88 (by kernel_rfl))
          clear hout hdep
          go_simp
          refine (due_any c _ _ ⟨_, rfl, (MS.out.keep hE).rd⟩ hsz _ _).mono ?_
          rintro e W5 ⟨⟨x, rfl, hx⟩, hb5⟩
          obtain rfl := due_val hx HDN.out.1 HP.out
          go_simp
          exact hK.out _ _ hb5 (congrArg (Value.int .i64) (by first | rfl | simp))
        refine VSteps.cons (VStep.mk Grw.trans rfl rfl fun t V hout hE hdep K hK => ?_) ?_
        · skip
          have t85 := by_is (W := V) (hdep 3 85 (by kernel_rfl))
          have t89 := by_is (W := V) (hdep 7 89 (by kernel_rfl))
          clear hout hdep
          have hw : IntKind.i64.wrap ((c.full + 1 + 2) * (F * 32) - (c.full + 2) * (F * 32)) = F * 32 := by
            rw [show (c.full + 1 + 2) * (F * 32) - (c.full + 2) * (F * 32) = F * 32 by rw [← Int.sub_mul]; omega]
            exact IntWalk.i64_in _ (by omega)
          go_simp
          exact hK.out _ _ (Grw.refl _) rfl
        refine VSteps.cons (VStep.mk Grw.trans rfl rfl fun t V hout hE hdep K hK => ?_) ?_
        · skip
          have t15 : t[15]? = some _ := hout 15 (by kernel_rfl)
          clear hout hdep
          go_simp
          exact hK.out _ _ (Grw.refl _) rfl
        refine VSteps.cons (VStep.mk Grw.trans rfl rfl fun t V hout hE hdep K hK => ?_) ?_
        · skip
          have t14 : t[14]? = some _ := hout 14 (by kernel_rfl)
          clear hout hdep
          go_simp
          exact hK.out _ _ (Grw.refl _) rfl
        refine VSteps.cons (VStep.mk Grw.trans rfl rfl fun t V hout hE hdep K hK => ?_) ?_
        · skip
          have t92 := by_is (W := V) (hdep 10 92 (by kernel_rfl))
          clear hout hdep
          go_simp
          exact hK.out _ _ (Grw.refl _) rfl
        refine VSteps.cons (VStep.mk Grw.trans rfl rfl fun t V hout hE hdep K hK => ?_) ?_
        · skip
          have t91 := by_is (W := V) (hdep 9 91 (by kernel_rfl))
          have t93 := by_is (W := V) (hdep 11 93 (by kernel_rfl))
          clear hout hdep
          go_simp
          exact hK.out _ _ (Grw.refl _) (congrArg (Value.int .i64) (by rw [show IntKind.u64.wrap 5 = 5 by decide, show ((2 : Int) ^ min ((5 : Int).toNat) 64) = 32 from rfl]; exact IntWalk.i64_in _ (by omega)))
        refine VSteps.cons (VStep.mk Grw.trans rfl rfl fun t V hout hE hdep K hK => ?_) ?_
        · skip
          have t90 := by_is (W := V) (hdep 8 90 (by kernel_rfl))
          have t94 := by_is (W := V) (hdep 12 94 (by kernel_rfl))
          clear hout hdep
          go_simp
          exact hK.out _ _ (Grw.refl _) (by first | rfl | (unfold fAt; simp [Is]) | simp [fAt, Is])
        refine VSteps.cons (VStep.mk Grw.trans rfl rfl fun t V hout hE hdep K hK => ?_) ?_
        · skip
          have t95 := by_is (W := V) (hdep 13 95 (by kernel_rfl))
          clear hout hdep
          go_simp
          exact hK.out _ _ (Grw.refl _) rfl
        refine VSteps.cons (VStep.mkG Grw.trans (dg := 96) rfl rfl (by kernel_rfl) (fun _ _ h => h) fun t V hout hE hdep K hK => ?_) ?_
        · skip
          clear hout hdep
          go_simp
          refine (awake33 _).mono ?_
          rintro e W5 ⟨rfl, hb5⟩
          go_simp
          exact hK.out _ _ hb5 rfl
        refine VSteps.cons (VStep.mk Grw.trans rfl rfl fun t V hout hE hdep K hK => ?_) ?_
        · skip
          have t96 := by_is (W := V) (hdep 14 96 (by kernel_rfl))
          have t97 := by_is (W := V) (hdep 15 97 (by kernel_rfl))
          clear hout hdep
          go_simp
          exact hK.out _ _ (Grw.refl _) rfl
        refine VSteps.cons (VStep.mk Grw.trans rfl rfl fun t V hout hE hdep K hK => ?_) ?_
        · skip
          have t98 := by_is (W := V) (hdep 16 98 (by kernel_rfl))
          clear hout hdep
          go_simp
          exact hK.out _ _ (Grw.refl _) rfl
        exact VSteps.nil (by decide)
      · intro f W hE hF
        have f82 : f 82 = _ := hF 0 82 (by kernel_rfl)
        have f83 : f 83 = _ := hF 1 83 (by kernel_rfl)
        have f84 : f 84 = _ := hF 2 84 (by kernel_rfl)
        have f85 : f 85 = _ := hF 3 85 (by kernel_rfl)
        have f86 : f 86 = _ := hF 4 86 (by kernel_rfl)
        have f87 : f 87 = _ := hF 5 87 (by kernel_rfl)
        have f88 : f 88 = _ := hF 6 88 (by kernel_rfl)
        have f89 : f 89 = _ := hF 7 89 (by kernel_rfl)
        have f90 : f 90 = _ := hF 8 90 (by kernel_rfl)
        have f91 : f 91 = _ := hF 9 91 (by kernel_rfl)
        have f92 : f 92 = _ := hF 10 92 (by kernel_rfl)
        have f93 : f 93 = _ := hF 11 93 (by kernel_rfl)
        have f94 : f 94 = _ := hF 12 94 (by kernel_rfl)
        have f95 : f 95 = _ := hF 13 95 (by kernel_rfl)
        have f96 : f 96 = _ := hF 14 96 (by kernel_rfl)
        have f97 : f 97 = _ := hF 15 97 (by kernel_rfl)
        have f98 : f 98 = _ := hF 16 98 (by kernel_rfl)
        have f12 : f 12 = _ := hF 17 12 (by kernel_rfl)
        simp only [setAllV, List.map_cons, List.map_nil, List.set_cons_succ, List.set_cons_zero, f82, f83, f84, f85, f86, f87, f88, f89, f90, f91, f92, f93, f94, f95, f96, f97, f98, f12]
        clear hF f82 f83 f84 f85 f86 f87 f88 f89 f90 f91 f92 f93 f94 f95 f96 f97 f98 f12
        go_wp2
        go_ret
        exact ⟨rfl, MS.out.bel.trans (hE.mono MS.out.bel.size)⟩
end Go.Proofs.Ytchdmemgkegefaa
