/- The walk of the law on the numbers of the bounds. -/
import Derived.Test.YtchdmemgkegefaaMkK
import Derived.Test.YtchdmemgkegefaaBndR
import Derived.Test.YtchdmemgkegefaaIsRow
namespace Go.Proofs.Ytchdmemgkegefaa
open Go.RowKit
set_option linter.unusedVariables false

section
variable {row : Option Nat} {B B0 C : Nat} {X : List TypeId}
def CfN (C : Nat) : Value → World → Prop := fun v W => ∃ c : Cf, CfO W C v c ∧ c.name.size ≤ 16
theorem CfN.stb (hT : 67 ∉ X) (hr : ∀ g, row = some g → g < C) : Stb (Ch row B B0 X) (CfN C) := by
  rintro v W W' he ⟨c, ho, hok⟩
  exact ⟨c, ho.ch he hT hr, hok⟩
def ArN (C : Nat) (c0 : Cf) (r0 : Value) : Value → World → Prop := fun v W => ∃ (q : Nat) (c1 c2 : Cf) (r1 r2 : Value), v = .slice (some ⟨q, 0, none⟩) 3 3 ∧ C ≤ q ∧
  W.heap[q]? = some (.cells #[.string c0.name, r0, .int .i64 c0.full, .string c1.name, r1, .int .i64 c1.full, .string c2.name, r2, .int .i64 c2.full] 24 (0, 0)) ∧ Own ruleE W C 67 r1 c1.rules ∧ Own ruleE W C 67 r2 c2.rules ∧ c1.name.size ≤ 16 ∧ c2.name.size ≤ 16
theorem ArN.stb {c0 : Cf} {r0 : Value} (hX : X = []) (hr : ∀ g, row = some g → g < C) : Stb (Ch row B B0 X) (ArN C c0 r0) := by
  subst hX
  rintro v W W' he ⟨q, c1, c2, r1, r2, rfl, hq, hb, o1, o2, n1, n2⟩
  exact ⟨q, c1, c2, r1, r2, rfl, hq, he.other hb (fun e => by have := hr q e.symm; omega) (by simp), he.own o1 (by simp) hr, he.own o2 (by simp) hr, n1, n2⟩
end
def SlF (p : Int) : Value → World → Prop := fun v _ => ∃ x : Int, v = .int .i64 x ∧ SlackP p x
theorem SlF.stb {E : World → World → Prop} {p : Int} : Stb E (SlF p) := fun _ _ _ _ h => h
def SaF (c : Cf) (pa pb pc pd : Int) : Value → World → Prop := fun v _ => ∃ x : Bool, v = .bool x ∧ (x = true ↔ SafeP c pa pb pc pd)
theorem SaF.stb {E : World → World → Prop} {c : Cf} {pa pb pc pd : Int} : Stb E (SaF c pa pb pc pd) := fun _ _ _ _ h => h
def DuF (c : Cf) (pa pb : Int) : Value → World → Prop := fun v _ => ∃ x : Int, v = .int .i64 x ∧ DueP c pa pb x
theorem DuF.stb {E : World → World → Prop} {c : Cf} {pa pb : Int} : Stb E (DuF c pa pb) := fun _ _ _ _ h => h
def NmE (g B B0 : Nat) (i : Nat) : World → World → Prop := Ch (some g) B B0 []
theorem NmE.up {g B B0 i : Nat} {W W' : World} (h : NmE g B B0 i W W') : Ch (some g) B B0 [] W W' := h
theorem NmE.tr {g B B0 : Nat} : ∀ (i : Nat) (U V W : World), Ch (some g) B B0 [] U V → NmE g B B0 i V W → Ch (some g) B B0 [] U W := fun _ _ _ _ h k => h.trans k.up
/-- three configurations in a row -/
structure NcW (w : World) (q : Nat) (c0 c1 c2 : Cf) (r0 r1 r2 : Value) (W : World) : Prop where
  bel : Below w.heap.size w W
  blk : W.heap[q]? = some (.cells #[.string c0.name, r0, .int .i64 c0.full, .string c1.name, r1, .int .i64 c1.full, .string c2.name, r2, .int .i64 c2.full] 24 (0, 0))
  d0 : Rd ruleE W r0 c0.rules
  d1 : Rd ruleE W r1 c1.rules
  d2 : Rd ruleE W r2 c2.rules
theorem NcW.keep {w : World} {q : Nat} {c0 c1 c2 : Cf} {r0 r1 r2 : Value} {W W' : World} (h : NcW w q c0 c1 c2 r0 r1 r2 W) (hb : Below W.heap.size W W') : NcW w q c0 c1 c2 r0 r1 r2 W' :=
  ⟨h.bel.trans (hb.mono h.bel.size), below_block hb (block_lt h.blk) h.blk, h.d0.below hb, h.d1.below hb, h.d2.below hb⟩
theorem NcW.at {w : World} {q : Nat} {c0 c1 c2 : Cf} {r0 r1 r2 : Value} {W : World} (h : NcW w q c0 c1 c2 r0 r1 r2 W) (h0 : c0.name.size ≤ 300) (h1 : c1.name.size ≤ 16) (h2 : c2.name.size ≤ 16) {k : Nat} (hk : k < 3) :
    ∃ (c : Cf) (ra : Option Addr) (rc : Nat), W.cell? ⟨q, k * 3, none⟩ = some (.string c.name) ∧ W.cell? ⟨q, k * 3 + 1, none⟩ = some (.slice ra c.rules.length rc) ∧ W.cell? ⟨q, k * 3 + 2, none⟩ = some (.int .i64 c.full) ∧ Rd ruleE W (.slice ra c.rules.length rc) c.rules ∧ c.name.size ≤ 300 := by
  have hkk : k = 0 ∨ k = 1 ∨ k = 2 := by omega
  rcases hkk with rfl | rfl | rfl
  · obtain ⟨ra, rc, rfl, _⟩ := id h.d0
    exact ⟨c0, ra, rc, by rw [cell_block h.blk]; rfl, by rw [cell_block h.blk]; rfl, by rw [cell_block h.blk]; rfl, h.d0, h0⟩
  · obtain ⟨ra, rc, rfl, _⟩ := id h.d1
    exact ⟨c1, ra, rc, by rw [cell_block h.blk]; rfl, by rw [cell_block h.blk]; rfl, by rw [cell_block h.blk]; rfl, h.d1, by omega⟩
  · obtain ⟨ra, rc, rfl, _⟩ := id h.d2
    exact ⟨c2, ra, rc, by rw [cell_block h.blk]; rfl, by rw [cell_block h.blk]; rfl, by rw [cell_block h.blk]; rfl, h.d2, by omega⟩
/-- one configuration in block p, and a row of numbers in block m -/
structure NxW (p m : Nat) (c : Cf) (ra : Option Addr) (rc : Nat) (pa pb pc pd : Int) (W : World) : Prop where
  box : W.heap[p]? = some (.cells #[.string c.name, .slice ra c.rules.length rc, .int .i64 c.full] 24 (0, 0))
  rdc : Rd ruleE W (.slice ra c.rules.length rc) c.rules
  row : W.heap[m]? = some (.cells #[.int .i64 pa, .int .i64 pb, .int .i64 pc, .int .i64 pd] 3 (0, 0))
theorem NxW.keep {p m : Nat} {c : Cf} {ra : Option Addr} {rc : Nat} {pa pb pc pd : Int} {W W' : World} (h : NxW p m c ra rc pa pb pc pd W) (hb : Below W.heap.size W W') : NxW p m c ra rc pa pb pc pd W' :=
  ⟨below_block hb (block_lt h.box) h.box, h.rdc.below hb, below_block hb (block_lt h.row) h.row⟩
theorem NxW.boxcells {p m : Nat} {c : Cf} {ra : Option Addr} {rc : Nat} {pa pb pc pd : Int} {W : World} (h : NxW p m c ra rc pa pb pc pd W) : p < W.heap.size ∧ W.cell? ⟨p, 0, none⟩ = some (.string c.name) ∧ W.cell? ⟨p, 1, none⟩ = some (.slice ra c.rules.length rc) ∧ W.cell? ⟨p, 2, none⟩ = some (.int .i64 c.full) :=
  ⟨block_lt h.box, by rw [cell_block h.box]; rfl, by rw [cell_block h.box]; rfl, by rw [cell_block h.box]; rfl⟩
theorem NxW.rowcells {p m : Nat} {c : Cf} {ra : Option Addr} {rc : Nat} {pa pb pc pd : Int} {W : World} (h : NxW p m c ra rc pa pb pc pd W) : m < W.heap.size ∧ W.cell? ⟨m, 0, none⟩ = some (.int .i64 pa) ∧ W.cell? ⟨m, 1, none⟩ = some (.int .i64 pb) ∧ W.cell? ⟨m, 2, none⟩ = some (.int .i64 pc) ∧ W.cell? ⟨m, 3, none⟩ = some (.int .i64 pd) :=
  ⟨block_lt h.row, by rw [cell_block h.row]; rfl, by rw [cell_block h.row]; rfl, by rw [cell_block h.row]; rfl, by rw [cell_block h.row]; rfl⟩
/-- three rows of numbers behind block m, blocks m0 m1 m2 -/
def Rw (m : Nat) (a : Int × Int × Int × Int) (W : World) : Prop := W.heap[m]? = some (.cells #[.int .i64 a.1, .int .i64 a.2.1, .int .i64 a.2.2.1, .int .i64 a.2.2.2] 3 (0, 0))
structure NrW (p m m0 m1 m2 : Nat) (c : Cf) (ra : Option Addr) (rc : Nat) (a0 a1 a2 : Int × Int × Int × Int) (W : World) : Prop where
  box : W.heap[p]? = some (.cells #[.string c.name, .slice ra c.rules.length rc, .int .i64 c.full] 24 (0, 0))
  rdc : Rd ruleE W (.slice ra c.rules.length rc) c.rules
  tab : W.heap[m]? = some (.cells #[.slice (some ⟨m0, 0, none⟩) 4 4, .slice (some ⟨m1, 0, none⟩) 4 4, .slice (some ⟨m2, 0, none⟩) 4 4] 25 (0, 0))
  w0 : Rw m0 a0 W
  w1 : Rw m1 a1 W
  w2 : Rw m2 a2 W
theorem NrW.keep {p m m0 m1 m2 : Nat} {c : Cf} {ra : Option Addr} {rc : Nat} {a0 a1 a2 : Int × Int × Int × Int} {W W' : World} (h : NrW p m m0 m1 m2 c ra rc a0 a1 a2 W) (hb : Below W.heap.size W W') : NrW p m m0 m1 m2 c ra rc a0 a1 a2 W' :=
  ⟨below_block hb (block_lt h.box) h.box, h.rdc.below hb, below_block hb (block_lt h.tab) h.tab, below_block hb (block_lt h.w0) h.w0, below_block hb (block_lt h.w1) h.w1, below_block hb (block_lt h.w2) h.w2⟩
theorem NrW.at {p m m0 m1 m2 : Nat} {c : Cf} {ra : Option Addr} {rc : Nat} {a0 a1 a2 : Int × Int × Int × Int} {W : World} (h : NrW p m m0 m1 m2 c ra rc a0 a1 a2 W) {k : Nat} (hk : k < 3) :
    ∃ mm pa pb pc pd, W.cell? ⟨m, k, none⟩ = some (.slice (some ⟨mm, 0, none⟩) 4 4) ∧ NxW p mm c ra rc pa pb pc pd W := by
  have hkk : k = 0 ∨ k = 1 ∨ k = 2 := by omega
  rcases hkk with rfl | rfl | rfl
  · exact ⟨m0, _, _, _, _, by rw [cell_block h.tab]; rfl, h.box, h.rdc, h.w0⟩
  · exact ⟨m1, _, _, _, _, by rw [cell_block h.tab]; rfl, h.box, h.rdc, h.w1⟩
  · exact ⟨m2, _, _, _, _, by rw [cell_block h.tab]; rfl, h.box, h.rdc, h.w2⟩

set_option maxRecDepth 100000 in
set_option maxHeartbeats 8000000 in
theorem boundNumbers_walk (w : World) (cv : Value) (c0 : Cf) (hcv : CfV w cv c0) (hcn : c0.name.size ≤ maxLen) (u : Value) (l : List Int) (hu : Rd i64E w u l) (hl : ∀ x ∈ l, I64 x) (sh : Int) (_ : (Lit.int .i64 sh).wf = true) (n : Int) (_ : (Lit.int .i64 n).wf = true) (live : Int) (_ : (Lit.int .i64 live).wf = true) (words : Int) (_ : (Lit.int .i64 words).wf = true) :
    Calls Try.prog 3 #[cv, u, .int .i64 sh, .int .i64 n, .int .i64 live, .int .i64 words] w fun e w' => e = .returned (.bool true) ∧ Below w.heap.size w w' := by
  have HU := Lib.hid hu
  have HL := Lib.hid hl
  clear hl
  obtain ⟨a2, c2, rfl, hc1, hc2, hvc⟩ := hu
  clear hvc
  obtain ⟨r0, rfl, hrd⟩ := hcv
  have HR0 := Lib.hid hrd
  obtain ⟨ra0, rc0, rfl, hq1, hq2, _⟩ := id hrd
  clear hrd
  unfold maxLen at hcn hq2
  by_cases hr20 : 20 < c0.rules.length
  · have k1 : decide ((20 : Int) < c0.rules.length) = true := by simp; omega
    go_enter Try.func3, Try.ntmps3
    go_wp2_with fail
    refine (awake33 _).mono ?_
    rintro e w' ⟨rfl, hb'⟩
    go_wp2
    go_ret
    exact ⟨rfl, ((Below.refl _ _).alloc (Nat.le_refl _) _).trans (hb'.mono (by simp))⟩
  have k1 : decide ((20 : Int) < c0.rules.length) = false := by simp; omega
  by_cases hr300 : 300 < c0.name.size
  · have k2 : decide ((300 : Int) < c0.name.size) = true := by simp; omega
    go_enter Try.func3, Try.ntmps3
    go_wp2_with fail
    refine (awake33 _).mono ?_
    rintro e w' ⟨rfl, hb'⟩
    go_wp2
    go_ret
    exact ⟨rfl, ((Below.refl _ _).alloc (Nat.le_refl _) _).trans (hb'.mono (by simp))⟩
  have k2 : decide ((300 : Int) < c0.name.size) = false := by simp; omega
  have hn0 : c0.name.size ≤ 300 := by omega
  have HR0' : Hid (∃ a l c, Value.slice ra0 c0.rules.length rc0 = .slice a l c) := Lib.hid ⟨_, _, _, rfl⟩
  go_enter Try.func3, Try.ntmps3
  go_wp2_with fail
  refine (new_any _ l _ (HU.out.below ((Below.refl _ _).alloc (Nat.le_refl _) _)) HL.out).mono ?_
  rintro e w1 ⟨g, rfl, hdk, hb1⟩
  have hbx := below_block hb1 (by simp) (heap_alloc_new w (.cells #[.string c0.name, .slice ra0 c0.rules.length rc0, .int .i64 c0.full] 24))
  have HBX := Lib.hid hbx
  have hs1 : w.heap.size + 1 ≤ w1.heap.size := by have := hb1.size; simpa using this
  have hbel1 : Below w.heap.size w w1 := ((Below.refl _ _).alloc (Nat.le_refl _) _).trans (hb1.mono (by simp))
  have HB1 := Lib.hid hbel1
  have HD1 := Lib.hid hdk
  have hgl := hdk.lt
  have hgg : w.heap.size + 1 ≤ g := by have := hdk.1; simpa using this
  have HGL : ∀ g', some g = some g' → g' < w1.heap.size := fun g' e => by injection e with e; omega
  obtain ⟨B, hB⟩ : ∃ B, B = (w.alloc (.cells #[.string c0.name, .slice ra0 c0.rules.length rc0, .int .i64 c0.full] 24)).heap.size := ⟨_, rfl⟩
  rw [← hB] at HD1
  have hBB : B ≤ w1.heap.size := by rw [hB]; simpa using hs1
  clear hdk hb1 hbx hbel1 hB
  go_wp2_with fail
  apply wp_region_acts (by kernel_rfl) (Ch (some g) B w1.heap.size []) (NmE g B w1.heap.size) (Ch.below ((Below.refl _ _).drew)) [31, 32, 33, 34, 35, 36, 37, 38] [At 31 (Is (.agg #[.string c0.name, .slice ra0 c0.rules.length rc0, .int .i64 c0.full])), At 32 (Is _), At 33 (CfN w1.heap.size), At 34 (Is _), At 35 (CfN w1.heap.size), At 36 (ArN w1.heap.size c0 (.slice ra0 c0.rules.length rc0)), At 37 (Is (.int .i64 3)), At 38 (Is _)] [[31], [32], [33], [34], [35], [36], [37], [38]] ⟨LocOk.at, LocOk.at, LocOk.at, LocOk.at, LocOk.at, LocOk.at, LocOk.at, LocOk.at, trivial⟩ ⟨fun i _ _ => stb_at (fun _ _ _ h => NmE.up h) (Stb.is), fun i _ _ => stb_at (fun _ _ _ h => NmE.up h) (Stb.is), fun i _ _ => stb_at (fun _ _ _ h => NmE.up h) (CfN.stb (X := []) List.not_mem_nil HGL), fun i _ _ => stb_at (fun _ _ _ h => NmE.up h) (Stb.is), fun i _ _ => stb_at (fun _ _ _ h => NmE.up h) (CfN.stb (X := []) List.not_mem_nil HGL), fun i _ _ => stb_at (fun _ _ _ h => NmE.up h) (ArN.stb (X := []) rfl HGL), fun i _ _ => stb_at (fun _ _ _ h => NmE.up h) (Stb.is), fun i _ _ => stb_at (fun _ _ _ h => NmE.up h) (Stb.is), trivial⟩ (by kernel_rfl) (by kernel_rfl) (by kernel_rfl) (by kernel_rfl)
  · refine ASteps.cons (AStep.mk NmE.tr rfl rfl fun t V hsz hout hE hdep K hK => ?_) ?_
    · skip
      have t6 : t[6]? = some _ := hout 6 (by kernel_rfl)
      have HS : Hid (t.size = 134) := Lib.hid hsz
      clear hout hdep hsz
      have hbx := hE.old HBX.out (fun e => by injection e with e; omega) (by omega)
      have k0 : V.cell? ⟨w.heap.size, 0, none⟩ = some (.string c0.name) := by rw [cell_block hbx]; rfl
      have k1 : V.cell? ⟨w.heap.size, 1, none⟩ = some (.slice ra0 c0.rules.length rc0) := by rw [cell_block hbx]; rfl
      have k2 : V.cell? ⟨w.heap.size, 2, none⟩ = some (.int .i64 c0.full) := by rw [cell_block hbx]; rfl
      have kl := block_lt hbx
      clear hbx
      go_simp
      exact hK.out _ _ (Ch.refl _ _ _ _ _) (at_here (by rw [HS.out]; decide) rfl)
    refine ASteps.cons (AStep.mk NmE.tr rfl rfl fun t V hsz hout hE hdep K hK => ?_) ?_
    · skip
      have t13 : t[13]? = some _ := hout 13 (by kernel_rfl)
      have HS : Hid (t.size = 134) := Lib.hid hsz
      clear hout hdep hsz
      go_simp
      exact hK.out _ _ (Ch.refl _ _ _ _ _) (at_here (by rw [HS.out]; decide) rfl)
    refine ASteps.cons (AStep.mk NmE.tr rfl rfl fun t V hsz hout hE hdep K hK => ?_) ?_
    · skip
      have t32 := at_is (hdep 1 (by kernel_rfl))
      have HS : Hid (t.size = 134) := Lib.hid hsz
      clear hout hdep hsz
      have hs := hE.size
      go_simp
      refine (config_any B g _ (hE.deck g rfl HD1.out) (by omega)).mono ?_
      rintro e W5 ⟨v, c, rfl, ho, hok, hdk⟩
      go_simp
      exact hK.out _ _ (Ch.next hdk.gr hdk.deck) (at_here (by rw [HS.out]; decide) ⟨c, ho.base hs, hok.1.2.1⟩)
    refine ASteps.cons (AStep.mk NmE.tr rfl rfl fun t V hsz hout hE hdep K hK => ?_) ?_
    · skip
      have t13 : t[13]? = some _ := hout 13 (by kernel_rfl)
      have HS : Hid (t.size = 134) := Lib.hid hsz
      clear hout hdep hsz
      go_simp
      exact hK.out _ _ (Ch.refl _ _ _ _ _) (at_here (by rw [HS.out]; decide) rfl)
    refine ASteps.cons (AStep.mk NmE.tr rfl rfl fun t V hsz hout hE hdep K hK => ?_) ?_
    · skip
      have t34 := at_is (hdep 3 (by kernel_rfl))
      have HS : Hid (t.size = 134) := Lib.hid hsz
      clear hout hdep hsz
      have hs := hE.size
      go_simp
      refine (mkcomplete_any B g _ (hE.deck g rfl HD1.out) (by omega)).mono ?_
      rintro e W5 ⟨v, c, rfl, ho, hok, hdk⟩
      go_simp
      exact hK.out _ _ (Ch.next hdk.gr hdk.deck) (at_here (by rw [HS.out]; decide) ⟨c, ho.base hs, hok.1.1.1.2.1⟩)
    refine ASteps.cons (AStep.mk NmE.tr rfl rfl fun t V hsz hout hE hdep K hK => ?_) ?_
    · skip
      have t31 := at_is (hdep 0 (by kernel_rfl))
      obtain ⟨v33, t33, e33⟩ := hdep 2 (by kernel_rfl)
      dsimp only at t33
      obtain ⟨v35, t35, e35⟩ := hdep 4 (by kernel_rfl)
      dsimp only at t35
      have HS : Hid (t.size = 134) := Lib.hid hsz
      clear hout hdep hsz
      obtain ⟨c1, ⟨r1, rfl, o1⟩, n1⟩ := e33
      obtain ⟨c2, ⟨r2, rfl, o2⟩, n2⟩ := e35
      obtain ⟨a1, l1, b1, rfl⟩ := own_sl o1
      obtain ⟨a2, l2, b2, rfl⟩ := own_sl o2
      have O1 := Lib.hid o1
      have O2 := Lib.hid o2
      have N1 := Lib.hid n1
      have N2 := Lib.hid n2
      have hs := hE.size
      clear o1 o2 n1 n2
      go_simp
      exact hK.out _ _ (Ch.below ((Below.refl _ _).alloc (Nat.le_refl _) _)) (at_here (by rw [HS.out]; decide) ⟨_, c1, c2, _, _, rfl, hs, heap_alloc_new _ _, O1.out.alloc _, O2.out.alloc _, N1.out, N2.out⟩)
    refine ASteps.cons (AStep.mk NmE.tr rfl rfl fun t V hsz hout hE hdep K hK => ?_) ?_
    · skip
      obtain ⟨v36, t36, e36⟩ := hdep 5 (by kernel_rfl)
      dsimp only at t36
      have HS : Hid (t.size = 134) := Lib.hid hsz
      clear hout hdep hsz
      obtain ⟨q, c1, c2, r1, r2, rfl, _⟩ := e36
      go_simp
      exact hK.out _ _ (Ch.refl _ _ _ _ _) (at_here (by rw [HS.out]; decide) rfl)
    refine ASteps.cons (AStep.mk NmE.tr rfl rfl fun t V hsz hout hE hdep K hK => ?_) ?_
    · skip
      have HS : Hid (t.size = 134) := Lib.hid hsz
      clear hout hdep hsz
      go_simp
      exact hK.out _ _ (Ch.refl _ _ _ _ _) (at_here (by rw [HS.out]; decide) rfl)
    exact ASteps.nil (by decide)
  · intro f W hE hF hget
    have f31 : f 31 = _ := at_end (hF 0 (by kernel_rfl)) (hget 31 (by decide) (by simp))
    have f32 : f 32 = _ := at_end (hF 1 (by kernel_rfl)) (hget 32 (by decide) (by simp))
    have f33 := at_end (hF 2 (by kernel_rfl)) (hget 33 (by decide) (by simp))
    have f34 : f 34 = _ := at_end (hF 3 (by kernel_rfl)) (hget 34 (by decide) (by simp))
    have f35 := at_end (hF 4 (by kernel_rfl)) (hget 35 (by decide) (by simp))
    have f36 := at_end (hF 5 (by kernel_rfl)) (hget 36 (by decide) (by simp))
    have f37 : f 37 = _ := at_end (hF 6 (by kernel_rfl)) (hget 37 (by decide) (by simp))
    have f38 : f 38 = _ := at_end (hF 7 (by kernel_rfl)) (hget 38 (by decide) (by simp))
    clear hF hget
    simp only [setAllV, List.map_cons, List.map_nil, List.set_cons_succ, List.set_cons_zero, f31, f32, f34, f37, f38]
    clear f31 f32 f34 f37 f38
    generalize f 33 = v33 at *
    generalize f 35 = v35 at *
    generalize f 36 = v36 at *
    obtain ⟨q, c1, c2, r1, r2, rfl, hq, hbq, o1, o2, n1, n2⟩ := f36
    have hgr := hE.grown (Nat.le_refl _)
    have hbw : Below w.heap.size w W := HB1.out.grown hgr (by omega) (fun k e => by injection e with e; omega)
    have NC : Hid (NcW w q c0 c1 c2 (.slice ra0 c0.rules.length rc0) r1 r2 W) := Lib.hid ⟨hbw, hbq, HR0.out.below hbw, o1.rd, o2.rd⟩
    clear hgr hbw hbq o1 o2 hE f33 f35
    go_wp2_with fail
    go_loopw [38] (fun i wr => ∃ k : Nat, k ≤ 3 ∧ i = .int .i64 k ∧ NcW w q c0 c1 c2 (.slice ra0 c0.rules.length rc0) r1 r2 wr) (fun i _ => 3 - (intOf i).toNat)
    case atStart => exact ⟨0, by omega, rfl, NC.out⟩
    case round =>
      obtain ⟨k, hk, rfl, hnc⟩ := hrel
      have HNC := Lib.hid hnc
      clear NC
      by_cases hk3 : k < 3
      · obtain ⟨c, ra, rc, x0, x1, x2, hrd, hcs⟩ := hnc.at hn0 n1 n2 hk3
        have hql := block_lt hnc.blk
        have HRD := Lib.hid hrd
        have hsz : c.name.size ≤ 9223372036854775807 := by omega
        have hk3i : (k : Int) < 3 := by omega
        clear hrd hnc
        go_wp2_with (first | (go_at_call 14; refine (mod_any _ _ _ (by omega) (by omega)).mono ?_; rintro e w' ⟨rfl, rfl⟩))
        have hZ : Below wr.heap.size wr (((((wr.alloc (.cells #[.string c.name, .slice ra c.rules.length rc, .int .i64 c.full] 24)).alloc (.cells #[.int .i64 sh, .int .i64 n, .int .i64 live, .int .i64 words] 3)).alloc (.cells #[.int .i64 (2 + sh % 8), .int .i64 (n % 67), .int .i64 (live % 900), .int .i64 (words % 50)] 3)).alloc (.cells #[.int .i64 3, .int .i64 (2 + n % 20), .int .i64 (live % 90), .int .i64 (1 + words % 48)] 3)).alloc (.cells #[.slice (some ⟨wr.heap.size + 1, 0, none⟩) 4 4, .slice (some ⟨wr.heap.size + 1 + 1, 0, none⟩) 4 4, .slice (some ⟨wr.heap.size + 1 + 1 + 1, 0, none⟩) 4 4] 25)) := by
          repeat (first | exact Below.refl _ _ | refine Below.alloc ?_ (by first | exact Nat.le_refl _ | (simp; done) | (simp; omega)) _)
        have hnr : NrW wr.heap.size (wr.heap.size + 1 + 1 + 1 + 1) (wr.heap.size + 1) (wr.heap.size + 1 + 1) (wr.heap.size + 1 + 1 + 1) c ra rc (sh, n, live, words) (2 + sh % 8, n % 67, live % 900, words % 50) (3, 2 + n % 20, live % 90, 1 + words % 48) (((((wr.alloc (.cells #[.string c.name, .slice ra c.rules.length rc, .int .i64 c.full] 24)).alloc (.cells #[.int .i64 sh, .int .i64 n, .int .i64 live, .int .i64 words] 3)).alloc (.cells #[.int .i64 (2 + sh % 8), .int .i64 (n % 67), .int .i64 (live % 900), .int .i64 (words % 50)] 3)).alloc (.cells #[.int .i64 3, .int .i64 (2 + n % 20), .int .i64 (live % 90), .int .i64 (1 + words % 48)] 3)).alloc (.cells #[.slice (some ⟨wr.heap.size + 1, 0, none⟩) 4 4, .slice (some ⟨wr.heap.size + 1 + 1, 0, none⟩) 4 4, .slice (some ⟨wr.heap.size + 1 + 1 + 1, 0, none⟩) 4 4] 25)) := by
          refine ⟨alloc_block (alloc_block (alloc_block (alloc_block (heap_alloc_new _ _)))), HRD.out.below hZ, heap_alloc_at _ _ _ (by simp), ?_, ?_, ?_⟩
          · exact alloc_block (alloc_block (alloc_block (heap_alloc_at _ _ _ (by simp))))
          · exact alloc_block (alloc_block (heap_alloc_at _ _ _ (by simp)))
          · exact alloc_block (heap_alloc_at _ _ _ (by simp))
        have NR := Lib.hid hnr
        have NZ := Lib.hid (HNC.out.keep hZ)
        clear hnr hZ HNC x0 x1 x2 HRD
        generalize (((((wr.alloc (.cells #[.string c.name, .slice ra c.rules.length rc, .int .i64 c.full] 24)).alloc (.cells #[.int .i64 sh, .int .i64 n, .int .i64 live, .int .i64 words] 3)).alloc (.cells #[.int .i64 (2 + sh % 8), .int .i64 (n % 67), .int .i64 (live % 900), .int .i64 (words % 50)] 3)).alloc (.cells #[.int .i64 3, .int .i64 (2 + n % 20), .int .i64 (live % 90), .int .i64 (1 + words % 48)] 3)).alloc (.cells #[.slice (some ⟨wr.heap.size + 1, 0, none⟩) 4 4, .slice (some ⟨wr.heap.size + 1 + 1, 0, none⟩) 4 4, .slice (some ⟨wr.heap.size + 1 + 1 + 1, 0, none⟩) 4 4] 25)) = Z at *
        generalize wr.heap.size = p at *
        go_loopw [68] (fun i w5 => ∃ j : Nat, j ≤ 3 ∧ i = .int .i64 j ∧ NcW w q c0 c1 c2 (.slice ra0 c0.rules.length rc0) r1 r2 w5 ∧ NrW p (p + 1 + 1 + 1 + 1) (p + 1) (p + 1 + 1) (p + 1 + 1 + 1) c ra rc (sh, n, live, words) (2 + sh % 8, n % 67, live % 900, words % 50) (3, 2 + n % 20, live % 90, 1 + words % 48) w5) (fun i _ => 3 - (intOf i).toNat)
        case atStart => exact ⟨0, by omega, rfl, NZ.out, NR.out⟩
        case round =>
          rename_i hrel w5
          obtain ⟨j, hj, rfl, hnz, hnr⟩ := hrel
          have HNZ := Lib.hid hnz
          have HNR := Lib.hid hnr
          clear NR NZ
          by_cases hj3 : j < 3
          · obtain ⟨mm, pa, pb, pc, pd, y9, hnx⟩ := hnr.at hj3
            have hml := block_lt hnr.tab
            have NI := Lib.hid hnx
            have hj3i : (j : Int) < 3 := by omega
            clear hnz hnr hnx
            go_wp2_with fail
            apply wp_region_vals (by kernel_rfl) Grw (Grw.drew _) [72, 73, 74, 75, 76, 77, 78, 79, 80, 81, 82, 83, 84, 85, 86, 87, 88, 89, 90, 91, 92, 93, 94, 95, 96, 97, 98, 99, 100, 101, 102, 103, 104, 105, 106, 107, 108, 109, 110, 111, 112, 113, 114, 115, 116, 117, 118, 119, 120, 121, 122, 123, 124, 125, 126, 127, 128, 129, 130] [Is _, Is _, Is _, (SlF pa), Is _, Is _, Is _, (SlF pa), Is (.bool false), Is _, Is (.agg #[.string c.name, .slice ra c.rules.length rc, .int .i64 c.full]), Is _, Is _, Is _, Is _, Is _, Is _, Is _, Is _, Is _, Is _, Is _, Is _, (SaF c pa pb pc pd), Is (.agg #[.string c.name, .slice ra c.rules.length rc, .int .i64 c.full]), Is _, Is _, Is _, Is _, Is _, Is _, Is _, Is _, Is _, Is _, Is _, Is _, (SaF c pa pb pc pd), Is (.bool false), Is _, Is _, Is (.agg #[.string c.name, .slice ra c.rules.length rc, .int .i64 c.full]), Is _, Is _, Is _, Is _, Is _, Is _, (DuF c pa pb), Is (.agg #[.string c.name, .slice ra c.rules.length rc, .int .i64 c.full]), Is _, Is _, Is _, Is _, Is _, Is _, (DuF c pa pb), Is (.bool false), Is _] (stb_cons (Stb.is) (stb_cons (Stb.is) (stb_cons (Stb.is) (stb_cons (SlF.stb) (stb_cons (Stb.is) (stb_cons (Stb.is) (stb_cons (Stb.is) (stb_cons (SlF.stb) (stb_cons (Stb.is) (stb_cons (Stb.is) (stb_cons (Stb.is) (stb_cons (Stb.is) (stb_cons (Stb.is) (stb_cons (Stb.is) (stb_cons (Stb.is) (stb_cons (Stb.is) (stb_cons (Stb.is) (stb_cons (Stb.is) (stb_cons (Stb.is) (stb_cons (Stb.is) (stb_cons (Stb.is) (stb_cons (Stb.is) (stb_cons (Stb.is) (stb_cons (SaF.stb) (stb_cons (Stb.is) (stb_cons (Stb.is) (stb_cons (Stb.is) (stb_cons (Stb.is) (stb_cons (Stb.is) (stb_cons (Stb.is) (stb_cons (Stb.is) (stb_cons (Stb.is) (stb_cons (Stb.is) (stb_cons (Stb.is) (stb_cons (Stb.is) (stb_cons (Stb.is) (stb_cons (Stb.is) (stb_cons (SaF.stb) (stb_cons (Stb.is) (stb_cons (Stb.is) (stb_cons (Stb.is) (stb_cons (Stb.is) (stb_cons (Stb.is) (stb_cons (Stb.is) (stb_cons (Stb.is) (stb_cons (Stb.is) (stb_cons (Stb.is) (stb_cons (Stb.is) (stb_cons (DuF.stb) (stb_cons (Stb.is) (stb_cons (Stb.is) (stb_cons (Stb.is) (stb_cons (Stb.is) (stb_cons (Stb.is) (stb_cons (Stb.is) (stb_cons (Stb.is) (stb_cons (DuF.stb) (stb_cons (Stb.is) (stb_cons (Stb.is) stb_nil))))))))))))))))))))))))))))))))))))))))))))))))))))))))))) (by kernel_rfl) (by kernel_rfl) (by kernel_rfl)
            · refine VSteps.cons (VStep.mk Grw.trans rfl rfl fun t V hout hE hdep K hK => ?_) ?_
              · skip
                have t17 : t[17]? = some _ := hout 17 (by kernel_rfl)
                clear hout hdep
                go_simp
                exact hK.out _ _ (Grw.refl _) rfl
              refine VSteps.cons (VStep.mk Grw.trans rfl rfl fun t V hout hE hdep K hK => ?_) ?_
              · skip
                have t72 := by_is (W := V) (hdep 0 72 (by kernel_rfl))
                clear hout hdep
                go_simp
                exact hK.out _ _ (Grw.refl _) rfl
              refine VSteps.cons (VStep.mk Grw.trans rfl rfl fun t V hout hE hdep K hK => ?_) ?_
              · skip
                have t73 := by_is (W := V) (hdep 1 73 (by kernel_rfl))
                clear hout hdep
                obtain ⟨y, y0, y1, y2, y3⟩ := (NI.out.keep hE).rowcells
                go_simp
                exact hK.out _ _ (Grw.refl _) rfl
              refine VSteps.cons (VStep.mk Grw.trans rfl rfl fun t V hout hE hdep K hK => ?_) ?_
              · skip
                have t74 := by_is (W := V) (hdep 2 74 (by kernel_rfl))
                clear hout hdep
                go_simp
                refine (slack_any _ _).mono ?_
                rintro e W5 ⟨⟨x, rfl, hx⟩, rfl⟩
                go_simp
                exact hK.out _ _ (Grw.refl _) ⟨x, rfl, hx⟩
              refine VSteps.cons (VStep.mk Grw.trans rfl rfl fun t V hout hE hdep K hK => ?_) ?_
              · skip
                have t17 : t[17]? = some _ := hout 17 (by kernel_rfl)
                clear hout hdep
                go_simp
                exact hK.out _ _ (Grw.refl _) rfl
              refine VSteps.cons (VStep.mk Grw.trans rfl rfl fun t V hout hE hdep K hK => ?_) ?_
              · skip
                have t76 := by_is (W := V) (hdep 4 76 (by kernel_rfl))
                clear hout hdep
                go_simp
                exact hK.out _ _ (Grw.refl _) rfl
              refine VSteps.cons (VStep.mk Grw.trans rfl rfl fun t V hout hE hdep K hK => ?_) ?_
              · skip
                have t77 := by_is (W := V) (hdep 5 77 (by kernel_rfl))
                clear hout hdep
                obtain ⟨y, y0, y1, y2, y3⟩ := (NI.out.keep hE).rowcells
                go_simp
                exact hK.out _ _ (Grw.refl _) rfl
              refine VSteps.cons (VStep.mk Grw.trans rfl rfl fun t V hout hE hdep K hK => ?_) ?_
              · skip
                have t78 := by_is (W := V) (hdep 6 78 (by kernel_rfl))
                clear hout hdep
                go_simp
                refine (rslack_any _ _).mono ?_
                rintro e W5 ⟨⟨x, rfl, hx⟩, rfl⟩
                go_simp
                exact hK.out _ _ (Grw.refl _) ⟨x, rfl, hx⟩
              refine VSteps.cons (VStep.mk Grw.trans rfl rfl fun t V hout hE hdep K hK => ?_) ?_
              · skip
                obtain ⟨v75, t75, e75⟩ := hdep 3 75 (by kernel_rfl)
                obtain ⟨v79, t79, e79⟩ := hdep 7 79 (by kernel_rfl)
                clear hout hdep
                obtain ⟨x, rfl, hx⟩ := e75
                obtain ⟨y, rfl, hy⟩ := e79
                obtain rfl := hx.unique hy
                clear hx hy
                go_simp
                exact hK.out _ _ (Grw.refl _) (by first | rfl | simp [fAt, Is] | (unfold fAt; simp [Is]))
              refine VSteps.cons (VStep.mk Grw.trans rfl rfl fun t V hout hE hdep K hK => ?_) ?_
              · skip
                have t80 := by_is (W := V) (hdep 8 80 (by kernel_rfl))
                clear hout hdep
                go_simp
                exact hK.out _ _ (Grw.refl _) rfl
              refine VSteps.cons (VStep.mkG Grw.trans (dg := 81) rfl rfl (by kernel_rfl) (fun _ _ h => h) fun t V hout hE hdep K hK => ?_) ?_
              · skip
                have t15 : t[15]? = some _ := hout 15 (by kernel_rfl)
                clear hout hdep
                obtain ⟨k0, k1, k2, k3⟩ := (NI.out.keep hE).boxcells
                go_simp
                exact hK.out _ _ (Grw.refl _) rfl
              refine VSteps.cons (VStep.mkG Grw.trans (dg := 81) rfl rfl (by kernel_rfl) (fun _ _ h => h) fun t V hout hE hdep K hK => ?_) ?_
              · skip
                have t17 : t[17]? = some _ := hout 17 (by kernel_rfl)
                clear hout hdep
                go_simp
                exact hK.out _ _ (Grw.refl _) rfl
              refine VSteps.cons (VStep.mkG Grw.trans (dg := 81) rfl rfl (by kernel_rfl) (fun _ _ h => h) fun t V hout hE hdep K hK => ?_) ?_
              · skip
                have t83 := by_is (W := V) (hdep 11 83 (by kernel_rfl))
                clear hout hdep
                go_simp
                exact hK.out _ _ (Grw.refl _) rfl
              refine VSteps.cons (VStep.mkG Grw.trans (dg := 81) rfl rfl (by kernel_rfl) (fun _ _ h => h) fun t V hout hE hdep K hK => ?_) ?_
              · skip
                have t84 := by_is (W := V) (hdep 12 84 (by kernel_rfl))
                clear hout hdep
                obtain ⟨y, y0, y1, y2, y3⟩ := (NI.out.keep hE).rowcells
                go_simp
                exact hK.out _ _ (Grw.refl _) rfl
              refine VSteps.cons (VStep.mkG Grw.trans (dg := 81) rfl rfl (by kernel_rfl) (fun _ _ h => h) fun t V hout hE hdep K hK => ?_) ?_
              · skip
                have t17 : t[17]? = some _ := hout 17 (by kernel_rfl)
                clear hout hdep
                go_simp
                exact hK.out _ _ (Grw.refl _) rfl
              refine VSteps.cons (VStep.mkG Grw.trans (dg := 81) rfl rfl (by kernel_rfl) (fun _ _ h => h) fun t V hout hE hdep K hK => ?_) ?_
              · skip
                have t86 := by_is (W := V) (hdep 14 86 (by kernel_rfl))
                clear hout hdep
                go_simp
                exact hK.out _ _ (Grw.refl _) rfl
              refine VSteps.cons (VStep.mkG Grw.trans (dg := 81) rfl rfl (by kernel_rfl) (fun _ _ h => h) fun t V hout hE hdep K hK => ?_) ?_
              · skip
                have t87 := by_is (W := V) (hdep 15 87 (by kernel_rfl))
                clear hout hdep
                obtain ⟨y, y0, y1, y2, y3⟩ := (NI.out.keep hE).rowcells
                go_simp
                exact hK.out _ _ (Grw.refl _) rfl
              refine VSteps.cons (VStep.mkG Grw.trans (dg := 81) rfl rfl (by kernel_rfl) (fun _ _ h => h) fun t V hout hE hdep K hK => ?_) ?_
              · skip
                have t17 : t[17]? = some _ := hout 17 (by kernel_rfl)
                clear hout hdep
                go_simp
                exact hK.out _ _ (Grw.refl _) rfl
              refine VSteps.cons (VStep.mkG Grw.trans (dg := 81) rfl rfl (by kernel_rfl) (fun _ _ h => h) fun t V hout hE hdep K hK => ?_) ?_
              · skip
                have t89 := by_is (W := V) (hdep 17 89 (by kernel_rfl))
                clear hout hdep
                go_simp
                exact hK.out _ _ (Grw.refl _) rfl
              refine VSteps.cons (VStep.mkG Grw.trans (dg := 81) rfl rfl (by kernel_rfl) (fun _ _ h => h) fun t V hout hE hdep K hK => ?_) ?_
              · skip
                have t90 := by_is (W := V) (hdep 18 90 (by kernel_rfl))
                clear hout hdep
                obtain ⟨y, y0, y1, y2, y3⟩ := (NI.out.keep hE).rowcells
                go_simp
                exact hK.out _ _ (Grw.refl _) rfl
              refine VSteps.cons (VStep.mkG Grw.trans (dg := 81) rfl rfl (by kernel_rfl) (fun _ _ h => h) fun t V hout hE hdep K hK => ?_) ?_
              · skip
                have t17 : t[17]? = some _ := hout 17 (by kernel_rfl)
                clear hout hdep
                go_simp
                exact hK.out _ _ (Grw.refl _) rfl
              refine VSteps.cons (VStep.mkG Grw.trans (dg := 81) rfl rfl (by kernel_rfl) (fun _ _ h => h) fun t V hout hE hdep K hK => ?_) ?_
              · skip
                have t92 := by_is (W := V) (hdep 20 92 (by kernel_rfl))
                clear hout hdep
                go_simp
                exact hK.out _ _ (Grw.refl _) rfl
              refine VSteps.cons (VStep.mkG Grw.trans (dg := 81) rfl rfl (by kernel_rfl) (fun _ _ h => h) fun t V hout hE hdep K hK => ?_) ?_
              · skip
                have t93 := by_is (W := V) (hdep 21 93 (by kernel_rfl))
                clear hout hdep
                obtain ⟨y, y0, y1, y2, y3⟩ := (NI.out.keep hE).rowcells
                go_simp
                exact hK.out _ _ (Grw.refl _) rfl
              refine VSteps.cons (VStep.mkG Grw.trans (dg := 81) rfl rfl (by kernel_rfl) (fun _ _ h => h) fun t V hout hE hdep K hK => ?_) ?_
              · skip
                have t82 := by_is (W := V) (hdep 10 82 (by kernel_rfl))
                have t85 := by_is (W := V) (hdep 13 85 (by kernel_rfl))
                have t88 := by_is (W := V) (hdep 16 88 (by kernel_rfl))
                have t91 := by_is (W := V) (hdep 19 91 (by kernel_rfl))
                have t94 := by_is (W := V) (hdep 22 94 (by kernel_rfl))
                clear hout hdep
                go_simp
                refine (safe_any c _ _ ⟨_, rfl, (NI.out.keep hE).rdc⟩ hsz _ _ _ _).mono ?_
                rintro e W5 ⟨⟨x, rfl, hx⟩, hb5⟩
                go_simp
                exact hK.out _ _ hb5 ⟨x, rfl, hx⟩
              refine VSteps.cons (VStep.mkG Grw.trans (dg := 81) rfl rfl (by kernel_rfl) (fun _ _ h => h) fun t V hout hE hdep K hK => ?_) ?_
              · skip
                have t15 : t[15]? = some _ := hout 15 (by kernel_rfl)
                clear hout hdep
                obtain ⟨k0, k1, k2, k3⟩ := (NI.out.keep hE).boxcells
                go_simp
                exact hK.out _ _ (Grw.refl _) rfl
              refine VSteps.cons (VStep.mkG Grw.trans (dg := 81) rfl rfl (by kernel_rfl) (fun _ _ h => h) fun t V hout hE hdep K hK => ?_) ?_
              · skip
                have t17 : t[17]? = some _ := hout 17 (by kernel_rfl)
                clear hout hdep
                go_simp
                exact hK.out _ _ (Grw.refl _) rfl
              refine VSteps.cons (VStep.mkG Grw.trans (dg := 81) rfl rfl (by kernel_rfl) (fun _ _ h => h) fun t V hout hE hdep K hK => ?_) ?_
              · skip
                have t97 := by_is (W := V) (hdep 25 97 (by kernel_rfl))
                clear hout hdep
                go_simp
                exact hK.out _ _ (Grw.refl _) rfl
              refine VSteps.cons (VStep.mkG Grw.trans (dg := 81) rfl rfl (by kernel_rfl) (fun _ _ h => h) fun t V hout hE hdep K hK => ?_) ?_
              · skip
                have t98 := by_is (W := V) (hdep 26 98 (by kernel_rfl))
                clear hout hdep
                obtain ⟨y, y0, y1, y2, y3⟩ := (NI.out.keep hE).rowcells
                go_simp
                exact hK.out _ _ (Grw.refl _) rfl
              refine VSteps.cons (VStep.mkG Grw.trans (dg := 81) rfl rfl (by kernel_rfl) (fun _ _ h => h) fun t V hout hE hdep K hK => ?_) ?_
              · skip
                have t17 : t[17]? = some _ := hout 17 (by kernel_rfl)
                clear hout hdep
                go_simp
                exact hK.out _ _ (Grw.refl _) rfl
              refine VSteps.cons (VStep.mkG Grw.trans (dg := 81) rfl rfl (by kernel_rfl) (fun _ _ h => h) fun t V hout hE hdep K hK => ?_) ?_
              · skip
                have t100 := by_is (W := V) (hdep 28 100 (by kernel_rfl))
                clear hout hdep
                go_simp
                exact hK.out _ _ (Grw.refl _) rfl
              refine VSteps.cons (VStep.mkG Grw.trans (dg := 81) rfl rfl (by kernel_rfl) (fun _ _ h => h) fun t V hout hE hdep K hK => ?_) ?_
              · skip
                have t101 := by_is (W := V) (hdep 29 101 (by kernel_rfl))
                clear hout hdep
                obtain ⟨y, y0, y1, y2, y3⟩ := (NI.out.keep hE).rowcells
                go_simp
                exact hK.out _ _ (Grw.refl _) rfl
              refine VSteps.cons (VStep.mkG Grw.trans (dg := 81) rfl rfl (by kernel_rfl) (fun _ _ h => h) fun t V hout hE hdep K hK => ?_) ?_
              · skip
                have t17 : t[17]? = some _ := hout 17 (by kernel_rfl)
                clear hout hdep
                go_simp
                exact hK.out _ _ (Grw.refl _) rfl
              refine VSteps.cons (VStep.mkG Grw.trans (dg := 81) rfl rfl (by kernel_rfl) (fun _ _ h => h) fun t V hout hE hdep K hK => ?_) ?_
              · skip
                have t103 := by_is (W := V) (hdep 31 103 (by kernel_rfl))
                clear hout hdep
                go_simp
                exact hK.out _ _ (Grw.refl _) rfl
              refine VSteps.cons (VStep.mkG Grw.trans (dg := 81) rfl rfl (by kernel_rfl) (fun _ _ h => h) fun t V hout hE hdep K hK => ?_) ?_
              · skip
                have t104 := by_is (W := V) (hdep 32 104 (by kernel_rfl))
                clear hout hdep
                obtain ⟨y, y0, y1, y2, y3⟩ := (NI.out.keep hE).rowcells
                go_simp
                exact hK.out _ _ (Grw.refl _) rfl
              refine VSteps.cons (VStep.mkG Grw.trans (dg := 81) rfl rfl (by kernel_rfl) (fun _ _ h => h) fun t V hout hE hdep K hK => ?_) ?_
              · skip
                have t17 : t[17]? = some _ := hout 17 (by kernel_rfl)
                clear hout hdep
                go_simp
                exact hK.out _ _ (Grw.refl _) rfl
              refine VSteps.cons (VStep.mkG Grw.trans (dg := 81) rfl rfl (by kernel_rfl) (fun _ _ h => h) fun t V hout hE hdep K hK => ?_) ?_
              · skip
                have t106 := by_is (W := V) (hdep 34 106 (by kernel_rfl))
                clear hout hdep
                go_simp
                exact hK.out _ _ (Grw.refl _) rfl
              refine VSteps.cons (VStep.mkG Grw.trans (dg := 81) rfl rfl (by kernel_rfl) (fun _ _ h => h) fun t V hout hE hdep K hK => ?_) ?_
              · skip
                have t107 := by_is (W := V) (hdep 35 107 (by kernel_rfl))
                clear hout hdep
                obtain ⟨y, y0, y1, y2, y3⟩ := (NI.out.keep hE).rowcells
                go_simp
                exact hK.out _ _ (Grw.refl _) rfl
              refine VSteps.cons (VStep.mkG Grw.trans (dg := 81) rfl rfl (by kernel_rfl) (fun _ _ h => h) fun t V hout hE hdep K hK => ?_) ?_
              · skip
                have t96 := by_is (W := V) (hdep 24 96 (by kernel_rfl))
                have t99 := by_is (W := V) (hdep 27 99 (by kernel_rfl))
                have t102 := by_is (W := V) (hdep 30 102 (by kernel_rfl))
                have t105 := by_is (W := V) (hdep 33 105 (by kernel_rfl))
                have t108 := by_is (W := V) (hdep 36 108 (by kernel_rfl))
                clear hout hdep
                go_simp
                refine (rsafe_any c _ _ ⟨_, rfl, (NI.out.keep hE).rdc⟩ hsz _ _ _ _).mono ?_
                rintro e W5 ⟨⟨x, rfl, hx⟩, hb5⟩
                go_simp
                exact hK.out _ _ hb5 ⟨x, rfl, hx⟩
              refine VSteps.cons (VStep.mkG Grw.trans (dg := 81) rfl rfl (by kernel_rfl) (fun _ _ h => h) fun t V hout hE hdep K hK => ?_) ?_
              · skip
                obtain ⟨v95, t95, e95⟩ := hdep 23 95 (by kernel_rfl)
                obtain ⟨v109, t109, e109⟩ := hdep 37 109 (by kernel_rfl)
                clear hout hdep
                obtain ⟨x, rfl, hx⟩ := e95
                obtain ⟨y, rfl, hy⟩ := e109
                obtain rfl : x = y := Bool.eq_iff_iff.2 (hx.trans hy.symm)
                clear hx hy
                go_simp
                exact hK.out _ _ (Grw.refl _) (by first | rfl | simp [fAt, Is] | (unfold fAt; simp [Is]))
              refine VSteps.cons (VStep.mk Grw.trans rfl rfl fun t V hout hE hdep K hK => ?_) ?_
              · skip
                have t81 := by_is (W := V) (hdep 9 81 (by kernel_rfl))
                have t110 := by_is (W := V) (hdep 38 110 (by kernel_rfl))
                clear hout hdep
                go_simp
                exact hK.out _ _ (Grw.refl _) rfl
              refine VSteps.cons (VStep.mk Grw.trans rfl rfl fun t V hout hE hdep K hK => ?_) ?_
              · skip
                have t111 := by_is (W := V) (hdep 39 111 (by kernel_rfl))
                clear hout hdep
                go_simp
                exact hK.out _ _ (Grw.refl _) rfl
              refine VSteps.cons (VStep.mkG Grw.trans (dg := 112) rfl rfl (by kernel_rfl) (fun _ _ h => h) fun t V hout hE hdep K hK => ?_) ?_
              · skip
                have t15 : t[15]? = some _ := hout 15 (by kernel_rfl)
                clear hout hdep
                obtain ⟨k0, k1, k2, k3⟩ := (NI.out.keep hE).boxcells
                go_simp
                exact hK.out _ _ (Grw.refl _) rfl
              refine VSteps.cons (VStep.mkG Grw.trans (dg := 112) rfl rfl (by kernel_rfl) (fun _ _ h => h) fun t V hout hE hdep K hK => ?_) ?_
              · skip
                have t17 : t[17]? = some _ := hout 17 (by kernel_rfl)
                clear hout hdep
                go_simp
                exact hK.out _ _ (Grw.refl _) rfl
              refine VSteps.cons (VStep.mkG Grw.trans (dg := 112) rfl rfl (by kernel_rfl) (fun _ _ h => h) fun t V hout hE hdep K hK => ?_) ?_
              · skip
                have t114 := by_is (W := V) (hdep 42 114 (by kernel_rfl))
                clear hout hdep
                go_simp
                exact hK.out _ _ (Grw.refl _) rfl
              refine VSteps.cons (VStep.mkG Grw.trans (dg := 112) rfl rfl (by kernel_rfl) (fun _ _ h => h) fun t V hout hE hdep K hK => ?_) ?_
              · skip
                have t115 := by_is (W := V) (hdep 43 115 (by kernel_rfl))
                clear hout hdep
                obtain ⟨y, y0, y1, y2, y3⟩ := (NI.out.keep hE).rowcells
                go_simp
                exact hK.out _ _ (Grw.refl _) rfl
              refine VSteps.cons (VStep.mkG Grw.trans (dg := 112) rfl rfl (by kernel_rfl) (fun _ _ h => h) fun t V hout hE hdep K hK => ?_) ?_
              · skip
                have t17 : t[17]? = some _ := hout 17 (by kernel_rfl)
                clear hout hdep
                go_simp
                exact hK.out _ _ (Grw.refl _) rfl
              refine VSteps.cons (VStep.mkG Grw.trans (dg := 112) rfl rfl (by kernel_rfl) (fun _ _ h => h) fun t V hout hE hdep K hK => ?_) ?_
              · skip
                have t117 := by_is (W := V) (hdep 45 117 (by kernel_rfl))
                clear hout hdep
                go_simp
                exact hK.out _ _ (Grw.refl _) rfl
              refine VSteps.cons (VStep.mkG Grw.trans (dg := 112) rfl rfl (by kernel_rfl) (fun _ _ h => h) fun t V hout hE hdep K hK => ?_) ?_
              · skip
                have t118 := by_is (W := V) (hdep 46 118 (by kernel_rfl))
                clear hout hdep
                obtain ⟨y, y0, y1, y2, y3⟩ := (NI.out.keep hE).rowcells
                go_simp
                exact hK.out _ _ (Grw.refl _) rfl
              refine VSteps.cons (VStep.mkG Grw.trans (dg := 112) rfl rfl (by kernel_rfl) (fun _ _ h => h) fun t V hout hE hdep K hK => ?_) ?_
              · skip
                have t113 := by_is (W := V) (hdep 41 113 (by kernel_rfl))
                have t116 := by_is (W := V) (hdep 44 116 (by kernel_rfl))
                have t119 := by_is (W := V) (hdep 47 119 (by kernel_rfl))
                clear hout hdep
                go_simp
                refine (due_any c _ _ ⟨_, rfl, (NI.out.keep hE).rdc⟩ hsz _ _).mono ?_
                rintro e W5 ⟨⟨x, rfl, hx⟩, hb5⟩
                go_simp
                exact hK.out _ _ hb5 ⟨x, rfl, hx⟩
              refine VSteps.cons (VStep.mkG Grw.trans (dg := 112) rfl rfl (by kernel_rfl) (fun _ _ h => h) fun t V hout hE hdep K hK => ?_) ?_
              · skip
                have t15 : t[15]? = some _ := hout 15 (by kernel_rfl)
                clear hout hdep
                obtain ⟨k0, k1, k2, k3⟩ := (NI.out.keep hE).boxcells
                go_simp
                exact hK.out _ _ (Grw.refl _) rfl
              refine VSteps.cons (VStep.mkG Grw.trans (dg := 112) rfl rfl (by kernel_rfl) (fun _ _ h => h) fun t V hout hE hdep K hK => ?_) ?_
              · skip
                have t17 : t[17]? = some _ := hout 17 (by kernel_rfl)
                clear hout hdep
                go_simp
                exact hK.out _ _ (Grw.refl _) rfl
              refine VSteps.cons (VStep.mkG Grw.trans (dg := 112) rfl rfl (by kernel_rfl) (fun _ _ h => h) fun t V hout hE hdep K hK => ?_) ?_
              · skip
                have t122 := by_is (W := V) (hdep 50 122 (by kernel_rfl))
                clear hout hdep
                go_simp
                exact hK.out _ _ (Grw.refl _) rfl
              refine VSteps.cons (VStep.mkG Grw.trans (dg := 112) rfl rfl (by kernel_rfl) (fun _ _ h => h) fun t V hout hE hdep K hK => ?_) ?_
              · skip
                have t123 := by_is (W := V) (hdep 51 123 (by kernel_rfl))
                clear hout hdep
                obtain ⟨y, y0, y1, y2, y3⟩ := (NI.out.keep hE).rowcells
                go_simp
                exact hK.out _ _ (Grw.refl _) rfl
              refine VSteps.cons (VStep.mkG Grw.trans (dg := 112) rfl rfl (by kernel_rfl) (fun _ _ h => h) fun t V hout hE hdep K hK => ?_) ?_
              · skip
                have t17 : t[17]? = some _ := hout 17 (by kernel_rfl)
                clear hout hdep
                go_simp
                exact hK.out _ _ (Grw.refl _) rfl
              refine VSteps.cons (VStep.mkG Grw.trans (dg := 112) rfl rfl (by kernel_rfl) (fun _ _ h => h) fun t V hout hE hdep K hK => ?_) ?_
              · skip
                have t125 := by_is (W := V) (hdep 53 125 (by kernel_rfl))
                clear hout hdep
                go_simp
                exact hK.out _ _ (Grw.refl _) rfl
              refine VSteps.cons (VStep.mkG Grw.trans (dg := 112) rfl rfl (by kernel_rfl) (fun _ _ h => h) fun t V hout hE hdep K hK => ?_) ?_
              · skip
                have t126 := by_is (W := V) (hdep 54 126 (by kernel_rfl))
                clear hout hdep
                obtain ⟨y, y0, y1, y2, y3⟩ := (NI.out.keep hE).rowcells
                go_simp
                exact hK.out _ _ (Grw.refl _) rfl
              refine VSteps.cons (VStep.mkG Grw.trans (dg := 112) rfl rfl (by kernel_rfl) (fun _ _ h => h) fun t V hout hE hdep K hK => ?_) ?_
              · skip
                have t121 := by_is (W := V) (hdep 49 121 (by kernel_rfl))
                have t124 := by_is (W := V) (hdep 52 124 (by kernel_rfl))
                have t127 := by_is (W := V) (hdep 55 127 (by kernel_rfl))
                clear hout hdep
                go_simp
                refine (rdue_any c _ _ ⟨_, rfl, (NI.out.keep hE).rdc⟩ hsz _ _).mono ?_
                rintro e W5 ⟨⟨x, rfl, hx⟩, hb5⟩
                go_simp
                exact hK.out _ _ hb5 ⟨x, rfl, hx⟩
              refine VSteps.cons (VStep.mkG Grw.trans (dg := 112) rfl rfl (by kernel_rfl) (fun _ _ h => h) fun t V hout hE hdep K hK => ?_) ?_
              · skip
                obtain ⟨v120, t120, e120⟩ := hdep 48 120 (by kernel_rfl)
                obtain ⟨v128, t128, e128⟩ := hdep 56 128 (by kernel_rfl)
                clear hout hdep
                obtain ⟨x, rfl, hx⟩ := e120
                obtain ⟨y, rfl, hy⟩ := e128
                obtain rfl := hx.unique hy
                clear hx hy
                go_simp
                exact hK.out _ _ (Grw.refl _) (by first | rfl | simp [fAt, Is] | (unfold fAt; simp [Is]))
              refine VSteps.cons (VStep.mk Grw.trans rfl rfl fun t V hout hE hdep K hK => ?_) ?_
              · skip
                have t112 := by_is (W := V) (hdep 40 112 (by kernel_rfl))
                have t129 := by_is (W := V) (hdep 57 129 (by kernel_rfl))
                clear hout hdep
                go_simp
                exact hK.out _ _ (Grw.refl _) rfl
              exact VSteps.nil (by decide)
            · intro f W hE hF
              have f72 : f 72 = _ := hF 0 72 (by kernel_rfl)
              have f73 : f 73 = _ := hF 1 73 (by kernel_rfl)
              have f74 : f 74 = _ := hF 2 74 (by kernel_rfl)
              have f75 := hF 3 75 (by kernel_rfl)
              have f76 : f 76 = _ := hF 4 76 (by kernel_rfl)
              have f77 : f 77 = _ := hF 5 77 (by kernel_rfl)
              have f78 : f 78 = _ := hF 6 78 (by kernel_rfl)
              have f79 := hF 7 79 (by kernel_rfl)
              have f80 : f 80 = _ := hF 8 80 (by kernel_rfl)
              have f81 : f 81 = _ := hF 9 81 (by kernel_rfl)
              have f82 : f 82 = _ := hF 10 82 (by kernel_rfl)
              have f83 : f 83 = _ := hF 11 83 (by kernel_rfl)
              have f84 : f 84 = _ := hF 12 84 (by kernel_rfl)
              have f85 : f 85 = _ := hF 13 85 (by kernel_rfl)
              have f86 : f 86 = _ := hF 14 86 (by kernel_rfl)
              have f87 : f 87 = _ := hF 15 87 (by kernel_rfl)
              have f88 : f 88 = _ := hF 16 88 (by kernel_rfl)
              have f89 : f 89 = _ := hF 17 89 (by kernel_rfl)
              have f90 : f 90 = _ := hF 18 90 (by kernel_rfl)
              have f91 : f 91 = _ := hF 19 91 (by kernel_rfl)
              have f92 : f 92 = _ := hF 20 92 (by kernel_rfl)
              have f93 : f 93 = _ := hF 21 93 (by kernel_rfl)
              have f94 : f 94 = _ := hF 22 94 (by kernel_rfl)
              have f95 := hF 23 95 (by kernel_rfl)
              have f96 : f 96 = _ := hF 24 96 (by kernel_rfl)
              have f97 : f 97 = _ := hF 25 97 (by kernel_rfl)
              have f98 : f 98 = _ := hF 26 98 (by kernel_rfl)
              have f99 : f 99 = _ := hF 27 99 (by kernel_rfl)
              have f100 : f 100 = _ := hF 28 100 (by kernel_rfl)
              have f101 : f 101 = _ := hF 29 101 (by kernel_rfl)
              have f102 : f 102 = _ := hF 30 102 (by kernel_rfl)
              have f103 : f 103 = _ := hF 31 103 (by kernel_rfl)
              have f104 : f 104 = _ := hF 32 104 (by kernel_rfl)
              have f105 : f 105 = _ := hF 33 105 (by kernel_rfl)
              have f106 : f 106 = _ := hF 34 106 (by kernel_rfl)
              have f107 : f 107 = _ := hF 35 107 (by kernel_rfl)
              have f108 : f 108 = _ := hF 36 108 (by kernel_rfl)
              have f109 := hF 37 109 (by kernel_rfl)
              have f110 : f 110 = _ := hF 38 110 (by kernel_rfl)
              have f111 : f 111 = _ := hF 39 111 (by kernel_rfl)
              have f112 : f 112 = _ := hF 40 112 (by kernel_rfl)
              have f113 : f 113 = _ := hF 41 113 (by kernel_rfl)
              have f114 : f 114 = _ := hF 42 114 (by kernel_rfl)
              have f115 : f 115 = _ := hF 43 115 (by kernel_rfl)
              have f116 : f 116 = _ := hF 44 116 (by kernel_rfl)
              have f117 : f 117 = _ := hF 45 117 (by kernel_rfl)
              have f118 : f 118 = _ := hF 46 118 (by kernel_rfl)
              have f119 : f 119 = _ := hF 47 119 (by kernel_rfl)
              have f120 := hF 48 120 (by kernel_rfl)
              have f121 : f 121 = _ := hF 49 121 (by kernel_rfl)
              have f122 : f 122 = _ := hF 50 122 (by kernel_rfl)
              have f123 : f 123 = _ := hF 51 123 (by kernel_rfl)
              have f124 : f 124 = _ := hF 52 124 (by kernel_rfl)
              have f125 : f 125 = _ := hF 53 125 (by kernel_rfl)
              have f126 : f 126 = _ := hF 54 126 (by kernel_rfl)
              have f127 : f 127 = _ := hF 55 127 (by kernel_rfl)
              have f128 := hF 56 128 (by kernel_rfl)
              have f129 : f 129 = _ := hF 57 129 (by kernel_rfl)
              have f130 : f 130 = _ := hF 58 130 (by kernel_rfl)
              simp only [setAllV, List.map_cons, List.map_nil, List.set_cons_succ, List.set_cons_zero, f72, f73, f74, f76, f77, f78, f80, f81, f82, f83, f84, f85, f86, f87, f88, f89, f90, f91, f92, f93, f94, f96, f97, f98, f99, f100, f101, f102, f103, f104, f105, f106, f107, f108, f110, f111, f112, f113, f114, f115, f116, f117, f118, f119, f121, f122, f123, f124, f125, f126, f127, f129, f130]
              clear hF f72 f73 f74 f76 f77 f78 f80 f81 f82 f83 f84 f85 f86 f87 f88 f89 f90 f91 f92 f93 f94 f96 f97 f98 f99 f100 f101 f102 f103 f104 f105 f106 f107 f108 f110 f111 f112 f113 f114 f115 f116 f117 f118 f119 f121 f122 f123 f124 f125 f126 f127 f129 f130
              generalize f 75 = v75 at *
              generalize f 79 = v79 at *
              generalize f 95 = v95 at *
              generalize f 109 = v109 at *
              generalize f 120 = v120 at *
              generalize f 128 = v128 at *
              have HE := Lib.hid hE
              clear hE f75 f79 f95 f109 f120 f128
              go_wp2
              go_roundw
              case rel => exact ⟨j + 1, by omega, by go_num, HNZ.out.keep HE.out, HNR.out.keep HE.out⟩
              case measure => simp [intOf]; omega
          · clear hnz hnr
            go_wp2
            go_roundw
            case rel => exact ⟨k + 1, by omega, by go_num, HNZ.out⟩
            case measure => simp [intOf]; omega
      · go_wp2_with fail
        refine (awake33 _).mono ?_
        rintro e w' ⟨rfl, hb'⟩
        go_wp2
        go_ret
        exact ⟨rfl, HNC.out.bel.trans (hb'.mono HNC.out.bel.size)⟩
end Go.Proofs.Ytchdmemgkegefaa
