/- Copies of remembered sets, each with a row of its own. Condition: sets that read as a list, not too many. -/
import Derived.Test.YtchdmemgkegefaaSetC
namespace Go.Proofs.Ytchdmemgkegefaa
open Go.RowKit
set_option linter.unusedVariables false

/-- a set of the call's own, with the block of its slots -/
def setN (B : Nat) : El (St × Option Nat) :=
  ⟨3, fun w x cs => ∃ v, cs = [.int .i64 x.1.fr, .int .i64 x.1.to, v] ∧ Own i64E w B 3 v x.1.slots ∧ v.ownBlock = x.2, fun _ _ _ ⟨_, h, _⟩ => by rw [h]; rfl, fun _ _ _ _ ⟨v, h, r, o⟩ k => ⟨v, h, r.keep k, o⟩⟩
/-- no two of them share a block -/
def Dst (ys : List (St × Option Nat)) : Prop := ys.Pairwise fun a b => a.2 = none ∨ a.2 ≠ b.2
theorem own_blocks {w : World} {B C T : Nat} {v : Value} {ys : List (St × Option Nat)} (h : Own (setN B) w C T v ys) : ∀ y ∈ ys, ∀ q, y.2 = some q → q < w.heap.size := by
  intro y hy q hq
  obtain ⟨i, hi, rfl⟩ := List.mem_iff_getElem.1 hy
  obtain ⟨C, _, hc⟩ := h
  obtain ⟨u, _, ho, e⟩ := hc i hi
  exact (ho.lt q (e.trans hq)).2
theorem dst_snoc {ys : List (St × Option Nat)} {x : St} {o : Option Nat} {p : Nat} (h : Dst ys) (h1 : ∀ y ∈ ys, ∀ q, y.2 = some q → q < p + 1) (h2 : ∀ q, o = some q → p + 1 ≤ q) : Dst (ys ++ [(x, o)]) := by
  refine List.pairwise_append.2 ⟨h, by simp, fun a ha b hb => ?_⟩
  simp only [List.mem_singleton] at hb
  subst hb
  cases ha2 : a.2 with
  | none => exact .inl rfl
  | some q =>
    refine .inr fun e => ?_
    have k1 := h1 a ha q ha2
    have k2 := h2 q e.symm
    omega
theorem setN_kept {B : Nat} {V w' : World} {v : Value} {ys : List (St × Option Nat)} (how : Own (setN B) V B 77 v ys) (hg : V.grownBy w' v.ownBlock) {x : St × Option Nat} {cs : List Value} (h : (setN B).rel V x cs) : (setN B).rel w' x cs := by
  obtain ⟨u, e, ho, eo⟩ := h
  refine ⟨u, e, ho.kept hg ?_ (fun _ _ e => e), eo⟩
  cases hob : u.ownBlock with
  | none => exact .inl rfl
  | some b =>
    refine .inr fun e => ?_
    obtain ⟨C, ⟨_, h2⟩, _⟩ := how
    rcases h2 with ⟨rfl, _⟩ | ⟨g, cap, cur, rfl, _, hh, _⟩
    · simp [Value.ownBlock] at e
    · have := ho.ne_block hh (by decide)
      rw [hob] at this
      exact this e.symm
section
variable {row : Option Nat} {p B : Nat} {x : St} {ys : List (St × Option Nat)}
def OwN (B p : Nat) (ys : List (St × Option Nat)) (x : St) : Value → World → Prop := fun v W => ∃ o, Own (setN B) W B 77 v (ys ++ [(x, o)]) ∧ ∀ q, o = some q → p + 1 ≤ q
theorem OwN.stbC {i : Nat} (hi : i ≠ 10) : ∀ a W W', WrE 10 (RowG row) i W W' → At 3 (OwN B p ys x) a W → At 3 (OwN B p ys x) a W' := by
  rintro a W W' he ⟨v, hv, o, h, k⟩
  unfold WrE at he
  rw [if_neg hi] at he
  exact ⟨v, hv, o, h.below he, k⟩
theorem OwN.stbA {i : Nat} (hi : i ≠ 10) : ∀ a W W', WrE 10 (RowG row) i W W' → At 22 (OwN B p ys x) a W → At 22 (OwN B p ys x) a W' := by
  rintro a W W' he ⟨v, hv, o, h, k⟩
  unfold WrE at he
  rw [if_neg hi] at he
  exact ⟨v, hv, o, h.below he, k⟩
end

set_option maxRecDepth 100000 in
set_option maxHeartbeats 8000000 in
theorem csn_any (v : Value) (xs : List St) (w : World) (hv : Rd setE w v xs) (hb : xs.length ≤ 100000) (hsl : ∀ x ∈ xs, x.slots.length ≤ 100000) :
    Calls Try.prog 50 #[v] w fun e w' => ∃ r ys, e = .returned r ∧ Own (setN w.heap.size) w' w.heap.size 77 r ys ∧ ys.map (·.1) = xs ∧ Dst ys ∧ Below w.heap.size w w' := by
  obtain ⟨a, cap, rfl, hl, hm, _⟩ := id hv
  have HV := Lib.hid hv
  have HXL := Lib.hid hb
  have HSLA := Lib.hid hsl
  clear hv hb hsl
  unfold maxLen at hm
  go_enter Try.func50, Try.ntmps50
  go_wp2_with fail
  go_loopw [3, 8] (fun o i wr => ∃ (k : Nat) (ys : List (St × Option Nat)), k ≤ xs.length ∧ i = .int .i64 k ∧ Own (setN w.heap.size) wr w.heap.size 77 o ys ∧ ys.map (·.1) = xs.take k ∧ Dst ys ∧ Below w.heap.size w wr) (fun _ i _ => xs.length - (intOf i).toNat)
  case atStart => exact ⟨0, [], by omega, rfl, Own.nil _ _ _ _, by simp, List.Pairwise.nil, Below.refl _ _⟩
  case round =>
    obtain ⟨k, ys, hk, rfl, hown, hys, hdst, hbel⟩ := hrel
    by_cases hlt : k < xs.length
    · obtain ⟨b, off, rfl⟩ := rd_addr HV.out (by omega)
      obtain ⟨hq, ra, rc, x0, x1, x2, hrs⟩ := set_cells HV.out hlt
      have y0 : wr.cell? ⟨b, off + k * 3, none⟩ = some (.int .i64 xs[k].fr) := (hbel.cell (p := ⟨b, off + k * 3, none⟩) hq).trans x0
      have y1 : wr.cell? ⟨b, off + k * 3 + 1, none⟩ = some (.int .i64 xs[k].to) := (hbel.cell (p := ⟨b, off + k * 3 + 1, none⟩) hq).trans x1
      have y2 : wr.cell? ⟨b, off + k * 3 + 2, none⟩ = some (.slice ra xs[k].slots.length rc) := (hbel.cell (p := ⟨b, off + k * 3 + 2, none⟩) hq).trans x2
      have hq2 : b < wr.heap.size := Nat.lt_of_lt_of_le hq hbel.size
      have HRS := Lib.hid hrs
      have HSL : Hid (xs[k].slots.length ≤ 100000) := Lib.hid (HSLA.out _ (List.getElem_mem hlt))
      have HTK : Hid (xs.take (k + 1) = xs.take k ++ [xs[k]]) := Lib.hid (List.take_succ_eq_append_getElem hlt)
      have hbs := hbel.size
      have HYL : Hid (ys.length = k) := Lib.hid (by have := congrArg List.length hys; rw [List.length_map, List.length_take] at this; omega)
      have HYS := Lib.hid hys
      have HDS := Lib.hid hdst
      have HYB : Hid (∀ y ∈ ys, ∀ q, y.2 = some q → q < wr.heap.size) := Lib.hid (own_blocks hown)
      clear hys hdst
      obtain ⟨z0, z1, z2⟩ : True ∧ True ∧ True := ⟨trivial, trivial, trivial⟩
      have BX : Hid ((wr.alloc (.cells #[.int .i64 xs[k].fr, .int .i64 xs[k].to, .slice ra xs[k].slots.length rc] 77)).heap[wr.heap.size]? = _) := Lib.hid (heap_alloc_new _ _)
      have HBW := Lib.hid (hbel.alloc hbel.size (.cells #[.int .i64 xs[k].fr, .int .i64 xs[k].to, .slice ra xs[k].slots.length rc] 77))
      have hrow : ∀ j, u3.ownBlock = some j → w.heap.size ≤ j ∧ j < wr.heap.size := fun j hj => hown.lt j hj
      have HROW := Lib.hid hrow
      have HOW := Lib.hid (hown.alloc (.cells #[.int .i64 xs[k].fr, .int .i64 xs[k].to, .slice ra xs[k].slots.length rc] 77))
      have hBs : w.heap.size ≤ (wr.alloc (.cells #[.int .i64 xs[k].fr, .int .i64 xs[k].to, .slice ra xs[k].slots.length rc] 77)).heap.size := by simp; omega
      have hps : (wr.alloc (.cells #[.int .i64 xs[k].fr, .int .i64 xs[k].to, .slice ra xs[k].slots.length rc] 77)).heap.size = wr.heap.size + 1 := by simp
      clear x0 x1 x2 hrs hrow hown hbel
      go_upto_region 5 with (fail)
      clear y0 y1 y2
      generalize wr.alloc (.cells #[.int .i64 xs[k].fr, .int .i64 xs[k].to, .slice ra xs[k].slots.length rc] 77) = W0 at *
      have hpr : some wr.heap.size ≠ u3.ownBlock := fun e => by have := (HROW.out _ e.symm).2; omega
      have HRW : ∀ j, u3.ownBlock = some j → j < wr.heap.size + 1 := fun j hj => by have := (HROW.out j hj).2; omega
      have HRB : ∀ j, u3.ownBlock = some j → w.heap.size ≤ j := fun j hj => (HROW.out j hj).1
      generalize wr.heap.size = p at *
      apply wp_region_wr (by kernel_rfl) 10 (RowG u3.ownBlock) (RowG u3.ownBlock) (by decide) [12, 13, 14, 15, 16, 17, 18, 19, 20, 21, 22, 3] [At 12 (Is _), At 13 (Is _), At 14 (Is (.int .i64 xs[k].fr)), At 15 (Is _), At 16 (Is (.int .i64 xs[k].to)), At 17 (Is _), At 18 (Is (.slice ra xs[k].slots.length rc)), At 19 (OwI (p + 1) xs[k].slots), At 20 (AgI (p + 1) xs[k]), At 21 (LtI (p + 1) xs[k]), (At 22 (OwN w.heap.size p ys xs[k])), (At 3 (OwN w.heap.size p ys xs[k]))] [[12], [13], [14], [15], [16], [17], [18], [19], [20], [21], [22], [3]] ⟨LocOk.at, LocOk.at, LocOk.at, LocOk.at, LocOk.at, LocOk.at, LocOk.at, LocOk.at, LocOk.at, LocOk.at, LocOk.at, LocOk.at, trivial⟩ ⟨fun i _ _ => stb_at (fun _ _ _ h => CsE.up h) (Stb.is), fun i _ _ => stb_at (fun _ _ _ h => CsE.up h) (Stb.is), fun i _ _ => stb_at (fun _ _ _ h => CsE.up h) (Stb.is), fun i _ _ => stb_at (fun _ _ _ h => CsE.up h) (Stb.is), fun i _ _ => stb_at (fun _ _ _ h => CsE.up h) (Stb.is), fun i _ _ => stb_at (fun _ _ _ h => CsE.up h) (Stb.is), fun i _ _ => stb_at (fun _ _ _ h => CsE.up h) (Stb.is), fun i _ _ => stb_at (fun _ _ _ h => CsE.up h) (OwI.stb HRW), fun i _ _ => stb_at (fun _ _ _ h => CsE.up h) (AgI.stb HRW), fun i _ _ => stb_at (fun _ _ _ h => CsE.up h) (LtI.stb HRW), fun i hi _ => OwN.stbA hi, fun i hi hd => OwN.stbC (fun e => by subst e; exact Bool.noConfusion ((show _ = true from by kernel_rfl).symm.trans hd)), trivial⟩ (by kernel_rfl) (by kernel_rfl) (by kernel_rfl) (by kernel_rfl)
      · refine WSteps.cons (WStep.mk RowG.h1 RowG.h2 (by decide) rfl rfl fun t V hsz hout hE hdep K hK => ?_) ?_
        · skip
          have t3 : t[3]? = some _ := hout 3 (by kernel_rfl)
          have HS : Hid (t.size = 25) := Lib.hid hsz
          clear hout hdep hsz
          go_simp
          exact hK.out _ _ (Grw.refl _) (at_here (by rw [HS.out]; decide) rfl)
        refine WSteps.cons (WStep.mk RowG.h1 RowG.h2 (by decide) rfl rfl fun t V hsz hout hE hdep K hK => ?_) ?_
        · skip
          have t5 : t[5]? = some _ := hout 5 (by kernel_rfl)
          have HS : Hid (t.size = 25) := Lib.hid hsz
          clear hout hdep hsz
          go_simp
          exact hK.out _ _ (Grw.refl _) (at_here (by rw [HS.out]; decide) rfl)
        refine WSteps.cons (WStep.mk RowG.h1 RowG.h2 (by decide) rfl rfl fun t V hsz hout hE hdep K hK => ?_) ?_
        · skip
          have t13 := at_is (hdep 1 (by kernel_rfl))
          have HS : Hid (t.size = 25) := Lib.hid hsz
          clear hout hdep hsz
          have bb := grown_block hE BX.out hpr
          have k0 : V.cell? ⟨p, 0, none⟩ = some (.int .i64 xs[k].fr) := by rw [cell_block bb]; rfl
          have k1 : V.cell? ⟨p, 1, none⟩ = some (.int .i64 xs[k].to) := by rw [cell_block bb]; rfl
          have k2 : V.cell? ⟨p, 2, none⟩ = some (.slice ra xs[k].slots.length rc) := by rw [cell_block bb]; rfl
          have kl := block_lt bb
          clear bb
          go_simp
          exact hK.out _ _ (Grw.refl _) (at_here (by rw [HS.out]; decide) rfl)
        refine WSteps.cons (WStep.mk RowG.h1 RowG.h2 (by decide) rfl rfl fun t V hsz hout hE hdep K hK => ?_) ?_
        · skip
          have t5 : t[5]? = some _ := hout 5 (by kernel_rfl)
          have HS : Hid (t.size = 25) := Lib.hid hsz
          clear hout hdep hsz
          go_simp
          exact hK.out _ _ (Grw.refl _) (at_here (by rw [HS.out]; decide) rfl)
        refine WSteps.cons (WStep.mk RowG.h1 RowG.h2 (by decide) rfl rfl fun t V hsz hout hE hdep K hK => ?_) ?_
        · skip
          have t15 := at_is (hdep 3 (by kernel_rfl))
          have HS : Hid (t.size = 25) := Lib.hid hsz
          clear hout hdep hsz
          have bb := grown_block hE BX.out hpr
          have k0 : V.cell? ⟨p, 0, none⟩ = some (.int .i64 xs[k].fr) := by rw [cell_block bb]; rfl
          have k1 : V.cell? ⟨p, 1, none⟩ = some (.int .i64 xs[k].to) := by rw [cell_block bb]; rfl
          have k2 : V.cell? ⟨p, 2, none⟩ = some (.slice ra xs[k].slots.length rc) := by rw [cell_block bb]; rfl
          have kl := block_lt bb
          clear bb
          go_simp
          exact hK.out _ _ (Grw.refl _) (at_here (by rw [HS.out]; decide) rfl)
        refine WSteps.cons (WStep.mk RowG.h1 RowG.h2 (by decide) rfl rfl fun t V hsz hout hE hdep K hK => ?_) ?_
        · skip
          have t5 : t[5]? = some _ := hout 5 (by kernel_rfl)
          have HS : Hid (t.size = 25) := Lib.hid hsz
          clear hout hdep hsz
          go_simp
          exact hK.out _ _ (Grw.refl _) (at_here (by rw [HS.out]; decide) rfl)
        refine WSteps.cons (WStep.mk RowG.h1 RowG.h2 (by decide) rfl rfl fun t V hsz hout hE hdep K hK => ?_) ?_
        · skip
          have t17 := at_is (hdep 5 (by kernel_rfl))
          have HS : Hid (t.size = 25) := Lib.hid hsz
          clear hout hdep hsz
          have bb := grown_block hE BX.out hpr
          have k0 : V.cell? ⟨p, 0, none⟩ = some (.int .i64 xs[k].fr) := by rw [cell_block bb]; rfl
          have k1 : V.cell? ⟨p, 1, none⟩ = some (.int .i64 xs[k].to) := by rw [cell_block bb]; rfl
          have k2 : V.cell? ⟨p, 2, none⟩ = some (.slice ra xs[k].slots.length rc) := by rw [cell_block bb]; rfl
          have kl := block_lt bb
          clear bb
          go_simp
          exact hK.out _ _ (Grw.refl _) (at_here (by rw [HS.out]; decide) rfl)
        refine WSteps.cons (WStep.mk RowG.h1 RowG.h2 (by decide) rfl rfl fun t V hsz hout hE hdep K hK => ?_) ?_
        · skip
          have t18 := at_is (hdep 6 (by kernel_rfl))
          have HS : Hid (t.size = 25) := Lib.hid hsz
          clear hout hdep hsz
          have hrd := HRS.out.below (HBW.out.grown hE hBs HRB)
          refine wp_append_rd i64E i64S _ _ rfl (p + 1) (.slice none 0 0) [] rfl (Own.nil _ _ _ _) _ xs[k].slots (eval_tmp t18) hrd one_i64 (by have := HSL.out; simp; omega) (by have := HSL.out; unfold maxLen; simp; omega) (by have := hE.size; omega) (fun _ _ _ _ h => h) ?_
          intro v' w' ho hg2 hb2 _
          exact hK.out _ _ (grow_none hg2) (at_here (by rw [HS.out]; decide) ho)
        refine WSteps.cons (WStep.mk RowG.h1 RowG.h2 (by decide) rfl rfl fun t V hsz hout hE hdep K hK => ?_) ?_
        · skip
          have t14 := at_is (hdep 2 (by kernel_rfl))
          have t16 := at_is (hdep 4 (by kernel_rfl))
          obtain ⟨v19, t19, e19⟩ := hdep 7 (by kernel_rfl)
          dsimp only at t19
          have HS : Hid (t.size = 25) := Lib.hid hsz
          clear hout hdep hsz
          obtain ⟨a1, l1, b1, rfl⟩ := own_sl e19
          have O1 := Lib.hid e19
          clear e19
          go_simp
          exact hK.out _ _ (Below.refl _ _) (at_here (by rw [HS.out]; decide) ⟨_, rfl, O1.out⟩)
        refine WSteps.cons (WStep.mk RowG.h1 RowG.h2 (by decide) rfl rfl fun t V hsz hout hE hdep K hK => ?_) ?_
        · skip
          obtain ⟨v20, t20, e20⟩ := hdep 8 (by kernel_rfl)
          dsimp only at t20
          have HS : Hid (t.size = 25) := Lib.hid hsz
          clear hout hdep hsz
          obtain ⟨u, rfl, o1⟩ := e20
          obtain ⟨a1, l1, b1, rfl⟩ := own_sl o1
          have O1 := Lib.hid o1
          have hs := hE.size
          clear o1
          go_simp
          exact hK.out _ _ ((Below.refl _ _).alloc (Nat.le_refl _) _) (at_here (by rw [HS.out]; decide) ⟨_, _, rfl, by omega, heap_alloc_new _ _, O1.out.alloc _⟩)
        refine WSteps.cons (WStep.mkW RowG.h3 rfl rfl fun t V hsz hout hE hdep K hK => ?_) ?_
        · skip
          have t12 := at_is (hdep 0 (by kernel_rfl))
          obtain ⟨v21, t21, e21⟩ := hdep 9 (by kernel_rfl)
          dsimp only at t21
          have HS : Hid (t.size = 25) := Lib.hid hsz
          clear hout hdep hsz
          obtain ⟨q, u, rfl, hq, hbq, o1⟩ := e21
          have how := HOW.out.below hE
          refine wp_append_lit1 (setN w.heap.size) setS _ _ rfl w.heap.size _ ys (eval_tmp t12) how (xs[k], u.ownBlock) _ q (eval_tmp t21) hbq ⟨u, rfl, o1.base (by omega), rfl⟩ ?_ ?_ ?_ (by have := hE.size; omega) ?_ ?_
          · obtain ⟨a1, l1, b1, rfl⟩ := own_sl o1; simp [Value.oneCell']
          · have := HXL.out; have := HYL.out; omega
          · have := HXL.out; have := HYL.out; unfold maxLen; omega
          · exact fun w' x cs hg h => setN_kept how hg h
          · intro v' w' ho hg2 hb2
            exact hK.out _ _ hg2 (at_here (by rw [HS.out]; decide) ⟨u.ownBlock, ho, fun j hj => (o1.lt j hj).1⟩)
        refine WSteps.cons (WStep.mk RowG.h1 RowG.h2 (by decide) rfl rfl fun t V hsz hout hE hdep K hK => ?_) ?_
        · skip
          obtain ⟨v22, t22, e22⟩ := hdep 10 (by kernel_rfl)
          dsimp only at t22
          have HS : Hid (t.size = 25) := Lib.hid hsz
          clear hout hdep hsz
          obtain ⟨o1, ow1, ob1⟩ := e22
          obtain ⟨a1, l1, b1, rfl⟩ := own_sl ow1
          have O1 := Lib.hid ow1
          have O2 := Lib.hid ob1
          clear ow1 ob1
          go_simp
          exact hK.out _ _ (Below.refl _ _) (at_here (by rw [HS.out]; decide) ⟨o1, O1.out, O2.out⟩)
        exact WSteps.nil (by decide)
      · intro f W hE hF hget
        have f12 : f 12 = _ := at_end (hF 0 (by kernel_rfl)) (hget 12 (by decide) (by simp))
        have f13 : f 13 = _ := at_end (hF 1 (by kernel_rfl)) (hget 13 (by decide) (by simp))
        have f14 : f 14 = _ := at_end (hF 2 (by kernel_rfl)) (hget 14 (by decide) (by simp))
        have f15 : f 15 = _ := at_end (hF 3 (by kernel_rfl)) (hget 15 (by decide) (by simp))
        have f16 : f 16 = _ := at_end (hF 4 (by kernel_rfl)) (hget 16 (by decide) (by simp))
        have f17 : f 17 = _ := at_end (hF 5 (by kernel_rfl)) (hget 17 (by decide) (by simp))
        have f18 : f 18 = _ := at_end (hF 6 (by kernel_rfl)) (hget 18 (by decide) (by simp))
        have f19 := at_end (hF 7 (by kernel_rfl)) (hget 19 (by decide) (by simp))
        have f20 := at_end (hF 8 (by kernel_rfl)) (hget 20 (by decide) (by simp))
        have f21 := at_end (hF 9 (by kernel_rfl)) (hget 21 (by decide) (by simp))
        have g10 := hF 10 (by kernel_rfl)
        have g11 := hF 11 (by kernel_rfl)
        have f3 := at_end g11 (hget 3 (by decide) (by simp))
        clear g10 g11
        clear hF hget
        simp only [setAllV, List.map_cons, List.map_nil, List.set_cons_succ, List.set_cons_zero, f12, f13, f14, f15, f16, f17, f18]
        clear f12 f13 f14 f15 f16 f17 f18
        generalize f 19 = v19 at *
        generalize f 20 = v20 at *
        generalize f 21 = v21 at *
        generalize f 22 = v22 at *
        generalize f 3 = v3 at *
        obtain ⟨o3, f4, f5⟩ := f3
        have HO := Lib.hid f4
        have HO2 := Lib.hid f5
        have HBE := Lib.hid (HBW.out.grown hE hBs HRB)
        obtain ⟨a1, l1, b1, rfl⟩ := own_sl f4
        clear f4 f5 hE f19 f20 f21
        go_wp2
        go_roundw
        case rel => exact ⟨k + 1, ys ++ [(xs[k], o3)], by omega, by go_num, HO.out, by rw [HTK.out, List.map_append, HYS.out]; rfl, dst_snoc HDS.out (fun y hy q hq => by have := HYB.out y hy q hq; omega) HO2.out, HBE.out⟩
        case measure => simp [intOf]; omega
    · have hke : xs.take k = xs := List.take_of_length_le (by omega)
      rw [hke] at hys
      have HO := Lib.hid hown
      obtain ⟨a1, l1, b1, rfl⟩ := own_sl hown
      clear hown
      go_wp2
      go_ret
      exact ⟨_, ys, rfl, HO.out, hys, hdst, hbel⟩

set_option maxRecDepth 100000 in
set_option maxHeartbeats 8000000 in
theorem rcn_any (v : Value) (xs : List St) (w : World) (hv : Rd setE w v xs) (hb : xs.length ≤ 100000) (hsl : ∀ x ∈ xs, x.slots.length ≤ 100000) :
    Calls Try.prog 57 #[v] w fun e w' => ∃ r ys, e = .returned r ∧ Own (setN w.heap.size) w' w.heap.size 77 r ys ∧ ys.map (·.1) = xs ∧ Dst ys ∧ Below w.heap.size w w' := by
  obtain ⟨a, cap, rfl, hl, hm, _⟩ := id hv
  have HV := Lib.hid hv
  have HXL := Lib.hid hb
  have HSLA := Lib.hid hsl
  clear hv hb hsl
  unfold maxLen at hm
  go_enter Try.func57, Try.ntmps57
  go_wp2_with fail
  go_loopw [3, 8] (fun o i wr => ∃ (k : Nat) (ys : List (St × Option Nat)), k ≤ xs.length ∧ i = .int .i64 k ∧ Own (setN w.heap.size) wr w.heap.size 77 o ys ∧ ys.map (·.1) = xs.take k ∧ Dst ys ∧ Below w.heap.size w wr) (fun _ i _ => xs.length - (intOf i).toNat)
  case atStart => exact ⟨0, [], by omega, rfl, Own.nil _ _ _ _, by simp, List.Pairwise.nil, Below.refl _ _⟩
  case round =>
    obtain ⟨k, ys, hk, rfl, hown, hys, hdst, hbel⟩ := hrel
    by_cases hlt : k < xs.length
    · obtain ⟨b, off, rfl⟩ := rd_addr HV.out (by omega)
      obtain ⟨hq, ra, rc, x0, x1, x2, hrs⟩ := set_cells HV.out hlt
      have y0 : wr.cell? ⟨b, off + k * 3, none⟩ = some (.int .i64 xs[k].fr) := (hbel.cell (p := ⟨b, off + k * 3, none⟩) hq).trans x0
      have y1 : wr.cell? ⟨b, off + k * 3 + 1, none⟩ = some (.int .i64 xs[k].to) := (hbel.cell (p := ⟨b, off + k * 3 + 1, none⟩) hq).trans x1
      have y2 : wr.cell? ⟨b, off + k * 3 + 2, none⟩ = some (.slice ra xs[k].slots.length rc) := (hbel.cell (p := ⟨b, off + k * 3 + 2, none⟩) hq).trans x2
      have hq2 : b < wr.heap.size := Nat.lt_of_lt_of_le hq hbel.size
      have HRS := Lib.hid hrs
      have HSL : Hid (xs[k].slots.length ≤ 100000) := Lib.hid (HSLA.out _ (List.getElem_mem hlt))
      have HTK : Hid (xs.take (k + 1) = xs.take k ++ [xs[k]]) := Lib.hid (List.take_succ_eq_append_getElem hlt)
      have hbs := hbel.size
      have HYL : Hid (ys.length = k) := Lib.hid (by have := congrArg List.length hys; rw [List.length_map, List.length_take] at this; omega)
      have HYS := Lib.hid hys
      have HDS := Lib.hid hdst
      have HYB : Hid (∀ y ∈ ys, ∀ q, y.2 = some q → q < wr.heap.size) := Lib.hid (own_blocks hown)
      clear hys hdst
      obtain ⟨z0, z1, z2⟩ : True ∧ True ∧ True := ⟨trivial, trivial, trivial⟩
      have BX : Hid ((wr.alloc (.cells #[.int .i64 xs[k].fr, .int .i64 xs[k].to, .slice ra xs[k].slots.length rc] 77)).heap[wr.heap.size]? = _) := Lib.hid (heap_alloc_new _ _)
      have HBW := Lib.hid (hbel.alloc hbel.size (.cells #[.int .i64 xs[k].fr, .int .i64 xs[k].to, .slice ra xs[k].slots.length rc] 77))
      have hrow : ∀ j, u3.ownBlock = some j → w.heap.size ≤ j ∧ j < wr.heap.size := fun j hj => hown.lt j hj
      have HROW := Lib.hid hrow
      have HOW := Lib.hid (hown.alloc (.cells #[.int .i64 xs[k].fr, .int .i64 xs[k].to, .slice ra xs[k].slots.length rc] 77))
      have hBs : w.heap.size ≤ (wr.alloc (.cells #[.int .i64 xs[k].fr, .int .i64 xs[k].to, .slice ra xs[k].slots.length rc] 77)).heap.size := by simp; omega
      have hps : (wr.alloc (.cells #[.int .i64 xs[k].fr, .int .i64 xs[k].to, .slice ra xs[k].slots.length rc] 77)).heap.size = wr.heap.size + 1 := by simp
      clear x0 x1 x2 hrs hrow hown hbel
      go_upto_region 5 with (fail)
      clear y0 y1 y2
      generalize wr.alloc (.cells #[.int .i64 xs[k].fr, .int .i64 xs[k].to, .slice ra xs[k].slots.length rc] 77) = W0 at *
      have hpr : some wr.heap.size ≠ u3.ownBlock := fun e => by have := (HROW.out _ e.symm).2; omega
      have HRW : ∀ j, u3.ownBlock = some j → j < wr.heap.size + 1 := fun j hj => by have := (HROW.out j hj).2; omega
      have HRB : ∀ j, u3.ownBlock = some j → w.heap.size ≤ j := fun j hj => (HROW.out j hj).1
      generalize wr.heap.size = p at *
      apply wp_region_wr (by kernel_rfl) 10 (RowG u3.ownBlock) (RowG u3.ownBlock) (by decide) [12, 13, 14, 15, 16, 17, 18, 19, 20, 21, 22, 3] [At 12 (Is _), At 13 (Is _), At 14 (Is (.int .i64 xs[k].fr)), At 15 (Is _), At 16 (Is (.int .i64 xs[k].to)), At 17 (Is _), At 18 (Is (.slice ra xs[k].slots.length rc)), At 19 (OwI (p + 1) xs[k].slots), At 20 (AgI (p + 1) xs[k]), At 21 (LtI (p + 1) xs[k]), (At 22 (OwN w.heap.size p ys xs[k])), (At 3 (OwN w.heap.size p ys xs[k]))] [[12], [13], [14], [15], [16], [17], [18], [19], [20], [21], [22], [3]] ⟨LocOk.at, LocOk.at, LocOk.at, LocOk.at, LocOk.at, LocOk.at, LocOk.at, LocOk.at, LocOk.at, LocOk.at, LocOk.at, LocOk.at, trivial⟩ ⟨fun i _ _ => stb_at (fun _ _ _ h => CsE.up h) (Stb.is), fun i _ _ => stb_at (fun _ _ _ h => CsE.up h) (Stb.is), fun i _ _ => stb_at (fun _ _ _ h => CsE.up h) (Stb.is), fun i _ _ => stb_at (fun _ _ _ h => CsE.up h) (Stb.is), fun i _ _ => stb_at (fun _ _ _ h => CsE.up h) (Stb.is), fun i _ _ => stb_at (fun _ _ _ h => CsE.up h) (Stb.is), fun i _ _ => stb_at (fun _ _ _ h => CsE.up h) (Stb.is), fun i _ _ => stb_at (fun _ _ _ h => CsE.up h) (OwI.stb HRW), fun i _ _ => stb_at (fun _ _ _ h => CsE.up h) (AgI.stb HRW), fun i _ _ => stb_at (fun _ _ _ h => CsE.up h) (LtI.stb HRW), fun i hi _ => OwN.stbA hi, fun i hi hd => OwN.stbC (fun e => by subst e; exact Bool.noConfusion ((show _ = true from by kernel_rfl).symm.trans hd)), trivial⟩ (by kernel_rfl) (by kernel_rfl) (by kernel_rfl) (by kernel_rfl)
      · refine WSteps.cons (WStep.mk RowG.h1 RowG.h2 (by decide) rfl rfl fun t V hsz hout hE hdep K hK => ?_) ?_
        · skip
          have t3 : t[3]? = some _ := hout 3 (by kernel_rfl)
          have HS : Hid (t.size = 25) := Lib.hid hsz
          clear hout hdep hsz
          go_simp
          exact hK.out _ _ (Grw.refl _) (at_here (by rw [HS.out]; decide) rfl)
        refine WSteps.cons (WStep.mk RowG.h1 RowG.h2 (by decide) rfl rfl fun t V hsz hout hE hdep K hK => ?_) ?_
        · skip
          have t5 : t[5]? = some _ := hout 5 (by kernel_rfl)
          have HS : Hid (t.size = 25) := Lib.hid hsz
          clear hout hdep hsz
          go_simp
          exact hK.out _ _ (Grw.refl _) (at_here (by rw [HS.out]; decide) rfl)
        refine WSteps.cons (WStep.mk RowG.h1 RowG.h2 (by decide) rfl rfl fun t V hsz hout hE hdep K hK => ?_) ?_
        · skip
          have t13 := at_is (hdep 1 (by kernel_rfl))
          have HS : Hid (t.size = 25) := Lib.hid hsz
          clear hout hdep hsz
          have bb := grown_block hE BX.out hpr
          have k0 : V.cell? ⟨p, 0, none⟩ = some (.int .i64 xs[k].fr) := by rw [cell_block bb]; rfl
          have k1 : V.cell? ⟨p, 1, none⟩ = some (.int .i64 xs[k].to) := by rw [cell_block bb]; rfl
          have k2 : V.cell? ⟨p, 2, none⟩ = some (.slice ra xs[k].slots.length rc) := by rw [cell_block bb]; rfl
          have kl := block_lt bb
          clear bb
          go_simp
          exact hK.out _ _ (Grw.refl _) (at_here (by rw [HS.out]; decide) rfl)
        refine WSteps.cons (WStep.mk RowG.h1 RowG.h2 (by decide) rfl rfl fun t V hsz hout hE hdep K hK => ?_) ?_
        · skip
          have t5 : t[5]? = some _ := hout 5 (by kernel_rfl)
          have HS : Hid (t.size = 25) := Lib.hid hsz
          clear hout hdep hsz
          go_simp
          exact hK.out _ _ (Grw.refl _) (at_here (by rw [HS.out]; decide) rfl)
        refine WSteps.cons (WStep.mk RowG.h1 RowG.h2 (by decide) rfl rfl fun t V hsz hout hE hdep K hK => ?_) ?_
        · skip
          have t15 := at_is (hdep 3 (by kernel_rfl))
          have HS : Hid (t.size = 25) := Lib.hid hsz
          clear hout hdep hsz
          have bb := grown_block hE BX.out hpr
          have k0 : V.cell? ⟨p, 0, none⟩ = some (.int .i64 xs[k].fr) := by rw [cell_block bb]; rfl
          have k1 : V.cell? ⟨p, 1, none⟩ = some (.int .i64 xs[k].to) := by rw [cell_block bb]; rfl
          have k2 : V.cell? ⟨p, 2, none⟩ = some (.slice ra xs[k].slots.length rc) := by rw [cell_block bb]; rfl
          have kl := block_lt bb
          clear bb
          go_simp
          exact hK.out _ _ (Grw.refl _) (at_here (by rw [HS.out]; decide) rfl)
        refine WSteps.cons (WStep.mk RowG.h1 RowG.h2 (by decide) rfl rfl fun t V hsz hout hE hdep K hK => ?_) ?_
        · skip
          have t5 : t[5]? = some _ := hout 5 (by kernel_rfl)
          have HS : Hid (t.size = 25) := Lib.hid hsz
          clear hout hdep hsz
          go_simp
          exact hK.out _ _ (Grw.refl _) (at_here (by rw [HS.out]; decide) rfl)
        refine WSteps.cons (WStep.mk RowG.h1 RowG.h2 (by decide) rfl rfl fun t V hsz hout hE hdep K hK => ?_) ?_
        · skip
          have t17 := at_is (hdep 5 (by kernel_rfl))
          have HS : Hid (t.size = 25) := Lib.hid hsz
          clear hout hdep hsz
          have bb := grown_block hE BX.out hpr
          have k0 : V.cell? ⟨p, 0, none⟩ = some (.int .i64 xs[k].fr) := by rw [cell_block bb]; rfl
          have k1 : V.cell? ⟨p, 1, none⟩ = some (.int .i64 xs[k].to) := by rw [cell_block bb]; rfl
          have k2 : V.cell? ⟨p, 2, none⟩ = some (.slice ra xs[k].slots.length rc) := by rw [cell_block bb]; rfl
          have kl := block_lt bb
          clear bb
          go_simp
          exact hK.out _ _ (Grw.refl _) (at_here (by rw [HS.out]; decide) rfl)
        refine WSteps.cons (WStep.mk RowG.h1 RowG.h2 (by decide) rfl rfl fun t V hsz hout hE hdep K hK => ?_) ?_
        · skip
          have t18 := at_is (hdep 6 (by kernel_rfl))
          have HS : Hid (t.size = 25) := Lib.hid hsz
          clear hout hdep hsz
          have hrd := HRS.out.below (HBW.out.grown hE hBs HRB)
          refine wp_append_rd i64E i64S _ _ rfl (p + 1) (.slice none 0 0) [] rfl (Own.nil _ _ _ _) _ xs[k].slots (eval_tmp t18) hrd one_i64 (by have := HSL.out; simp; omega) (by have := HSL.out; unfold maxLen; simp; omega) (by have := hE.size; omega) (fun _ _ _ _ h => h) ?_
          intro v' w' ho hg2 hb2 _
          exact hK.out _ _ (grow_none hg2) (at_here (by rw [HS.out]; decide) ho)
        refine WSteps.cons (WStep.mk RowG.h1 RowG.h2 (by decide) rfl rfl fun t V hsz hout hE hdep K hK => ?_) ?_
        · skip
          have t14 := at_is (hdep 2 (by kernel_rfl))
          have t16 := at_is (hdep 4 (by kernel_rfl))
          obtain ⟨v19, t19, e19⟩ := hdep 7 (by kernel_rfl)
          dsimp only at t19
          have HS : Hid (t.size = 25) := Lib.hid hsz
          clear hout hdep hsz
          obtain ⟨a1, l1, b1, rfl⟩ := own_sl e19
          have O1 := Lib.hid e19
          clear e19
          go_simp
          exact hK.out _ _ (Below.refl _ _) (at_here (by rw [HS.out]; decide) ⟨_, rfl, O1.out⟩)
        refine WSteps.cons (WStep.mk RowG.h1 RowG.h2 (by decide) rfl rfl fun t V hsz hout hE hdep K hK => ?_) ?_
        · skip
          obtain ⟨v20, t20, e20⟩ := hdep 8 (by kernel_rfl)
          dsimp only at t20
          have HS : Hid (t.size = 25) := Lib.hid hsz
          clear hout hdep hsz
          obtain ⟨u, rfl, o1⟩ := e20
          obtain ⟨a1, l1, b1, rfl⟩ := own_sl o1
          have O1 := Lib.hid o1
          have hs := hE.size
          clear o1
          go_simp
          exact hK.out _ _ ((Below.refl _ _).alloc (Nat.le_refl _) _) (at_here (by rw [HS.out]; decide) ⟨_, _, rfl, by omega, heap_alloc_new _ _, O1.out.alloc _⟩)
        refine WSteps.cons (WStep.mkW RowG.h3 rfl rfl fun t V hsz hout hE hdep K hK => ?_) ?_
        · skip
          have t12 := at_is (hdep 0 (by kernel_rfl))
          obtain ⟨v21, t21, e21⟩ := hdep 9 (by kernel_rfl)
          dsimp only at t21
          have HS : Hid (t.size = 25) := Lib.hid hsz
          clear hout hdep hsz
          obtain ⟨q, u, rfl, hq, hbq, o1⟩ := e21
          have how := HOW.out.below hE
          refine wp_append_lit1 (setN w.heap.size) setS _ _ rfl w.heap.size _ ys (eval_tmp t12) how (xs[k], u.ownBlock) _ q (eval_tmp t21) hbq ⟨u, rfl, o1.base (by omega), rfl⟩ ?_ ?_ ?_ (by have := hE.size; omega) ?_ ?_
          · obtain ⟨a1, l1, b1, rfl⟩ := own_sl o1; simp [Value.oneCell']
          · have := HXL.out; have := HYL.out; omega
          · have := HXL.out; have := HYL.out; unfold maxLen; omega
          · exact fun w' x cs hg h => setN_kept how hg h
          · intro v' w' ho hg2 hb2
            exact hK.out _ _ hg2 (at_here (by rw [HS.out]; decide) ⟨u.ownBlock, ho, fun j hj => (o1.lt j hj).1⟩)
        refine WSteps.cons (WStep.mk RowG.h1 RowG.h2 (by decide) rfl rfl fun t V hsz hout hE hdep K hK => ?_) ?_
        · skip
          obtain ⟨v22, t22, e22⟩ := hdep 10 (by kernel_rfl)
          dsimp only at t22
          have HS : Hid (t.size = 25) := Lib.hid hsz
          clear hout hdep hsz
          obtain ⟨o1, ow1, ob1⟩ := e22
          obtain ⟨a1, l1, b1, rfl⟩ := own_sl ow1
          have O1 := Lib.hid ow1
          have O2 := Lib.hid ob1
          clear ow1 ob1
          go_simp
          exact hK.out _ _ (Below.refl _ _) (at_here (by rw [HS.out]; decide) ⟨o1, O1.out, O2.out⟩)
        exact WSteps.nil (by decide)
      · intro f W hE hF hget
        have f12 : f 12 = _ := at_end (hF 0 (by kernel_rfl)) (hget 12 (by decide) (by simp))
        have f13 : f 13 = _ := at_end (hF 1 (by kernel_rfl)) (hget 13 (by decide) (by simp))
        have f14 : f 14 = _ := at_end (hF 2 (by kernel_rfl)) (hget 14 (by decide) (by simp))
        have f15 : f 15 = _ := at_end (hF 3 (by kernel_rfl)) (hget 15 (by decide) (by simp))
        have f16 : f 16 = _ := at_end (hF 4 (by kernel_rfl)) (hget 16 (by decide) (by simp))
        have f17 : f 17 = _ := at_end (hF 5 (by kernel_rfl)) (hget 17 (by decide) (by simp))
        have f18 : f 18 = _ := at_end (hF 6 (by kernel_rfl)) (hget 18 (by decide) (by simp))
        have f19 := at_end (hF 7 (by kernel_rfl)) (hget 19 (by decide) (by simp))
        have f20 := at_end (hF 8 (by kernel_rfl)) (hget 20 (by decide) (by simp))
        have f21 := at_end (hF 9 (by kernel_rfl)) (hget 21 (by decide) (by simp))
        have g10 := hF 10 (by kernel_rfl)
        have g11 := hF 11 (by kernel_rfl)
        have f3 := at_end g11 (hget 3 (by decide) (by simp))
        clear g10 g11
        clear hF hget
        simp only [setAllV, List.map_cons, List.map_nil, List.set_cons_succ, List.set_cons_zero, f12, f13, f14, f15, f16, f17, f18]
        clear f12 f13 f14 f15 f16 f17 f18
        generalize f 19 = v19 at *
        generalize f 20 = v20 at *
        generalize f 21 = v21 at *
        generalize f 22 = v22 at *
        generalize f 3 = v3 at *
        obtain ⟨o3, f4, f5⟩ := f3
        have HO := Lib.hid f4
        have HO2 := Lib.hid f5
        have HBE := Lib.hid (HBW.out.grown hE hBs HRB)
        obtain ⟨a1, l1, b1, rfl⟩ := own_sl f4
        clear f4 f5 hE f19 f20 f21
        go_wp2
        go_roundw
        case rel => exact ⟨k + 1, ys ++ [(xs[k], o3)], by omega, by go_num, HO.out, by rw [HTK.out, List.map_append, HYS.out]; rfl, dst_snoc HDS.out (fun y hy q hq => by have := HYB.out y hy q hq; omega) HO2.out, HBE.out⟩
        case measure => simp [intOf]; omega
    · have hke : xs.take k = xs := List.take_of_length_le (by omega)
      rw [hke] at hys
      have HO := Lib.hid hown
      obtain ⟨a1, l1, b1, rfl⟩ := own_sl hown
      clear hown
      go_wp2
      go_ret
      exact ⟨_, ys, rfl, HO.out, hys, hdst, hbel⟩
end Go.Proofs.Ytchdmemgkegefaa
