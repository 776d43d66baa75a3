/- Copies of remembered sets. Condition: sets that read as a list, not too many. -/
import Derived.Test.YtchdmemgkegefaaSet
import Derived.Test.YtchdmemgkegefaaRegW
import Derived.Deep.CutBlock
namespace Go.Proofs.Ytchdmemgkegefaa
open Go.RowKit
set_option linter.unusedVariables false

theorem i64S : SlT Try.prog 25 3 1 8 (.int .i64 0) := ⟨Try.underlying25, by kernel_rfl, rfl, by decide⟩
theorem setS : SlT Try.prog 41 77 3 40 (.agg #[.int .i64 0, .int .i64 0, .slice none 0 0]) := ⟨Try.underlying41, by kernel_rfl, rfl, by decide⟩
theorem one_i64 : ∀ w x cs, i64E.rel w x cs → ∀ u ∈ cs, u.oneCell' = true := by
  intro w x cs h u hu
  have h' : cs = [.int .i64 x] := h
  subst h'
  simp at hu
  subst hu
  rfl
theorem wp_append_lit1 {P : Program} {o : Oper} {a : Act} {w : World} {K : Act → World → Prop} {Q : Exit → Act → World → Prop} {α : Type} (E : El α) {st T bytes : Nat} {z : Value} (S : SlT P st T E.sz bytes z)
    (s x : Operand) (ho : o.op = .call { callee := .builtin .append, args := #[s, x], argTypes := #[st, st] })
    (B : Nat) (v : Value) (xs : List α) (hs : a.eval s = v) (hown : Own E w B T v xs)
    (e : α) (cs : Array Value) (g : Nat) (hx : a.eval x = .slice (some ⟨g, 0, none⟩) 1 1) (hg : w.heap[g]? = some (.cells cs T (0, 0))) (hrel : E.rel w e cs.toList) (h1 : ∀ u ∈ cs.toList, u.oneCell' = true)
    (hbytes : (xs.length + 1) * bytes ≤ 140737488355328) (h63 : xs.length + 1 ≤ maxLen) (hB : B ≤ w.heap.size)
    (hkeep : ∀ w' x cs', w.grownBy w' v.ownBlock → E.rel w x cs' → E.rel w' x cs')
    (h : ∀ v' w', Own E w' B T v' (xs ++ [e]) → w.grownBy w' v.ownBlock → Below B w w' → K (a.put o.dst v') w') (hgd : o.guard = none := by rfl) : o.wp P a w K Q := by
  have := step_append_lit (ops := #[]) (F := True) (K := K) (Q := Q) E S hgd s x ho B v xs hs hown e cs g hx hg hrel h1 hbytes h63 hB hkeep h
  rw [if_pos (by unfold Region.wanted; rw [hgd])] at this
  exact this

theorem own_sl {α : Type} {E : El α} {w : World} {B T : Nat} {v : Value} {xs : List α} (h : Own E w B T v xs) : ∃ a l c, v = .slice a l c := by
  obtain ⟨a, c, e, _⟩ := h.rd
  exact ⟨a, _, c, e⟩
theorem grow_drew {row : Option Nat} (W : World) : W.grownBy W.drew row := ⟨rfl, rfl, rfl, Nat.le_refl _, fun _ _ _ => rfl⟩
theorem grow_none {W W' : World} (h : W.grownBy W' none) : Below W.heap.size W W' := ⟨h.os, h.tape, h.output, h.size, fun k hk => h.block k hk (by simp)⟩
theorem grw_grown {row : Option Nat} (W W' : World) (h : Grw W W') : W.grownBy W' row := grown_below (grown_refl _ _) h
theorem eval_tmp {t : Array Value} {ds : List Deferred} {k : Nat} {v : Value} (h : t[k]? = some v) : (⟨t, ds⟩ : Act).eval (.tmp k) = v := by
  simp [Act.eval, h]
def RowG (row : Option Nat) (W W' : World) : Prop := W.grownBy W' row
theorem RowG.h1 {row : Option Nat} : ∀ A B, Grw A B → RowG row A B := fun _ _ h => grw_grown _ _ h
theorem RowG.h2 {row : Option Nat} : ∀ A B C, RowG row A B → Grw B C → RowG row A C := fun _ _ _ h k => grown_trans h (grw_grown _ _ k)
theorem RowG.h3 {row : Option Nat} : ∀ A B C, Grw A B → RowG row B C → RowG row A C := fun _ _ _ h k => grown_trans (grw_grown _ _ h) k
theorem CsE.up {row : Option Nat} {i : Nat} {W W' : World} (h : WrE 10 (RowG row) i W W') : W.grownBy W' row := by
  unfold WrE at h
  split at h
  · exact h
  · exact grw_grown _ _ h
theorem setO_kept {B : Nat} {V w' : World} {v : Value} {ys : List St} (how : Own (setO B) V B 77 v ys) (hg : V.grownBy w' v.ownBlock) {x : St} {cs : List Value} (h : (setO B).rel V x cs) : (setO B).rel w' x cs := by
  obtain ⟨u, e, ho⟩ := h
  refine ⟨u, e, ho.kept hg ?_ (fun _ _ e => e)⟩
  cases hob : u.ownBlock with
  | none => exact .inl rfl
  | some b =>
    refine .inr fun e => ?_
    obtain ⟨C, ⟨_, h2⟩, _⟩ := how
    rcases h2 with ⟨rfl, _⟩ | ⟨g, cap, cur, rfl, _, hh, _⟩
    · simp [Value.ownBlock] at e
    · have := ho.ne_block hh (by decide)
      rw [hob] at this
      exact this e.symm
section
variable {row : Option Nat} {C B : Nat} {x : St} {xs : List St} {ys : List Int}
theorem own_grown {W W' : World} {v : Value} (h : Own i64E W C 3 v ys) (hg : W.grownBy W' row) (hr : ∀ k, row = some k → k < C) : Own i64E W' C 3 v ys :=
  h.kept hg (by
    cases hob : v.ownBlock with
    | none => exact .inl rfl
    | some q' =>
      refine .inr fun e => ?_
      have h1 := hr q' e.symm
      have h2 := (h.lt q' hob).1
      omega) (fun _ _ e => e)
def OwI (C : Nat) (ys : List Int) : Value → World → Prop := fun v W => Own i64E W C 3 v ys
theorem OwI.stb (hr : ∀ k, row = some k → k < C) : Stb (fun W W' => W.grownBy W' row) (OwI C ys) := fun _ _ _ he h => own_grown h he hr
def AgI (C : Nat) (x : St) : Value → World → Prop := fun v W => ∃ u, v = .agg #[.int .i64 x.fr, .int .i64 x.to, u] ∧ Own i64E W C 3 u x.slots
theorem AgI.stb (hr : ∀ k, row = some k → k < C) : Stb (fun W W' => W.grownBy W' row) (AgI C x) := fun _ _ _ he ⟨u, e, h⟩ => ⟨u, e, own_grown h he hr⟩
def LtI (C : Nat) (x : St) : Value → World → Prop := fun v W => ∃ q u, v = .slice (some ⟨q, 0, none⟩) 1 1 ∧ C ≤ q ∧ W.heap[q]? = some (.cells #[.int .i64 x.fr, .int .i64 x.to, u] 77 (0, 0)) ∧ Own i64E W C 3 u x.slots
theorem LtI.stb (hr : ∀ k, row = some k → k < C) : Stb (fun W W' => W.grownBy W' row) (LtI C x) := fun _ _ _ he ⟨q, u, e, hq, hb, h⟩ =>
  ⟨q, u, e, hq, grown_block he hb (fun e => by have := hr q e.symm; omega), own_grown h he hr⟩
def OwS (B : Nat) (xs : List St) : Value → World → Prop := fun v W => Own (setO B) W B 77 v xs
theorem OwS.stbC {i : Nat} (hi : i ≠ 10) : ∀ a W W', WrE 10 (RowG row) i W W' → At 3 (OwS B xs) a W → At 3 (OwS B xs) a W' := by
  rintro a W W' he ⟨v, hv, h⟩
  unfold WrE at he
  rw [if_neg hi] at he
  exact ⟨v, hv, h.below he⟩
theorem OwS.stbA {i : Nat} (hi : i ≠ 10) : ∀ a W W', WrE 10 (RowG row) i W W' → At 22 (OwS B xs) a W → At 22 (OwS B xs) a W' := by
  rintro a W W' he ⟨v, hv, h⟩
  unfold WrE at he
  rw [if_neg hi] at he
  exact ⟨v, hv, h.below he⟩
end

set_option maxRecDepth 100000 in
set_option maxHeartbeats 8000000 in
theorem csets_any (v : Value) (xs : List St) (w : World) (hv : Rd setE w v xs) (hb : xs.length ≤ 100000) (hsl : ∀ x ∈ xs, x.slots.length ≤ 100000) :
    Calls Try.prog 50 #[v] w fun e w' => ∃ r, e = .returned r ∧ Own (setO w.heap.size) w' w.heap.size 77 r xs ∧ Below w.heap.size w w' := by
  obtain ⟨a, cap, rfl, hl, hm, _⟩ := id hv
  have HV := Lib.hid hv
  have HXL := Lib.hid hb
  have HSLA := Lib.hid hsl
  clear hv hb hsl
  unfold maxLen at hm
  go_enter Try.func50, Try.ntmps50
  go_wp2_with fail
  go_loopw [3, 8] (fun o i wr => ∃ k : Nat, k ≤ xs.length ∧ i = .int .i64 k ∧ Own (setO w.heap.size) wr w.heap.size 77 o (xs.take k) ∧ Below w.heap.size w wr) (fun _ i _ => xs.length - (intOf i).toNat)
  case atStart => exact ⟨0, by omega, rfl, by rw [List.take_zero]; exact Own.nil _ _ _ _, Below.refl _ _⟩
  case round =>
    obtain ⟨k, hk, rfl, hown, hbel⟩ := hrel
    by_cases hlt : k < xs.length
    · obtain ⟨b, off, rfl⟩ := rd_addr HV.out (by omega)
      obtain ⟨hq, ra, rc, x0, x1, x2, hrs⟩ := set_cells HV.out hlt
      have y0 : wr.cell? ⟨b, off + k * 3, none⟩ = some (.int .i64 xs[k].fr) := (hbel.cell (p := ⟨b, off + k * 3, none⟩) hq).trans x0
      have y1 : wr.cell? ⟨b, off + k * 3 + 1, none⟩ = some (.int .i64 xs[k].to) := (hbel.cell (p := ⟨b, off + k * 3 + 1, none⟩) hq).trans x1
      have y2 : wr.cell? ⟨b, off + k * 3 + 2, none⟩ = some (.slice ra xs[k].slots.length rc) := (hbel.cell (p := ⟨b, off + k * 3 + 2, none⟩) hq).trans x2
      have hq2 : b < wr.heap.size := Nat.lt_of_lt_of_le hq hbel.size
      have HRS := Lib.hid hrs
      have HSL : Hid (xs[k].slots.length ≤ 100000) := Lib.hid (HSLA.out _ (List.getElem_mem hlt))
      have HTK : Hid (xs.take (k + 1) = xs.take k ++ [xs[k]]) := Lib.hid (List.take_succ_eq_append_getElem hlt)
      have hbs := hbel.size
      obtain ⟨z0, z1, z2⟩ : True ∧ True ∧ True := ⟨trivial, trivial, trivial⟩
      have BX : Hid ((wr.alloc (.cells #[.int .i64 xs[k].fr, .int .i64 xs[k].to, .slice ra xs[k].slots.length rc] 77)).heap[wr.heap.size]? = _) := Lib.hid (heap_alloc_new _ _)
      have HBW := Lib.hid (hbel.alloc hbel.size (.cells #[.int .i64 xs[k].fr, .int .i64 xs[k].to, .slice ra xs[k].slots.length rc] 77))
      have hrow : ∀ j, u3.ownBlock = some j → w.heap.size ≤ j ∧ j < wr.heap.size := fun j hj => hown.lt j hj
      have HROW := Lib.hid hrow
      have HOW := Lib.hid (hown.alloc (.cells #[.int .i64 xs[k].fr, .int .i64 xs[k].to, .slice ra xs[k].slots.length rc] 77))
      have hBs : w.heap.size ≤ (wr.alloc (.cells #[.int .i64 xs[k].fr, .int .i64 xs[k].to, .slice ra xs[k].slots.length rc] 77)).heap.size := by simp; omega
      have hps : (wr.alloc (.cells #[.int .i64 xs[k].fr, .int .i64 xs[k].to, .slice ra xs[k].slots.length rc] 77)).heap.size = wr.heap.size + 1 := by simp
      clear x0 x1 x2 hrs hrow hown hbel
      go_upto_region 5 with (fail)
      clear y0 y1 y2
      generalize wr.alloc (.cells #[.int .i64 xs[k].fr, .int .i64 xs[k].to, .slice ra xs[k].slots.length rc] 77) = W0 at *
      have hpr : some wr.heap.size ≠ u3.ownBlock := fun e => by have := (HROW.out _ e.symm).2; omega
      have HRW : ∀ j, u3.ownBlock = some j → j < wr.heap.size + 1 := fun j hj => by have := (HROW.out j hj).2; omega
      have HRB : ∀ j, u3.ownBlock = some j → w.heap.size ≤ j := fun j hj => (HROW.out j hj).1
      generalize wr.heap.size = p at *
      apply wp_region_wr (by kernel_rfl) 10 (RowG u3.ownBlock) (RowG u3.ownBlock) (by decide) [12, 13, 14, 15, 16, 17, 18, 19, 20, 21, 22, 3] [At 12 (Is _), At 13 (Is _), At 14 (Is (.int .i64 xs[k].fr)), At 15 (Is _), At 16 (Is (.int .i64 xs[k].to)), At 17 (Is _), At 18 (Is (.slice ra xs[k].slots.length rc)), At 19 (OwI (p + 1) xs[k].slots), At 20 (AgI (p + 1) xs[k]), At 21 (LtI (p + 1) xs[k]), (At 22 (OwS w.heap.size (xs.take (k + 1)))), (At 3 (OwS w.heap.size (xs.take (k + 1))))] [[12], [13], [14], [15], [16], [17], [18], [19], [20], [21], [22], [3]] ⟨LocOk.at, LocOk.at, LocOk.at, LocOk.at, LocOk.at, LocOk.at, LocOk.at, LocOk.at, LocOk.at, LocOk.at, LocOk.at, LocOk.at, trivial⟩ ⟨fun i _ _ => stb_at (fun _ _ _ h => CsE.up h) (Stb.is), fun i _ _ => stb_at (fun _ _ _ h => CsE.up h) (Stb.is), fun i _ _ => stb_at (fun _ _ _ h => CsE.up h) (Stb.is), fun i _ _ => stb_at (fun _ _ _ h => CsE.up h) (Stb.is), fun i _ _ => stb_at (fun _ _ _ h => CsE.up h) (Stb.is), fun i _ _ => stb_at (fun _ _ _ h => CsE.up h) (Stb.is), fun i _ _ => stb_at (fun _ _ _ h => CsE.up h) (Stb.is), fun i _ _ => stb_at (fun _ _ _ h => CsE.up h) (OwI.stb HRW), fun i _ _ => stb_at (fun _ _ _ h => CsE.up h) (AgI.stb HRW), fun i _ _ => stb_at (fun _ _ _ h => CsE.up h) (LtI.stb HRW), fun i hi _ => OwS.stbA hi, fun i hi hd => OwS.stbC (fun e => by subst e; exact Bool.noConfusion ((show _ = true from by kernel_rfl).symm.trans hd)), trivial⟩ (by kernel_rfl) (by kernel_rfl) (by kernel_rfl) (by kernel_rfl)
      · refine WSteps.cons (WStep.mk RowG.h1 RowG.h2 (by decide) rfl rfl fun t V hsz hout hE hdep K hK => ?_) ?_
        · skip
          have t3 : t[3]? = some _ := hout 3 (by kernel_rfl)
          have HS : Hid (t.size = 25) := Lib.hid hsz
          clear hout hdep hsz
          go_simp
          exact hK.out _ _ (Grw.refl _) (at_here (by rw [HS.out]; decide) rfl)
        refine WSteps.cons (WStep.mk RowG.h1 RowG.h2 (by decide) rfl rfl fun t V hsz hout hE hdep K hK => ?_) ?_
        · skip
          have t5 : t[5]? = some _ := hout 5 (by kernel_rfl)
          have HS : Hid (t.size = 25) := Lib.hid hsz
          clear hout hdep hsz
          go_simp
          exact hK.out _ _ (Grw.refl _) (at_here (by rw [HS.out]; decide) rfl)
        refine WSteps.cons (WStep.mk RowG.h1 RowG.h2 (by decide) rfl rfl fun t V hsz hout hE hdep K hK => ?_) ?_
        · skip
          have t13 := at_is (hdep 1 (by kernel_rfl))
          have HS : Hid (t.size = 25) := Lib.hid hsz
          clear hout hdep hsz
          have bb := grown_block hE BX.out hpr
          have k0 : V.cell? ⟨p, 0, none⟩ = some (.int .i64 xs[k].fr) := by rw [cell_block bb]; rfl
          have k1 : V.cell? ⟨p, 1, none⟩ = some (.int .i64 xs[k].to) := by rw [cell_block bb]; rfl
          have k2 : V.cell? ⟨p, 2, none⟩ = some (.slice ra xs[k].slots.length rc) := by rw [cell_block bb]; rfl
          have kl := block_lt bb
          clear bb
          go_simp
          exact hK.out _ _ (Grw.refl _) (at_here (by rw [HS.out]; decide) rfl)
        refine WSteps.cons (WStep.mk RowG.h1 RowG.h2 (by decide) rfl rfl fun t V hsz hout hE hdep K hK => ?_) ?_
        · skip
          have t5 : t[5]? = some _ := hout 5 (by kernel_rfl)
          have HS : Hid (t.size = 25) := Lib.hid hsz
          clear hout hdep hsz
          go_simp
          exact hK.out _ _ (Grw.refl _) (at_here (by rw [HS.out]; decide) rfl)
        refine WSteps.cons (WStep.mk RowG.h1 RowG.h2 (by decide) rfl rfl fun t V hsz hout hE hdep K hK => ?_) ?_
        · skip
          have t15 := at_is (hdep 3 (by kernel_rfl))
          have HS : Hid (t.size = 25) := Lib.hid hsz
          clear hout hdep hsz
          have bb := grown_block hE BX.out hpr
          have k0 : V.cell? ⟨p, 0, none⟩ = some (.int .i64 xs[k].fr) := by rw [cell_block bb]; rfl
          have k1 : V.cell? ⟨p, 1, none⟩ = some (.int .i64 xs[k].to) := by rw [cell_block bb]; rfl
          have k2 : V.cell? ⟨p, 2, none⟩ = some (.slice ra xs[k].slots.length rc) := by rw [cell_block bb]; rfl
          have kl := block_lt bb
          clear bb
          go_simp
          exact hK.out _ _ (Grw.refl _) (at_here (by rw [HS.out]; decide) rfl)
        refine WSteps.cons (WStep.mk RowG.h1 RowG.h2 (by decide) rfl rfl fun t V hsz hout hE hdep K hK => ?_) ?_
        · skip
          have t5 : t[5]? = some _ := hout 5 (by kernel_rfl)
          have HS : Hid (t.size = 25) := Lib.hid hsz
          clear hout hdep hsz
          go_simp
          exact hK.out _ _ (Grw.refl _) (at_here (by rw [HS.out]; decide) rfl)
        refine WSteps.cons (WStep.mk RowG.h1 RowG.h2 (by decide) rfl rfl fun t V hsz hout hE hdep K hK => ?_) ?_
        · skip
          have t17 := at_is (hdep 5 (by kernel_rfl))
          have HS : Hid (t.size = 25) := Lib.hid hsz
          clear hout hdep hsz
          have bb := grown_block hE BX.out hpr
          have k0 : V.cell? ⟨p, 0, none⟩ = some (.int .i64 xs[k].fr) := by rw [cell_block bb]; rfl
          have k1 : V.cell? ⟨p, 1, none⟩ = some (.int .i64 xs[k].to) := by rw [cell_block bb]; rfl
          have k2 : V.cell? ⟨p, 2, none⟩ = some (.slice ra xs[k].slots.length rc) := by rw [cell_block bb]; rfl
          have kl := block_lt bb
          clear bb
          go_simp
          exact hK.out _ _ (Grw.refl _) (at_here (by rw [HS.out]; decide) rfl)
        refine WSteps.cons (WStep.mk RowG.h1 RowG.h2 (by decide) rfl rfl fun t V hsz hout hE hdep K hK => ?_) ?_
        · skip
          have t18 := at_is (hdep 6 (by kernel_rfl))
          have HS : Hid (t.size = 25) := Lib.hid hsz
          clear hout hdep hsz
          have hrd := HRS.out.below (HBW.out.grown hE hBs HRB)
          refine wp_append_rd i64E i64S _ _ rfl (p + 1) (.slice none 0 0) [] rfl (Own.nil _ _ _ _) _ xs[k].slots (eval_tmp t18) hrd one_i64 (by have := HSL.out; simp; omega) (by have := HSL.out; unfold maxLen; simp; omega) (by have := hE.size; omega) (fun _ _ _ _ h => h) ?_
          intro v' w' ho hg2 hb2 _
          exact hK.out _ _ (grow_none hg2) (at_here (by rw [HS.out]; decide) ho)
        refine WSteps.cons (WStep.mk RowG.h1 RowG.h2 (by decide) rfl rfl fun t V hsz hout hE hdep K hK => ?_) ?_
        · skip
          have t14 := at_is (hdep 2 (by kernel_rfl))
          have t16 := at_is (hdep 4 (by kernel_rfl))
          obtain ⟨v19, t19, e19⟩ := hdep 7 (by kernel_rfl)
          dsimp only at t19
          have HS : Hid (t.size = 25) := Lib.hid hsz
          clear hout hdep hsz
          obtain ⟨a1, l1, b1, rfl⟩ := own_sl e19
          have O1 := Lib.hid e19
          clear e19
          go_simp
          exact hK.out _ _ (Below.refl _ _) (at_here (by rw [HS.out]; decide) ⟨_, rfl, O1.out⟩)
        refine WSteps.cons (WStep.mk RowG.h1 RowG.h2 (by decide) rfl rfl fun t V hsz hout hE hdep K hK => ?_) ?_
        · skip
          obtain ⟨v20, t20, e20⟩ := hdep 8 (by kernel_rfl)
          dsimp only at t20
          have HS : Hid (t.size = 25) := Lib.hid hsz
          clear hout hdep hsz
          obtain ⟨u, rfl, o1⟩ := e20
          obtain ⟨a1, l1, b1, rfl⟩ := own_sl o1
          have O1 := Lib.hid o1
          have hs := hE.size
          clear o1
          go_simp
          exact hK.out _ _ ((Below.refl _ _).alloc (Nat.le_refl _) _) (at_here (by rw [HS.out]; decide) ⟨_, _, rfl, by omega, heap_alloc_new _ _, O1.out.alloc _⟩)
        refine WSteps.cons (WStep.mkW RowG.h3 rfl rfl fun t V hsz hout hE hdep K hK => ?_) ?_
        · skip
          have t12 := at_is (hdep 0 (by kernel_rfl))
          obtain ⟨v21, t21, e21⟩ := hdep 9 (by kernel_rfl)
          dsimp only at t21
          have HS : Hid (t.size = 25) := Lib.hid hsz
          clear hout hdep hsz
          obtain ⟨q, u, rfl, hq, hbq, o1⟩ := e21
          have how := HOW.out.below hE
          refine wp_append_lit1 (setO w.heap.size) setS _ _ rfl w.heap.size _ (xs.take k) (eval_tmp t12) how xs[k] _ q (eval_tmp t21) hbq ⟨u, rfl, o1.base (by omega)⟩ ?_ ?_ ?_ (by have := hE.size; omega) ?_ ?_
          · obtain ⟨a1, l1, b1, rfl⟩ := own_sl o1; simp [Value.oneCell']
          · have := HXL.out; rw [List.length_take]; omega
          · have := HXL.out; unfold maxLen; rw [List.length_take]; omega
          · exact fun w' x cs hg h => setO_kept how hg h
          · intro v' w' ho hg2 hb2
            exact hK.out _ _ hg2 (at_here (by rw [HS.out]; decide) (by unfold OwS; rw [HTK.out]; exact ho))
        refine WSteps.cons (WStep.mk RowG.h1 RowG.h2 (by decide) rfl rfl fun t V hsz hout hE hdep K hK => ?_) ?_
        · skip
          obtain ⟨v22, t22, e22⟩ := hdep 10 (by kernel_rfl)
          dsimp only at t22
          have HS : Hid (t.size = 25) := Lib.hid hsz
          clear hout hdep hsz
          obtain ⟨a1, l1, b1, rfl⟩ := own_sl e22
          have O1 := Lib.hid e22
          clear e22
          go_simp
          exact hK.out _ _ (Below.refl _ _) (at_here (by rw [HS.out]; decide) O1.out)
        exact WSteps.nil (by decide)
      · intro f W hE hF hget
        have f12 : f 12 = _ := at_end (hF 0 (by kernel_rfl)) (hget 12 (by decide) (by simp))
        have f13 : f 13 = _ := at_end (hF 1 (by kernel_rfl)) (hget 13 (by decide) (by simp))
        have f14 : f 14 = _ := at_end (hF 2 (by kernel_rfl)) (hget 14 (by decide) (by simp))
        have f15 : f 15 = _ := at_end (hF 3 (by kernel_rfl)) (hget 15 (by decide) (by simp))
        have f16 : f 16 = _ := at_end (hF 4 (by kernel_rfl)) (hget 16 (by decide) (by simp))
        have f17 : f 17 = _ := at_end (hF 5 (by kernel_rfl)) (hget 17 (by decide) (by simp))
        have f18 : f 18 = _ := at_end (hF 6 (by kernel_rfl)) (hget 18 (by decide) (by simp))
        have f19 := at_end (hF 7 (by kernel_rfl)) (hget 19 (by decide) (by simp))
        have f20 := at_end (hF 8 (by kernel_rfl)) (hget 20 (by decide) (by simp))
        have f21 := at_end (hF 9 (by kernel_rfl)) (hget 21 (by decide) (by simp))
        have g10 := hF 10 (by kernel_rfl)
        have g11 := hF 11 (by kernel_rfl)
        have f3 := at_end g11 (hget 3 (by decide) (by simp))
        clear g10 g11
        clear hF hget
        simp only [setAllV, List.map_cons, List.map_nil, List.set_cons_succ, List.set_cons_zero, f12, f13, f14, f15, f16, f17, f18]
        clear f12 f13 f14 f15 f16 f17 f18
        generalize f 19 = v19 at *
        generalize f 20 = v20 at *
        generalize f 21 = v21 at *
        generalize f 22 = v22 at *
        generalize f 3 = v3 at *
        have HO := Lib.hid f3
        have HBE := Lib.hid (HBW.out.grown hE hBs HRB)
        obtain ⟨a1, l1, b1, rfl⟩ := own_sl f3
        clear f3 hE f19 f20 f21
        go_wp2
        go_roundw
        case rel => exact ⟨k + 1, by omega, by go_num, HO.out, HBE.out⟩
        case measure => simp [intOf]; omega
    · have hke : xs.take k = xs := List.take_of_length_le (by omega)
      rw [hke] at hown
      have HO := Lib.hid hown
      obtain ⟨a1, l1, b1, rfl⟩ := own_sl hown
      clear hown
      go_wp2
      go_ret
      exact ⟨_, rfl, HO.out, hbel⟩

set_option maxRecDepth 100000 in
set_option maxHeartbeats 8000000 in
theorem rcopy_any (v : Value) (xs : List St) (w : World) (hv : Rd setE w v xs) (hb : xs.length ≤ 100000) (hsl : ∀ x ∈ xs, x.slots.length ≤ 100000) :
    Calls Try.prog 57 #[v] w fun e w' => ∃ r, e = .returned r ∧ Own (setO w.heap.size) w' w.heap.size 77 r xs ∧ Below w.heap.size w w' := by
  obtain ⟨a, cap, rfl, hl, hm, _⟩ := id hv
  have HV := Lib.hid hv
  have HXL := Lib.hid hb
  have HSLA := Lib.hid hsl
  clear hv hb hsl
  unfold maxLen at hm
  go_enter Try.func57, Try.ntmps57
  go_wp2_with fail
  go_loopw [3, 8] (fun o i wr => ∃ k : Nat, k ≤ xs.length ∧ i = .int .i64 k ∧ Own (setO w.heap.size) wr w.heap.size 77 o (xs.take k) ∧ Below w.heap.size w wr) (fun _ i _ => xs.length - (intOf i).toNat)
  case atStart => exact ⟨0, by omega, rfl, by rw [List.take_zero]; exact Own.nil _ _ _ _, Below.refl _ _⟩
  case round =>
    obtain ⟨k, hk, rfl, hown, hbel⟩ := hrel
    by_cases hlt : k < xs.length
    · obtain ⟨b, off, rfl⟩ := rd_addr HV.out (by omega)
      obtain ⟨hq, ra, rc, x0, x1, x2, hrs⟩ := set_cells HV.out hlt
      have y0 : wr.cell? ⟨b, off + k * 3, none⟩ = some (.int .i64 xs[k].fr) := (hbel.cell (p := ⟨b, off + k * 3, none⟩) hq).trans x0
      have y1 : wr.cell? ⟨b, off + k * 3 + 1, none⟩ = some (.int .i64 xs[k].to) := (hbel.cell (p := ⟨b, off + k * 3 + 1, none⟩) hq).trans x1
      have y2 : wr.cell? ⟨b, off + k * 3 + 2, none⟩ = some (.slice ra xs[k].slots.length rc) := (hbel.cell (p := ⟨b, off + k * 3 + 2, none⟩) hq).trans x2
      have hq2 : b < wr.heap.size := Nat.lt_of_lt_of_le hq hbel.size
      have HRS := Lib.hid hrs
      have HSL : Hid (xs[k].slots.length ≤ 100000) := Lib.hid (HSLA.out _ (List.getElem_mem hlt))
      have HTK : Hid (xs.take (k + 1) = xs.take k ++ [xs[k]]) := Lib.hid (List.take_succ_eq_append_getElem hlt)
      have hbs := hbel.size
      obtain ⟨z0, z1, z2⟩ : True ∧ True ∧ True := ⟨trivial, trivial, trivial⟩
      have BX : Hid ((wr.alloc (.cells #[.int .i64 xs[k].fr, .int .i64 xs[k].to, .slice ra xs[k].slots.length rc] 77)).heap[wr.heap.size]? = _) := Lib.hid (heap_alloc_new _ _)
      have HBW := Lib.hid (hbel.alloc hbel.size (.cells #[.int .i64 xs[k].fr, .int .i64 xs[k].to, .slice ra xs[k].slots.length rc] 77))
      have hrow : ∀ j, u3.ownBlock = some j → w.heap.size ≤ j ∧ j < wr.heap.size := fun j hj => hown.lt j hj
      have HROW := Lib.hid hrow
      have HOW := Lib.hid (hown.alloc (.cells #[.int .i64 xs[k].fr, .int .i64 xs[k].to, .slice ra xs[k].slots.length rc] 77))
      have hBs : w.heap.size ≤ (wr.alloc (.cells #[.int .i64 xs[k].fr, .int .i64 xs[k].to, .slice ra xs[k].slots.length rc] 77)).heap.size := by simp; omega
      have hps : (wr.alloc (.cells #[.int .i64 xs[k].fr, .int .i64 xs[k].to, .slice ra xs[k].slots.length rc] 77)).heap.size = wr.heap.size + 1 := by simp
      clear x0 x1 x2 hrs hrow hown hbel
      go_upto_region 5 with (fail)
      clear y0 y1 y2
      generalize wr.alloc (.cells #[.int .i64 xs[k].fr, .int .i64 xs[k].to, .slice ra xs[k].slots.length rc] 77) = W0 at *
      have hpr : some wr.heap.size ≠ u3.ownBlock := fun e => by have := (HROW.out _ e.symm).2; omega
      have HRW : ∀ j, u3.ownBlock = some j → j < wr.heap.size + 1 := fun j hj => by have := (HROW.out j hj).2; omega
      have HRB : ∀ j, u3.ownBlock = some j → w.heap.size ≤ j := fun j hj => (HROW.out j hj).1
      generalize wr.heap.size = p at *
      apply wp_region_wr (by kernel_rfl) 10 (RowG u3.ownBlock) (RowG u3.ownBlock) (by decide) [12, 13, 14, 15, 16, 17, 18, 19, 20, 21, 22, 3] [At 12 (Is _), At 13 (Is _), At 14 (Is (.int .i64 xs[k].fr)), At 15 (Is _), At 16 (Is (.int .i64 xs[k].to)), At 17 (Is _), At 18 (Is (.slice ra xs[k].slots.length rc)), At 19 (OwI (p + 1) xs[k].slots), At 20 (AgI (p + 1) xs[k]), At 21 (LtI (p + 1) xs[k]), (At 22 (OwS w.heap.size (xs.take (k + 1)))), (At 3 (OwS w.heap.size (xs.take (k + 1))))] [[12], [13], [14], [15], [16], [17], [18], [19], [20], [21], [22], [3]] ⟨LocOk.at, LocOk.at, LocOk.at, LocOk.at, LocOk.at, LocOk.at, LocOk.at, LocOk.at, LocOk.at, LocOk.at, LocOk.at, LocOk.at, trivial⟩ ⟨fun i _ _ => stb_at (fun _ _ _ h => CsE.up h) (Stb.is), fun i _ _ => stb_at (fun _ _ _ h => CsE.up h) (Stb.is), fun i _ _ => stb_at (fun _ _ _ h => CsE.up h) (Stb.is), fun i _ _ => stb_at (fun _ _ _ h => CsE.up h) (Stb.is), fun i _ _ => stb_at (fun _ _ _ h => CsE.up h) (Stb.is), fun i _ _ => stb_at (fun _ _ _ h => CsE.up h) (Stb.is), fun i _ _ => stb_at (fun _ _ _ h => CsE.up h) (Stb.is), fun i _ _ => stb_at (fun _ _ _ h => CsE.up h) (OwI.stb HRW), fun i _ _ => stb_at (fun _ _ _ h => CsE.up h) (AgI.stb HRW), fun i _ _ => stb_at (fun _ _ _ h => CsE.up h) (LtI.stb HRW), fun i hi _ => OwS.stbA hi, fun i hi hd => OwS.stbC (fun e => by subst e; exact Bool.noConfusion ((show _ = true from by kernel_rfl).symm.trans hd)), trivial⟩ (by kernel_rfl) (by kernel_rfl) (by kernel_rfl) (by kernel_rfl)
      · refine WSteps.cons (WStep.mk RowG.h1 RowG.h2 (by decide) rfl rfl fun t V hsz hout hE hdep K hK => ?_) ?_
        · skip
          have t3 : t[3]? = some _ := hout 3 (by kernel_rfl)
          have HS : Hid (t.size = 25) := Lib.hid hsz
          clear hout hdep hsz
          go_simp
          exact hK.out _ _ (Grw.refl _) (at_here (by rw [HS.out]; decide) rfl)
        refine WSteps.cons (WStep.mk RowG.h1 RowG.h2 (by decide) rfl rfl fun t V hsz hout hE hdep K hK => ?_) ?_
        · skip
          have t5 : t[5]? = some _ := hout 5 (by kernel_rfl)
          have HS : Hid (t.size = 25) := Lib.hid hsz
          clear hout hdep hsz
          go_simp
          exact hK.out _ _ (Grw.refl _) (at_here (by rw [HS.out]; decide) rfl)
        refine WSteps.cons (WStep.mk RowG.h1 RowG.h2 (by decide) rfl rfl fun t V hsz hout hE hdep K hK => ?_) ?_
        · skip
          have t13 := at_is (hdep 1 (by kernel_rfl))
          have HS : Hid (t.size = 25) := Lib.hid hsz
          clear hout hdep hsz
          have bb := grown_block hE BX.out hpr
          have k0 : V.cell? ⟨p, 0, none⟩ = some (.int .i64 xs[k].fr) := by rw [cell_block bb]; rfl
          have k1 : V.cell? ⟨p, 1, none⟩ = some (.int .i64 xs[k].to) := by rw [cell_block bb]; rfl
          have k2 : V.cell? ⟨p, 2, none⟩ = some (.slice ra xs[k].slots.length rc) := by rw [cell_block bb]; rfl
          have kl := block_lt bb
          clear bb
          go_simp
          exact hK.out _ _ (Grw.refl _) (at_here (by rw [HS.out]; decide) rfl)
        refine WSteps.cons (WStep.mk RowG.h1 RowG.h2 (by decide) rfl rfl fun t V hsz hout hE hdep K hK => ?_) ?_
        · skip
          have t5 : t[5]? = some _ := hout 5 (by kernel_rfl)
          have HS : Hid (t.size = 25) := Lib.hid hsz
          clear hout hdep hsz
          go_simp
          exact hK.out _ _ (Grw.refl _) (at_here (by rw [HS.out]; decide) rfl)
        refine WSteps.cons (WStep.mk RowG.h1 RowG.h2 (by decide) rfl rfl fun t V hsz hout hE hdep K hK => ?_) ?_
        · skip
          have t15 := at_is (hdep 3 (by kernel_rfl))
          have HS : Hid (t.size = 25) := Lib.hid hsz
          clear hout hdep hsz
          have bb := grown_block hE BX.out hpr
          have k0 : V.cell? ⟨p, 0, none⟩ = some (.int .i64 xs[k].fr) := by rw [cell_block bb]; rfl
          have k1 : V.cell? ⟨p, 1, none⟩ = some (.int .i64 xs[k].to) := by rw [cell_block bb]; rfl
          have k2 : V.cell? ⟨p, 2, none⟩ = some (.slice ra xs[k].slots.length rc) := by rw [cell_block bb]; rfl
          have kl := block_lt bb
          clear bb
          go_simp
          exact hK.out _ _ (Grw.refl _) (at_here (by rw [HS.out]; decide) rfl)
        refine WSteps.cons (WStep.mk RowG.h1 RowG.h2 (by decide) rfl rfl fun t V hsz hout hE hdep K hK => ?_) ?_
        · skip
          have t5 : t[5]? = some _ := hout 5 (by kernel_rfl)
          have HS : Hid (t.size = 25) := Lib.hid hsz
          clear hout hdep hsz
          go_simp
          exact hK.out _ _ (Grw.refl _) (at_here (by rw [HS.out]; decide) rfl)
        refine WSteps.cons (WStep.mk RowG.h1 RowG.h2 (by decide) rfl rfl fun t V hsz hout hE hdep K hK => ?_) ?_
        · skip
          have t17 := at_is (hdep 5 (by kernel_rfl))
          have HS : Hid (t.size = 25) := Lib.hid hsz
          clear hout hdep hsz
          have bb := grown_block hE BX.out hpr
          have k0 : V.cell? ⟨p, 0, none⟩ = some (.int .i64 xs[k].fr) := by rw [cell_block bb]; rfl
          have k1 : V.cell? ⟨p, 1, none⟩ = some (.int .i64 xs[k].to) := by rw [cell_block bb]; rfl
          have k2 : V.cell? ⟨p, 2, none⟩ = some (.slice ra xs[k].slots.length rc) := by rw [cell_block bb]; rfl
          have kl := block_lt bb
          clear bb
          go_simp
          exact hK.out _ _ (Grw.refl _) (at_here (by rw [HS.out]; decide) rfl)
        refine WSteps.cons (WStep.mk RowG.h1 RowG.h2 (by decide) rfl rfl fun t V hsz hout hE hdep K hK => ?_) ?_
        · skip
          have t18 := at_is (hdep 6 (by kernel_rfl))
          have HS : Hid (t.size = 25) := Lib.hid hsz
          clear hout hdep hsz
          have hrd := HRS.out.below (HBW.out.grown hE hBs HRB)
          refine wp_append_rd i64E i64S _ _ rfl (p + 1) (.slice none 0 0) [] rfl (Own.nil _ _ _ _) _ xs[k].slots (eval_tmp t18) hrd one_i64 (by have := HSL.out; simp; omega) (by have := HSL.out; unfold maxLen; simp; omega) (by have := hE.size; omega) (fun _ _ _ _ h => h) ?_
          intro v' w' ho hg2 hb2 _
          exact hK.out _ _ (grow_none hg2) (at_here (by rw [HS.out]; decide) ho)
        refine WSteps.cons (WStep.mk RowG.h1 RowG.h2 (by decide) rfl rfl fun t V hsz hout hE hdep K hK => ?_) ?_
        · skip
          have t14 := at_is (hdep 2 (by kernel_rfl))
          have t16 := at_is (hdep 4 (by kernel_rfl))
          obtain ⟨v19, t19, e19⟩ := hdep 7 (by kernel_rfl)
          dsimp only at t19
          have HS : Hid (t.size = 25) := Lib.hid hsz
          clear hout hdep hsz
          obtain ⟨a1, l1, b1, rfl⟩ := own_sl e19
          have O1 := Lib.hid e19
          clear e19
          go_simp
          exact hK.out _ _ (Below.refl _ _) (at_here (by rw [HS.out]; decide) ⟨_, rfl, O1.out⟩)
        refine WSteps.cons (WStep.mk RowG.h1 RowG.h2 (by decide) rfl rfl fun t V hsz hout hE hdep K hK => ?_) ?_
        · skip
          obtain ⟨v20, t20, e20⟩ := hdep 8 (by kernel_rfl)
          dsimp only at t20
          have HS : Hid (t.size = 25) := Lib.hid hsz
          clear hout hdep hsz
          obtain ⟨u, rfl, o1⟩ := e20
          obtain ⟨a1, l1, b1, rfl⟩ := own_sl o1
          have O1 := Lib.hid o1
          have hs := hE.size
          clear o1
          go_simp
          exact hK.out _ _ ((Below.refl _ _).alloc (Nat.le_refl _) _) (at_here (by rw [HS.out]; decide) ⟨_, _, rfl, by omega, heap_alloc_new _ _, O1.out.alloc _⟩)
        refine WSteps.cons (WStep.mkW RowG.h3 rfl rfl fun t V hsz hout hE hdep K hK => ?_) ?_
        · skip
          have t12 := at_is (hdep 0 (by kernel_rfl))
          obtain ⟨v21, t21, e21⟩ := hdep 9 (by kernel_rfl)
          dsimp only at t21
          have HS : Hid (t.size = 25) := Lib.hid hsz
          clear hout hdep hsz
          obtain ⟨q, u, rfl, hq, hbq, o1⟩ := e21
          have how := HOW.out.below hE
          refine wp_append_lit1 (setO w.heap.size) setS _ _ rfl w.heap.size _ (xs.take k) (eval_tmp t12) how xs[k] _ q (eval_tmp t21) hbq ⟨u, rfl, o1.base (by omega)⟩ ?_ ?_ ?_ (by have := hE.size; omega) ?_ ?_
          · obtain ⟨a1, l1, b1, rfl⟩ := own_sl o1; simp [Value.oneCell']
          · have := HXL.out; rw [List.length_take]; omega
          · have := HXL.out; unfold maxLen; rw [List.length_take]; omega
          · exact fun w' x cs hg h => setO_kept how hg h
          · intro v' w' ho hg2 hb2
            exact hK.out _ _ hg2 (at_here (by rw [HS.out]; decide) (by unfold OwS; rw [HTK.out]; exact ho))
        refine WSteps.cons (WStep.mk RowG.h1 RowG.h2 (by decide) rfl rfl fun t V hsz hout hE hdep K hK => ?_) ?_
        · skip
          obtain ⟨v22, t22, e22⟩ := hdep 10 (by kernel_rfl)
          dsimp only at t22
          have HS : Hid (t.size = 25) := Lib.hid hsz
          clear hout hdep hsz
          obtain ⟨a1, l1, b1, rfl⟩ := own_sl e22
          have O1 := Lib.hid e22
          clear e22
          go_simp
          exact hK.out _ _ (Below.refl _ _) (at_here (by rw [HS.out]; decide) O1.out)
        exact WSteps.nil (by decide)
      · intro f W hE hF hget
        have f12 : f 12 = _ := at_end (hF 0 (by kernel_rfl)) (hget 12 (by decide) (by simp))
        have f13 : f 13 = _ := at_end (hF 1 (by kernel_rfl)) (hget 13 (by decide) (by simp))
        have f14 : f 14 = _ := at_end (hF 2 (by kernel_rfl)) (hget 14 (by decide) (by simp))
        have f15 : f 15 = _ := at_end (hF 3 (by kernel_rfl)) (hget 15 (by decide) (by simp))
        have f16 : f 16 = _ := at_end (hF 4 (by kernel_rfl)) (hget 16 (by decide) (by simp))
        have f17 : f 17 = _ := at_end (hF 5 (by kernel_rfl)) (hget 17 (by decide) (by simp))
        have f18 : f 18 = _ := at_end (hF 6 (by kernel_rfl)) (hget 18 (by decide) (by simp))
        have f19 := at_end (hF 7 (by kernel_rfl)) (hget 19 (by decide) (by simp))
        have f20 := at_end (hF 8 (by kernel_rfl)) (hget 20 (by decide) (by simp))
        have f21 := at_end (hF 9 (by kernel_rfl)) (hget 21 (by decide) (by simp))
        have g10 := hF 10 (by kernel_rfl)
        have g11 := hF 11 (by kernel_rfl)
        have f3 := at_end g11 (hget 3 (by decide) (by simp))
        clear g10 g11
        clear hF hget
        simp only [setAllV, List.map_cons, List.map_nil, List.set_cons_succ, List.set_cons_zero, f12, f13, f14, f15, f16, f17, f18]
        clear f12 f13 f14 f15 f16 f17 f18
        generalize f 19 = v19 at *
        generalize f 20 = v20 at *
        generalize f 21 = v21 at *
        generalize f 22 = v22 at *
        generalize f 3 = v3 at *
        have HO := Lib.hid f3
        have HBE := Lib.hid (HBW.out.grown hE hBs HRB)
        obtain ⟨a1, l1, b1, rfl⟩ := own_sl f3
        clear f3 hE f19 f20 f21
        go_wp2
        go_roundw
        case rel => exact ⟨k + 1, by omega, by go_num, HO.out, HBE.out⟩
        case measure => simp [intOf]; omega
    · have hke : xs.take k = xs := List.take_of_length_le (by omega)
      rw [hke] at hown
      have HO := Lib.hid hown
      obtain ⟨a1, l1, b1, rfl⟩ := own_sl hown
      clear hown
      go_wp2
      go_ret
      exact ⟨_, rfl, HO.out, hbel⟩
end Go.Proofs.Ytchdmemgkegefaa
