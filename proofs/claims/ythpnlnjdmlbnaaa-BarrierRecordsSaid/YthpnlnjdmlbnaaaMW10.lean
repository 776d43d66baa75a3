/- Parts of the proof: B6. No condition. -/
import Derived.Test.YthpnlnjdmlbnaaaMW9
/- Trial. -/
namespace Go.Proofs.Ythpnlnjdmlbnaaa
open Go.RowKit
set_option linter.unusedSimpArgs false
set_option linter.unusedVariables false
noncomputable def F_ref18_Put (p0 : List RSet) (p1 : Int) (p2 : Int) (p3 : Int) : Option (List RSet) :=
 (loopO (fun (s4 : Int) =>
 if s4 < (p0.length : Int) then
 ((at_ p0 s4).bind fun v8 =>
 (F_ref18_before v8 (RSet.mk p1 p2 ([] : List Int))).bind fun v9 =>
 if v9 = true then
 (some (.go (w64 (s4 + 1))))
 else
 some (.out (s4)))
 else
 some (.out (s4))) 0).bind fun (b1 : Int) =>
 (F_ref18_Copy p0).bind fun v11 =>
 if b1 < (p0.length : Int) then
 ((at_ p0 b1).bind fun v14 =>
 (F_ref18_before (RSet.mk p1 p2 ([] : List Int)) v14).bind fun v15 =>
 if v15 = true then
 (if 0 ≤ b1 ∧ b1 ≤ v11.length then
 if (((v11.take (Int.toNat (v11.length : Int))).drop (Int.toNat b1)).length : Int) * 40 ≤ 140737488355328 ∧ (((v11.take (Int.toNat (v11.length : Int))).drop (Int.toNat b1)).length : Int) ≤ 9223372036854775807 then
 if 0 ≤ b1 ∧ b1 ≤ v11.length then
 if (((v11.take (Int.toNat b1)).length : Int) + [RSet.mk p1 p2 [p3]].length) * 40 ≤ 140737488355328 ∧ ((v11.take (Int.toNat b1)).length : Int) + [RSet.mk p1 p2 [p3]].length ≤ 9223372036854775807 then
 if ((((v11.take (Int.toNat b1)) ++ [RSet.mk p1 p2 [p3]]).length : Int) + ((v11.take (Int.toNat (v11.length : Int))).drop (Int.toNat b1)).length) * 40 ≤ 140737488355328 ∧ (((v11.take (Int.toNat b1)) ++ [RSet.mk p1 p2 [p3]]).length : Int) + ((v11.take (Int.toNat (v11.length : Int))).drop (Int.toNat b1)).length ≤ 9223372036854775807 then
 some (((v11.take (Int.toNat b1)) ++ [RSet.mk p1 p2 [p3]]) ++ ((v11.take (Int.toNat (v11.length : Int))).drop (Int.toNat b1)))
 else none
 else none
 else none
 else none
 else none)
 else
 (F_ref18_with v14.slots p3).bind fun v23 =>
 (at_ v11 b1).bind fun v24 =>
 some (v11.set (Int.toNat b1) (RSet.mk v24.frm v24.to v23)))
 else
 if 0 ≤ b1 ∧ b1 ≤ v11.length then
 if (((v11.take (Int.toNat (v11.length : Int))).drop (Int.toNat b1)).length : Int) * 40 ≤ 140737488355328 ∧ (((v11.take (Int.toNat (v11.length : Int))).drop (Int.toNat b1)).length : Int) ≤ 9223372036854775807 then
 if 0 ≤ b1 ∧ b1 ≤ v11.length then
 if (((v11.take (Int.toNat b1)).length : Int) + [RSet.mk p1 p2 [p3]].length) * 40 ≤ 140737488355328 ∧ ((v11.take (Int.toNat b1)).length : Int) + [RSet.mk p1 p2 [p3]].length ≤ 9223372036854775807 then
 if ((((v11.take (Int.toNat b1)) ++ [RSet.mk p1 p2 [p3]]).length : Int) + ((v11.take (Int.toNat (v11.length : Int))).drop (Int.toNat b1)).length) * 40 ≤ 140737488355328 ∧ (((v11.take (Int.toNat b1)) ++ [RSet.mk p1 p2 [p3]]).length : Int) + ((v11.take (Int.toNat (v11.length : Int))).drop (Int.toNat b1)).length ≤ 9223372036854775807 then
 some (((v11.take (Int.toNat b1)) ++ [RSet.mk p1 p2 [p3]]) ++ ((v11.take (Int.toNat (v11.length : Int))).drop (Int.toNat b1)))
 else none
 else none
 else none
 else none
 else none

set_option maxRecDepth 20000 in
set_option maxHeartbeats 4000000 in
theorem F_ref18_Put_ok {p0 : List RSet} {p1 : Int} {p2 : Int} {p3 : Int} {r : List RSet} (H : Sm (F_ref18_Put p0 p1 p2 p3) r) : DCall Try.prog 23 [.sl (p0.map RSet.c), DI p1, DI p2, DI p3] [] (.own 0 0 r.length) [(0, ⟨3, true, false, r.map RSet.c⟩)] := by
  unfold F_ref18_Put at H
  refine DCall.mk Try.func23 rfl rfl ?_
  refine d_rsA ?_
  refine d_rsA ?_
  refine d_rsA ?_
  refine d_cutS (fun (b1 : Int) => ⟨[(0, .sl (p0.map RSet.c)), (3, DI p3), (9, .ptr 0 0 0), (10, DI b1)], [(0, ⟨3, false, false, [[DI p1, DI p2, DN]]⟩)], 1⟩) H (fun z2 H => ?_) (fun b1 H => ?_)
  ·
    refine d_block ?_
    refine d_loopS (fun (s4 : Int) => ⟨[(0, .sl (p0.map RSet.c)), (3, DI p3), (9, .ptr 0 0 0), (10, DI s4)], [(0, ⟨3, false, false, [[DI p1, DI p2, DN]]⟩)], 1⟩) H (wkE [(0, 0)]) (fun s4 y5 hq5 H => ?_)
    refine d_seq fun K k6 => ?_
    replace H := fs H; rcases H with ⟨h7, H⟩ | ⟨h7, H⟩
    ·
      replace H := ba H; obtain ⟨v8, hv8, H⟩ := H
      replace H := bd H; obtain ⟨v9, hv9, H⟩ := H
      refine d_as mixedP rfl (by kernel_rfl) ?_
      refine rg ?_
      refine go (m_cS [] (F_ref18_before_ok hv9) rfl ScS.nil) ?_ (gY (decide_eq_true h7))
      refine rg ?_
      refine .nil ⟨⟨by kernel_rfl, by kernel_rfl⟩, ?_⟩
      replace H := fs H; rcases H with ⟨h10, H⟩ | ⟨h10, H⟩
      ·
        refine d_condA ?_
        refine d_skip ?_
        refine k6 _ ?_
        refine d_block ?_
        refine d_regA ?_
        have e := se H; subst e
        exact ⟨_, rfl, wkE [(0, 0)]⟩
      refine d_condB ?_
      refine d_exit ?_
      have e := se H; subst e
      have e := hq5 _ rfl; subst e
      exact wkE [(0, 0)]
    refine d_asA ?_
    refine d_condB ?_
    refine d_exit ?_
    have e := se H; subst e
    have e := hq5 _ rfl; subst e
    exact wkE [(0, 0)]
  replace H := bd H; obtain ⟨v11, hv11, H⟩ := H
  refine d_rs rfl ?_
  refine rg ?_
  refine go (m_cG [] (F_ref18_Copy_ok hv11)) ?_
  refine rg ?_
  refine .nil ⟨by kernel_rfl, ?_⟩
  refine d_seq fun K k12 => ?_
  replace H := fs H; rcases H with ⟨h13, H⟩ | ⟨h13, H⟩
  ·
    replace H := ba H; obtain ⟨v14, hv14, H⟩ := H
    replace H := bd H; obtain ⟨v15, hv15, H⟩ := H
    refine d_as mixedP rfl (by kernel_rfl) ?_
    refine rg ?_
    refine go (m_cS [] (F_ref18_before_ok hv15) rfl ScS.nil) ?_ (gY (decide_eq_true h13))
    refine rg ?_
    refine .nil ⟨⟨by kernel_rfl, by kernel_rfl⟩, ?_⟩
    replace H := fs H; rcases H with ⟨h16, H⟩ | ⟨h16, H⟩
    ·
      refine d_condB ?_
      refine d_skip ?_
      refine k12 _ ?_
      refine d_rs rfl ?_
      refine rg ?_
      refine go (m_litE (c := iC) ([p3] : List Int) i27.ok i3.ok) ?_
      refine rg ?_
      refine .nil ⟨by kernel_rfl, ?_⟩
      replace H := cq H; obtain ⟨h17, H⟩ := H
      rcases Int.lt_or_eq_of_le h17.2 with h18 | h18
      ·
        replace H := cq H; obtain ⟨h19, H⟩ := H
        refine d_rs rfl ?_
        refine rg ?_
        refine go (m_slV (c := RSet.c) (xs := v11) (a := b1) (b := (v11.length : Int)) ⟨h17.1, h17.2, Int.le_refl _, .inr h18⟩ i26.ok i57.ok (.inr ⟨_, _, rfl, rfl⟩) (.inl ⟨rfl, rfl⟩) rfl rfl rfl rfl rfl) ?_
        refine go (m_apW (c := RSet.c) v11 (a := b1) (b := (v11.length : Int)) (by omega) h19 i26.ok i57.ok rfl rfl rfl rfl rfl rfl (by decide) rfl (fun _ => rfl)) ?_
        refine rg ?_
        refine .nil ⟨by kernel_rfl, ?_⟩
        replace H := cq H; obtain ⟨h20, H⟩ := H
        replace H := cq H; obtain ⟨h21, H⟩ := H
        replace H := cq H; obtain ⟨h22, H⟩ := H
        refine d_as mixedP rfl (by kernel_rfl) ?_
        refine rg ?_
        refine go (m_slV (c := RSet.c) (xs := v11) (a := 0) (b := b1) ⟨Int.le_refl 0, h20.1, h20.2, .inl rfl⟩ i26.ok i57.ok (.inl ⟨rfl, rfl⟩) (.inr ⟨_, _, rfl, rfl⟩) rfl rfl rfl rfl rfl) ?_
        refine rg ?_
        refine go (m_litE (c := RSet.c) ([RSet.mk p1 p2 [p3]] : List RSet) i26.ok i57.ok) ?_
        refine go (m_apV (c := RSet.c) v11 [RSet.mk p1 p2 [p3]] (b := b1) (by omega) h21 i26.ok i57.ok rfl rfl (.own rfl rfl (by simp) (all_len (c := RSet.c) (fun _ => rfl) _)) rfl rfl rfl (by decide) rfl) ?_
        refine rg ?_
        refine go (m_apO (c := RSet.c) ((v11.take (Int.toNat b1)) ++ [RSet.mk p1 p2 [p3]]) ((v11.take (Int.toNat (v11.length : Int))).drop (Int.toNat b1)) h22 i26.ok i57.ok rfl rfl (.own rfl rfl (by simp) (all_len (c := RSet.c) (fun _ => rfl) _)) rfl) ?_
        refine rg ?_
        refine .nil ⟨⟨by kernel_rfl, by kernel_rfl⟩, ?_⟩
        refine d_ret ?_
        change RetD _ _ _ _ _ _ _
        have e := se H; subst e
        exact finE [(0, 6)] (.tmp (.nil))
      replace H := cq H; obtain ⟨h19, H⟩ := H
      refine d_rs rfl ?_
      refine rg ?_
      refine go (m_slN (c := RSet.c) (xs := v11) (a := b1) h18 i26.ok i57.ok ⟨_, _, rfl, rfl⟩ rfl rfl rfl rfl rfl) ?_
      refine go (m_apN (c := RSet.c) ((v11.take (Int.toNat (v11.length : Int))).drop (Int.toNat b1)) h19 i26.ok i57.ok rfl (.sl rfl (all_len (c := RSet.c) (fun _ => rfl) _))) ?_
      refine rg ?_
      refine .nil ⟨by kernel_rfl, ?_⟩
      replace H := cq H; obtain ⟨h20, H⟩ := H
      replace H := cq H; obtain ⟨h21, H⟩ := H
      replace H := cq H; obtain ⟨h22, H⟩ := H
      refine d_as mixedP rfl (by kernel_rfl) ?_
      refine rg ?_
      refine go (m_slV (c := RSet.c) (xs := v11) (a := 0) (b := b1) ⟨Int.le_refl 0, h20.1, h20.2, .inl rfl⟩ i26.ok i57.ok (.inl ⟨rfl, rfl⟩) (.inr ⟨_, _, rfl, rfl⟩) rfl rfl rfl rfl rfl) ?_
      refine rg ?_
      refine go (m_litE (c := RSet.c) ([RSet.mk p1 p2 [p3]] : List RSet) i26.ok i57.ok) ?_
      refine go (m_apV (c := RSet.c) v11 [RSet.mk p1 p2 [p3]] (b := b1) (by omega) h21 i26.ok i57.ok rfl rfl (.own rfl rfl (by simp) (all_len (c := RSet.c) (fun _ => rfl) _)) rfl rfl rfl (by decide) rfl) ?_
      refine rg ?_
      refine go (m_apO (c := RSet.c) ((v11.take (Int.toNat b1)) ++ [RSet.mk p1 p2 [p3]]) ((v11.take (Int.toNat (v11.length : Int))).drop (Int.toNat b1)) h22 i26.ok i57.ok rfl rfl (.own rfl rfl (by simp) (all_len (c := RSet.c) (fun _ => rfl) _)) rfl) ?_
      refine rg ?_
      refine .nil ⟨⟨by kernel_rfl, by kernel_rfl⟩, ?_⟩
      refine d_ret ?_
      change RetD _ _ _ _ _ _ _
      have e := se H; subst e
      exact finE [(0, 6)] (.tmp (.nil))
    refine d_condA ?_
    replace H := bd H; obtain ⟨v23, hv23, H⟩ := H
    replace H := ba H; obtain ⟨v24, hv24, H⟩ := H
    refine d_rs rfl ?_
    refine rg ?_
    refine go (m_cG [] (F_ref18_with_ok hv23)) ?_
    refine rg ?_
    refine go (m_stO (c := RSet.c) hv24.h (RSet.mk v24.frm v24.to v23) i27.ok) ?_
    refine .nil ⟨by kernel_rfl, ?_⟩
    refine d_rsA ?_
    refine d_ret ?_
    change RetD _ _ _ _ _ _ _
    have e := se H; subst e
    exact finE [(0, 1)] (.tmp (.nil))
  refine d_asA ?_
  refine d_condB ?_
  refine d_skip ?_
  refine k12 _ ?_
  refine d_rs rfl ?_
  refine rg ?_
  refine go (m_litE (c := iC) ([p3] : List Int) i27.ok i3.ok) ?_
  refine rg ?_
  refine .nil ⟨by kernel_rfl, ?_⟩
  replace H := cq H; obtain ⟨h25, H⟩ := H
  rcases Int.lt_or_eq_of_le h25.2 with h26 | h26
  ·
    replace H := cq H; obtain ⟨h27, H⟩ := H
    refine d_rs rfl ?_
    refine rg ?_
    refine go (m_slV (c := RSet.c) (xs := v11) (a := b1) (b := (v11.length : Int)) ⟨h25.1, h25.2, Int.le_refl _, .inr h26⟩ i26.ok i57.ok (.inr ⟨_, _, rfl, rfl⟩) (.inl ⟨rfl, rfl⟩) rfl rfl rfl rfl rfl) ?_
    refine go (m_apW (c := RSet.c) v11 (a := b1) (b := (v11.length : Int)) (by omega) h27 i26.ok i57.ok rfl rfl rfl rfl rfl rfl (by decide) rfl (fun _ => rfl)) ?_
    refine rg ?_
    refine .nil ⟨by kernel_rfl, ?_⟩
    replace H := cq H; obtain ⟨h28, H⟩ := H
    replace H := cq H; obtain ⟨h29, H⟩ := H
    replace H := cq H; obtain ⟨h30, H⟩ := H
    refine d_as mixedP rfl (by kernel_rfl) ?_
    refine rg ?_
    refine go (m_slV (c := RSet.c) (xs := v11) (a := 0) (b := b1) ⟨Int.le_refl 0, h28.1, h28.2, .inl rfl⟩ i26.ok i57.ok (.inl ⟨rfl, rfl⟩) (.inr ⟨_, _, rfl, rfl⟩) rfl rfl rfl rfl rfl) ?_
    refine rg ?_
    refine go (m_litE (c := RSet.c) ([RSet.mk p1 p2 [p3]] : List RSet) i26.ok i57.ok) ?_
    refine go (m_apV (c := RSet.c) v11 [RSet.mk p1 p2 [p3]] (b := b1) (by omega) h29 i26.ok i57.ok rfl rfl (.own rfl rfl (by simp) (all_len (c := RSet.c) (fun _ => rfl) _)) rfl rfl rfl (by decide) rfl) ?_
    refine rg ?_
    refine go (m_apO (c := RSet.c) ((v11.take (Int.toNat b1)) ++ [RSet.mk p1 p2 [p3]]) ((v11.take (Int.toNat (v11.length : Int))).drop (Int.toNat b1)) h30 i26.ok i57.ok rfl rfl (.own rfl rfl (by simp) (all_len (c := RSet.c) (fun _ => rfl) _)) rfl) ?_
    refine rg ?_
    refine .nil ⟨⟨by kernel_rfl, by kernel_rfl⟩, ?_⟩
    refine d_ret ?_
    change RetD _ _ _ _ _ _ _
    have e := se H; subst e
    exact finE [(0, 6)] (.tmp (.nil))
  replace H := cq H; obtain ⟨h27, H⟩ := H
  refine d_rs rfl ?_
  refine rg ?_
  refine go (m_slN (c := RSet.c) (xs := v11) (a := b1) h26 i26.ok i57.ok ⟨_, _, rfl, rfl⟩ rfl rfl rfl rfl rfl) ?_
  refine go (m_apN (c := RSet.c) ((v11.take (Int.toNat (v11.length : Int))).drop (Int.toNat b1)) h27 i26.ok i57.ok rfl (.sl rfl (all_len (c := RSet.c) (fun _ => rfl) _))) ?_
  refine rg ?_
  refine .nil ⟨by kernel_rfl, ?_⟩
  replace H := cq H; obtain ⟨h28, H⟩ := H
  replace H := cq H; obtain ⟨h29, H⟩ := H
  replace H := cq H; obtain ⟨h30, H⟩ := H
  refine d_as mixedP rfl (by kernel_rfl) ?_
  refine rg ?_
  refine go (m_slV (c := RSet.c) (xs := v11) (a := 0) (b := b1) ⟨Int.le_refl 0, h28.1, h28.2, .inl rfl⟩ i26.ok i57.ok (.inl ⟨rfl, rfl⟩) (.inr ⟨_, _, rfl, rfl⟩) rfl rfl rfl rfl rfl) ?_
  refine rg ?_
  refine go (m_litE (c := RSet.c) ([RSet.mk p1 p2 [p3]] : List RSet) i26.ok i57.ok) ?_
  refine go (m_apV (c := RSet.c) v11 [RSet.mk p1 p2 [p3]] (b := b1) (by omega) h29 i26.ok i57.ok rfl rfl (.own rfl rfl (by simp) (all_len (c := RSet.c) (fun _ => rfl) _)) rfl rfl rfl (by decide) rfl) ?_
  refine rg ?_
  refine go (m_apO (c := RSet.c) ((v11.take (Int.toNat b1)) ++ [RSet.mk p1 p2 [p3]]) ((v11.take (Int.toNat (v11.length : Int))).drop (Int.toNat b1)) h30 i26.ok i57.ok rfl rfl (.own rfl rfl (by simp) (all_len (c := RSet.c) (fun _ => rfl) _)) rfl) ?_
  refine rg ?_
  refine .nil ⟨⟨by kernel_rfl, by kernel_rfl⟩, ?_⟩
  refine d_ret ?_
  change RetD _ _ _ _ _ _ _
  have e := se H; subst e
  exact finE [(0, 6)] (.tmp (.nil))

noncomputable def F_make_Slots (p0 : BeltwaymakeDeck) : Option (List RSet × BeltwaymakeDeck) :=
 ((F_make_Deck_Next p0 20).bind fun v3 =>
 loopO (fun (s6 : BeltwaymakeDeck × List RSet × Int) =>
 if 0 < s6.2.2 then
 ((F_make_Deck_Next s6.1 6).bind fun v11 =>
 (F_make_Deck_Next v11.2 6).bind fun v12 =>
 (F_make_Deck_Next v12.2 40).bind fun v13 =>
 (F_ref18_Put s6.2.1 v11.1 v12.1 v13.1).bind fun v14 =>
 some (.go ((v13.2, v14, w64 (s6.2.2 - 1)))))
 else
 some (.out ((s6.1, s6.2.1)))) (v3.2, ([] : List RSet), v3.1)).bind fun (b1 : BeltwaymakeDeck × List RSet) =>
 some ((b1.2, b1.1))

set_option maxRecDepth 20000 in
set_option maxHeartbeats 4000000 in
theorem F_make_Slots_ok {p0 : BeltwaymakeDeck} {r : List RSet × BeltwaymakeDeck} (H : Sm (F_make_Slots p0) r) : DCall Try.prog 10 [.ptr 0 0 0] [(0, ⟨2, false, false, [[.sl (p0.l.map iC), DI p0.pos]]⟩)] (.own 1 0 r.1.length) [(0, ⟨2, false, false, [[.sl (r.2.l.map iC), DI r.2.pos]]⟩), (1, ⟨3, true, false, r.1.map RSet.c⟩)] := by
  unfold F_make_Slots at H
  refine DCall.mk Try.func10 rfl rfl ?_
  refine d_rsA ?_
  refine d_rsA ?_
  refine d_cutS (fun (b1 : BeltwaymakeDeck × List RSet) => ⟨[(3, .own 1 0 b1.2.length)], [(0, ⟨2, false, false, [[.sl (b1.1.l.map iC), DI b1.1.pos]]⟩), (1, ⟨3, true, false, b1.2.map RSet.c⟩)], 2⟩) H (fun z2 H => ?_) (fun b1 H => ?_)
  ·
    replace H := bd H; obtain ⟨v3, hv3, H⟩ := H
    refine d_rs rfl ?_
    refine rg ?_
    refine go (m_cG [(0, 0)] (F_make_Deck_Next_ok hv3)) ?_
    refine rg ?_
    refine .nil ⟨by kernel_rfl, ?_⟩
    refine d_block ?_
    refine d_nil 3 3 (by decide) rfl ?_
    refine d_loopS (fun (s6 : BeltwaymakeDeck × List RSet × Int) => ⟨[(0, .ptr 0 0 0), (3, .own 1 0 s6.2.1.length), (4, DI s6.2.2)], [(0, ⟨2, false, false, [[.sl (s6.1.l.map iC), DI s6.1.pos]]⟩), (1, ⟨3, true, false, s6.2.1.map RSet.c⟩)], 2⟩) H (wkE [(0, 0), (1, 1)]) (fun s6 y7 hq7 H => ?_)
    refine d_seq fun K k8 => ?_
    refine d_rsA ?_
    replace H := fs H; rcases H with ⟨h9, H⟩ | ⟨h9, H⟩
    ·
      refine d_condA ?_
      refine d_skip ?_
      refine k8 _ ?_
      refine d_seq fun K k10 => ?_
      refine d_block ?_
      replace H := bd H; obtain ⟨v11, hv11, H⟩ := H
      replace H := bd H; obtain ⟨v12, hv12, H⟩ := H
      replace H := bd H; obtain ⟨v13, hv13, H⟩ := H
      replace H := bd H; obtain ⟨v14, hv14, H⟩ := H
      refine d_region rfl ?_
      refine rg ?_
      refine go (m_cG [(0, 0)] (F_make_Deck_Next_ok hv11)) ?_
      refine rg ?_
      refine go (m_cG [(0, 0)] (F_make_Deck_Next_ok hv12)) ?_
      refine rg ?_
      refine go (m_cG [(0, 0)] (F_make_Deck_Next_ok hv13)) ?_
      refine go (m_cG [] (F_ref18_Put_ok hv14)) ?_
      refine rg ?_
      refine .nil ⟨by kernel_rfl, ?_⟩
      refine k10 _ ?_
      refine d_regA ?_
      have e := se H; subst e
      exact ⟨_, rfl, wkE [(0, 0), (1, 2)]⟩
    refine d_condB ?_
    refine d_exit ?_
    have e := se H; subst e
    have e := hq7 _ rfl; subst e
    exact wkE [(0, 0), (1, 1)]
  refine d_rsA ?_
  refine d_ret ?_
  change RetD _ _ _ _ _ _ _
  have e := se H; subst e
  exact finE [(0, 0), (1, 1)] (.tmp (.nil))

noncomputable def F_ref19_pair (p0 : Sp) (p1 : Int) (p2 : Int) : Option (Int × Int × Bool) :=
 if p2 = 0 then
 (some ((0, 0, false)))
 else
 if (wu (p0.ws.length : Int)) < p2 then
 (some ((0, 0, false)))
 else
 if p1 < 0 then
 (some ((0, 0, false)))
 else
 if (p0.ws.length : Int) ≤ p1 then
 (some ((0, 0, false)))
 else
 if 0 ≤ wu p0.sh then
 (at_ p0.fs (shrN .i64 p1 (wu p0.sh))).bind fun v7 =>
 (at_ p0.fs (shrN .i64 (w64 (wu (p2 - 1))) (wu p0.sh))).bind fun v8 =>
 if v7.ow = (-1) then
 (some ((shrN .i64 p1 (wu p0.sh), shrN .i64 (w64 (wu (p2 - 1))) (wu p0.sh), false)))
 else
 if v8.ow = (-1) then
 (some ((shrN .i64 p1 (wu p0.sh), shrN .i64 (w64 (wu (p2 - 1))) (wu p0.sh), false)))
 else
 some ((shrN .i64 p1 (wu p0.sh), shrN .i64 (w64 (wu (p2 - 1))) (wu p0.sh), decide (v8.st < v7.st)))
 else none

set_option maxRecDepth 20000 in
set_option maxHeartbeats 4000000 in
theorem F_ref19_pair_ok {p0 : Sp} {p1 : Int} {p2 : Int} {r : Int × Int × Bool} (H : Sm (F_ref19_pair p0 p1 p2) r) : DCall Try.prog 25 [.agg [DI p0.sh, .sl (p0.ws.map uC), .sl (p0.fs.map frC)], DI p1, DU p2] [] (.tup [DI r.1, DI r.2.1, DB r.2.2]) [] := by
  unfold F_ref19_pair at H
  refine DCall.mk Try.func25 rfl rfl ?_
  refine d_rsA ?_
  refine d_seq fun K k1 => ?_
  replace H := fs H; rcases H with ⟨h2, H⟩ | ⟨h2, H⟩
  ·
    refine d_rsA ?_
    refine d_condA ?_
    refine d_rsA ?_
    refine d_ret ?_
    change RetD _ _ _ _ _ _ _
    have e := se H; subst e
    exact finE [] (.tmp (.tmp (.tmp (.nil))))
  replace H := fs H; rcases H with ⟨h3, H⟩ | ⟨h3, H⟩
  ·
    refine d_rsA ?_
    refine d_condA ?_
    refine d_rsA ?_
    refine d_ret ?_
    change RetD _ _ _ _ _ _ _
    have e := se H; subst e
    exact finE [] (.tmp (.tmp (.tmp (.nil))))
  replace H := fs H; rcases H with ⟨h4, H⟩ | ⟨h4, H⟩
  ·
    refine d_rsA ?_
    refine d_condA ?_
    refine d_rsA ?_
    refine d_ret ?_
    change RetD _ _ _ _ _ _ _
    have e := se H; subst e
    exact finE [] (.tmp (.tmp (.tmp (.nil))))
  refine d_rsA ?_
  replace H := fs H; rcases H with ⟨h5, H⟩ | ⟨h5, H⟩
  ·
    refine d_condA ?_
    refine d_rsA ?_
    refine d_ret ?_
    change RetD _ _ _ _ _ _ _
    have e := se H; subst e
    exact finE [] (.tmp (.tmp (.tmp (.nil))))
  refine d_condB ?_
  refine d_skip ?_
  refine k1 _ ?_
  replace H := cq H; obtain ⟨h6, H⟩ := H
  refine d_asA ?_
  replace H := ba H; obtain ⟨v7, hv7, H⟩ := H
  replace H := ba H; obtain ⟨v8, hv8, H⟩ := H
  refine d_asA ?_
  replace H := fs H; rcases H with ⟨h9, H⟩ | ⟨h9, H⟩
  ·
    refine d_asA ?_
    refine d_ret ?_
    change RetD _ _ _ _ _ _ _
    have e := se H; subst e
    exact finE [] (.tmp (.tmp (.tmp (.nil))))
  replace H := fs H; rcases H with ⟨h10, H⟩ | ⟨h10, H⟩
  ·
    refine d_asA ?_
    refine d_ret ?_
    change RetD _ _ _ _ _ _ _
    have e := se H; subst e
    exact finE [] (.tmp (.tmp (.tmp (.nil))))
  refine d_asA ?_
  refine d_ret ?_
  change RetD _ _ _ _ _ _ _
  have e := se H; subst e
  exact finE [] (.tmp (.tmp (.tmp (.nil))))

noncomputable def F_ref19_Needs (p0 : Sp) (p1 : Int) (p2 : Int) : Option Bool :=
 (F_ref19_pair p0 p1 p2).bind fun v1 =>
 some (v1.2.2)

set_option maxRecDepth 20000 in
set_option maxHeartbeats 4000000 in
theorem F_ref19_Needs_ok {p0 : Sp} {p1 : Int} {p2 : Int} {r : Bool} (H : Sm (F_ref19_Needs p0 p1 p2) r) : DCall Try.prog 13 [.agg [DI p0.sh, .sl (p0.ws.map uC), .sl (p0.fs.map frC)], DI p1, DU p2] [] (DB r) [] := by
  unfold F_ref19_Needs at H
  refine DCall.mk Try.func13 rfl rfl ?_
  refine d_rsA ?_
  replace H := bd H; obtain ⟨v1, hv1, H⟩ := H
  refine d_rs rfl ?_
  refine rg ?_
  refine go (m_cS [] (F_ref19_pair_ok hv1) rfl ScS.nil) ?_
  refine rg ?_
  refine .nil ⟨by kernel_rfl, ?_⟩
  refine d_rsA ?_
  refine d_ret ?_
  change RetD _ _ _ _ _ _ _
  have e := se H; subst e
  exact finE [] (.tmp (.nil))

noncomputable def F_make_Spoilt (p0 : Sp) (p1 : Int) (p2 : Int) (p3 : Int) : Option Sp :=
 (F_ref03_Copy p0).bind fun v1 =>
 (F_make_Mod p2 (v1.fs.length : Int)).bind fun v2 =>
 (F_make_Mod p1 8).bind fun v4 =>
 if v4 = 0 then
 ((F_make_Mod p3 6).bind fun v6 =>
 (at_ v1.fs v2).bind fun v7 =>
 some (Sp.mk v1.sh v1.ws (v1.fs.set (Int.toNat v2) (Fe.mk (w64 (v6 - 2)) v7.st v7.nx))))
 else
 if v4 = 1 then
 ((at_ v1.fs v2).bind fun v9 =>
 (F_make_Mod p3 4).bind fun v10 =>
 (at_ [1, (-1), 4294967296, 17179869184] v10).bind fun v11 =>
 some (Sp.mk v1.sh v1.ws (v1.fs.set (Int.toNat v2) (Fe.mk v9.ow (w64 (v9.st + v11)) v9.nx))))
 else
 if v4 = 2 then
 ((F_make_Mod p3 (w64 ((v1.fs.length : Int) + 2))).bind fun v13 =>
 (at_ v1.fs v2).bind fun v14 =>
 some (Sp.mk v1.sh v1.ws (v1.fs.set (Int.toNat v2) (Fe.mk v14.ow v14.st (w64 (v13 - 1))))))
 else
 if v4 = 3 then
 ((F_make_Mod p2 (v1.ws.length : Int)).bind fun v16 =>
 (at_ v1.ws v16).bind fun v17 =>
 some (Sp.mk v1.sh (v1.ws.set (Int.toNat v16) (wu p3)) v1.fs))
 else
 if v4 = 4 then
 (if ((v1.ws.length : Int) + [0].length) * 8 ≤ 140737488355328 ∧ (v1.ws.length : Int) + [0].length ≤ 9223372036854775807 then
 some (Sp.mk v1.sh (v1.ws ++ [0]) v1.fs)
 else none)
 else
 if v4 = 5 then
 ((F_make_Mod p3 3).bind fun v21 =>
 some (Sp.mk (w64 (v1.sh + (w64 (v21 - 1)))) v1.ws v1.fs))
 else
 if v4 = 6 then
 ((at_ v1.fs v2).bind fun v23 =>
 some (Sp.mk v1.sh v1.ws (v1.fs.set (Int.toNat v2) (Fe.mk (-1) (-1) (-1)))))
 else
 some (v1)

set_option maxRecDepth 20000 in
set_option maxHeartbeats 4000000 in
theorem F_make_Spoilt_ok {p0 : Sp} {p1 : Int} {p2 : Int} {p3 : Int} {r : Sp} (H : Sm (F_make_Spoilt p0 p1 p2 p3) r) : DCall Try.prog 14 [.agg [DI p0.sh, .sl (p0.ws.map uC), .sl (p0.fs.map frC)], DI p1, DI p2, DI p3] [] (.agg [DI r.sh, .own 0 0 r.ws.length, .own 1 0 r.fs.length]) [(0, ⟨1, true, false, r.ws.map uC⟩), (1, ⟨3, true, false, r.fs.map frC⟩)] := by
  unfold F_make_Spoilt at H
  refine DCall.mk Try.func14 rfl rfl ?_
  refine d_rsA ?_
  replace H := bd H; obtain ⟨v1, hv1, H⟩ := H
  refine d_rs rfl ?_
  refine rg ?_
  refine go (m_cS [] (F_ref03_Copy_ok hv1) rfl (ScS.cons (scC (fun _ => rfl)) (ScS.cons (scC (fun _ => rfl)) ScS.nil))) ?_
  refine rg ?_
  refine .nil ⟨by kernel_rfl, ?_⟩
  replace H := bd H; obtain ⟨v2, hv2, H⟩ := H
  refine d_rs rfl ?_
  refine rg ?_
  refine go (m_cS [] (F_make_Mod_ok hv2) rfl ScS.nil) ?_
  refine rg ?_
  refine .nil ⟨by kernel_rfl, ?_⟩
  refine d_seq fun K k3 => ?_
  replace H := bd H; obtain ⟨v4, hv4, H⟩ := H
  refine d_rs rfl ?_
  refine rg ?_
  refine go (m_cS [] (F_make_Mod_ok hv4) rfl ScS.nil) ?_
  refine .nil ⟨by kernel_rfl, ?_⟩
  refine d_block ?_
  refine d_rsA ?_
  replace H := fs H; rcases H with ⟨h5, H⟩ | ⟨h5, H⟩
  ·
    refine d_condA ?_
    replace H := bd H; obtain ⟨v6, hv6, H⟩ := H
    replace H := ba H; obtain ⟨v7, hv7, H⟩ := H
    refine d_any mixedP rfl (by kernel_rfl) ?_
    refine rg ?_
    refine go (m_cS [] (F_make_Mod_ok hv6) rfl ScS.nil) ?_
    refine rg ?_
    refine go (m_stO (c := frC) hv7.h (Fe.mk (w64 (v6 - 2)) v7.st v7.nx) i3.ok) ?_
    refine .nil ⟨⟨by kernel_rfl, by kernel_rfl⟩, ?_⟩
    refine k3 _ ?_
    refine d_rsA ?_
    refine d_ret ?_
    change RetD _ _ _ _ _ _ _
    have e := se H; subst e
    exact finE [(0, 2), (1, 3)] (.cell i25.ok rfl rfl rfl rfl (.nil))
  refine d_condB ?_
  refine d_rsA ?_
  replace H := fs H; rcases H with ⟨h8, H⟩ | ⟨h8, H⟩
  ·
    refine d_condA ?_
    replace H := ba H; obtain ⟨v9, hv9, H⟩ := H
    replace H := bd H; obtain ⟨v10, hv10, H⟩ := H
    replace H := ba H; obtain ⟨v11, hv11, H⟩ := H
    refine d_any mixedP rfl (by kernel_rfl) ?_
    refine rg ?_
    refine go (m_litE (c := iC) ([1, (-1), 4294967296, 17179869184] : List Int) i27.ok i3.ok) ?_
    refine rg ?_
    refine go (m_cS [] (F_make_Mod_ok hv10) rfl ScS.nil) ?_
    refine rg ?_
    refine go (m_stO (c := frC) hv9.h (Fe.mk v9.ow (w64 (v9.st + v11)) v9.nx) i3.ok) ?_
    refine .nil ⟨⟨by kernel_rfl, by kernel_rfl⟩, ?_⟩
    refine k3 _ ?_
    refine d_rsA ?_
    refine d_ret ?_
    change RetD _ _ _ _ _ _ _
    have e := se H; subst e
    exact finE [(0, 2), (1, 3)] (.cell i25.ok rfl rfl rfl rfl (.nil))
  refine d_condB ?_
  refine d_rsA ?_
  replace H := fs H; rcases H with ⟨h12, H⟩ | ⟨h12, H⟩
  ·
    refine d_condA ?_
    replace H := bd H; obtain ⟨v13, hv13, H⟩ := H
    replace H := ba H; obtain ⟨v14, hv14, H⟩ := H
    refine d_any mixedP rfl (by kernel_rfl) ?_
    refine rg ?_
    refine go (m_cS [] (F_make_Mod_ok hv13) rfl ScS.nil) ?_
    refine rg ?_
    refine go (m_stO (c := frC) hv14.h (Fe.mk v14.ow v14.st (w64 (v13 - 1))) i3.ok) ?_
    refine .nil ⟨⟨by kernel_rfl, by kernel_rfl⟩, ?_⟩
    refine k3 _ ?_
    refine d_rsA ?_
    refine d_ret ?_
    change RetD _ _ _ _ _ _ _
    have e := se H; subst e
    exact finE [(0, 2), (1, 3)] (.cell i25.ok rfl rfl rfl rfl (.nil))
  refine d_condB ?_
  refine d_rsA ?_
  replace H := fs H; rcases H with ⟨h15, H⟩ | ⟨h15, H⟩
  ·
    refine d_condA ?_
    replace H := bd H; obtain ⟨v16, hv16, H⟩ := H
    replace H := ba H; obtain ⟨v17, hv17, H⟩ := H
    refine d_any mixedP rfl (by kernel_rfl) ?_
    refine rg ?_
    refine go (m_cS [] (F_make_Mod_ok hv16) rfl ScS.nil) ?_
    refine rg ?_
    refine go (m_stO (c := uC) hv17.h (wu p3) i28.ok) ?_
    refine .nil ⟨⟨by kernel_rfl, by kernel_rfl⟩, ?_⟩
    refine k3 _ ?_
    refine d_rsA ?_
    refine d_ret ?_
    change RetD _ _ _ _ _ _ _
    have e := se H; subst e
    exact finE [(0, 2), (1, 3)] (.cell i25.ok rfl rfl rfl rfl (.nil))
  refine d_condB ?_
  refine d_rsA ?_
  replace H := fs H; rcases H with ⟨h18, H⟩ | ⟨h18, H⟩
  ·
    refine d_condA ?_
    replace H := cq H; obtain ⟨h19, H⟩ := H
    refine d_region rfl ?_
    refine rg ?_
    refine go (m_litE (c := uC) ([0] : List Int) i22.ok i28.ok) ?_
    refine go (m_apO (c := uC) v1.ws [0] h19 i22.ok i28.ok rfl rfl (.own rfl rfl (by simp) (all_len (c := uC) (fun _ => rfl) _)) rfl) ?_
    refine rg ?_
    refine .nil ⟨by kernel_rfl, ?_⟩
    refine k3 _ ?_
    refine d_rsA ?_
    refine d_ret ?_
    change RetD _ _ _ _ _ _ _
    have e := se H; subst e
    exact finE [(0, 6), (1, 3)] (.cell i25.ok rfl rfl rfl rfl (.nil))
  refine d_condB ?_
  refine d_rsA ?_
  replace H := fs H; rcases H with ⟨h20, H⟩ | ⟨h20, H⟩
  ·
    refine d_condA ?_
    replace H := bd H; obtain ⟨v21, hv21, H⟩ := H
    refine d_any mixedP rfl (by kernel_rfl) ?_
    refine rg ?_
    refine go (m_cS [] (F_make_Mod_ok hv21) rfl ScS.nil) ?_
    refine rg ?_
    refine .nil ⟨⟨by kernel_rfl, by kernel_rfl⟩, ?_⟩
    refine k3 _ ?_
    refine d_rsA ?_
    refine d_ret ?_
    change RetD _ _ _ _ _ _ _
    have e := se H; subst e
    exact finE [(0, 2), (1, 3)] (.cell i25.ok rfl rfl rfl rfl (.nil))
  refine d_condB ?_
  refine d_rsA ?_
  replace H := fs H; rcases H with ⟨h22, H⟩ | ⟨h22, H⟩
  ·
    refine d_condA ?_
    replace H := ba H; obtain ⟨v23, hv23, H⟩ := H
    refine d_region rfl ?_
    refine rg ?_
    refine go (m_stO (c := frC) hv23.h (Fe.mk (-1) (-1) (-1)) i61.ok) ?_
    refine .nil ⟨by kernel_rfl, ?_⟩
    refine k3 _ ?_
    refine d_rsA ?_
    refine d_ret ?_
    change RetD _ _ _ _ _ _ _
    have e := se H; subst e
    exact finE [(0, 2), (1, 3)] (.cell i25.ok rfl rfl rfl rfl (.nil))
  refine d_condB ?_
  refine d_skip ?_
  refine k3 _ ?_
  refine d_rsA ?_
  refine d_ret ?_
  change RetD _ _ _ _ _ _ _
  have e := se H; subst e
  exact finE [(0, 2), (1, 3)] (.cell i25.ok rfl rfl rfl rfl (.nil))

theorem F_make_Spoilt_okp {p0 : Sp} {p1 : Int} {p2 : Int} {p3 : Int} {r : Sp} (H : Sm (F_make_Spoilt p0 p1 p2 p3) r) : DCall Try.prog 14 [.agg [DI p0.sh, .sl (p0.ws.map uC), .sl (p0.fs.map frC)], DI p1, DI p2, DI p3] [] (.agg [DI r.sh, .sl (r.ws.map uC), .sl (r.fs.map frC)]) [] :=
  (F_make_Spoilt_ok H).conv [] (by repeat' (first | exact CvL.nil | apply CvL.cons | exact .lit | exact .frzM rfl rfl | exact .own rfl | exact .sl | exact .ptr rfl | exact .nil | apply Cv.agg | apply Cv.tup)) (by repeat' (first | exact CvS.nil | apply CvS.cons rfl rfl | exact .arr rfl | apply CvO.box | exact CvL.nil | apply CvL.cons | exact .lit | exact .frzM rfl rfl | exact .own rfl | exact .sl | exact .ptr rfl | exact .nil | apply Cv.agg | apply Cv.tup)) rfl

theorem F_make_Slots_okp {p0 : BeltwaymakeDeck} {r : List RSet × BeltwaymakeDeck} (H : Sm (F_make_Slots p0) r) : DCall Try.prog 10 [.ptr 0 0 0] [(0, ⟨2, false, false, [[.sl (p0.l.map iC), DI p0.pos]]⟩)] (.sl (r.1.map RSet.c)) [(0, ⟨2, false, false, [[.sl (r.2.l.map iC), DI r.2.pos]]⟩)] :=
  (F_make_Slots_ok H).conv [(0, 0)] (by repeat' (first | exact CvL.nil | apply CvL.cons | exact .lit | exact .frzM rfl rfl | exact .own rfl | exact .sl | exact .ptr rfl | exact .nil | apply Cv.agg | apply Cv.tup)) (by repeat' (first | exact CvS.nil | apply CvS.cons rfl rfl | exact .arr rfl | apply CvO.box | exact CvL.nil | apply CvL.cons | exact .lit | exact .frzM rfl rfl | exact .own rfl | exact .sl | exact .ptr rfl | exact .nil | apply Cv.agg | apply Cv.tup)) rfl

noncomputable def F_ref18_number (p0 : Int) : Option Bool :=
 if 0 ≤ p0 then
 (some (decide (p0 < 64)))
 else
 some (false)

set_option maxRecDepth 20000 in
set_option maxHeartbeats 4000000 in
theorem F_ref18_number_ok {p0 : Int} {r : Bool} (H : Sm (F_ref18_number p0) r) : DCall Try.prog 53 [DI p0] [] (DB r) [] := by
  unfold F_ref18_number at H
  refine DCall.mk Try.func53 rfl rfl ?_
  refine d_rsA ?_
  replace H := fs H; rcases H with ⟨h1, H⟩ | ⟨h1, H⟩
  ·
    refine d_rsA ?_
    refine d_ret ?_
    change RetD _ _ _ _ _ _ _
    have e := se H; subst e
    exact finE [] (.tmp (.nil))
  refine d_rsA ?_
  refine d_ret ?_
  change RetD _ _ _ _ _ _ _
  have e := se H; subst e
  exact finE [] (.tmp (.nil))

noncomputable def F_ref18_Valid (p0 : List RSet) : Option Bool :=
 bndR (loopO (fun (s4 : Int) =>
 if s4 < (p0.length : Int) then
 (bndR ((at_ p0 s4).bind fun v10 =>
 (F_ref18_number v10.frm).bind fun v12 =>
 if v12 = true then
 ((F_ref18_number v10.to).bind fun v14 =>
 if v14 = true then
 (if 0 < s4 then
 ((at_ p0 (w64 (s4 - 1))).bind fun v17 =>
 (F_ref18_before v17 v10).bind fun v18 =>
 if v18 = true then
 (if (v10.slots.length : Int) = 0 then
 (some (.inr (.out (.inr (false)))))
 else
 (at_ v10.slots 0).bind fun v21 =>
 if v21 < 0 then
 (some (.inr (.out (.inr (false)))))
 else
 loopO (fun (s24 : Int) =>
 if s24 < (v10.slots.length : Int) then
 ((at_ v10.slots (w64 (s24 - 1))).bind fun v29 =>
 (at_ v10.slots s24).bind fun v30 =>
 if v30 ≤ v29 then
 (some (.out (.inr (.out (.inr (false))))))
 else
 some (.go (w64 (s24 + 1))))
 else
 some (.out (.inl (())))) 1)
 else
 some (.inr (.out (.inr (false)))))
 else
 if (v10.slots.length : Int) = 0 then
 (some (.inr (.out (.inr (false)))))
 else
 (at_ v10.slots 0).bind fun v33 =>
 if v33 < 0 then
 (some (.inr (.out (.inr (false)))))
 else
 loopO (fun (s36 : Int) =>
 if s36 < (v10.slots.length : Int) then
 ((at_ v10.slots (w64 (s36 - 1))).bind fun v41 =>
 (at_ v10.slots s36).bind fun v42 =>
 if v42 ≤ v41 then
 (some (.out (.inr (.out (.inr (false))))))
 else
 some (.go (w64 (s36 + 1))))
 else
 some (.out (.inl (())))) 1)
 else
 some (.inr (.out (.inr (false)))))
 else
 some (.inr (.out (.inr (false))))) fun (b8 : Unit) =>
 some (.go (w64 (s4 + 1))))
 else
 some (.out (.inl (())))) 0) fun (b1 : Unit) =>
 some (true)

end Go.Proofs.Ythpnlnjdmlbnaaa
