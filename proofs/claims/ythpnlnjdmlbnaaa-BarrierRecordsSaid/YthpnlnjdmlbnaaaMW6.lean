/- Parts of the proof: B2. No condition. -/
import Derived.Test.YthpnlnjdmlbnaaaMW5
/- Trial. -/
namespace Go.Proofs.Ythpnlnjdmlbnaaa
open Go.RowKit
set_option linter.unusedSimpArgs false
set_option linter.unusedVariables false
set_option maxRecDepth 20000 in
set_option maxHeartbeats 4000000 in
theorem F_remset_Valid_ok {p0 : List RSet} {r : Bool} (H : Sm (F_remset_Valid p0) r) : DCall Try.prog 28 [.sl (p0.map RSet.c)] [] (DB r) [] := by
  unfold F_remset_Valid at H
  refine DCall.mk Try.func28 rfl rfl ?_
  refine d_rsA ?_
  refine d_cutT (fun (b1 : Unit) => ⟨[], [], 0⟩) H (fun z2 hr2 H => ?_) (fun b1 H => ?_)
  ·
    refine d_rsA ?_
    refine d_block ?_
    refine d_loopS (fun (s4 : Int) => ⟨[(0, .sl (p0.map RSet.c)), (6, .sl (p0.map RSet.c)), (7, DI (p0.length : Int)), (8, DI s4)], [], 0⟩) H (wkE []) (fun s4 y5 hq5 H => ?_)
    refine d_rsA ?_
    refine d_seq fun K k6 => ?_
    replace H := fs H; rcases H with ⟨h7, H⟩ | ⟨h7, H⟩
    ·
      refine d_condA ?_
      refine d_skip ?_
      refine k6 _ ?_
      refine d_cutT (fun (b8 : Unit) => ⟨[(0, .sl (p0.map RSet.c)), (6, .sl (p0.map RSet.c)), (7, DI (p0.length : Int)), (8, DI s4)], [], 0⟩) H (fun z9 hr9 H => ?_) (fun b8 H => ?_)
      ·
        refine d_block ?_
        replace H := ba H; obtain ⟨v10, hv10, H⟩ := H
        refine d_rsA ?_
        refine d_seq fun K k11 => ?_
        replace H := bd H; obtain ⟨v12, hv12, H⟩ := H
        replace H := fs H; rcases H with ⟨h13, H⟩ | ⟨h13, H⟩
        ·
          replace H := bd H; obtain ⟨v14, hv14, H⟩ := H
          replace H := fs H; rcases H with ⟨h15, H⟩ | ⟨h15, H⟩
          ·
            replace H := fs H; rcases H with ⟨h16, H⟩ | ⟨h16, H⟩
            ·
              replace H := ba H; obtain ⟨v17, hv17, H⟩ := H
              replace H := bd H; obtain ⟨v18, hv18, H⟩ := H
              replace H := fs H; rcases H with ⟨h19, H⟩ | ⟨h19, H⟩
              ·
                refine d_as mixedP rfl (by kernel_rfl) ?_
                refine rg ?_
                refine go (m_cS [] (F_remset_in_ok hv12) rfl ScS.nil) ?_
                refine rg ?_
                refine go (m_cS [] (F_remset_in_ok hv14) rfl ScS.nil) ?_ (gY (congrArg not h13))
                refine rg ?_
                refine go (m_cS [] (F_remset_compare_ok hv18) rfl ScS.nil) ?_ (gY (decide_eq_true h16))
                refine rg ?_
                refine .nil ⟨⟨by kernel_rfl, by kernel_rfl⟩, ?_⟩
                refine d_condA ?_
                refine d_rsA ?_
                refine d_ret ?_
                change RetD _ _ _ _ _ _ _
                have e := se H; subst e
                have e := hr9 _ rfl; subst e
                have e := hq5 _ rfl; subst e
                have e := hr2 _ rfl; subst e
                exact finE [] (.tmp (.nil))
              replace H := fs H; rcases H with ⟨h20, H⟩ | ⟨h20, H⟩
              ·
                refine d_as mixedP rfl (by kernel_rfl) ?_
                refine rg ?_
                refine go (m_cS [] (F_remset_in_ok hv12) rfl ScS.nil) ?_
                refine rg ?_
                refine go (m_cS [] (F_remset_in_ok hv14) rfl ScS.nil) ?_ (gY (congrArg not h13))
                refine rg ?_
                refine go (m_cS [] (F_remset_compare_ok hv18) rfl ScS.nil) ?_ (gY (decide_eq_true h16))
                refine rg ?_
                refine .nil ⟨⟨by kernel_rfl, by kernel_rfl⟩, ?_⟩
                refine d_condA ?_
                refine d_rsA ?_
                refine d_ret ?_
                change RetD _ _ _ _ _ _ _
                have e := se H; subst e
                have e := hr9 _ rfl; subst e
                have e := hq5 _ rfl; subst e
                have e := hr2 _ rfl; subst e
                exact finE [] (.tmp (.nil))
              replace H := ba H; obtain ⟨v21, hv21, H⟩ := H
              refine d_as mixedP rfl (by kernel_rfl) ?_
              refine rg ?_
              refine go (m_cS [] (F_remset_in_ok hv12) rfl ScS.nil) ?_
              refine rg ?_
              refine go (m_cS [] (F_remset_in_ok hv14) rfl ScS.nil) ?_ (gY (congrArg not h13))
              refine rg ?_
              refine go (m_cS [] (F_remset_compare_ok hv18) rfl ScS.nil) ?_ (gY (decide_eq_true h16))
              refine rg ?_
              refine .nil ⟨⟨by kernel_rfl, by kernel_rfl⟩, ?_⟩
              replace H := fs H; rcases H with ⟨h22, H⟩ | ⟨h22, H⟩
              ·
                refine d_condA ?_
                refine d_rsA ?_
                refine d_ret ?_
                change RetD _ _ _ _ _ _ _
                have e := se H; subst e
                have e := hr9 _ rfl; subst e
                have e := hq5 _ rfl; subst e
                have e := hr2 _ rfl; subst e
                exact finE [] (.tmp (.nil))
              refine d_condB ?_
              refine d_skip ?_
              refine k11 _ ?_
              refine d_rsA ?_
              refine d_block ?_
              refine d_loopS (fun (s24 : Int) => ⟨[(0, .sl (p0.map RSet.c)), (4, .ptr 0 0 0), (5, DI s24), (6, .sl (p0.map RSet.c)), (7, DI (p0.length : Int)), (8, DI s4)], [(0, ⟨3, false, false, [[DI v10.frm, DI v10.to, .sl (v10.slots.map iC)]]⟩)], 1⟩) H (wkE [(0, 0)]) (fun s24 y25 hq25 H => ?_)
              refine d_seq fun K k26 => ?_
              refine d_rsA ?_
              replace H := fs H; rcases H with ⟨h27, H⟩ | ⟨h27, H⟩
              ·
                refine d_condA ?_
                refine d_skip ?_
                refine k26 _ ?_
                refine d_seq fun K k28 => ?_
                refine d_block ?_
                replace H := ba H; obtain ⟨v29, hv29, H⟩ := H
                replace H := ba H; obtain ⟨v30, hv30, H⟩ := H
                refine d_asA ?_
                replace H := fs H; rcases H with ⟨h31, H⟩ | ⟨h31, H⟩
                ·
                  refine d_condA ?_
                  refine d_rsA ?_
                  refine d_ret ?_
                  change RetD _ _ _ _ _ _ _
                  have e := se H; subst e
                  have e := hq25 _ rfl; subst e
                  have e := hr9 _ rfl; subst e
                  have e := hq5 _ rfl; subst e
                  have e := hr2 _ rfl; subst e
                  exact finE [] (.tmp (.nil))
                refine d_condB ?_
                refine d_skip ?_
                refine k28 _ ?_
                refine d_regA ?_
                have e := se H; subst e
                exact ⟨_, rfl, wkE [(0, 0)]⟩
              refine d_condB ?_
              refine d_exit ?_
              have e := se H; subst e
              have e := hq25 _ rfl; subst e
              exact ⟨_, rfl, wkE []⟩
            replace H := fs H; rcases H with ⟨h32, H⟩ | ⟨h32, H⟩
            ·
              refine d_as mixedP rfl (by kernel_rfl) ?_
              refine rg ?_
              refine go (m_cS [] (F_remset_in_ok hv12) rfl ScS.nil) ?_
              refine rg ?_
              refine go (m_cS [] (F_remset_in_ok hv14) rfl ScS.nil) ?_ (gY (congrArg not h13))
              refine rg ?_
              refine .nil ⟨⟨by kernel_rfl, by kernel_rfl⟩, ?_⟩
              refine d_condA ?_
              refine d_rsA ?_
              refine d_ret ?_
              change RetD _ _ _ _ _ _ _
              have e := se H; subst e
              have e := hr9 _ rfl; subst e
              have e := hq5 _ rfl; subst e
              have e := hr2 _ rfl; subst e
              exact finE [] (.tmp (.nil))
            replace H := ba H; obtain ⟨v33, hv33, H⟩ := H
            refine d_as mixedP rfl (by kernel_rfl) ?_
            refine rg ?_
            refine go (m_cS [] (F_remset_in_ok hv12) rfl ScS.nil) ?_
            refine rg ?_
            refine go (m_cS [] (F_remset_in_ok hv14) rfl ScS.nil) ?_ (gY (congrArg not h13))
            refine rg ?_
            refine .nil ⟨⟨by kernel_rfl, by kernel_rfl⟩, ?_⟩
            replace H := fs H; rcases H with ⟨h34, H⟩ | ⟨h34, H⟩
            ·
              refine d_condA ?_
              refine d_rsA ?_
              refine d_ret ?_
              change RetD _ _ _ _ _ _ _
              have e := se H; subst e
              have e := hr9 _ rfl; subst e
              have e := hq5 _ rfl; subst e
              have e := hr2 _ rfl; subst e
              exact finE [] (.tmp (.nil))
            refine d_condB ?_
            refine d_skip ?_
            refine k11 _ ?_
            refine d_rsA ?_
            refine d_block ?_
            refine d_loopS (fun (s36 : Int) => ⟨[(0, .sl (p0.map RSet.c)), (4, .ptr 0 0 0), (5, DI s36), (6, .sl (p0.map RSet.c)), (7, DI (p0.length : Int)), (8, DI s4)], [(0, ⟨3, false, false, [[DI v10.frm, DI v10.to, .sl (v10.slots.map iC)]]⟩)], 1⟩) H (wkE [(0, 0)]) (fun s36 y37 hq37 H => ?_)
            refine d_seq fun K k38 => ?_
            refine d_rsA ?_
            replace H := fs H; rcases H with ⟨h39, H⟩ | ⟨h39, H⟩
            ·
              refine d_condA ?_
              refine d_skip ?_
              refine k38 _ ?_
              refine d_seq fun K k40 => ?_
              refine d_block ?_
              replace H := ba H; obtain ⟨v41, hv41, H⟩ := H
              replace H := ba H; obtain ⟨v42, hv42, H⟩ := H
              refine d_asA ?_
              replace H := fs H; rcases H with ⟨h43, H⟩ | ⟨h43, H⟩
              ·
                refine d_condA ?_
                refine d_rsA ?_
                refine d_ret ?_
                change RetD _ _ _ _ _ _ _
                have e := se H; subst e
                have e := hq37 _ rfl; subst e
                have e := hr9 _ rfl; subst e
                have e := hq5 _ rfl; subst e
                have e := hr2 _ rfl; subst e
                exact finE [] (.tmp (.nil))
              refine d_condB ?_
              refine d_skip ?_
              refine k40 _ ?_
              refine d_regA ?_
              have e := se H; subst e
              exact ⟨_, rfl, wkE [(0, 0)]⟩
            refine d_condB ?_
            refine d_exit ?_
            have e := se H; subst e
            have e := hq37 _ rfl; subst e
            exact ⟨_, rfl, wkE []⟩
          refine d_as mixedP rfl (by kernel_rfl) ?_
          refine rg ?_
          refine go (m_cS [] (F_remset_in_ok hv12) rfl ScS.nil) ?_
          refine rg ?_
          refine go (m_cS [] (F_remset_in_ok hv14) rfl ScS.nil) ?_ (gY (congrArg not h13))
          refine rg ?_
          refine .nil ⟨⟨by kernel_rfl, by kernel_rfl⟩, ?_⟩
          refine d_condA ?_
          refine d_rsA ?_
          refine d_ret ?_
          change RetD _ _ _ _ _ _ _
          have e := se H; subst e
          have e := hr9 _ rfl; subst e
          have e := hq5 _ rfl; subst e
          have e := hr2 _ rfl; subst e
          exact finE [] (.tmp (.nil))
        refine d_as mixedP rfl (by kernel_rfl) ?_
        refine rg ?_
        refine go (m_cS [] (F_remset_in_ok hv12) rfl ScS.nil) ?_
        refine rg ?_
        refine .nil ⟨⟨by kernel_rfl, by kernel_rfl⟩, ?_⟩
        refine d_condA ?_
        refine d_rsA ?_
        refine d_ret ?_
        change RetD _ _ _ _ _ _ _
        have e := se H; subst e
        have e := hr9 _ rfl; subst e
        have e := hq5 _ rfl; subst e
        have e := hr2 _ rfl; subst e
        exact finE [] (.tmp (.nil))
      refine d_regA ?_
      have e := se H; subst e
      exact ⟨_, rfl, wkE []⟩
    refine d_condB ?_
    refine d_exit ?_
    have e := se H; subst e
    have e := hq5 _ rfl; subst e
    exact ⟨_, rfl, wkE []⟩
  refine d_rsA ?_
  refine d_ret ?_
  change RetD _ _ _ _ _ _ _
  have e := se H; subst e
  exact finE [] (.tmp (.nil))

noncomputable def F_barrier_pair (p0 : Sp) (p1 : Int) (p2 : Int) : Option (Int × Int × Bool) :=
 if p2 = 0 then
 (some ((0, 0, false)))
 else
 if (wu (p0.ws.length : Int)) < p2 then
 (some ((0, 0, false)))
 else
 if p1 < 0 then
 (some ((0, 0, false)))
 else
 if (p0.ws.length : Int) ≤ p1 then
 (some ((0, 0, false)))
 else
 if 0 ≤ wu p0.sh then
 some ((shrN .i64 p1 (wu p0.sh), shrN .i64 (w64 (wu (p2 - 1))) (wu p0.sh), true))
 else none

set_option maxRecDepth 20000 in
set_option maxHeartbeats 4000000 in
theorem F_barrier_pair_ok {p0 : Sp} {p1 : Int} {p2 : Int} {r : Int × Int × Bool} (H : Sm (F_barrier_pair p0 p1 p2) r) : DCall Try.prog 24 [.agg [DI p0.sh, .sl (p0.ws.map uC), .sl (p0.fs.map frC)], DI p1, DU p2] [] (.tup [DI r.1, DI r.2.1, DB r.2.2]) [] := by
  unfold F_barrier_pair at H
  refine DCall.mk Try.func24 rfl rfl ?_
  refine d_rsA ?_
  refine d_seq fun K k1 => ?_
  replace H := fs H; rcases H with ⟨h2, H⟩ | ⟨h2, H⟩
  ·
    refine d_rsA ?_
    refine d_condA ?_
    refine d_rsA ?_
    refine d_ret ?_
    change RetD _ _ _ _ _ _ _
    have e := se H; subst e
    exact finE [] (.tmp (.tmp (.tmp (.nil))))
  replace H := fs H; rcases H with ⟨h3, H⟩ | ⟨h3, H⟩
  ·
    refine d_rsA ?_
    refine d_condA ?_
    refine d_rsA ?_
    refine d_ret ?_
    change RetD _ _ _ _ _ _ _
    have e := se H; subst e
    exact finE [] (.tmp (.tmp (.tmp (.nil))))
  replace H := fs H; rcases H with ⟨h4, H⟩ | ⟨h4, H⟩
  ·
    refine d_rsA ?_
    refine d_condA ?_
    refine d_rsA ?_
    refine d_ret ?_
    change RetD _ _ _ _ _ _ _
    have e := se H; subst e
    exact finE [] (.tmp (.tmp (.tmp (.nil))))
  refine d_rsA ?_
  replace H := fs H; rcases H with ⟨h5, H⟩ | ⟨h5, H⟩
  ·
    refine d_condA ?_
    refine d_rsA ?_
    refine d_ret ?_
    change RetD _ _ _ _ _ _ _
    have e := se H; subst e
    exact finE [] (.tmp (.tmp (.tmp (.nil))))
  refine d_condB ?_
  refine d_skip ?_
  refine k1 _ ?_
  replace H := cq H; obtain ⟨h6, H⟩ := H
  refine d_asA ?_
  refine d_ret ?_
  change RetD _ _ _ _ _ _ _
  have e := se H; subst e
  exact finE [] (.tmp (.tmp (.tmp (.nil))))

noncomputable def F_barrier_Needs (p0 : Sp) (p1 : Int) (p2 : Int) : Option Bool :=
 (F_barrier_pair p0 p1 p2).bind fun v1 =>
 if v1.2.2 = true then
 ((at_ p0.fs v1.1).bind fun v3 =>
 if v3.ow = (-1) then
 (some (false))
 else
 (at_ p0.fs v1.2.1).bind fun v5 =>
 if v5.ow = (-1) then
 (some (false))
 else
 some (decide (v5.st < v3.st)))
 else
 some (false)

set_option maxRecDepth 20000 in
set_option maxHeartbeats 4000000 in
theorem F_barrier_Needs_ok {p0 : Sp} {p1 : Int} {p2 : Int} {r : Bool} (H : Sm (F_barrier_Needs p0 p1 p2) r) : DCall Try.prog 12 [.agg [DI p0.sh, .sl (p0.ws.map uC), .sl (p0.fs.map frC)], DI p1, DU p2] [] (DB r) [] := by
  unfold F_barrier_Needs at H
  refine DCall.mk Try.func12 rfl rfl ?_
  refine d_rsA ?_
  replace H := bd H; obtain ⟨v1, hv1, H⟩ := H
  refine d_rs rfl ?_
  refine rg ?_
  refine go (m_cS [] (F_barrier_pair_ok hv1) rfl ScS.nil) ?_
  refine rg ?_
  refine .nil ⟨by kernel_rfl, ?_⟩
  replace H := fs H; rcases H with ⟨h2, H⟩ | ⟨h2, H⟩
  ·
    replace H := ba H; obtain ⟨v3, hv3, H⟩ := H
    replace H := fs H; rcases H with ⟨h4, H⟩ | ⟨h4, H⟩
    ·
      refine d_asA ?_
      refine d_ret ?_
      change RetD _ _ _ _ _ _ _
      have e := se H; subst e
      exact finE [] (.tmp (.nil))
    replace H := ba H; obtain ⟨v5, hv5, H⟩ := H
    replace H := fs H; rcases H with ⟨h6, H⟩ | ⟨h6, H⟩
    ·
      refine d_asA ?_
      refine d_ret ?_
      change RetD _ _ _ _ _ _ _
      have e := se H; subst e
      exact finE [] (.tmp (.nil))
    refine d_asA ?_
    refine d_ret ?_
    change RetD _ _ _ _ _ _ _
    have e := se H; subst e
    exact finE [] (.tmp (.nil))
  refine d_asA ?_
  refine d_ret ?_
  change RetD _ _ _ _ _ _ _
  have e := se H; subst e
  exact finE [] (.tmp (.nil))

noncomputable def F_clone_Sets (p0 : List RSet) : Option (List RSet) :=
 (loopO (fun (s5 : List RSet × Int) =>
 if s5.2 < (p0.length : Int) then
 ((at_ p0 s5.2).bind fun v10 =>
 if (v10.slots.length : Int) * 8 ≤ 140737488355328 ∧ (v10.slots.length : Int) ≤ 9223372036854775807 then
 if ((s5.1.length : Int) + 1) * 40 ≤ 140737488355328 ∧ (s5.1.length : Int) + 1 ≤ 9223372036854775807 then
 some (.go ((s5.1 ++ [v10], w64 (s5.2 + 1))))
 else none
 else none)
 else
 some (.out (s5.1))) (([] : List RSet), 0)).bind fun (b1 : List RSet) =>
 some (b1)

set_option maxRecDepth 20000 in
set_option maxHeartbeats 4000000 in
theorem F_clone_Sets_ok {p0 : List RSet} {r : List RSet} (H : Sm (F_clone_Sets p0) r) : DCall Try.prog 29 [.sl (p0.map RSet.c)] [] (.own 0 0 r.length) [(0, ⟨3, false, false, r.map RSet.d⟩)] := by
  unfold F_clone_Sets at H
  refine DCall.mk Try.func29 rfl rfl ?_
  refine d_rsA ?_
  refine d_rsA ?_
  refine d_cutS (fun (b1 : List RSet) => ⟨[(3, .own 0 0 b1.length)], [(0, ⟨3, false, false, b1.map RSet.d⟩)], 1⟩) H (fun z2 H => ?_) (fun b1 H => ?_)
  ·
    refine d_rsA ?_
    refine d_block ?_
    refine d_nil 3 3 (by decide) rfl ?_
    refine d_weak (unarrN (cd := RSet.d) (s := 0) rfl) ?_
    refine d_loopS (fun (s5 : List RSet × Int) => ⟨[(3, .own 0 0 s5.1.length), (6, .sl (p0.map RSet.c)), (7, DI (p0.length : Int)), (8, DI s5.2)], [(0, ⟨3, false, false, s5.1.map RSet.d⟩)], 1⟩) H (wkE [(0, 0)]) (fun s5 y6 hq6 H => ?_)
    refine d_rsA ?_
    refine d_seq fun K k7 => ?_
    replace H := fs H; rcases H with ⟨h8, H⟩ | ⟨h8, H⟩
    ·
      refine d_condA ?_
      refine d_skip ?_
      refine k7 _ ?_
      refine d_seq fun K k9 => ?_
      refine d_block ?_
      replace H := ba H; obtain ⟨v10, hv10, H⟩ := H
      refine d_rsA ?_
      replace H := cq H; obtain ⟨h11, H⟩ := H
      replace H := cq H; obtain ⟨h12, H⟩ := H
      refine d_any mixedP rfl (by kernel_rfl) ?_
      refine rg ?_
      refine go (m_apN (c := iC) v10.slots h11 i27.ok i3.ok rfl (.sl rfl (all_len (c := iC) (fun _ => rfl) _))) ?_
      refine rg ?_
      refine go (m_litD [[DI v10.frm, DI v10.to, .own 2 0 v10.slots.length]] i26.ok i57.ok) ?_
      refine go (m_apD (cd := RSet.d) s5.1 [DI v10.frm, DI v10.to, .own 2 0 v10.slots.length] h12 i26.ok i57.ok rfl rfl (by first | rfl | omega | (simp; done) | (simp; omega)) rfl rfl rfl) ?_
      refine rg ?_
      refine .nil ⟨⟨by kernel_rfl, by kernel_rfl⟩, ?_⟩
      refine k9 _ ?_
      refine d_regA ?_
      have e := se H; subst e
      exact ⟨_, rfl, Weak.trans (attL (s := 4) (t := 2) (j := 2) (c := iC) [DI v10.frm, DI v10.to, .dp 1 (v10.slots.map iC)] rfl rfl rfl rfl rfl rfl) (Weak.trans (tellL (s := 4) v10 rfl rfl) (wkE [(0, 4)]))⟩
    refine d_condB ?_
    refine d_exit ?_
    have e := se H; subst e
    have e := hq6 _ rfl; subst e
    exact wkE [(0, 0)]
  refine d_rsA ?_
  refine d_ret ?_
  change RetD _ _ _ _ _ _ _
  have e := se H; subst e
  exact finE [(0, 0)] (.tmp (.nil))

noncomputable def F_slices_Set_ (p0 : List RSet) (p1 : RSet) : Option (Int × Bool) :=
 (loopO (fun (s4 : Int × Int) =>
 if s4.1 < s4.2 then
 ((at_ p0 (w64 (shrN .u64 (wu (w64 (s4.1 + s4.2))) 1))).bind fun v8 =>
 (F_remset_compare v8 p1).bind fun v9 =>
 if v9 < 0 then
 (some (.go ((w64 ((w64 (shrN .u64 (wu (w64 (s4.1 + s4.2))) 1)) + 1), s4.2))))
 else
 some (.go ((s4.1, w64 (shrN .u64 (wu (w64 (s4.1 + s4.2))) 1)))))
 else
 some (.out (s4.1))) (0, (p0.length : Int))).bind fun (b1 : Int) =>
 if b1 < (p0.length : Int) then
 ((at_ p0 b1).bind fun v12 =>
 (F_remset_compare v12 p1).bind fun v13 =>
 some ((b1, decide (v13 = 0))))
 else
 some ((b1, false))

set_option maxRecDepth 20000 in
set_option maxHeartbeats 4000000 in
theorem F_slices_Set__ok {p0 : List RSet} {p1 : RSet} {r : Int × Bool} (H : Sm (F_slices_Set_ p0 p1) r) : DCall Try.prog 58 [.sl (p0.map RSet.c), .agg [DI p1.frm, DI p1.to, .sl (p1.slots.map iC)], .lit (.func (.func 47) #[] #[])] [] (.tup [DI r.1, DB r.2]) [] := by
  unfold F_slices_Set_ at H
  refine DCall.mk Try.func58 rfl rfl ?_
  refine d_rsA ?_
  refine d_rsA ?_
  refine d_rsA ?_
  refine d_cutS (fun (b1 : Int) => ⟨[(0, .sl (p0.map RSet.c)), (2, .lit (.func (.func 47) #[] #[])), (4, .ptr 0 0 0), (8, DI (p0.length : Int)), (9, DI b1)], [(0, ⟨3, false, false, [[DI p1.frm, DI p1.to, .sl (p1.slots.map iC)]]⟩)], 1⟩) H (fun z2 H => ?_) (fun b1 H => ?_)
  ·
    refine d_block ?_
    refine d_loopS (fun (s4 : Int × Int) => ⟨[(0, .sl (p0.map RSet.c)), (2, .lit (.func (.func 47) #[] #[])), (4, .ptr 0 0 0), (8, DI (p0.length : Int)), (9, DI s4.1), (10, DI s4.2)], [(0, ⟨3, false, false, [[DI p1.frm, DI p1.to, .sl (p1.slots.map iC)]]⟩)], 1⟩) H (wkE [(0, 0)]) (fun s4 y5 hq5 H => ?_)
    refine d_seq fun K k6 => ?_
    refine d_rsA ?_
    replace H := fs H; rcases H with ⟨h7, H⟩ | ⟨h7, H⟩
    ·
      refine d_condA ?_
      refine d_skip ?_
      refine k6 _ ?_
      refine d_block ?_
      refine d_rsA ?_
      replace H := ba H; obtain ⟨v8, hv8, H⟩ := H
      replace H := bd H; obtain ⟨v9, hv9, H⟩ := H
      refine d_as mixedP rfl (by kernel_rfl) ?_
      refine rg ?_
      refine go (m_cS [] (F_remset_compare_ok hv9) rfl ScS.nil) ?_
      refine rg ?_
      refine .nil ⟨⟨by kernel_rfl, by kernel_rfl⟩, ?_⟩
      replace H := fs H; rcases H with ⟨h10, H⟩ | ⟨h10, H⟩
      ·
        refine d_condA ?_
        refine d_regA ?_
        have e := se H; subst e
        exact ⟨_, rfl, wkE [(0, 0)]⟩
      refine d_condB ?_
      refine d_regA ?_
      have e := se H; subst e
      exact ⟨_, rfl, wkE [(0, 0)]⟩
    refine d_condB ?_
    refine d_exit ?_
    have e := se H; subst e
    have e := hq5 _ rfl; subst e
    exact wkE [(0, 0)]
  replace H := fs H; rcases H with ⟨h11, H⟩ | ⟨h11, H⟩
  ·
    replace H := ba H; obtain ⟨v12, hv12, H⟩ := H
    replace H := bd H; obtain ⟨v13, hv13, H⟩ := H
    refine d_as mixedP rfl (by kernel_rfl) ?_
    refine rg ?_
    refine go (m_cS [] (F_remset_compare_ok hv13) rfl ScS.nil) ?_ (gY (decide_eq_true h11))
    refine rg ?_
    refine .nil ⟨⟨by kernel_rfl, by kernel_rfl⟩, ?_⟩
    refine d_ret ?_
    change RetD _ _ _ _ _ _ _
    have e := se H; subst e
    exact finE [] (.tmp (.tmp (.nil)))
  refine d_asA ?_
  refine d_ret ?_
  change RetD _ _ _ _ _ _ _
  have e := se H; subst e
  exact finE [] (.tmp (.tmp (.nil)))

noncomputable def F_remset_find (p0 : List RSet) (p1 : Int) (p2 : Int) : Option (Int × Bool) :=
 (F_slices_Set_ p0 (RSet.mk p1 p2 ([] : List Int))).bind fun v1 =>
 some ((v1.1, v1.2))

set_option maxRecDepth 20000 in
set_option maxHeartbeats 4000000 in
theorem F_remset_find_ok {p0 : List RSet} {p1 : Int} {p2 : Int} {r : Int × Bool} (H : Sm (F_remset_find p0 p1 p2) r) : DCall Try.prog 48 [.sl (p0.map RSet.c), DI p1, DI p2] [] (.tup [DI r.1, DB r.2]) [] := by
  unfold F_remset_find at H
  refine DCall.mk Try.func48 rfl rfl ?_
  refine d_rsA ?_
  replace H := bd H; obtain ⟨v1, hv1, H⟩ := H
  refine d_rs rfl ?_
  refine rg ?_
  refine go (m_cS [] (F_slices_Set__ok hv1) rfl ScS.nil) ?_
  refine rg ?_
  refine .nil ⟨by kernel_rfl, ?_⟩
  refine d_ret ?_
  change RetD _ _ _ _ _ _ _
  have e := se H; subst e
  exact finE [] (.tmp (.tmp (.nil)))

noncomputable def F_cmp_isNaN_int_ (p0 : Int) : Option Bool :=
 some (!(decide (p0 = p0)))

set_option maxRecDepth 20000 in
set_option maxHeartbeats 4000000 in
theorem F_cmp_isNaN_int__ok {p0 : Int} {r : Bool} (H : Sm (F_cmp_isNaN_int_ p0) r) : DCall Try.prog 71 [DI p0] [] (DB r) [] := by
  unfold F_cmp_isNaN_int_ at H
  refine DCall.mk Try.func71 rfl rfl ?_
  refine d_rsA ?_
  refine d_rsA ?_
  refine d_ret ?_
  change RetD _ _ _ _ _ _ _
  have e := se H; subst e
  exact finE [] (.tmp (.nil))

noncomputable def F_cmp_Less_int_ (p0 : Int) (p1 : Int) : Option Bool :=
 (F_cmp_isNaN_int_ p0).bind fun v1 =>
 if v1 = true then
 ((F_cmp_isNaN_int_ p1).bind fun v3 =>
 if v3 = true then
 (some (decide (p0 < p1)))
 else
 some (true))
 else
 some (decide (p0 < p1))

set_option maxRecDepth 20000 in
set_option maxHeartbeats 4000000 in
theorem F_cmp_Less_int__ok {p0 : Int} {p1 : Int} {r : Bool} (H : Sm (F_cmp_Less_int_ p0 p1) r) : DCall Try.prog 61 [DI p0, DI p1] [] (DB r) [] := by
  unfold F_cmp_Less_int_ at H
  refine DCall.mk Try.func61 rfl rfl ?_
  refine d_rsA ?_
  replace H := bd H; obtain ⟨v1, hv1, H⟩ := H
  replace H := fs H; rcases H with ⟨h2, H⟩ | ⟨h2, H⟩
  ·
    replace H := bd H; obtain ⟨v3, hv3, H⟩ := H
    replace H := fs H; rcases H with ⟨h4, H⟩ | ⟨h4, H⟩
    ·
      refine d_rs rfl ?_
      refine rg ?_
      refine go (m_cS [] (F_cmp_isNaN_int__ok hv1) rfl ScS.nil) ?_
      refine rg ?_
      refine go (m_cS [] (F_cmp_isNaN_int__ok hv3) rfl ScS.nil) ?_ (gY h2)
      refine rg ?_
      refine .nil ⟨by kernel_rfl, ?_⟩
      refine d_ret ?_
      change RetD _ _ _ _ _ _ _
      have e := se H; subst e
      exact finE [] (.tmp (.nil))
    refine d_rs rfl ?_
    refine rg ?_
    refine go (m_cS [] (F_cmp_isNaN_int__ok hv1) rfl ScS.nil) ?_
    refine rg ?_
    refine go (m_cS [] (F_cmp_isNaN_int__ok hv3) rfl ScS.nil) ?_ (gY h2)
    refine rg ?_
    refine .nil ⟨by kernel_rfl, ?_⟩
    refine d_ret ?_
    change RetD _ _ _ _ _ _ _
    have e := se H; subst e
    exact finE [] (.tmp (.nil))
  refine d_rs rfl ?_
  refine rg ?_
  refine go (m_cS [] (F_cmp_isNaN_int__ok hv1) rfl ScS.nil) ?_
  refine rg ?_
  refine .nil ⟨by kernel_rfl, ?_⟩
  refine d_ret ?_
  change RetD _ _ _ _ _ _ _
  have e := se H; subst e
  exact finE [] (.tmp (.nil))

noncomputable def F_slices_isNaN_int_ (p0 : Int) : Option Bool :=
 some (!(decide (p0 = p0)))

set_option maxRecDepth 20000 in
set_option maxHeartbeats 4000000 in
theorem F_slices_isNaN_int__ok {p0 : Int} {r : Bool} (H : Sm (F_slices_isNaN_int_ p0) r) : DCall Try.prog 62 [DI p0] [] (DB r) [] := by
  unfold F_slices_isNaN_int_ at H
  refine DCall.mk Try.func62 rfl rfl ?_
  refine d_rsA ?_
  refine d_rsA ?_
  refine d_ret ?_
  change RetD _ _ _ _ _ _ _
  have e := se H; subst e
  exact finE [] (.tmp (.nil))

noncomputable def F_slices_BinarySearch___int_int_ (p0 : List Int) (p1 : Int) : Option (Int × Bool) :=
 (loopO (fun (s4 : Int × Int) =>
 if s4.1 < s4.2 then
 ((at_ p0 (w64 (shrN .u64 (wu (w64 (s4.1 + s4.2))) 1))).bind fun v8 =>
 (F_cmp_Less_int_ v8 p1).bind fun v9 =>
 if v9 = true then
 (some (.go ((w64 ((w64 (shrN .u64 (wu (w64 (s4.1 + s4.2))) 1)) + 1), s4.2))))
 else
 some (.go ((s4.1, w64 (shrN .u64 (wu (w64 (s4.1 + s4.2))) 1)))))
 else
 some (.out (s4.1))) (0, (p0.length : Int))).bind fun (b1 : Int) =>
 if b1 < (p0.length : Int) then
 ((at_ p0 b1).bind fun v12 =>
 if v12 = p1 then
 (some ((b1, true)))
 else
 (F_slices_isNaN_int_ v12).bind fun v14 =>
 if v14 = true then
 ((F_slices_isNaN_int_ p1).bind fun v16 =>
 some ((b1, v16)))
 else
 some ((b1, false)))
 else
 some ((b1, false))

set_option maxRecDepth 20000 in
set_option maxHeartbeats 4000000 in
theorem F_slices_BinarySearch___int_int__ok {p0 : List Int} {p1 : Int} {r : Int × Bool} (H : Sm (F_slices_BinarySearch___int_int_ p0 p1) r) : DCall Try.prog 50 [.sl (p0.map iC), DI p1] [] (.tup [DI r.1, DB r.2]) [] := by
  unfold F_slices_BinarySearch___int_int_ at H
  refine DCall.mk Try.func50 rfl rfl ?_
  refine d_rsA ?_
  refine d_rsA ?_
  refine d_rsA ?_
  refine d_cutS (fun (b1 : Int) => ⟨[(0, .sl (p0.map iC)), (1, DI p1), (6, DI (p0.length : Int)), (7, DI b1)], [], 0⟩) H (fun z2 H => ?_) (fun b1 H => ?_)
  ·
    refine d_block ?_
    refine d_loopS (fun (s4 : Int × Int) => ⟨[(0, .sl (p0.map iC)), (1, DI p1), (6, DI (p0.length : Int)), (7, DI s4.1), (8, DI s4.2)], [], 0⟩) H (wkE []) (fun s4 y5 hq5 H => ?_)
    refine d_seq fun K k6 => ?_
    refine d_rsA ?_
    replace H := fs H; rcases H with ⟨h7, H⟩ | ⟨h7, H⟩
    ·
      refine d_condA ?_
      refine d_skip ?_
      refine k6 _ ?_
      refine d_block ?_
      refine d_rsA ?_
      replace H := ba H; obtain ⟨v8, hv8, H⟩ := H
      replace H := bd H; obtain ⟨v9, hv9, H⟩ := H
      refine d_rs rfl ?_
      refine rg ?_
      refine go (m_cS [] (F_cmp_Less_int__ok hv9) rfl ScS.nil) ?_
      refine .nil ⟨by kernel_rfl, ?_⟩
      replace H := fs H; rcases H with ⟨h10, H⟩ | ⟨h10, H⟩
      ·
        refine d_condA ?_
        refine d_regA ?_
        have e := se H; subst e
        exact ⟨_, rfl, wkE []⟩
      refine d_condB ?_
      refine d_regA ?_
      have e := se H; subst e
      exact ⟨_, rfl, wkE []⟩
    refine d_condB ?_
    refine d_exit ?_
    have e := se H; subst e
    have e := hq5 _ rfl; subst e
    exact wkE []
  replace H := fs H; rcases H with ⟨h11, H⟩ | ⟨h11, H⟩
  ·
    replace H := ba H; obtain ⟨v12, hv12, H⟩ := H
    replace H := fs H; rcases H with ⟨h13, H⟩ | ⟨h13, H⟩
    ·
      refine d_rsA ?_
      refine d_ret ?_
      change RetD _ _ _ _ _ _ _
      have e := se H; subst e
      exact finE [] (.tmp (.tmp (.nil)))
    replace H := bd H; obtain ⟨v14, hv14, H⟩ := H
    replace H := fs H; rcases H with ⟨h15, H⟩ | ⟨h15, H⟩
    ·
      replace H := bd H; obtain ⟨v16, hv16, H⟩ := H
      refine d_rs rfl ?_
      refine rg ?_
      refine go (m_cS [] (F_slices_isNaN_int__ok hv14) rfl ScS.nil) ?_ (gY (decide_eq_false h13))
      refine rg ?_
      refine go (m_cS [] (F_slices_isNaN_int__ok hv16) rfl ScS.nil) ?_ (gY h15)
      refine rg ?_
      refine .nil ⟨by kernel_rfl, ?_⟩
      refine d_ret ?_
      change RetD _ _ _ _ _ _ _
      have e := se H; subst e
      exact finE [] (.tmp (.tmp (.nil)))
    refine d_rs rfl ?_
    refine rg ?_
    refine go (m_cS [] (F_slices_isNaN_int__ok hv14) rfl ScS.nil) ?_ (gY (decide_eq_false h13))
    refine rg ?_
    refine .nil ⟨by kernel_rfl, ?_⟩
    refine d_ret ?_
    change RetD _ _ _ _ _ _ _
    have e := se H; subst e
    exact finE [] (.tmp (.tmp (.nil)))
  refine d_rsA ?_
  refine d_ret ?_
  change RetD _ _ _ _ _ _ _
  have e := se H; subst e
  exact finE [] (.tmp (.tmp (.nil)))

noncomputable def F_remset_Insert (p0 : List RSet) (p1 : Int) (p2 : Int) (p3 : Int) : Option (List RSet × Int) :=
 (F_remset_Valid p0).bind fun v2 =>
 if v2 = true then
 ((F_remset_in p1).bind fun v4 =>
 if v4 = true then
 ((F_remset_in p2).bind fun v6 =>
 if v6 = true then
 (if p3 < 0 then
 (some ((([] : List RSet), 1)))
 else
 (F_clone_Sets p0).bind fun v9 =>
 (F_remset_find v9 p1 p2).bind fun v10 =>
 if v10.2 = true then
 ((at_ v9 v10.1).bind fun v14 =>
 (F_slices_BinarySearch___int_int_ v14.slots p3).bind fun v15 =>
 if v15.2 = true then
 (some ((v9, 0)))
 else
 (F_slices_Insert_I v14.slots v15.1 [p3]).bind fun v17 =>
 some ((v9.set (Int.toNat v10.1) (RSet.mk v14.frm v14.to v17), 0)))
 else
 (insF 40 v9 v10.1 [RSet.mk p1 p2 [p3]]).bind fun v18 =>
 some ((v18, 0)))
 else
 some ((([] : List RSet), 1)))
 else
 some ((([] : List RSet), 1)))
 else
 some ((([] : List RSet), 1))

set_option maxRecDepth 20000 in
set_option maxHeartbeats 4000000 in
theorem F_remset_Insert_ok {p0 : List RSet} {p1 : Int} {p2 : Int} {p3 : Int} {r : List RSet × Int} (H : Sm (F_remset_Insert p0 p1 p2 p3) r) : DCall Try.prog 30 [.sl (p0.map RSet.c), DI p1, DI p2, DI p3] [] (.tup [.own 0 0 r.1.length, DI r.2]) [(0, ⟨3, true, false, r.1.map RSet.c⟩)] := by
  unfold F_remset_Insert at H
  refine DCall.mk Try.func30 rfl rfl ?_
  refine d_rsA ?_
  refine d_seq fun K k1 => ?_
  replace H := bd H; obtain ⟨v2, hv2, H⟩ := H
  replace H := fs H; rcases H with ⟨h3, H⟩ | ⟨h3, H⟩
  ·
    replace H := bd H; obtain ⟨v4, hv4, H⟩ := H
    replace H := fs H; rcases H with ⟨h5, H⟩ | ⟨h5, H⟩
    ·
      replace H := bd H; obtain ⟨v6, hv6, H⟩ := H
      replace H := fs H; rcases H with ⟨h7, H⟩ | ⟨h7, H⟩
      ·
        refine d_rs rfl ?_
        refine rg ?_
        refine go (m_cS [] (F_remset_Valid_ok hv2) rfl ScS.nil) ?_
        refine rg ?_
        refine go (m_cS [] (F_remset_in_ok hv4) rfl ScS.nil) ?_ (gY (congrArg not h3))
        refine rg ?_
        refine go (m_cS [] (F_remset_in_ok hv6) rfl ScS.nil) ?_ (gY (congrArg not h5))
        refine rg ?_
        refine .nil ⟨by kernel_rfl, ?_⟩
        replace H := fs H; rcases H with ⟨h8, H⟩ | ⟨h8, H⟩
        ·
          refine d_condA ?_
          refine d_rsA ?_
          refine d_nil 8 3 (by decide) rfl ?_
          refine d_ret ?_
          change RetD _ _ _ _ _ _ _
          have e := se H; subst e
          exact finE [(0, 0)] (.tmp (.tmp (.nil)))
        refine d_condB ?_
        refine d_skip ?_
        refine k1 _ ?_
        replace H := bd H; obtain ⟨v9, hv9, H⟩ := H
        refine d_rs rfl ?_
        refine rg ?_
        refine go (m_cG [] (F_clone_Sets_ok hv9)) ?_
        refine rg ?_
        refine .nil ⟨by kernel_rfl, ?_⟩
        refine d_weak (tellC (s := 0) (xs := v9) (cd := RSet.d) rfl (fun _ => rfl)) ?_
        replace H := bd H; obtain ⟨v10, hv10, H⟩ := H
        refine d_rs rfl ?_
        refine rg ?_
        refine go (m_cS [] (F_remset_find_ok hv10) rfl ScS.nil) ?_
        refine rg ?_
        refine .nil ⟨by kernel_rfl, ?_⟩
        refine d_seq fun K k11 => ?_
        refine d_rsA ?_
        replace H := fs H; rcases H with ⟨h12, H⟩ | ⟨h12, H⟩
        ·
          refine d_condB ?_
          refine d_skip ?_
          refine k11 _ ?_
          refine d_seq fun K k13 => ?_
          replace H := ba H; obtain ⟨v14, hv14, H⟩ := H
          replace H := bd H; obtain ⟨v15, hv15, H⟩ := H
          refine d_rs rfl ?_
          refine rg ?_
          refine go (m_ldD (j := 2) (c := iC) (ys := v14.slots) hv14 [DI v14.frm, DI v14.to, .own 1 0 v14.slots.length] i27.ok rfl rfl) ?_
          refine rg ?_
          refine go (m_cS [] (F_slices_BinarySearch___int_int__ok hv15) rfl ScS.nil) ?_
          refine rg ?_
          refine .nil ⟨by kernel_rfl, ?_⟩
          refine d_weak (attR (s := 0) (t := 1) (j := 2) (c := iC) hv14 [DI v14.frm, DI v14.to, .dp 1 (v14.slots.map iC)] rfl rfl rfl rfl rfl rfl) ?_
          refine d_weak (tellS (s := 0) hv14 rfl rfl) ?_
          refine d_rsA ?_
          replace H := fs H; rcases H with ⟨h16, H⟩ | ⟨h16, H⟩
          ·
            refine d_condB ?_
            refine d_skip ?_
            refine k13 _ ?_
            refine d_rsA ?_
            refine d_weak (Weak.flat (s := 0) (c := RSet.c) rfl (fun _ => rfl) (fun _ => rfl)) ?_
            refine d_ret ?_
            change RetD _ _ _ _ _ _ _
            have e := se H; subst e
            exact finE [(0, 0)] (.tmp (.tmp (.nil)))
          refine d_condA ?_
          replace H := bd H; obtain ⟨v17, hv17, H⟩ := H
          refine d_region rfl ?_
          refine rg ?_
          refine go (m_ldD (j := 2) (c := iC) (ys := v14.slots) hv14 [DI v14.frm, DI v14.to, .own 2 0 v14.slots.length] i27.ok rfl rfl) ?_
          refine rg ?_
          refine go (m_litE (c := iC) ([p3] : List Int) i27.ok i3.ok) ?_
          refine go (m_cS [(0, 2), (1, 3)] (F_slices_Insert_I_ok hv17) rfl (ScS.cons (scC (fun _ => rfl)) ScS.nil)) ?_
          refine go ((m_iaO hv14.h i26.ok i57.ok rfl rfl rfl)) ?_
          refine rg ?_
          refine go (m_stR hv14 [DI v14.frm, DI v14.to, .own 4 0 v17.length] (.inr rfl) i27.ok) ?_
          refine .nil ⟨by kernel_rfl, ?_⟩
          refine k13 _ ?_
          refine d_rsA ?_
          refine d_weak (attR (s := 0) (t := 4) (j := 2) (c := iC) hv14 [DI v14.frm, DI v14.to, .dp 1 (v17.map iC)] rfl rfl rfl rfl rfl rfl) ?_
          refine d_weak (tellR (s := 0) (RSet.mk v14.frm v14.to v17) rfl rfl) ?_
          refine d_weak (Weak.flat (s := 0) (c := RSet.c) rfl (fun _ => rfl) (fun _ => rfl)) ?_
          refine d_ret ?_
          change RetD _ _ _ _ _ _ _
          have e := se H; subst e
          exact finE [(0, 0)] (.tmp (.tmp (.nil)))
        refine d_condA ?_
        refine d_weak (Weak.flat (s := 0) (c := RSet.c) rfl (fun _ => rfl) (fun _ => rfl)) ?_
        replace H := bd H; obtain ⟨v18, hv18, H⟩ := H
        refine d_rs rfl ?_
        refine rg ?_
        refine go (m_litE (c := iC) ([p3] : List Int) i27.ok i3.ok) ?_
        refine rg ?_
        refine go (m_litE (c := RSet.c) ([RSet.mk p1 p2 [p3]] : List RSet) i26.ok i57.ok) ?_
        refine go (m_cG [(0, 0), (1, 2)] (F_slices_Insert_S_ok (fun _ => rfl) hv18)) ?_
        refine rg ?_
        refine .nil ⟨by kernel_rfl, ?_⟩
        refine d_ret ?_
        change RetD _ _ _ _ _ _ _
        have e := se H; subst e
        exact finE [(0, 3)] (.tmp (.tmp (.nil)))
      refine d_rs rfl ?_
      refine rg ?_
      refine go (m_cS [] (F_remset_Valid_ok hv2) rfl ScS.nil) ?_
      refine rg ?_
      refine go (m_cS [] (F_remset_in_ok hv4) rfl ScS.nil) ?_ (gY (congrArg not h3))
      refine rg ?_
      refine go (m_cS [] (F_remset_in_ok hv6) rfl ScS.nil) ?_ (gY (congrArg not h5))
      refine rg ?_
      refine .nil ⟨by kernel_rfl, ?_⟩
      refine d_condA ?_
      refine d_rsA ?_
      refine d_nil 8 3 (by decide) rfl ?_
      refine d_ret ?_
      change RetD _ _ _ _ _ _ _
      have e := se H; subst e
      exact finE [(0, 0)] (.tmp (.tmp (.nil)))
    refine d_rs rfl ?_
    refine rg ?_
    refine go (m_cS [] (F_remset_Valid_ok hv2) rfl ScS.nil) ?_
    refine rg ?_
    refine go (m_cS [] (F_remset_in_ok hv4) rfl ScS.nil) ?_ (gY (congrArg not h3))
    refine rg ?_
    refine .nil ⟨by kernel_rfl, ?_⟩
    refine d_condA ?_
    refine d_rsA ?_
    refine d_nil 8 3 (by decide) rfl ?_
    refine d_ret ?_
    change RetD _ _ _ _ _ _ _
    have e := se H; subst e
    exact finE [(0, 0)] (.tmp (.tmp (.nil)))
  refine d_rs rfl ?_
  refine rg ?_
  refine go (m_cS [] (F_remset_Valid_ok hv2) rfl ScS.nil) ?_
  refine rg ?_
  refine .nil ⟨by kernel_rfl, ?_⟩
  refine d_condA ?_
  refine d_rsA ?_
  refine d_nil 8 3 (by decide) rfl ?_
  refine d_ret ?_
  change RetD _ _ _ _ _ _ _
  have e := se H; subst e
  exact finE [(0, 0)] (.tmp (.tmp (.nil)))

noncomputable def F_barrier_Record (p0 : Sp) (p1 : List RSet) (p2 : Int) (p3 : Int) : Option (List RSet × Int) :=
 (F_frame_Valid p0).bind fun v2 =>
 if v2 = true then
 ((F_remset_Valid p1).bind fun v4 =>
 if v4 = true then
 ((F_barrier_Needs p0 p2 p3).bind fun v7 =>
 if v7 = true then
 ((F_barrier_pair p0 p2 p3).bind fun v9 =>
 (F_remset_Insert p1 v9.1 v9.2.1 p2).bind fun v10 =>
 some ((v10.1, v10.2)))
 else
 (F_clone_Sets p1).bind fun v11 =>
 some ((v11, 0)))
 else
 some ((([] : List RSet), 1)))
 else
 some ((([] : List RSet), 1))

end Go.Proofs.Ythpnlnjdmlbnaaa
