/- Parts of the proof: B8. No condition. -/
import Derived.Test.YthpnlnjdmlbnaaaMW11
/- Trial. -/
namespace Go.Proofs.Ythpnlnjdmlbnaaa
open Go.RowKit
set_option linter.unusedSimpArgs false
set_option linter.unusedVariables false
set_option maxRecDepth 20000 in
set_option maxHeartbeats 4000000 in
theorem F_ref15_Stamp_ok {p0 : Inc} {r : Int} (H : Sm (F_ref15_Stamp p0) r) : DCall Try.prog 35 [.agg [DI p0.seq, DI p0.belt, DI p0.first, DI p0.last, DI p0.words]] [] (DI r) [] := by
  unfold F_ref15_Stamp at H
  refine DCall.mk Try.func35 rfl rfl ?_
  refine d_rsA ?_
  refine d_rsA ?_
  refine d_ret ?_
  change RetD _ _ _ _ _ _ _
  have e := se H; subst e
  exact finE [] (.tmp (.nil))

noncomputable def F_ref15_Before (p0 : Inc) (p1 : Inc) : Option Bool :=
 (F_ref15_Stamp p0).bind fun v1 =>
 (F_ref15_Stamp p1).bind fun v2 =>
 some (decide (v1 < v2))

set_option maxRecDepth 20000 in
set_option maxHeartbeats 4000000 in
theorem F_ref15_Before_ok {p0 : Inc} {p1 : Inc} {r : Bool} (H : Sm (F_ref15_Before p0 p1) r) : DCall Try.prog 19 [.agg [DI p0.seq, DI p0.belt, DI p0.first, DI p0.last, DI p0.words], .agg [DI p1.seq, DI p1.belt, DI p1.first, DI p1.last, DI p1.words]] [] (DB r) [] := by
  unfold F_ref15_Before at H
  refine DCall.mk Try.func19 rfl rfl ?_
  refine d_rsA ?_
  replace H := bd H; obtain ⟨v1, hv1, H⟩ := H
  replace H := bd H; obtain ⟨v2, hv2, H⟩ := H
  refine d_as mixedP rfl (by kernel_rfl) ?_
  refine rg ?_
  refine go (m_cS [] (F_ref15_Stamp_ok hv1) rfl ScS.nil) ?_
  refine rg ?_
  refine go (m_cS [] (F_ref15_Stamp_ok hv2) rfl ScS.nil) ?_
  refine rg ?_
  refine .nil ⟨⟨by kernel_rfl, by kernel_rfl⟩, ?_⟩
  refine d_ret ?_
  change RetD _ _ _ _ _ _ _
  have e := se H; subst e
  exact finE [] (.tmp (.nil))

noncomputable def F_law19_BarrierWithin (p0 : List Int) (p1 : Int) (p2 : Int) (p3 : Int) (p4 : Int) : Option Bool :=
 (F_make_New p0).bind fun v1 =>
 (F_make_Space v1).bind fun v2 =>
 if (v2.2.1.length : Int) = 0 then
 ((F_law19_awake).bind fun v5 =>
 some (v5))
 else
 (F_make_Mod p1 (v2.2.1.length : Int)).bind fun v6 =>
 (at_ v2.2.1 v6).bind fun v7 =>
 (F_make_Mod p2 (v2.2.1.length : Int)).bind fun v8 =>
 (at_ v2.2.1 v8).bind fun v9 =>
 if 0 ≤ wu v2.1.sh then
 (F_make_Mod p3 v7.words).bind fun v11 =>
 (F_ref05_Go v2.1 (shlN .i64 v7.first (wu v2.1.sh)) v11).bind fun v12 =>
 (F_make_Mod p4 v9.words).bind fun v13 =>
 (F_ref05_Go v2.1 (shlN .i64 v9.first (wu v2.1.sh)) v13).bind fun v14 =>
 if v12.2 = 0 then
 (if v14.2 = 0 then
 ((F_barrier_Needs v2.1 v12.1 (wu (w64 (v14.1 + 1)))).bind fun v18 =>
 (F_barrier_Needs v2.1 v14.1 (wu (w64 (v12.1 + 1)))).bind fun v19 =>
 if v7.seq = v9.seq then
 (if v18 = true then
 (some (false))
 else
 if v19 = true then
 (some (false))
 else
 (F_law19_awake).bind fun v24 =>
 some (v24))
 else
 (F_barrier_Record v2.1 ([] : List RSet) v12.1 (wu (w64 (v14.1 + 1)))).bind fun v25 =>
 (F_barrier_Record v2.1 v25.1 v12.1 (wu (w64 (v14.1 + 1)))).bind fun v26 =>
 if (v18 != v19) = true then
 ((F_ref15_Before v9 v7).bind fun v28 =>
 if (v18 == v28) = true then
 (if v25.2 = 0 then
 (if v26.2 = 0 then
 ((F_ref18_Same v25.1 v26.1).bind fun v32 =>
 if v32 = true then
 (some (((decide ((v25.1.length : Int) = 1)) == v18)))
 else
 some (false))
 else
 some (false))
 else
 some (false))
 else
 some (false))
 else
 some (false))
 else
 some (false))
 else
 some (false)
 else none

set_option maxRecDepth 20000 in
set_option maxHeartbeats 4000000 in
theorem F_law19_BarrierWithin_ok {p0 : List Int} {p1 : Int} {p2 : Int} {p3 : Int} {p4 : Int} {r : Bool} (H : Sm (F_law19_BarrierWithin p0 p1 p2 p3 p4) r) : DCall Try.prog 4 [.sl (p0.map iC), DI p1, DI p2, DI p3, DI p4] [] (DB r) [] := by
  unfold F_law19_BarrierWithin at H
  refine DCall.mk Try.func4 rfl rfl ?_
  refine d_rsA ?_
  replace H := bd H; obtain ⟨v1, hv1, H⟩ := H
  replace H := bd H; obtain ⟨v2, hv2, H⟩ := H
  refine d_rs rfl ?_
  refine rg ?_
  refine go (m_cG [] (F_make_New_ok hv1)) ?_
  refine go (m_cG [(0, 0)] (F_make_Space_ok hv2)) ?_
  refine rg ?_
  refine .nil ⟨by kernel_rfl, ?_⟩
  refine d_seq fun K k3 => ?_
  refine d_rsA ?_
  replace H := fs H; rcases H with ⟨h4, H⟩ | ⟨h4, H⟩
  ·
    refine d_condA ?_
    replace H := bd H; obtain ⟨v5, hv5, H⟩ := H
    refine d_rs rfl ?_
    refine go (m_cS [] (F_law19_awake_ok hv5) rfl ScS.nil) ?_
    refine rg ?_
    refine .nil ⟨by kernel_rfl, ?_⟩
    refine d_ret ?_
    change RetD _ _ _ _ _ _ _
    have e := se H; subst e
    exact finE [] (.tmp (.nil))
  refine d_condB ?_
  refine d_skip ?_
  refine k3 _ ?_
  replace H := bd H; obtain ⟨v6, hv6, H⟩ := H
  replace H := ba H; obtain ⟨v7, hv7, H⟩ := H
  replace H := bd H; obtain ⟨v8, hv8, H⟩ := H
  replace H := ba H; obtain ⟨v9, hv9, H⟩ := H
  refine d_as mixedP rfl (by kernel_rfl) ?_
  refine rg ?_
  refine go (m_cS [] (F_make_Mod_ok hv6) rfl ScS.nil) ?_
  refine rg ?_
  refine go (m_cS [] (F_make_Mod_ok hv8) rfl ScS.nil) ?_
  refine rg ?_
  refine .nil ⟨⟨by kernel_rfl, by kernel_rfl⟩, ?_⟩
  replace H := cq H; obtain ⟨h10, H⟩ := H
  replace H := bd H; obtain ⟨v11, hv11, H⟩ := H
  replace H := bd H; obtain ⟨v12, hv12, H⟩ := H
  refine d_as mixedP rfl (by kernel_rfl) ?_
  refine rg ?_
  refine go (m_cS [] (F_make_Mod_ok hv11) rfl ScS.nil) ?_
  refine go (m_cS [] (F_ref05_Go_ok hv12) rfl ScS.nil) ?_
  refine rg ?_
  refine .nil ⟨⟨by kernel_rfl, by kernel_rfl⟩, ?_⟩
  replace H := bd H; obtain ⟨v13, hv13, H⟩ := H
  replace H := bd H; obtain ⟨v14, hv14, H⟩ := H
  refine d_as mixedP rfl (by kernel_rfl) ?_
  refine rg ?_
  refine go (m_cS [] (F_make_Mod_ok hv13) rfl ScS.nil) ?_
  refine go (m_cS [] (F_ref05_Go_ok hv14) rfl ScS.nil) ?_
  refine rg ?_
  refine .nil ⟨⟨by kernel_rfl, by kernel_rfl⟩, ?_⟩
  refine d_seq fun K k15 => ?_
  replace H := fs H; rcases H with ⟨h16, H⟩ | ⟨h16, H⟩
  ·
    refine d_rsA ?_
    replace H := fs H; rcases H with ⟨h17, H⟩ | ⟨h17, H⟩
    ·
      refine d_condB ?_
      refine d_skip ?_
      refine k15 _ ?_
      replace H := bd H; obtain ⟨v18, hv18, H⟩ := H
      replace H := bd H; obtain ⟨v19, hv19, H⟩ := H
      refine d_as mixedP rfl (by kernel_rfl) ?_
      refine rg ?_
      refine go (m_cS [] (F_barrier_Needs_ok hv18) rfl ScS.nil) ?_
      refine rg ?_
      refine go (m_cS [] (F_barrier_Needs_ok hv19) rfl ScS.nil) ?_
      refine rg ?_
      refine .nil ⟨⟨by kernel_rfl, by kernel_rfl⟩, ?_⟩
      refine d_seq fun K k20 => ?_
      refine d_rsA ?_
      replace H := fs H; rcases H with ⟨h21, H⟩ | ⟨h21, H⟩
      ·
        refine d_condA ?_
        replace H := fs H; rcases H with ⟨h22, H⟩ | ⟨h22, H⟩
        ·
          refine d_rsA ?_
          refine d_ret ?_
          change RetD _ _ _ _ _ _ _
          have e := se H; subst e
          exact finE [] (.tmp (.nil))
        replace H := fs H; rcases H with ⟨h23, H⟩ | ⟨h23, H⟩
        ·
          refine d_rsA ?_
          refine d_ret ?_
          change RetD _ _ _ _ _ _ _
          have e := se H; subst e
          exact finE [] (.tmp (.nil))
        replace H := bd H; obtain ⟨v24, hv24, H⟩ := H
        refine d_rs rfl ?_
        refine rg ?_
        refine go (m_cS [] (F_law19_awake_ok hv24) rfl ScS.nil) ?_ (gY (congrArg not (eq_false_of_ne_true h23)))
        refine rg ?_
        refine .nil ⟨by kernel_rfl, ?_⟩
        refine d_ret ?_
        change RetD _ _ _ _ _ _ _
        have e := se H; subst e
        exact finE [] (.tmp (.nil))
      refine d_condB ?_
      refine d_skip ?_
      refine k20 _ ?_
      replace H := bd H; obtain ⟨v25, hv25, H⟩ := H
      refine d_rs rfl ?_
      refine rg ?_
      refine go (m_cG [] (F_barrier_Record_ok hv25)) ?_
      refine rg ?_
      refine .nil ⟨by kernel_rfl, ?_⟩
      replace H := bd H; obtain ⟨v26, hv26, H⟩ := H
      refine d_rs rfl ?_
      refine rg ?_
      refine go (m_cG [] (F_barrier_Record_ok hv26)) ?_
      refine rg ?_
      refine .nil ⟨by kernel_rfl, ?_⟩
      replace H := fs H; rcases H with ⟨h27, H⟩ | ⟨h27, H⟩
      ·
        replace H := bd H; obtain ⟨v28, hv28, H⟩ := H
        replace H := fs H; rcases H with ⟨h29, H⟩ | ⟨h29, H⟩
        ·
          replace H := fs H; rcases H with ⟨h30, H⟩ | ⟨h30, H⟩
          ·
            replace H := fs H; rcases H with ⟨h31, H⟩ | ⟨h31, H⟩
            ·
              replace H := bd H; obtain ⟨v32, hv32, H⟩ := H
              replace H := fs H; rcases H with ⟨h33, H⟩ | ⟨h33, H⟩
              ·
                refine d_rs rfl ?_
                refine rg ?_
                refine go (m_cS [] (F_ref15_Before_ok hv28) rfl ScS.nil) ?_ (gY h27)
                refine rg ?_
                refine go (m_cS [] (F_ref18_Same_ok hv32) rfl ScS.nil) ?_ (gY (decide_eq_true h31))
                refine rg ?_
                refine .nil ⟨by kernel_rfl, ?_⟩
                refine d_ret ?_
                change RetD _ _ _ _ _ _ _
                have e := se H; subst e
                exact finE [] (.tmp (.nil))
              refine d_rs rfl ?_
              refine rg ?_
              refine go (m_cS [] (F_ref15_Before_ok hv28) rfl ScS.nil) ?_ (gY h27)
              refine rg ?_
              refine go (m_cS [] (F_ref18_Same_ok hv32) rfl ScS.nil) ?_ (gY (decide_eq_true h31))
              refine rg ?_
              refine .nil ⟨by kernel_rfl, ?_⟩
              refine d_ret ?_
              change RetD _ _ _ _ _ _ _
              have e := se H; subst e
              exact finE [] (.tmp (.nil))
            refine d_rs rfl ?_
            refine rg ?_
            refine go (m_cS [] (F_ref15_Before_ok hv28) rfl ScS.nil) ?_ (gY h27)
            refine rg ?_
            refine .nil ⟨by kernel_rfl, ?_⟩
            refine d_ret ?_
            change RetD _ _ _ _ _ _ _
            have e := se H; subst e
            exact finE [] (.tmp (.nil))
          refine d_rs rfl ?_
          refine rg ?_
          refine go (m_cS [] (F_ref15_Before_ok hv28) rfl ScS.nil) ?_ (gY h27)
          refine rg ?_
          refine .nil ⟨by kernel_rfl, ?_⟩
          refine d_ret ?_
          change RetD _ _ _ _ _ _ _
          have e := se H; subst e
          exact finE [] (.tmp (.nil))
        refine d_rs rfl ?_
        refine rg ?_
        refine go (m_cS [] (F_ref15_Before_ok hv28) rfl ScS.nil) ?_ (gY h27)
        refine rg ?_
        refine .nil ⟨by kernel_rfl, ?_⟩
        refine d_ret ?_
        change RetD _ _ _ _ _ _ _
        have e := se H; subst e
        exact finE [] (.tmp (.nil))
      refine d_rsA ?_
      refine d_ret ?_
      change RetD _ _ _ _ _ _ _
      have e := se H; subst e
      exact finE [] (.tmp (.nil))
    refine d_condA ?_
    refine d_rsA ?_
    refine d_ret ?_
    change RetD _ _ _ _ _ _ _
    have e := se H; subst e
    exact finE [] (.tmp (.nil))
  refine d_rsA ?_
  refine d_condA ?_
  refine d_rsA ?_
  refine d_ret ?_
  change RetD _ _ _ _ _ _ _
  have e := se H; subst e
  exact finE [] (.tmp (.nil))

end Go.Proofs.Ythpnlnjdmlbnaaa
