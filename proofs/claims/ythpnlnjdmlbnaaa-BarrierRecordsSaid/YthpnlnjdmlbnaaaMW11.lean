/- Parts of the proof: B7. No condition. -/
import Derived.Test.YthpnlnjdmlbnaaaMW10
/- Trial. -/
namespace Go.Proofs.Ythpnlnjdmlbnaaa
open Go.RowKit
set_option linter.unusedSimpArgs false
set_option linter.unusedVariables false
set_option maxRecDepth 20000 in
set_option maxHeartbeats 4000000 in
theorem F_ref18_Valid_ok {p0 : List RSet} {r : Bool} (H : Sm (F_ref18_Valid p0) r) : DCall Try.prog 32 [.sl (p0.map RSet.c)] [] (DB r) [] := by
  unfold F_ref18_Valid at H
  refine DCall.mk Try.func32 rfl rfl ?_
  refine d_rsA ?_
  refine d_cutT (fun (b1 : Unit) => ⟨[], [], 0⟩) H (fun z2 hr2 H => ?_) (fun b1 H => ?_)
  ·
    refine d_rsA ?_
    refine d_block ?_
    refine d_loopS (fun (s4 : Int) => ⟨[(0, .sl (p0.map RSet.c)), (6, .sl (p0.map RSet.c)), (7, DI (p0.length : Int)), (8, DI s4)], [], 0⟩) H (wkE []) (fun s4 y5 hq5 H => ?_)
    refine d_rsA ?_
    refine d_seq fun K k6 => ?_
    replace H := fs H; rcases H with ⟨h7, H⟩ | ⟨h7, H⟩
    ·
      refine d_condA ?_
      refine d_skip ?_
      refine k6 _ ?_
      refine d_cutT (fun (b8 : Unit) => ⟨[(0, .sl (p0.map RSet.c)), (6, .sl (p0.map RSet.c)), (7, DI (p0.length : Int)), (8, DI s4)], [], 0⟩) H (fun z9 hr9 H => ?_) (fun b8 H => ?_)
      ·
        refine d_block ?_
        replace H := ba H; obtain ⟨v10, hv10, H⟩ := H
        refine d_rsA ?_
        refine d_seq fun K k11 => ?_
        replace H := bd H; obtain ⟨v12, hv12, H⟩ := H
        replace H := fs H; rcases H with ⟨h13, H⟩ | ⟨h13, H⟩
        ·
          replace H := bd H; obtain ⟨v14, hv14, H⟩ := H
          replace H := fs H; rcases H with ⟨h15, H⟩ | ⟨h15, H⟩
          ·
            replace H := fs H; rcases H with ⟨h16, H⟩ | ⟨h16, H⟩
            ·
              replace H := ba H; obtain ⟨v17, hv17, H⟩ := H
              replace H := bd H; obtain ⟨v18, hv18, H⟩ := H
              replace H := fs H; rcases H with ⟨h19, H⟩ | ⟨h19, H⟩
              ·
                replace H := fs H; rcases H with ⟨h20, H⟩ | ⟨h20, H⟩
                ·
                  refine d_as mixedP rfl (by kernel_rfl) ?_
                  refine rg ?_
                  refine go (m_cS [] (F_ref18_number_ok hv12) rfl ScS.nil) ?_
                  refine rg ?_
                  refine go (m_cS [] (F_ref18_number_ok hv14) rfl ScS.nil) ?_ (gY (congrArg not h13))
                  refine rg ?_
                  refine go (m_cS [] (F_ref18_before_ok hv18) rfl ScS.nil) ?_ (gY (decide_eq_true h16))
                  refine rg ?_
                  refine .nil ⟨⟨by kernel_rfl, by kernel_rfl⟩, ?_⟩
                  refine d_condA ?_
                  refine d_rsA ?_
                  refine d_ret ?_
                  change RetD _ _ _ _ _ _ _
                  have e := se H; subst e
                  have e := hr9 _ rfl; subst e
                  have e := hq5 _ rfl; subst e
                  have e := hr2 _ rfl; subst e
                  exact finE [] (.tmp (.nil))
                replace H := ba H; obtain ⟨v21, hv21, H⟩ := H
                refine d_as mixedP rfl (by kernel_rfl) ?_
                refine rg ?_
                refine go (m_cS [] (F_ref18_number_ok hv12) rfl ScS.nil) ?_
                refine rg ?_
                refine go (m_cS [] (F_ref18_number_ok hv14) rfl ScS.nil) ?_ (gY (congrArg not h13))
                refine rg ?_
                refine go (m_cS [] (F_ref18_before_ok hv18) rfl ScS.nil) ?_ (gY (decide_eq_true h16))
                refine rg ?_
                refine .nil ⟨⟨by kernel_rfl, by kernel_rfl⟩, ?_⟩
                replace H := fs H; rcases H with ⟨h22, H⟩ | ⟨h22, H⟩
                ·
                  refine d_condA ?_
                  refine d_rsA ?_
                  refine d_ret ?_
                  change RetD _ _ _ _ _ _ _
                  have e := se H; subst e
                  have e := hr9 _ rfl; subst e
                  have e := hq5 _ rfl; subst e
                  have e := hr2 _ rfl; subst e
                  exact finE [] (.tmp (.nil))
                refine d_condB ?_
                refine d_skip ?_
                refine k11 _ ?_
                refine d_rsA ?_
                refine d_block ?_
                refine d_loopS (fun (s24 : Int) => ⟨[(0, .sl (p0.map RSet.c)), (4, .ptr 0 0 0), (5, DI s24), (6, .sl (p0.map RSet.c)), (7, DI (p0.length : Int)), (8, DI s4)], [(0, ⟨3, false, false, [[DI v10.frm, DI v10.to, .sl (v10.slots.map iC)]]⟩)], 1⟩) H (wkE [(0, 0)]) (fun s24 y25 hq25 H => ?_)
                refine d_seq fun K k26 => ?_
                refine d_rsA ?_
                replace H := fs H; rcases H with ⟨h27, H⟩ | ⟨h27, H⟩
                ·
                  refine d_condA ?_
                  refine d_skip ?_
                  refine k26 _ ?_
                  refine d_seq fun K k28 => ?_
                  refine d_block ?_
                  replace H := ba H; obtain ⟨v29, hv29, H⟩ := H
                  replace H := ba H; obtain ⟨v30, hv30, H⟩ := H
                  refine d_asA ?_
                  replace H := fs H; rcases H with ⟨h31, H⟩ | ⟨h31, H⟩
                  ·
                    refine d_condA ?_
                    refine d_rsA ?_
                    refine d_ret ?_
                    change RetD _ _ _ _ _ _ _
                    have e := se H; subst e
                    have e := hq25 _ rfl; subst e
                    have e := hr9 _ rfl; subst e
                    have e := hq5 _ rfl; subst e
                    have e := hr2 _ rfl; subst e
                    exact finE [] (.tmp (.nil))
                  refine d_condB ?_
                  refine d_skip ?_
                  refine k28 _ ?_
                  refine d_regA ?_
                  have e := se H; subst e
                  exact ⟨_, rfl, wkE [(0, 0)]⟩
                refine d_condB ?_
                refine d_exit ?_
                have e := se H; subst e
                have e := hq25 _ rfl; subst e
                exact ⟨_, rfl, wkE []⟩
              refine d_as mixedP rfl (by kernel_rfl) ?_
              refine rg ?_
              refine go (m_cS [] (F_ref18_number_ok hv12) rfl ScS.nil) ?_
              refine rg ?_
              refine go (m_cS [] (F_ref18_number_ok hv14) rfl ScS.nil) ?_ (gY (congrArg not h13))
              refine rg ?_
              refine go (m_cS [] (F_ref18_before_ok hv18) rfl ScS.nil) ?_ (gY (decide_eq_true h16))
              refine rg ?_
              refine .nil ⟨⟨by kernel_rfl, by kernel_rfl⟩, ?_⟩
              refine d_condA ?_
              refine d_rsA ?_
              refine d_ret ?_
              change RetD _ _ _ _ _ _ _
              have e := se H; subst e
              have e := hr9 _ rfl; subst e
              have e := hq5 _ rfl; subst e
              have e := hr2 _ rfl; subst e
              exact finE [] (.tmp (.nil))
            replace H := fs H; rcases H with ⟨h32, H⟩ | ⟨h32, H⟩
            ·
              refine d_as mixedP rfl (by kernel_rfl) ?_
              refine rg ?_
              refine go (m_cS [] (F_ref18_number_ok hv12) rfl ScS.nil) ?_
              refine rg ?_
              refine go (m_cS [] (F_ref18_number_ok hv14) rfl ScS.nil) ?_ (gY (congrArg not h13))
              refine rg ?_
              refine .nil ⟨⟨by kernel_rfl, by kernel_rfl⟩, ?_⟩
              refine d_condA ?_
              refine d_rsA ?_
              refine d_ret ?_
              change RetD _ _ _ _ _ _ _
              have e := se H; subst e
              have e := hr9 _ rfl; subst e
              have e := hq5 _ rfl; subst e
              have e := hr2 _ rfl; subst e
              exact finE [] (.tmp (.nil))
            replace H := ba H; obtain ⟨v33, hv33, H⟩ := H
            refine d_as mixedP rfl (by kernel_rfl) ?_
            refine rg ?_
            refine go (m_cS [] (F_ref18_number_ok hv12) rfl ScS.nil) ?_
            refine rg ?_
            refine go (m_cS [] (F_ref18_number_ok hv14) rfl ScS.nil) ?_ (gY (congrArg not h13))
            refine rg ?_
            refine .nil ⟨⟨by kernel_rfl, by kernel_rfl⟩, ?_⟩
            replace H := fs H; rcases H with ⟨h34, H⟩ | ⟨h34, H⟩
            ·
              refine d_condA ?_
              refine d_rsA ?_
              refine d_ret ?_
              change RetD _ _ _ _ _ _ _
              have e := se H; subst e
              have e := hr9 _ rfl; subst e
              have e := hq5 _ rfl; subst e
              have e := hr2 _ rfl; subst e
              exact finE [] (.tmp (.nil))
            refine d_condB ?_
            refine d_skip ?_
            refine k11 _ ?_
            refine d_rsA ?_
            refine d_block ?_
            refine d_loopS (fun (s36 : Int) => ⟨[(0, .sl (p0.map RSet.c)), (4, .ptr 0 0 0), (5, DI s36), (6, .sl (p0.map RSet.c)), (7, DI (p0.length : Int)), (8, DI s4)], [(0, ⟨3, false, false, [[DI v10.frm, DI v10.to, .sl (v10.slots.map iC)]]⟩)], 1⟩) H (wkE [(0, 0)]) (fun s36 y37 hq37 H => ?_)
            refine d_seq fun K k38 => ?_
            refine d_rsA ?_
            replace H := fs H; rcases H with ⟨h39, H⟩ | ⟨h39, H⟩
            ·
              refine d_condA ?_
              refine d_skip ?_
              refine k38 _ ?_
              refine d_seq fun K k40 => ?_
              refine d_block ?_
              replace H := ba H; obtain ⟨v41, hv41, H⟩ := H
              replace H := ba H; obtain ⟨v42, hv42, H⟩ := H
              refine d_asA ?_
              replace H := fs H; rcases H with ⟨h43, H⟩ | ⟨h43, H⟩
              ·
                refine d_condA ?_
                refine d_rsA ?_
                refine d_ret ?_
                change RetD _ _ _ _ _ _ _
                have e := se H; subst e
                have e := hq37 _ rfl; subst e
                have e := hr9 _ rfl; subst e
                have e := hq5 _ rfl; subst e
                have e := hr2 _ rfl; subst e
                exact finE [] (.tmp (.nil))
              refine d_condB ?_
              refine d_skip ?_
              refine k40 _ ?_
              refine d_regA ?_
              have e := se H; subst e
              exact ⟨_, rfl, wkE [(0, 0)]⟩
            refine d_condB ?_
            refine d_exit ?_
            have e := se H; subst e
            have e := hq37 _ rfl; subst e
            exact ⟨_, rfl, wkE []⟩
          refine d_as mixedP rfl (by kernel_rfl) ?_
          refine rg ?_
          refine go (m_cS [] (F_ref18_number_ok hv12) rfl ScS.nil) ?_
          refine rg ?_
          refine go (m_cS [] (F_ref18_number_ok hv14) rfl ScS.nil) ?_ (gY (congrArg not h13))
          refine rg ?_
          refine .nil ⟨⟨by kernel_rfl, by kernel_rfl⟩, ?_⟩
          refine d_condA ?_
          refine d_rsA ?_
          refine d_ret ?_
          change RetD _ _ _ _ _ _ _
          have e := se H; subst e
          have e := hr9 _ rfl; subst e
          have e := hq5 _ rfl; subst e
          have e := hr2 _ rfl; subst e
          exact finE [] (.tmp (.nil))
        refine d_as mixedP rfl (by kernel_rfl) ?_
        refine rg ?_
        refine go (m_cS [] (F_ref18_number_ok hv12) rfl ScS.nil) ?_
        refine rg ?_
        refine .nil ⟨⟨by kernel_rfl, by kernel_rfl⟩, ?_⟩
        refine d_condA ?_
        refine d_rsA ?_
        refine d_ret ?_
        change RetD _ _ _ _ _ _ _
        have e := se H; subst e
        have e := hr9 _ rfl; subst e
        have e := hq5 _ rfl; subst e
        have e := hr2 _ rfl; subst e
        exact finE [] (.tmp (.nil))
      refine d_regA ?_
      have e := se H; subst e
      exact ⟨_, rfl, wkE []⟩
    refine d_condB ?_
    refine d_exit ?_
    have e := se H; subst e
    have e := hq5 _ rfl; subst e
    exact ⟨_, rfl, wkE []⟩
  refine d_rsA ?_
  refine d_ret ?_
  change RetD _ _ _ _ _ _ _
  have e := se H; subst e
  exact finE [] (.tmp (.nil))

noncomputable def F_ref19_Note (p0 : Sp) (p1 : List RSet) (p2 : Int) (p3 : Int) : Option (List RSet) :=
 (F_ref19_pair p0 p2 p3).bind fun v1 =>
 if v1.2.2 = true then
 ((F_ref18_Put p1 v1.1 v1.2.1 p2).bind fun v4 =>
 some (v4))
 else
 some (p1)

set_option maxRecDepth 20000 in
set_option maxHeartbeats 4000000 in
theorem F_ref19_Note_ok {p0 : Sp} {p1 : List RSet} {p2 : Int} {p3 : Int} {r : List RSet} (H : Sm (F_ref19_Note p0 p1 p2 p3) r) : DCall Try.prog 33 [.agg [DI p0.sh, .sl (p0.ws.map uC), .sl (p0.fs.map frC)], .sl (p1.map RSet.c), DI p2, DU p3] [] (.sl (r.map RSet.c)) [] := by
  unfold F_ref19_Note at H
  refine DCall.mk Try.func33 rfl rfl ?_
  refine d_rsA ?_
  replace H := bd H; obtain ⟨v1, hv1, H⟩ := H
  refine d_rs rfl ?_
  refine rg ?_
  refine go (m_cS [] (F_ref19_pair_ok hv1) rfl ScS.nil) ?_
  refine rg ?_
  refine .nil ⟨by kernel_rfl, ?_⟩
  refine d_seq fun K k2 => ?_
  refine d_rsA ?_
  replace H := fs H; rcases H with ⟨h3, H⟩ | ⟨h3, H⟩
  ·
    refine d_condB ?_
    refine d_skip ?_
    refine k2 _ ?_
    replace H := bd H; obtain ⟨v4, hv4, H⟩ := H
    refine d_rs rfl ?_
    refine rg ?_
    refine go (m_cG [] (F_ref18_Put_ok hv4)) ?_
    refine rg ?_
    refine .nil ⟨by kernel_rfl, ?_⟩
    refine d_ret ?_
    change RetD _ _ _ _ _ _ _
    have e := se H; subst e
    exact finE [] (.tmp (.nil))
  refine d_condA ?_
  refine d_rsA ?_
  refine d_ret ?_
  change RetD _ _ _ _ _ _ _
  have e := se H; subst e
  exact finE [] (.tmp (.nil))

noncomputable def F_ref19_Record (p0 : Sp) (p1 : List RSet) (p2 : Int) (p3 : Int) : Option (List RSet × Int) :=
 (F_ref03_Valid p0).bind fun v2 =>
 if v2 = true then
 ((F_ref18_Valid p1).bind fun v4 =>
 if v4 = true then
 ((F_ref19_Note p0 p1 p2 p3).bind fun v6 =>
 some ((v6, 0)))
 else
 some ((([] : List RSet), 1)))
 else
 some ((([] : List RSet), 1))

set_option maxRecDepth 20000 in
set_option maxHeartbeats 4000000 in
theorem F_ref19_Record_ok {p0 : Sp} {p1 : List RSet} {p2 : Int} {p3 : Int} {r : List RSet × Int} (H : Sm (F_ref19_Record p0 p1 p2 p3) r) : DCall Try.prog 16 [.agg [DI p0.sh, .sl (p0.ws.map uC), .sl (p0.fs.map frC)], .sl (p1.map RSet.c), DI p2, DU p3] [] (.tup [.sl (r.1.map RSet.c), DI r.2]) [] := by
  unfold F_ref19_Record at H
  refine DCall.mk Try.func16 rfl rfl ?_
  refine d_rsA ?_
  refine d_seq fun K k1 => ?_
  replace H := bd H; obtain ⟨v2, hv2, H⟩ := H
  replace H := fs H; rcases H with ⟨h3, H⟩ | ⟨h3, H⟩
  ·
    replace H := bd H; obtain ⟨v4, hv4, H⟩ := H
    refine d_rs rfl ?_
    refine rg ?_
    refine go (m_cS [] (F_ref03_Valid_ok hv2) rfl ScS.nil) ?_
    refine rg ?_
    refine go (m_cS [] (F_ref18_Valid_ok hv4) rfl ScS.nil) ?_ (gY (congrArg not h3))
    refine rg ?_
    refine .nil ⟨by kernel_rfl, ?_⟩
    replace H := fs H; rcases H with ⟨h5, H⟩ | ⟨h5, H⟩
    ·
      refine d_condB ?_
      refine d_skip ?_
      refine k1 _ ?_
      replace H := bd H; obtain ⟨v6, hv6, H⟩ := H
      refine d_rs rfl ?_
      refine rg ?_
      refine go (m_cG [] (F_ref19_Note_ok hv6)) ?_
      refine rg ?_
      refine .nil ⟨by kernel_rfl, ?_⟩
      refine d_ret ?_
      change RetD _ _ _ _ _ _ _
      have e := se H; subst e
      exact finE [] (.tmp (.tmp (.nil)))
    refine d_condA ?_
    refine d_rsA ?_
    refine d_ret ?_
    change RetD _ _ _ _ _ _ _
    have e := se H; subst e
    exact finE [] (.tmp (.tmp (.nil)))
  refine d_rs rfl ?_
  refine rg ?_
  refine go (m_cS [] (F_ref03_Valid_ok hv2) rfl ScS.nil) ?_
  refine rg ?_
  refine .nil ⟨by kernel_rfl, ?_⟩
  refine d_condA ?_
  refine d_rsA ?_
  refine d_ret ?_
  change RetD _ _ _ _ _ _ _
  have e := se H; subst e
  exact finE [] (.tmp (.tmp (.nil)))

noncomputable def F_ref18_SameInts (p0 : List Int) (p1 : List Int) : Option Bool :=
 if (p0.length : Int) = (p1.length : Int) then
 (bndR (loopO (fun (s6 : Int) =>
 if s6 < (p0.length : Int) then
 ((at_ p0 s6).bind fun v11 =>
 (at_ p1 s6).bind fun v12 =>
 if v11 = v12 then
 (some (.go (w64 (s6 + 1))))
 else
 some (.out (.inr (false))))
 else
 some (.out (.inl (())))) 0) fun (b3 : Unit) =>
 some (true))
 else
 some (false)

set_option maxRecDepth 20000 in
set_option maxHeartbeats 4000000 in
theorem F_ref18_SameInts_ok {p0 : List Int} {p1 : List Int} {r : Bool} (H : Sm (F_ref18_SameInts p0 p1) r) : DCall Try.prog 34 [.sl (p0.map iC), .sl (p1.map iC)] [] (DB r) [] := by
  unfold F_ref18_SameInts at H
  refine DCall.mk Try.func34 rfl rfl ?_
  refine d_rsA ?_
  refine d_seq fun K k1 => ?_
  refine d_rsA ?_
  replace H := fs H; rcases H with ⟨h2, H⟩ | ⟨h2, H⟩
  ·
    refine d_condB ?_
    refine d_skip ?_
    refine k1 _ ?_
    refine d_cutT (fun (b3 : Unit) => ⟨[], [], 0⟩) H (fun z4 hr4 H => ?_) (fun b3 H => ?_)
    ·
      refine d_rsA ?_
      refine d_block ?_
      refine d_loopS (fun (s6 : Int) => ⟨[(0, .sl (p0.map iC)), (1, .sl (p1.map iC)), (12, DI (p0.length : Int)), (13, DI s6)], [], 0⟩) H (wkE []) (fun s6 y7 hq7 H => ?_)
      refine d_rsA ?_
      refine d_seq fun K k8 => ?_
      replace H := fs H; rcases H with ⟨h9, H⟩ | ⟨h9, H⟩
      ·
        refine d_condA ?_
        refine d_skip ?_
        refine k8 _ ?_
        refine d_seq fun K k10 => ?_
        refine d_block ?_
        refine d_rsA ?_
        replace H := ba H; obtain ⟨v11, hv11, H⟩ := H
        replace H := ba H; obtain ⟨v12, hv12, H⟩ := H
        refine d_asA ?_
        replace H := fs H; rcases H with ⟨h13, H⟩ | ⟨h13, H⟩
        ·
          refine d_condB ?_
          refine d_skip ?_
          refine k10 _ ?_
          refine d_regA ?_
          have e := se H; subst e
          exact ⟨_, rfl, wkE []⟩
        refine d_condA ?_
        refine d_rsA ?_
        refine d_ret ?_
        change RetD _ _ _ _ _ _ _
        have e := se H; subst e
        have e := hq7 _ rfl; subst e
        have e := hr4 _ rfl; subst e
        exact finE [] (.tmp (.nil))
      refine d_condB ?_
      refine d_exit ?_
      have e := se H; subst e
      have e := hq7 _ rfl; subst e
      exact ⟨_, rfl, wkE []⟩
    refine d_rsA ?_
    refine d_ret ?_
    change RetD _ _ _ _ _ _ _
    have e := se H; subst e
    exact finE [] (.tmp (.nil))
  refine d_condA ?_
  refine d_rsA ?_
  refine d_ret ?_
  change RetD _ _ _ _ _ _ _
  have e := se H; subst e
  exact finE [] (.tmp (.nil))

noncomputable def F_ref18_Same (p0 : List RSet) (p1 : List RSet) : Option Bool :=
 if (p0.length : Int) = (p1.length : Int) then
 (bndR (loopO (fun (s6 : Int) =>
 if s6 < (p0.length : Int) then
 ((at_ p0 s6).bind fun v11 =>
 (at_ p1 s6).bind fun v12 =>
 if v11.frm = v12.frm then
 (if v11.to = v12.to then
 ((F_ref18_SameInts v11.slots v12.slots).bind fun v15 =>
 if v15 = true then
 (some (.go (w64 (s6 + 1))))
 else
 some (.out (.inr (false))))
 else
 some (.out (.inr (false))))
 else
 some (.out (.inr (false))))
 else
 some (.out (.inl (())))) 0) fun (b3 : Unit) =>
 some (true))
 else
 some (false)

set_option maxRecDepth 20000 in
set_option maxHeartbeats 4000000 in
theorem F_ref18_Same_ok {p0 : List RSet} {p1 : List RSet} {r : Bool} (H : Sm (F_ref18_Same p0 p1) r) : DCall Try.prog 17 [.sl (p0.map RSet.c), .sl (p1.map RSet.c)] [] (DB r) [] := by
  unfold F_ref18_Same at H
  refine DCall.mk Try.func17 rfl rfl ?_
  refine d_rsA ?_
  refine d_seq fun K k1 => ?_
  refine d_rsA ?_
  replace H := fs H; rcases H with ⟨h2, H⟩ | ⟨h2, H⟩
  ·
    refine d_condB ?_
    refine d_skip ?_
    refine k1 _ ?_
    refine d_cutT (fun (b3 : Unit) => ⟨[], [], 0⟩) H (fun z4 hr4 H => ?_) (fun b3 H => ?_)
    ·
      refine d_rsA ?_
      refine d_block ?_
      refine d_loopS (fun (s6 : Int) => ⟨[(1, .sl (p1.map RSet.c)), (12, .sl (p0.map RSet.c)), (13, DI (p0.length : Int)), (14, DI s6)], [], 0⟩) H (wkE []) (fun s6 y7 hq7 H => ?_)
      refine d_rsA ?_
      refine d_seq fun K k8 => ?_
      replace H := fs H; rcases H with ⟨h9, H⟩ | ⟨h9, H⟩
      ·
        refine d_condA ?_
        refine d_skip ?_
        refine k8 _ ?_
        refine d_seq fun K k10 => ?_
        refine d_block ?_
        replace H := ba H; obtain ⟨v11, hv11, H⟩ := H
        refine d_rsA ?_
        replace H := ba H; obtain ⟨v12, hv12, H⟩ := H
        replace H := fs H; rcases H with ⟨h13, H⟩ | ⟨h13, H⟩
        ·
          replace H := fs H; rcases H with ⟨h14, H⟩ | ⟨h14, H⟩
          ·
            replace H := bd H; obtain ⟨v15, hv15, H⟩ := H
            refine d_as mixedP rfl (by kernel_rfl) ?_
            refine rg ?_
            refine go (m_cS [] (F_ref18_SameInts_ok hv15) rfl ScS.nil) ?_ (gY (congrArg not (decide_eq_true h14)))
            refine rg ?_
            refine .nil ⟨⟨by kernel_rfl, by kernel_rfl⟩, ?_⟩
            replace H := fs H; rcases H with ⟨h16, H⟩ | ⟨h16, H⟩
            ·
              refine d_condB ?_
              refine d_skip ?_
              refine k10 _ ?_
              refine d_regA ?_
              have e := se H; subst e
              exact ⟨_, rfl, wkE []⟩
            refine d_condA ?_
            refine d_rsA ?_
            refine d_ret ?_
            change RetD _ _ _ _ _ _ _
            have e := se H; subst e
            have e := hq7 _ rfl; subst e
            have e := hr4 _ rfl; subst e
            exact finE [] (.tmp (.nil))
          refine d_asA ?_
          refine d_condA ?_
          refine d_rsA ?_
          refine d_ret ?_
          change RetD _ _ _ _ _ _ _
          have e := se H; subst e
          have e := hq7 _ rfl; subst e
          have e := hr4 _ rfl; subst e
          exact finE [] (.tmp (.nil))
        refine d_asA ?_
        refine d_condA ?_
        refine d_rsA ?_
        refine d_ret ?_
        change RetD _ _ _ _ _ _ _
        have e := se H; subst e
        have e := hq7 _ rfl; subst e
        have e := hr4 _ rfl; subst e
        exact finE [] (.tmp (.nil))
      refine d_condB ?_
      refine d_exit ?_
      have e := se H; subst e
      have e := hq7 _ rfl; subst e
      exact ⟨_, rfl, wkE []⟩
    refine d_rsA ?_
    refine d_ret ?_
    change RetD _ _ _ _ _ _ _
    have e := se H; subst e
    exact finE [] (.tmp (.nil))
  refine d_condA ?_
  refine d_rsA ?_
  refine d_ret ?_
  change RetD _ _ _ _ _ _ _
  have e := se H; subst e
  exact finE [] (.tmp (.nil))

noncomputable def F_law19_BarrierRecords (p0 : Sp) (p1 : List RSet) (p2 : List Int) (p3 : Int) (p4 : Int) (p5 : Int) (p6 : Int) (p7 : Int) : Option Bool :=
 (F_make_Small p0).bind fun v2 =>
 if v2 = true then
 ((F_make_Sets p1).bind fun v4 =>
 if v4 = true then
 ((F_make_New p2).bind fun v6 =>
 (F_make_Space v6).bind fun v7 =>
 (F_make_Slots v7.2.2).bind fun v8 =>
 bndR ((F_make_Mod p3 (w64 ((v7.1.ws.length : Int) + 2))).bind fun v11 =>
 (F_make_Mod (w64 (shrN .u64 p4 1)) (w64 ((v7.1.ws.length : Int) + 2))).bind fun v12 =>
 loopO (fun (s14 : List (List Int) × Int) =>
 if s14.2 < ([[p3, w64 (shrN .u64 p4 1)], [w64 (v11 - 1), v12]].length : Int) then
 (bndR ((at_ s14.1 s14.2).bind fun v20 =>
 (at_ v20 1).bind fun v21 =>
 (at_ v20 0).bind fun v23 =>
 (F_barrier_Needs v7.1 v23 (wu v21)).bind fun v24 =>
 (F_ref19_Needs v7.1 v23 (wu v21)).bind fun v25 =>
 if (v24 != v25) = true then
 (some (.inr (.out (.inr (false)))))
 else
 (F_barrier_Needs v7.1 v23 p4).bind fun v27 =>
 (F_ref19_Needs v7.1 v23 p4).bind fun v28 =>
 if (v27 != v28) = true then
 (some (.inr (.out (.inr (false)))))
 else
 (F_make_Spoilt v7.1 p5 p6 p7).bind fun v30 =>
 loopO (fun (s32 : List (List Int) × List Sp × Int) =>
 if s32.2.2 < ([v7.1, p0, v30].length : Int) then
 (bndR ((at_ s32.2.1 s32.2.2).bind fun v38 =>
 loopO (fun (s40 : Int) =>
 if s40 < ([v8.1, p1].length : Int) then
 ((at_ [v8.1, p1] s40).bind fun v45 =>
 (F_barrier_Record v38 v45 v23 (wu v21)).bind fun v46 =>
 (F_ref19_Record v38 v45 v23 (wu v21)).bind fun v47 =>
 if v46.2 = v47.2 then
 ((F_ref18_Same v46.1 v47.1).bind fun v49 =>
 if v49 = true then
 (some (.go (w64 (s40 + 1))))
 else
 some (.out (.inr (.out (.inr (.out (.inr (false))))))))
 else
 some (.out (.inr (.out (.inr (.out (.inr (false))))))))
 else
 some (.out (.inl ((s32.1, s32.2.1))))) 0) fun (b36 : List (List Int) × List Sp) =>
 some (.go ((b36.1, b36.2, w64 (s32.2.2 + 1)))))
 else
 some (.out (.inl (s32.1)))) (s14.1, [v7.1, p0, v30], 0)) fun (b18 : List (List Int)) =>
 some (.go ((b18, w64 (s14.2 + 1)))))
 else
 some (.out (.inl (())))) ([[p3, w64 (shrN .u64 p4 1)], [w64 (v11 - 1), v12]], 0)) fun (b9 : Unit) =>
 (F_law19_awake).bind fun v51 =>
 some (v51))
 else
 (F_law19_awake).bind fun v52 =>
 some (v52))
 else
 (F_law19_awake).bind fun v53 =>
 some (v53)

set_option maxRecDepth 20000 in
set_option maxHeartbeats 4000000 in
theorem F_law19_BarrierRecords_ok {p0 : Sp} {p1 : List RSet} {p2 : List Int} {p3 : Int} {p4 : Int} {p5 : Int} {p6 : Int} {p7 : Int} {r : Bool} (H : Sm (F_law19_BarrierRecords p0 p1 p2 p3 p4 p5 p6 p7) r) : DCall Try.prog 3 [.agg [DI p0.sh, .sl (p0.ws.map uC), .sl (p0.fs.map frC)], .sl (p1.map RSet.c), .sl (p2.map iC), DI p3, DU p4, DI p5, DI p6, DI p7] [] (DB r) [] := by
  unfold F_law19_BarrierRecords at H
  refine DCall.mk Try.func3 rfl rfl ?_
  refine d_rsA ?_
  refine d_seq fun K k1 => ?_
  replace H := bd H; obtain ⟨v2, hv2, H⟩ := H
  replace H := fs H; rcases H with ⟨h3, H⟩ | ⟨h3, H⟩
  ·
    replace H := bd H; obtain ⟨v4, hv4, H⟩ := H
    refine d_rs rfl ?_
    refine rg ?_
    refine go (m_cS [] (F_make_Small_ok hv2) rfl ScS.nil) ?_
    refine rg ?_
    refine go (m_cS [] (F_make_Sets_ok hv4) rfl ScS.nil) ?_ (gY (congrArg not h3))
    refine rg ?_
    refine .nil ⟨by kernel_rfl, ?_⟩
    replace H := fs H; rcases H with ⟨h5, H⟩ | ⟨h5, H⟩
    ·
      refine d_condB ?_
      refine d_skip ?_
      refine k1 _ ?_
      replace H := bd H; obtain ⟨v6, hv6, H⟩ := H
      refine d_rs rfl ?_
      refine rg ?_
      refine go (m_cG [] (F_make_New_ok hv6)) ?_
      refine rg ?_
      refine .nil ⟨by kernel_rfl, ?_⟩
      replace H := bd H; obtain ⟨v7, hv7, H⟩ := H
      refine d_rs rfl ?_
      refine rg ?_
      refine go (m_cG [(0, 1)] (F_make_Space_ok hv7)) ?_
      refine rg ?_
      refine .nil ⟨by kernel_rfl, ?_⟩
      replace H := bd H; obtain ⟨v8, hv8, H⟩ := H
      refine d_rs rfl ?_
      refine rg ?_
      refine go (m_cG [(0, 1)] (F_make_Slots_okp hv8)) ?_
      refine rg ?_
      refine .nil ⟨by kernel_rfl, ?_⟩
      refine d_cutT (fun (b9 : Unit) => ⟨[], [], 0⟩) H (fun z10 hr10 H => ?_) (fun b9 H => ?_)
      ·
        replace H := bd H; obtain ⟨v11, hv11, H⟩ := H
        replace H := bd H; obtain ⟨v12, hv12, H⟩ := H
        refine d_as mixedP rfl (by kernel_rfl) ?_
        refine rg ?_
        refine go (m_litE (c := iC) ([p3, w64 (shrN .u64 p4 1)] : List Int) i27.ok i3.ok) ?_
        refine rg ?_
        refine go (m_cS [] (F_make_Mod_ok hv11) rfl ScS.nil) ?_
        refine rg ?_
        refine go (m_cS [] (F_make_Mod_ok hv12) rfl ScS.nil) ?_
        refine go (m_litE (c := iC) ([w64 (v11 - 1), v12] : List Int) i27.ok i3.ok) ?_
        refine go (m_litE (c := (lC iC)) ([[p3, w64 (shrN .u64 p4 1)], [w64 (v11 - 1), v12]] : List (List Int)) i40.ok i27.ok) ?_
        refine rg ?_
        refine .nil ⟨⟨by kernel_rfl, by kernel_rfl⟩, ?_⟩
        refine d_block ?_
        refine d_loopS (fun (s14 : List (List Int) × Int) => ⟨[(1, .sl (p1.map RSet.c)), (4, DU p4), (5, DI p5), (6, DI p6), (7, DI p7), (8, .ptr 0 0 0), (18, .ptr 1 0 0), (20, .sl (v8.1.map RSet.c)), (71, .own 2 0 s14.1.length), (72, DI ([[p3, w64 (shrN .u64 p4 1)], [w64 (v11 - 1), v12]].length : Int)), (73, DI s14.2)], [(0, ⟨3, false, false, [[DI p0.sh, .sl (p0.ws.map uC), .sl (p0.fs.map frC)]]⟩), (1, ⟨3, false, false, [[DI v7.1.sh, .sl (v7.1.ws.map uC), .sl (v7.1.fs.map frC)]]⟩), (2, ⟨1, true, false, s14.1.map (lC iC)⟩)], 3⟩) H (wkE [(0, 0), (1, 3), (2, 6)]) (fun s14 y15 hq15 H => ?_)
        refine d_rsA ?_
        refine d_seq fun K k16 => ?_
        replace H := fs H; rcases H with ⟨h17, H⟩ | ⟨h17, H⟩
        ·
          refine d_condA ?_
          refine d_skip ?_
          refine k16 _ ?_
          refine d_cutT (fun (b18 : List (List Int)) => ⟨[(1, .sl (p1.map RSet.c)), (4, DU p4), (5, DI p5), (6, DI p6), (7, DI p7), (8, .ptr 0 0 0), (18, .ptr 1 0 0), (20, .sl (v8.1.map RSet.c)), (71, .own 2 0 b18.length), (72, DI ([[p3, w64 (shrN .u64 p4 1)], [w64 (v11 - 1), v12]].length : Int)), (73, DI s14.2)], [(0, ⟨3, false, false, [[DI p0.sh, .sl (p0.ws.map uC), .sl (p0.fs.map frC)]]⟩), (1, ⟨3, false, false, [[DI v7.1.sh, .sl (v7.1.ws.map uC), .sl (v7.1.fs.map frC)]]⟩), (2, ⟨1, true, false, b18.map (lC iC)⟩)], 3⟩) H (fun z19 hr19 H => ?_) (fun b18 H => ?_)
          ·
            refine d_block ?_
            replace H := ba H; obtain ⟨v20, hv20, H⟩ := H
            refine d_rsA ?_
            replace H := ba H; obtain ⟨v21, hv21, H⟩ := H
            refine d_rsA ?_
            refine d_seq fun K k22 => ?_
            replace H := ba H; obtain ⟨v23, hv23, H⟩ := H
            replace H := bd H; obtain ⟨v24, hv24, H⟩ := H
            replace H := bd H; obtain ⟨v25, hv25, H⟩ := H
            replace H := fs H; rcases H with ⟨h26, H⟩ | ⟨h26, H⟩
            ·
              refine d_as mixedP rfl (by kernel_rfl) ?_
              refine rg ?_
              refine go (m_cS [] (F_barrier_Needs_ok hv24) rfl ScS.nil) ?_
              refine rg ?_
              refine go (m_cS [] (F_ref19_Needs_ok hv25) rfl ScS.nil) ?_
              refine rg ?_
              refine .nil ⟨⟨by kernel_rfl, by kernel_rfl⟩, ?_⟩
              refine d_condA ?_
              refine d_rsA ?_
              refine d_ret ?_
              change RetD _ _ _ _ _ _ _
              have e := se H; subst e
              have e := hr19 _ rfl; subst e
              have e := hq15 _ rfl; subst e
              have e := hr10 _ rfl; subst e
              exact finE [] (.tmp (.nil))
            replace H := bd H; obtain ⟨v27, hv27, H⟩ := H
            replace H := bd H; obtain ⟨v28, hv28, H⟩ := H
            refine d_as mixedP rfl (by kernel_rfl) ?_
            refine rg ?_
            refine go (m_cS [] (F_barrier_Needs_ok hv24) rfl ScS.nil) ?_
            refine rg ?_
            refine go (m_cS [] (F_ref19_Needs_ok hv25) rfl ScS.nil) ?_
            refine rg ?_
            refine go (m_cS [] (F_barrier_Needs_ok hv27) rfl ScS.nil) ?_ (gY (eq_false_of_ne_true h26))
            refine rg ?_
            refine go (m_cS [] (F_ref19_Needs_ok hv28) rfl ScS.nil) ?_ (gY (eq_false_of_ne_true h26))
            refine rg ?_
            refine .nil ⟨⟨by kernel_rfl, by kernel_rfl⟩, ?_⟩
            replace H := fs H; rcases H with ⟨h29, H⟩ | ⟨h29, H⟩
            ·
              refine d_condA ?_
              refine d_rsA ?_
              refine d_ret ?_
              change RetD _ _ _ _ _ _ _
              have e := se H; subst e
              have e := hr19 _ rfl; subst e
              have e := hq15 _ rfl; subst e
              have e := hr10 _ rfl; subst e
              exact finE [] (.tmp (.nil))
            refine d_condB ?_
            refine d_skip ?_
            refine k22 _ ?_
            replace H := bd H; obtain ⟨v30, hv30, H⟩ := H
            refine d_as mixedP rfl (by kernel_rfl) ?_
            refine rg ?_
            refine go (m_cG [] (F_make_Spoilt_okp hv30)) ?_
            refine go (m_litE (c := spC) ([v7.1, p0, v30] : List Sp) i43.ok i25.ok) ?_
            refine rg ?_
            refine .nil ⟨⟨by kernel_rfl, by kernel_rfl⟩, ?_⟩
            refine d_block ?_
            refine d_loopS (fun (s32 : List (List Int) × List Sp × Int) => ⟨[(1, .sl (p1.map RSet.c)), (4, DU p4), (5, DI p5), (6, DI p6), (7, DI p7), (8, .ptr 0 0 0), (18, .ptr 1 0 0), (20, .sl (v8.1.map RSet.c)), (22, .sl (v20.map iC)), (23, DU (wu v21)), (71, .own 2 0 s32.1.length), (72, DI ([[p3, w64 (shrN .u64 p4 1)], [w64 (v11 - 1), v12]].length : Int)), (73, DI s14.2), (116, .own 3 0 s32.2.1.length), (117, DI ([v7.1, p0, v30].length : Int)), (118, DI s32.2.2)], [(0, ⟨3, false, false, [[DI p0.sh, .sl (p0.ws.map uC), .sl (p0.fs.map frC)]]⟩), (1, ⟨3, false, false, [[DI v7.1.sh, .sl (v7.1.ws.map uC), .sl (v7.1.fs.map frC)]]⟩), (2, ⟨1, true, false, s32.1.map (lC iC)⟩), (3, ⟨3, true, false, s32.2.1.map spC⟩)], 4⟩) H (wkE [(0, 0), (1, 1), (2, 2), (3, 3)]) (fun s32 y33 hq33 H => ?_)
            refine d_rsA ?_
            refine d_seq fun K k34 => ?_
            replace H := fs H; rcases H with ⟨h35, H⟩ | ⟨h35, H⟩
            ·
              refine d_condA ?_
              refine d_skip ?_
              refine k34 _ ?_
              refine d_cutT (fun (b36 : List (List Int) × List Sp) => ⟨[(1, .sl (p1.map RSet.c)), (4, DU p4), (5, DI p5), (6, DI p6), (7, DI p7), (8, .ptr 0 0 0), (18, .ptr 1 0 0), (20, .sl (v8.1.map RSet.c)), (22, .sl (v20.map iC)), (23, DU (wu v21)), (71, .own 2 0 b36.1.length), (72, DI ([[p3, w64 (shrN .u64 p4 1)], [w64 (v11 - 1), v12]].length : Int)), (73, DI s14.2), (116, .own 3 0 b36.2.length), (117, DI ([v7.1, p0, v30].length : Int)), (118, DI s32.2.2)], [(0, ⟨3, false, false, [[DI p0.sh, .sl (p0.ws.map uC), .sl (p0.fs.map frC)]]⟩), (1, ⟨3, false, false, [[DI v7.1.sh, .sl (v7.1.ws.map uC), .sl (v7.1.fs.map frC)]]⟩), (2, ⟨1, true, false, b36.1.map (lC iC)⟩), (3, ⟨3, true, false, b36.2.map spC⟩)], 4⟩) H (fun z37 hr37 H => ?_) (fun b36 H => ?_)
              ·
                refine d_block ?_
                replace H := ba H; obtain ⟨v38, hv38, H⟩ := H
                refine d_rsA ?_
                refine d_rs rfl ?_
                refine rg ?_
                refine go (m_litE (c := (lC RSet.c)) ([v8.1, p1] : List (List RSet)) i44.ok i26.ok) ?_
                refine rg ?_
                refine .nil ⟨by kernel_rfl, ?_⟩
                refine d_block ?_
                refine d_loopS (fun (s40 : Int) => ⟨[(1, .sl (p1.map RSet.c)), (4, DU p4), (5, DI p5), (6, DI p6), (7, DI p7), (8, .ptr 0 0 0), (18, .ptr 1 0 0), (20, .sl (v8.1.map RSet.c)), (22, .sl (v20.map iC)), (23, DU (wu v21)), (25, .ptr 2 0 0), (71, .own 3 0 s32.1.length), (72, DI ([[p3, w64 (shrN .u64 p4 1)], [w64 (v11 - 1), v12]].length : Int)), (73, DI s14.2), (116, .own 4 0 s32.2.1.length), (117, DI ([v7.1, p0, v30].length : Int)), (118, DI s32.2.2), (124, .own 5 0 [v8.1, p1].length), (125, DI ([v8.1, p1].length : Int)), (126, DI s40)], [(0, ⟨3, false, false, [[DI p0.sh, .sl (p0.ws.map uC), .sl (p0.fs.map frC)]]⟩), (1, ⟨3, false, false, [[DI v7.1.sh, .sl (v7.1.ws.map uC), .sl (v7.1.fs.map frC)]]⟩), (2, ⟨3, false, false, [[DI v38.sh, .sl (v38.ws.map uC), .sl (v38.fs.map frC)]]⟩), (3, ⟨1, true, false, s32.1.map (lC iC)⟩), (4, ⟨3, true, false, s32.2.1.map spC⟩), (5, ⟨1, true, false, [v8.1, p1].map (lC RSet.c)⟩)], 6⟩) H (wkE [(0, 0), (1, 1), (2, 4), (3, 2), (4, 3), (5, 5)]) (fun s40 y41 hq41 H => ?_)
                refine d_rsA ?_
                refine d_seq fun K k42 => ?_
                replace H := fs H; rcases H with ⟨h43, H⟩ | ⟨h43, H⟩
                ·
                  refine d_condA ?_
                  refine d_skip ?_
                  refine k42 _ ?_
                  refine d_seq fun K k44 => ?_
                  refine d_block ?_
                  replace H := ba H; obtain ⟨v45, hv45, H⟩ := H
                  refine d_rsA ?_
                  replace H := bd H; obtain ⟨v46, hv46, H⟩ := H
                  refine d_as mixedP rfl (by kernel_rfl) ?_
                  refine rg ?_
                  refine go (m_cG [] (F_barrier_Record_ok hv46)) ?_
                  refine rg ?_
                  refine .nil ⟨⟨by kernel_rfl, by kernel_rfl⟩, ?_⟩
                  replace H := bd H; obtain ⟨v47, hv47, H⟩ := H
                  refine d_as mixedP rfl (by kernel_rfl) ?_
                  refine rg ?_
                  refine go (m_cG [] (F_ref19_Record_ok hv47)) ?_
                  refine rg ?_
                  refine .nil ⟨⟨by kernel_rfl, by kernel_rfl⟩, ?_⟩
                  replace H := fs H; rcases H with ⟨h48, H⟩ | ⟨h48, H⟩
                  ·
                    replace H := bd H; obtain ⟨v49, hv49, H⟩ := H
                    refine d_rs rfl ?_
                    refine rg ?_
                    refine go (m_cS [] (F_ref18_Same_ok hv49) rfl ScS.nil) ?_ (gY (congrArg not (decide_eq_true h48)))
                    refine rg ?_
                    refine .nil ⟨by kernel_rfl, ?_⟩
                    replace H := fs H; rcases H with ⟨h50, H⟩ | ⟨h50, H⟩
                    ·
                      refine d_condB ?_
                      refine d_skip ?_
                      refine k44 _ ?_
                      refine d_regA ?_
                      have e := se H; subst e
                      exact ⟨_, rfl, wkE [(0, 0), (1, 1), (2, 2), (3, 3), (4, 4), (5, 5)]⟩
                    refine d_condA ?_
                    refine d_rsA ?_
                    refine d_ret ?_
                    change RetD _ _ _ _ _ _ _
                    have e := se H; subst e
                    have e := hq41 _ rfl; subst e
                    have e := hr37 _ rfl; subst e
                    have e := hq33 _ rfl; subst e
                    have e := hr19 _ rfl; subst e
                    have e := hq15 _ rfl; subst e
                    have e := hr10 _ rfl; subst e
                    exact finE [] (.tmp (.nil))
                  refine d_rsA ?_
                  refine d_condA ?_
                  refine d_rsA ?_
                  refine d_ret ?_
                  change RetD _ _ _ _ _ _ _
                  have e := se H; subst e
                  have e := hq41 _ rfl; subst e
                  have e := hr37 _ rfl; subst e
                  have e := hq33 _ rfl; subst e
                  have e := hr19 _ rfl; subst e
                  have e := hq15 _ rfl; subst e
                  have e := hr10 _ rfl; subst e
                  exact finE [] (.tmp (.nil))
                refine d_condB ?_
                refine d_exit ?_
                have e := se H; subst e
                have e := hq41 _ rfl; subst e
                exact ⟨_, rfl, wkE [(0, 0), (1, 1), (2, 3), (3, 4)]⟩
              refine d_regA ?_
              have e := se H; subst e
              exact ⟨_, rfl, wkE [(0, 0), (1, 1), (2, 2), (3, 3)]⟩
            refine d_condB ?_
            refine d_exit ?_
            have e := se H; subst e
            have e := hq33 _ rfl; subst e
            exact ⟨_, rfl, wkE [(0, 0), (1, 1), (2, 2)]⟩
          refine d_regA ?_
          have e := se H; subst e
          exact ⟨_, rfl, wkE [(0, 0), (1, 1), (2, 2)]⟩
        refine d_condB ?_
        refine d_exit ?_
        have e := se H; subst e
        have e := hq15 _ rfl; subst e
        exact ⟨_, rfl, wkE []⟩
      replace H := bd H; obtain ⟨v51, hv51, H⟩ := H
      refine d_rs rfl ?_
      refine go (m_cS [] (F_law19_awake_ok hv51) rfl ScS.nil) ?_
      refine rg ?_
      refine .nil ⟨by kernel_rfl, ?_⟩
      refine d_ret ?_
      change RetD _ _ _ _ _ _ _
      have e := se H; subst e
      exact finE [] (.tmp (.nil))
    refine d_condA ?_
    replace H := bd H; obtain ⟨v52, hv52, H⟩ := H
    refine d_rs rfl ?_
    refine go (m_cS [] (F_law19_awake_ok hv52) rfl ScS.nil) ?_
    refine rg ?_
    refine .nil ⟨by kernel_rfl, ?_⟩
    refine d_ret ?_
    change RetD _ _ _ _ _ _ _
    have e := se H; subst e
    exact finE [] (.tmp (.nil))
  refine d_rs rfl ?_
  refine rg ?_
  refine go (m_cS [] (F_make_Small_ok hv2) rfl ScS.nil) ?_
  refine rg ?_
  refine .nil ⟨by kernel_rfl, ?_⟩
  refine d_condA ?_
  replace H := bd H; obtain ⟨v53, hv53, H⟩ := H
  refine d_rs rfl ?_
  refine go (m_cS [] (F_law19_awake_ok hv53) rfl ScS.nil) ?_
  refine rg ?_
  refine .nil ⟨by kernel_rfl, ?_⟩
  refine d_ret ?_
  change RetD _ _ _ _ _ _ _
  have e := se H; subst e
  exact finE [] (.tmp (.nil))

noncomputable def F_ref15_Stamp (p0 : Inc) : Option Int :=
 some (w64 ((w64 (p0.belt * 4294967296)) + p0.seq))

end Go.Proofs.Ythpnlnjdmlbnaaa
