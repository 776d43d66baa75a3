/- Parts of the proof: B4. No condition. -/
import Derived.Test.YthpnlnjdmlbnaaaMW7
/- Trial. -/
namespace Go.Proofs.Ythpnlnjdmlbnaaa
open Go.RowKit
set_option linter.unusedSimpArgs false
set_option linter.unusedVariables false
set_option maxRecDepth 20000 in
set_option maxHeartbeats 4000000 in
theorem F_ref01_Ceil_ok {p0 : Int} {p1 : Int} {r : Int} (H : Sm (F_ref01_Ceil p0 p1) r) : DCall Try.prog 75 [DI p0, DI p1] [] (DI r) [] := by
  unfold F_ref01_Ceil at H
  refine DCall.mk Try.func75 rfl rfl ?_
  refine d_rsA ?_
  refine d_seq fun K k1 => ?_
  replace H := fs H; rcases H with ⟨h2, H⟩ | ⟨h2, H⟩
  ·
    refine d_rsA ?_
    refine d_condA ?_
    refine d_rsA ?_
    refine d_ret ?_
    change RetD _ _ _ _ _ _ _
    have e := se H; subst e
    exact finE [] (.tmp (.nil))
  replace H := fs H; rcases H with ⟨h3, H⟩ | ⟨h3, H⟩
  ·
    refine d_rsA ?_
    refine d_condA ?_
    refine d_rsA ?_
    refine d_ret ?_
    change RetD _ _ _ _ _ _ _
    have e := se H; subst e
    exact finE [] (.tmp (.nil))
  replace H := fs H; rcases H with ⟨h4, H⟩ | ⟨h4, H⟩
  ·
    refine d_rsA ?_
    refine d_condA ?_
    refine d_rsA ?_
    refine d_ret ?_
    change RetD _ _ _ _ _ _ _
    have e := se H; subst e
    exact finE [] (.tmp (.nil))
  refine d_rsA ?_
  replace H := fs H; rcases H with ⟨h5, H⟩ | ⟨h5, H⟩
  ·
    refine d_condA ?_
    refine d_rsA ?_
    refine d_ret ?_
    change RetD _ _ _ _ _ _ _
    have e := se H; subst e
    exact finE [] (.tmp (.nil))
  refine d_condB ?_
  refine d_skip ?_
  refine k1 _ ?_
  replace H := cq H; obtain ⟨h6, H⟩ := H
  refine d_rsA ?_
  refine d_ret ?_
  change RetD _ _ _ _ _ _ _
  have e := se H; subst e
  exact finE [] (.tmp (.nil))

noncomputable def F_ref09_Frames (p0 : Sp) (p1 : Inc) : Option Int :=
 (F_ref01_Ceil p1.words p0.sh).bind fun v1 =>
 some (v1)

set_option maxRecDepth 20000 in
set_option maxHeartbeats 4000000 in
theorem F_ref09_Frames_ok {p0 : Sp} {p1 : Inc} {r : Int} (H : Sm (F_ref09_Frames p0 p1) r) : DCall Try.prog 74 [.agg [DI p0.sh, .sl (p0.ws.map uC), .sl (p0.fs.map frC)], .agg [DI p1.seq, DI p1.belt, DI p1.first, DI p1.last, DI p1.words]] [] (DI r) [] := by
  unfold F_ref09_Frames at H
  refine DCall.mk Try.func74 rfl rfl ?_
  refine d_rsA ?_
  replace H := bd H; obtain ⟨v1, hv1, H⟩ := H
  refine d_rs rfl ?_
  refine rg ?_
  refine go (m_cS [] (F_ref01_Ceil_ok hv1) rfl ScS.nil) ?_
  refine rg ?_
  refine .nil ⟨by kernel_rfl, ?_⟩
  refine d_ret ?_
  change RetD _ _ _ _ _ _ _
  have e := se H; subst e
  exact finE [] (.tmp (.nil))

noncomputable def F_ref09_Fits (p0 : Sp) (p1 : Inc) : Option Bool :=
 if p1.seq < 0 then
 (some (false))
 else
 if 4294967295 < p1.seq then
 (some (false))
 else
 if p1.belt < 0 then
 (some (false))
 else
 if 4 ≤ p1.belt then
 (some (false))
 else
 if p1.words < 0 then
 (some (false))
 else
 if (p0.ws.length : Int) < p1.words then
 (some (false))
 else
 if p1.words = 0 then
 (if p1.first = (-1) then
 (some (decide (p1.last = (-1))))
 else
 some (false))
 else
 if p1.first < 0 then
 (some (false))
 else
 if (p0.fs.length : Int) ≤ p1.first then
 (some (false))
 else
 (at_ p0.fs p1.first).bind fun v14 =>
 if v14.ow = p1.seq then
 (if v14.st = (w64 ((w64 (p1.belt * 4294967296)) + p1.seq)) then
 ((F_ref05_Chain p0 p1.first).bind fun v18 =>
 (loopO (fun (s22 : Int × Int) =>
 if s22.2 < (p0.fs.length : Int) then
 ((at_ p0.fs s22.2).bind fun v27 =>
 if v27.ow = p1.seq then
 (some (.go ((w64 (s22.1 + 1), w64 (s22.2 + 1)))))
 else
 some (.go ((s22.1, w64 (s22.2 + 1)))))
 else
 some (.out ((v18, s22.1)))) (0, 0)).bind fun (b19 : List Int × Int) =>
 (F_ref09_Frames p0 p1).bind fun v29 =>
 if (b19.1.length : Int) = v29 then
 (if (b19.1.length : Int) = b19.2 then
 ((at_ b19.1 (w64 ((b19.1.length : Int) - 1))).bind fun v32 =>
 some (decide (v32 = p1.last)))
 else
 some (false))
 else
 some (false))
 else
 some (false))
 else
 some (false)

set_option maxRecDepth 20000 in
set_option maxHeartbeats 4000000 in
theorem F_ref09_Fits_ok {p0 : Sp} {p1 : Inc} {r : Bool} (H : Sm (F_ref09_Fits p0 p1) r) : DCall Try.prog 65 [.agg [DI p0.sh, .sl (p0.ws.map uC), .sl (p0.fs.map frC)], .agg [DI p1.seq, DI p1.belt, DI p1.first, DI p1.last, DI p1.words]] [] (DB r) [] := by
  unfold F_ref09_Fits at H
  refine DCall.mk Try.func65 rfl rfl ?_
  refine d_rsA ?_
  refine d_seq fun K k1 => ?_
  replace H := fs H; rcases H with ⟨h2, H⟩ | ⟨h2, H⟩
  ·
    refine d_rsA ?_
    refine d_condA ?_
    refine d_rsA ?_
    refine d_ret ?_
    change RetD _ _ _ _ _ _ _
    have e := se H; subst e
    exact finE [] (.tmp (.nil))
  replace H := fs H; rcases H with ⟨h3, H⟩ | ⟨h3, H⟩
  ·
    refine d_rsA ?_
    refine d_condA ?_
    refine d_rsA ?_
    refine d_ret ?_
    change RetD _ _ _ _ _ _ _
    have e := se H; subst e
    exact finE [] (.tmp (.nil))
  replace H := fs H; rcases H with ⟨h4, H⟩ | ⟨h4, H⟩
  ·
    refine d_rsA ?_
    refine d_condA ?_
    refine d_rsA ?_
    refine d_ret ?_
    change RetD _ _ _ _ _ _ _
    have e := se H; subst e
    exact finE [] (.tmp (.nil))
  replace H := fs H; rcases H with ⟨h5, H⟩ | ⟨h5, H⟩
  ·
    refine d_rsA ?_
    refine d_condA ?_
    refine d_rsA ?_
    refine d_ret ?_
    change RetD _ _ _ _ _ _ _
    have e := se H; subst e
    exact finE [] (.tmp (.nil))
  replace H := fs H; rcases H with ⟨h6, H⟩ | ⟨h6, H⟩
  ·
    refine d_rsA ?_
    refine d_condA ?_
    refine d_rsA ?_
    refine d_ret ?_
    change RetD _ _ _ _ _ _ _
    have e := se H; subst e
    exact finE [] (.tmp (.nil))
  refine d_rsA ?_
  replace H := fs H; rcases H with ⟨h7, H⟩ | ⟨h7, H⟩
  ·
    refine d_condA ?_
    refine d_rsA ?_
    refine d_ret ?_
    change RetD _ _ _ _ _ _ _
    have e := se H; subst e
    exact finE [] (.tmp (.nil))
  refine d_condB ?_
  refine d_skip ?_
  refine k1 _ ?_
  refine d_seq fun K k8 => ?_
  refine d_rsA ?_
  replace H := fs H; rcases H with ⟨h9, H⟩ | ⟨h9, H⟩
  ·
    refine d_condA ?_
    replace H := fs H; rcases H with ⟨h10, H⟩ | ⟨h10, H⟩
    ·
      refine d_rsA ?_
      refine d_ret ?_
      change RetD _ _ _ _ _ _ _
      have e := se H; subst e
      exact finE [] (.tmp (.nil))
    refine d_rsA ?_
    refine d_ret ?_
    change RetD _ _ _ _ _ _ _
    have e := se H; subst e
    exact finE [] (.tmp (.nil))
  refine d_condB ?_
  refine d_skip ?_
  refine k8 _ ?_
  refine d_seq fun K k11 => ?_
  replace H := fs H; rcases H with ⟨h12, H⟩ | ⟨h12, H⟩
  ·
    refine d_rsA ?_
    refine d_condA ?_
    refine d_rsA ?_
    refine d_ret ?_
    change RetD _ _ _ _ _ _ _
    have e := se H; subst e
    exact finE [] (.tmp (.nil))
  refine d_rsA ?_
  replace H := fs H; rcases H with ⟨h13, H⟩ | ⟨h13, H⟩
  ·
    refine d_condA ?_
    refine d_rsA ?_
    refine d_ret ?_
    change RetD _ _ _ _ _ _ _
    have e := se H; subst e
    exact finE [] (.tmp (.nil))
  refine d_condB ?_
  refine d_skip ?_
  refine k11 _ ?_
  replace H := ba H; obtain ⟨v14, hv14, H⟩ := H
  refine d_rsA ?_
  refine d_seq fun K k15 => ?_
  replace H := fs H; rcases H with ⟨h16, H⟩ | ⟨h16, H⟩
  ·
    refine d_rsA ?_
    replace H := fs H; rcases H with ⟨h17, H⟩ | ⟨h17, H⟩
    ·
      refine d_condB ?_
      refine d_skip ?_
      refine k15 _ ?_
      replace H := bd H; obtain ⟨v18, hv18, H⟩ := H
      refine d_rs rfl ?_
      refine rg ?_
      refine go (m_cS [] (F_ref05_Chain_ok hv18) rfl (ScS.cons (scC (fun _ => rfl)) ScS.nil)) ?_
      refine rg ?_
      refine .nil ⟨by kernel_rfl, ?_⟩
      refine d_rsA ?_
      refine d_cutS (fun (b19 : List Int × Int) => ⟨[(2, .ptr 0 0 0), (3, .ptr 1 0 0), (6, .own 2 0 b19.1.length), (7, DI b19.2)], [(0, ⟨3, false, false, [[DI p0.sh, .sl (p0.ws.map uC), .sl (p0.fs.map frC)]]⟩), (1, ⟨5, false, false, [[DI p1.seq, DI p1.belt, DI p1.first, DI p1.last, DI p1.words]]⟩), (2, ⟨1, true, false, b19.1.map iC⟩)], 3⟩) H (fun z20 H => ?_) (fun b19 H => ?_)
      ·
        refine d_rsA ?_
        refine d_block ?_
        refine d_loopS (fun (s22 : Int × Int) => ⟨[(2, .ptr 0 0 0), (3, .ptr 1 0 0), (6, .own 2 0 v18.length), (7, DI s22.1), (90, .sl (p0.fs.map frC)), (91, DI (p0.fs.length : Int)), (92, DI s22.2)], [(0, ⟨3, false, false, [[DI p0.sh, .sl (p0.ws.map uC), .sl (p0.fs.map frC)]]⟩), (1, ⟨5, false, false, [[DI p1.seq, DI p1.belt, DI p1.first, DI p1.last, DI p1.words]]⟩), (2, ⟨1, true, false, v18.map iC⟩)], 3⟩) H (wkE [(0, 0), (1, 1), (2, 3)]) (fun s22 y23 hq23 H => ?_)
        refine d_rsA ?_
        refine d_seq fun K k24 => ?_
        replace H := fs H; rcases H with ⟨h25, H⟩ | ⟨h25, H⟩
        ·
          refine d_condA ?_
          refine d_skip ?_
          refine k24 _ ?_
          refine d_seq fun K k26 => ?_
          refine d_block ?_
          replace H := ba H; obtain ⟨v27, hv27, H⟩ := H
          refine d_rsA ?_
          refine d_rsA ?_
          replace H := fs H; rcases H with ⟨h28, H⟩ | ⟨h28, H⟩
          ·
            refine d_condA ?_
            refine d_regA ?_
            refine k26 _ ?_
            refine d_regA ?_
            have e := se H; subst e
            exact ⟨_, rfl, wkE [(0, 0), (1, 1), (2, 2)]⟩
          refine d_condB ?_
          refine d_skip ?_
          refine k26 _ ?_
          refine d_regA ?_
          have e := se H; subst e
          exact ⟨_, rfl, wkE [(0, 0), (1, 1), (2, 2)]⟩
        refine d_condB ?_
        refine d_exit ?_
        have e := se H; subst e
        have e := hq23 _ rfl; subst e
        exact wkE [(0, 0), (1, 1), (2, 2)]
      replace H := bd H; obtain ⟨v29, hv29, H⟩ := H
      replace H := fs H; rcases H with ⟨h30, H⟩ | ⟨h30, H⟩
      ·
        replace H := fs H; rcases H with ⟨h31, H⟩ | ⟨h31, H⟩
        ·
          replace H := ba H; obtain ⟨v32, hv32, H⟩ := H
          refine d_as mixedP rfl (by kernel_rfl) ?_
          refine rg ?_
          refine go (m_cS [] (F_ref09_Frames_ok hv29) rfl ScS.nil) ?_
          refine rg ?_
          refine .nil ⟨⟨by kernel_rfl, by kernel_rfl⟩, ?_⟩
          refine d_ret ?_
          change RetD _ _ _ _ _ _ _
          have e := se H; subst e
          exact finE [] (.tmp (.nil))
        refine d_as mixedP rfl (by kernel_rfl) ?_
        refine rg ?_
        refine go (m_cS [] (F_ref09_Frames_ok hv29) rfl ScS.nil) ?_
        refine rg ?_
        refine .nil ⟨⟨by kernel_rfl, by kernel_rfl⟩, ?_⟩
        refine d_ret ?_
        change RetD _ _ _ _ _ _ _
        have e := se H; subst e
        exact finE [] (.tmp (.nil))
      refine d_as mixedP rfl (by kernel_rfl) ?_
      refine rg ?_
      refine go (m_cS [] (F_ref09_Frames_ok hv29) rfl ScS.nil) ?_
      refine rg ?_
      refine .nil ⟨⟨by kernel_rfl, by kernel_rfl⟩, ?_⟩
      refine d_ret ?_
      change RetD _ _ _ _ _ _ _
      have e := se H; subst e
      exact finE [] (.tmp (.nil))
    refine d_condA ?_
    refine d_rsA ?_
    refine d_ret ?_
    change RetD _ _ _ _ _ _ _
    have e := se H; subst e
    exact finE [] (.tmp (.nil))
  refine d_rsA ?_
  refine d_condA ?_
  refine d_rsA ?_
  refine d_ret ?_
  change RetD _ _ _ _ _ _ _
  have e := se H; subst e
  exact finE [] (.tmp (.nil))

noncomputable def F_ref09_Valid (p0 : Sp) (p1 : Inc) : Option Bool :=
 (F_ref03_Valid p0).bind fun v1 =>
 if v1 = true then
 ((F_ref09_Fits p0 p1).bind fun v3 =>
 some (v3))
 else
 some (false)

set_option maxRecDepth 20000 in
set_option maxHeartbeats 4000000 in
theorem F_ref09_Valid_ok {p0 : Sp} {p1 : Inc} {r : Bool} (H : Sm (F_ref09_Valid p0 p1) r) : DCall Try.prog 54 [.agg [DI p0.sh, .sl (p0.ws.map uC), .sl (p0.fs.map frC)], .agg [DI p1.seq, DI p1.belt, DI p1.first, DI p1.last, DI p1.words]] [] (DB r) [] := by
  unfold F_ref09_Valid at H
  refine DCall.mk Try.func54 rfl rfl ?_
  refine d_rsA ?_
  replace H := bd H; obtain ⟨v1, hv1, H⟩ := H
  replace H := fs H; rcases H with ⟨h2, H⟩ | ⟨h2, H⟩
  ·
    replace H := bd H; obtain ⟨v3, hv3, H⟩ := H
    refine d_rs rfl ?_
    refine rg ?_
    refine go (m_cS [] (F_ref03_Valid_ok hv1) rfl ScS.nil) ?_
    refine rg ?_
    refine go (m_cS [] (F_ref09_Fits_ok hv3) rfl ScS.nil) ?_ (gY h2)
    refine rg ?_
    refine .nil ⟨by kernel_rfl, ?_⟩
    refine d_ret ?_
    change RetD _ _ _ _ _ _ _
    have e := se H; subst e
    exact finE [] (.tmp (.nil))
  refine d_rs rfl ?_
  refine rg ?_
  refine go (m_cS [] (F_ref03_Valid_ok hv1) rfl ScS.nil) ?_
  refine rg ?_
  refine .nil ⟨by kernel_rfl, ?_⟩
  refine d_ret ?_
  change RetD _ _ _ _ _ _ _
  have e := se H; subst e
  exact finE [] (.tmp (.nil))

noncomputable def F_ref09_Owns (p0 : Sp) (p1 : Int) : Option Bool :=
 bndR (loopO (fun (s4 : Int) =>
 if s4 < (p0.fs.length : Int) then
 ((at_ p0.fs s4).bind fun v9 =>
 if v9.ow = p1 then
 (some (.out (.inr (true))))
 else
 some (.go (w64 (s4 + 1))))
 else
 some (.out (.inl (())))) 0) fun (b1 : Unit) =>
 some (false)

set_option maxRecDepth 20000 in
set_option maxHeartbeats 4000000 in
theorem F_ref09_Owns_ok {p0 : Sp} {p1 : Int} {r : Bool} (H : Sm (F_ref09_Owns p0 p1) r) : DCall Try.prog 55 [.agg [DI p0.sh, .sl (p0.ws.map uC), .sl (p0.fs.map frC)], DI p1] [] (DB r) [] := by
  unfold F_ref09_Owns at H
  refine DCall.mk Try.func55 rfl rfl ?_
  refine d_rsA ?_
  refine d_cutT (fun (b1 : Unit) => ⟨[], [], 0⟩) H (fun z2 hr2 H => ?_) (fun b1 H => ?_)
  ·
    refine d_rsA ?_
    refine d_block ?_
    refine d_loopS (fun (s4 : Int) => ⟨[(1, DI p1), (8, .sl (p0.fs.map frC)), (9, DI (p0.fs.length : Int)), (10, DI s4)], [], 0⟩) H (wkE []) (fun s4 y5 hq5 H => ?_)
    refine d_rsA ?_
    refine d_seq fun K k6 => ?_
    replace H := fs H; rcases H with ⟨h7, H⟩ | ⟨h7, H⟩
    ·
      refine d_condA ?_
      refine d_skip ?_
      refine k6 _ ?_
      refine d_seq fun K k8 => ?_
      refine d_block ?_
      replace H := ba H; obtain ⟨v9, hv9, H⟩ := H
      refine d_rsA ?_
      refine d_rsA ?_
      replace H := fs H; rcases H with ⟨h10, H⟩ | ⟨h10, H⟩
      ·
        refine d_condA ?_
        refine d_rsA ?_
        refine d_ret ?_
        change RetD _ _ _ _ _ _ _
        have e := se H; subst e
        have e := hq5 _ rfl; subst e
        have e := hr2 _ rfl; subst e
        exact finE [] (.tmp (.nil))
      refine d_condB ?_
      refine d_skip ?_
      refine k8 _ ?_
      refine d_regA ?_
      have e := se H; subst e
      exact ⟨_, rfl, wkE []⟩
    refine d_condB ?_
    refine d_exit ?_
    have e := se H; subst e
    have e := hq5 _ rfl; subst e
    exact ⟨_, rfl, wkE []⟩
  refine d_rsA ?_
  refine d_ret ?_
  change RetD _ _ _ _ _ _ _
  have e := se H; subst e
  exact finE [] (.tmp (.nil))

noncomputable def F_ref02_Clone (p0 : List Int) : Option (List Int) :=
 if (p0.length : Int) * 8 ≤ 140737488355328 ∧ (p0.length : Int) ≤ 9223372036854775807 then
 some (p0)
 else none

set_option maxRecDepth 20000 in
set_option maxHeartbeats 4000000 in
theorem F_ref02_Clone_ok {p0 : List Int} {r : List Int} (H : Sm (F_ref02_Clone p0) r) : DCall Try.prog 42 [.sl (p0.map uC)] [] (.own 0 0 r.length) [(0, ⟨1, true, false, r.map uC⟩)] := by
  unfold F_ref02_Clone at H
  refine DCall.mk Try.func42 rfl rfl ?_
  refine d_rsA ?_
  replace H := cq H; obtain ⟨h1, H⟩ := H
  refine d_rs rfl ?_
  refine rg ?_
  refine go (m_apN (c := uC) p0 h1 i22.ok i28.ok rfl (.sl rfl (all_len (c := uC) (fun _ => rfl) _))) ?_
  refine rg ?_
  refine .nil ⟨by kernel_rfl, ?_⟩
  refine d_ret ?_
  change RetD _ _ _ _ _ _ _
  have e := se H; subst e
  exact finE [(0, 0)] (.tmp (.nil))

noncomputable def F_ref03_Copy (p0 : Sp) : Option Sp :=
 (F_ref02_Clone p0.ws).bind fun v1 =>
 if (p0.fs.length : Int) * 24 ≤ 140737488355328 ∧ (p0.fs.length : Int) ≤ 9223372036854775807 then
 some (Sp.mk p0.sh v1 p0.fs)
 else none

set_option maxRecDepth 20000 in
set_option maxHeartbeats 4000000 in
theorem F_ref03_Copy_ok {p0 : Sp} {r : Sp} (H : Sm (F_ref03_Copy p0) r) : DCall Try.prog 26 [.agg [DI p0.sh, .sl (p0.ws.map uC), .sl (p0.fs.map frC)]] [] (.agg [DI r.sh, .own 0 0 r.ws.length, .own 1 0 r.fs.length]) [(0, ⟨1, true, false, r.ws.map uC⟩), (1, ⟨3, true, false, r.fs.map frC⟩)] := by
  unfold F_ref03_Copy at H
  refine DCall.mk Try.func26 rfl rfl ?_
  refine d_rsA ?_
  replace H := bd H; obtain ⟨v1, hv1, H⟩ := H
  replace H := cq H; obtain ⟨h2, H⟩ := H
  refine d_as mixedP rfl (by kernel_rfl) ?_
  refine rg ?_
  refine go (m_cS [] (F_ref02_Clone_ok hv1) rfl (ScS.cons (scC (fun _ => rfl)) ScS.nil)) ?_
  refine rg ?_
  refine go (m_apN (c := frC) p0.fs h2 i23.ok i61.ok rfl (.sl rfl (all_len (c := frC) (fun _ => rfl) _))) ?_
  refine rg ?_
  refine .nil ⟨⟨by kernel_rfl, by kernel_rfl⟩, ?_⟩
  refine d_ret ?_
  change RetD _ _ _ _ _ _ _
  have e := se H; subst e
  exact finE [(0, 2), (1, 3)] (.cell i25.ok rfl rfl rfl rfl (.nil))

noncomputable def F_ref09_Extra (p0 : Sp) (p1 : Inc) (p2 : Int) : Option Int :=
 (F_ref01_Ceil (w64 (p1.words + p2)) p0.sh).bind fun v1 =>
 (F_ref09_Frames p0 p1).bind fun v2 =>
 some (w64 (v1 - v2))

set_option maxRecDepth 20000 in
set_option maxHeartbeats 4000000 in
theorem F_ref09_Extra_ok {p0 : Sp} {p1 : Inc} {p2 : Int} {r : Int} (H : Sm (F_ref09_Extra p0 p1 p2) r) : DCall Try.prog 66 [.agg [DI p0.sh, .sl (p0.ws.map uC), .sl (p0.fs.map frC)], .agg [DI p1.seq, DI p1.belt, DI p1.first, DI p1.last, DI p1.words], DI p2] [] (DI r) [] := by
  unfold F_ref09_Extra at H
  refine DCall.mk Try.func66 rfl rfl ?_
  refine d_rsA ?_
  replace H := bd H; obtain ⟨v1, hv1, H⟩ := H
  replace H := bd H; obtain ⟨v2, hv2, H⟩ := H
  refine d_as mixedP rfl (by kernel_rfl) ?_
  refine rg ?_
  refine go (m_cS [] (F_ref01_Ceil_ok hv1) rfl ScS.nil) ?_
  refine rg ?_
  refine go (m_cS [] (F_ref09_Frames_ok hv2) rfl ScS.nil) ?_
  refine rg ?_
  refine .nil ⟨⟨by kernel_rfl, by kernel_rfl⟩, ?_⟩
  refine d_ret ?_
  change RetD _ _ _ _ _ _ _
  have e := se H; subst e
  exact finE [] (.tmp (.nil))

noncomputable def F_ref04_Free (p0 : Sp) : Option (List Int) :=
 (loopO (fun (s5 : List Int × Int) =>
 if s5.2 < (p0.fs.length : Int) then
 ((at_ p0.fs s5.2).bind fun v10 =>
 if v10.ow = (-1) then
 (if ((s5.1.length : Int) + [s5.2].length) * 8 ≤ 140737488355328 ∧ (s5.1.length : Int) + [s5.2].length ≤ 9223372036854775807 then
 some (.go ((s5.1 ++ [s5.2], w64 (s5.2 + 1))))
 else none)
 else
 some (.go ((s5.1, w64 (s5.2 + 1)))))
 else
 some (.out (s5.1))) (([] : List Int), 0)).bind fun (b1 : List Int) =>
 some (b1)

set_option maxRecDepth 20000 in
set_option maxHeartbeats 4000000 in
theorem F_ref04_Free_ok {p0 : Sp} {r : List Int} (H : Sm (F_ref04_Free p0) r) : DCall Try.prog 67 [.agg [DI p0.sh, .sl (p0.ws.map uC), .sl (p0.fs.map frC)]] [] (.own 0 0 r.length) [(0, ⟨1, true, false, r.map iC⟩)] := by
  unfold F_ref04_Free at H
  refine DCall.mk Try.func67 rfl rfl ?_
  refine d_rsA ?_
  refine d_rsA ?_
  refine d_cutS (fun (b1 : List Int) => ⟨[(3, .own 0 0 b1.length)], [(0, ⟨1, true, false, b1.map iC⟩)], 1⟩) H (fun z2 H => ?_) (fun b1 H => ?_)
  ·
    refine d_rsA ?_
    refine d_block ?_
    refine d_nil 3 1 (by decide) rfl ?_
    refine d_loopS (fun (s5 : List Int × Int) => ⟨[(3, .own 0 0 s5.1.length), (7, .sl (p0.fs.map frC)), (8, DI (p0.fs.length : Int)), (9, DI s5.2)], [(0, ⟨1, true, false, s5.1.map iC⟩)], 1⟩) H (wkE [(0, 1)]) (fun s5 y6 hq6 H => ?_)
    refine d_rsA ?_
    refine d_seq fun K k7 => ?_
    replace H := fs H; rcases H with ⟨h8, H⟩ | ⟨h8, H⟩
    ·
      refine d_condA ?_
      refine d_skip ?_
      refine k7 _ ?_
      refine d_seq fun K k9 => ?_
      refine d_block ?_
      replace H := ba H; obtain ⟨v10, hv10, H⟩ := H
      refine d_rsA ?_
      refine d_rsA ?_
      replace H := fs H; rcases H with ⟨h11, H⟩ | ⟨h11, H⟩
      ·
        refine d_condA ?_
        replace H := cq H; obtain ⟨h12, H⟩ := H
        refine d_region rfl ?_
        refine rg ?_
        refine go (m_litE (c := iC) ([s5.2] : List Int) i27.ok i3.ok) ?_
        refine go (m_apO (c := iC) s5.1 [s5.2] h12 i27.ok i3.ok rfl rfl (.own rfl rfl (by simp) (all_len (c := iC) (fun _ => rfl) _)) rfl) ?_
        refine rg ?_
        refine .nil ⟨by kernel_rfl, ?_⟩
        refine k9 _ ?_
        refine d_regA ?_
        have e := se H; subst e
        exact ⟨_, rfl, wkE [(0, 3)]⟩
      refine d_condB ?_
      refine d_skip ?_
      refine k9 _ ?_
      refine d_regA ?_
      have e := se H; subst e
      exact ⟨_, rfl, wkE [(0, 0)]⟩
    refine d_condB ?_
    refine d_exit ?_
    have e := se H; subst e
    have e := hq6 _ rfl; subst e
    exact wkE [(0, 0)]
  refine d_rsA ?_
  refine d_ret ?_
  change RetD _ _ _ _ _ _ _
  have e := se H; subst e
  exact finE [(0, 0)] (.tmp (.nil))

noncomputable def F_ref04_Lift (p0 : Sp) (p1 : Int) (p2 : Int) : Option (Int × List Fe) :=
 bndR (loopO (fun (s4 : Int) =>
 if s4 < (p0.fs.length : Int) then
 ((at_ p0.fs s4).bind fun v9 =>
 if v9.ow = (-1) then
 (some (.out (.inr ((s4, p0.fs.set (Int.toNat s4) (Fe.mk p1 (w64 ((w64 (p2 * 4294967296)) + p1)) (-1)))))))
 else
 some (.go (w64 (s4 + 1))))
 else
 some (.out (.inl (())))) 0) fun (b1 : Unit) =>
 some (((-1), p0.fs))

set_option maxRecDepth 20000 in
set_option maxHeartbeats 4000000 in
theorem F_ref04_Lift_ok {p0 : Sp} {p1 : Int} {p2 : Int} {r : Int × List Fe} (H : Sm (F_ref04_Lift p0 p1 p2) r) : DCall Try.prog 68 [.agg [DI p0.sh, .sl (p0.ws.map uC), .own 0 0 p0.fs.length], DI p1, DI p2] [(0, ⟨3, true, false, p0.fs.map frC⟩)] (DI r.1) [(0, ⟨3, true, false, r.2.map frC⟩)] := by
  unfold F_ref04_Lift at H
  refine DCall.mk Try.func68 rfl rfl ?_
  refine d_rsA ?_
  refine d_cutT (fun (b1 : Unit) => ⟨[], [(0, ⟨3, true, false, p0.fs.map frC⟩)], 1⟩) H (fun z2 hr2 H => ?_) (fun b1 H => ?_)
  ·
    refine d_rsA ?_
    refine d_block ?_
    refine d_loopS (fun (s4 : Int) => ⟨[(1, DI p1), (2, DI p2), (3, .ptr 1 0 0), (10, .own 0 0 p0.fs.length), (11, DI (p0.fs.length : Int)), (12, DI s4)], [(0, ⟨3, true, false, p0.fs.map frC⟩), (1, ⟨3, false, false, [[DI p0.sh, .sl (p0.ws.map uC), .own 0 0 p0.fs.length]]⟩)], 2⟩) H (wkE [(0, 0), (1, 1)]) (fun s4 y5 hq5 H => ?_)
    refine d_rsA ?_
    refine d_seq fun K k6 => ?_
    replace H := fs H; rcases H with ⟨h7, H⟩ | ⟨h7, H⟩
    ·
      refine d_condA ?_
      refine d_skip ?_
      refine k6 _ ?_
      refine d_seq fun K k8 => ?_
      refine d_block ?_
      replace H := ba H; obtain ⟨v9, hv9, H⟩ := H
      refine d_rsA ?_
      refine d_rsA ?_
      replace H := fs H; rcases H with ⟨h10, H⟩ | ⟨h10, H⟩
      ·
        refine d_condA ?_
        refine d_rs rfl ?_
        refine rg ?_
        refine go (m_stO (c := frC) hv9.h (Fe.mk p1 (w64 ((w64 (p2 * 4294967296)) + p1)) (-1)) i61.ok) ?_
        refine .nil ⟨by kernel_rfl, ?_⟩
        refine d_rsA ?_
        refine d_ret ?_
        change RetD _ _ _ _ _ _ _
        have e := se H; subst e
        have e := hq5 _ rfl; subst e
        have e := hr2 _ rfl; subst e
        exact finE [(0, 0)] (.tmp (.nil))
      refine d_condB ?_
      refine d_skip ?_
      refine k8 _ ?_
      refine d_regA ?_
      have e := se H; subst e
      exact ⟨_, rfl, wkE [(0, 0), (1, 1)]⟩
    refine d_condB ?_
    refine d_exit ?_
    have e := se H; subst e
    have e := hq5 _ rfl; subst e
    exact ⟨_, rfl, wkE [(0, 0)]⟩
  refine d_rsA ?_
  refine d_ret ?_
  change RetD _ _ _ _ _ _ _
  have e := se H; subst e
  exact finE [(0, 0)] (.tmp (.nil))

noncomputable def F_ref05_Go (p0 : Sp) (p1 : Int) (p2 : Int) : Option (Int × Int) :=
 if p1 < 0 then
 (some ((0, 2)))
 else
 if (p0.ws.length : Int) ≤ p1 then
 (some ((0, 2)))
 else
 if p2 < 0 then
 (some ((0, 2)))
 else
 if 0 ≤ wu p0.sh then
 (at_ p0.fs (shrN .i64 p1 (wu p0.sh))).bind fun v7 =>
 if v7.ow = (-1) then
 (some ((0, 5)))
 else
 bndR (loopO (fun (s12 : Int × Int × Int) =>
 if (w64 ((shlN .i64 1 (wu p0.sh)) - s12.2.2)) ≤ s12.1 then
 ((at_ p0.fs s12.2.1).bind fun v16 =>
 if v16.nx = (-1) then
 (some (.out (.inr ((0, 2)))))
 else
 some (.go ((w64 (s12.1 - (w64 ((shlN .i64 1 (wu p0.sh)) - s12.2.2))), v16.nx, 0))))
 else
 some (.out (.inl ((s12.1, s12.2.1, s12.2.2))))) (p2, shrN .i64 p1 (wu p0.sh), bits .and .i64 p1 (w64 ((shlN .i64 1 (wu p0.sh)) - 1)))) fun (b9 : Int × Int × Int) =>
 some ((w64 ((w64 ((shlN .i64 b9.2.1 (wu p0.sh)) + b9.2.2)) + b9.1), 0))
 else none

set_option maxRecDepth 20000 in
set_option maxHeartbeats 4000000 in
theorem F_ref05_Go_ok {p0 : Sp} {p1 : Int} {p2 : Int} {r : Int × Int} (H : Sm (F_ref05_Go p0 p1 p2) r) : DCall Try.prog 18 [.agg [DI p0.sh, .sl (p0.ws.map uC), .sl (p0.fs.map frC)], DI p1, DI p2] [] (.tup [DI r.1, DI r.2]) [] := by
  unfold F_ref05_Go at H
  refine DCall.mk Try.func18 rfl rfl ?_
  refine d_rsA ?_
  refine d_seq fun K k1 => ?_
  replace H := fs H; rcases H with ⟨h2, H⟩ | ⟨h2, H⟩
  ·
    refine d_rsA ?_
    refine d_condA ?_
    refine d_rsA ?_
    refine d_ret ?_
    change RetD _ _ _ _ _ _ _
    have e := se H; subst e
    exact finE [] (.tmp (.tmp (.nil)))
  replace H := fs H; rcases H with ⟨h3, H⟩ | ⟨h3, H⟩
  ·
    refine d_rsA ?_
    refine d_condA ?_
    refine d_rsA ?_
    refine d_ret ?_
    change RetD _ _ _ _ _ _ _
    have e := se H; subst e
    exact finE [] (.tmp (.tmp (.nil)))
  refine d_rsA ?_
  replace H := fs H; rcases H with ⟨h4, H⟩ | ⟨h4, H⟩
  ·
    refine d_condA ?_
    refine d_rsA ?_
    refine d_ret ?_
    change RetD _ _ _ _ _ _ _
    have e := se H; subst e
    exact finE [] (.tmp (.tmp (.nil)))
  refine d_condB ?_
  refine d_skip ?_
  refine k1 _ ?_
  replace H := cq H; obtain ⟨h5, H⟩ := H
  refine d_asA ?_
  refine d_seq fun K k6 => ?_
  replace H := ba H; obtain ⟨v7, hv7, H⟩ := H
  refine d_rsA ?_
  replace H := fs H; rcases H with ⟨h8, H⟩ | ⟨h8, H⟩
  ·
    refine d_condA ?_
    refine d_rsA ?_
    refine d_ret ?_
    change RetD _ _ _ _ _ _ _
    have e := se H; subst e
    exact finE [] (.tmp (.tmp (.nil)))
  refine d_condB ?_
  refine d_skip ?_
  refine k6 _ ?_
  refine d_cutT (fun (b9 : Int × Int × Int) => ⟨[(2, DI b9.1), (3, .ptr 0 0 0), (8, DI b9.2.1), (9, DI b9.2.2)], [(0, ⟨3, false, false, [[DI p0.sh, .sl (p0.ws.map uC), .sl (p0.fs.map frC)]]⟩)], 1⟩) H (fun z10 hr10 H => ?_) (fun b9 H => ?_)
  ·
    refine d_block ?_
    refine d_loopS (fun (s12 : Int × Int × Int) => ⟨[(2, DI s12.1), (3, .ptr 0 0 0), (8, DI s12.2.1), (9, DI s12.2.2)], [(0, ⟨3, false, false, [[DI p0.sh, .sl (p0.ws.map uC), .sl (p0.fs.map frC)]]⟩)], 1⟩) H (wkE [(0, 0)]) (fun s12 y13 hq13 H => ?_)
    refine d_seq fun K k14 => ?_
    refine d_rsA ?_
    replace H := fs H; rcases H with ⟨h15, H⟩ | ⟨h15, H⟩
    ·
      refine d_condA ?_
      refine d_skip ?_
      refine k14 _ ?_
      refine d_block ?_
      refine d_rsA ?_
      replace H := ba H; obtain ⟨v16, hv16, H⟩ := H
      refine d_rsA ?_
      refine d_rsA ?_
      replace H := fs H; rcases H with ⟨h17, H⟩ | ⟨h17, H⟩
      ·
        refine d_condA ?_
        refine d_rsA ?_
        refine d_ret ?_
        change RetD _ _ _ _ _ _ _
        have e := se H; subst e
        have e := hq13 _ rfl; subst e
        have e := hr10 _ rfl; subst e
        exact finE [] (.tmp (.tmp (.nil)))
      refine d_condB ?_
      refine d_skip ?_
      have e := se H; subst e
      exact ⟨_, rfl, wkE [(0, 0)]⟩
    refine d_condB ?_
    refine d_exit ?_
    have e := se H; subst e
    have e := hq13 _ rfl; subst e
    exact ⟨_, rfl, wkE [(0, 0)]⟩
  refine d_rsA ?_
  refine d_ret ?_
  change RetD _ _ _ _ _ _ _
  have e := se H; subst e
  exact finE [] (.tmp (.tmp (.nil)))

noncomputable def F_ref09_Grow (p0 : Sp) (p1 : Inc) (p2 : Int) : Option (Inc × Int × Int × List Fe) :=
 (F_ref09_Extra p0 p1 p2).bind fun v1 =>
 (F_ref04_Free p0).bind fun v3 =>
 if (v3.length : Int) < v1 then
 (some ((Inc.mk 0 0 0 0 0, 0, 4, p0.fs)))
 else
 (loopO (fun (s8 : List Fe × Inc × Int) =>
 if 0 < s8.2.2 then
 ((F_ref04_Lift (Sp.mk p0.sh p0.ws s8.1) s8.2.1.seq s8.2.1.belt).bind fun v13 =>
 if v13.2.length = s8.1.length then
 if s8.2.1.first = (-1) then
 (some (.go ((v13.2, Inc.mk s8.2.1.seq s8.2.1.belt v13.1 v13.1 s8.2.1.words, w64 (s8.2.2 - 1)))))
 else
 (at_ v13.2 s8.2.1.last).bind fun v16 =>
 some (.go ((v13.2.set (Int.toNat s8.2.1.last) (Fe.mk v16.ow v16.st v13.1), Inc.mk s8.2.1.seq s8.2.1.belt s8.2.1.first v13.1 s8.2.1.words, w64 (s8.2.2 - 1))))
 else none)
 else
 some (.out ((s8.1, s8.2.1)))) (p0.fs, p1, v1)).bind fun (b5 : List Fe × Inc) =>
 if 0 ≤ wu p0.sh then
 (F_ref05_Go (Sp.mk p0.sh p0.ws b5.1) (shlN .i64 b5.2.first (wu p0.sh)) p1.words).bind fun v19 =>
 some ((Inc.mk b5.2.seq b5.2.belt b5.2.first b5.2.last (w64 (b5.2.words + p2)), v19.1, 0, b5.1))
 else none

set_option maxRecDepth 20000 in
set_option maxHeartbeats 4000000 in
theorem F_ref09_Grow_ok {p0 : Sp} {p1 : Inc} {p2 : Int} {r : Inc × Int × Int × List Fe} (H : Sm (F_ref09_Grow p0 p1 p2) r) : DCall Try.prog 56 [.agg [DI p0.sh, .sl (p0.ws.map uC), .own 0 0 p0.fs.length], .agg [DI p1.seq, DI p1.belt, DI p1.first, DI p1.last, DI p1.words], DI p2] [(0, ⟨3, true, false, p0.fs.map frC⟩)] (.tup [.agg [DI r.1.seq, DI r.1.belt, DI r.1.first, DI r.1.last, DI r.1.words], DI r.2.1, DI r.2.2.1]) [(0, ⟨3, true, false, r.2.2.2.map frC⟩)] := by
  unfold F_ref09_Grow at H
  refine DCall.mk Try.func56 rfl rfl ?_
  refine d_rsA ?_
  replace H := bd H; obtain ⟨v1, hv1, H⟩ := H
  refine d_rs rfl ?_
  refine rg ?_
  refine go (m_cS [] (F_ref09_Extra_ok hv1) rfl ScS.nil) ?_
  refine rg ?_
  refine .nil ⟨by kernel_rfl, ?_⟩
  refine d_seq fun K k2 => ?_
  replace H := bd H; obtain ⟨v3, hv3, H⟩ := H
  refine d_rs rfl ?_
  refine rg ?_
  refine go (m_cS [] (F_ref04_Free_ok hv3) rfl (ScS.cons (scC (fun _ => rfl)) ScS.nil)) ?_
  refine rg ?_
  refine .nil ⟨by kernel_rfl, ?_⟩
  replace H := fs H; rcases H with ⟨h4, H⟩ | ⟨h4, H⟩
  ·
    refine d_condA ?_
    refine d_rsA ?_
    refine d_ret ?_
    change RetD _ _ _ _ _ _ _
    have e := se H; subst e
    exact finE [(0, 0)] (.cell i51.ok rfl rfl rfl rfl (.tmp (.tmp (.nil))))
  refine d_condB ?_
  refine d_skip ?_
  refine k2 _ ?_
  refine d_rsA ?_
  refine d_cutS (fun (b5 : List Fe × Inc) => ⟨[(2, DI p2), (3, .ptr 1 0 0), (4, .ptr 2 0 0), (6, .ptr 3 0 0), (10, DI p1.words)], [(0, ⟨3, true, false, b5.1.map frC⟩), (1, ⟨3, false, false, [[DI p0.sh, .sl (p0.ws.map uC), .own 0 0 b5.1.length]]⟩), (2, ⟨5, false, false, [[DI b5.2.seq, DI b5.2.belt, DI b5.2.first, DI b5.2.last, DI b5.2.words]]⟩), (3, ⟨5, false, false, [[DI 0, DI 0, DI 0, DI 0, DI 0]]⟩)], 4⟩) H (fun z6 H => ?_) (fun b5 H => ?_)
  ·
    refine d_block ?_
    refine d_loopS (fun (s8 : List Fe × Inc × Int) => ⟨[(2, DI p2), (3, .ptr 1 0 0), (4, .ptr 2 0 0), (6, .ptr 3 0 0), (9, DI s8.2.2), (10, DI p1.words)], [(0, ⟨3, true, false, s8.1.map frC⟩), (1, ⟨3, false, false, [[DI p0.sh, .sl (p0.ws.map uC), .own 0 0 s8.1.length]]⟩), (2, ⟨5, false, false, [[DI s8.2.1.seq, DI s8.2.1.belt, DI s8.2.1.first, DI s8.2.1.last, DI s8.2.1.words]]⟩), (3, ⟨5, false, false, [[DI 0, DI 0, DI 0, DI 0, DI 0]]⟩)], 4⟩) H (wkE [(0, 0), (1, 1), (2, 2), (3, 3)]) (fun s8 y9 hq9 H => ?_)
    refine d_seq fun K k10 => ?_
    refine d_rsA ?_
    replace H := fs H; rcases H with ⟨h11, H⟩ | ⟨h11, H⟩
    ·
      refine d_condA ?_
      refine d_skip ?_
      refine k10 _ ?_
      refine d_seq fun K k12 => ?_
      refine d_block ?_
      replace H := bd H; obtain ⟨v13, hv13, H⟩ := H
      replace H := cq H; obtain ⟨h17, H⟩ := H
      refine d_rs rfl ?_
      refine rg ?_
      refine go (m_cS [(0, 0)] (F_ref04_Lift_ok hv13) rfl (ScS.cons (scC (fun _ => rfl)) ScS.nil)) ?_
      refine rg ?_
      refine .nil ⟨by kernel_rfl, ?_⟩
      refine d_seq fun K k14 => ?_
      refine d_rsA ?_
      replace H := fs H; rcases H with ⟨h15, H⟩ | ⟨h15, H⟩
      ·
        refine d_condA ?_
        refine d_regA ?_
        refine k14 _ ?_
        refine d_regA ?_
        refine k12 _ ?_
        refine d_regA ?_
        have e := se H; subst e
        exact ⟨_, rfl, wkE [(0, 0), (1, 1), (2, 2), (3, 3)]⟩
      refine d_condB ?_
      replace H := ba H; obtain ⟨v16, hv16, H⟩ := H
      refine d_region rfl ?_
      refine rg ?_
      refine go (m_stO (c := frC) hv16.h (Fe.mk v16.ow v16.st v13.1) i3.ok) ?_
      refine .nil ⟨by kernel_rfl, ?_⟩
      refine k14 _ ?_
      refine d_regA ?_
      refine k12 _ ?_
      refine d_regA ?_
      have e := se H; subst e
      exact ⟨_, rfl, wkE [(0, 0), (1, 1), (2, 2), (3, 3)]⟩
    refine d_condB ?_
    refine d_exit ?_
    have e := se H; subst e
    have e := hq9 _ rfl; subst e
    exact wkE [(0, 0), (1, 1), (2, 2), (3, 3)]
  refine d_rsA ?_
  replace H := cq H; obtain ⟨h18, H⟩ := H
  replace H := bd H; obtain ⟨v19, hv19, H⟩ := H
  refine d_rs rfl ?_
  refine rg ?_
  refine go (m_cS [] (F_ref05_Go_ok hv19) rfl ScS.nil) ?_
  refine rg ?_
  refine .nil ⟨by kernel_rfl, ?_⟩
  refine d_rsA ?_
  refine d_ret ?_
  change RetD _ _ _ _ _ _ _
  have e := se H; subst e
  exact finE [(0, 0)] (.cell i51.ok rfl rfl rfl rfl (.tmp (.tmp (.nil))))

noncomputable def F_ref09_Alloc (p0 : Sp) (p1 : Inc) (p2 : Int) : Option (Sp × Inc × Int × Int) :=
 (F_ref09_Valid p0 p1).bind fun v2 =>
 if v2 = true then
 (if p2 < 1 then
 (some ((Sp.mk 0 ([] : List Int) ([] : List Fe), Inc.mk 0 0 0 0 0, 0, 1)))
 else
 if 48 < p2 then
 (some ((Sp.mk 0 ([] : List Int) ([] : List Fe), Inc.mk 0 0 0 0 0, 0, 1)))
 else
 if p1.words = 0 then
 ((F_ref09_Owns p0 p1.seq).bind fun v8 =>
 if v8 = true then
 (some ((Sp.mk 0 ([] : List Int) ([] : List Fe), Inc.mk 0 0 0 0 0, 0, 5)))
 else
 (F_ref03_Copy p0).bind fun v10 =>
 (F_ref09_Grow v10 p1 p2).bind fun v11 =>
 if v11.2.2.2.length = v10.fs.length then
 if v11.2.2.1 = 0 then
 (some ((Sp.mk v10.sh v10.ws v11.2.2.2, v11.1, v11.2.1, 0)))
 else
 some ((Sp.mk 0 ([] : List Int) ([] : List Fe), Inc.mk 0 0 0 0 0, 0, v11.2.2.1))
 else none)
 else
 (F_ref03_Copy p0).bind fun v15 =>
 (F_ref09_Grow v15 p1 p2).bind fun v16 =>
 if v16.2.2.2.length = v15.fs.length then
 if v16.2.2.1 = 0 then
 (some ((Sp.mk v15.sh v15.ws v16.2.2.2, v16.1, v16.2.1, 0)))
 else
 some ((Sp.mk 0 ([] : List Int) ([] : List Fe), Inc.mk 0 0 0 0 0, 0, v16.2.2.1))
 else none)
 else
 some ((Sp.mk 0 ([] : List Int) ([] : List Fe), Inc.mk 0 0 0 0 0, 0, 1))

end Go.Proofs.Ythpnlnjdmlbnaaa
