/- Parts of the proof: B1. No condition. -/
import Derived.Test.YthpnlnjdmlbnaaaMW4
/- Trial. -/
namespace Go.Proofs.Ythpnlnjdmlbnaaa
open Go.RowKit
set_option linter.unusedSimpArgs false
set_option linter.unusedVariables false
structure RSet where
  frm : Int
  to : Int
  slots : List Int
def RSet.c (x : RSet) : List DV := [DI x.frm, DI x.to, .sl (x.slots.map iC)]
def RSet.d (x : RSet) : List DV := [DI x.frm, DI x.to, .dp 1 (x.slots.map iC)]

noncomputable def F_make_Small (p0 : Sp) : Option Bool :=
 if (p0.ws.length : Int) ≤ 3000 then
 (some (decide ((p0.fs.length : Int) ≤ 80)))
 else
 some (false)

set_option maxRecDepth 20000 in
set_option maxHeartbeats 4000000 in
theorem F_make_Small_ok {p0 : Sp} {r : Bool} (H : Sm (F_make_Small p0) r) : DCall Try.prog 5 [.agg [DI p0.sh, .sl (p0.ws.map uC), .sl (p0.fs.map frC)]] [] (DB r) [] := by
  unfold F_make_Small at H
  refine DCall.mk Try.func5 rfl rfl ?_
  refine d_rsA ?_
  replace H := fs H; rcases H with ⟨h1, H⟩ | ⟨h1, H⟩
  ·
    refine d_rsA ?_
    refine d_ret ?_
    change RetD _ _ _ _ _ _ _
    have e := se H; subst e
    exact finE [] (.tmp (.nil))
  refine d_rsA ?_
  refine d_ret ?_
  change RetD _ _ _ _ _ _ _
  have e := se H; subst e
  exact finE [] (.tmp (.nil))

noncomputable def F_make_Sets (p0 : List RSet) : Option Bool :=
 (loopO (fun (s4 : Int × Int) =>
 if s4.2 < (p0.length : Int) then
 ((at_ p0 s4.2).bind fun v9 =>
 some (.go ((w64 (s4.1 + (v9.slots.length : Int)), w64 (s4.2 + 1)))))
 else
 some (.out (s4.1))) (0, 0)).bind fun (b1 : Int) =>
 if (p0.length : Int) ≤ 40 then
 (some (decide (b1 ≤ 300)))
 else
 some (false)

set_option maxRecDepth 20000 in
set_option maxHeartbeats 4000000 in
theorem F_make_Sets_ok {p0 : List RSet} {r : Bool} (H : Sm (F_make_Sets p0) r) : DCall Try.prog 6 [.sl (p0.map RSet.c)] [] (DB r) [] := by
  unfold F_make_Sets at H
  refine DCall.mk Try.func6 rfl rfl ?_
  refine d_rsA ?_
  refine d_rsA ?_
  refine d_cutS (fun (b1 : Int) => ⟨[(0, .sl (p0.map RSet.c)), (3, DI b1)], [], 0⟩) H (fun z2 H => ?_) (fun b1 H => ?_)
  ·
    refine d_rsA ?_
    refine d_block ?_
    refine d_loopS (fun (s4 : Int × Int) => ⟨[(0, .sl (p0.map RSet.c)), (3, DI s4.1), (6, .sl (p0.map RSet.c)), (7, DI (p0.length : Int)), (8, DI s4.2)], [], 0⟩) H (wkE []) (fun s4 y5 hq5 H => ?_)
    refine d_rsA ?_
    refine d_seq fun K k6 => ?_
    replace H := fs H; rcases H with ⟨h7, H⟩ | ⟨h7, H⟩
    ·
      refine d_condA ?_
      refine d_skip ?_
      refine k6 _ ?_
      refine d_seq fun K k8 => ?_
      refine d_block ?_
      replace H := ba H; obtain ⟨v9, hv9, H⟩ := H
      refine d_rsA ?_
      refine d_regA ?_
      refine k8 _ ?_
      refine d_regA ?_
      have e := se H; subst e
      exact ⟨_, rfl, wkE []⟩
    refine d_condB ?_
    refine d_exit ?_
    have e := se H; subst e
    have e := hq5 _ rfl; subst e
    exact wkE []
  replace H := fs H; rcases H with ⟨h10, H⟩ | ⟨h10, H⟩
  ·
    refine d_rsA ?_
    refine d_ret ?_
    change RetD _ _ _ _ _ _ _
    have e := se H; subst e
    exact finE [] (.tmp (.nil))
  refine d_rsA ?_
  refine d_ret ?_
  change RetD _ _ _ _ _ _ _
  have e := se H; subst e
  exact finE [] (.tmp (.nil))

noncomputable def F_ref03_shift (p0 : Int) : Option Bool :=
 if 3 ≤ p0 then
 (some (decide (p0 ≤ 8)))
 else
 some (false)

set_option maxRecDepth 20000 in
set_option maxHeartbeats 4000000 in
theorem F_ref03_shift_ok {p0 : Int} {r : Bool} (H : Sm (F_ref03_shift p0) r) : DCall Try.prog 36 [DI p0] [] (DB r) [] := by
  unfold F_ref03_shift at H
  refine DCall.mk Try.func36 rfl rfl ?_
  refine d_rsA ?_
  replace H := fs H; rcases H with ⟨h1, H⟩ | ⟨h1, H⟩
  ·
    refine d_rsA ?_
    refine d_ret ?_
    change RetD _ _ _ _ _ _ _
    have e := se H; subst e
    exact finE [] (.tmp (.nil))
  refine d_rsA ?_
  refine d_ret ?_
  change RetD _ _ _ _ _ _ _
  have e := se H; subst e
  exact finE [] (.tmp (.nil))

noncomputable def F_ref03_New (p0 : Int) (p1 : Int) : Option (Sp × Int) :=
 (F_ref03_shift p0).bind fun v2 =>
 if v2 = true then
 (if p1 < 2 then
 (some ((Sp.mk 0 ([] : List Int) ([] : List Fe), 1)))
 else
 if 64 < p1 then
 (some ((Sp.mk 0 ([] : List Int) ([] : List Fe), 1)))
 else
 if 0 ≤ wu p0 then
 if 0 ≤ shlN .i64 p1 (wu p0) ∧ (shlN .i64 p1 (wu p0)) * 8 ≤ 281474976710656 ∧ shlN .i64 p1 (wu p0) ≤ 9223372036854775807 then
 if 0 ≤ p1 ∧ p1 * 24 ≤ 281474976710656 ∧ p1 ≤ 9223372036854775807 then
 (loopO (fun (s12 : List Fe × Int) =>
 if s12.2 < ((List.replicate (Int.toNat p1) (Fe.mk 0 0 0)).length : Int) then
 ((at_ s12.1 s12.2).bind fun v17 =>
 some (.go ((s12.1.set (Int.toNat s12.2) (Fe.mk (-1) (-1) (-1)), w64 (s12.2 + 1)))))
 else
 some (.out ((p0, List.replicate (Int.toNat (shlN .i64 p1 (wu p0))) 0, s12.1)))) (List.replicate (Int.toNat p1) (Fe.mk 0 0 0), 0)).bind fun (b9 : Int × List Int × List Fe) =>
 some ((Sp.mk b9.1 b9.2.1 b9.2.2, 0))
 else none
 else none
 else none)
 else
 some ((Sp.mk 0 ([] : List Int) ([] : List Fe), 1))

set_option maxRecDepth 20000 in
set_option maxHeartbeats 4000000 in
theorem F_ref03_New_ok {p0 : Int} {p1 : Int} {r : Sp × Int} (H : Sm (F_ref03_New p0 p1) r) : DCall Try.prog 20 [DI p0, DI p1] [] (.tup [.agg [DI r.1.sh, .own 0 0 r.1.ws.length, .own 1 0 r.1.fs.length], DI r.2]) [(0, ⟨1, true, false, r.1.ws.map uC⟩), (1, ⟨3, true, false, r.1.fs.map frC⟩)] := by
  unfold F_ref03_New at H
  refine DCall.mk Try.func20 rfl rfl ?_
  refine d_rsA ?_
  refine d_seq fun K k1 => ?_
  replace H := bd H; obtain ⟨v2, hv2, H⟩ := H
  replace H := fs H; rcases H with ⟨h3, H⟩ | ⟨h3, H⟩
  ·
    replace H := fs H; rcases H with ⟨h4, H⟩ | ⟨h4, H⟩
    ·
      refine d_rs rfl ?_
      refine rg ?_
      refine go (m_cS [] (F_ref03_shift_ok hv2) rfl ScS.nil) ?_
      refine rg ?_
      refine .nil ⟨by kernel_rfl, ?_⟩
      refine d_condA ?_
      refine d_rsA ?_
      refine d_nilB 0 1 1 (by decide) rfl rfl ?_
      refine d_nilB 0 2 3 (by decide) rfl rfl ?_
      refine d_ret ?_
      change RetD _ _ _ _ _ _ _
      have e := se H; subst e
      exact finE [(0, 1), (1, 2)] (.cell i25.ok rfl rfl rfl rfl (.tmp (.nil)))
    refine d_rs rfl ?_
    refine rg ?_
    refine go (m_cS [] (F_ref03_shift_ok hv2) rfl ScS.nil) ?_
    refine rg ?_
    refine .nil ⟨by kernel_rfl, ?_⟩
    replace H := fs H; rcases H with ⟨h5, H⟩ | ⟨h5, H⟩
    ·
      refine d_condA ?_
      refine d_rsA ?_
      refine d_nilB 0 1 1 (by decide) rfl rfl ?_
      refine d_nilB 0 2 3 (by decide) rfl rfl ?_
      refine d_ret ?_
      change RetD _ _ _ _ _ _ _
      have e := se H; subst e
      exact finE [(0, 1), (1, 2)] (.cell i25.ok rfl rfl rfl rfl (.tmp (.nil)))
    refine d_condB ?_
    refine d_skip ?_
    refine k1 _ ?_
    replace H := cq H; obtain ⟨h6, H⟩ := H
    replace H := cq H; obtain ⟨h7, H⟩ := H
    replace H := cq H; obtain ⟨h8, H⟩ := H
    refine d_as mixedP rfl (by kernel_rfl) ?_
    refine rg ?_
    refine go (m_mkE (c := uC) 0 h7 i22.ok i28.ok) ?_
    refine rg ?_
    refine go (m_mkE (c := frC) (Fe.mk 0 0 0) h8 i23.ok i61.ok) ?_
    refine rg ?_
    refine .nil ⟨⟨by kernel_rfl, by kernel_rfl⟩, ?_⟩
    refine d_cutS (fun (b9 : Int × List Int × List Fe) => ⟨[(4, .ptr 0 0 0), (6, .ptr 1 0 0)], [(0, ⟨3, false, false, [[DI 0, DN, DN]]⟩), (1, ⟨3, false, false, [[DI b9.1, .own 2 0 b9.2.1.length, .own 3 0 b9.2.2.length]]⟩), (2, ⟨1, true, false, b9.2.1.map uC⟩), (3, ⟨3, true, false, b9.2.2.map frC⟩)], 4⟩) H (fun z10 H => ?_) (fun b9 H => ?_)
    ·
      refine d_rsA ?_
      refine d_block ?_
      refine d_loopS (fun (s12 : List Fe × Int) => ⟨[(4, .ptr 0 0 0), (6, .ptr 1 0 0), (31, DI ((List.replicate (Int.toNat p1) (Fe.mk 0 0 0)).length : Int)), (32, DI s12.2)], [(0, ⟨3, false, false, [[DI 0, DN, DN]]⟩), (1, ⟨3, false, false, [[DI p0, .own 2 0 (List.replicate (Int.toNat (shlN .i64 p1 (wu p0))) 0).length, .own 3 0 s12.1.length]]⟩), (2, ⟨1, true, false, (List.replicate (Int.toNat (shlN .i64 p1 (wu p0))) 0).map uC⟩), (3, ⟨3, true, false, s12.1.map frC⟩)], 4⟩) H (wkE [(0, 0), (1, 3), (2, 1), (3, 2)]) (fun s12 y13 hq13 H => ?_)
      refine d_rsA ?_
      refine d_seq fun K k14 => ?_
      replace H := fs H; rcases H with ⟨h15, H⟩ | ⟨h15, H⟩
      ·
        refine d_condA ?_
        refine d_skip ?_
        refine k14 _ ?_
        refine d_seq fun K k16 => ?_
        refine d_block ?_
        refine d_rsA ?_
        replace H := ba H; obtain ⟨v17, hv17, H⟩ := H
        refine d_region rfl ?_
        refine rg ?_
        refine go (m_stO (c := frC) hv17.h (Fe.mk (-1) (-1) (-1)) i61.ok) ?_
        refine .nil ⟨by kernel_rfl, ?_⟩
        refine k16 _ ?_
        refine d_regA ?_
        have e := se H; subst e
        exact ⟨_, rfl, wkE [(0, 0), (1, 1), (2, 2), (3, 3)]⟩
      refine d_condB ?_
      refine d_exit ?_
      have e := se H; subst e
      have e := hq13 _ rfl; subst e
      exact wkE [(0, 0), (1, 1), (2, 2), (3, 3)]
    refine d_rsA ?_
    refine d_ret ?_
    change RetD _ _ _ _ _ _ _
    have e := se H; subst e
    exact finE [(0, 2), (1, 3)] (.cell i25.ok rfl rfl rfl rfl (.tmp (.nil)))
  refine d_rs rfl ?_
  refine rg ?_
  refine go (m_cS [] (F_ref03_shift_ok hv2) rfl ScS.nil) ?_
  refine rg ?_
  refine .nil ⟨by kernel_rfl, ?_⟩
  refine d_condA ?_
  refine d_rsA ?_
  refine d_nilB 0 1 1 (by decide) rfl rfl ?_
  refine d_nilB 0 2 3 (by decide) rfl rfl ?_
  refine d_ret ?_
  change RetD _ _ _ _ _ _ _
  have e := se H; subst e
  exact finE [(0, 1), (1, 2)] (.cell i25.ok rfl rfl rfl rfl (.tmp (.nil)))

noncomputable def F_frame_shift (p0 : Int) : Option Bool :=
 if 3 ≤ p0 then
 (some (decide (p0 ≤ 8)))
 else
 some (false)

set_option maxRecDepth 20000 in
set_option maxHeartbeats 4000000 in
theorem F_frame_shift_ok {p0 : Int} {r : Bool} (H : Sm (F_frame_shift p0) r) : DCall Try.prog 43 [DI p0] [] (DB r) [] := by
  unfold F_frame_shift at H
  refine DCall.mk Try.func43 rfl rfl ?_
  refine d_rsA ?_
  replace H := fs H; rcases H with ⟨h1, H⟩ | ⟨h1, H⟩
  ·
    refine d_rsA ?_
    refine d_ret ?_
    change RetD _ _ _ _ _ _ _
    have e := se H; subst e
    exact finE [] (.tmp (.nil))
  refine d_rsA ?_
  refine d_ret ?_
  change RetD _ _ _ _ _ _ _
  have e := se H; subst e
  exact finE [] (.tmp (.nil))

noncomputable def F_frame_zero (p0 : List Int) : Option Bool :=
 bndR (loopO (fun (s4 : Int) =>
 if s4 < (p0.length : Int) then
 ((at_ p0 s4).bind fun v9 =>
 if v9 = 0 then
 (some (.go (w64 (s4 + 1))))
 else
 some (.out (.inr (false))))
 else
 some (.out (.inl (())))) 0) fun (b1 : Unit) =>
 some (true)

set_option maxRecDepth 20000 in
set_option maxHeartbeats 4000000 in
theorem F_frame_zero_ok {p0 : List Int} {r : Bool} (H : Sm (F_frame_zero p0) r) : DCall Try.prog 44 [.sl (p0.map uC)] [] (DB r) [] := by
  unfold F_frame_zero at H
  refine DCall.mk Try.func44 rfl rfl ?_
  refine d_rsA ?_
  refine d_cutT (fun (b1 : Unit) => ⟨[], [], 0⟩) H (fun z2 hr2 H => ?_) (fun b1 H => ?_)
  ·
    refine d_rsA ?_
    refine d_block ?_
    refine d_loopS (fun (s4 : Int) => ⟨[(5, .sl (p0.map uC)), (6, DI (p0.length : Int)), (7, DI s4)], [], 0⟩) H (wkE []) (fun s4 y5 hq5 H => ?_)
    refine d_rsA ?_
    refine d_seq fun K k6 => ?_
    replace H := fs H; rcases H with ⟨h7, H⟩ | ⟨h7, H⟩
    ·
      refine d_condA ?_
      refine d_skip ?_
      refine k6 _ ?_
      refine d_seq fun K k8 => ?_
      refine d_block ?_
      replace H := ba H; obtain ⟨v9, hv9, H⟩ := H
      refine d_rsA ?_
      refine d_rsA ?_
      replace H := fs H; rcases H with ⟨h10, H⟩ | ⟨h10, H⟩
      ·
        refine d_condB ?_
        refine d_skip ?_
        refine k8 _ ?_
        refine d_regA ?_
        have e := se H; subst e
        exact ⟨_, rfl, wkE []⟩
      refine d_condA ?_
      refine d_rsA ?_
      refine d_ret ?_
      change RetD _ _ _ _ _ _ _
      have e := se H; subst e
      have e := hq5 _ rfl; subst e
      have e := hr2 _ rfl; subst e
      exact finE [] (.tmp (.nil))
    refine d_condB ?_
    refine d_exit ?_
    have e := se H; subst e
    have e := hq5 _ rfl; subst e
    exact ⟨_, rfl, wkE []⟩
  refine d_rsA ?_
  refine d_ret ?_
  change RetD _ _ _ _ _ _ _
  have e := se H; subst e
  exact finE [] (.tmp (.nil))

noncomputable def F_frame_straight (p0 : Sp) : Option Bool :=
 bndR (loopO (fun (s4 : Int) =>
 if s4 < (p0.fs.length : Int) then
 (bndR ((at_ p0.fs s4).bind fun v10 =>
 loopO (fun (s12 : Int × Int) =>
 if 0 ≤ s12.1 then
 (if s12.2 < (p0.fs.length : Int) then
 (if s12.1 = s4 then
 (some (.out (.inr (.out (.inr (false))))))
 else
 (at_ p0.fs s12.1).bind fun v20 =>
 some (.go ((v20.nx, w64 (s12.2 + 1)))))
 else
 some (.out (.inl (()))))
 else
 some (.out (.inl (())))) (v10.nx, 0)) fun (b8 : Unit) =>
 some (.go (w64 (s4 + 1))))
 else
 some (.out (.inl (())))) 0) fun (b1 : Unit) =>
 some (true)

set_option maxRecDepth 20000 in
set_option maxHeartbeats 4000000 in
theorem F_frame_straight_ok {p0 : Sp} {r : Bool} (H : Sm (F_frame_straight p0) r) : DCall Try.prog 45 [.agg [DI p0.sh, .sl (p0.ws.map uC), .sl (p0.fs.map frC)]] [] (DB r) [] := by
  unfold F_frame_straight at H
  refine DCall.mk Try.func45 rfl rfl ?_
  refine d_rsA ?_
  refine d_cutT (fun (b1 : Unit) => ⟨[], [], 0⟩) H (fun z2 hr2 H => ?_) (fun b1 H => ?_)
  ·
    refine d_rsA ?_
    refine d_block ?_
    refine d_loopS (fun (s4 : Int) => ⟨[(1, .ptr 0 0 0), (8, DI (p0.fs.length : Int)), (9, DI s4)], [(0, ⟨3, false, false, [[DI p0.sh, .sl (p0.ws.map uC), .sl (p0.fs.map frC)]]⟩)], 1⟩) H (wkE [(0, 0)]) (fun s4 y5 hq5 H => ?_)
    refine d_rsA ?_
    refine d_seq fun K k6 => ?_
    replace H := fs H; rcases H with ⟨h7, H⟩ | ⟨h7, H⟩
    ·
      refine d_condA ?_
      refine d_skip ?_
      refine k6 _ ?_
      refine d_cutT (fun (b8 : Unit) => ⟨[(1, .ptr 0 0 0), (8, DI (p0.fs.length : Int)), (9, DI s4)], [(0, ⟨3, false, false, [[DI p0.sh, .sl (p0.ws.map uC), .sl (p0.fs.map frC)]]⟩)], 1⟩) H (fun z9 hr9 H => ?_) (fun b8 H => ?_)
      ·
        refine d_block ?_
        refine d_rsA ?_
        replace H := ba H; obtain ⟨v10, hv10, H⟩ := H
        refine d_rsA ?_
        refine d_rsA ?_
        refine d_block ?_
        refine d_loopS (fun (s12 : Int × Int) => ⟨[(1, .ptr 0 0 0), (3, DI s4), (4, DI s12.1), (5, DI s12.2), (8, DI (p0.fs.length : Int)), (9, DI s4)], [(0, ⟨3, false, false, [[DI p0.sh, .sl (p0.ws.map uC), .sl (p0.fs.map frC)]]⟩)], 1⟩) H (wkE [(0, 0)]) (fun s12 y13 hq13 H => ?_)
        refine d_seq fun K k14 => ?_
        replace H := fs H; rcases H with ⟨h15, H⟩ | ⟨h15, H⟩
        ·
          refine d_rsA ?_
          replace H := fs H; rcases H with ⟨h16, H⟩ | ⟨h16, H⟩
          ·
            refine d_condA ?_
            refine d_skip ?_
            refine k14 _ ?_
            refine d_seq fun K k17 => ?_
            refine d_block ?_
            refine d_seq fun K k18 => ?_
            refine d_rsA ?_
            replace H := fs H; rcases H with ⟨h19, H⟩ | ⟨h19, H⟩
            ·
              refine d_condA ?_
              refine d_rsA ?_
              refine d_ret ?_
              change RetD _ _ _ _ _ _ _
              have e := se H; subst e
              have e := hq13 _ rfl; subst e
              have e := hr9 _ rfl; subst e
              have e := hq5 _ rfl; subst e
              have e := hr2 _ rfl; subst e
              exact finE [] (.tmp (.nil))
            refine d_condB ?_
            refine d_skip ?_
            refine k18 _ ?_
            replace H := ba H; obtain ⟨v20, hv20, H⟩ := H
            refine d_regA ?_
            refine k17 _ ?_
            refine d_regA ?_
            have e := se H; subst e
            exact ⟨_, rfl, wkE [(0, 0)]⟩
          refine d_condB ?_
          refine d_exit ?_
          have e := se H; subst e
          have e := hq13 _ rfl; subst e
          exact ⟨_, rfl, wkE [(0, 0)]⟩
        refine d_rsA ?_
        refine d_condB ?_
        refine d_exit ?_
        have e := se H; subst e
        have e := hq13 _ rfl; subst e
        exact ⟨_, rfl, wkE [(0, 0)]⟩
      refine d_regA ?_
      have e := se H; subst e
      exact ⟨_, rfl, wkE [(0, 0)]⟩
    refine d_condB ?_
    refine d_exit ?_
    have e := se H; subst e
    have e := hq5 _ rfl; subst e
    exact ⟨_, rfl, wkE []⟩
  refine d_rsA ?_
  refine d_ret ?_
  change RetD _ _ _ _ _ _ _
  have e := se H; subst e
  exact finE [] (.tmp (.nil))

noncomputable def F_frame_Valid (p0 : Sp) : Option Bool :=
 (F_frame_shift p0.sh).bind fun v2 =>
 if v2 = true then
 (if (p0.fs.length : Int) < 2 then
 (some (false))
 else
 if 64 < (p0.fs.length : Int) then
 (some (false))
 else
 if 0 ≤ wu p0.sh then
 if (p0.ws.length : Int) = (shlN .i64 (p0.fs.length : Int) (wu p0.sh)) then
 (bndR (loopO (fun (s11 : Int × Int) =>
 if s11.2 < (p0.fs.length : Int) then
 ((at_ p0.fs s11.2).bind fun v16 =>
 if v16.ow = (-1) then
 (if v16.st = (-1) then
 (if v16.nx = (-1) then
 (if 0 ≤ shlN .i64 s11.2 (wu p0.sh) ∧ shlN .i64 s11.2 (wu p0.sh) ≤ shlN .i64 (w64 (s11.2 + 1)) (wu p0.sh) ∧ shlN .i64 (w64 (s11.2 + 1)) (wu p0.sh) ≤ p0.ws.length then
 (F_frame_zero ((p0.ws.take (Int.toNat (shlN .i64 (w64 (s11.2 + 1)) (wu p0.sh)))).drop (Int.toNat (shlN .i64 s11.2 (wu p0.sh))))).bind fun v23 =>
 if v23 = true then
 (some (.go ((s11.1, w64 (s11.2 + 1)))))
 else
 some (.out (.inr (false)))
 else none)
 else
 some (.out (.inr (false))))
 else
 some (.out (.inr (false))))
 else
 if v16.ow < 0 then
 (some (.out (.inr (false))))
 else
 if 4294967295 < v16.ow then
 (some (.out (.inr (false))))
 else
 if v16.st < 0 then
 (some (.out (.inr (false))))
 else
 if (Int.tmod v16.st 4294967296) = v16.ow then
 (if 4 ≤ (w64 (Int.tdiv v16.st 4294967296)) then
 (some (.out (.inr (false))))
 else
 if v16.nx < (-1) then
 (some (.out (.inr (false))))
 else
 if (p0.fs.length : Int) ≤ v16.nx then
 (some (.out (.inr (false))))
 else
 if v16.nx = s11.2 then
 (some (.out (.inr (false))))
 else
 if v16.nx < 0 then
 (some (.go ((s11.1, w64 (s11.2 + 1)))))
 else
 (at_ p0.fs v16.nx).bind fun v37 =>
 if 0 ≤ wu v16.nx then
 if (bits .and .u64 (shrN .u64 s11.1 (wu v16.nx)) 1) = 1 then
 (some (.out (.inr (false))))
 else
 if v37.ow = v16.ow then
 (if v37.st = v16.st then
 (some (.go ((bits .or .u64 s11.1 (shlN .u64 1 (wu v16.nx)), w64 (s11.2 + 1)))))
 else
 some (.out (.inr (false))))
 else
 some (.out (.inr (false)))
 else none)
 else
 some (.out (.inr (false))))
 else
 some (.out (.inl (())))) (0, 0)) fun (b8 : Unit) =>
 (F_frame_straight p0).bind fun v42 =>
 some (v42))
 else
 some (false)
 else none)
 else
 some (false)

set_option maxRecDepth 20000 in
set_option maxHeartbeats 4000000 in
theorem F_frame_Valid_ok {p0 : Sp} {r : Bool} (H : Sm (F_frame_Valid p0) r) : DCall Try.prog 27 [.agg [DI p0.sh, .sl (p0.ws.map uC), .sl (p0.fs.map frC)]] [] (DB r) [] := by
  unfold F_frame_Valid at H
  refine DCall.mk Try.func27 rfl rfl ?_
  refine d_rsA ?_
  refine d_rsA ?_
  refine d_seq fun K k1 => ?_
  replace H := bd H; obtain ⟨v2, hv2, H⟩ := H
  replace H := fs H; rcases H with ⟨h3, H⟩ | ⟨h3, H⟩
  ·
    replace H := fs H; rcases H with ⟨h4, H⟩ | ⟨h4, H⟩
    ·
      refine d_rs rfl ?_
      refine rg ?_
      refine go (m_cS [] (F_frame_shift_ok hv2) rfl ScS.nil) ?_
      refine rg ?_
      refine .nil ⟨by kernel_rfl, ?_⟩
      refine d_condA ?_
      refine d_rsA ?_
      refine d_ret ?_
      change RetD _ _ _ _ _ _ _
      have e := se H; subst e
      exact finE [] (.tmp (.nil))
    replace H := fs H; rcases H with ⟨h5, H⟩ | ⟨h5, H⟩
    ·
      refine d_rs rfl ?_
      refine rg ?_
      refine go (m_cS [] (F_frame_shift_ok hv2) rfl ScS.nil) ?_
      refine rg ?_
      refine .nil ⟨by kernel_rfl, ?_⟩
      refine d_condA ?_
      refine d_rsA ?_
      refine d_ret ?_
      change RetD _ _ _ _ _ _ _
      have e := se H; subst e
      exact finE [] (.tmp (.nil))
    replace H := cq H; obtain ⟨h6, H⟩ := H
    refine d_rs rfl ?_
    refine rg ?_
    refine go (m_cS [] (F_frame_shift_ok hv2) rfl ScS.nil) ?_
    refine rg ?_
    refine .nil ⟨by kernel_rfl, ?_⟩
    replace H := fs H; rcases H with ⟨h7, H⟩ | ⟨h7, H⟩
    ·
      refine d_condB ?_
      refine d_skip ?_
      refine k1 _ ?_
      refine d_rsA ?_
      refine d_cutT (fun (b8 : Unit) => ⟨[(1, .ptr 0 0 0)], [(0, ⟨3, false, false, [[DI p0.sh, .sl (p0.ws.map uC), .sl (p0.fs.map frC)]]⟩)], 1⟩) H (fun z9 hr9 H => ?_) (fun b8 H => ?_)
      ·
        refine d_rsA ?_
        refine d_block ?_
        refine d_loopS (fun (s11 : Int × Int) => ⟨[(1, .ptr 0 0 0), (3, DI (p0.fs.length : Int)), (4, DU s11.1), (35, .sl (p0.fs.map frC)), (36, DI (p0.fs.length : Int)), (37, DI s11.2)], [(0, ⟨3, false, false, [[DI p0.sh, .sl (p0.ws.map uC), .sl (p0.fs.map frC)]]⟩)], 1⟩) H (wkE [(0, 0)]) (fun s11 y12 hq12 H => ?_)
        refine d_rsA ?_
        refine d_seq fun K k13 => ?_
        replace H := fs H; rcases H with ⟨h14, H⟩ | ⟨h14, H⟩
        ·
          refine d_condA ?_
          refine d_skip ?_
          refine k13 _ ?_
          refine d_seq fun K k15 => ?_
          refine d_block ?_
          replace H := ba H; obtain ⟨v16, hv16, H⟩ := H
          refine d_rsA ?_
          refine d_seq fun K k17 => ?_
          refine d_rsA ?_
          replace H := fs H; rcases H with ⟨h18, H⟩ | ⟨h18, H⟩
          ·
            refine d_condA ?_
            refine d_seq fun K k19 => ?_
            replace H := fs H; rcases H with ⟨h20, H⟩ | ⟨h20, H⟩
            ·
              replace H := fs H; rcases H with ⟨h21, H⟩ | ⟨h21, H⟩
              ·
                replace H := cq H; obtain ⟨h22, H⟩ := H
                replace H := bd H; obtain ⟨v23, hv23, H⟩ := H
                refine d_rs rfl ?_
                refine rg ?_
                refine go (m_slS (a := shlN .i64 s11.2 (wu p0.sh)) (b := shlN .i64 (w64 (s11.2 + 1)) (wu p0.sh)) h22 i22.ok i28.ok (.inr ⟨_, _, rfl, rfl⟩) (.inr ⟨_, _, rfl, rfl⟩)) ?_ (gY (congrArg not (decide_eq_true h21)))
                refine go (m_cS [] (F_frame_zero_ok hv23) rfl ScS.nil) ?_ (gY (congrArg not (decide_eq_true h21)))
                refine rg ?_
                refine .nil ⟨by kernel_rfl, ?_⟩
                replace H := fs H; rcases H with ⟨h24, H⟩ | ⟨h24, H⟩
                ·
                  refine d_condB ?_
                  refine d_skip ?_
                  refine k19 _ ?_
                  refine d_exit ?_
                  refine k15 _ ?_
                  refine d_regA ?_
                  have e := se H; subst e
                  exact ⟨_, rfl, wkE [(0, 0)]⟩
                refine d_condA ?_
                refine d_rsA ?_
                refine d_ret ?_
                change RetD _ _ _ _ _ _ _
                have e := se H; subst e
                have e := hq12 _ rfl; subst e
                have e := hr9 _ rfl; subst e
                exact finE [] (.tmp (.nil))
              refine d_rsA ?_
              refine d_condA ?_
              refine d_rsA ?_
              refine d_ret ?_
              change RetD _ _ _ _ _ _ _
              have e := se H; subst e
              have e := hq12 _ rfl; subst e
              have e := hr9 _ rfl; subst e
              exact finE [] (.tmp (.nil))
            refine d_rsA ?_
            refine d_condA ?_
            refine d_rsA ?_
            refine d_ret ?_
            change RetD _ _ _ _ _ _ _
            have e := se H; subst e
            have e := hq12 _ rfl; subst e
            have e := hr9 _ rfl; subst e
            exact finE [] (.tmp (.nil))
          refine d_condB ?_
          refine d_skip ?_
          refine k17 _ ?_
          refine d_seq fun K k25 => ?_
          replace H := fs H; rcases H with ⟨h26, H⟩ | ⟨h26, H⟩
          ·
            refine d_rsA ?_
            refine d_condA ?_
            refine d_rsA ?_
            refine d_ret ?_
            change RetD _ _ _ _ _ _ _
            have e := se H; subst e
            have e := hq12 _ rfl; subst e
            have e := hr9 _ rfl; subst e
            exact finE [] (.tmp (.nil))
          replace H := fs H; rcases H with ⟨h27, H⟩ | ⟨h27, H⟩
          ·
            refine d_rsA ?_
            refine d_condA ?_
            refine d_rsA ?_
            refine d_ret ?_
            change RetD _ _ _ _ _ _ _
            have e := se H; subst e
            have e := hq12 _ rfl; subst e
            have e := hr9 _ rfl; subst e
            exact finE [] (.tmp (.nil))
          replace H := fs H; rcases H with ⟨h28, H⟩ | ⟨h28, H⟩
          ·
            refine d_rsA ?_
            refine d_condA ?_
            refine d_rsA ?_
            refine d_ret ?_
            change RetD _ _ _ _ _ _ _
            have e := se H; subst e
            have e := hq12 _ rfl; subst e
            have e := hr9 _ rfl; subst e
            exact finE [] (.tmp (.nil))
          replace H := fs H; rcases H with ⟨h29, H⟩ | ⟨h29, H⟩
          ·
            replace H := fs H; rcases H with ⟨h30, H⟩ | ⟨h30, H⟩
            ·
              refine d_rsA ?_
              refine d_condA ?_
              refine d_rsA ?_
              refine d_ret ?_
              change RetD _ _ _ _ _ _ _
              have e := se H; subst e
              have e := hq12 _ rfl; subst e
              have e := hr9 _ rfl; subst e
              exact finE [] (.tmp (.nil))
            replace H := fs H; rcases H with ⟨h31, H⟩ | ⟨h31, H⟩
            ·
              refine d_rsA ?_
              refine d_condA ?_
              refine d_rsA ?_
              refine d_ret ?_
              change RetD _ _ _ _ _ _ _
              have e := se H; subst e
              have e := hq12 _ rfl; subst e
              have e := hr9 _ rfl; subst e
              exact finE [] (.tmp (.nil))
            replace H := fs H; rcases H with ⟨h32, H⟩ | ⟨h32, H⟩
            ·
              refine d_rsA ?_
              refine d_condA ?_
              refine d_rsA ?_
              refine d_ret ?_
              change RetD _ _ _ _ _ _ _
              have e := se H; subst e
              have e := hq12 _ rfl; subst e
              have e := hr9 _ rfl; subst e
              exact finE [] (.tmp (.nil))
            refine d_rsA ?_
            replace H := fs H; rcases H with ⟨h33, H⟩ | ⟨h33, H⟩
            ·
              refine d_condA ?_
              refine d_rsA ?_
              refine d_ret ?_
              change RetD _ _ _ _ _ _ _
              have e := se H; subst e
              have e := hq12 _ rfl; subst e
              have e := hr9 _ rfl; subst e
              exact finE [] (.tmp (.nil))
            refine d_condB ?_
            refine d_skip ?_
            refine k25 _ ?_
            refine d_seq fun K k34 => ?_
            refine d_rsA ?_
            replace H := fs H; rcases H with ⟨h35, H⟩ | ⟨h35, H⟩
            ·
              refine d_condA ?_
              refine d_exit ?_
              refine k15 _ ?_
              refine d_regA ?_
              have e := se H; subst e
              exact ⟨_, rfl, wkE [(0, 0)]⟩
            refine d_condB ?_
            refine d_skip ?_
            refine k34 _ ?_
            refine d_seq fun K k36 => ?_
            replace H := ba H; obtain ⟨v37, hv37, H⟩ := H
            refine d_rsA ?_
            replace H := cq H; obtain ⟨h38, H⟩ := H
            replace H := fs H; rcases H with ⟨h39, H⟩ | ⟨h39, H⟩
            ·
              refine d_rsA ?_
              refine d_condA ?_
              refine d_rsA ?_
              refine d_ret ?_
              change RetD _ _ _ _ _ _ _
              have e := se H; subst e
              have e := hq12 _ rfl; subst e
              have e := hr9 _ rfl; subst e
              exact finE [] (.tmp (.nil))
            replace H := fs H; rcases H with ⟨h40, H⟩ | ⟨h40, H⟩
            ·
              refine d_rsA ?_
              replace H := fs H; rcases H with ⟨h41, H⟩ | ⟨h41, H⟩
              ·
                refine d_condB ?_
                refine d_skip ?_
                refine k36 _ ?_
                refine d_regA ?_
                refine k15 _ ?_
                refine d_regA ?_
                have e := se H; subst e
                exact ⟨_, rfl, wkE [(0, 0)]⟩
              refine d_condA ?_
              refine d_rsA ?_
              refine d_ret ?_
              change RetD _ _ _ _ _ _ _
              have e := se H; subst e
              have e := hq12 _ rfl; subst e
              have e := hr9 _ rfl; subst e
              exact finE [] (.tmp (.nil))
            refine d_rsA ?_
            refine d_condA ?_
            refine d_rsA ?_
            refine d_ret ?_
            change RetD _ _ _ _ _ _ _
            have e := se H; subst e
            have e := hq12 _ rfl; subst e
            have e := hr9 _ rfl; subst e
            exact finE [] (.tmp (.nil))
          refine d_rsA ?_
          refine d_condA ?_
          refine d_rsA ?_
          refine d_ret ?_
          change RetD _ _ _ _ _ _ _
          have e := se H; subst e
          have e := hq12 _ rfl; subst e
          have e := hr9 _ rfl; subst e
          exact finE [] (.tmp (.nil))
        refine d_condB ?_
        refine d_exit ?_
        have e := se H; subst e
        have e := hq12 _ rfl; subst e
        exact ⟨_, rfl, wkE [(0, 0)]⟩
      replace H := bd H; obtain ⟨v42, hv42, H⟩ := H
      refine d_rs rfl ?_
      refine rg ?_
      refine go (m_cS [] (F_frame_straight_ok hv42) rfl ScS.nil) ?_
      refine rg ?_
      refine .nil ⟨by kernel_rfl, ?_⟩
      refine d_ret ?_
      change RetD _ _ _ _ _ _ _
      have e := se H; subst e
      exact finE [] (.tmp (.nil))
    refine d_condA ?_
    refine d_rsA ?_
    refine d_ret ?_
    change RetD _ _ _ _ _ _ _
    have e := se H; subst e
    exact finE [] (.tmp (.nil))
  refine d_rs rfl ?_
  refine rg ?_
  refine go (m_cS [] (F_frame_shift_ok hv2) rfl ScS.nil) ?_
  refine rg ?_
  refine .nil ⟨by kernel_rfl, ?_⟩
  refine d_condA ?_
  refine d_rsA ?_
  refine d_ret ?_
  change RetD _ _ _ _ _ _ _
  have e := se H; subst e
  exact finE [] (.tmp (.nil))

noncomputable def F_remset_in (p0 : Int) : Option Bool :=
 if 0 ≤ p0 then
 (some (decide (p0 < 64)))
 else
 some (false)

set_option maxRecDepth 20000 in
set_option maxHeartbeats 4000000 in
theorem F_remset_in_ok {p0 : Int} {r : Bool} (H : Sm (F_remset_in p0) r) : DCall Try.prog 46 [DI p0] [] (DB r) [] := by
  unfold F_remset_in at H
  refine DCall.mk Try.func46 rfl rfl ?_
  refine d_rsA ?_
  replace H := fs H; rcases H with ⟨h1, H⟩ | ⟨h1, H⟩
  ·
    refine d_rsA ?_
    refine d_ret ?_
    change RetD _ _ _ _ _ _ _
    have e := se H; subst e
    exact finE [] (.tmp (.nil))
  refine d_rsA ?_
  refine d_ret ?_
  change RetD _ _ _ _ _ _ _
  have e := se H; subst e
  exact finE [] (.tmp (.nil))

noncomputable def F_remset_compare (p0 : RSet) (p1 : RSet) : Option Int :=
 if p0.frm = p1.frm then
 (some (w64 (p0.to - p1.to)))
 else
 some (w64 (p0.frm - p1.frm))

set_option maxRecDepth 20000 in
set_option maxHeartbeats 4000000 in
theorem F_remset_compare_ok {p0 : RSet} {p1 : RSet} {r : Int} (H : Sm (F_remset_compare p0 p1) r) : DCall Try.prog 47 [.agg [DI p0.frm, DI p0.to, .sl (p0.slots.map iC)], .agg [DI p1.frm, DI p1.to, .sl (p1.slots.map iC)]] [] (DI r) [] := by
  unfold F_remset_compare at H
  refine DCall.mk Try.func47 rfl rfl ?_
  refine d_rsA ?_
  refine d_seq fun K k1 => ?_
  refine d_rsA ?_
  replace H := fs H; rcases H with ⟨h2, H⟩ | ⟨h2, H⟩
  ·
    refine d_condB ?_
    refine d_skip ?_
    refine k1 _ ?_
    refine d_rsA ?_
    refine d_ret ?_
    change RetD _ _ _ _ _ _ _
    have e := se H; subst e
    exact finE [] (.tmp (.nil))
  refine d_condA ?_
  refine d_rsA ?_
  refine d_ret ?_
  change RetD _ _ _ _ _ _ _
  have e := se H; subst e
  exact finE [] (.tmp (.nil))

noncomputable def F_remset_Valid (p0 : List RSet) : Option Bool :=
 bndR (loopO (fun (s4 : Int) =>
 if s4 < (p0.length : Int) then
 (bndR ((at_ p0 s4).bind fun v10 =>
 (F_remset_in v10.frm).bind fun v12 =>
 if v12 = true then
 ((F_remset_in v10.to).bind fun v14 =>
 if v14 = true then
 (if 0 < s4 then
 ((at_ p0 (w64 (s4 - 1))).bind fun v17 =>
 (F_remset_compare v17 v10).bind fun v18 =>
 if 0 ≤ v18 then
 (some (.inr (.out (.inr (false)))))
 else
 if (v10.slots.length : Int) = 0 then
 (some (.inr (.out (.inr (false)))))
 else
 (at_ v10.slots 0).bind fun v21 =>
 if v21 < 0 then
 (some (.inr (.out (.inr (false)))))
 else
 loopO (fun (s24 : Int) =>
 if s24 < (v10.slots.length : Int) then
 ((at_ v10.slots s24).bind fun v29 =>
 (at_ v10.slots (w64 (s24 - 1))).bind fun v30 =>
 if v29 ≤ v30 then
 (some (.out (.inr (.out (.inr (false))))))
 else
 some (.go (w64 (s24 + 1))))
 else
 some (.out (.inl (())))) 1)
 else
 if (v10.slots.length : Int) = 0 then
 (some (.inr (.out (.inr (false)))))
 else
 (at_ v10.slots 0).bind fun v33 =>
 if v33 < 0 then
 (some (.inr (.out (.inr (false)))))
 else
 loopO (fun (s36 : Int) =>
 if s36 < (v10.slots.length : Int) then
 ((at_ v10.slots s36).bind fun v41 =>
 (at_ v10.slots (w64 (s36 - 1))).bind fun v42 =>
 if v41 ≤ v42 then
 (some (.out (.inr (.out (.inr (false))))))
 else
 some (.go (w64 (s36 + 1))))
 else
 some (.out (.inl (())))) 1)
 else
 some (.inr (.out (.inr (false)))))
 else
 some (.inr (.out (.inr (false))))) fun (b8 : Unit) =>
 some (.go (w64 (s4 + 1))))
 else
 some (.out (.inl (())))) 0) fun (b1 : Unit) =>
 some (true)

end Go.Proofs.Ythpnlnjdmlbnaaa
