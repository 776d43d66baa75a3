/- Parts of the proof: B5. No condition. -/
import Derived.Test.YthpnlnjdmlbnaaaMW8
/- Trial. -/
namespace Go.Proofs.Ythpnlnjdmlbnaaa
open Go.RowKit
set_option linter.unusedSimpArgs false
set_option linter.unusedVariables false
set_option maxRecDepth 20000 in
set_option maxHeartbeats 4000000 in
theorem F_ref09_Alloc_ok {p0 : Sp} {p1 : Inc} {p2 : Int} {r : Sp × Inc × Int × Int} (H : Sm (F_ref09_Alloc p0 p1 p2) r) : DCall Try.prog 37 [.agg [DI p0.sh, .sl (p0.ws.map uC), .sl (p0.fs.map frC)], .agg [DI p1.seq, DI p1.belt, DI p1.first, DI p1.last, DI p1.words], DI p2] [] (.tup [.agg [DI r.1.sh, .own 0 0 r.1.ws.length, .own 1 0 r.1.fs.length], .agg [DI r.2.1.seq, DI r.2.1.belt, DI r.2.1.first, DI r.2.1.last, DI r.2.1.words], DI r.2.2.1, DI r.2.2.2]) [(0, ⟨1, true, false, r.1.ws.map uC⟩), (1, ⟨3, true, false, r.1.fs.map frC⟩)] := by
  unfold F_ref09_Alloc at H
  refine DCall.mk Try.func37 rfl rfl ?_
  refine d_rsA ?_
  refine d_seq fun K k1 => ?_
  replace H := bd H; obtain ⟨v2, hv2, H⟩ := H
  replace H := fs H; rcases H with ⟨h3, H⟩ | ⟨h3, H⟩
  ·
    replace H := fs H; rcases H with ⟨h4, H⟩ | ⟨h4, H⟩
    ·
      refine d_rs rfl ?_
      refine rg ?_
      refine go (m_cS [] (F_ref09_Valid_ok hv2) rfl ScS.nil) ?_
      refine rg ?_
      refine .nil ⟨by kernel_rfl, ?_⟩
      refine d_condA ?_
      refine d_rsA ?_
      refine d_nilB 2 1 1 (by decide) rfl rfl ?_
      refine d_nilB 2 2 3 (by decide) rfl rfl ?_
      refine d_ret ?_
      change RetD _ _ _ _ _ _ _
      have e := se H; subst e
      exact finE [(0, 4), (1, 5)] (.cell i25.ok rfl rfl rfl rfl (.cell i51.ok rfl rfl rfl rfl (.tmp (.tmp (.nil)))))
    refine d_rs rfl ?_
    refine rg ?_
    refine go (m_cS [] (F_ref09_Valid_ok hv2) rfl ScS.nil) ?_
    refine rg ?_
    refine .nil ⟨by kernel_rfl, ?_⟩
    replace H := fs H; rcases H with ⟨h5, H⟩ | ⟨h5, H⟩
    ·
      refine d_condA ?_
      refine d_rsA ?_
      refine d_nilB 2 1 1 (by decide) rfl rfl ?_
      refine d_nilB 2 2 3 (by decide) rfl rfl ?_
      refine d_ret ?_
      change RetD _ _ _ _ _ _ _
      have e := se H; subst e
      exact finE [(0, 4), (1, 5)] (.cell i25.ok rfl rfl rfl rfl (.cell i51.ok rfl rfl rfl rfl (.tmp (.tmp (.nil)))))
    refine d_condB ?_
    refine d_skip ?_
    refine k1 _ ?_
    refine d_seq fun K k6 => ?_
    replace H := fs H; rcases H with ⟨h7, H⟩ | ⟨h7, H⟩
    ·
      replace H := bd H; obtain ⟨v8, hv8, H⟩ := H
      refine d_rs rfl ?_
      refine rg ?_
      refine go (m_cS [] (F_ref09_Owns_ok hv8) rfl ScS.nil) ?_ (gY (decide_eq_true h7))
      refine rg ?_
      refine .nil ⟨by kernel_rfl, ?_⟩
      replace H := fs H; rcases H with ⟨h9, H⟩ | ⟨h9, H⟩
      ·
        refine d_condA ?_
        refine d_rsA ?_
        refine d_nilB 2 1 1 (by decide) rfl rfl ?_
        refine d_nilB 2 2 3 (by decide) rfl rfl ?_
        refine d_ret ?_
        change RetD _ _ _ _ _ _ _
        have e := se H; subst e
        exact finE [(0, 4), (1, 5)] (.cell i25.ok rfl rfl rfl rfl (.cell i51.ok rfl rfl rfl rfl (.tmp (.tmp (.nil)))))
      refine d_condB ?_
      refine d_skip ?_
      refine k6 _ ?_
      replace H := bd H; obtain ⟨v10, hv10, H⟩ := H
      refine d_rs rfl ?_
      refine rg ?_
      refine go (m_cS [] (F_ref03_Copy_ok hv10) rfl (ScS.cons (scC (fun _ => rfl)) (ScS.cons (scC (fun _ => rfl)) ScS.nil))) ?_
      refine rg ?_
      refine .nil ⟨by kernel_rfl, ?_⟩
      replace H := bd H; obtain ⟨v11, hv11, H⟩ := H
      replace H := cq H; obtain ⟨h14, H⟩ := H
      refine d_rs rfl ?_
      refine rg ?_
      refine go (m_cS [(0, 5)] (F_ref09_Grow_ok hv11) rfl (ScS.cons (scC (fun _ => rfl)) ScS.nil)) ?_
      refine rg ?_
      refine .nil ⟨by kernel_rfl, ?_⟩
      refine d_seq fun K k12 => ?_
      refine d_rsA ?_
      replace H := fs H; rcases H with ⟨h13, H⟩ | ⟨h13, H⟩
      ·
        refine d_condB ?_
        refine d_skip ?_
        refine k12 _ ?_
        refine d_asA ?_
        refine d_ret ?_
        change RetD _ _ _ _ _ _ _
        have e := se H; subst e
        exact finE [(0, 4), (1, 5)] (.cell i25.ok rfl rfl rfl rfl (.cell i51.ok rfl rfl rfl rfl (.tmp (.tmp (.nil)))))
      refine d_condA ?_
      refine d_rsA ?_
      refine d_nilB 2 1 1 (by decide) rfl rfl ?_
      refine d_nilB 2 2 3 (by decide) rfl rfl ?_
      refine d_ret ?_
      change RetD _ _ _ _ _ _ _
      have e := se H; subst e
      exact finE [(0, 8), (1, 9)] (.cell i25.ok rfl rfl rfl rfl (.cell i51.ok rfl rfl rfl rfl (.tmp (.tmp (.nil)))))
    refine d_rsA ?_
    refine d_condB ?_
    refine d_skip ?_
    refine k6 _ ?_
    replace H := bd H; obtain ⟨v15, hv15, H⟩ := H
    refine d_rs rfl ?_
    refine rg ?_
    refine go (m_cS [] (F_ref03_Copy_ok hv15) rfl (ScS.cons (scC (fun _ => rfl)) (ScS.cons (scC (fun _ => rfl)) ScS.nil))) ?_
    refine rg ?_
    refine .nil ⟨by kernel_rfl, ?_⟩
    replace H := bd H; obtain ⟨v16, hv16, H⟩ := H
    replace H := cq H; obtain ⟨h19, H⟩ := H
    refine d_rs rfl ?_
    refine rg ?_
    refine go (m_cS [(0, 5)] (F_ref09_Grow_ok hv16) rfl (ScS.cons (scC (fun _ => rfl)) ScS.nil)) ?_
    refine rg ?_
    refine .nil ⟨by kernel_rfl, ?_⟩
    refine d_seq fun K k17 => ?_
    refine d_rsA ?_
    replace H := fs H; rcases H with ⟨h18, H⟩ | ⟨h18, H⟩
    ·
      refine d_condB ?_
      refine d_skip ?_
      refine k17 _ ?_
      refine d_asA ?_
      refine d_ret ?_
      change RetD _ _ _ _ _ _ _
      have e := se H; subst e
      exact finE [(0, 4), (1, 5)] (.cell i25.ok rfl rfl rfl rfl (.cell i51.ok rfl rfl rfl rfl (.tmp (.tmp (.nil)))))
    refine d_condA ?_
    refine d_rsA ?_
    refine d_nilB 2 1 1 (by decide) rfl rfl ?_
    refine d_nilB 2 2 3 (by decide) rfl rfl ?_
    refine d_ret ?_
    change RetD _ _ _ _ _ _ _
    have e := se H; subst e
    exact finE [(0, 8), (1, 9)] (.cell i25.ok rfl rfl rfl rfl (.cell i51.ok rfl rfl rfl rfl (.tmp (.tmp (.nil)))))
  refine d_rs rfl ?_
  refine rg ?_
  refine go (m_cS [] (F_ref09_Valid_ok hv2) rfl ScS.nil) ?_
  refine rg ?_
  refine .nil ⟨by kernel_rfl, ?_⟩
  refine d_condA ?_
  refine d_rsA ?_
  refine d_nilB 2 1 1 (by decide) rfl rfl ?_
  refine d_nilB 2 2 3 (by decide) rfl rfl ?_
  refine d_ret ?_
  change RetD _ _ _ _ _ _ _
  have e := se H; subst e
  exact finE [(0, 4), (1, 5)] (.cell i25.ok rfl rfl rfl rfl (.cell i51.ok rfl rfl rfl rfl (.tmp (.tmp (.nil)))))

noncomputable def F_ref07_Live (p0 : Int) (p1 : Int) : Option (Int × Int) :=
 if p0 < 0 then
 (some ((0, 13)))
 else
 if 15 < p0 then
 (some ((0, 13)))
 else
 if p1 < 0 then
 (some ((0, 13)))
 else
 if 32 < p1 then
 (some ((0, 13)))
 else
 some ((wu (w64 ((w64 ((w64 ((w64 (1 + p0)) + p1)) * 256)) + (w64 (p0 * 2)))), 0))

set_option maxRecDepth 20000 in
set_option maxHeartbeats 4000000 in
theorem F_ref07_Live_ok {p0 : Int} {p1 : Int} {r : Int × Int} (H : Sm (F_ref07_Live p0 p1) r) : DCall Try.prog 69 [DI p0, DI p1] [] (.tup [DU r.1, DI r.2]) [] := by
  unfold F_ref07_Live at H
  refine DCall.mk Try.func69 rfl rfl ?_
  refine d_rsA ?_
  refine d_seq fun K k1 => ?_
  replace H := fs H; rcases H with ⟨h2, H⟩ | ⟨h2, H⟩
  ·
    refine d_rsA ?_
    refine d_condA ?_
    refine d_rsA ?_
    refine d_ret ?_
    change RetD _ _ _ _ _ _ _
    have e := se H; subst e
    exact finE [] (.tmp (.tmp (.nil)))
  replace H := fs H; rcases H with ⟨h3, H⟩ | ⟨h3, H⟩
  ·
    refine d_rsA ?_
    refine d_condA ?_
    refine d_rsA ?_
    refine d_ret ?_
    change RetD _ _ _ _ _ _ _
    have e := se H; subst e
    exact finE [] (.tmp (.tmp (.nil)))
  replace H := fs H; rcases H with ⟨h4, H⟩ | ⟨h4, H⟩
  ·
    refine d_rsA ?_
    refine d_condA ?_
    refine d_rsA ?_
    refine d_ret ?_
    change RetD _ _ _ _ _ _ _
    have e := se H; subst e
    exact finE [] (.tmp (.tmp (.nil)))
  refine d_rsA ?_
  replace H := fs H; rcases H with ⟨h5, H⟩ | ⟨h5, H⟩
  ·
    refine d_condA ?_
    refine d_rsA ?_
    refine d_ret ?_
    change RetD _ _ _ _ _ _ _
    have e := se H; subst e
    exact finE [] (.tmp (.tmp (.nil)))
  refine d_condB ?_
  refine d_skip ?_
  refine k1 _ ?_
  refine d_rsA ?_
  refine d_ret ?_
  change RetD _ _ _ _ _ _ _
  have e := se H; subst e
  exact finE [] (.tmp (.tmp (.nil)))

noncomputable def F_ref08_Make (p0 : Sp) (p1 : Int) (p2 : Int) (p3 : Int) : Option (Int × List Int) :=
 (F_ref07_Live p2 p3).bind fun v1 =>
 if v1.2 = 0 then
 ((F_ref05_Go p0 p1 (w64 (p2 + p3))).bind fun v5 =>
 if v5.2 = 0 then
 ((at_ p0.ws p1).bind fun v7 =>
 (loopO (fun (s11 : List Int × Int) =>
 if s11.2 ≤ (w64 (p2 + p3)) then
 ((F_ref05_Go (Sp.mk p0.sh s11.1 p0.fs) p1 s11.2).bind fun v16 =>
 (at_ s11.1 v16.1).bind fun v17 =>
 some (.go ((s11.1.set (Int.toNat v16.1) 0, w64 (s11.2 + 1)))))
 else
 some (.out (s11.1))) (p0.ws.set (Int.toNat p1) v1.1, 1)).bind fun (b8 : List Int) =>
 some ((0, b8)))
 else
 some ((v5.2, p0.ws)))
 else
 some ((v1.2, p0.ws))

set_option maxRecDepth 20000 in
set_option maxHeartbeats 4000000 in
theorem F_ref08_Make_ok {p0 : Sp} {p1 : Int} {p2 : Int} {p3 : Int} {r : Int × List Int} (H : Sm (F_ref08_Make p0 p1 p2 p3) r) : DCall Try.prog 57 [.agg [DI p0.sh, .own 0 0 p0.ws.length, .sl (p0.fs.map frC)], DI p1, DI p2, DI p3] [(0, ⟨1, true, false, p0.ws.map uC⟩)] (DI r.1) [(0, ⟨1, true, false, r.2.map uC⟩)] := by
  unfold F_ref08_Make at H
  refine DCall.mk Try.func57 rfl rfl ?_
  refine d_rsA ?_
  replace H := bd H; obtain ⟨v1, hv1, H⟩ := H
  refine d_rs rfl ?_
  refine rg ?_
  refine go (m_cS [] (F_ref07_Live_ok hv1) rfl ScS.nil) ?_
  refine rg ?_
  refine .nil ⟨by kernel_rfl, ?_⟩
  refine d_seq fun K k2 => ?_
  refine d_rsA ?_
  replace H := fs H; rcases H with ⟨h3, H⟩ | ⟨h3, H⟩
  ·
    refine d_condB ?_
    refine d_skip ?_
    refine k2 _ ?_
    refine d_seq fun K k4 => ?_
    replace H := bd H; obtain ⟨v5, hv5, H⟩ := H
    refine d_rs rfl ?_
    refine rg ?_
    refine go (m_cS [] (F_ref05_Go_ok hv5) rfl ScS.nil) ?_
    refine rg ?_
    refine .nil ⟨by kernel_rfl, ?_⟩
    refine d_rsA ?_
    replace H := fs H; rcases H with ⟨h6, H⟩ | ⟨h6, H⟩
    ·
      refine d_condB ?_
      refine d_skip ?_
      refine k4 _ ?_
      replace H := ba H; obtain ⟨v7, hv7, H⟩ := H
      refine d_rs rfl ?_
      refine rg ?_
      refine go (m_stO (c := uC) hv7.h v1.1 i28.ok) ?_
      refine .nil ⟨by kernel_rfl, ?_⟩
      refine d_cutS (fun (b8 : List Int) => ⟨[], [(0, ⟨1, true, false, b8.map uC⟩)], 1⟩) H (fun z9 H => ?_) (fun b8 H => ?_)
      ·
        refine d_rsA ?_
        refine d_block ?_
        refine d_loopS (fun (s11 : List Int × Int) => ⟨[(1, DI p1), (2, DI p2), (3, DI p3), (4, .ptr 1 0 0), (13, DI s11.2)], [(0, ⟨1, true, false, s11.1.map uC⟩), (1, ⟨3, false, false, [[DI p0.sh, .own 0 0 s11.1.length, .sl (p0.fs.map frC)]]⟩)], 2⟩) H (wkE [(0, 0), (1, 1)]) (fun s11 y12 hq12 H => ?_)
        refine d_seq fun K k13 => ?_
        refine d_rsA ?_
        replace H := fs H; rcases H with ⟨h14, H⟩ | ⟨h14, H⟩
        ·
          refine d_condA ?_
          refine d_skip ?_
          refine k13 _ ?_
          refine d_seq fun K k15 => ?_
          refine d_block ?_
          replace H := bd H; obtain ⟨v16, hv16, H⟩ := H
          refine d_rs rfl ?_
          refine rg ?_
          refine go (m_cS [] (F_ref05_Go_ok hv16) rfl ScS.nil) ?_
          refine rg ?_
          refine .nil ⟨by kernel_rfl, ?_⟩
          replace H := ba H; obtain ⟨v17, hv17, H⟩ := H
          refine d_region rfl ?_
          refine rg ?_
          refine go (m_stO (c := uC) hv17.h 0 i28.ok) ?_
          refine .nil ⟨by kernel_rfl, ?_⟩
          refine k15 _ ?_
          refine d_regA ?_
          have e := se H; subst e
          exact ⟨_, rfl, wkE [(0, 0), (1, 1)]⟩
        refine d_condB ?_
        refine d_exit ?_
        have e := se H; subst e
        have e := hq12 _ rfl; subst e
        exact wkE [(0, 0)]
      refine d_rsA ?_
      refine d_ret ?_
      change RetD _ _ _ _ _ _ _
      have e := se H; subst e
      exact finE [(0, 0)] (.tmp (.nil))
    refine d_condA ?_
    refine d_rsA ?_
    refine d_ret ?_
    change RetD _ _ _ _ _ _ _
    have e := se H; subst e
    exact finE [(0, 0)] (.tmp (.nil))
  refine d_condA ?_
  refine d_rsA ?_
  refine d_ret ?_
  change RetD _ _ _ _ _ _ _
  have e := se H; subst e
  exact finE [(0, 0)] (.tmp (.nil))

noncomputable def F_ref08_Init (p0 : Sp) (p1 : Int) (p2 : Int) (p3 : Int) : Option (Sp × Int) :=
 (F_ref03_Valid p0).bind fun v2 =>
 if v2 = true then
 ((F_ref03_Copy p0).bind fun v4 =>
 (F_ref08_Make v4 p1 p2 p3).bind fun v6 =>
 if v6.2.length = v4.ws.length then
 if v6.1 = 0 then
 (some ((Sp.mk v4.sh v6.2 v4.fs, 0)))
 else
 some ((Sp.mk 0 ([] : List Int) ([] : List Fe), v6.1))
 else none)
 else
 some ((Sp.mk 0 ([] : List Int) ([] : List Fe), 1))

set_option maxRecDepth 20000 in
set_option maxHeartbeats 4000000 in
theorem F_ref08_Init_ok {p0 : Sp} {p1 : Int} {p2 : Int} {p3 : Int} {r : Sp × Int} (H : Sm (F_ref08_Init p0 p1 p2 p3) r) : DCall Try.prog 38 [.agg [DI p0.sh, .sl (p0.ws.map uC), .sl (p0.fs.map frC)], DI p1, DI p2, DI p3] [] (.tup [.agg [DI r.1.sh, .own 0 0 r.1.ws.length, .own 1 0 r.1.fs.length], DI r.2]) [(0, ⟨1, true, false, r.1.ws.map uC⟩), (1, ⟨3, true, false, r.1.fs.map frC⟩)] := by
  unfold F_ref08_Init at H
  refine DCall.mk Try.func38 rfl rfl ?_
  refine d_rsA ?_
  refine d_seq fun K k1 => ?_
  replace H := bd H; obtain ⟨v2, hv2, H⟩ := H
  refine d_rs rfl ?_
  refine rg ?_
  refine go (m_cS [] (F_ref03_Valid_ok hv2) rfl ScS.nil) ?_
  refine rg ?_
  refine .nil ⟨by kernel_rfl, ?_⟩
  replace H := fs H; rcases H with ⟨h3, H⟩ | ⟨h3, H⟩
  ·
    refine d_condB ?_
    refine d_skip ?_
    refine k1 _ ?_
    replace H := bd H; obtain ⟨v4, hv4, H⟩ := H
    refine d_rs rfl ?_
    refine rg ?_
    refine go (m_cS [] (F_ref03_Copy_ok hv4) rfl (ScS.cons (scC (fun _ => rfl)) (ScS.cons (scC (fun _ => rfl)) ScS.nil))) ?_
    refine rg ?_
    refine .nil ⟨by kernel_rfl, ?_⟩
    refine d_seq fun K k5 => ?_
    replace H := bd H; obtain ⟨v6, hv6, H⟩ := H
    replace H := cq H; obtain ⟨h8, H⟩ := H
    refine d_rs rfl ?_
    refine rg ?_
    refine go (m_cS [(0, 2)] (F_ref08_Make_ok hv6) rfl (ScS.cons (scC (fun _ => rfl)) ScS.nil)) ?_
    refine rg ?_
    refine .nil ⟨by kernel_rfl, ?_⟩
    refine d_rsA ?_
    replace H := fs H; rcases H with ⟨h7, H⟩ | ⟨h7, H⟩
    ·
      refine d_condB ?_
      refine d_skip ?_
      refine k5 _ ?_
      refine d_rsA ?_
      refine d_ret ?_
      change RetD _ _ _ _ _ _ _
      have e := se H; subst e
      exact finE [(0, 2), (1, 3)] (.cell i25.ok rfl rfl rfl rfl (.tmp (.nil)))
    refine d_condA ?_
    refine d_rsA ?_
    refine d_nilB 1 1 1 (by decide) rfl rfl ?_
    refine d_nilB 1 2 3 (by decide) rfl rfl ?_
    refine d_ret ?_
    change RetD _ _ _ _ _ _ _
    have e := se H; subst e
    exact finE [(0, 5), (1, 6)] (.cell i25.ok rfl rfl rfl rfl (.tmp (.nil)))
  refine d_condA ?_
  refine d_rsA ?_
  refine d_nilB 1 1 1 (by decide) rfl rfl ?_
  refine d_nilB 1 2 3 (by decide) rfl rfl ?_
  refine d_ret ?_
  change RetD _ _ _ _ _ _ _
  have e := se H; subst e
  exact finE [(0, 2), (1, 3)] (.cell i25.ok rfl rfl rfl rfl (.tmp (.nil)))

noncomputable def F_make_grown (p0 : BeltwaymakeDeck) (p1 : Sp) (p2 : Inc) : Option (Sp × Inc × BeltwaymakeDeck) :=
 (F_make_Deck_Next p0 4).bind fun v1 =>
 (F_make_Deck_Next v1.2 4).bind fun v2 =>
 (at_ [3, 3, 9, 33] v2.1).bind fun v3 =>
 (F_make_Deck_Next v2.2 v3).bind fun v4 =>
 (F_ref09_Alloc p1 p2 (w64 ((w64 (1 + v1.1)) + v4.1))).bind fun v5 =>
 if v5.2.2.2 = 0 then
 ((F_ref08_Init v5.1 v5.2.2.1 v1.1 v4.1).bind fun v8 =>
 some ((v8.1, v5.2.1, v4.2)))
 else
 some ((p1, p2, v4.2))

set_option maxRecDepth 20000 in
set_option maxHeartbeats 4000000 in
theorem F_make_grown_ok {p0 : BeltwaymakeDeck} {p1 : Sp} {p2 : Inc} {r : Sp × Inc × BeltwaymakeDeck} (H : Sm (F_make_grown p0 p1 p2) r) : DCall Try.prog 22 [.ptr 0 0 0, .agg [DI p1.sh, .sl (p1.ws.map uC), .sl (p1.fs.map frC)], .agg [DI p2.seq, DI p2.belt, DI p2.first, DI p2.last, DI p2.words]] [(0, ⟨2, false, false, [[.sl (p0.l.map iC), DI p0.pos]]⟩)] (.tup [.agg [DI r.1.sh, .sl (r.1.ws.map uC), .sl (r.1.fs.map frC)], .agg [DI r.2.1.seq, DI r.2.1.belt, DI r.2.1.first, DI r.2.1.last, DI r.2.1.words]]) [(0, ⟨2, false, false, [[.sl (r.2.2.l.map iC), DI r.2.2.pos]]⟩)] := by
  unfold F_make_grown at H
  refine DCall.mk Try.func22 rfl rfl ?_
  refine d_rsA ?_
  replace H := bd H; obtain ⟨v1, hv1, H⟩ := H
  replace H := bd H; obtain ⟨v2, hv2, H⟩ := H
  replace H := ba H; obtain ⟨v3, hv3, H⟩ := H
  replace H := bd H; obtain ⟨v4, hv4, H⟩ := H
  refine d_rs rfl ?_
  refine rg ?_
  refine go (m_cG [(0, 0)] (F_make_Deck_Next_ok hv1)) ?_
  refine rg ?_
  refine go (m_litE (c := iC) ([3, 3, 9, 33] : List Int) i27.ok i3.ok) ?_
  refine rg ?_
  refine go (m_cG [(0, 0)] (F_make_Deck_Next_ok hv2)) ?_
  refine rg ?_
  refine go (m_cG [(0, 0)] (F_make_Deck_Next_ok hv4)) ?_
  refine rg ?_
  refine .nil ⟨by kernel_rfl, ?_⟩
  replace H := bd H; obtain ⟨v5, hv5, H⟩ := H
  refine d_rs rfl ?_
  refine rg ?_
  refine go (m_cS [] (F_ref09_Alloc_ok hv5) rfl (ScS.cons (scC (fun _ => rfl)) (ScS.cons (scC (fun _ => rfl)) ScS.nil))) ?_
  refine rg ?_
  refine .nil ⟨by kernel_rfl, ?_⟩
  refine d_seq fun K k6 => ?_
  refine d_rsA ?_
  replace H := fs H; rcases H with ⟨h7, H⟩ | ⟨h7, H⟩
  ·
    refine d_condB ?_
    refine d_skip ?_
    refine k6 _ ?_
    replace H := bd H; obtain ⟨v8, hv8, H⟩ := H
    refine d_rs rfl ?_
    refine rg ?_
    refine go (m_cS [] (F_ref08_Init_ok hv8) rfl (ScS.cons (scC (fun _ => rfl)) (ScS.cons (scC (fun _ => rfl)) ScS.nil))) ?_
    refine rg ?_
    refine .nil ⟨by kernel_rfl, ?_⟩
    refine d_asA ?_
    refine d_ret ?_
    change RetD _ _ _ _ _ _ _
    have e := se H; subst e
    exact finE [(0, 0)] (.cell i25.ok rfl rfl rfl rfl (.cell i51.ok rfl rfl rfl rfl (.nil)))
  refine d_condA ?_
  refine d_asA ?_
  refine d_ret ?_
  change RetD _ _ _ _ _ _ _
  have e := se H; subst e
  exact finE [(0, 0)] (.cell i25.ok rfl rfl rfl rfl (.cell i51.ok rfl rfl rfl rfl (.nil)))

noncomputable def F_make_Space (p0 : BeltwaymakeDeck) : Option (Sp × List Inc × BeltwaymakeDeck) :=
 (F_make_Deck_Next p0 2).bind fun v1 =>
 (F_make_Deck_Next v1.2 9).bind fun v2 =>
 (F_ref03_New (w64 (3 + v1.1)) (w64 (2 + v2.1))).bind fun v3 =>
 ((F_make_Deck_Next v2.2 5).bind fun v6 =>
 loopO (fun (s9 : BeltwaymakeDeck × Sp × List Inc × Int) =>
 if 0 < s9.2.2.2 then
 (((F_make_Deck_Next s9.1 3).bind fun v15 =>
 (F_make_Deck_Next v15.2 3).bind fun v16 =>
 ((F_make_Deck_Next v16.2 5).bind fun v19 =>
 loopO (fun (s21 : BeltwaymakeDeck × Sp × Inc × Int) =>
 if 0 < s21.2.2.2 then
 ((F_make_grown s21.1 s21.2.1 s21.2.2.1).bind fun v26 =>
 some (.go ((v26.2.2, v26.1, v26.2.1, w64 (s21.2.2.2 - 1)))))
 else
 some (.out ((s21.1, s21.2.1, s21.2.2.1)))) (v19.2, s9.2.1, Inc.mk (w64 ((w64 (3 * (s9.2.2.1.length : Int))) + v15.1)) v16.1 (-1) (-1) 0, w64 (1 + v19.1))).bind fun (b17 : BeltwaymakeDeck × Sp × Inc) =>
 if 0 < b17.2.2.words then
 (if ((s9.2.2.1.length : Int) + [b17.2.2].length) * 40 ≤ 140737488355328 ∧ (s9.2.2.1.length : Int) + [b17.2.2].length ≤ 9223372036854775807 then
 some ((b17.1, b17.2.1, s9.2.2.1 ++ [b17.2.2]))
 else none)
 else
 some ((b17.1, b17.2.1, s9.2.2.1))).bind fun (b13 : BeltwaymakeDeck × Sp × List Inc) =>
 some (.go ((b13.1, b13.2.1, b13.2.2, w64 (s9.2.2.2 - 1)))))
 else
 some (.out ((s9.1, s9.2.1, s9.2.2.1)))) (v6.2, v3.1, ([] : List Inc), v6.1)).bind fun (b4 : BeltwaymakeDeck × Sp × List Inc) =>
 some ((b4.2.1, b4.2.2, b4.1))

set_option maxRecDepth 20000 in
set_option maxHeartbeats 4000000 in
theorem F_make_Space_ok {p0 : BeltwaymakeDeck} {r : Sp × List Inc × BeltwaymakeDeck} (H : Sm (F_make_Space p0) r) : DCall Try.prog 9 [.ptr 0 0 0] [(0, ⟨2, false, false, [[.sl (p0.l.map iC), DI p0.pos]]⟩)] (.tup [.agg [DI r.1.sh, .sl (r.1.ws.map uC), .sl (r.1.fs.map frC)], .own 1 0 r.2.1.length]) [(0, ⟨2, false, false, [[.sl (r.2.2.l.map iC), DI r.2.2.pos]]⟩), (1, ⟨5, true, false, r.2.1.map Inc.c⟩)] := by
  unfold F_make_Space at H
  refine DCall.mk Try.func9 rfl rfl ?_
  refine d_rsA ?_
  replace H := bd H; obtain ⟨v1, hv1, H⟩ := H
  replace H := bd H; obtain ⟨v2, hv2, H⟩ := H
  replace H := bd H; obtain ⟨v3, hv3, H⟩ := H
  refine d_rs rfl ?_
  refine rg ?_
  refine go (m_cG [(0, 0)] (F_make_Deck_Next_ok hv1)) ?_
  refine rg ?_
  refine go (m_cG [(0, 0)] (F_make_Deck_Next_ok hv2)) ?_
  refine rg ?_
  refine go (m_cS [] (F_ref03_New_ok hv3) rfl (ScS.cons (scC (fun _ => rfl)) (ScS.cons (scC (fun _ => rfl)) ScS.nil))) ?_
  refine rg ?_
  refine .nil ⟨by kernel_rfl, ?_⟩
  refine d_rsA ?_
  refine d_cutS (fun (b4 : BeltwaymakeDeck × Sp × List Inc) => ⟨[(2, .ptr 1 0 0), (4, .ptr 2 0 0), (6, .own 3 0 b4.2.2.length)], [(0, ⟨2, false, false, [[.sl (b4.1.l.map iC), DI b4.1.pos]]⟩), (1, ⟨3, false, false, [[DI 0, DN, DN]]⟩), (2, ⟨3, false, false, [[DI b4.2.1.sh, .sl (b4.2.1.ws.map uC), .sl (b4.2.1.fs.map frC)]]⟩), (3, ⟨5, true, false, b4.2.2.map Inc.c⟩)], 4⟩) H (fun z5 H => ?_) (fun b4 H => ?_)
  ·
    replace H := bd H; obtain ⟨v6, hv6, H⟩ := H
    refine d_rs rfl ?_
    refine rg ?_
    refine go (m_cG [(0, 0)] (F_make_Deck_Next_ok hv6)) ?_
    refine rg ?_
    refine .nil ⟨by kernel_rfl, ?_⟩
    refine d_block ?_
    refine d_nil 6 5 (by decide) rfl ?_
    refine d_loopS (fun (s9 : BeltwaymakeDeck × Sp × List Inc × Int) => ⟨[(0, .ptr 0 0 0), (2, .ptr 1 0 0), (4, .ptr 2 0 0), (6, .own 3 0 s9.2.2.1.length), (7, DI s9.2.2.2)], [(0, ⟨2, false, false, [[.sl (s9.1.l.map iC), DI s9.1.pos]]⟩), (1, ⟨3, false, false, [[DI 0, DN, DN]]⟩), (2, ⟨3, false, false, [[DI s9.2.1.sh, .sl (s9.2.1.ws.map uC), .sl (s9.2.1.fs.map frC)]]⟩), (3, ⟨5, true, false, s9.2.2.1.map Inc.c⟩)], 4⟩) H (wkE [(0, 0), (1, 1), (2, 4), (3, 5)]) (fun s9 y10 hq10 H => ?_)
    refine d_seq fun K k11 => ?_
    refine d_rsA ?_
    replace H := fs H; rcases H with ⟨h12, H⟩ | ⟨h12, H⟩
    ·
      refine d_condA ?_
      refine d_skip ?_
      refine k11 _ ?_
      refine d_cutS (fun (b13 : BeltwaymakeDeck × Sp × List Inc) => ⟨[(0, .ptr 0 0 0), (2, .ptr 1 0 0), (4, .ptr 2 0 0), (6, .own 3 0 b13.2.2.length), (7, DI s9.2.2.2)], [(0, ⟨2, false, false, [[.sl (b13.1.l.map iC), DI b13.1.pos]]⟩), (1, ⟨3, false, false, [[DI 0, DN, DN]]⟩), (2, ⟨3, false, false, [[DI b13.2.1.sh, .sl (b13.2.1.ws.map uC), .sl (b13.2.1.fs.map frC)]]⟩), (3, ⟨5, true, false, b13.2.2.map Inc.c⟩)], 4⟩) H (fun z14 H => ?_) (fun b13 H => ?_)
      ·
        refine d_block ?_
        replace H := bd H; obtain ⟨v15, hv15, H⟩ := H
        replace H := bd H; obtain ⟨v16, hv16, H⟩ := H
        refine d_rs rfl ?_
        refine rg ?_
        refine go (m_cG [(0, 0)] (F_make_Deck_Next_ok hv15)) ?_
        refine rg ?_
        refine go (m_cG [(0, 0)] (F_make_Deck_Next_ok hv16)) ?_
        refine rg ?_
        refine .nil ⟨by kernel_rfl, ?_⟩
        refine d_cutS (fun (b17 : BeltwaymakeDeck × Sp × Inc) => ⟨[(0, .ptr 0 0 0), (2, .ptr 1 0 0), (4, .ptr 2 0 0), (6, .own 3 0 s9.2.2.1.length), (7, DI s9.2.2.2), (8, .ptr 4 0 0)], [(0, ⟨2, false, false, [[.sl (b17.1.l.map iC), DI b17.1.pos]]⟩), (1, ⟨3, false, false, [[DI 0, DN, DN]]⟩), (2, ⟨3, false, false, [[DI b17.2.1.sh, .sl (b17.2.1.ws.map uC), .sl (b17.2.1.fs.map frC)]]⟩), (3, ⟨5, true, false, s9.2.2.1.map Inc.c⟩), (4, ⟨5, false, false, [[DI b17.2.2.seq, DI b17.2.2.belt, DI b17.2.2.first, DI b17.2.2.last, DI b17.2.2.words]]⟩)], 5⟩) H (fun z18 H => ?_) (fun b17 H => ?_)
        ·
          replace H := bd H; obtain ⟨v19, hv19, H⟩ := H
          refine d_rs rfl ?_
          refine rg ?_
          refine go (m_cG [(0, 0)] (F_make_Deck_Next_ok hv19)) ?_
          refine rg ?_
          refine .nil ⟨by kernel_rfl, ?_⟩
          refine d_block ?_
          refine d_loopS (fun (s21 : BeltwaymakeDeck × Sp × Inc × Int) => ⟨[(0, .ptr 0 0 0), (2, .ptr 1 0 0), (4, .ptr 2 0 0), (6, .own 3 0 s9.2.2.1.length), (7, DI s9.2.2.2), (8, .ptr 4 0 0), (9, DI s21.2.2.2)], [(0, ⟨2, false, false, [[.sl (s21.1.l.map iC), DI s21.1.pos]]⟩), (1, ⟨3, false, false, [[DI 0, DN, DN]]⟩), (2, ⟨3, false, false, [[DI s21.2.1.sh, .sl (s21.2.1.ws.map uC), .sl (s21.2.1.fs.map frC)]]⟩), (3, ⟨5, true, false, s9.2.2.1.map Inc.c⟩), (4, ⟨5, false, false, [[DI s21.2.2.1.seq, DI s21.2.2.1.belt, DI s21.2.2.1.first, DI s21.2.2.1.last, DI s21.2.2.1.words]]⟩)], 5⟩) H (wkE [(0, 0), (1, 1), (2, 2), (3, 3), (4, 4)]) (fun s21 y22 hq22 H => ?_)
          refine d_seq fun K k23 => ?_
          refine d_rsA ?_
          replace H := fs H; rcases H with ⟨h24, H⟩ | ⟨h24, H⟩
          ·
            refine d_condA ?_
            refine d_skip ?_
            refine k23 _ ?_
            refine d_seq fun K k25 => ?_
            refine d_block ?_
            replace H := bd H; obtain ⟨v26, hv26, H⟩ := H
            refine d_region rfl ?_
            refine rg ?_
            refine go (m_cG [(0, 0)] (F_make_grown_ok hv26)) ?_
            refine rg ?_
            refine .nil ⟨by kernel_rfl, ?_⟩
            refine k25 _ ?_
            refine d_regA ?_
            have e := se H; subst e
            exact ⟨_, rfl, wkE [(0, 0), (1, 1), (2, 2), (3, 3), (4, 4)]⟩
          refine d_condB ?_
          refine d_exit ?_
          have e := se H; subst e
          have e := hq22 _ rfl; subst e
          exact wkE [(0, 0), (1, 1), (2, 2), (3, 3), (4, 4)]
        refine d_rsA ?_
        replace H := fs H; rcases H with ⟨h27, H⟩ | ⟨h27, H⟩
        ·
          refine d_condA ?_
          replace H := cq H; obtain ⟨h28, H⟩ := H
          refine d_region rfl ?_
          refine rg ?_
          refine go (m_litE (c := Inc.c) ([b17.2.2] : List Inc) i34.ok i51.ok) ?_
          refine go (m_apO (c := Inc.c) s9.2.2.1 [b17.2.2] h28 i34.ok i51.ok rfl rfl (.own rfl rfl (by simp) (all_len (c := Inc.c) (fun _ => rfl) _)) rfl) ?_
          refine rg ?_
          refine .nil ⟨by kernel_rfl, ?_⟩
          have e := se H; subst e
          exact wkE [(0, 0), (1, 1), (2, 2), (3, 6)]
        refine d_condB ?_
        refine d_skip ?_
        have e := se H; subst e
        exact wkE [(0, 0), (1, 1), (2, 2), (3, 3)]
      refine d_regA ?_
      have e := se H; subst e
      exact ⟨_, rfl, wkE [(0, 0), (1, 1), (2, 2), (3, 3)]⟩
    refine d_condB ?_
    refine d_exit ?_
    have e := se H; subst e
    have e := hq10 _ rfl; subst e
    exact wkE [(0, 0), (1, 1), (2, 2), (3, 3)]
  refine d_rsA ?_
  refine d_ret ?_
  change RetD _ _ _ _ _ _ _
  have e := se H; subst e
  exact finE [(0, 0), (1, 3)] (.cell i25.ok rfl rfl rfl rfl (.tmp (.nil)))

noncomputable def F_ref18_before (p0 : RSet) (p1 : RSet) : Option Bool :=
 if p0.frm < p1.frm then
 (some (true))
 else
 if p0.frm = p1.frm then
 (some (decide (p0.to < p1.to)))
 else
 some (false)

set_option maxRecDepth 20000 in
set_option maxHeartbeats 4000000 in
theorem F_ref18_before_ok {p0 : RSet} {p1 : RSet} {r : Bool} (H : Sm (F_ref18_before p0 p1) r) : DCall Try.prog 39 [.agg [DI p0.frm, DI p0.to, .sl (p0.slots.map iC)], .agg [DI p1.frm, DI p1.to, .sl (p1.slots.map iC)]] [] (DB r) [] := by
  unfold F_ref18_before at H
  refine DCall.mk Try.func39 rfl rfl ?_
  refine d_rsA ?_
  replace H := fs H; rcases H with ⟨h1, H⟩ | ⟨h1, H⟩
  ·
    refine d_rsA ?_
    refine d_ret ?_
    change RetD _ _ _ _ _ _ _
    have e := se H; subst e
    exact finE [] (.tmp (.nil))
  replace H := fs H; rcases H with ⟨h2, H⟩ | ⟨h2, H⟩
  ·
    refine d_rsA ?_
    refine d_ret ?_
    change RetD _ _ _ _ _ _ _
    have e := se H; subst e
    exact finE [] (.tmp (.nil))
  refine d_rsA ?_
  refine d_ret ?_
  change RetD _ _ _ _ _ _ _
  have e := se H; subst e
  exact finE [] (.tmp (.nil))

noncomputable def F_ref18_Copy (p0 : List RSet) : Option (List RSet) :=
 (loopO (fun (s5 : List RSet × Int) =>
 if s5.2 < (p0.length : Int) then
 ((at_ p0 s5.2).bind fun v10 =>
 if (v10.slots.length : Int) * 8 ≤ 140737488355328 ∧ (v10.slots.length : Int) ≤ 9223372036854775807 then
 if ((s5.1.length : Int) + [v10].length) * 40 ≤ 140737488355328 ∧ (s5.1.length : Int) + [v10].length ≤ 9223372036854775807 then
 some (.go ((s5.1 ++ [v10], w64 (s5.2 + 1))))
 else none
 else none)
 else
 some (.out (s5.1))) (([] : List RSet), 0)).bind fun (b1 : List RSet) =>
 some (b1)

set_option maxRecDepth 20000 in
set_option maxHeartbeats 4000000 in
theorem F_ref18_Copy_ok {p0 : List RSet} {r : List RSet} (H : Sm (F_ref18_Copy p0) r) : DCall Try.prog 40 [.sl (p0.map RSet.c)] [] (.own 0 0 r.length) [(0, ⟨3, true, false, r.map RSet.c⟩)] := by
  unfold F_ref18_Copy at H
  refine DCall.mk Try.func40 rfl rfl ?_
  refine d_rsA ?_
  refine d_rsA ?_
  refine d_cutS (fun (b1 : List RSet) => ⟨[(3, .own 0 0 b1.length)], [(0, ⟨3, true, false, b1.map RSet.c⟩)], 1⟩) H (fun z2 H => ?_) (fun b1 H => ?_)
  ·
    refine d_rsA ?_
    refine d_block ?_
    refine d_nil 3 3 (by decide) rfl ?_
    refine d_loopS (fun (s5 : List RSet × Int) => ⟨[(3, .own 0 0 s5.1.length), (6, .sl (p0.map RSet.c)), (7, DI (p0.length : Int)), (8, DI s5.2)], [(0, ⟨3, true, false, s5.1.map RSet.c⟩)], 1⟩) H (wkE [(0, 0)]) (fun s5 y6 hq6 H => ?_)
    refine d_rsA ?_
    refine d_seq fun K k7 => ?_
    replace H := fs H; rcases H with ⟨h8, H⟩ | ⟨h8, H⟩
    ·
      refine d_condA ?_
      refine d_skip ?_
      refine k7 _ ?_
      refine d_seq fun K k9 => ?_
      refine d_block ?_
      replace H := ba H; obtain ⟨v10, hv10, H⟩ := H
      refine d_rsA ?_
      replace H := cq H; obtain ⟨h11, H⟩ := H
      replace H := cq H; obtain ⟨h12, H⟩ := H
      refine d_any mixedP rfl (by kernel_rfl) ?_
      refine rg ?_
      refine go (m_apN (c := iC) v10.slots h11 i27.ok i3.ok rfl (.sl rfl (all_len (c := iC) (fun _ => rfl) _))) ?_
      refine rg ?_
      refine go (m_litP (c := RSet.c) ([v10] : List RSet) i26.ok i57.ok rfl rfl rfl rfl (by decide) (by decide) (by decide) rfl (pu_lit (pu_lit (pu_own (c := iC) (ys := v10.slots) rfl pu_nil))) rfl rfl) ?_
      refine go (m_apO (c := RSet.c) s5.1 [v10] h12 i26.ok i57.ok rfl rfl (.own rfl rfl (by simp) (all_len (c := RSet.c) (fun _ => rfl) _)) rfl) ?_
      refine rg ?_
      refine .nil ⟨⟨by kernel_rfl, by kernel_rfl⟩, ?_⟩
      refine k9 _ ?_
      refine d_regA ?_
      have e := se H; subst e
      exact ⟨_, rfl, wkE [(0, 4)]⟩
    refine d_condB ?_
    refine d_exit ?_
    have e := se H; subst e
    have e := hq6 _ rfl; subst e
    exact wkE [(0, 0)]
  refine d_rsA ?_
  refine d_ret ?_
  change RetD _ _ _ _ _ _ _
  have e := se H; subst e
  exact finE [(0, 0)] (.tmp (.nil))

noncomputable def F_ref18_with (p0 : List Int) (p1 : Int) : Option (List Int) :=
 (loopO (fun (s4 : Int) =>
 if s4 < (p0.length : Int) then
 ((at_ p0 s4).bind fun v8 =>
 if v8 < p1 then
 (some (.go (w64 (s4 + 1))))
 else
 some (.out (s4)))
 else
 some (.out (s4))) 0).bind fun (b1 : Int) =>
 if b1 < (p0.length : Int) then
 ((at_ p0 b1).bind fun v12 =>
 if v12 = p1 then
 (some (p0))
 else
 if (0 : Int) ≤ 0 ∧ 0 ≤ b1 ∧ b1 ≤ p0.length then
 if (((p0.take (Int.toNat b1)).drop (Int.toNat 0)).length : Int) * 8 ≤ 140737488355328 ∧ (((p0.take (Int.toNat b1)).drop (Int.toNat 0)).length : Int) ≤ 9223372036854775807 then
 if ((((p0.take (Int.toNat b1)).drop (Int.toNat 0)).length : Int) + [p1].length) * 8 ≤ 140737488355328 ∧ (((p0.take (Int.toNat b1)).drop (Int.toNat 0)).length : Int) + [p1].length ≤ 9223372036854775807 then
 if 0 ≤ b1 ∧ b1 ≤ (p0.length : Int) ∧ (p0.length : Int) ≤ p0.length then
 if (((((p0.take (Int.toNat b1)).drop (Int.toNat 0)) ++ [p1]).length : Int) + ((p0.take (Int.toNat (p0.length : Int))).drop (Int.toNat b1)).length) * 8 ≤ 140737488355328 ∧ ((((p0.take (Int.toNat b1)).drop (Int.toNat 0)) ++ [p1]).length : Int) + ((p0.take (Int.toNat (p0.length : Int))).drop (Int.toNat b1)).length ≤ 9223372036854775807 then
 some ((((p0.take (Int.toNat b1)).drop (Int.toNat 0)) ++ [p1]) ++ ((p0.take (Int.toNat (p0.length : Int))).drop (Int.toNat b1)))
 else none
 else none
 else none
 else none
 else none)
 else
 if (0 : Int) ≤ 0 ∧ 0 ≤ b1 ∧ b1 ≤ p0.length then
 if (((p0.take (Int.toNat b1)).drop (Int.toNat 0)).length : Int) * 8 ≤ 140737488355328 ∧ (((p0.take (Int.toNat b1)).drop (Int.toNat 0)).length : Int) ≤ 9223372036854775807 then
 if ((((p0.take (Int.toNat b1)).drop (Int.toNat 0)).length : Int) + [p1].length) * 8 ≤ 140737488355328 ∧ (((p0.take (Int.toNat b1)).drop (Int.toNat 0)).length : Int) + [p1].length ≤ 9223372036854775807 then
 if 0 ≤ b1 ∧ b1 ≤ (p0.length : Int) ∧ (p0.length : Int) ≤ p0.length then
 if (((((p0.take (Int.toNat b1)).drop (Int.toNat 0)) ++ [p1]).length : Int) + ((p0.take (Int.toNat (p0.length : Int))).drop (Int.toNat b1)).length) * 8 ≤ 140737488355328 ∧ ((((p0.take (Int.toNat b1)).drop (Int.toNat 0)) ++ [p1]).length : Int) + ((p0.take (Int.toNat (p0.length : Int))).drop (Int.toNat b1)).length ≤ 9223372036854775807 then
 some ((((p0.take (Int.toNat b1)).drop (Int.toNat 0)) ++ [p1]) ++ ((p0.take (Int.toNat (p0.length : Int))).drop (Int.toNat b1)))
 else none
 else none
 else none
 else none
 else none

set_option maxRecDepth 20000 in
set_option maxHeartbeats 4000000 in
theorem F_ref18_with_ok {p0 : List Int} {p1 : Int} {r : List Int} (H : Sm (F_ref18_with p0 p1) r) : DCall Try.prog 41 [.sl (p0.map iC), DI p1] [] (.sl (r.map iC)) [] := by
  unfold F_ref18_with at H
  refine DCall.mk Try.func41 rfl rfl ?_
  refine d_rsA ?_
  refine d_rsA ?_
  refine d_cutS (fun (b1 : Int) => ⟨[(0, .sl (p0.map iC)), (1, DI p1), (5, DI b1)], [], 0⟩) H (fun z2 H => ?_) (fun b1 H => ?_)
  ·
    refine d_block ?_
    refine d_loopS (fun (s4 : Int) => ⟨[(0, .sl (p0.map iC)), (1, DI p1), (5, DI s4)], [], 0⟩) H (wkE []) (fun s4 y5 hq5 H => ?_)
    refine d_seq fun K k6 => ?_
    replace H := fs H; rcases H with ⟨h7, H⟩ | ⟨h7, H⟩
    ·
      replace H := ba H; obtain ⟨v8, hv8, H⟩ := H
      refine d_rsA ?_
      replace H := fs H; rcases H with ⟨h9, H⟩ | ⟨h9, H⟩
      ·
        refine d_condA ?_
        refine d_skip ?_
        refine k6 _ ?_
        refine d_block ?_
        refine d_regA ?_
        have e := se H; subst e
        exact ⟨_, rfl, wkE []⟩
      refine d_condB ?_
      refine d_exit ?_
      have e := se H; subst e
      have e := hq5 _ rfl; subst e
      exact wkE []
    refine d_rsA ?_
    refine d_condB ?_
    refine d_exit ?_
    have e := se H; subst e
    have e := hq5 _ rfl; subst e
    exact wkE []
  refine d_seq fun K k10 => ?_
  replace H := fs H; rcases H with ⟨h11, H⟩ | ⟨h11, H⟩
  ·
    replace H := ba H; obtain ⟨v12, hv12, H⟩ := H
    refine d_rsA ?_
    replace H := fs H; rcases H with ⟨h13, H⟩ | ⟨h13, H⟩
    ·
      refine d_condA ?_
      refine d_rsA ?_
      refine d_ret ?_
      change RetD _ _ _ _ _ _ _
      have e := se H; subst e
      exact finE [] (.tmp (.nil))
    refine d_condB ?_
    refine d_skip ?_
    refine k10 _ ?_
    replace H := cq H; obtain ⟨h14, H⟩ := H
    replace H := cq H; obtain ⟨h15, H⟩ := H
    refine d_rs rfl ?_
    refine rg ?_
    refine go (m_slS (a := 0) (b := b1) h14 i27.ok i3.ok (.inl ⟨rfl, rfl⟩) (.inr ⟨_, _, rfl, rfl⟩)) ?_
    refine go (m_apN (c := iC) ((p0.take (Int.toNat b1)).drop (Int.toNat 0)) h15 i27.ok i3.ok rfl (.sl rfl (all_len (c := iC) (fun _ => rfl) _))) ?_
    refine rg ?_
    refine .nil ⟨by kernel_rfl, ?_⟩
    replace H := cq H; obtain ⟨h16, H⟩ := H
    replace H := cq H; obtain ⟨h17, H⟩ := H
    replace H := cq H; obtain ⟨h18, H⟩ := H
    refine d_as mixedP rfl (by kernel_rfl) ?_
    refine rg ?_
    refine go (m_litE (c := iC) ([p1] : List Int) i27.ok i3.ok) ?_
    refine go (m_apO (c := iC) ((p0.take (Int.toNat b1)).drop (Int.toNat 0)) [p1] h16 i27.ok i3.ok rfl rfl (.own rfl rfl (by simp) (all_len (c := iC) (fun _ => rfl) _)) rfl) ?_
    refine rg ?_
    refine go (m_slS (a := b1) (b := (p0.length : Int)) h17 i27.ok i3.ok (.inr ⟨_, _, rfl, rfl⟩) (.inl ⟨rfl, rfl⟩)) ?_
    refine go (m_apO (c := iC) (((p0.take (Int.toNat b1)).drop (Int.toNat 0)) ++ [p1]) ((p0.take (Int.toNat (p0.length : Int))).drop (Int.toNat b1)) h18 i27.ok i3.ok rfl rfl (.sl rfl (all_len (c := iC) (fun _ => rfl) _)) rfl) ?_
    refine rg ?_
    refine .nil ⟨⟨by kernel_rfl, by kernel_rfl⟩, ?_⟩
    refine d_ret ?_
    change RetD _ _ _ _ _ _ _
    have e := se H; subst e
    exact finE [] (.tmp (.nil))
  refine d_rsA ?_
  refine d_condB ?_
  refine d_skip ?_
  refine k10 _ ?_
  replace H := cq H; obtain ⟨h19, H⟩ := H
  replace H := cq H; obtain ⟨h20, H⟩ := H
  refine d_rs rfl ?_
  refine rg ?_
  refine go (m_slS (a := 0) (b := b1) h19 i27.ok i3.ok (.inl ⟨rfl, rfl⟩) (.inr ⟨_, _, rfl, rfl⟩)) ?_
  refine go (m_apN (c := iC) ((p0.take (Int.toNat b1)).drop (Int.toNat 0)) h20 i27.ok i3.ok rfl (.sl rfl (all_len (c := iC) (fun _ => rfl) _))) ?_
  refine rg ?_
  refine .nil ⟨by kernel_rfl, ?_⟩
  replace H := cq H; obtain ⟨h21, H⟩ := H
  replace H := cq H; obtain ⟨h22, H⟩ := H
  replace H := cq H; obtain ⟨h23, H⟩ := H
  refine d_as mixedP rfl (by kernel_rfl) ?_
  refine rg ?_
  refine go (m_litE (c := iC) ([p1] : List Int) i27.ok i3.ok) ?_
  refine go (m_apO (c := iC) ((p0.take (Int.toNat b1)).drop (Int.toNat 0)) [p1] h21 i27.ok i3.ok rfl rfl (.own rfl rfl (by simp) (all_len (c := iC) (fun _ => rfl) _)) rfl) ?_
  refine rg ?_
  refine go (m_slS (a := b1) (b := (p0.length : Int)) h22 i27.ok i3.ok (.inr ⟨_, _, rfl, rfl⟩) (.inl ⟨rfl, rfl⟩)) ?_
  refine go (m_apO (c := iC) (((p0.take (Int.toNat b1)).drop (Int.toNat 0)) ++ [p1]) ((p0.take (Int.toNat (p0.length : Int))).drop (Int.toNat b1)) h23 i27.ok i3.ok rfl rfl (.sl rfl (all_len (c := iC) (fun _ => rfl) _)) rfl) ?_
  refine rg ?_
  refine .nil ⟨⟨by kernel_rfl, by kernel_rfl⟩, ?_⟩
  refine d_ret ?_
  change RetD _ _ _ _ _ _ _
  have e := se H; subst e
  exact finE [] (.tmp (.nil))

end Go.Proofs.Ythpnlnjdmlbnaaa
