/- Parts of the proof: B3. No condition. -/
import Derived.Test.YthpnlnjdmlbnaaaMW6
/- Trial. -/
namespace Go.Proofs.Ythpnlnjdmlbnaaa
open Go.RowKit
set_option linter.unusedSimpArgs false
set_option linter.unusedVariables false
set_option maxRecDepth 20000 in
set_option maxHeartbeats 4000000 in
theorem F_barrier_Record_ok {p0 : Sp} {p1 : List RSet} {p2 : Int} {p3 : Int} {r : List RSet × Int} (H : Sm (F_barrier_Record p0 p1 p2 p3) r) : DCall Try.prog 15 [.agg [DI p0.sh, .sl (p0.ws.map uC), .sl (p0.fs.map frC)], .sl (p1.map RSet.c), DI p2, DU p3] [] (.tup [.own 0 0 r.1.length, DI r.2]) [(0, ⟨3, true, false, r.1.map RSet.c⟩)] := by
  unfold F_barrier_Record at H
  refine DCall.mk Try.func15 rfl rfl ?_
  refine d_rsA ?_
  refine d_seq fun K k1 => ?_
  replace H := bd H; obtain ⟨v2, hv2, H⟩ := H
  replace H := fs H; rcases H with ⟨h3, H⟩ | ⟨h3, H⟩
  ·
    replace H := bd H; obtain ⟨v4, hv4, H⟩ := H
    refine d_rs rfl ?_
    refine rg ?_
    refine go (m_cS [] (F_frame_Valid_ok hv2) rfl ScS.nil) ?_
    refine rg ?_
    refine go (m_cS [] (F_remset_Valid_ok hv4) rfl ScS.nil) ?_ (gY (congrArg not h3))
    refine rg ?_
    refine .nil ⟨by kernel_rfl, ?_⟩
    replace H := fs H; rcases H with ⟨h5, H⟩ | ⟨h5, H⟩
    ·
      refine d_condB ?_
      refine d_skip ?_
      refine k1 _ ?_
      refine d_seq fun K k6 => ?_
      replace H := bd H; obtain ⟨v7, hv7, H⟩ := H
      refine d_rs rfl ?_
      refine rg ?_
      refine go (m_cS [] (F_barrier_Needs_ok hv7) rfl ScS.nil) ?_
      refine rg ?_
      refine .nil ⟨by kernel_rfl, ?_⟩
      replace H := fs H; rcases H with ⟨h8, H⟩ | ⟨h8, H⟩
      ·
        refine d_condB ?_
        refine d_skip ?_
        refine k6 _ ?_
        replace H := bd H; obtain ⟨v9, hv9, H⟩ := H
        refine d_rs rfl ?_
        refine rg ?_
        refine go (m_cS [] (F_barrier_pair_ok hv9) rfl ScS.nil) ?_
        refine rg ?_
        refine .nil ⟨by kernel_rfl, ?_⟩
        replace H := bd H; obtain ⟨v10, hv10, H⟩ := H
        refine d_rs rfl ?_
        refine rg ?_
        refine go (m_cG [] (F_remset_Insert_ok hv10)) ?_
        refine rg ?_
        refine .nil ⟨by kernel_rfl, ?_⟩
        refine d_ret ?_
        change RetD _ _ _ _ _ _ _
        have e := se H; subst e
        exact finE [(0, 1)] (.tmp (.tmp (.nil)))
      refine d_condA ?_
      replace H := bd H; obtain ⟨v11, hv11, H⟩ := H
      refine d_rs rfl ?_
      refine rg ?_
      refine go (m_cG [] (F_clone_Sets_ok hv11)) ?_
      refine rg ?_
      refine .nil ⟨by kernel_rfl, ?_⟩
      refine d_weak (tellC (s := 1) (xs := v11) (cd := RSet.d) rfl (fun _ => rfl)) ?_
      refine d_weak (Weak.flat (s := 1) (c := RSet.c) rfl (fun _ => rfl) (fun _ => rfl)) ?_
      refine d_ret ?_
      change RetD _ _ _ _ _ _ _
      have e := se H; subst e
      exact finE [(0, 1)] (.tmp (.tmp (.nil)))
    refine d_condA ?_
    refine d_rsA ?_
    refine d_nil 8 3 (by decide) rfl ?_
    refine d_ret ?_
    change RetD _ _ _ _ _ _ _
    have e := se H; subst e
    exact finE [(0, 1)] (.tmp (.tmp (.nil)))
  refine d_rs rfl ?_
  refine rg ?_
  refine go (m_cS [] (F_frame_Valid_ok hv2) rfl ScS.nil) ?_
  refine rg ?_
  refine .nil ⟨by kernel_rfl, ?_⟩
  refine d_condA ?_
  refine d_rsA ?_
  refine d_nil 8 3 (by decide) rfl ?_
  refine d_ret ?_
  change RetD _ _ _ _ _ _ _
  have e := se H; subst e
  exact finE [(0, 1)] (.tmp (.tmp (.nil)))

noncomputable def F_law19_awake  : Option Bool :=
 (F_ref03_New 3 3).bind fun v1 =>
 (at_ v1.1.fs 0).bind fun v2 =>
 (at_ (v1.1.fs.set (Int.toNat 0) (Fe.mk 5 5 (-1))) 1).bind fun v3 =>
 (F_barrier_Record (Sp.mk v1.1.sh v1.1.ws ((v1.1.fs.set (Int.toNat 0) (Fe.mk 5 5 (-1))).set (Int.toNat 1) (Fe.mk 2 4294967298 (-1)))) ([] : List RSet) 9 1).bind fun v4 =>
 (F_barrier_Needs (Sp.mk v1.1.sh v1.1.ws ((v1.1.fs.set (Int.toNat 0) (Fe.mk 5 5 (-1))).set (Int.toNat 1) (Fe.mk 2 4294967298 (-1)))) 9 1).bind fun v5 =>
 if v5 = true then
 ((F_barrier_Needs (Sp.mk v1.1.sh v1.1.ws ((v1.1.fs.set (Int.toNat 0) (Fe.mk 5 5 (-1))).set (Int.toNat 1) (Fe.mk 2 4294967298 (-1)))) 1 10).bind fun v7 =>
 if v7 = true then
 (some (false))
 else
 (F_barrier_Needs (Sp.mk v1.1.sh v1.1.ws ((v1.1.fs.set (Int.toNat 0) (Fe.mk 5 5 (-1))).set (Int.toNat 1) (Fe.mk 2 4294967298 (-1)))) 9 0).bind fun v9 =>
 if v9 = true then
 (some (false))
 else
 if v4.2 = 0 then
 (if (v4.1.length : Int) = 1 then
 ((at_ v4.1 0).bind fun v13 =>
 if v13.frm = 1 then
 (some (decide (v13.to = 0)))
 else
 some (false))
 else
 some (false))
 else
 some (false))
 else
 some (false)

set_option maxRecDepth 20000 in
set_option maxHeartbeats 4000000 in
theorem F_law19_awake_ok  {r : Bool} (H : Sm (F_law19_awake) r) : DCall Try.prog 7 [] [] (DB r) [] := by
  unfold F_law19_awake at H
  refine DCall.mk Try.func7 rfl rfl ?_
  refine d_rsA ?_
  replace H := bd H; obtain ⟨v1, hv1, H⟩ := H
  refine d_rs rfl ?_
  refine go (m_cS [] (F_ref03_New_ok hv1) rfl (ScS.cons (scC (fun _ => rfl)) (ScS.cons (scC (fun _ => rfl)) ScS.nil))) ?_
  refine rg ?_
  refine .nil ⟨by kernel_rfl, ?_⟩
  replace H := ba H; obtain ⟨v2, hv2, H⟩ := H
  refine d_rs rfl ?_
  refine rg ?_
  refine go (m_stO (c := frC) hv2.h (Fe.mk 5 5 (-1)) i61.ok) ?_
  refine .nil ⟨by kernel_rfl, ?_⟩
  replace H := ba H; obtain ⟨v3, hv3, H⟩ := H
  refine d_rs rfl ?_
  refine rg ?_
  refine go (m_stO (c := frC) hv3.h (Fe.mk 2 4294967298 (-1)) i61.ok) ?_
  refine .nil ⟨by kernel_rfl, ?_⟩
  replace H := bd H; obtain ⟨v4, hv4, H⟩ := H
  refine d_rs rfl ?_
  refine rg ?_
  refine go (m_cG [] (F_barrier_Record_ok hv4)) ?_
  refine rg ?_
  refine .nil ⟨by kernel_rfl, ?_⟩
  replace H := bd H; obtain ⟨v5, hv5, H⟩ := H
  replace H := fs H; rcases H with ⟨h6, H⟩ | ⟨h6, H⟩
  ·
    replace H := bd H; obtain ⟨v7, hv7, H⟩ := H
    replace H := fs H; rcases H with ⟨h8, H⟩ | ⟨h8, H⟩
    ·
      refine d_rs rfl ?_
      refine rg ?_
      refine go (m_cS [] (F_barrier_Needs_ok hv5) rfl ScS.nil) ?_
      refine rg ?_
      refine go (m_cS [] (F_barrier_Needs_ok hv7) rfl ScS.nil) ?_ (gY h6)
      refine rg ?_
      refine .nil ⟨by kernel_rfl, ?_⟩
      refine d_ret ?_
      change RetD _ _ _ _ _ _ _
      have e := se H; subst e
      exact finE [] (.tmp (.nil))
    replace H := bd H; obtain ⟨v9, hv9, H⟩ := H
    replace H := fs H; rcases H with ⟨h10, H⟩ | ⟨h10, H⟩
    ·
      refine d_rs rfl ?_
      refine rg ?_
      refine go (m_cS [] (F_barrier_Needs_ok hv5) rfl ScS.nil) ?_
      refine rg ?_
      refine go (m_cS [] (F_barrier_Needs_ok hv7) rfl ScS.nil) ?_ (gY h6)
      refine rg ?_
      refine go (m_cS [] (F_barrier_Needs_ok hv9) rfl ScS.nil) ?_ (gY (congrArg not (eq_false_of_ne_true h8)))
      refine rg ?_
      refine .nil ⟨by kernel_rfl, ?_⟩
      refine d_ret ?_
      change RetD _ _ _ _ _ _ _
      have e := se H; subst e
      exact finE [] (.tmp (.nil))
    replace H := fs H; rcases H with ⟨h11, H⟩ | ⟨h11, H⟩
    ·
      replace H := fs H; rcases H with ⟨h12, H⟩ | ⟨h12, H⟩
      ·
        replace H := ba H; obtain ⟨v13, hv13, H⟩ := H
        replace H := fs H; rcases H with ⟨h14, H⟩ | ⟨h14, H⟩
        ·
          refine d_rs rfl ?_
          refine rg ?_
          refine go (m_cS [] (F_barrier_Needs_ok hv5) rfl ScS.nil) ?_
          refine rg ?_
          refine go (m_cS [] (F_barrier_Needs_ok hv7) rfl ScS.nil) ?_ (gY h6)
          refine rg ?_
          refine go (m_cS [] (F_barrier_Needs_ok hv9) rfl ScS.nil) ?_ (gY (congrArg not (eq_false_of_ne_true h8)))
          refine rg ?_
          refine .nil ⟨by kernel_rfl, ?_⟩
          refine d_ret ?_
          change RetD _ _ _ _ _ _ _
          have e := se H; subst e
          exact finE [] (.tmp (.nil))
        refine d_rs rfl ?_
        refine rg ?_
        refine go (m_cS [] (F_barrier_Needs_ok hv5) rfl ScS.nil) ?_
        refine rg ?_
        refine go (m_cS [] (F_barrier_Needs_ok hv7) rfl ScS.nil) ?_ (gY h6)
        refine rg ?_
        refine go (m_cS [] (F_barrier_Needs_ok hv9) rfl ScS.nil) ?_ (gY (congrArg not (eq_false_of_ne_true h8)))
        refine rg ?_
        refine .nil ⟨by kernel_rfl, ?_⟩
        refine d_ret ?_
        change RetD _ _ _ _ _ _ _
        have e := se H; subst e
        exact finE [] (.tmp (.nil))
      refine d_rs rfl ?_
      refine rg ?_
      refine go (m_cS [] (F_barrier_Needs_ok hv5) rfl ScS.nil) ?_
      refine rg ?_
      refine go (m_cS [] (F_barrier_Needs_ok hv7) rfl ScS.nil) ?_ (gY h6)
      refine rg ?_
      refine go (m_cS [] (F_barrier_Needs_ok hv9) rfl ScS.nil) ?_ (gY (congrArg not (eq_false_of_ne_true h8)))
      refine rg ?_
      refine .nil ⟨by kernel_rfl, ?_⟩
      refine d_ret ?_
      change RetD _ _ _ _ _ _ _
      have e := se H; subst e
      exact finE [] (.tmp (.nil))
    refine d_rs rfl ?_
    refine rg ?_
    refine go (m_cS [] (F_barrier_Needs_ok hv5) rfl ScS.nil) ?_
    refine rg ?_
    refine go (m_cS [] (F_barrier_Needs_ok hv7) rfl ScS.nil) ?_ (gY h6)
    refine rg ?_
    refine go (m_cS [] (F_barrier_Needs_ok hv9) rfl ScS.nil) ?_ (gY (congrArg not (eq_false_of_ne_true h8)))
    refine rg ?_
    refine .nil ⟨by kernel_rfl, ?_⟩
    refine d_ret ?_
    change RetD _ _ _ _ _ _ _
    have e := se H; subst e
    exact finE [] (.tmp (.nil))
  refine d_rs rfl ?_
  refine rg ?_
  refine go (m_cS [] (F_barrier_Needs_ok hv5) rfl ScS.nil) ?_
  refine rg ?_
  refine .nil ⟨by kernel_rfl, ?_⟩
  refine d_ret ?_
  change RetD _ _ _ _ _ _ _
  have e := se H; subst e
  exact finE [] (.tmp (.nil))

structure BeltwaymakeDeck where
  l : List Int
  pos : Int
def BeltwaymakeDeck.c (x : BeltwaymakeDeck) : List DV := [.sl (x.l.map iC), DI x.pos]
def BeltwaymakeDeck.d (x : BeltwaymakeDeck) : List DV := [.dp 1 (x.l.map iC), DI x.pos]

noncomputable def F_make_New (p0 : List Int) : Option BeltwaymakeDeck :=
 some (BeltwaymakeDeck.mk p0 0)

set_option maxRecDepth 20000 in
set_option maxHeartbeats 4000000 in
theorem F_make_New_ok {p0 : List Int} {r : BeltwaymakeDeck} (H : Sm (F_make_New p0) r) : DCall Try.prog 8 [.sl (p0.map iC)] [] (.ptr 0 0 0) [(0, ⟨2, false, false, [[.sl (r.l.map iC), DI r.pos]]⟩)] := by
  unfold F_make_New at H
  refine DCall.mk Try.func8 rfl rfl ?_
  refine d_rsA ?_
  refine d_rsA ?_
  refine d_ret ?_
  change RetD _ _ _ _ _ _ _
  have e := se H; subst e
  exact finE [(0, 0)] (.tmp (.nil))

structure Inc where
  seq : Int
  belt : Int
  first : Int
  last : Int
  words : Int
def Inc.c (x : Inc) : List DV := [DI x.seq, DI x.belt, DI x.first, DI x.last, DI x.words]

noncomputable def F_make_Mod (p0 : Int) (p1 : Int) : Option Int :=
 if ¬ p1 = 0 then
 if (Int.tmod p0 p1) < 0 then
 (some (w64 ((Int.tmod p0 p1) + p1)))
 else
 some (Int.tmod p0 p1)
 else none

set_option maxRecDepth 20000 in
set_option maxHeartbeats 4000000 in
theorem F_make_Mod_ok {p0 : Int} {p1 : Int} {r : Int} (H : Sm (F_make_Mod p0 p1) r) : DCall Try.prog 11 [DI p0, DI p1] [] (DI r) [] := by
  unfold F_make_Mod at H
  refine DCall.mk Try.func11 rfl rfl ?_
  refine d_rsA ?_
  replace H := cq H; obtain ⟨h1, H⟩ := H
  refine d_rsA ?_
  refine d_seq fun K k2 => ?_
  refine d_rsA ?_
  replace H := fs H; rcases H with ⟨h3, H⟩ | ⟨h3, H⟩
  ·
    refine d_condA ?_
    refine d_regA ?_
    refine k2 _ ?_
    refine d_rsA ?_
    refine d_ret ?_
    change RetD _ _ _ _ _ _ _
    have e := se H; subst e
    exact finE [] (.tmp (.nil))
  refine d_condB ?_
  refine d_skip ?_
  refine k2 _ ?_
  refine d_rsA ?_
  refine d_ret ?_
  change RetD _ _ _ _ _ _ _
  have e := se H; subst e
  exact finE [] (.tmp (.nil))

noncomputable def F_make_Deck_Next (p0 : BeltwaymakeDeck) (p1 : Int) : Option (Int × BeltwaymakeDeck) :=
 if (p0.l.length : Int) ≤ p0.pos then
 (some ((0, p0)))
 else
 (at_ p0.l (w64 ((w64 (p0.pos + 1)) - 1))).bind fun v3 =>
 (F_make_Mod v3 p1).bind fun v4 =>
 some ((v4, BeltwaymakeDeck.mk p0.l (w64 (p0.pos + 1))))

set_option maxRecDepth 20000 in
set_option maxHeartbeats 4000000 in
theorem F_make_Deck_Next_ok {p0 : BeltwaymakeDeck} {p1 : Int} {r : Int × BeltwaymakeDeck} (H : Sm (F_make_Deck_Next p0 p1) r) : DCall Try.prog 21 [.ptr 0 0 0, DI p1] [(0, ⟨2, false, false, [[.sl (p0.l.map iC), DI p0.pos]]⟩)] (DI r.1) [(0, ⟨2, false, false, [[.sl (r.2.l.map iC), DI r.2.pos]]⟩)] := by
  unfold F_make_Deck_Next at H
  refine DCall.mk Try.func21 rfl rfl ?_
  refine d_rsA ?_
  refine d_seq fun K k1 => ?_
  refine d_asA ?_
  replace H := fs H; rcases H with ⟨h2, H⟩ | ⟨h2, H⟩
  ·
    refine d_condA ?_
    refine d_rsA ?_
    refine d_ret ?_
    change RetD _ _ _ _ _ _ _
    have e := se H; subst e
    exact finE [(0, 0)] (.tmp (.nil))
  refine d_condB ?_
  refine d_skip ?_
  refine k1 _ ?_
  refine d_rsA ?_
  replace H := ba H; obtain ⟨v3, hv3, H⟩ := H
  replace H := bd H; obtain ⟨v4, hv4, H⟩ := H
  refine d_as mixedP rfl (by kernel_rfl) ?_
  refine rg ?_
  refine go (m_cS [] (F_make_Mod_ok hv4) rfl ScS.nil) ?_
  refine rg ?_
  refine .nil ⟨⟨by kernel_rfl, by kernel_rfl⟩, ?_⟩
  refine d_ret ?_
  change RetD _ _ _ _ _ _ _
  have e := se H; subst e
  exact finE [(0, 0)] (.tmp (.nil))

noncomputable def F_ref03_stamped (p0 : Fe) : Option Bool :=
 if p0.ow < 0 then
 (some (false))
 else
 if 4294967295 < p0.ow then
 (some (false))
 else
 bndR (loopO (fun (s7 : Int) =>
 if s7 < 4 then
 (if p0.st = (w64 (p0.ow + (w64 (s7 * 4294967296)))) then
 (some (.out (.inr (true))))
 else
 some (.go (w64 (s7 + 1))))
 else
 some (.out (.inl (())))) 0) fun (b4 : Unit) =>
 some (false)

set_option maxRecDepth 20000 in
set_option maxHeartbeats 4000000 in
theorem F_ref03_stamped_ok {p0 : Fe} {r : Bool} (H : Sm (F_ref03_stamped p0) r) : DCall Try.prog 52 [.agg [DI p0.ow, DI p0.st, DI p0.nx]] [] (DB r) [] := by
  unfold F_ref03_stamped at H
  refine DCall.mk Try.func52 rfl rfl ?_
  refine d_rsA ?_
  refine d_seq fun K k1 => ?_
  replace H := fs H; rcases H with ⟨h2, H⟩ | ⟨h2, H⟩
  ·
    refine d_rsA ?_
    refine d_condA ?_
    refine d_rsA ?_
    refine d_ret ?_
    change RetD _ _ _ _ _ _ _
    have e := se H; subst e
    exact finE [] (.tmp (.nil))
  refine d_rsA ?_
  replace H := fs H; rcases H with ⟨h3, H⟩ | ⟨h3, H⟩
  ·
    refine d_condA ?_
    refine d_rsA ?_
    refine d_ret ?_
    change RetD _ _ _ _ _ _ _
    have e := se H; subst e
    exact finE [] (.tmp (.nil))
  refine d_condB ?_
  refine d_skip ?_
  refine k1 _ ?_
  refine d_cutT (fun (b4 : Unit) => ⟨[], [], 0⟩) H (fun z5 hr5 H => ?_) (fun b4 H => ?_)
  ·
    refine d_rsA ?_
    refine d_block ?_
    refine d_loopS (fun (s7 : Int) => ⟨[(1, .ptr 0 0 0), (3, DI s7)], [(0, ⟨3, false, false, [[DI p0.ow, DI p0.st, DI p0.nx]]⟩)], 1⟩) H (wkE [(0, 0)]) (fun s7 y8 hq8 H => ?_)
    refine d_seq fun K k9 => ?_
    refine d_rsA ?_
    replace H := fs H; rcases H with ⟨h10, H⟩ | ⟨h10, H⟩
    ·
      refine d_condA ?_
      refine d_skip ?_
      refine k9 _ ?_
      refine d_seq fun K k11 => ?_
      refine d_block ?_
      refine d_rsA ?_
      replace H := fs H; rcases H with ⟨h12, H⟩ | ⟨h12, H⟩
      ·
        refine d_condA ?_
        refine d_rsA ?_
        refine d_ret ?_
        change RetD _ _ _ _ _ _ _
        have e := se H; subst e
        have e := hq8 _ rfl; subst e
        have e := hr5 _ rfl; subst e
        exact finE [] (.tmp (.nil))
      refine d_condB ?_
      refine d_skip ?_
      refine k11 _ ?_
      refine d_regA ?_
      have e := se H; subst e
      exact ⟨_, rfl, wkE [(0, 0)]⟩
    refine d_condB ?_
    refine d_exit ?_
    have e := se H; subst e
    have e := hq8 _ rfl; subst e
    exact ⟨_, rfl, wkE []⟩
  refine d_rsA ?_
  refine d_ret ?_
  change RetD _ _ _ _ _ _ _
  have e := se H; subst e
  exact finE [] (.tmp (.nil))

noncomputable def F_ref03_Valid (p0 : Sp) : Option Bool :=
 (F_ref03_shift p0.sh).bind fun v2 =>
 if v2 = true then
 (if (p0.fs.length : Int) < 2 then
 (some (false))
 else
 if 64 < (p0.fs.length : Int) then
 (some (false))
 else
 if 0 ≤ wu p0.sh then
 if (p0.ws.length : Int) = (shlN .i64 (p0.fs.length : Int) (wu p0.sh)) then
 (bndR (loopO (fun (s11 : List Int × Int) =>
 if s11.2 < (p0.fs.length : Int) then
 (bndR ((at_ p0.fs s11.2).bind fun v17 =>
 bndR (if v17.ow = (-1) then
 (if v17.st = (-1) then
 (if v17.nx = (-1) then
 (bndR (loopO (fun (s26 : Int) =>
 if s26 < (shlN .i64 (w64 (s11.2 + 1)) (wu p0.sh)) then
 ((at_ p0.ws s26).bind fun v31 =>
 if v31 = 0 then
 (some (.go (w64 (s26 + 1))))
 else
 some (.out (.inr (.inr (.inr (.out (.inr (false))))))))
 else
 some (.out (.inl (())))) (shlN .i64 s11.2 (wu p0.sh))) fun (b23 : Unit) =>
 some (.inr (.inl (s11.1))))
 else
 some (.inl (())))
 else
 some (.inl (())))
 else
 some (.inl (()))) fun (b18 : Unit) =>
 (F_ref03_stamped v17).bind fun v34 =>
 if v34 = true then
 (if v17.nx < (-1) then
 (some (.inr (.out (.inr (false)))))
 else
 if (p0.fs.length : Int) ≤ v17.nx then
 (some (.inr (.out (.inr (false)))))
 else
 if v17.nx = s11.2 then
 (some (.inr (.out (.inr (false)))))
 else
 if v17.nx = (-1) then
 (some (.inl (s11.1)))
 else
 (at_ p0.fs v17.nx).bind fun v41 =>
 if v17.nx < 64 then
 (at_ s11.1 v17.nx).bind fun v43 =>
 if v41.ow = v17.ow then
 (if v41.st = v17.st then
 ((at_ (s11.1.set (Int.toNat v17.nx) (w64 (v43 + 1))) v17.nx).bind fun v46 =>
 if 1 < v46 then
 (some (.inr (.out (.inr (false)))))
 else
 some (.inl (s11.1.set (Int.toNat v17.nx) (w64 (v43 + 1)))))
 else
 some (.inr (.out (.inr (false)))))
 else
 some (.inr (.out (.inr (false))))
 else none)
 else
 some (.inr (.out (.inr (false))))) fun (b15 : List Int) =>
 some (.go ((b15, w64 (s11.2 + 1)))))
 else
 some (.out (.inl (())))) (List.replicate 64 (0 : Int), 0)) fun (b8 : Unit) =>
 bndR (loopO (fun (s51 : Int) =>
 if s51 < (p0.fs.length : Int) then
 (bndR ((loopO (fun (s60 : Int × Int) =>
 if s60.2 ≤ (p0.fs.length : Int) then
 (if s60.1 = (-1) then
 (some (.out (s60.1)))
 else
 (at_ p0.fs s60.1).bind fun v66 =>
 some (.go ((v66.nx, w64 (s60.2 + 1)))))
 else
 some (.out (s60.1))) (s51, 0)).bind fun (b57 : Int) =>
 if b57 = (-1) then
 (some (.inl (())))
 else
 some (.inr (.out (.inr (false))))) fun (b55 : Unit) =>
 some (.go (w64 (s51 + 1))))
 else
 some (.out (.inl (())))) 0) fun (b48 : Unit) =>
 some (true))
 else
 some (false)
 else none)
 else
 some (false)

set_option maxRecDepth 20000 in
set_option maxHeartbeats 4000000 in
theorem F_ref03_Valid_ok {p0 : Sp} {r : Bool} (H : Sm (F_ref03_Valid p0) r) : DCall Try.prog 31 [.agg [DI p0.sh, .sl (p0.ws.map uC), .sl (p0.fs.map frC)]] [] (DB r) [] := by
  unfold F_ref03_Valid at H
  refine DCall.mk Try.func31 rfl rfl ?_
  refine d_rsA ?_
  refine d_rsA ?_
  refine d_seq fun K k1 => ?_
  replace H := bd H; obtain ⟨v2, hv2, H⟩ := H
  replace H := fs H; rcases H with ⟨h3, H⟩ | ⟨h3, H⟩
  ·
    replace H := fs H; rcases H with ⟨h4, H⟩ | ⟨h4, H⟩
    ·
      refine d_rs rfl ?_
      refine rg ?_
      refine go (m_cS [] (F_ref03_shift_ok hv2) rfl ScS.nil) ?_
      refine rg ?_
      refine .nil ⟨by kernel_rfl, ?_⟩
      refine d_condA ?_
      refine d_rsA ?_
      refine d_ret ?_
      change RetD _ _ _ _ _ _ _
      have e := se H; subst e
      exact finE [] (.tmp (.nil))
    replace H := fs H; rcases H with ⟨h5, H⟩ | ⟨h5, H⟩
    ·
      refine d_rs rfl ?_
      refine rg ?_
      refine go (m_cS [] (F_ref03_shift_ok hv2) rfl ScS.nil) ?_
      refine rg ?_
      refine .nil ⟨by kernel_rfl, ?_⟩
      refine d_condA ?_
      refine d_rsA ?_
      refine d_ret ?_
      change RetD _ _ _ _ _ _ _
      have e := se H; subst e
      exact finE [] (.tmp (.nil))
    replace H := cq H; obtain ⟨h6, H⟩ := H
    refine d_rs rfl ?_
    refine rg ?_
    refine go (m_cS [] (F_ref03_shift_ok hv2) rfl ScS.nil) ?_
    refine rg ?_
    refine .nil ⟨by kernel_rfl, ?_⟩
    replace H := fs H; rcases H with ⟨h7, H⟩ | ⟨h7, H⟩
    ·
      refine d_condB ?_
      refine d_skip ?_
      refine k1 _ ?_
      refine d_rsA ?_
      refine d_cutT (fun (b8 : Unit) => ⟨[(1, .ptr 0 0 0), (3, DI (p0.fs.length : Int))], [(0, ⟨3, false, false, [[DI p0.sh, .sl (p0.ws.map uC), .sl (p0.fs.map frC)]]⟩)], 1⟩) H (fun z9 hr9 H => ?_) (fun b8 H => ?_)
      ·
        refine d_rsA ?_
        refine d_block ?_
        refine d_loopS (fun (s11 : List Int × Int) => ⟨[(1, .ptr 0 0 0), (3, DI (p0.fs.length : Int)), (4, .ptr 1 0 0), (39, .sl (p0.fs.map frC)), (40, DI (p0.fs.length : Int)), (41, DI s11.2)], [(0, ⟨3, false, false, [[DI p0.sh, .sl (p0.ws.map uC), .sl (p0.fs.map frC)]]⟩), (1, ⟨64, false, false, [s11.1.map DI]⟩)], 2⟩) H (wkE [(0, 0), (1, 1)]) (fun s11 y12 hq12 H => ?_)
        refine d_rsA ?_
        refine d_seq fun K k13 => ?_
        replace H := fs H; rcases H with ⟨h14, H⟩ | ⟨h14, H⟩
        ·
          refine d_condA ?_
          refine d_skip ?_
          refine k13 _ ?_
          refine d_cutT (fun (b15 : List Int) => ⟨[(1, .ptr 0 0 0), (3, DI (p0.fs.length : Int)), (4, .ptr 1 0 0), (39, .sl (p0.fs.map frC)), (40, DI (p0.fs.length : Int)), (41, DI s11.2)], [(0, ⟨3, false, false, [[DI p0.sh, .sl (p0.ws.map uC), .sl (p0.fs.map frC)]]⟩), (1, ⟨64, false, false, [b15.map DI]⟩)], 2⟩) H (fun z16 hr16 H => ?_) (fun b15 H => ?_)
          ·
            refine d_block ?_
            replace H := ba H; obtain ⟨v17, hv17, H⟩ := H
            refine d_rsA ?_
            refine d_cutT (fun (b18 : Unit) => ⟨[(1, .ptr 0 0 0), (3, DI (p0.fs.length : Int)), (4, .ptr 1 0 0), (5, DI s11.2), (6, .ptr 2 0 0), (39, .sl (p0.fs.map frC)), (40, DI (p0.fs.length : Int)), (41, DI s11.2)], [(0, ⟨3, false, false, [[DI p0.sh, .sl (p0.ws.map uC), .sl (p0.fs.map frC)]]⟩), (1, ⟨64, false, false, [s11.1.map DI]⟩), (2, ⟨3, false, false, [[DI v17.ow, DI v17.st, DI v17.nx]]⟩)], 3⟩) H (fun z19 hr19 H => ?_) (fun b18 H => ?_)
            ·
              replace H := fs H; rcases H with ⟨h20, H⟩ | ⟨h20, H⟩
              ·
                replace H := fs H; rcases H with ⟨h21, H⟩ | ⟨h21, H⟩
                ·
                  refine d_rsA ?_
                  replace H := fs H; rcases H with ⟨h22, H⟩ | ⟨h22, H⟩
                  ·
                    refine d_condA ?_
                    refine d_cutT (fun (b23 : Unit) => ⟨[(1, .ptr 0 0 0), (3, DI (p0.fs.length : Int)), (4, .ptr 1 0 0), (39, .sl (p0.fs.map frC)), (40, DI (p0.fs.length : Int)), (41, DI s11.2)], [(0, ⟨3, false, false, [[DI p0.sh, .sl (p0.ws.map uC), .sl (p0.fs.map frC)]]⟩), (1, ⟨64, false, false, [s11.1.map DI]⟩)], 2⟩) H (fun z24 hr24 H => ?_) (fun b23 H => ?_)
                    ·
                      refine d_rsA ?_
                      refine d_block ?_
                      refine d_loopS (fun (s26 : Int) => ⟨[(1, .ptr 0 0 0), (3, DI (p0.fs.length : Int)), (4, .ptr 1 0 0), (5, DI s11.2), (7, DI s26), (39, .sl (p0.fs.map frC)), (40, DI (p0.fs.length : Int)), (41, DI s11.2)], [(0, ⟨3, false, false, [[DI p0.sh, .sl (p0.ws.map uC), .sl (p0.fs.map frC)]]⟩), (1, ⟨64, false, false, [s11.1.map DI]⟩)], 2⟩) H (wkE [(0, 0), (1, 1)]) (fun s26 y27 hq27 H => ?_)
                      refine d_seq fun K k28 => ?_
                      refine d_rsA ?_
                      replace H := fs H; rcases H with ⟨h29, H⟩ | ⟨h29, H⟩
                      ·
                        refine d_condA ?_
                        refine d_skip ?_
                        refine k28 _ ?_
                        refine d_seq fun K k30 => ?_
                        refine d_block ?_
                        replace H := ba H; obtain ⟨v31, hv31, H⟩ := H
                        refine d_rsA ?_
                        replace H := fs H; rcases H with ⟨h32, H⟩ | ⟨h32, H⟩
                        ·
                          refine d_condB ?_
                          refine d_skip ?_
                          refine k30 _ ?_
                          refine d_regA ?_
                          have e := se H; subst e
                          exact ⟨_, rfl, wkE [(0, 0), (1, 1)]⟩
                        refine d_condA ?_
                        refine d_rsA ?_
                        refine d_ret ?_
                        change RetD _ _ _ _ _ _ _
                        have e := se H; subst e
                        have e := hq27 _ rfl; subst e
                        have e := hr24 _ rfl; subst e
                        have e := hr19 _ rfl; subst e
                        have e := hr16 _ rfl; subst e
                        have e := hq12 _ rfl; subst e
                        have e := hr9 _ rfl; subst e
                        exact finE [] (.tmp (.nil))
                      refine d_condB ?_
                      refine d_exit ?_
                      have e := se H; subst e
                      have e := hq27 _ rfl; subst e
                      exact ⟨_, rfl, wkE [(0, 0), (1, 1)]⟩
                    refine d_exit ?_
                    have e := se H; subst e
                    have e := hr19 _ rfl; subst e
                    exact ⟨_, rfl, wkE [(0, 0), (1, 1)]⟩
                  refine d_condB ?_
                  refine d_skip ?_
                  have e := se H; subst e
                  exact ⟨_, rfl, wkE [(0, 0), (1, 1), (2, 2)]⟩
                refine d_rsA ?_
                refine d_condB ?_
                refine d_skip ?_
                have e := se H; subst e
                exact ⟨_, rfl, wkE [(0, 0), (1, 1), (2, 2)]⟩
              refine d_rsA ?_
              refine d_condB ?_
              refine d_skip ?_
              have e := se H; subst e
              exact ⟨_, rfl, wkE [(0, 0), (1, 1), (2, 2)]⟩
            refine d_seq fun K k33 => ?_
            replace H := bd H; obtain ⟨v34, hv34, H⟩ := H
            replace H := fs H; rcases H with ⟨h35, H⟩ | ⟨h35, H⟩
            ·
              replace H := fs H; rcases H with ⟨h36, H⟩ | ⟨h36, H⟩
              ·
                refine d_rs rfl ?_
                refine rg ?_
                refine go (m_cS [] (F_ref03_stamped_ok hv34) rfl ScS.nil) ?_
                refine rg ?_
                refine .nil ⟨by kernel_rfl, ?_⟩
                refine d_condA ?_
                refine d_rsA ?_
                refine d_ret ?_
                change RetD _ _ _ _ _ _ _
                have e := se H; subst e
                have e := hr16 _ rfl; subst e
                have e := hq12 _ rfl; subst e
                have e := hr9 _ rfl; subst e
                exact finE [] (.tmp (.nil))
              replace H := fs H; rcases H with ⟨h37, H⟩ | ⟨h37, H⟩
              ·
                refine d_rs rfl ?_
                refine rg ?_
                refine go (m_cS [] (F_ref03_stamped_ok hv34) rfl ScS.nil) ?_
                refine rg ?_
                refine .nil ⟨by kernel_rfl, ?_⟩
                refine d_condA ?_
                refine d_rsA ?_
                refine d_ret ?_
                change RetD _ _ _ _ _ _ _
                have e := se H; subst e
                have e := hr16 _ rfl; subst e
                have e := hq12 _ rfl; subst e
                have e := hr9 _ rfl; subst e
                exact finE [] (.tmp (.nil))
              refine d_rs rfl ?_
              refine rg ?_
              refine go (m_cS [] (F_ref03_stamped_ok hv34) rfl ScS.nil) ?_
              refine rg ?_
              refine .nil ⟨by kernel_rfl, ?_⟩
              replace H := fs H; rcases H with ⟨h38, H⟩ | ⟨h38, H⟩
              ·
                refine d_condA ?_
                refine d_rsA ?_
                refine d_ret ?_
                change RetD _ _ _ _ _ _ _
                have e := se H; subst e
                have e := hr16 _ rfl; subst e
                have e := hq12 _ rfl; subst e
                have e := hr9 _ rfl; subst e
                exact finE [] (.tmp (.nil))
              refine d_condB ?_
              refine d_skip ?_
              refine k33 _ ?_
              refine d_seq fun K k39 => ?_
              refine d_rsA ?_
              replace H := fs H; rcases H with ⟨h40, H⟩ | ⟨h40, H⟩
              ·
                refine d_condA ?_
                refine d_exit ?_
                have e := se H; subst e
                exact ⟨_, rfl, wkE [(0, 0), (1, 1)]⟩
              refine d_condB ?_
              refine d_skip ?_
              refine k39 _ ?_
              replace H := ba H; obtain ⟨v41, hv41, H⟩ := H
              refine d_rsA ?_
              replace H := cq H; obtain ⟨h42, H⟩ := H
              replace H := ba H; obtain ⟨v43, hv43, H⟩ := H
              refine d_rs rfl ?_
              refine rg ?_
              refine go (m_iaX hv43 h42 i90.ok i3.ok) ?_
              refine go (m_ldX (c1 := DI) hv43 i3.ok rfl) ?_
              refine rg ?_
              refine go (m_iaX hv43 h42 i90.ok i3.ok) ?_
              refine go (m_stX (c1 := DI) (xs := s11.1) hv43 (w64 (v43 + 1)) i3.ok rfl) ?_
              refine .nil ⟨by kernel_rfl, ?_⟩
              replace H := fs H; rcases H with ⟨h44, H⟩ | ⟨h44, H⟩
              ·
                replace H := fs H; rcases H with ⟨h45, H⟩ | ⟨h45, H⟩
                ·
                  replace H := ba H; obtain ⟨v46, hv46, H⟩ := H
                  refine d_rs rfl ?_
                  refine rg ?_
                  refine go (m_iaX hv46 h42 i90.ok i3.ok) ?_ (gY (congrArg not (decide_eq_true h45)))
                  refine go (m_ldX (c1 := DI) hv46 i3.ok rfl) ?_ (gY (congrArg not (decide_eq_true h45)))
                  refine rg ?_
                  refine .nil ⟨by kernel_rfl, ?_⟩
                  replace H := fs H; rcases H with ⟨h47, H⟩ | ⟨h47, H⟩
                  ·
                    refine d_condA ?_
                    refine d_rsA ?_
                    refine d_ret ?_
                    change RetD _ _ _ _ _ _ _
                    have e := se H; subst e
                    have e := hr16 _ rfl; subst e
                    have e := hq12 _ rfl; subst e
                    have e := hr9 _ rfl; subst e
                    exact finE [] (.tmp (.nil))
                  refine d_condB ?_
                  refine d_skip ?_
                  have e := se H; subst e
                  exact ⟨_, rfl, wkE [(0, 0), (1, 1)]⟩
                refine d_rsA ?_
                refine d_condA ?_
                refine d_rsA ?_
                refine d_ret ?_
                change RetD _ _ _ _ _ _ _
                have e := se H; subst e
                have e := hr16 _ rfl; subst e
                have e := hq12 _ rfl; subst e
                have e := hr9 _ rfl; subst e
                exact finE [] (.tmp (.nil))
              refine d_rsA ?_
              refine d_condA ?_
              refine d_rsA ?_
              refine d_ret ?_
              change RetD _ _ _ _ _ _ _
              have e := se H; subst e
              have e := hr16 _ rfl; subst e
              have e := hq12 _ rfl; subst e
              have e := hr9 _ rfl; subst e
              exact finE [] (.tmp (.nil))
            refine d_rs rfl ?_
            refine rg ?_
            refine go (m_cS [] (F_ref03_stamped_ok hv34) rfl ScS.nil) ?_
            refine rg ?_
            refine .nil ⟨by kernel_rfl, ?_⟩
            refine d_condA ?_
            refine d_rsA ?_
            refine d_ret ?_
            change RetD _ _ _ _ _ _ _
            have e := se H; subst e
            have e := hr16 _ rfl; subst e
            have e := hq12 _ rfl; subst e
            have e := hr9 _ rfl; subst e
            exact finE [] (.tmp (.nil))
          refine d_regA ?_
          have e := se H; subst e
          exact ⟨_, rfl, wkE [(0, 0), (1, 1)]⟩
        refine d_condB ?_
        refine d_exit ?_
        have e := se H; subst e
        have e := hq12 _ rfl; subst e
        exact ⟨_, rfl, wkE [(0, 0)]⟩
      refine d_cutT (fun (b48 : Unit) => ⟨[], [], 0⟩) H (fun z49 hr49 H => ?_) (fun b48 H => ?_)
      ·
        refine d_rsA ?_
        refine d_block ?_
        refine d_loopS (fun (s51 : Int) => ⟨[(1, .ptr 0 0 0), (3, DI (p0.fs.length : Int)), (137, DI (p0.fs.length : Int)), (138, DI s51)], [(0, ⟨3, false, false, [[DI p0.sh, .sl (p0.ws.map uC), .sl (p0.fs.map frC)]]⟩)], 1⟩) H (wkE [(0, 0)]) (fun s51 y52 hq52 H => ?_)
        refine d_rsA ?_
        refine d_seq fun K k53 => ?_
        replace H := fs H; rcases H with ⟨h54, H⟩ | ⟨h54, H⟩
        ·
          refine d_condA ?_
          refine d_skip ?_
          refine k53 _ ?_
          refine d_cutT (fun (b55 : Unit) => ⟨[(1, .ptr 0 0 0), (3, DI (p0.fs.length : Int)), (137, DI (p0.fs.length : Int)), (138, DI s51)], [(0, ⟨3, false, false, [[DI p0.sh, .sl (p0.ws.map uC), .sl (p0.fs.map frC)]]⟩)], 1⟩) H (fun z56 hr56 H => ?_) (fun b55 H => ?_)
          ·
            refine d_block ?_
            refine d_rsA ?_
            refine d_rsA ?_
            refine d_cutS (fun (b57 : Int) => ⟨[(1, .ptr 0 0 0), (3, DI (p0.fs.length : Int)), (10, DI b57), (137, DI (p0.fs.length : Int)), (138, DI s51)], [(0, ⟨3, false, false, [[DI p0.sh, .sl (p0.ws.map uC), .sl (p0.fs.map frC)]]⟩)], 1⟩) H (fun z58 H => ?_) (fun b57 H => ?_)
            ·
              refine d_rsA ?_
              refine d_block ?_
              refine d_loopS (fun (s60 : Int × Int) => ⟨[(1, .ptr 0 0 0), (3, DI (p0.fs.length : Int)), (10, DI s60.1), (11, DI s60.2), (137, DI (p0.fs.length : Int)), (138, DI s51)], [(0, ⟨3, false, false, [[DI p0.sh, .sl (p0.ws.map uC), .sl (p0.fs.map frC)]]⟩)], 1⟩) H (wkE [(0, 0)]) (fun s60 y61 hq61 H => ?_)
              refine d_seq fun K k62 => ?_
              replace H := fs H; rcases H with ⟨h63, H⟩ | ⟨h63, H⟩
              ·
                refine d_rsA ?_
                replace H := fs H; rcases H with ⟨h64, H⟩ | ⟨h64, H⟩
                ·
                  refine d_condB ?_
                  refine d_exit ?_
                  have e := se H; subst e
                  have e := hq61 _ rfl; subst e
                  exact wkE [(0, 0)]
                refine d_condA ?_
                refine d_skip ?_
                refine k62 _ ?_
                refine d_seq fun K k65 => ?_
                refine d_block ?_
                replace H := ba H; obtain ⟨v66, hv66, H⟩ := H
                refine d_regA ?_
                refine k65 _ ?_
                refine d_regA ?_
                have e := se H; subst e
                exact ⟨_, rfl, wkE [(0, 0)]⟩
              refine d_rsA ?_
              refine d_condB ?_
              refine d_exit ?_
              have e := se H; subst e
              have e := hq61 _ rfl; subst e
              exact wkE [(0, 0)]
            refine d_rsA ?_
            replace H := fs H; rcases H with ⟨h67, H⟩ | ⟨h67, H⟩
            ·
              refine d_condB ?_
              refine d_skip ?_
              have e := se H; subst e
              exact ⟨_, rfl, wkE [(0, 0)]⟩
            refine d_condA ?_
            refine d_rsA ?_
            refine d_ret ?_
            change RetD _ _ _ _ _ _ _
            have e := se H; subst e
            have e := hr56 _ rfl; subst e
            have e := hq52 _ rfl; subst e
            have e := hr49 _ rfl; subst e
            exact finE [] (.tmp (.nil))
          refine d_regA ?_
          have e := se H; subst e
          exact ⟨_, rfl, wkE [(0, 0)]⟩
        refine d_condB ?_
        refine d_exit ?_
        have e := se H; subst e
        have e := hq52 _ rfl; subst e
        exact ⟨_, rfl, wkE []⟩
      refine d_rsA ?_
      refine d_ret ?_
      change RetD _ _ _ _ _ _ _
      have e := se H; subst e
      exact finE [] (.tmp (.nil))
    refine d_condA ?_
    refine d_rsA ?_
    refine d_ret ?_
    change RetD _ _ _ _ _ _ _
    have e := se H; subst e
    exact finE [] (.tmp (.nil))
  refine d_rs rfl ?_
  refine rg ?_
  refine go (m_cS [] (F_ref03_shift_ok hv2) rfl ScS.nil) ?_
  refine rg ?_
  refine .nil ⟨by kernel_rfl, ?_⟩
  refine d_condA ?_
  refine d_rsA ?_
  refine d_ret ?_
  change RetD _ _ _ _ _ _ _
  have e := se H; subst e
  exact finE [] (.tmp (.nil))

noncomputable def F_ref05_Chain (p0 : Sp) (p1 : Int) : Option (List Int) :=
 (loopO (fun (s5 : List Int × Int) =>
 if s5.2 = (-1) then
 (some (.out (s5.1)))
 else
 if ((s5.1.length : Int) + [s5.2].length) * 8 ≤ 140737488355328 ∧ (s5.1.length : Int) + [s5.2].length ≤ 9223372036854775807 then
 (at_ p0.fs s5.2).bind fun v11 =>
 some (.go ((s5.1 ++ [s5.2], v11.nx)))
 else none) (([] : List Int), p1)).bind fun (b1 : List Int) =>
 some (b1)

set_option maxRecDepth 20000 in
set_option maxHeartbeats 4000000 in
theorem F_ref05_Chain_ok {p0 : Sp} {p1 : Int} {r : List Int} (H : Sm (F_ref05_Chain p0 p1) r) : DCall Try.prog 73 [.agg [DI p0.sh, .sl (p0.ws.map uC), .sl (p0.fs.map frC)], DI p1] [] (.own 0 0 r.length) [(0, ⟨1, true, false, r.map iC⟩)] := by
  unfold F_ref05_Chain at H
  refine DCall.mk Try.func73 rfl rfl ?_
  refine d_rsA ?_
  refine d_rsA ?_
  refine d_cutS (fun (b1 : List Int) => ⟨[(5, .own 0 0 b1.length)], [(0, ⟨1, true, false, b1.map iC⟩)], 1⟩) H (fun z2 H => ?_) (fun b1 H => ?_)
  ·
    refine d_rsA ?_
    refine d_block ?_
    refine d_nil 5 1 (by decide) rfl ?_
    refine d_loopS (fun (s5 : List Int × Int) => ⟨[(2, .ptr 0 0 0), (5, .own 1 0 s5.1.length), (6, DI s5.2)], [(0, ⟨3, false, false, [[DI p0.sh, .sl (p0.ws.map uC), .sl (p0.fs.map frC)]]⟩), (1, ⟨1, true, false, s5.1.map iC⟩)], 2⟩) H (wkE [(0, 0), (1, 1)]) (fun s5 y6 hq6 H => ?_)
    refine d_seq fun K k7 => ?_
    refine d_rsA ?_
    replace H := fs H; rcases H with ⟨h8, H⟩ | ⟨h8, H⟩
    ·
      refine d_condB ?_
      refine d_exit ?_
      have e := se H; subst e
      have e := hq6 _ rfl; subst e
      exact wkE [(0, 1)]
    refine d_condA ?_
    refine d_skip ?_
    refine k7 _ ?_
    refine d_seq fun K k9 => ?_
    refine d_block ?_
    replace H := cq H; obtain ⟨h10, H⟩ := H
    refine d_region rfl ?_
    refine rg ?_
    refine go (m_litE (c := iC) ([s5.2] : List Int) i27.ok i3.ok) ?_
    refine go (m_apO (c := iC) s5.1 [s5.2] h10 i27.ok i3.ok rfl rfl (.own rfl rfl (by simp) (all_len (c := iC) (fun _ => rfl) _)) rfl) ?_
    refine rg ?_
    refine .nil ⟨by kernel_rfl, ?_⟩
    refine k9 _ ?_
    replace H := ba H; obtain ⟨v11, hv11, H⟩ := H
    refine d_regA ?_
    have e := se H; subst e
    exact ⟨_, rfl, wkE [(0, 0), (1, 3)]⟩
  refine d_rsA ?_
  refine d_ret ?_
  change RetD _ _ _ _ _ _ _
  have e := se H; subst e
  exact finE [(0, 0)] (.tmp (.nil))

noncomputable def F_ref01_Ceil (p0 : Int) (p1 : Int) : Option Int :=
 if p0 < 0 then
 (some (0))
 else
 if 1099511627776 < p0 then
 (some (0))
 else
 if p1 < 0 then
 (some (0))
 else
 if 20 < p1 then
 (some (0))
 else
 if 0 ≤ wu p1 then
 some (shrN .i64 (w64 ((w64 (p0 + (shlN .i64 1 (wu p1)))) - 1)) (wu p1))
 else none

end Go.Proofs.Ythpnlnjdmlbnaaa
