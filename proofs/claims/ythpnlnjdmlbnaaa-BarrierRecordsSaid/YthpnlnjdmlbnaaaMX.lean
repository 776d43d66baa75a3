/- The law BarrierRecords as a plain function; what came in. No condition. -/
import Derived.Test.YthpnlnjdmlbnaaaMW13
import Derived.ChangeSlices
import Derived.Deep.Slices
import Derived.Below
import Derived.Test.YthpnlnjdmlbnaaaRows
import Derived.Test.YthpnlnjdmlbnaaaChecked
import Derived.KernelRfl
import Derived.SizedLaws
/- BarrierWithin, as a plain function, is true. No program. -/
namespace Go.Proofs.Ythpnlnjdmlbnaaa
open Go.RowKit
set_option linter.unusedVariables false
set_option linter.unusedSimpArgs false

/-- a word of an increment, by its place: its address, its frame -/
theorem itm_go {s : Sp} {L : List Itm} (h : SpInv s L) {x : Itm} (hx : x ∈ L) (hw : 0 < x.i.words) {k : Int} (h0 : 0 ≤ k) (h1 : k < x.i.words) :
    ∃ p : Nat, F_ref05_Go s (shlN .i64 x.i.first (wu s.sh)) k = some ((p : Int), 0) ∧ p < s.ws.length ∧ frOf s p ∈ x.fr := by
  obtain ⟨g1, g2, g3, g4, g5⟩ := h.ok.shp.z
  have hi := h.each x hx
  have hroom := hi.room h.ok.shp
  have hsm := h.ok.shp.small
  have hwd := hi.inc.wd
  obtain ⟨f, l, hf⟩ : ∃ f l, x.fr = f :: l := by
    cases hfr : x.fr with
    | nil => rw [hfr] at hroom; simp at hroom; omega
    | cons f l => exact ⟨f, l, rfl⟩
  have hfl := hi.inc.ch.lt f (by rw [hf]; exact List.mem_cons_self ..)
  have hfirst : x.i.first = (f : Int) := by have := hi.inc.first; rw [hf] at this; exact this
  have h64 := h.ok.shp.hi
  have hk : k.toNat < x.fr.length * szS s := by omega
  refine ⟨adr (szS s) x.fr k.toNat, ?_, adr_lt h.ok.shp hi.inc.ch.lt hk, ?_⟩
  · rw [shl_k h.ok.shp.sh f hfirst (by omega)]
    have ha : ((f * szS s : Nat) : Int) = ((adr (szS s) x.fr 0 : Nat) : Int) := by
      unfold adr
      rw [hf]
      simp
    have hfz : f * szS s ≤ 64 * 256 := Nat.mul_le_mul (by omega) g4
    rw [go_c h.ok.shp (nxin_of h.ok.fm) (by unfold I64; omega) (by unfold I64; omega), ha, show k = ((k.toNat : Nat) : Int) by omega, go_k h.ok.shp hi.inc.ch hi.inc.own (by omega), Nat.zero_add]
    rfl
  · unfold frOf
    rw [Int.toNat_natCast, (adr_div (by omega) x.fr k.toNat).1, List.getElem?_eq_getElem (Nat.div_lt_of_lt_mul (by rw [Nat.mul_comm]; exact hk)), Option.getD_some]
    exact List.getElem_mem _
theorem itm_st {s : Sp} {L : List Itm} (h : SpInv s L) {x : Itm} (hx : x ∈ L) {p : Nat} (hp : frOf s p ∈ x.fr) : ∃ hl : frOf s p < s.fs.length, ¬ s.fs[frOf s p].ow = -1 ∧ s.fs[frOf s p].st = x.i.belt * 4294967296 + x.i.seq := by
  have hi := h.each x hx
  have hl := hi.inc.ch.lt _ hp
  exact ⟨hl, hi.inc.own _ hp hl, hi.inc.st _ hl hp⟩
/-- between words of increments: by their stamps -/
theorem need_itm {s : Sp} {L : List Itm} (h : SpInv s L) {x y : Itm} (hx : x ∈ L) (hy : y ∈ L) {p q : Nat} (hp : p < s.ws.length) (hq : q < s.ws.length) (hpx : frOf s p ∈ x.fr) (hqy : frOf s q ∈ y.fr) :
    NeedP s p ((q : Int) + 1) ↔ y.i.belt * 4294967296 + y.i.seq < x.i.belt * 4294967296 + x.i.seq := by
  obtain ⟨l1, o1, s1⟩ := itm_st h hx hpx
  obtain ⟨l2, o2, s2⟩ := itm_st h hy hqy
  have e : (q : Int) + 1 - 1 = q := by omega
  unfold NeedP
  rw [← s1, ← s2]
  constructor
  · rintro ⟨_, _, _, _, _, k⟩
    simp only [e] at k
    exact k
  · intro k
    exact ⟨⟨by omega, by omega, by omega, by omega⟩, l1, by rw [e]; exact l2, o1, by simp only [e]; exact o2, by simp only [e]; exact k⟩
theorem posK_one (f t s : Int) : posK [⟨f, t, [s]⟩] ⟨f, t, []⟩ = 0 := posK_of (Nat.zero_le _) (fun j _ h => absurd h (Nat.not_lt_zero _)) fun _ k => by
  unfold KeyLt at k
  simp at k
theorem put_twice (f t s : Int) : putK [⟨f, t, [s]⟩] f t s = [⟨f, t, [s]⟩] := by
  have hp := posK_one f t s
  have hi : posI [s] s = 0 := posI_of (Nat.zero_le _) (fun j _ h => absurd h (Nat.not_lt_zero _)) fun _ k => by simp at k
  have hw : withI [s] s = [s] := by
    unfold withI
    rw [if_pos]
    exact ⟨by rw [hi]; simp, by simp only [hi]; rfl⟩
  unfold putK
  rw [dif_pos ⟨by rw [hp]; simp, by simp only [hp]; exact ⟨rfl, rfl⟩⟩]
  simp only [hp]
  show [RSet.mk f t (withI [s] s)] = _
  rw [hw]
theorem set_one {f t s : Int} (hf : 0 ≤ f ∧ f < 64) (ht : 0 ≤ t ∧ t < 64) (hs : 0 ≤ s) : SetsOk [⟨f, t, [s]⟩] := by
  refine ⟨fun x hx => ?_, fun i h => by simp at h⟩
  obtain rfl := List.mem_singleton.1 hx
  exact ⟨hf, ht, by show 0 < 1; omega, fun _ => hs, fun i h => by simp at h⟩
open Classical in
theorem within_true {l : List Int} (h1 : ∀ x ∈ l, I64 x) (h2 : l.length ≤ 9223372036854775807) {a b i j : Int} (ha : I64 a) (hb : I64 b) (hi : I64 i) (hj : I64 j) : Sm (F_law19_BarrierWithin l a b i j) true := by
  refine ⟨Gd.eq ?_⟩
  unfold F_law19_BarrierWithin
  refine .call (a := ⟨l, 0⟩) rfl ?_
  obtain ⟨s, L, d, e1, hS, hL, hL4, hd⟩ := space_spec (d := ⟨l, 0⟩) ⟨h1, Int.le_refl _, h2⟩
  refine .call e1 ?_
  dsimp only
  rw [List.length_map]
  refine .ite (fun h => .call awake_c (.some rfl)) fun hne => ?_
  have hok := hS.ok
  have hsm := hok.shp.small
  have hn : 1 ≤ (L.length : Int) ∧ (L.length : Int) ≤ 9223372036854775807 := by omega
  have pick : ∀ {v : Int}, I64 v → ∃ x : Itm, x ∈ L ∧ F_make_Mod v (L.length : Int) = some (v % L.length) ∧ at_ (L.map Itm.i) (v % L.length) = some x.i := fun {v} hv => by
    have m0 := Int.emod_nonneg v (by omega : (L.length : Int) ≠ 0)
    have m1 := Int.emod_lt_of_pos v (by omega : (0 : Int) < L.length)
    have hlt : (v % L.length).toNat < L.length := by omega
    exact ⟨L[(v % L.length).toNat], List.getElem_mem _, mod_c hv hn, by rw [at_int m0 (by rw [List.length_map]; exact hlt), List.getElem_map]⟩
  obtain ⟨x, hx, mx, ax⟩ := pick ha
  obtain ⟨y, hy, my, ay⟩ := pick hb
  refine .call mx (.call ax (.call my (.call ay (.pos (wu_sh hok.shp.sh) ?_))))
  have wx := (hL x hx).1
  have wy := (hL y hy).1
  have dx := (hS.each x hx).inc.wd
  have dy := (hS.each y hy).inc.wd
  obtain ⟨p, gp, pl, pf⟩ := itm_go hS hx wx (Int.emod_nonneg i (by omega : x.i.words ≠ 0)) (Int.emod_lt_of_pos i wx)
  obtain ⟨q, gq, ql, qf⟩ := itm_go hS hy wy (Int.emod_nonneg j (by omega : y.i.words ≠ 0)) (Int.emod_lt_of_pos j wy)
  refine .call (mod_c hi (by omega)) (.call gp (.call (mod_c hj (by omega)) (.call gq ?_)))
  refine .pos rfl (.pos rfl ?_)
  dsimp only
  have ew : ∀ {n : Nat}, n < s.ws.length → wu (w64 ((n : Int) + 1)) = (n : Int) + 1 := fun h => by rw [w64_in (by omega), wu_in (by omega)]
  rw [ew ql, ew pl]
  have N1 := need_itm hS hx hy pl ql pf qf
  have N2 := need_itm hS hy hx ql pl qf pf
  have bx := (hS.each x hx).inc.bl
  have by' := (hS.each y hy).inc.bl
  have sx := (hS.each x hx).inc.sq
  have sy := (hS.each y hy).inc.sq
  refine .call (needs_c hok (by omega)) (.call (needs_c hok (by omega)) ?_)
  refine .ite (fun hs => ?_) fun hs => ?_
  · have hxy : x = y := by
      apply Classical.byContradiction
      intro hxy
      obtain ⟨m, hm, rfl⟩ := List.getElem_of_mem hx
      obtain ⟨n, hn, rfl⟩ := List.getElem_of_mem hy
      have hmn : m ≠ n := fun e => by subst e; exact hxy rfl
      rcases Nat.lt_or_gt_of_ne hmn with h | h
      · exact List.pairwise_iff_getElem.1 hS.seqs m n hm hn h hs
      · exact List.pairwise_iff_getElem.1 hS.seqs n m hn hm h hs.symm
    subst hxy
    refine .neg (by rw [bP_f fun k => by have := N1.1 k; omega]; decide) (.neg (by rw [bP_f fun k => by have := N2.1 k; omega]; decide) (.call awake_c (.some rfl)))
  · have fp := frOf_in hok (a := (p : Int)) (by omega) (by omega)
    have fq := frOf_in hok (a := ((q : Int) + 1 - 1)) (by omega) (by omega)
    have sone := set_one fp fq (s := (p : Int)) (by omega)
    refine .call (record_c hS.w (l := []) (by decide) (fun x hx => (by cases hx)) (by omega)) ?_
    have hm : RecR s [] p ((q : Int) + 1) = (if NeedP s p ((q : Int) + 1) then [⟨frOf s p, frOf s ((q : Int) + 1 - 1), [(p : Int)]⟩] else [], 0) := by
      unfold RecR
      rw [if_pos ⟨hok, sets_nil⟩, put_nil]
    rw [hm]
    have hm2 : ∀ m : List RSet, m = (if NeedP s p ((q : Int) + 1) then [⟨frOf s p, frOf s ((q : Int) + 1 - 1), [(p : Int)]⟩] else []) → m.length ≤ 1 ∧ (∀ x ∈ m, x.slots.length ≤ 1) ∧ RecR s m p ((q : Int) + 1) = (m, 0) ∧ ((m.length : Int) = 1 ↔ NeedP s p ((q : Int) + 1)) := fun m hm => by
      unfold RecR
      by_cases hN : NeedP s p ((q : Int) + 1)
      · rw [if_pos hN] at hm
        subst hm
        refine ⟨by simp, fun x hx => by obtain rfl := List.mem_singleton.1 hx; simp, ?_, by simp [hN]⟩
        rw [if_pos ⟨hok, sone⟩, if_pos hN, put_twice]
      · rw [if_neg hN] at hm
        subst hm
        refine ⟨by simp, fun x hx => (by cases hx), ?_, by simp [hN]⟩
        rw [if_pos ⟨hok, sets_nil⟩, if_neg hN]
    generalize hM : (if NeedP s p ((q : Int) + 1) then [⟨frOf s p, frOf s ((q : Int) + 1 - 1), [(p : Int)]⟩] else [] : List RSet) = m
    obtain ⟨k1, k2, k3, k4⟩ := hm2 m hM.symm
    dsimp only
    refine .call (record_c hS.w (by omega) (fun x hx => by have := k2 x hx; omega) (by omega)) ?_
    rw [k3]
    dsimp only
    have hne2 : (bP (NeedP s p ((q : Int) + 1)) != bP (NeedP s q ((p : Int) + 1))) = true := by
      by_cases hN : NeedP s p ((q : Int) + 1)
      · have := N1.1 hN
        rw [bP_t hN, bP_f fun k => by have := N2.1 k; omega]; rfl
      · have : NeedP s q ((p : Int) + 1) := N2.2 (by
          have : ¬ _ := fun k => hN (N1.2 k)
          omega)
        rw [bP_f hN, bP_t this]; rfl
    refine .pos hne2 ?_
    have hB : F_ref15_Before y.i x.i = some (bP (NeedP s p ((q : Int) + 1))) := by
      unfold F_ref15_Before F_ref15_Stamp
      simp only [Option.bind_some]
      rw [w64_in (n := y.i.belt * 4294967296) (by omega), w64_in (n := x.i.belt * 4294967296) (by omega), w64_in (n := y.i.belt * 4294967296 + y.i.seq) (by omega), w64_in (n := x.i.belt * 4294967296 + x.i.seq) (by omega)]
      exact some_b (by rw [decide_eq_true_iff]; exact N1.symm)
    refine .call hB (.pos (by simp) (.pos rfl (.pos rfl (.call (same_c m (by omega) fun x hx => by have := k2 x hx; omega) (.pos rfl (.some ?_))))))
    by_cases hN : NeedP s p ((q : Int) + 1)
    · rw [bP_t hN, decide_eq_true (k4.2 hN)]; rfl
    · rw [bP_f hN, decide_eq_false fun k => hN (k4.1 k)]; rfl
end Go.Proofs.Ythpnlnjdmlbnaaa
/- What came in, read as data; a contract as a call of the statement's kind. No condition. -/
namespace Go.Proofs.Ythpnlnjdmlbnaaa
open Go.RowKit Go.ChangeShapes Go.WideShapes Go.Deep
set_option linter.unusedVariables false
set_option linter.unusedSimpArgs false

abbrev mem0 (w : World) : Mem := ⟨w, fun _ => False, fun _ => none⟩
theorem mem0_no (w : World) (k : Nat) : ¬ (mem0 w).no k := fun h => by
  rcases h with h | ⟨s, e, h, _⟩
  · exact h
  · cases h
theorem Reps.nil' {m : Mem} : Reps m [] [] := ⟨rfl, fun i v d h => by simp at h⟩
theorem Reps.cons' {m : Mem} {v : Value} {d : DV} {vs : List Value} {ds : List DV} (h : Rep m v d) (hs : Reps m vs ds) : Reps m (v :: vs) (d :: ds) := ⟨by rw [List.length_cons, List.length_cons, hs.1], fun i u e hu he => by
  cases i with
  | zero =>
    simp only [List.getElem?_cons_zero, Option.some.injEq] at hu he
    subst hu
    subst he
    exact h
  | succ i => exact hs.2 i u e (by simpa using hu) (by simpa using he)⟩
/-- a contract, as a call -/
theorem DCall.walk {P : Program} {f : FuncId} {ds : List DV} (h : DCall P f ds [] (DB true) []) {w : World} {vs : List Value} (hr : Reps (mem0 w) vs ds) : Calls P f vs.toArray w fun e w' => e = .returned (.bool true) ∧ Below w.heap.size w w' := by
  have hx : ∀ k, ¬ Xof (fun _ => none) k := fun k ⟨s, e, h, _⟩ => by cases h
  have hI : Inv ⟨w, Xof (fun _ => none), Yof (fun _ => none)⟩ (mem0 w) := ⟨rfl, rfl, rfl, Nat.le_refl _, fun _ _ _ => rfl, fun s s' e e' g h => (by cases h), fun s e g h => (by cases h), fun k h => False.elim h, fun s e g c h => (by cases h)⟩
  refine Calls.mono (h.2 w (fun _ => False) (fun _ => none) vs hI (fun s ob h => by cases h) (fun _ _ => rfl) hr) fun e w' ⟨v, σ', he, q1, q2, q3, q4, q5⟩ => ?_
  subst he
  rw [q3.lit_inv]
  exact ⟨rfl, q1.os, q1.tape, q1.output, q1.size, fun k hk => q1.old k hk (hx k)⟩

/-- cells that read as plain data -/
def CRd (w : World) (cs : List Value) (ds : List DV) : Prop := cs.length = ds.length ∧ ∀ (i : Nat) v d, cs[i]? = some v → ds[i]? = some d → PRep w (mem0 w).no v d
theorem CRd.one {w : World} {v : Value} {d : DV} (h : PRep w (mem0 w).no v d) : CRd w [v] [d] := ⟨rfl, fun i u e hu he => by
  cases i with
  | zero =>
    simp only [List.getElem?_cons_zero, Option.some.injEq] at hu he
    subst hu
    subst he
    exact h
  | succ i => simp at hu⟩
theorem CRd.get {w : World} {v : Value} {d : DV} (h : CRd w [v] [d]) : PRep w (mem0 w).no v d := h.2 0 v d rfl rfl
theorem CRd.append {w : World} {cs cs' : List Value} {ds ds' : List DV} (h : CRd w cs ds) (h' : CRd w cs' ds') : CRd w (cs ++ cs') (ds ++ ds') := by
  refine ⟨by rw [List.length_append, List.length_append, h.1, h'.1], fun i v d hv hd => ?_⟩
  by_cases hi : i < cs.length
  · rw [List.getElem?_append_left hi] at hv
    rw [List.getElem?_append_left (by rw [← h.1]; exact hi)] at hd
    exact h.2 i v d hv hd
  · rw [List.getElem?_append_right (by omega)] at hv
    rw [List.getElem?_append_right (by rw [← h.1]; omega), ← h.1] at hd
    exact h'.2 _ v d hv hd

section
variable {P : Program}
/-- cells of a type read as data of a kind -/
def OpD {α : Type} (P : Program) (t : TypeId) (c : α → List DV) (ok : α → Prop) : Prop :=
  ∀ (H : Type) (enc : TypeId × Value → H) (w : World) (base : Nat) (spare : Nat → Bool) (held : Bool) (fuel : Nat) (cs : List Value) (x : DataW H × List MemPlace),
    DataW.trod enc P w base spare held fuel t cs = some x → ∃ a, CRd w cs (c a) ∧ ok a
theorem OpD.i64 {t : TypeId} (ht : P.underlying t = some (.int .i64)) : OpD P t iC I64 := by
  intro H enc w base spare held fuel cs x h
  obtain ⟨n, rfl, _, hn⟩ := DataW.trod_int ht h
  refine ⟨n, CRd.one (.lit _ rfl), ?_⟩
  simp [Lit.wf, IntKind.min, IntKind.max, IntKind.bits, IntKind.signed] at hn
  unfold I64
  omega
theorem OpD.u64 {t : TypeId} (ht : P.underlying t = some (.int .u64)) : OpD P t uC U64 := by
  intro H enc w base spare held fuel cs x h
  obtain ⟨n, rfl, _, hn⟩ := DataW.trod_int ht h
  refine ⟨n, CRd.one (.lit _ rfl), ?_⟩
  simp [Lit.wf, IntKind.min, IntKind.max, IntKind.bits, IntKind.signed] at hn
  unfold U64
  omega
theorem OpD.bool {t : TypeId} (ht : P.underlying t = some .bool) : OpD P t bC fun _ => True := by
  intro H enc w base spare held fuel cs x h
  obtain ⟨n, rfl, _⟩ := DataW.trod_bool ht h
  exact ⟨n, CRd.one (.lit _ rfl), trivial⟩
theorem choose_listD {α : Type} {n : Nat} {p : Nat → α → Prop} (h : ∀ i, i < n → ∃ a, p i a) : ∃ l : List α, l.length = n ∧ ∀ i (hi : i < l.length), p i l[i] := by
  induction n with
  | zero => exact ⟨[], rfl, fun i hi => absurd hi (Nat.not_lt_zero _)⟩
  | succ n ih =>
    obtain ⟨l, hl, hp⟩ := ih fun i hi => h i (by omega)
    obtain ⟨a, ha⟩ := h n (by omega)
    refine ⟨l ++ [a], by simp [hl], fun i hi => ?_⟩
    by_cases hlt : i < l.length
    · rw [List.getElem_append_left hlt]; exact hp i hlt
    · have : i = n := by simp at hi; omega
      subst this
      rw [List.getElem_append_right (by omega)]
      simpa using ha
theorem OpD.slice {α : Type} {c : α → List DV} {ok : α → Prop} {t e sz : Nat} (ht : P.underlying t = some (.slice e)) (hc : P.cellsOf e = sz) (hp : 0 < sz) (hz : ∀ a, (c a).length = sz) (h : OpD P e c ok) : OpD P t (lC c) fun xs => (∀ x ∈ xs, ok x) ∧ xs.length ≤ 9223372036854775807 := by
  intro H enc w base spare held fuel cs x hx
  rcases open_slice ht hx with ⟨rfl, _⟩ | ⟨a, len, cap, m, n, D, Pl, rfl, hb, hl, hm, hmm, _, hel⟩
  · exact ⟨[], CRd.one (.nil none 0 (Nat.zero_le _)), (fun x hx => by cases hx), by simp⟩
  · have hlm : len ≤ m := by rw [hmm]; split <;> omega
    obtain ⟨l, hll, hlp⟩ := choose_listD (n := len) (p := fun i y => ok y ∧ ∃ cs', CRd w cs' (c y) ∧ ∀ j, j < sz → w.cell? (a.add (i * sz + j)) = cs'[j]?) fun i hi => by
      obtain ⟨cs', h1, h2⟩ := hel i (by omega)
      obtain ⟨y, hy, hok⟩ := h H enc w base spare held n cs' _ h2
      rw [hc] at h1
      obtain ⟨_, hlen, hcell⟩ := World.cells?_some h1
      refine ⟨y, hok, cs', hy, fun j hj => ?_⟩
      have := hcell j (by omega)
      rw [add_add] at this
      rw [this]
    refine ⟨l, CRd.one ?_, fun x hx => ?_, by unfold maxLen at hm; omega⟩
    · by_cases h0 : len = 0
      · have : l = [] := List.length_eq_zero_iff.1 (by omega)
        subst this
        subst h0
        exact .nil _ _ hm
      · obtain ⟨b, off, spot⟩ := a
        obtain ⟨_, cs0, hr0, hcl0⟩ := hlp 0 (by omega)
        have hl0 : cs0.length = sz := by rw [hr0.1, hz]
        have h00 := hcl0 0 hp
        rw [List.getElem?_eq_getElem (by omega)] at h00
        have hspot : spot = none := by
          have := World.cell?_spot h00
          simpa [Addr.add] using this
        subst hspot
        have hadd : ∀ k, (⟨b, off, none⟩ : Addr).add k = ⟨b, off + k, none⟩ := fun k => add_lit
        rw [hadd] at h00
        have hbl := World.block_lt_of_cell? w (a := _) (u := _) h00
        have hf : ∀ i, ∃ g : Nat → Value, i < l.length → ∀ j d, ((l.map c)[i]?).bind (·[j]?) = some d → w.cell? ⟨b, off + i * sz + j, none⟩ = some (g j) ∧ PRep w (mem0 w).no (g j) d := fun i => by
          by_cases hi : i < l.length
          · obtain ⟨_, cs', hr, hcl⟩ := hlp i hi
            refine ⟨fun j => cs'.getD j undef, fun _ j d hd => ?_⟩
            rw [List.getElem?_map, List.getElem?_eq_getElem hi] at hd
            simp only [Option.map_some, Option.bind_some] at hd
            have hj : j < sz := by
              rw [← hz l[i]]
              rcases Nat.lt_or_ge j (c l[i]).length with h' | h'
              · exact h'
              · rw [List.getElem?_eq_none h'] at hd; cases hd
            have hl2 : cs'.length = sz := by rw [hr.1, hz]
            have hc2 := hcl j hj
            rw [List.getElem?_eq_getElem (by omega), hadd] at hc2
            have hgd : cs'.getD j undef = cs'[j]'(by omega) := by simp [List.getD, show j < cs'.length by omega]
            dsimp only
            rw [hgd, Nat.add_assoc]
            exact ⟨hc2, hr.2 j _ d (List.getElem?_eq_getElem (by omega)) hd⟩
          · exact ⟨fun _ => undef, fun h => absurd h hi⟩
        have key := Classical.axiomOfChoice hf
        obtain ⟨g, hg⟩ := key
        have hlt : ∀ (i : Nat) (x : List DV), (l.map c)[i]? = some x → i < l.length := fun i x hx => by
          rcases Nat.lt_or_ge i l.length with h' | h'
          · exact h'
          · rw [List.getElem?_eq_none (by simpa using h')] at hx; cases hx
        have := PRep.sl (w := w) (no := (mem0 w).no) b off cap sz (l.map c) g hp (by rw [List.length_map]; omega) (by rw [List.length_map]; omega) hm (mem0_no w b) hbl (fun i x hx => by
          have hi := hlt i x hx
          rw [List.getElem?_map, List.getElem?_eq_getElem hi] at hx
          simp only [Option.map_some, Option.some.injEq] at hx
          rw [← hx, hz]) (fun i x j d hx hd => (hg i (hlt i x hx) j d (by rw [hx]; exact hd)).1) (fun i x j d hx hd => (hg i (hlt i x hx) j d (by rw [hx]; exact hd)).2)
        rw [List.length_map, hll] at this
        exact this
    · obtain ⟨i, hi, rfl⟩ := List.getElem_of_mem hx
      exact (hlp i hi).1
/-- the fields of a struct -/
inductive FOpD (P : Program) : {α : Type} → List Field → Nat → (α → List DV) → Nat → (α → Prop) → Prop
  | nil {off : Nat} : FOpD P [] off (fun _ : Unit => []) 0 fun _ => True
  | cons {α β : Type} {f : Field} {fs : List Field} {off z z' : Nat} {c : α → List DV} {c' : β → List DV} {ok : α → Prop} {okF : β → Prop} (ho : f.offset = off) (hc : P.cellsOf f.type = z) (h : OpD P f.type c ok) (hs : FOpD P fs (off + z) c' z' okF) :
      FOpD P (f :: fs) off (fun p : α × β => c p.1 ++ c' p.2) (z + z') fun p => ok p.1 ∧ okF p.2
theorem fields_openD {α : Type} {fs : List Field} {off z : Nat} {c : α → List DV} {ok : α → Prop} (hf : FOpD P fs off c z ok) :
    ∀ (H : Type) (enc : TypeId × Value → H) (w : World) (base : Nat) (spare : Nat → Bool) (held : Bool) (n : Nat) (cs : List Value), cs.length = off + z →
      (∀ (i : Nat) (f : Field), fs[i]? = some f → ∃ y, DataW.trod enc P w base spare held n f.type ((cs.drop f.offset).take (P.cellsOf f.type)) = some y) → ∃ a, CRd w (cs.drop off) (c a) ∧ ok a := by
  induction hf with
  | nil =>
    intro H enc w base spare held n cs hl _
    rw [List.drop_eq_nil_of_le (by omega)]
    exact ⟨(), ⟨rfl, fun i v d h => by simp at h⟩, trivial⟩
  | @cons α β f fs off z z' c c' ok okF ho hc h hs ih =>
    intro H enc w base spare held n cs hl hfs
    obtain ⟨y, hy⟩ := hfs 0 f rfl
    obtain ⟨a, ha, hoka⟩ := h H enc w base spare held n _ _ hy
    obtain ⟨b, hb, hokb⟩ := ih H enc w base spare held n cs (by omega) fun i g hg => hfs (i + 1) g (by simpa using hg)
    rw [ho, hc] at ha
    refine ⟨(a, b), ?_, hoka, hokb⟩
    have := ha.append hb
    rw [← List.drop_drop, List.take_append_drop] at this
    exact this
theorem OpD.struct {α : Type} {c : α → List DV} {ok : α → Prop} {t z : Nat} {fs : Array Field} (ht : P.underlying t = some (.struct fs)) (hc : P.cellsOf t = z) (hf : FOpD P fs.toList 0 c z ok) : OpD P t c ok := by
  intro H enc w base spare held fuel cs x h
  obtain ⟨xs, n, _, _, hcl, hxl, hfs⟩ := DataW.trod_struct ht h
  obtain ⟨a, ha, hok⟩ := fields_openD hf H enc w base spare held n cs (by rw [hcl, hc]; omega) fun i f hi => by
    have hi' : fs[i]? = some f := by simpa using hi
    have := hfs i f hi'
    have hlt : i < xs.length := by
      rw [hxl]
      exact (Array.getElem?_eq_some_iff.1 hi').1
    exact ⟨xs[i], by rw [this, List.getElem?_eq_getElem hlt]⟩
  exact ⟨a, by simpa using ha, hok⟩
theorem OpD.map {α β : Type} {c : α → List DV} {c' : β → List DV} {ok : α → Prop} {ok' : β → Prop} {t : TypeId} (h : OpD P t c ok) (g : α → β) (hg : ∀ a, c' (g a) = c a) (hok : ∀ a, ok a → ok' (g a)) : OpD P t c' ok' := by
  intro H enc w base spare held fuel cs x hx
  obtain ⟨a, ha, hk⟩ := h H enc w base spare held fuel cs x hx
  exact ⟨g a, by rw [hg]; exact ha, hok a hk⟩
/-- an argument that is one cell -/
theorem OpD.arg {α : Type} {t : TypeId} {c : α → List DV} {ok : α → Prop} (h : OpD P t c ok) {H : Type} {enc : TypeId × Value → H} {w : World} {base : Nat} {spare : Nat → Bool} {held : Bool} {v : Value} {d : DataW H} {ps : List MemPlace}
    (hd : DataW.Trod enc P w base spare held t v d ps) : ∃ a, CRd w v.cells.toList (c a) ∧ ok a := by
  obtain ⟨fuel, hf⟩ := hd
  exact h H enc w base spare held fuel _ _ hf
end
theorem CRd.agg {w : World} {cs : Array Value} {ds : List DV} (h : CRd w (Value.agg cs).cells.toList ds) : Rep (mem0 w) (.agg cs) (.agg ds) := by
  have := Rep.agg (m := mem0 w) (vs := cs.toList) (xs := ds) h.1 fun i v d hv hd => .pure (h.2 i v d hv hd)
  simpa using this
theorem CRd.slc {w : World} {a : Option Addr} {l c : Nat} {d : DV} (h : CRd w (Value.slice a l c).cells.toList [d]) : Rep (mem0 w) (.slice a l c) d := .pure (CRd.get (by simpa [Value.cells] using h))
end Go.Proofs.Ythpnlnjdmlbnaaa
/- The kinds of arguments of the laws, as data. No condition. -/
namespace Go.Proofs.Ythpnlnjdmlbnaaa
open Go.RowKit Go.ChangeShapes Go.WideShapes Go.Deep
set_option linter.unusedVariables false

theorem i64_of {a : Int} (h : (Lit.int .i64 a).wf = true) : I64 a := by
  simp [Lit.wf, IntKind.min, IntKind.max, IntKind.bits, IntKind.signed] at h
  unfold I64
  omega
theorem u64_of {a : Int} (h : (Lit.int .u64 a).wf = true) : U64 a := by
  simp [Lit.wf, IntKind.min, IntKind.max, IntKind.bits, IntKind.signed] at h
  unfold U64
  omega
theorem op_int : OpD Try.prog 3 iC I64 := OpD.i64 Try.underlying3
theorem op_ints : OpD Try.prog 27 (lC iC) fun xs => (∀ x ∈ xs, I64 x) ∧ xs.length ≤ 9223372036854775807 := OpD.slice (sz := 1) Try.underlying27 (by kernel_rfl) (by decide) (fun _ => rfl) op_int
theorem op_words : OpD Try.prog 22 (lC uC) fun xs => (∀ x ∈ xs, U64 x) ∧ xs.length ≤ 9223372036854775807 := OpD.slice (sz := 1) Try.underlying22 (by kernel_rfl) (by decide) (fun _ => rfl) (OpD.u64 Try.underlying28)
theorem op_frame : OpD Try.prog 61 frC fun f => I64 f.ow ∧ I64 f.st ∧ I64 f.nx :=
  (OpD.struct Try.underlying61 (by kernel_rfl) (.cons (z := 1) rfl (by kernel_rfl) op_int (.cons (z := 1) rfl (by kernel_rfl) op_int (.cons (z := 1) rfl (by kernel_rfl) op_int .nil)))).map (fun p => ⟨p.1, p.2.1, p.2.2.1⟩) (fun _ => rfl) fun _ h => ⟨h.1, h.2.1, h.2.2.1⟩
theorem op_frames : OpD Try.prog 23 (lC frC) fun xs => (∀ f ∈ xs, I64 f.ow ∧ I64 f.st ∧ I64 f.nx) ∧ xs.length ≤ 9223372036854775807 := OpD.slice (sz := 3) Try.underlying23 (by kernel_rfl) (by decide) (fun _ => rfl) op_frame
theorem op_space : OpD Try.prog 25 spC SpW :=
  (OpD.struct Try.underlying25 (by kernel_rfl) (.cons (z := 1) rfl (by kernel_rfl) op_int (.cons (z := 1) rfl (by kernel_rfl) op_words (.cons (z := 1) rfl (by kernel_rfl) op_frames .nil)))).map (fun p => ⟨p.1, p.2.1, p.2.2.1⟩) (fun _ => rfl) fun _ h => ⟨h.2.1.1, h.2.2.1.1⟩
end Go.Proofs.Ythpnlnjdmlbnaaa
/- What came in, as data, with memory's bounds on how long it is: sets. No condition. -/
namespace Go.Proofs.Ythpnlnjdmlbnaaa
open Go.RowKit Go.ChangeShapes Go.WideShapes Go.Deep
set_option linter.unusedVariables false

section
variable {P : Program}
/-- as OpD, of what no memory is too small for -/
def OpDW {α : Type} (P : Program) (t : TypeId) (c : α → List DV) (ok : α → Prop) : Prop :=
  ∀ (H : Type) (enc : TypeId × Value → H) (w : World) (base : Nat) (spare : Nat → Bool) (held : Bool) (fuel : Nat) (cs : List Value) (x : DataW H × List MemPlace),
    DataW.trod enc P w base spare held fuel t cs = some x → (∀ n ∈ x.1.weights P t, n ≤ reachBytes) → ∃ a, CRd w cs (c a) ∧ ok a
theorem OpD.toW {α : Type} {c : α → List DV} {ok : α → Prop} {t : TypeId} (h : OpD P t c ok) : OpDW P t c ok := fun H enc w base spare held fuel cs x hx _ => h H enc w base spare held fuel cs x hx
theorem weightsAll_in {H : Type} {e : TypeId} : ∀ {l : List (DataW H)} {d : DataW H}, d ∈ l → ∀ n ∈ d.weights P e, n ∈ DataW.weightsAll P e l
  | d' :: r, d, hd, n, hn => by
    simp only [DataW.weightsAll, List.mem_append]
    rcases List.mem_cons.1 hd with rfl | h
    · exact Or.inl hn
    · exact Or.inr (weightsAll_in h n hn)
theorem OpDW.slice {α : Type} {c : α → List DV} {ok : α → Prop} {t e sz : Nat} (ht : P.underlying t = some (.slice e)) (hc : P.cellsOf e = sz) (hp : 0 < sz) (hz : ∀ a, (c a).length = sz) (h : OpDW P e c ok) : OpDW P t (lC c) fun xs => (∀ x ∈ xs, ok x) ∧ xs.length * P.bytesOf e ≤ reachBytes := by
  intro H enc w base spare held fuel cs x hx hw
  rcases open_slice ht hx with ⟨rfl, _⟩ | ⟨a, len, cap, m, n, D, Pl, rfl, hb, hl, hm, hmm, hxx, hel⟩
  · exact ⟨[], CRd.one (.nil none 0 (Nat.zero_le _)), (fun x hx => by cases hx), by simp⟩
  · have hlm : len ≤ m := by rw [hmm]; split <;> omega
    subst hxx
    simp only [DataW.weights, ht, List.mem_cons, List.mem_append] at hw
    obtain ⟨l, hll, hlp⟩ := choose_listD (n := len) (p := fun i y => ok y ∧ ∃ cs', CRd w cs' (c y) ∧ ∀ j, j < sz → w.cell? (a.add (i * sz + j)) = cs'[j]?) fun i hi => by
      obtain ⟨cs', h1, h2⟩ := hel i (by omega)
      obtain ⟨y, hy, hok⟩ := h H enc w base spare held n cs' _ h2 (fun q hq => hw q (.inr (.inl (weightsAll_in (List.mem_map.2 ⟨i, List.mem_range.2 hi, rfl⟩) q hq))))
      rw [hc] at h1
      obtain ⟨_, hlen, hcell⟩ := World.cells?_some h1
      refine ⟨y, hok, cs', hy, fun j hj => ?_⟩
      have := hcell j (by omega)
      rw [add_add] at this
      rw [this]
    have hsz : ∀ l : List α, l.length = len → l.length * P.bytesOf e ≤ reachBytes := fun l hll => by
      have := hw _ (.inl rfl)
      simp only [List.length_map, List.length_range] at this
      refine Nat.le_trans (Nat.mul_le_mul_right _ ?_) this
      omega
    refine ⟨l, CRd.one ?_, fun x hx => ?_, hsz l hll⟩
    · by_cases h0 : len = 0
      · have : l = [] := List.length_eq_zero_iff.1 (by omega)
        subst this
        subst h0
        exact .nil _ _ hm
      · obtain ⟨b, off, spot⟩ := a
        obtain ⟨_, cs0, hr0, hcl0⟩ := hlp 0 (by omega)
        have hl0 : cs0.length = sz := by rw [hr0.1, hz]
        have h00 := hcl0 0 hp
        rw [List.getElem?_eq_getElem (by omega)] at h00
        have hspot : spot = none := by
          have := World.cell?_spot h00
          simpa [Addr.add] using this
        subst hspot
        have hadd : ∀ k, (⟨b, off, none⟩ : Addr).add k = ⟨b, off + k, none⟩ := fun k => add_lit
        rw [hadd] at h00
        have hbl := World.block_lt_of_cell? w (a := _) (u := _) h00
        have hf : ∀ i, ∃ g : Nat → Value, i < l.length → ∀ j d, ((l.map c)[i]?).bind (·[j]?) = some d → w.cell? ⟨b, off + i * sz + j, none⟩ = some (g j) ∧ PRep w (mem0 w).no (g j) d := fun i => by
          by_cases hi : i < l.length
          · obtain ⟨_, cs', hr, hcl⟩ := hlp i hi
            refine ⟨fun j => cs'.getD j undef, fun _ j d hd => ?_⟩
            rw [List.getElem?_map, List.getElem?_eq_getElem hi] at hd
            simp only [Option.map_some, Option.bind_some] at hd
            have hj : j < sz := by
              rw [← hz l[i]]
              rcases Nat.lt_or_ge j (c l[i]).length with h' | h'
              · exact h'
              · rw [List.getElem?_eq_none h'] at hd; cases hd
            have hl2 : cs'.length = sz := by rw [hr.1, hz]
            have hc2 := hcl j hj
            rw [List.getElem?_eq_getElem (by omega), hadd] at hc2
            have hgd : cs'.getD j undef = cs'[j]'(by omega) := by simp [List.getD, show j < cs'.length by omega]
            dsimp only
            rw [hgd, Nat.add_assoc]
            exact ⟨hc2, hr.2 j _ d (List.getElem?_eq_getElem (by omega)) hd⟩
          · exact ⟨fun _ => undef, fun h => absurd h hi⟩
        have key := Classical.axiomOfChoice hf
        obtain ⟨g, hg⟩ := key
        have hlt : ∀ (i : Nat) (x : List DV), (l.map c)[i]? = some x → i < l.length := fun i x hx => by
          rcases Nat.lt_or_ge i l.length with h' | h'
          · exact h'
          · rw [List.getElem?_eq_none (by simpa using h')] at hx; cases hx
        have := PRep.sl (w := w) (no := (mem0 w).no) b off cap sz (l.map c) g hp (by rw [List.length_map]; omega) (by rw [List.length_map]; omega) hm (mem0_no w b) hbl (fun i x hx => by
          have hi := hlt i x hx
          rw [List.getElem?_map, List.getElem?_eq_getElem hi] at hx
          simp only [Option.map_some, Option.some.injEq] at hx
          rw [← hx, hz]) (fun i x j d hx hd => (hg i (hlt i x hx) j d (by rw [hx]; exact hd)).1) (fun i x j d hx hd => (hg i (hlt i x hx) j d (by rw [hx]; exact hd)).2)
        rw [List.length_map, hll] at this
        exact this
    · obtain ⟨i, hi, rfl⟩ := List.getElem_of_mem hx
      exact (hlp i hi).1
inductive FOpDW (P : Program) : {α : Type} → List Field → Nat → (α → List DV) → Nat → (α → Prop) → Prop
  | nil {off : Nat} : FOpDW P [] off (fun _ : Unit => []) 0 fun _ => True
  | cons {α β : Type} {f : Field} {fs : List Field} {off z z' : Nat} {c : α → List DV} {c' : β → List DV} {ok : α → Prop} {okF : β → Prop} (ho : f.offset = off) (hc : P.cellsOf f.type = z) (h : OpDW P f.type c ok) (hs : FOpDW P fs (off + z) c' z' okF) :
      FOpDW P (f :: fs) off (fun p : α × β => c p.1 ++ c' p.2) (z + z') fun p => ok p.1 ∧ okF p.2
theorem fields_openDW {α : Type} {fs : List Field} {off z : Nat} {c : α → List DV} {ok : α → Prop} (hf : FOpDW P fs off c z ok) :
    ∀ (H : Type) (enc : TypeId × Value → H) (w : World) (base : Nat) (spare : Nat → Bool) (held : Bool) (n : Nat) (cs : List Value), cs.length = off + z →
      (∀ (i : Nat) (f : Field), fs[i]? = some f → ∃ y, DataW.trod enc P w base spare held n f.type ((cs.drop f.offset).take (P.cellsOf f.type)) = some y ∧ ∀ q ∈ y.1.weights P f.type, q ≤ reachBytes) → ∃ a, CRd w (cs.drop off) (c a) ∧ ok a := by
  induction hf with
  | nil =>
    intro H enc w base spare held n cs hl _
    rw [List.drop_eq_nil_of_le (by omega)]
    exact ⟨(), ⟨rfl, fun i v d h => by simp at h⟩, trivial⟩
  | @cons α β f fs off z z' c c' ok okF ho hc h hs ih =>
    intro H enc w base spare held n cs hl hfs
    obtain ⟨y, hy, hwy⟩ := hfs 0 f rfl
    obtain ⟨a, ha, hoka⟩ := h H enc w base spare held n _ _ hy hwy
    obtain ⟨b, hb, hokb⟩ := ih H enc w base spare held n cs (by omega) fun i g hg => hfs (i + 1) g (by simpa using hg)
    rw [ho, hc] at ha
    refine ⟨(a, b), ?_, hoka, hokb⟩
    have := ha.append hb
    rw [← List.drop_drop, List.take_append_drop] at this
    exact this
theorem OpDW.struct {α : Type} {c : α → List DV} {ok : α → Prop} {t z : Nat} {fs : Array Field} (ht : P.underlying t = some (.struct fs)) (hc : P.cellsOf t = z) (hf : FOpDW P fs.toList 0 c z ok) : OpDW P t c ok := by
  intro H enc w base spare held fuel cs x h hw
  obtain ⟨xs, n, _, hx, hcl, hxl, hfs⟩ := DataW.trod_struct ht h
  subst hx
  simp only [DataW.weights, ht] at hw
  obtain ⟨a, ha, hok⟩ := fields_openDW hf H enc w base spare held n cs (by rw [hcl, hc]; omega) fun i f hi => by
    have hi' : fs[i]? = some f := by simpa using hi
    have := hfs i f hi'
    have hlt : i < xs.length := by
      rw [hxl]
      exact (Array.getElem?_eq_some_iff.1 hi').1
    refine ⟨xs[i], by rw [this, List.getElem?_eq_getElem hlt], fun q hq => hw q (DataW.weights_mem_each (j := i) (t := f.type) (d := xs[i].1) ?_ ?_ q hq)⟩
    · rw [List.getElem?_map, hi]; rfl
    · rw [List.getElem?_map, List.getElem?_eq_getElem hlt]; rfl
  exact ⟨a, by simpa using ha, hok⟩
theorem OpDW.map {α β : Type} {c : α → List DV} {c' : β → List DV} {ok : α → Prop} {ok' : β → Prop} {t : TypeId} (h : OpDW P t c ok) (g : α → β) (hg : ∀ a, c' (g a) = c a) (hok : ∀ a, ok a → ok' (g a)) : OpDW P t c' ok' := by
  intro H enc w base spare held fuel cs x hx hw
  obtain ⟨a, ha, hk⟩ := h H enc w base spare held fuel cs x hx hw
  exact ⟨g a, by rw [hg]; exact ha, hok a hk⟩
theorem OpDW.arg {α : Type} {t : TypeId} {c : α → List DV} {ok : α → Prop} (h : OpDW P t c ok) {H : Type} {enc : TypeId × Value → H} {w : World} {base : Nat} {spare : Nat → Bool} {held : Bool} {v : Value} {d : DataW H} {ps : List MemPlace}
    (hd : DataW.Trod enc P w base spare held t v d ps) (hw : ∀ n ∈ d.weights P t, n ≤ reachBytes) : ∃ a, CRd w v.cells.toList (c a) ∧ ok a := by
  obtain ⟨fuel, hf⟩ := hd
  exact h H enc w base spare held fuel _ _ hf hw
end
theorem bytes_int : Try.prog.bytesOf 3 = 8 := by kernel_rfl
theorem bytes_set : Try.prog.bytesOf 57 = 40 := by kernel_rfl
/-- sets that came in -/
def RawSets (l : List RSet) : Prop := (∀ x ∈ l, x.slots.length ≤ 17592186044416) ∧ l.length ≤ 17592186044416
theorem op_set : OpDW Try.prog 57 RSet.c fun x => x.slots.length ≤ 17592186044416 :=
  (OpDW.struct Try.underlying57 (by kernel_rfl) (.cons (z := 1) rfl (by kernel_rfl) op_int.toW (.cons (z := 1) rfl (by kernel_rfl) op_int.toW (.cons (z := 1) rfl (by kernel_rfl) (OpDW.slice (sz := 1) Try.underlying27 (by kernel_rfl) (by decide) (fun _ => rfl) op_int.toW) .nil)))).map (fun p => ⟨p.1, p.2.1, p.2.2.1⟩) (fun _ => rfl) fun _ h => by
    have h2 := h.2.2.1.2
    rw [bytes_int] at h2
    unfold reachBytes at h2
    dsimp only
    omega
theorem op_sets : OpDW Try.prog 26 (lC RSet.c) RawSets := (OpDW.slice (sz := 3) Try.underlying26 (by kernel_rfl) (by decide) (fun _ => rfl) op_set).map id (fun _ => rfl) fun l h => ⟨h.1, by
    have h2 := h.2
    rw [bytes_set] at h2
    unfold reachBytes at h2
    show l.length ≤ _
    omega⟩
end Go.Proofs.Ythpnlnjdmlbnaaa
/- BarrierRecords, as a plain function, is true. No program. -/
namespace Go.Proofs.Ythpnlnjdmlbnaaa
open Go.RowKit
set_option linter.unusedVariables false
set_option linter.unusedSimpArgs false

theorem mod_spec {v n : Int} (hv : I64 v) (hn : 1 ≤ n ∧ n ≤ 9223372036854775807) : F_make_Mod v n = some (v % n) ∧ 0 ≤ v % n ∧ v % n < n := by
  refine ⟨?_, Int.emod_nonneg _ (by omega), Int.emod_lt_of_pos _ (by omega)⟩
  exact mod_c hv hn
theorem set_all {α : Type} {p : α → Prop} {l : List α} (h : ∀ x ∈ l, p x) {k : Nat} {a : α} (ha : p a) : ∀ x ∈ l.set k a, p x := fun x hx => by
  rcases List.mem_or_eq_of_mem_set hx with h1 | h1
  · exact h x h1
  · subst h1; exact ha
theorem spoilt_spec {s : Sp} (hs : ShpS s) (hW : SpW s) {a b c : Int} (ha : I64 a) (hb : I64 b) (hc : I64 c) : ∃ t, F_make_Spoilt s a b c = some t ∧ SpW t ∧ t.ws.length ≤ 65536 ∧ t.fs.length ≤ 65536 := by
  have hw := hs.small
  have h64 := hs.hi
  have hlo := hs.lo
  obtain ⟨g1, g2, g3, g4, g5⟩ := hs.z
  have hwl : 0 < s.ws.length := by rw [hs.wl]; exact Nat.mul_pos (by omega) (by omega)
  have hfw : ∀ f ∈ s.fs, I64 f.ow ∧ I64 f.st ∧ I64 f.nx := hW.2
  have w64I : ∀ x : Int, I64 (w64 x) := fun x => by
    unfold w64 I64
    rw [IntKind.wrap_i64]
    omega
  obtain ⟨m1, m2, m3⟩ := mod_spec (v := b) (n := (s.fs.length : Int)) hb (by omega)
  obtain ⟨k1, k2, k3⟩ := mod_spec (v := a) (n := 8) ha (by omega)
  obtain ⟨v, hv, hvm⟩ := at_ex (l := s.fs) m2 m3
  obtain ⟨v1, v2, v3⟩ := hfw v hvm
  unfold F_make_Spoilt
  rw [copy_ok (by omega) (by omega), Option.bind_some, m1, Option.bind_some, k1, Option.bind_some]
  have fin : ∀ f : Fe, I64 f.ow ∧ I64 f.st ∧ I64 f.nx → SpW (Sp.mk s.sh s.ws (s.fs.set (Int.toNat (b % (s.fs.length : Int))) f)) ∧ s.ws.length ≤ 65536 ∧ (s.fs.set (Int.toNat (b % (s.fs.length : Int))) f).length ≤ 65536 := fun f hf => ⟨⟨hW.1, set_all hfw hf⟩, by omega, by rw [List.length_set]; omega⟩
  split
  · obtain ⟨q1, _, _⟩ := mod_spec (v := c) (n := 6) hc (by omega)
    rw [q1, Option.bind_some, hv, Option.bind_some]
    exact ⟨_, rfl, fin _ ⟨w64I _, v2, v3⟩⟩
  split
  · obtain ⟨q1, q2, q3⟩ := mod_spec (v := c) (n := 4) hc (by omega)
    obtain ⟨u, hu, _⟩ := at_ex (l := [(1 : Int), (-1), 4294967296, 17179869184]) q2 (by simp; omega)
    rw [hv, Option.bind_some, q1, Option.bind_some, hu, Option.bind_some]
    exact ⟨_, rfl, fin _ ⟨v1, w64I _, v3⟩⟩
  split
  · obtain ⟨q1, _, _⟩ := mod_spec (v := c) (n := (s.fs.length : Int) + 2) hc (by omega)
    rw [w64_in (n := (s.fs.length : Int) + 2) (by omega), q1, Option.bind_some, hv, Option.bind_some]
    exact ⟨_, rfl, fin _ ⟨v1, v2, w64I _⟩⟩
  split
  · obtain ⟨q1, q2, q3⟩ := mod_spec (v := b) (n := (s.ws.length : Int)) hb (by omega)
    obtain ⟨u, hu, _⟩ := at_ex (l := s.ws) q2 q3
    rw [q1, Option.bind_some, hu, Option.bind_some]
    refine ⟨_, rfl, ⟨set_all hW.1 ?_, hfw⟩, by rw [List.length_set]; omega, by show s.fs.length ≤ _; omega⟩
    unfold wu U64
    rw [IntKind.wrap_u64]
    omega
  split
  · rw [if_pos (by simp only [List.length_cons, List.length_nil]; omega)]
    refine ⟨_, rfl, ⟨fun x hx => ?_, hfw⟩, by rw [List.length_append]; simp; omega, by show s.fs.length ≤ _; omega⟩
    rcases List.mem_append.1 hx with h1 | h1
    · exact hW.1 x h1
    · rw [List.mem_singleton] at h1
      subst h1
      unfold U64
      omega
  split
  · obtain ⟨q1, _, _⟩ := mod_spec (v := c) (n := 3) hc (by omega)
    rw [q1, Option.bind_some]
    exact ⟨_, rfl, ⟨hW.1, hfw⟩, by show s.ws.length ≤ _; omega, by show s.fs.length ≤ _; omega⟩
  split
  · rw [hv, Option.bind_some]
    exact ⟨_, rfl, fin _ ⟨by show _ ≤ (-1 : Int) ∧ (-1 : Int) ≤ _; omega, by show _ ≤ (-1 : Int) ∧ (-1 : Int) ≤ _; omega, by show _ ≤ (-1 : Int) ∧ (-1 : Int) ≤ _; omega⟩⟩
  · exact ⟨_, rfl, hW, by omega, by omega⟩

/-- sets of a size that is asked for -/
theorem makeSets_c {l : List RSet} (h : RawSets l) : ∃ b, F_make_Sets l = some b ∧ (b = true → l.length ≤ 40 ∧ ∀ x ∈ l, x.slots.length ≤ 300) := by
  show Gd (fun b => b = true → l.length ≤ 40 ∧ ∀ x ∈ l, x.slots.length ≤ 300) _
  unfold F_make_Sets
  obtain ⟨hs, hl⟩ := h
  refine Gd.bind (P := fun b : Int => l.length ≤ 40 → ∀ i (h : i < l.length), (l[i].slots.length : Int) ≤ b) ?_ fun b hb => ?_
  · refine Gd.loop (fun x : Int × Int => ∃ k : Nat, x.2 = k ∧ k ≤ l.length ∧ (l.length ≤ 40 → 0 ≤ x.1 ∧ x.1 ≤ k * 17592186044416 ∧ ∀ i (h : i < l.length), i < k → (l[i].slots.length : Int) ≤ x.1)) _ (fun x => l.length - x.2.toNat) ⟨0, rfl, Nat.zero_le _, fun _ => ⟨Int.le_refl _, by omega, fun i _ h => absurd h (Nat.not_lt_zero _)⟩⟩ ?_
    rintro ⟨m, x⟩ ⟨k, hx, hk, h3⟩
    dsimp only at hx h3 ⊢
    subst hx
    refine .ite (fun hlt => ?_) fun hlt => .out fun h40 i hi => (h3 h40).2.2 i hi (by omega)
    have hlt : k < l.length := by omega
    have h1 := hs _ (List.getElem_mem hlt)
    refine .atN hlt ?_
    have e1 : w64 ((k : Int) + 1) = ((k + 1 : Nat) : Int) := w64_in (by omega)
    rw [e1]
    refine .go ⟨k + 1, rfl, hlt, fun h40 => ?_⟩ (by dsimp only; omega)
    obtain ⟨q1, q2, q3⟩ := h3 h40
    dsimp only
    rw [w64_in (n := m + _) (by omega)]
    refine ⟨by omega, by push_cast; omega, fun i hi hik => ?_⟩
    by_cases h5 : i = k
    · subst h5; omega
    · have := q3 i hi (by omega); omega
  · refine .ite (fun h => .some fun hb2 => ?_) fun h => .some fun h => by cases h
    have hb2 := of_decide_eq_true hb2
    refine ⟨by omega, fun x hx => ?_⟩
    obtain ⟨i, hi, rfl⟩ := List.mem_iff_getElem.1 hx
    have := hb (by omega) i hi
    omega
theorem posK_lt {l : List RSet} {t : RSet} {j : Nat} (hj : j < l.length) (h : j < posK l t) : KeyLt l[j] t := by
  have := List.not_of_lt_findIdx (p := fun x => !bP (KeyLt x t)) (xs := l) h
  simpa [bP_iff] using this
theorem posK_ge {l : List RSet} (hl : SetsOk l) {t : RSet} {j : Nat} (hj : j < l.length) (h : posK l t ≤ j) : ¬ KeyLt l[j] t := fun k => by
  have hi : posK l t < l.length := by omega
  have h0 : ¬ KeyLt l[posK l t] t := fun k => by
    have := List.findIdx_getElem (p := fun x => !bP (KeyLt x t)) (xs := l) (w := hi)
    have e : (!bP (KeyLt l[posK l t] t)) = true := this
    rw [bP_t k] at e
    cases e
  rcases Nat.lt_or_eq_of_le h with h1 | h1
  · exact h0 ((hl.lt h1 hj).trans k)
  · subst h1; exact h0 k
theorem posI_lt {l : List Int} {t : Int} {j : Nat} (hj : j < l.length) (h : j < posI l t) : l[j] < t := by
  have := List.not_of_lt_findIdx (p := fun x => !bP (x < t)) (xs := l) h
  simpa [bP_iff] using this
theorem posI_ge {l : List Int} (hl : Asc l) {t : Int} {j : Nat} (hj : j < l.length) (h : posI l t ≤ j) : ¬ l[j] < t := fun k => by
  have hi : posI l t < l.length := by omega
  have h0 : ¬ l[posI l t] < t := fun k => by
    have := List.findIdx_getElem (p := fun x => !bP (x < t)) (xs := l) (w := hi)
    have e : (!bP (l[posI l t] < t)) = true := this
    rw [bP_t k] at e
    cases e
  rcases Nat.lt_or_eq_of_le h with h1 | h1
  · have := hl.lt h1 hj; omega
  · subst h1; exact h0 k
theorem pw_insert {α : Type} {R : α → α → Prop} {l : List α} (hl : l.Pairwise R) {i : Nat} (hi : i ≤ l.length) {x : α} (h1 : ∀ j (h : j < l.length), j < i → R l[j] x) (h2 : ∀ j (h : j < l.length), i ≤ j → R x l[j]) : (l.insertIdx i x).Pairwise R := by
  rw [ins_eq, if_pos hi, List.append_assoc, List.pairwise_append, List.singleton_append, List.pairwise_cons]
  have hd : ∀ y ∈ l.drop i, R x y := fun y hy => by
    obtain ⟨j, hj, rfl⟩ := List.mem_iff_getElem.1 hy
    rw [List.getElem_drop]
    exact h2 _ (by rw [List.length_drop] at hj; omega) (by omega)
  have ht : ∀ y ∈ l.take i, R y x := fun y hy => by
    obtain ⟨j, hj, rfl⟩ := List.mem_iff_getElem.1 hy
    rw [List.length_take] at hj
    rw [List.getElem_take]
    exact h1 _ (by omega) (by omega)
  refine ⟨hl.sublist (List.take_sublist _ _), ⟨hd, hl.sublist (List.drop_sublist _ _)⟩, fun a ha b hb => ?_⟩
  rcases List.mem_cons.1 hb with rfl | hb
  · exact ht a ha
  · have := hl
    rw [← List.take_append_drop i l, List.pairwise_append] at this
    exact this.2.2 a ha b hb
theorem SetsOk.pw {l : List RSet} : SetsOk l ↔ (∀ x ∈ l, SetOk x) ∧ l.Pairwise KeyLt :=
  ⟨fun h => ⟨h.1, List.pairwise_iff_getElem.2 fun i j hi hj hij => h.lt hij hj⟩, fun h => ⟨h.1, fun i hi => List.pairwise_iff_getElem.1 h.2 i (i + 1) (by omega) hi (by omega)⟩⟩
theorem Asc.pw {l : List Int} : Asc l ↔ l.Pairwise (· < ·) :=
  ⟨fun h => List.pairwise_iff_getElem.2 fun i j hi hj hij => h.lt hij hj, fun h i hi => List.pairwise_iff_getElem.1 h i (i + 1) (by omega) hi (by omega)⟩
theorem withI_ok {l : List Int} (hl : Asc l) (h0 : ∀ x ∈ l, 0 ≤ x) {s : Int} (hs : 0 ≤ s) : Asc (withI l s) ∧ 0 < (withI l s).length ∧ (∀ x ∈ withI l s, 0 ≤ x) ∧ (withI l s).length ≤ l.length + 1 := by
  unfold withI
  by_cases h : ∃ h : posI l s < l.length, l[posI l s] = s
  · rw [if_pos h]
    obtain ⟨h1, _⟩ := h
    exact ⟨hl, by omega, h0, by omega⟩
  · rw [if_neg h]
    have hp := posI_le l s
    refine ⟨Asc.pw.2 (pw_insert (Asc.pw.1 hl) hp (fun j hj h1 => posI_lt hj h1) fun j hj h1 => ?_), by rw [List.length_insertIdx, if_pos hp]; omega, fun x hx => ?_, by rw [List.length_insertIdx, if_pos hp]; omega⟩
    · have h2 := posI_ge hl hj h1
      have h3 : l[j] ≠ s := fun e => by
        rcases Nat.lt_or_eq_of_le h1 with h4 | h4
        · have := hl.lt h4 hj
          have h5 := posI_ge hl (show posI l s < l.length by omega) (Nat.le_refl _)
          omega
        · exact h ⟨by omega, by simp only [h4]; exact e⟩
      omega
    · rcases (List.mem_insertIdx hp).1 hx with rfl | hx
      · exact hs
      · exact h0 x hx
theorem slots_pos {x : RSet} (h : SetOk x) : ∀ y ∈ x.slots, 0 ≤ y := fun y hy => by
  obtain ⟨i, hi, rfl⟩ := List.mem_iff_getElem.1 hy
  have h0 := h.2.2.2.1 (by omega)
  rcases Nat.eq_zero_or_pos i with rfl | hp
  · exact h0
  · have := h.2.2.2.2.lt hp hi; omega
theorem key_l {a b c : RSet} (h1 : a.frm = b.frm) (h2 : a.to = b.to) (h : KeyLt a c) : KeyLt b c := by unfold KeyLt at *; omega
theorem key_r {a b c : RSet} (h1 : a.frm = b.frm) (h2 : a.to = b.to) (h : KeyLt c a) : KeyLt c b := by unfold KeyLt at *; omega
theorem putK_ok {l : List RSet} (hl : SetsOk l) {f t s : Int} (hf : 0 ≤ f ∧ f < 64) (ht : 0 ≤ t ∧ t < 64) (hs : 0 ≤ s) : SetsOk (putK l f t s) ∧ (putK l f t s).length ≤ l.length + 1 ∧ ∀ B, (∀ x ∈ l, x.slots.length ≤ B) → ∀ x ∈ putK l f t s, x.slots.length ≤ B + 1 := by
  have hp := posK_le l ⟨f, t, []⟩
  unfold putK
  by_cases h : ∃ h : posK l ⟨f, t, []⟩ < l.length, l[posK l ⟨f, t, []⟩].frm = f ∧ l[posK l ⟨f, t, []⟩].to = t
  · rw [dif_pos h]
    obtain ⟨hi, e1, e2⟩ := h
    have hx := hl.1 _ (List.getElem_mem hi)
    obtain ⟨w1, w2, w3, w4⟩ := withI_ok hx.2.2.2.2 (slots_pos hx) hs
    refine ⟨⟨fun x hx => ?_, fun i hi2 => ?_⟩, by rw [List.length_set]; omega, fun B hB x hx => ?_⟩
    · rcases List.mem_or_eq_of_mem_set hx with hx | rfl
      · exact hl.1 x hx
      · exact ⟨hf, ht, w2, fun h => w3 _ (List.getElem_mem h), w1⟩
    · rw [List.length_set] at hi2
      have hk := hl.2 i hi2
      rw [List.getElem_set, List.getElem_set]
      by_cases e : posK l ⟨f, t, []⟩ = i
      · rw [if_pos e, if_neg (by omega)]
        exact key_l (a := l[i]) (by simp only [← e]; exact e1) (by simp only [← e]; exact e2) hk
      · rw [if_neg e]
        by_cases e' : posK l ⟨f, t, []⟩ = i + 1
        · rw [if_pos e']
          exact key_r (a := l[i + 1]) (by simp only [← e']; exact e1) (by simp only [← e']; exact e2) hk
        · rw [if_neg e']
          exact hk
    · rcases List.mem_or_eq_of_mem_set hx with hx | rfl
      · have := hB x hx; omega
      · have := hB _ (List.getElem_mem hi); dsimp only; omega
  · rw [dif_neg h]
    refine ⟨SetsOk.pw.2 ⟨fun x hx => ?_, pw_insert (SetsOk.pw.1 hl).2 hp (fun j hj h1 => ?_) fun j hj h1 => ?_⟩, by rw [List.length_insertIdx, if_pos hp]; omega, fun B hB x hx => ?_⟩
    · rcases (List.mem_insertIdx hp).1 hx with rfl | hx
      · exact ⟨hf, ht, by show 0 < 1; omega, fun _ => hs, fun i h => by simp at h⟩
      · exact hl.1 x hx
    · have := posK_lt hj h1
      unfold KeyLt at this ⊢
      exact this
    · have h2 := posK_ge hl hj h1
      have h3 : ¬ (l[j].frm = f ∧ l[j].to = t) := fun ⟨e1, e2⟩ => by
        rcases Nat.lt_or_eq_of_le h1 with h4 | h4
        · have h5 := hl.lt h4 hj
          have h6 := posK_ge hl (show posK l ⟨f, t, []⟩ < l.length by omega) (Nat.le_refl _)
          unfold KeyLt at h5 h6
          dsimp only at h6
          omega
        · exact h ⟨by omega, by simp only [h4]; exact ⟨e1, e2⟩⟩
      unfold KeyLt at h2 ⊢
      dsimp only at h2 ⊢
      omega
    · rcases (List.mem_insertIdx hp).1 hx with rfl | hx
      · show 1 ≤ _; omega
      · have := hB x hx; omega
/-- sets out of a deck -/
theorem slots_spec {d : BeltwaymakeDeck} (hd : DeckOk d) : ∃ l d', F_make_Slots d = some (l, d') ∧ SetsOk l ∧ l.length ≤ 20 ∧ (∀ x ∈ l, x.slots.length ≤ 20) ∧ DeckOk d' := by
  obtain ⟨v, d1, e1, a1, b1, hd1⟩ := next_spec hd (n := 20) (by omega)
  have key : Gd (fun b : List RSet × BeltwaymakeDeck => SetsOk b.1 ∧ b.1.length ≤ 20 ∧ (∀ x ∈ b.1, x.slots.length ≤ 20) ∧ DeckOk b.2) (F_make_Slots d) := by
    unfold F_make_Slots
    refine Gd.bind (P := fun b : BeltwaymakeDeck × List RSet => SetsOk b.2 ∧ b.2.length ≤ 20 ∧ (∀ x ∈ b.2, x.slots.length ≤ 20) ∧ DeckOk b.1) ?_ fun b hb => .some hb
    refine .call e1 ?_
    refine Gd.loop (fun x : BeltwaymakeDeck × List RSet × Int => DeckOk x.1 ∧ SetsOk x.2.1 ∧ 0 ≤ x.2.2 ∧ ∃ n : Nat, (n : Int) + x.2.2 ≤ 20 ∧ x.2.1.length ≤ n ∧ ∀ y ∈ x.2.1, y.slots.length ≤ n) _ (fun x => x.2.2.toNat) ⟨hd1, sets_nil, a1, 0, by dsimp only; omega, Nat.le_refl _, fun y hy => (by cases hy)⟩ ?_
    rintro ⟨d2, l, r⟩ ⟨i1, i2, i3, n, i4, i5, i6⟩
    dsimp only at i1 i2 i3 i4 i5 i6 ⊢
    refine .ite (fun h => ?_) fun h => .out ⟨i2, by dsimp only; omega, fun x hx => by have := i6 x hx; omega, i1⟩
    obtain ⟨f, d3, f1, f2, f3, h3⟩ := next_spec i1 (n := 6) (by omega)
    obtain ⟨t, d4, t1, t2, t3, h4⟩ := next_spec h3 (n := 6) (by omega)
    obtain ⟨s, d5, s1, s2, s3, h5⟩ := next_spec h4 (n := 40) (by omega)
    refine .call f1 (.call t1 (.call s1 ?_))
    obtain ⟨p1, p2, p3⟩ := putK_ok i2 (f := f) (t := t) (s := s) (by omega) (by omega) s2
    refine .call (put_c i2 (by omega) (fun x hx => by have := i6 x hx; omega) f t s) ?_
    rw [w64_in (n := r - 1) (by omega)]
    exact .go ⟨h5, p1, by dsimp only; omega, n + 1, by dsimp only; omega, by dsimp only; omega, p3 n i6⟩ (by dsimp only; omega)
  obtain ⟨⟨l, d'⟩, h1, h2, h3, h4, h5⟩ := key
  exact ⟨l, d', h1, h2, h3, h4, h5⟩
theorem rec_size {s : Sp} {l : List RSet} {p w : Int} (hw : 0 ≤ w) (hl : l.length ≤ 50000) (hs : ∀ x ∈ l, x.slots.length ≤ 50000) : (RecR s l p w).1.length ≤ 100000 ∧ ∀ x ∈ (RecR s l p w).1, x.slots.length ≤ 100000 := by
  unfold RecR
  by_cases h : SpOk s ∧ SetsOk l
  · rw [if_pos h]
    dsimp only
    by_cases hN : NeedP s p w
    · rw [if_pos hN]
      obtain ⟨k1, k2, k3, k4⟩ := hN.1
      obtain ⟨_, q2, q3⟩ := putK_ok h.2 (frOf_in h.1 (a := p) (by omega) (by omega)) (frOf_in h.1 (a := w - 1) (by omega) (by omega)) k3
      exact ⟨by omega, fun x hx => by have := q3 50000 hs x hx; omega⟩
    · rw [if_neg hN]
      exact ⟨by omega, fun x hx => by have := hs x hx; omega⟩
  · rw [if_neg h]
    exact ⟨by show 0 ≤ _; omega, fun x hx => (by cases hx)⟩
theorem wu_u (x : Int) : 0 ≤ wu x ∧ wu x ≤ 18446744073709551615 := by
  unfold wu
  rw [IntKind.wrap_u64]
  omega
theorem w64_i (x : Int) : I64 (w64 x) := by
  unfold w64 I64
  rw [IntKind.wrap_i64]
  omega
theorem records_true {s0 : Sp} (hS0 : SpW s0) {r0 : List RSet} (hr0 : RawSets r0) {l : List Int} (h1 : ∀ x ∈ l, I64 x) (h2 : l.length ≤ 9223372036854775807) {slot w what at' by' : Int} (hsl : I64 slot) (hw : U64 w) (ha : I64 what) (hb : I64 at') (hc : I64 by') : Sm (F_law19_BarrierRecords s0 r0 l slot w what at' by') true := by
  refine ⟨Gd.eq ?_⟩
  unfold F_law19_BarrierRecords
  have aw := Gd.call awake_c (G := fun x => x = true) (K := fun v => some v) (.some rfl)
  refine .call (small_c s0) ?_
  refine .ite (fun hsm => ?_) fun _ => aw
  obtain ⟨b, e0, hb0⟩ := makeSets_c hr0
  refine .call e0 ?_
  refine .ite (fun hb1 => ?_) fun _ => aw
  obtain ⟨r40, r300⟩ := hb0 hb1
  refine .call (a := ⟨l, 0⟩) rfl ?_
  obtain ⟨s, L, d, e1, hS, hL, hL4, hd⟩ := space_spec (d := ⟨l, 0⟩) ⟨h1, Int.le_refl _, h2⟩
  refine .call e1 ?_
  obtain ⟨sets, d2, e2, q1, q2, q3, hd2⟩ := slots_spec hd
  refine .call e2 ?_
  dsimp only
  have hok := hS.ok
  have hsm2 := hok.shp.small
  have hwI : I64 (w64 (shrN .u64 w 1)) := w64_i _
  refine Gd.bndR (P := fun z => z = .inl ()) ?_ (fun _ _ => aw) (fun r h => by cases h)
  have elen : w64 ((s.ws.length : Int) + 2) = (s.ws.length : Int) + 2 := w64_in (by omega)
  obtain ⟨m1, m2, m3⟩ := mod_spec (v := slot) (n := (s.ws.length : Int) + 2) hsl (by omega)
  obtain ⟨n1, n2, n3⟩ := mod_spec (v := w64 (shrN .u64 w 1)) (n := (s.ws.length : Int) + 2) hwI (by omega)
  rw [elen]
  refine .call m1 (.call n1 ?_)
  generalize hPL : [[slot, w64 (shrN .u64 w 1)], [w64 (slot % ((s.ws.length : Int) + 2) - 1), w64 (shrN .u64 w 1) % ((s.ws.length : Int) + 2)]] = PL
  have hPL2 : ∀ x ∈ PL, ∃ a b, x = [a, b] := fun x hx => by
    subst hPL
    simp only [List.mem_cons, List.not_mem_nil, or_false] at hx
    rcases hx with rfl | rfl <;> exact ⟨_, _, rfl⟩
  have hPLl : PL.length = 2 := by subst hPL; rfl
  refine Gd.loop (fun x : List (List Int) × Int => x.1 = PL ∧ ∃ k : Nat, x.2 = k ∧ k ≤ 2) _ (fun x => 2 - x.2.toNat) ⟨rfl, 0, rfl, by omega⟩ ?_
  rintro ⟨X, x⟩ ⟨hX, k, hx, hk⟩
  dsimp only at hX hx ⊢
  subst hX
  subst hx
  rw [hPLl]
  refine .ite (fun hlt => ?_) fun _ => .out rfl
  refine Gd.bndR (P := fun z => z = .inl X) ?_ (fun b hb => ?_) (fun r h => by cases h)
  · refine .atN (by omega) ?_
    obtain ⟨p, q, hpq⟩ := hPL2 _ (List.getElem_mem (show k < X.length by omega))
    rw [hpq]
    refine .at1 (by simp) (.at0 (by simp) ?_)
    show Gd _ ((F_barrier_Needs s p (wu q)).bind _)
    refine .call (needs_c hok (wu_u q)) (.call (rneeds_c hok (wu_u q)) (.neg (by simp) ?_))
    refine .call (needs_c hok hw) (.call (rneeds_c hok hw) (.neg (by simp) ?_))
    obtain ⟨t, et, tW, _, _⟩ := spoilt_spec hok.shp hS.w ha hb hc
    refine .call et ?_
    generalize hSP : [s, s0, t] = SP
    have hSPw : ∀ x ∈ SP, SpW x := fun x hx => by
      subst hSP
      simp only [List.mem_cons, List.not_mem_nil, or_false] at hx
      rcases hx with rfl | rfl | rfl
      · exact hS.w
      · exact hS0
      · exact tW
    have hSPl : SP.length = 3 := by subst hSP; rfl
    refine Gd.loop (fun x : List (List Int) × List Sp × Int => x.1 = X ∧ x.2.1 = SP ∧ ∃ k : Nat, x.2.2 = k ∧ k ≤ 3) _ (fun x => 3 - x.2.2.toNat) ⟨rfl, rfl, 0, rfl, by omega⟩ ?_
    rintro ⟨X2, Y, x⟩ ⟨hX2, hY, k2, hx, hk2⟩
    dsimp only at hX2 hY hx ⊢
    subst hX2
    subst hY
    subst hx
    rw [hSPl]
    refine .ite (fun hlt2 => ?_) fun _ => .out rfl
    refine Gd.bndR (P := fun z => z = .inl (X2, Y)) ?_ (fun b hb => ?_) (fun r h => by cases h)
    · refine .atN (by omega) ?_
      have hYw := hSPw _ (List.getElem_mem (show k2 < Y.length by omega))
      generalize Y[k2]'(by omega) = y at *
      generalize hKL : [sets, r0] = KL
      have hKLb : ∀ x ∈ KL, x.length ≤ 50000 ∧ ∀ z ∈ x, z.slots.length ≤ 50000 := fun x hx => by
        subst hKL
        simp only [List.mem_cons, List.not_mem_nil, or_false] at hx
        rcases hx with rfl | rfl
        · exact ⟨by omega, fun z hz => by have := q3 z hz; omega⟩
        · exact ⟨by omega, fun z hz => by have := r300 z hz; omega⟩
      have hKLl : KL.length = 2 := by subst hKL; rfl
      refine Gd.loop (fun x : Int => ∃ k : Nat, x = k ∧ k ≤ 2) _ (fun x => 2 - x.toNat) ⟨0, rfl, by omega⟩ ?_
      rintro x ⟨k3, rfl, hk3⟩
      rw [hKLl]
      refine .ite (fun hlt3 => ?_) fun _ => .out rfl
      refine .atN (by omega) ?_
      obtain ⟨b1, b2⟩ := hKLb _ (List.getElem_mem (show k3 < KL.length by omega))
      generalize KL[k3]'(by omega) = kl at *
      obtain ⟨z1, z2⟩ := rec_size (s := y) (p := p) (w := wu q) (wu_u q).1 b1 b2
      refine .call (record_c hYw (by omega) (fun x hx => by have := b2 x hx; omega) (wu_u q)) ?_
      refine .call (rrecord_c hYw (by omega) (fun x hx => by have := b2 x hx; omega) (wu_u q)) ?_
      refine .pos rfl (.call (same_c (RecR y kl p (wu q)).1 (by omega) fun x hx => by have := z2 x hx; omega) (.pos rfl ?_))
      have e3 : w64 ((k3 : Int) + 1) = ((k3 + 1 : Nat) : Int) := w64_in (by omega)
      exact .go ⟨k3 + 1, e3, by omega⟩ (by rw [e3]; omega)
    · injection hb with hb
      subst hb
      have e3 : w64 ((k2 : Int) + 1) = ((k2 + 1 : Nat) : Int) := w64_in (by omega)
      exact .go ⟨rfl, rfl, k2 + 1, e3, by omega⟩ (by dsimp only; rw [e3]; omega)
  · injection hb with hb
    subst hb
    have e3 : w64 ((k : Int) + 1) = ((k + 1 : Nat) : Int) := w64_in (by omega)
    exact .go ⟨rfl, k + 1, e3, by omega⟩ (by dsimp only; rw [e3]; omega)
end Go.Proofs.Ythpnlnjdmlbnaaa
