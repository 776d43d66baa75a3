/- Parts of the proof: W2, OD, OpD. No condition. -/
import Derived.Test.YthpnlnjdmlbnaaaMW13
import Derived.ChangeSlices
import Derived.Deep.Slices
import Derived.Below
import Derived.Test.YthpnlnjdmlbnaaaRows
import Derived.Test.YthpnlnjdmlbnaaaChecked
import Derived.KernelRfl
/- BarrierWithin, as a plain function, is true. No program. -/
namespace Go.Proofs.Ythpnlnjdmlbnaaa
open Go.RowKit
set_option linter.unusedVariables false
set_option linter.unusedSimpArgs false

/-- a word of an increment, by its place: its address, its frame -/
theorem itm_go {s : Sp} {L : List Itm} (h : SpInv s L) {x : Itm} (hx : x ∈ L) (hw : 0 < x.i.words) {k : Int} (h0 : 0 ≤ k) (h1 : k < x.i.words) :
    ∃ p : Nat, F_ref05_Go s (shlN .i64 x.i.first (wu s.sh)) k = some ((p : Int), 0) ∧ p < s.ws.length ∧ frOf s p ∈ x.fr := by
  obtain ⟨g1, g2, g3, g4, g5⟩ := h.ok.shp.z
  have hi := h.each x hx
  have hroom := hi.room h.ok.shp
  have hsm := h.ok.shp.small
  have hwd := hi.inc.wd
  obtain ⟨f, l, hf⟩ : ∃ f l, x.fr = f :: l := by
    cases hfr : x.fr with
    | nil => rw [hfr] at hroom; simp at hroom; omega
    | cons f l => exact ⟨f, l, rfl⟩
  have hfl := hi.inc.ch.lt f (by rw [hf]; exact List.mem_cons_self ..)
  have hfirst : x.i.first = (f : Int) := by have := hi.inc.first; rw [hf] at this; exact this
  have h64 := h.ok.shp.hi
  have hk : k.toNat < x.fr.length * szS s := by omega
  refine ⟨adr (szS s) x.fr k.toNat, ?_, adr_lt h.ok.shp hi.inc.ch.lt hk, ?_⟩
  · rw [shl_k h.ok.shp.sh f hfirst (by omega)]
    have ha : ((f * szS s : Nat) : Int) = ((adr (szS s) x.fr 0 : Nat) : Int) := by
      unfold adr
      rw [hf]
      simp
    have hfz : f * szS s ≤ 64 * 256 := Nat.mul_le_mul (by omega) g4
    rw [go_c h.ok.shp (nxin_of h.ok.fm) (by unfold I64; omega) (by unfold I64; omega), ha, show k = ((k.toNat : Nat) : Int) by omega, go_k h.ok.shp hi.inc.ch hi.inc.own (by omega), Nat.zero_add]
    rfl
  · unfold frOf
    rw [Int.toNat_natCast, (adr_div (by omega) x.fr k.toNat).1, List.getElem?_eq_getElem (Nat.div_lt_of_lt_mul (by rw [Nat.mul_comm]; exact hk)), Option.getD_some]
    exact List.getElem_mem _
theorem itm_st {s : Sp} {L : List Itm} (h : SpInv s L) {x : Itm} (hx : x ∈ L) {p : Nat} (hp : frOf s p ∈ x.fr) : ∃ hl : frOf s p < s.fs.length, ¬ s.fs[frOf s p].ow = -1 ∧ s.fs[frOf s p].st = x.i.belt * 4294967296 + x.i.seq := by
  have hi := h.each x hx
  have hl := hi.inc.ch.lt _ hp
  exact ⟨hl, hi.inc.own _ hp hl, hi.inc.st _ hl hp⟩
/-- between words of increments: by their stamps -/
theorem need_itm {s : Sp} {L : List Itm} (h : SpInv s L) {x y : Itm} (hx : x ∈ L) (hy : y ∈ L) {p q : Nat} (hp : p < s.ws.length) (hq : q < s.ws.length) (hpx : frOf s p ∈ x.fr) (hqy : frOf s q ∈ y.fr) :
    NeedP s p ((q : Int) + 1) ↔ y.i.belt * 4294967296 + y.i.seq < x.i.belt * 4294967296 + x.i.seq := by
  obtain ⟨l1, o1, s1⟩ := itm_st h hx hpx
  obtain ⟨l2, o2, s2⟩ := itm_st h hy hqy
  have e : (q : Int) + 1 - 1 = q := by omega
  unfold NeedP
  rw [← s1, ← s2]
  constructor
  · rintro ⟨_, _, _, _, _, k⟩
    simp only [e] at k
    exact k
  · intro k
    exact ⟨⟨by omega, by omega, by omega, by omega⟩, l1, by rw [e]; exact l2, o1, by simp only [e]; exact o2, by simp only [e]; exact k⟩
theorem posK_one (f t s : Int) : posK [⟨f, t, [s]⟩] ⟨f, t, []⟩ = 0 := posK_of (Nat.zero_le _) (fun j _ h => absurd h (Nat.not_lt_zero _)) fun _ k => by
  unfold KeyLt at k
  simp at k
theorem put_twice (f t s : Int) : putK [⟨f, t, [s]⟩] f t s = [⟨f, t, [s]⟩] := by
  have hp := posK_one f t s
  have hi : posI [s] s = 0 := posI_of (Nat.zero_le _) (fun j _ h => absurd h (Nat.not_lt_zero _)) fun _ k => by simp at k
  have hw : withI [s] s = [s] := by
    unfold withI
    rw [if_pos]
    exact ⟨by rw [hi]; simp, by simp only [hi]; rfl⟩
  unfold putK
  rw [dif_pos ⟨by rw [hp]; simp, by simp only [hp]; exact ⟨rfl, rfl⟩⟩]
  simp only [hp]
  show [RSet.mk f t (withI [s] s)] = _
  rw [hw]
theorem set_one {f t s : Int} (hf : 0 ≤ f ∧ f < 64) (ht : 0 ≤ t ∧ t < 64) (hs : 0 ≤ s) : SetsOk [⟨f, t, [s]⟩] := by
  refine ⟨fun x hx => ?_, fun i h => by simp at h⟩
  obtain rfl := List.mem_singleton.1 hx
  exact ⟨hf, ht, by show 0 < 1; omega, fun _ => hs, fun i h => by simp at h⟩
open Classical in
theorem within_true {l : List Int} (h1 : ∀ x ∈ l, I64 x) (h2 : l.length ≤ 9223372036854775807) {a b i j : Int} (ha : I64 a) (hb : I64 b) (hi : I64 i) (hj : I64 j) : Sm (F_law19_BarrierWithin l a b i j) true := by
  refine ⟨Gd.eq ?_⟩
  unfold F_law19_BarrierWithin
  refine .call (a := ⟨l, 0⟩) rfl ?_
  obtain ⟨s, L, d, e1, hS, hL, hL4, hd⟩ := space_spec (d := ⟨l, 0⟩) ⟨h1, Int.le_refl _, h2⟩
  refine .call e1 ?_
  dsimp only
  rw [List.length_map]
  refine .ite (fun h => .call awake_c (.some rfl)) fun hne => ?_
  have hok := hS.ok
  have hsm := hok.shp.small
  have hn : 1 ≤ (L.length : Int) ∧ (L.length : Int) ≤ 9223372036854775807 := by omega
  have pick : ∀ {v : Int}, I64 v → ∃ x : Itm, x ∈ L ∧ F_make_Mod v (L.length : Int) = some (v % L.length) ∧ at_ (L.map Itm.i) (v % L.length) = some x.i := fun {v} hv => by
    have m0 := Int.emod_nonneg v (by omega : (L.length : Int) ≠ 0)
    have m1 := Int.emod_lt_of_pos v (by omega : (0 : Int) < L.length)
    have hlt : (v % L.length).toNat < L.length := by omega
    exact ⟨L[(v % L.length).toNat], List.getElem_mem _, mod_c hv hn, by rw [at_int m0 (by rw [List.length_map]; exact hlt), List.getElem_map]⟩
  obtain ⟨x, hx, mx, ax⟩ := pick ha
  obtain ⟨y, hy, my, ay⟩ := pick hb
  refine .call mx (.call ax (.call my (.call ay (.pos (wu_sh hok.shp.sh) ?_))))
  have wx := (hL x hx).1
  have wy := (hL y hy).1
  have dx := (hS.each x hx).inc.wd
  have dy := (hS.each y hy).inc.wd
  obtain ⟨p, gp, pl, pf⟩ := itm_go hS hx wx (Int.emod_nonneg i (by omega : x.i.words ≠ 0)) (Int.emod_lt_of_pos i wx)
  obtain ⟨q, gq, ql, qf⟩ := itm_go hS hy wy (Int.emod_nonneg j (by omega : y.i.words ≠ 0)) (Int.emod_lt_of_pos j wy)
  refine .call (mod_c hi (by omega)) (.call gp (.call (mod_c hj (by omega)) (.call gq ?_)))
  refine .pos rfl (.pos rfl ?_)
  dsimp only
  have ew : ∀ {n : Nat}, n < s.ws.length → wu (w64 ((n : Int) + 1)) = (n : Int) + 1 := fun h => by rw [w64_in (by omega), wu_in (by omega)]
  rw [ew ql, ew pl]
  have N1 := need_itm hS hx hy pl ql pf qf
  have N2 := need_itm hS hy hx ql pl qf pf
  have bx := (hS.each x hx).inc.bl
  have by' := (hS.each y hy).inc.bl
  have sx := (hS.each x hx).inc.sq
  have sy := (hS.each y hy).inc.sq
  refine .call (needs_c hok (by omega)) (.call (needs_c hok (by omega)) ?_)
  refine .ite (fun hs => ?_) fun hs => ?_
  · have hxy : x = y := by
      apply Classical.byContradiction
      intro hxy
      obtain ⟨m, hm, rfl⟩ := List.getElem_of_mem hx
      obtain ⟨n, hn, rfl⟩ := List.getElem_of_mem hy
      have hmn : m ≠ n := fun e => by subst e; exact hxy rfl
      rcases Nat.lt_or_gt_of_ne hmn with h | h
      · exact List.pairwise_iff_getElem.1 hS.seqs m n hm hn h hs
      · exact List.pairwise_iff_getElem.1 hS.seqs n m hn hm h hs.symm
    subst hxy
    refine .neg (by rw [bP_f fun k => by have := N1.1 k; omega]; decide) (.neg (by rw [bP_f fun k => by have := N2.1 k; omega]; decide) (.call awake_c (.some rfl)))
  · have fp := frOf_in hok (a := (p : Int)) (by omega) (by omega)
    have fq := frOf_in hok (a := ((q : Int) + 1 - 1)) (by omega) (by omega)
    have sone := set_one fp fq (s := (p : Int)) (by omega)
    refine .call (record_c hS.w (l := []) (by decide) (fun x hx => (by cases hx)) (by omega)) ?_
    have hm : RecR s [] p ((q : Int) + 1) = (if NeedP s p ((q : Int) + 1) then [⟨frOf s p, frOf s ((q : Int) + 1 - 1), [(p : Int)]⟩] else [], 0) := by
      unfold RecR
      rw [if_pos ⟨hok, sets_nil⟩, put_nil]
    rw [hm]
    have hm2 : ∀ m : List RSet, m = (if NeedP s p ((q : Int) + 1) then [⟨frOf s p, frOf s ((q : Int) + 1 - 1), [(p : Int)]⟩] else []) → m.length ≤ 1 ∧ (∀ x ∈ m, x.slots.length ≤ 1) ∧ RecR s m p ((q : Int) + 1) = (m, 0) ∧ ((m.length : Int) = 1 ↔ NeedP s p ((q : Int) + 1)) := fun m hm => by
      unfold RecR
      by_cases hN : NeedP s p ((q : Int) + 1)
      · rw [if_pos hN] at hm
        subst hm
        refine ⟨by simp, fun x hx => by obtain rfl := List.mem_singleton.1 hx; simp, ?_, by simp [hN]⟩
        rw [if_pos ⟨hok, sone⟩, if_pos hN, put_twice]
      · rw [if_neg hN] at hm
        subst hm
        refine ⟨by simp, fun x hx => (by cases hx), ?_, by simp [hN]⟩
        rw [if_pos ⟨hok, sets_nil⟩, if_neg hN]
    generalize hM : (if NeedP s p ((q : Int) + 1) then [⟨frOf s p, frOf s ((q : Int) + 1 - 1), [(p : Int)]⟩] else [] : List RSet) = m
    obtain ⟨k1, k2, k3, k4⟩ := hm2 m hM.symm
    dsimp only
    refine .call (record_c hS.w (by omega) (fun x hx => by have := k2 x hx; omega) (by omega)) ?_
    rw [k3]
    dsimp only
    have hne2 : (bP (NeedP s p ((q : Int) + 1)) != bP (NeedP s q ((p : Int) + 1))) = true := by
      by_cases hN : NeedP s p ((q : Int) + 1)
      · have := N1.1 hN
        rw [bP_t hN, bP_f fun k => by have := N2.1 k; omega]; rfl
      · have : NeedP s q ((p : Int) + 1) := N2.2 (by
          have : ¬ _ := fun k => hN (N1.2 k)
          omega)
        rw [bP_f hN, bP_t this]; rfl
    refine .pos hne2 ?_
    have hB : F_ref15_Before y.i x.i = some (bP (NeedP s p ((q : Int) + 1))) := by
      unfold F_ref15_Before F_ref15_Stamp
      simp only [Option.bind_some]
      rw [w64_in (n := y.i.belt * 4294967296) (by omega), w64_in (n := x.i.belt * 4294967296) (by omega), w64_in (n := y.i.belt * 4294967296 + y.i.seq) (by omega), w64_in (n := x.i.belt * 4294967296 + x.i.seq) (by omega)]
      exact some_b (by rw [decide_eq_true_iff]; exact N1.symm)
    refine .call hB (.pos (by simp) (.pos rfl (.pos rfl (.call (same_c m (by omega) fun x hx => by have := k2 x hx; omega) (.pos rfl (.some ?_))))))
    by_cases hN : NeedP s p ((q : Int) + 1)
    · rw [bP_t hN, decide_eq_true (k4.2 hN)]; rfl
    · rw [bP_f hN, decide_eq_false fun k => hN (k4.1 k)]; rfl
end Go.Proofs.Ythpnlnjdmlbnaaa
/- What came in, read as data; a contract as a call of the statement's kind. No condition. -/
namespace Go.Proofs.Ythpnlnjdmlbnaaa
open Go.RowKit Go.ChangeShapes Go.WideShapes Go.Deep
set_option linter.unusedVariables false
set_option linter.unusedSimpArgs false

abbrev mem0 (w : World) : Mem := ⟨w, fun _ => False, fun _ => none⟩
theorem mem0_no (w : World) (k : Nat) : ¬ (mem0 w).no k := fun h => by
  rcases h with h | ⟨s, e, h, _⟩
  · exact h
  · cases h
theorem Reps.nil' {m : Mem} : Reps m [] [] := ⟨rfl, fun i v d h => by simp at h⟩
theorem Reps.cons' {m : Mem} {v : Value} {d : DV} {vs : List Value} {ds : List DV} (h : Rep m v d) (hs : Reps m vs ds) : Reps m (v :: vs) (d :: ds) := ⟨by rw [List.length_cons, List.length_cons, hs.1], fun i u e hu he => by
  cases i with
  | zero =>
    simp only [List.getElem?_cons_zero, Option.some.injEq] at hu he
    subst hu
    subst he
    exact h
  | succ i => exact hs.2 i u e (by simpa using hu) (by simpa using he)⟩
/-- a contract, as a call -/
theorem DCall.walk {P : Program} {f : FuncId} {ds : List DV} (h : DCall P f ds [] (DB true) []) {w : World} {vs : List Value} (hr : Reps (mem0 w) vs ds) : Calls P f vs.toArray w fun e w' => e = .returned (.bool true) ∧ Below w.heap.size w w' := by
  have hx : ∀ k, ¬ Xof (fun _ => none) k := fun k ⟨s, e, h, _⟩ => by cases h
  have hI : Inv ⟨w, Xof (fun _ => none), Yof (fun _ => none)⟩ (mem0 w) := ⟨rfl, rfl, rfl, Nat.le_refl _, fun _ _ _ => rfl, fun s s' e e' g h => (by cases h), fun s e g h => (by cases h), fun k h => False.elim h, fun s e g c h => (by cases h)⟩
  refine Calls.mono (h.2 w (fun _ => False) (fun _ => none) vs hI (fun s ob h => by cases h) (fun _ _ => rfl) hr) fun e w' ⟨v, σ', he, q1, q2, q3, q4, q5⟩ => ?_
  subst he
  rw [q3.lit_inv]
  exact ⟨rfl, q1.os, q1.tape, q1.output, q1.size, fun k hk => q1.old k hk (hx k)⟩

/-- cells that read as plain data -/
def CRd (w : World) (cs : List Value) (ds : List DV) : Prop := cs.length = ds.length ∧ ∀ (i : Nat) v d, cs[i]? = some v → ds[i]? = some d → PRep w (mem0 w).no v d
theorem CRd.one {w : World} {v : Value} {d : DV} (h : PRep w (mem0 w).no v d) : CRd w [v] [d] := ⟨rfl, fun i u e hu he => by
  cases i with
  | zero =>
    simp only [List.getElem?_cons_zero, Option.some.injEq] at hu he
    subst hu
    subst he
    exact h
  | succ i => simp at hu⟩
theorem CRd.get {w : World} {v : Value} {d : DV} (h : CRd w [v] [d]) : PRep w (mem0 w).no v d := h.2 0 v d rfl rfl
theorem CRd.append {w : World} {cs cs' : List Value} {ds ds' : List DV} (h : CRd w cs ds) (h' : CRd w cs' ds') : CRd w (cs ++ cs') (ds ++ ds') := by
  refine ⟨by rw [List.length_append, List.length_append, h.1, h'.1], fun i v d hv hd => ?_⟩
  by_cases hi : i < cs.length
  · rw [List.getElem?_append_left hi] at hv
    rw [List.getElem?_append_left (by rw [← h.1]; exact hi)] at hd
    exact h.2 i v d hv hd
  · rw [List.getElem?_append_right (by omega)] at hv
    rw [List.getElem?_append_right (by rw [← h.1]; omega), ← h.1] at hd
    exact h'.2 _ v d hv hd

section
variable {P : Program}
/-- cells of a type read as data of a kind -/
def OpD {α : Type} (P : Program) (t : TypeId) (c : α → List DV) (ok : α → Prop) : Prop :=
  ∀ (H : Type) (enc : TypeId × Value → H) (w : World) (base : Nat) (spare : Nat → Bool) (held : Bool) (fuel : Nat) (cs : List Value) (x : DataW H × List MemPlace),
    DataW.trod enc P w base spare held fuel t cs = some x → ∃ a, CRd w cs (c a) ∧ ok a
theorem OpD.i64 {t : TypeId} (ht : P.underlying t = some (.int .i64)) : OpD P t iC I64 := by
  intro H enc w base spare held fuel cs x h
  obtain ⟨n, rfl, _, hn⟩ := DataW.trod_int ht h
  refine ⟨n, CRd.one (.lit _ rfl), ?_⟩
  simp [Lit.wf, IntKind.min, IntKind.max, IntKind.bits, IntKind.signed] at hn
  unfold I64
  omega
theorem OpD.u64 {t : TypeId} (ht : P.underlying t = some (.int .u64)) : OpD P t uC U64 := by
  intro H enc w base spare held fuel cs x h
  obtain ⟨n, rfl, _, hn⟩ := DataW.trod_int ht h
  refine ⟨n, CRd.one (.lit _ rfl), ?_⟩
  simp [Lit.wf, IntKind.min, IntKind.max, IntKind.bits, IntKind.signed] at hn
  unfold U64
  omega
theorem OpD.bool {t : TypeId} (ht : P.underlying t = some .bool) : OpD P t bC fun _ => True := by
  intro H enc w base spare held fuel cs x h
  obtain ⟨n, rfl, _⟩ := DataW.trod_bool ht h
  exact ⟨n, CRd.one (.lit _ rfl), trivial⟩
theorem choose_listD {α : Type} {n : Nat} {p : Nat → α → Prop} (h : ∀ i, i < n → ∃ a, p i a) : ∃ l : List α, l.length = n ∧ ∀ i (hi : i < l.length), p i l[i] := by
  induction n with
  | zero => exact ⟨[], rfl, fun i hi => absurd hi (Nat.not_lt_zero _)⟩
  | succ n ih =>
    obtain ⟨l, hl, hp⟩ := ih fun i hi => h i (by omega)
    obtain ⟨a, ha⟩ := h n (by omega)
    refine ⟨l ++ [a], by simp [hl], fun i hi => ?_⟩
    by_cases hlt : i < l.length
    · rw [List.getElem_append_left hlt]; exact hp i hlt
    · have : i = n := by simp at hi; omega
      subst this
      rw [List.getElem_append_right (by omega)]
      simpa using ha
theorem OpD.slice {α : Type} {c : α → List DV} {ok : α → Prop} {t e sz : Nat} (ht : P.underlying t = some (.slice e)) (hc : P.cellsOf e = sz) (hp : 0 < sz) (hz : ∀ a, (c a).length = sz) (h : OpD P e c ok) : OpD P t (lC c) fun xs => (∀ x ∈ xs, ok x) ∧ xs.length ≤ 9223372036854775807 := by
  intro H enc w base spare held fuel cs x hx
  rcases open_slice ht hx with ⟨rfl, _⟩ | ⟨a, len, cap, m, n, D, Pl, rfl, hb, hl, hm, hmm, _, hel⟩
  · exact ⟨[], CRd.one (.nil none 0 (Nat.zero_le _)), (fun x hx => by cases hx), by simp⟩
  · have hlm : len ≤ m := by rw [hmm]; split <;> omega
    obtain ⟨l, hll, hlp⟩ := choose_listD (n := len) (p := fun i y => ok y ∧ ∃ cs', CRd w cs' (c y) ∧ ∀ j, j < sz → w.cell? (a.add (i * sz + j)) = cs'[j]?) fun i hi => by
      obtain ⟨cs', h1, h2⟩ := hel i (by omega)
      obtain ⟨y, hy, hok⟩ := h H enc w base spare held n cs' _ h2
      rw [hc] at h1
      obtain ⟨_, hlen, hcell⟩ := World.cells?_some h1
      refine ⟨y, hok, cs', hy, fun j hj => ?_⟩
      have := hcell j (by omega)
      rw [add_add] at this
      rw [this]
    refine ⟨l, CRd.one ?_, fun x hx => ?_, by unfold maxLen at hm; omega⟩
    · by_cases h0 : len = 0
      · have : l = [] := List.length_eq_zero_iff.1 (by omega)
        subst this
        subst h0
        exact .nil _ _ hm
      · obtain ⟨b, off, spot⟩ := a
        obtain ⟨_, cs0, hr0, hcl0⟩ := hlp 0 (by omega)
        have hl0 : cs0.length = sz := by rw [hr0.1, hz]
        have h00 := hcl0 0 hp
        rw [List.getElem?_eq_getElem (by omega)] at h00
        have hspot : spot = none := by
          have := World.cell?_spot h00
          simpa [Addr.add] using this
        subst hspot
        have hadd : ∀ k, (⟨b, off, none⟩ : Addr).add k = ⟨b, off + k, none⟩ := fun k => add_lit
        rw [hadd] at h00
        have hbl := World.block_lt_of_cell? w (a := _) (u := _) h00
        have hf : ∀ i, ∃ g : Nat → Value, i < l.length → ∀ j d, ((l.map c)[i]?).bind (·[j]?) = some d → w.cell? ⟨b, off + i * sz + j, none⟩ = some (g j) ∧ PRep w (mem0 w).no (g j) d := fun i => by
          by_cases hi : i < l.length
          · obtain ⟨_, cs', hr, hcl⟩ := hlp i hi
            refine ⟨fun j => cs'.getD j undef, fun _ j d hd => ?_⟩
            rw [List.getElem?_map, List.getElem?_eq_getElem hi] at hd
            simp only [Option.map_some, Option.bind_some] at hd
            have hj : j < sz := by
              rw [← hz l[i]]
              rcases Nat.lt_or_ge j (c l[i]).length with h' | h'
              · exact h'
              · rw [List.getElem?_eq_none h'] at hd; cases hd
            have hl2 : cs'.length = sz := by rw [hr.1, hz]
            have hc2 := hcl j hj
            rw [List.getElem?_eq_getElem (by omega), hadd] at hc2
            have hgd : cs'.getD j undef = cs'[j]'(by omega) := by simp [List.getD, show j < cs'.length by omega]
            dsimp only
            rw [hgd, Nat.add_assoc]
            exact ⟨hc2, hr.2 j _ d (List.getElem?_eq_getElem (by omega)) hd⟩
          · exact ⟨fun _ => undef, fun h => absurd h hi⟩
        have key := Classical.axiomOfChoice hf
        obtain ⟨g, hg⟩ := key
        have hlt : ∀ (i : Nat) (x : List DV), (l.map c)[i]? = some x → i < l.length := fun i x hx => by
          rcases Nat.lt_or_ge i l.length with h' | h'
          · exact h'
          · rw [List.getElem?_eq_none (by simpa using h')] at hx; cases hx
        have := PRep.sl (w := w) (no := (mem0 w).no) b off cap sz (l.map c) g hp (by rw [List.length_map]; omega) (by rw [List.length_map]; omega) hm (mem0_no w b) hbl (fun i x hx => by
          have hi := hlt i x hx
          rw [List.getElem?_map, List.getElem?_eq_getElem hi] at hx
          simp only [Option.map_some, Option.some.injEq] at hx
          rw [← hx, hz]) (fun i x j d hx hd => (hg i (hlt i x hx) j d (by rw [hx]; exact hd)).1) (fun i x j d hx hd => (hg i (hlt i x hx) j d (by rw [hx]; exact hd)).2)
        rw [List.length_map, hll] at this
        exact this
    · obtain ⟨i, hi, rfl⟩ := List.getElem_of_mem hx
      exact (hlp i hi).1
/-- the fields of a struct -/
inductive FOpD (P : Program) : {α : Type} → List Field → Nat → (α → List DV) → Nat → (α → Prop) → Prop
  | nil {off : Nat} : FOpD P [] off (fun _ : Unit => []) 0 fun _ => True
  | cons {α β : Type} {f : Field} {fs : List Field} {off z z' : Nat} {c : α → List DV} {c' : β → List DV} {ok : α → Prop} {okF : β → Prop} (ho : f.offset = off) (hc : P.cellsOf f.type = z) (h : OpD P f.type c ok) (hs : FOpD P fs (off + z) c' z' okF) :
      FOpD P (f :: fs) off (fun p : α × β => c p.1 ++ c' p.2) (z + z') fun p => ok p.1 ∧ okF p.2
theorem fields_openD {α : Type} {fs : List Field} {off z : Nat} {c : α → List DV} {ok : α → Prop} (hf : FOpD P fs off c z ok) :
    ∀ (H : Type) (enc : TypeId × Value → H) (w : World) (base : Nat) (spare : Nat → Bool) (held : Bool) (n : Nat) (cs : List Value), cs.length = off + z →
      (∀ (i : Nat) (f : Field), fs[i]? = some f → ∃ y, DataW.trod enc P w base spare held n f.type ((cs.drop f.offset).take (P.cellsOf f.type)) = some y) → ∃ a, CRd w (cs.drop off) (c a) ∧ ok a := by
  induction hf with
  | nil =>
    intro H enc w base spare held n cs hl _
    rw [List.drop_eq_nil_of_le (by omega)]
    exact ⟨(), ⟨rfl, fun i v d h => by simp at h⟩, trivial⟩
  | @cons α β f fs off z z' c c' ok okF ho hc h hs ih =>
    intro H enc w base spare held n cs hl hfs
    obtain ⟨y, hy⟩ := hfs 0 f rfl
    obtain ⟨a, ha, hoka⟩ := h H enc w base spare held n _ _ hy
    obtain ⟨b, hb, hokb⟩ := ih H enc w base spare held n cs (by omega) fun i g hg => hfs (i + 1) g (by simpa using hg)
    rw [ho, hc] at ha
    refine ⟨(a, b), ?_, hoka, hokb⟩
    have := ha.append hb
    rw [← List.drop_drop, List.take_append_drop] at this
    exact this
theorem OpD.struct {α : Type} {c : α → List DV} {ok : α → Prop} {t z : Nat} {fs : Array Field} (ht : P.underlying t = some (.struct fs)) (hc : P.cellsOf t = z) (hf : FOpD P fs.toList 0 c z ok) : OpD P t c ok := by
  intro H enc w base spare held fuel cs x h
  obtain ⟨xs, n, _, _, hcl, hxl, hfs⟩ := DataW.trod_struct ht h
  obtain ⟨a, ha, hok⟩ := fields_openD hf H enc w base spare held n cs (by rw [hcl, hc]; omega) fun i f hi => by
    have hi' : fs[i]? = some f := by simpa using hi
    have := hfs i f hi'
    have hlt : i < xs.length := by
      rw [hxl]
      exact (Array.getElem?_eq_some_iff.1 hi').1
    exact ⟨xs[i], by rw [this, List.getElem?_eq_getElem hlt]⟩
  exact ⟨a, by simpa using ha, hok⟩
theorem OpD.map {α β : Type} {c : α → List DV} {c' : β → List DV} {ok : α → Prop} {ok' : β → Prop} {t : TypeId} (h : OpD P t c ok) (g : α → β) (hg : ∀ a, c' (g a) = c a) (hok : ∀ a, ok a → ok' (g a)) : OpD P t c' ok' := by
  intro H enc w base spare held fuel cs x hx
  obtain ⟨a, ha, hk⟩ := h H enc w base spare held fuel cs x hx
  exact ⟨g a, by rw [hg]; exact ha, hok a hk⟩
/-- an argument that is one cell -/
theorem OpD.arg {α : Type} {t : TypeId} {c : α → List DV} {ok : α → Prop} (h : OpD P t c ok) {H : Type} {enc : TypeId × Value → H} {w : World} {base : Nat} {spare : Nat → Bool} {held : Bool} {v : Value} {d : DataW H} {ps : List MemPlace}
    (hd : DataW.Trod enc P w base spare held t v d ps) : ∃ a, CRd w v.cells.toList (c a) ∧ ok a := by
  obtain ⟨fuel, hf⟩ := hd
  exact h H enc w base spare held fuel _ _ hf
end
theorem CRd.agg {w : World} {cs : Array Value} {ds : List DV} (h : CRd w (Value.agg cs).cells.toList ds) : Rep (mem0 w) (.agg cs) (.agg ds) := by
  have := Rep.agg (m := mem0 w) (vs := cs.toList) (xs := ds) h.1 fun i v d hv hd => .pure (h.2 i v d hv hd)
  simpa using this
theorem CRd.slc {w : World} {a : Option Addr} {l c : Nat} {d : DV} (h : CRd w (Value.slice a l c).cells.toList [d]) : Rep (mem0 w) (.slice a l c) d := .pure (CRd.get (by simpa [Value.cells] using h))
end Go.Proofs.Ythpnlnjdmlbnaaa
/- The kinds of arguments of the laws, as data. No condition. -/
namespace Go.Proofs.Ythpnlnjdmlbnaaa
open Go.RowKit Go.ChangeShapes Go.WideShapes Go.Deep
set_option linter.unusedVariables false

theorem i64_of {a : Int} (h : (Lit.int .i64 a).wf = true) : I64 a := by
  simp [Lit.wf, IntKind.min, IntKind.max, IntKind.bits, IntKind.signed] at h
  unfold I64
  omega
theorem u64_of {a : Int} (h : (Lit.int .u64 a).wf = true) : U64 a := by
  simp [Lit.wf, IntKind.min, IntKind.max, IntKind.bits, IntKind.signed] at h
  unfold U64
  omega
theorem op_int : OpD Try.prog 3 iC I64 := OpD.i64 Try.underlying3
theorem op_ints : OpD Try.prog 27 (lC iC) fun xs => (∀ x ∈ xs, I64 x) ∧ xs.length ≤ 9223372036854775807 := OpD.slice (sz := 1) Try.underlying27 (by kernel_rfl) (by decide) (fun _ => rfl) op_int
theorem op_words : OpD Try.prog 22 (lC uC) fun xs => (∀ x ∈ xs, U64 x) ∧ xs.length ≤ 9223372036854775807 := OpD.slice (sz := 1) Try.underlying22 (by kernel_rfl) (by decide) (fun _ => rfl) (OpD.u64 Try.underlying28)
theorem op_frame : OpD Try.prog 61 frC fun f => I64 f.ow ∧ I64 f.st ∧ I64 f.nx :=
  (OpD.struct Try.underlying61 (by kernel_rfl) (.cons (z := 1) rfl (by kernel_rfl) op_int (.cons (z := 1) rfl (by kernel_rfl) op_int (.cons (z := 1) rfl (by kernel_rfl) op_int .nil)))).map (fun p => ⟨p.1, p.2.1, p.2.2.1⟩) (fun _ => rfl) fun _ h => ⟨h.1, h.2.1, h.2.2.1⟩
theorem op_frames : OpD Try.prog 23 (lC frC) fun xs => (∀ f ∈ xs, I64 f.ow ∧ I64 f.st ∧ I64 f.nx) ∧ xs.length ≤ 9223372036854775807 := OpD.slice (sz := 3) Try.underlying23 (by kernel_rfl) (by decide) (fun _ => rfl) op_frame
theorem op_space : OpD Try.prog 25 spC SpW :=
  (OpD.struct Try.underlying25 (by kernel_rfl) (.cons (z := 1) rfl (by kernel_rfl) op_int (.cons (z := 1) rfl (by kernel_rfl) op_words (.cons (z := 1) rfl (by kernel_rfl) op_frames .nil)))).map (fun p => ⟨p.1, p.2.1, p.2.2.1⟩) (fun _ => rfl) fun _ h => ⟨h.2.1.1, h.2.2.1.1⟩
end Go.Proofs.Ythpnlnjdmlbnaaa
