/- What came in, read as lists, with bounds on how long they are: sets. No condition. -/
import Derived.Test.YtchdmemgkegefaaOpen
import Derived.Test.YtchdmemgkegefaaSet
import Derived.SizedLaws
namespace Go.Proofs.Ytchdmemgkegefaa
open Go.RowKit Go.ChangeShapes Go.WideShapes Go.Deep

section
variable {P : Program}
/-- as Opens, of what no memory is too small for -/
def OpensW {α : Type} (P : Program) (t : TypeId) (E : El α) (ok : α → Prop) : Prop :=
  ∀ (H : Type) (enc : TypeId × Value → H) (w : World) (base : Nat) (spare : Nat → Bool) (held : Bool) (fuel : Nat) (cs : List Value) (x : DataW H × List MemPlace),
    DataW.trod enc P w base spare held fuel t cs = some x → (∀ n ∈ x.1.weights P t, n ≤ reachBytes) → ∃ a, E.rel w a cs ∧ ok a
theorem Opens.toW {α : Type} {t : TypeId} {E : El α} {ok : α → Prop} (h : Opens P t E ok) : OpensW P t E ok := fun H enc w base spare held fuel cs x hx _ => h H enc w base spare held fuel cs x hx
theorem weightsAll_in {H : Type} {e : TypeId} : ∀ {l : List (DataW H)} {d : DataW H}, d ∈ l → ∀ n ∈ d.weights P e, n ∈ DataW.weightsAll P e l
  | d' :: r, d, hd, n, hn => by
    simp only [DataW.weightsAll, List.mem_append]
    rcases List.mem_cons.1 hd with rfl | h
    · exact Or.inl hn
    · exact Or.inr (weightsAll_in h n hn)
theorem OpensW.slice {α : Type} {E : El α} {ok : α → Prop} {t e : TypeId} (ht : P.underlying t = some (.slice e)) (hc : P.cellsOf e = E.sz) (hp : 0 < E.sz) (h : OpensW P e E ok) : OpensW P t (sliceE E) fun xs => (∀ x ∈ xs, ok x) ∧ xs.length * P.bytesOf e ≤ reachBytes := by
  intro H enc w base spare held fuel cs x hx hw
  rcases open_slice ht hx with ⟨rfl, _⟩ | ⟨a, len, cap, m, n, D, Pl, rfl, hb, hl, hm, hmm, hxx, hel⟩
  · exact ⟨[], ⟨_, rfl, Rd.nil _ _⟩, by simp, by simp⟩
  · have hlm : len ≤ m := by rw [hmm]; split <;> omega
    subst hxx
    simp only [DataW.weights, ht, List.mem_cons, List.mem_append] at hw
    obtain ⟨l, hll, hlp⟩ := choose_list (n := len) (p := fun i y => ok y ∧ ∃ cs', E.rel w y cs' ∧ ∀ j, j < E.sz → w.cell? (a.add (i * E.sz + j)) = cs'[j]?) fun i hi => by
      obtain ⟨cs', h1, h2⟩ := hel i (by omega)
      obtain ⟨y, hy, hok⟩ := h H enc w base spare held n cs' _ h2 (fun q hq => hw q (.inr (.inl (weightsAll_in (List.mem_map.2 ⟨i, List.mem_range.2 hi, rfl⟩) q hq))))
      rw [hc] at h1
      obtain ⟨_, hlen, hcell⟩ := World.cells?_some h1
      refine ⟨y, hok, cs', hy, fun j hj => ?_⟩
      have := hcell j (by omega)
      rw [add_add] at this
      rw [this]
    have hok : ∀ x ∈ l, ok x := fun x hx => by
      obtain ⟨i, hi, rfl⟩ := List.getElem_of_mem hx
      exact (hlp i hi).1
    have hsz : l.length * P.bytesOf e ≤ reachBytes := by
      have := hw _ (.inl rfl)
      simp only [List.length_map, List.length_range] at this
      refine Nat.le_trans (Nat.mul_le_mul_right _ ?_) this
      omega
    refine ⟨l, ⟨_, rfl, some a, cap, by rw [hll], by omega, hm, ?_⟩, hok, hsz⟩
    by_cases h0 : len = 0
    · exact .inl (List.length_eq_zero_iff.1 (by omega))
    · obtain ⟨b, off, spot⟩ := a
      obtain ⟨_, cs', hr, hcl⟩ := hlp 0 (by omega)
      have hl2 := E.len _ _ _ hr
      have h00 := hcl 0 hp
      have hspot : spot = none := by
        rw [List.getElem?_eq_getElem (by omega)] at h00
        have := World.cell?_spot h00
        simpa [Addr.add] using this
      subst hspot
      refine .inr ⟨b, off, rfl, fun i hi => ?_⟩
      obtain ⟨_, cs', hr, hcl⟩ := hlp i hi
      refine ⟨cs', hr, fun j hj => ?_⟩
      rw [← hcl j hj]
      have hadd : ∀ k, (⟨b, off, none⟩ : Addr).add k = ⟨b, off + k, none⟩ := fun k => by unfold Addr.add; split <;> simp_all
      rw [hadd, Nat.add_assoc]

inductive FieldsOpenW (P : Program) : {α : Type} → List Field → Nat → El α → (α → Prop) → Prop
  | nil {off : Nat} : FieldsOpenW P [] off unitE fun _ => True
  | cons {α β : Type} {f : Field} {fs : List Field} {off : Nat} {E : El α} {F : El β} {ok : α → Prop} {okF : β → Prop} (ho : f.offset = off) (hc : P.cellsOf f.type = E.sz) (h : OpensW P f.type E ok) (hs : FieldsOpenW P fs (off + E.sz) F okF) :
      FieldsOpenW P (f :: fs) off (pairE E F) fun p => ok p.1 ∧ okF p.2

theorem fields_openW {α : Type} {fs : List Field} {off : Nat} {E : El α} {ok : α → Prop} (hf : FieldsOpenW P fs off E ok) :
    ∀ (H : Type) (enc : TypeId × Value → H) (w : World) (base : Nat) (spare : Nat → Bool) (held : Bool) (n : Nat) (cs : List Value), cs.length = off + E.sz →
      (∀ (i : Nat) (f : Field), fs[i]? = some f → ∃ y, DataW.trod enc P w base spare held n f.type ((cs.drop f.offset).take (P.cellsOf f.type)) = some y ∧ ∀ q ∈ y.1.weights P f.type, q ≤ reachBytes) → ∃ a, E.rel w a (cs.drop off) ∧ ok a := by
  induction hf with
  | nil =>
    intro H enc w base spare held n cs hl _
    exact ⟨(), List.drop_eq_nil_of_le (by simp [unitE] at hl; omega), trivial⟩
  | @cons α β f fs off E F ok okF ho hc h hs ih =>
    intro H enc w base spare held n cs hl hfs
    have hl' : cs.length = off + E.sz + F.sz := by rw [hl]; simp [pairE]; omega
    obtain ⟨y, hy, hwy⟩ := hfs 0 f rfl
    obtain ⟨a, ha, hoka⟩ := h H enc w base spare held n _ _ hy hwy
    obtain ⟨b, hb, hokb⟩ := ih H enc w base spare held n cs hl' fun i g hg => hfs (i + 1) g (by simpa using hg)
    rw [ho, hc] at ha
    refine ⟨(a, b), ⟨ha, by rw [List.drop_drop]; exact hb, by rw [List.length_drop]; simp [pairE] at hl ⊢; omega⟩, hoka, hokb⟩
theorem OpensW.struct {α : Type} {E : El α} {ok : α → Prop} {t : TypeId} {fs : Array Field} (ht : P.underlying t = some (.struct fs)) (hc : P.cellsOf t = E.sz) (hf : FieldsOpenW P fs.toList 0 E ok) : OpensW P t E ok := by
  intro H enc w base spare held fuel cs x h hw
  obtain ⟨xs, n, _, hx, hcl, hxl, hfs⟩ := DataW.trod_struct ht h
  subst hx
  simp only [DataW.weights, ht] at hw
  obtain ⟨a, ha, hok⟩ := fields_openW hf H enc w base spare held n cs (by rw [hcl, hc]; omega) fun i f hi => by
    have hi' : fs[i]? = some f := by simpa using hi
    have := hfs i f hi'
    have hlt : i < xs.length := by
      rw [hxl]
      exact (Array.getElem?_eq_some_iff.1 hi').1
    refine ⟨xs[i], by rw [this, List.getElem?_eq_getElem hlt], fun q hq => hw q (DataW.weights_mem_each (j := i) (t := f.type) (d := xs[i].1) ?_ ?_ q hq)⟩
    · rw [List.getElem?_map, hi]; rfl
    · rw [List.getElem?_map, List.getElem?_eq_getElem hlt]; rfl
  exact ⟨a, by simpa using ha, hok⟩
end

theorem bytes_int : Try.prog.bytesOf 3 = 8 := by kernel_rfl
theorem opens_set : ∃ ok, OpensW Try.prog 77 (pairE (numE .i64) (pairE (numE .i64) (pairE (sliceE (numE .i64)) unitE))) ok ∧ ∀ p, ok p → (Lit.int .i64 p.1).wf = true ∧ (Lit.int .i64 p.2.1).wf = true ∧ p.2.2.1.length * 8 ≤ reachBytes :=
  ⟨_, OpensW.struct Try.underlying77 (by kernel_rfl) (.cons rfl (by kernel_rfl) (Opens.int Try.underlying3).toW (.cons rfl (by kernel_rfl) (Opens.int Try.underlying3).toW (.cons rfl (by kernel_rfl) (OpensW.slice Try.underlying25 (by kernel_rfl) (by decide) (Opens.int Try.underlying3).toW) .nil))), fun p h => ⟨h.1, h.2.1, by
    have h2 := h.2.2.1.2
    rw [bytes_int] at h2
    exact h2⟩⟩
theorem rd_sets {H : Type} {enc : TypeId × Value → H} {w : World} {base : Nat} {spare : Nat → Bool} {held : Bool} {v : Value} {d : DataW H} {ps : List MemPlace}
    (hd : DataW.Trod enc Try.prog w base spare held 41 v d ps) (hw : ∀ n ∈ d.weights Try.prog 41, n ≤ reachBytes) (hv : v.cells = #[v]) : ∃ xs : List St, Rd setE w v xs ∧ ∀ x ∈ xs, (Lit.int .i64 x.fr).wf = true ∧ (Lit.int .i64 x.to).wf = true ∧ x.slots.length * 8 ≤ reachBytes := by
  obtain ⟨ok, ho, hp⟩ := opens_set
  have hsl := OpensW.slice (P := Try.prog) Try.underlying41 (by kernel_rfl) (by decide) ho
  obtain ⟨fuel, hf⟩ := hd
  obtain ⟨xs, hr, hok⟩ := hsl H enc w base spare held fuel _ _ hf hw
  obtain ⟨v', e, hrd⟩ := hr
  rw [hv] at e
  simp only [List.cons.injEq, and_true] at e
  subst e
  refine ⟨xs.map fun p => ⟨p.1, p.2.1, p.2.2.1⟩, hrd.map _ rfl ?_, fun x hx => ?_⟩
  · rintro ⟨p1, p2, p3, _⟩ cs ⟨g1, ⟨g2, ⟨g3, _, _⟩, _⟩, hl⟩
    match cs, hl with
    | [c0, c1, c2], _ =>
      obtain ⟨u, g3, hru⟩ := g3
      simp [numE, flat, sliceE] at g1 g2 g3
      subst g1 g2 g3
      exact ⟨_, rfl, hru⟩
  · obtain ⟨p, hp2, rfl⟩ := List.mem_map.1 hx
    exact hp p (hok.1 p hp2)
end Go.Proofs.Ytchdmemgkegefaa
