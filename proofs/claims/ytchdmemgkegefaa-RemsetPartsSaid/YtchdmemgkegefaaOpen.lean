/- What came in as a slice, a struct or a number, read as a list, a tuple or a number. No condition. -/
import Derived.Test.YtchdmemgkegefaaBase
import Derived.ChangeSlices
import Derived.Deep.Slices
namespace Go.Proofs.Ytchdmemgkegefaa
open Go.RowKit Go.ChangeShapes Go.WideShapes Go.Deep

/-- a slice as an element -/
def sliceE {α : Type} (E : El α) : El (List α) :=
  ⟨1, fun w xs cs => ∃ v, cs = [v] ∧ Rd E w v xs, fun _ _ _ ⟨_, h, _⟩ => by rw [h]; rfl, fun _ _ _ _ ⟨v, h, r⟩ k => ⟨v, h, r.keep k⟩⟩
def pairE {α β : Type} (E : El α) (F : El β) : El (α × β) :=
  ⟨E.sz + F.sz, fun w p cs => E.rel w p.1 (cs.take E.sz) ∧ F.rel w p.2 (cs.drop E.sz) ∧ cs.length = E.sz + F.sz, fun _ _ _ h => h.2.2, fun _ _ _ _ h k => ⟨E.keep _ _ _ _ h.1 k, F.keep _ _ _ _ h.2.1 k, h.2.2⟩⟩
def unitE : El Unit := ⟨0, fun _ _ cs => cs = [], fun _ _ _ h => by rw [h]; rfl, fun _ _ _ _ h _ => h⟩
def numE (k : IntKind) : El Int := flat 1 (fun x => [.int k x]) fun _ => rfl
def boolsE : El Bool := flat 1 (fun x => [.bool x]) fun _ => rfl
def strE : El ByteArray := flat 1 (fun x => [.string x]) fun _ => rfl

/-- the same slice as elements of another kind -/
theorem Rd.map {α β : Type} {E : El α} {F : El β} {w : World} {v : Value} {xs : List α} (g : α → β) (hs : E.sz = F.sz) (hg : ∀ a cs, E.rel w a cs → F.rel w (g a) cs) (h : Rd E w v xs) : Rd F w v (xs.map g) := by
  obtain ⟨a, cap, h1, h2, h3, h4⟩ := h
  refine ⟨a, cap, by rw [List.length_map]; exact h1, by rw [List.length_map]; exact h2, h3, ?_⟩
  rcases h4 with rfl | ⟨b, off, h5, h6⟩
  · exact .inl rfl
  · refine .inr ⟨b, off, h5, fun i hi => ?_⟩
    rw [List.length_map] at hi
    obtain ⟨cs, r, c⟩ := h6 i hi
    refine ⟨cs, by rw [List.getElem_map]; exact hg _ _ r, fun j hj => ?_⟩
    rw [← hs]
    exact c j (by omega)

section
variable {P : Program}

def Opens {α : Type} (P : Program) (t : TypeId) (E : El α) (ok : α → Prop) : Prop :=
  ∀ (H : Type) (enc : TypeId × Value → H) (w : World) (base : Nat) (spare : Nat → Bool) (held : Bool) (fuel : Nat) (cs : List Value) (x : DataW H × List MemPlace),
    DataW.trod enc P w base spare held fuel t cs = some x → ∃ a, E.rel w a cs ∧ ok a

theorem Opens.int {t : TypeId} {k : IntKind} (ht : P.underlying t = some (.int k)) : Opens P t (numE k) fun z => (Lit.int k z).wf = true := by
  intro H enc w base spare held fuel cs x h
  obtain ⟨n, rfl, _, hn⟩ := DataW.trod_int ht h
  exact ⟨n, rfl, hn⟩
theorem Opens.bool {t : TypeId} (ht : P.underlying t = some .bool) : Opens P t boolsE fun _ => True := by
  intro H enc w base spare held fuel cs x h
  obtain ⟨n, rfl, _⟩ := DataW.trod_bool ht h
  exact ⟨n, rfl, trivial⟩
theorem Opens.string {t : TypeId} (ht : P.underlying t = some .string) : Opens P t strE fun s => s.size ≤ maxLen := by
  intro H enc w base spare held fuel cs x h
  obtain ⟨n, rfl, _, hn⟩ := DataW.trod_string ht h
  exact ⟨n, rfl, hn⟩

theorem choose_list {α : Type} {n : Nat} {p : Nat → α → Prop} (h : ∀ i, i < n → ∃ a, p i a) : ∃ l : List α, l.length = n ∧ ∀ i (hi : i < l.length), p i l[i] := by
  induction n with
  | zero => exact ⟨[], rfl, fun i hi => absurd hi (Nat.not_lt_zero _)⟩
  | succ n ih =>
    obtain ⟨l, hl, hp⟩ := ih fun i hi => h i (by omega)
    obtain ⟨a, ha⟩ := h n (by omega)
    refine ⟨l ++ [a], by simp [hl], fun i hi => ?_⟩
    by_cases hlt : i < l.length
    · rw [List.getElem_append_left hlt]; exact hp i hlt
    · have : i = n := by simp at hi; omega
      subst this
      rw [List.getElem_append_right (by omega)]
      simpa using ha

theorem Opens.slice {α : Type} {E : El α} {ok : α → Prop} {t e : TypeId} (ht : P.underlying t = some (.slice e)) (hc : P.cellsOf e = E.sz) (hp : 0 < E.sz) (h : Opens P e E ok) : Opens P t (sliceE E) fun xs => ∀ x ∈ xs, ok x := by
  intro H enc w base spare held fuel cs x hx
  rcases open_slice ht hx with ⟨rfl, _⟩ | ⟨a, len, cap, m, n, D, Pl, rfl, hb, hl, hm, hmm, _, hel⟩
  · exact ⟨[], ⟨_, rfl, Rd.nil _ _⟩, by simp⟩
  · have hlm : len ≤ m := by rw [hmm]; split <;> omega
    obtain ⟨l, hll, hlp⟩ := choose_list (n := len) (p := fun i y => ok y ∧ ∃ cs', E.rel w y cs' ∧ ∀ j, j < E.sz → w.cell? (a.add (i * E.sz + j)) = cs'[j]?) fun i hi => by
      obtain ⟨cs', h1, h2⟩ := hel i (by omega)
      obtain ⟨y, hy, hok⟩ := h H enc w base spare held n cs' _ h2
      rw [hc] at h1
      obtain ⟨_, hlen, hcell⟩ := World.cells?_some h1
      refine ⟨y, hok, cs', hy, fun j hj => ?_⟩
      have := hcell j (by omega)
      rw [add_add] at this
      rw [this]
    have hok : ∀ x ∈ l, ok x := fun x hx => by
      obtain ⟨i, hi, rfl⟩ := List.getElem_of_mem hx
      exact (hlp i hi).1
    refine ⟨l, ⟨_, rfl, some a, cap, by rw [hll], by omega, hm, ?_⟩, hok⟩
    by_cases h0 : len = 0
    · exact .inl (List.length_eq_zero_iff.1 (by omega))
    · obtain ⟨b, off, spot⟩ := a
      obtain ⟨_, cs', hr, hcl⟩ := hlp 0 (by omega)
      have hl2 := E.len _ _ _ hr
      have h00 := hcl 0 hp
      have hspot : spot = none := by
        rw [List.getElem?_eq_getElem (by omega)] at h00
        have := World.cell?_spot h00
        simpa [Addr.add] using this
      subst hspot
      refine .inr ⟨b, off, rfl, fun i hi => ?_⟩
      obtain ⟨_, cs', hr, hcl⟩ := hlp i hi
      refine ⟨cs', hr, fun j hj => ?_⟩
      rw [← hcl j hj]
      have hadd : ∀ k, (⟨b, off, none⟩ : Addr).add k = ⟨b, off + k, none⟩ := fun k => by unfold Addr.add; split <;> simp_all
      rw [hadd, Nat.add_assoc]

inductive FieldsOpen (P : Program) : {α : Type} → List Field → Nat → El α → (α → Prop) → Prop
  | nil {off : Nat} : FieldsOpen P [] off unitE fun _ => True
  | cons {α β : Type} {f : Field} {fs : List Field} {off : Nat} {E : El α} {F : El β} {ok : α → Prop} {okF : β → Prop} (ho : f.offset = off) (hc : P.cellsOf f.type = E.sz) (h : Opens P f.type E ok) (hs : FieldsOpen P fs (off + E.sz) F okF) :
      FieldsOpen P (f :: fs) off (pairE E F) fun p => ok p.1 ∧ okF p.2

theorem fields_open {α : Type} {fs : List Field} {off : Nat} {E : El α} {ok : α → Prop} (hf : FieldsOpen P fs off E ok) :
    ∀ (H : Type) (enc : TypeId × Value → H) (w : World) (base : Nat) (spare : Nat → Bool) (held : Bool) (n : Nat) (cs : List Value), cs.length = off + E.sz →
      (∀ (i : Nat) (f : Field), fs[i]? = some f → ∃ y, DataW.trod enc P w base spare held n f.type ((cs.drop f.offset).take (P.cellsOf f.type)) = some y) → ∃ a, E.rel w a (cs.drop off) ∧ ok a := by
  induction hf with
  | nil =>
    intro H enc w base spare held n cs hl _
    exact ⟨(), List.drop_eq_nil_of_le (by simp [unitE] at hl; omega), trivial⟩
  | @cons α β f fs off E F ok okF ho hc h hs ih =>
    intro H enc w base spare held n cs hl hfs
    have hl' : cs.length = off + E.sz + F.sz := by rw [hl]; simp [pairE]; omega
    obtain ⟨y, hy⟩ := hfs 0 f rfl
    obtain ⟨a, ha, hoka⟩ := h H enc w base spare held n _ _ hy
    obtain ⟨b, hb, hokb⟩ := ih H enc w base spare held n cs hl' fun i g hg => hfs (i + 1) g (by simpa using hg)
    rw [ho, hc] at ha
    refine ⟨(a, b), ⟨ha, by rw [List.drop_drop]; exact hb, by rw [List.length_drop]; simp [pairE] at hl ⊢; omega⟩, hoka, hokb⟩

theorem Opens.struct {α : Type} {E : El α} {ok : α → Prop} {t : TypeId} {fs : Array Field} (ht : P.underlying t = some (.struct fs)) (hc : P.cellsOf t = E.sz) (hf : FieldsOpen P fs.toList 0 E ok) : Opens P t E ok := by
  intro H enc w base spare held fuel cs x h
  obtain ⟨xs, n, _, _, hcl, hxl, hfs⟩ := DataW.trod_struct ht h
  obtain ⟨a, ha, hok⟩ := fields_open hf H enc w base spare held n cs (by rw [hcl, hc]; omega) fun i f hi => by
    have hi' : fs[i]? = some f := by simpa using hi
    have := hfs i f hi'
    have hlt : i < xs.length := by
      rw [hxl]
      exact (Array.getElem?_eq_some_iff.1 hi').1
    exact ⟨xs[i], by rw [this, List.getElem?_eq_getElem hlt]⟩
  exact ⟨a, by simpa using ha, hok⟩
end

/-- an argument that is a slice -/
theorem opens_arg {α : Type} {P : Program} {t : TypeId} {E : El α} {ok : List α → Prop} (h : Opens P t (sliceE E) ok) {H : Type} {enc : TypeId × Value → H} {w : World} {base : Nat} {spare : Nat → Bool} {held : Bool} {a : Option Addr} {l c : Nat} {d : DataW H} {ps : List MemPlace}
    (hd : DataW.Trod enc P w base spare held t (.slice a l c) d ps) : ∃ xs, Rd E w (.slice a l c) xs ∧ ok xs := by
  obtain ⟨fuel, hf⟩ := hd
  obtain ⟨xs, ⟨v, e, hr⟩, hok⟩ := h H enc w base spare held fuel _ _ hf
  simp [Value.cells] at e
  subst e
  exact ⟨xs, hr, hok⟩
end Go.Proofs.Ytchdmemgkegefaa
