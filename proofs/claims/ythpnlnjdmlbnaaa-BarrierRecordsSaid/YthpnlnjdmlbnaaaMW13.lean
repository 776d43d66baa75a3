/- Parts of the proof: Lf, C1, G0, C2, C3, C4, C5, C6, C7, P7, C8, S3, S4, S5, S6, S7, S8, S9, SA, W1. No condition. -/
import Derived.Test.YthpnlnjdmlbnaaaMW12
/- The plain functions. -/
/- What the checks of a space answer: those of the program and those of the reference. No program. -/
namespace Go.Proofs.Ythpnlnjdmlbnaaa
open Go.RowKit
set_option linter.unusedVariables false
set_option linter.unusedSimpArgs false

theorem some_b {b : Bool} {p : Prop} (h : b = true ↔ p) : some b = some (bP p) := by
  congr 1
  cases b with
  | true => exact (bP_t (h.1 rfl)).symm
  | false => exact (bP_f fun hp => by cases h.2 hp).symm
theorem some_t {p : Prop} (h : p) : some true = some (bP p) := by rw [bP_t h]
theorem some_f {p : Prop} (h : ¬ p) : some false = some (bP p) := by rw [bP_f h]
theorem bndR_ok {β ρ : Type} {x : Option (β ⊕ ρ)} {z : β ⊕ ρ} {K : β → Option ρ} {r : Option ρ} (h : x = some z) (k : (match z with | .inl b => K b | .inr r' => some r') = r) : bndR x K = r := by
  subst h
  cases z <;> exact k
theorem shl_k {s : Sp} (hs : ShOk s.sh) {a : Int} (n : Nat) (ha : a = n) (hn : n ≤ 4294967296) : shlN .i64 a (wu s.sh) = ((n * szS s : Nat) : Int) := by
  obtain ⟨g1, g2, g3, g4, g5⟩ := sz_get hs
  have hp : n * szS s ≤ 4294967296 * 256 := Nat.mul_le_mul hn g4
  rw [wu_in (by omega), show s.sh = ((s.sh.toNat : Nat) : Int) by omega, shl_pow (by omega) (by rw [g5, ha, ← Int.natCast_mul]; omega), g5, ha]
  push_cast
  rfl
theorem wu_sh {s : Sp} (hs : ShOk s.sh) : 0 ≤ wu s.sh := by unfold ShOk at hs; rw [wu_in (by omega)]; omega
theorem rshift_c (k : Int) : F_ref03_shift k = some (bP (ShOk k)) := by
  unfold F_ref03_shift ShOk
  by_cases h : 3 ≤ k
  · rw [if_pos h]; exact some_b (by simp [h])
  · rw [if_neg h]; exact some_f fun hp => h hp.1
theorem shift_c (k : Int) : F_frame_shift k = some (bP (ShOk k)) := rshift_c k
theorem zero_c (l : List Int) (hl : l.length ≤ 9223372036854775807) : F_frame_zero l = some (bP (AllZ l)) := by
  unfold F_frame_zero
  obtain ⟨z, h1, h2⟩ : ∃ z : Unit ⊕ Bool, loopO (fun (s4 : Int) =>
      if s4 < (l.length : Int) then
      ((at_ l s4).bind fun v9 =>
      if v9 = 0 then
      (some (.go (w64 (s4 + 1))))
      else
      some (.out (.inr (false))))
      else
      some (.out (.inl (())))) 0 = some z ∧ ((z = .inl () ∧ AllZ l) ∨ (z = .inr false ∧ ¬ AllZ l)) := by
    refine loop_ok (fun x : Int => ∃ k : Nat, x = k ∧ k ≤ l.length ∧ ∀ a (h : a < l.length), a < k → l[a] = 0) _ (fun x => l.length - x.toNat) ⟨0, rfl, Nat.zero_le _, fun a _ h => absurd h (Nat.not_lt_zero _)⟩ ?_
    rintro x ⟨k, rfl, hk, hz⟩
    by_cases hlt : k < l.length
    · rw [if_pos (by omega), at_nat hlt]
      simp only [Option.bind_some]
      by_cases h0 : l[k] = 0
      · rw [if_pos h0]
        refine .inl ⟨_, rfl, ⟨k + 1, by rw [w64_in (by omega)]; rfl, hlt, fun a ha h => ?_⟩, by rw [w64_in (by omega)]; omega⟩
        by_cases h3 : a = k
        · subst h3; exact h0
        · exact hz a ha (by omega)
      · rw [if_neg h0]
        exact .inr ⟨_, rfl, .inr ⟨rfl, fun h => h0 (h _ (List.getElem_mem _))⟩⟩
    · rw [if_neg (by omega)]
      refine .inr ⟨_, rfl, .inl ⟨rfl, fun x hx => ?_⟩⟩
      obtain ⟨a, ha, rfl⟩ := List.mem_iff_getElem.1 hx
      exact hz a ha (by omega)
  refine bndR_ok h1 ?_
  rcases h2 with ⟨rfl, h2⟩ | ⟨rfl, h2⟩
  · exact some_t h2
  · exact some_f h2
theorem stamped_c (f : Fe) : F_ref03_stamped f = some (bP (Stp f.ow f.st)) := by
  unfold F_ref03_stamped
  by_cases h1 : f.ow < 0
  · rw [if_pos h1]; exact some_f fun h => by have := h.1; omega
  rw [if_neg h1]
  by_cases h2 : 4294967295 < f.ow
  · rw [if_pos h2]; exact some_f fun h => by have := h.2.1; omega
  rw [if_neg h2]
  obtain ⟨z, h3, h4⟩ : ∃ z : Unit ⊕ Bool, loopO (fun (s7 : Int) =>
      if s7 < 4 then
      (if f.st = (w64 (f.ow + (w64 (s7 * 4294967296)))) then
      (some (.out (.inr (true))))
      else
      some (.go (w64 (s7 + 1))))
      else
      some (.out (.inl (())))) 0 = some z ∧ ((z = .inl () ∧ ¬ Stp f.ow f.st) ∨ (z = .inr true ∧ Stp f.ow f.st)) := by
    refine loop_ok (fun x : Int => 0 ≤ x ∧ x ≤ 4 ∧ ∀ b : Int, 0 ≤ b → b < x → f.st ≠ f.ow + b * 4294967296) _ (fun x => (4 - x).toNat) ⟨by omega, by omega, fun b _ h => by omega⟩ ?_
    rintro x ⟨h0, h4, hno⟩
    by_cases hlt : x < 4
    · rw [if_pos hlt, w64_in (n := x * 4294967296) (by omega), w64_in (n := f.ow + x * 4294967296) (by omega)]
      by_cases he : f.st = f.ow + x * 4294967296
      · rw [if_pos he]
        exact .inr ⟨_, rfl, .inr ⟨rfl, by omega, by omega, x, h0, hlt, he⟩⟩
      · rw [if_neg he, w64_in (n := x + 1) (by omega)]
        refine .inl ⟨_, rfl, ⟨by omega, by omega, fun b h5 h6 => ?_⟩, by omega⟩
        by_cases h7 : b = x
        · subst h7; exact he
        · exact hno b h5 (by omega)
    · rw [if_neg hlt]
      refine .inr ⟨_, rfl, .inl ⟨rfl, fun h => ?_⟩⟩
      obtain ⟨b, h5, h6, h7⟩ := h.2.2
      exact hno b h5 (by omega) h7
  refine bndR_ok h3 ?_
  rcases h4 with ⟨rfl, h4⟩ | ⟨rfl, h4⟩
  · exact some_f h4
  · exact some_t h4
/-- no frame is reached from itself -/
theorem straight_c (s : Sp) (hn : NxIn s.fs) (h64 : s.fs.length ≤ 64) : F_frame_straight s = some (bP (StrF s.fs)) := by
  unfold F_frame_straight
  obtain ⟨z, h1, h2⟩ : ∃ z : Unit ⊕ Bool, loopO (fun (s4 : Int) =>
      if s4 < (s.fs.length : Int) then
      (bndR ((at_ s.fs s4).bind fun v10 =>
      loopO (fun (s12 : Int × Int) =>
      if 0 ≤ s12.1 then
      (if s12.2 < (s.fs.length : Int) then
      (if s12.1 = s4 then
      (some (.out (.inr (.out (.inr (false))))))
      else
      (at_ s.fs s12.1).bind fun v20 =>
      some (.go ((v20.nx, w64 (s12.2 + 1)))))
      else
      some (.out (.inl (()))))
      else
      some (.out (.inl (())))) (v10.nx, 0)) fun (b8 : Unit) =>
      some (.go (w64 (s4 + 1))))
      else
      some (.out (.inl (())))) 0 = some z ∧ ((z = .inl () ∧ StrF s.fs) ∨ (z = .inr false ∧ ¬ StrF s.fs)) := by
    refine loop_ok (fun x : Int => ∃ i : Nat, x = i ∧ i ≤ s.fs.length ∧ ∀ a, a < i → ∀ k, k < s.fs.length → itF s.fs (k + 1) a ≠ a) _ (fun x => s.fs.length - x.toNat) ⟨0, rfl, Nat.zero_le _, fun a h => absurd h (Nat.not_lt_zero _)⟩ ?_
    rintro x ⟨i, rfl, hi, hs⟩
    by_cases hlt : i < s.fs.length
    · rw [if_pos (by omega), at_nat hlt]
      simp only [Option.bind_some]
      obtain ⟨y, k1, k2⟩ : ∃ y : Unit ⊕ LS Int (Unit ⊕ Bool), loopO (fun (s12 : Int × Int) =>
          if 0 ≤ s12.1 then
          (if s12.2 < (s.fs.length : Int) then
          (if s12.1 = (i : Int) then
          (some (.out (.inr (.out (.inr (false))))))
          else
          (at_ s.fs s12.1).bind fun v20 =>
          some (.go ((v20.nx, w64 (s12.2 + 1)))))
          else
          some (.out (.inl (()))))
          else
          some (.out (.inl (())))) (s.fs[i].nx, 0) = some y ∧ ((y = .inl () ∧ ∀ k, k < s.fs.length → itF s.fs (k + 1) i ≠ i) ∨ (y = .inr (.out (.inr false)) ∧ ¬ StrF s.fs)) := by
        refine loop_ok (fun x : Int × Int => ∃ m : Nat, x = (itF s.fs (m + 1) i, (m : Int)) ∧ m ≤ s.fs.length ∧ ∀ k, k < m → itF s.fs (k + 1) i ≠ i) _ (fun x => s.fs.length - x.2.toNat) ⟨0, by rw [itF_succ, show itF s.fs 0 (i : Int) = i from rfl, nxF_at hlt]; rfl, Nat.zero_le _, fun k h => absurd h (Nat.not_lt_zero _)⟩ ?_
        rintro x ⟨m, rfl, hm, hk⟩
        dsimp only
        by_cases h0 : 0 ≤ itF s.fs (m + 1) i
        · rw [if_pos h0]
          by_cases hml : m < s.fs.length
          · rw [if_pos (by omega)]
            by_cases he : itF s.fs (m + 1) i = i
            · rw [if_pos he]
              exact .inr ⟨_, rfl, .inr ⟨rfl, fun h => h i hlt m hml he⟩⟩
            · rw [if_neg he]
              have hb := hn.it (m + 1) i (by omega)
              rw [at_int h0 (by omega)]
              simp only [Option.bind_some]
              refine .inl ⟨_, rfl, ⟨m + 1, ?_, hml, fun k h => ?_⟩, by rw [w64_in (by omega)]; omega⟩
              · rw [itF_succ (m + 1), nxF_z h0 (by omega), w64_in (by omega)]; rfl
              · by_cases h3 : k = m
                · subst h3; exact he
                · exact hk k (by omega)
          · rw [if_neg (by omega)]
            exact .inr ⟨_, rfl, .inl ⟨rfl, fun k h => hk k (by omega)⟩⟩
        · rw [if_neg h0]
          refine .inr ⟨_, rfl, .inl ⟨rfl, fun k h => ?_⟩⟩
          by_cases h3 : k < m
          · exact hk k h3
          · have hb := hn.it (m + 1) i (by omega)
            rw [show k + 1 = (m + 1) + (k - m) by omega, itF_add, itF_neg _ (by omega)]
            omega
      rcases k2 with ⟨rfl, k2⟩ | ⟨rfl, k2⟩
      · rw [bndR_eq k1]
        refine .inl ⟨_, rfl, ⟨i + 1, by rw [w64_in (by omega)]; rfl, hlt, fun a ha => ?_⟩, by rw [w64_in (by omega)]; omega⟩
        by_cases h3 : a = i
        · subst h3; exact k2
        · exact hs a (by omega)
      · rw [bndR_eqR k1]
        exact .inr ⟨_, rfl, .inr ⟨rfl, k2⟩⟩
    · rw [if_neg (by omega)]
      exact .inr ⟨_, rfl, .inl ⟨rfl, fun a ha => hs a (by omega)⟩⟩
  refine bndR_ok h1 ?_
  rcases h2 with ⟨rfl, h2⟩ | ⟨rfl, h2⟩
  · exact some_t h2
  · exact some_f h2
end Go.Proofs.Ythpnlnjdmlbnaaa
/- Plain functions: that they have an answer, and what it is: rules to step through them. No program. -/
namespace Go.Proofs.Ythpnlnjdmlbnaaa
open Go.RowKit
set_option linter.unusedVariables false

section
variable {α β ρ σ : Type} {G : α → Prop}
/-- there is an answer, and it is so -/
def Gd (G : α → Prop) (v : Option α) : Prop := ∃ a, v = some a ∧ G a
theorem Gd.some {a : α} (h : G a) : Gd G (some a) := ⟨a, rfl, h⟩
theorem Gd.mono {P : α → Prop} {v : Option α} (h : Gd P v) (k : ∀ a, P a → G a) : Gd G v := by
  obtain ⟨a, h1, h2⟩ := h
  exact ⟨a, h1, k a h2⟩
theorem Gd.eq {v : Option α} {a : α} (h : Gd (fun x => x = a) v) : v = .some a := by
  obtain ⟨b, h1, rfl⟩ := h
  exact h1
theorem Gd.of {v : Option α} {a : α} (h : v = .some a) (k : G a) : Gd G v := ⟨a, h, k⟩
theorem Gd.bind {P : β → Prop} {x : Option β} {K : β → Option α} (h : Gd P x) (k : ∀ a, P a → Gd G (K a)) : Gd G (x.bind K) := by
  obtain ⟨a, rfl, h2⟩ := h
  exact k a h2
theorem Gd.call {x : Option β} {a : β} {K : β → Option α} (h : x = .some a) (k : Gd G (K a)) : Gd G (x.bind K) := by
  subst h
  exact k
theorem Gd.bndR {P : β ⊕ α → Prop} {x : Option (β ⊕ α)} {K : β → Option α} (h : Gd P x) (k : ∀ b, P (.inl b) → Gd G (K b)) (kr : ∀ r, P (.inr r) → G r) : Gd G (bndR x K) := by
  obtain ⟨a, rfl, h2⟩ := h
  cases a with
  | inl b => exact k b h2
  | inr r => exact ⟨r, rfl, kr r h2⟩
theorem Gd.ite {p : Prop} [Decidable p] {a b : Option α} (h1 : p → Gd G a) (h2 : ¬ p → Gd G b) : Gd G (if p then a else b) := by
  by_cases h : p
  · rw [if_pos h]; exact h1 h
  · rw [if_neg h]; exact h2 h
theorem Gd.pos {p : Prop} [Decidable p] {a b : Option α} (h : p) (h1 : Gd G a) : Gd G (if p then a else b) := by rw [if_pos h]; exact h1
theorem Gd.neg {p : Prop} [Decidable p] {a b : Option α} (h : ¬ p) (h1 : Gd G b) : Gd G (if p then a else b) := by rw [if_neg h]; exact h1
theorem Gd.at {l : List β} {i : Int} {K : β → Option α} (h0 : 0 ≤ i) (h : i.toNat < l.length) (k : Gd G (K (l[i.toNat]'h))) : Gd G ((at_ l i).bind K) := by rw [at_int h0 h]; exact k
theorem Gd.atN {l : List β} {i : Nat} {K : β → Option α} (h : i < l.length) (k : Gd G (K l[i])) : Gd G ((at_ l (i : Int)).bind K) := by rw [at_nat h]; exact k
theorem Gd.at0 {l : List β} {K : β → Option α} (h : 0 < l.length) (k : Gd G (K l[0])) : Gd G ((at_ l 0).bind K) := Gd.atN (i := 0) h k
theorem Gd.at1 {l : List β} {K : β → Option α} (h : 1 < l.length) (k : Gd G (K l[1])) : Gd G ((at_ l 1).bind K) := Gd.atN (i := 1) h k
/-- a round of a loop -/
def LSP (I : σ → Prop) (Q : β → Prop) (μ : σ → Nat) (m : Nat) : LS σ β → Prop
  | .go s => I s ∧ μ s < m
  | .out b => Q b
theorem Gd.loop {f : σ → Option (LS σ β)} {s : σ} (I : σ → Prop) (Q : β → Prop) (μ : σ → Nat) (hs : I s) (h : ∀ s, I s → Gd (LSP I Q μ (μ s)) (f s)) : Gd Q (loopO f s) :=
  loop_ok I Q μ hs fun s hs => by
    obtain ⟨a, h1, h2⟩ := h s hs
    cases a with
    | go s' => exact .inl ⟨s', h1, h2.1, h2.2⟩
    | out b => exact .inr ⟨b, h1, h2⟩
theorem Gd.go {I : σ → Prop} {Q : β → Prop} {μ : σ → Nat} {m : Nat} {s : σ} (h : I s) (k : μ s < m) : Gd (LSP I Q μ m) (.some (LS.go s)) := ⟨_, rfl, h, k⟩
theorem Gd.out {I : σ → Prop} {Q : β → Prop} {μ : σ → Nat} {m : Nat} {b : β} (h : Q b) : Gd (LSP I Q μ m) (.some (LS.out b)) := ⟨_, rfl, h⟩
/-- a loop that counts -/
theorem Gd.count {f : σ → Option (LS σ β)} {s : σ} (J : Nat → σ) (n : Nat) (Q : β → Prop) (I : Nat → Prop) (h0 : s = J 0) (hI : I 0)
    (h : ∀ k, k < n → I k → Gd (fun a => (∃ s', a = LS.go s' ∧ s' = J (k + 1) ∧ I (k + 1)) ∨ ∃ b, a = LS.out b ∧ Q b) (f (J k))) (hn : I n → Gd (fun a => ∃ b, a = LS.out b ∧ Q b) (f (J n))) : Gd Q (loopO f s) := by
  have key : ∀ d k, k + d = n → I k → Gd Q (loopO f (J k)) := by
    intro d
    induction d with
    | zero =>
      intro k hk hI
      obtain rfl : k = n := by omega
      obtain ⟨a, h1, b, rfl, h2⟩ := hn hI
      exact ⟨b, loopO_out h1, h2⟩
    | succ d ih =>
      intro k hk hI
      obtain ⟨a, h1, h2⟩ := h k (by omega) hI
      rcases h2 with ⟨s', rfl, rfl, h3⟩ | ⟨b, rfl, h3⟩
      · rw [loopO_go h1]; exact ih (k + 1) (by omega) h3
      · exact ⟨b, loopO_out h1, h3⟩
  subst h0
  exact key n 0 (by omega) hI
end
theorem Gd.t {p : Prop} (h : p) : Gd (fun x => x = bP p) (.some true) := .some (bP_t h).symm
theorem Gd.f {p : Prop} (h : ¬ p) : Gd (fun x => x = bP p) (.some false) := .some (bP_f h).symm
theorem Gd.b {p : Prop} {b : Bool} (h : b = true ↔ p) : Gd (fun x => x = bP p) (.some b) := .some (by
  cases b with
  | true => exact (bP_t (h.1 rfl)).symm
  | false => exact (bP_f fun hp => by cases h.2 hp).symm)
end Go.Proofs.Ythpnlnjdmlbnaaa
/- A space is valid: both checks answer the same. No program. -/
namespace Go.Proofs.Ythpnlnjdmlbnaaa
open Go.RowKit
set_option linter.unusedVariables false
set_option linter.unusedSimpArgs false

/-- how often an entry follows one of the first -/
def CntOf (fs : List Fe) (n : Nat) (c : List Int) : Prop := c.length = 64 ∧ ∀ j (h : j < c.length), (c[j] = 0 ∨ c[j] = 1) ∧ (c[j] = 1 ↔ ∃ i, ∃ h : i < fs.length, i < n ∧ fs[i].nx = j)
theorem CntOf.zero {fs : List Fe} : CntOf fs 0 (List.replicate 64 0) := ⟨by simp, fun j hj => by
  rw [List.getElem_replicate]
  exact ⟨.inl rfl, fun h => absurd h (by decide), fun ⟨i, _, h, _⟩ => by omega⟩⟩
theorem CntOf.skip {fs : List Fe} {n : Nat} {c : List Int} (h : CntOf fs n c) (hn : n < fs.length) (hx : fs[n].nx < 0) : CntOf fs (n + 1) c := ⟨h.1, fun j hj => ⟨(h.2 j hj).1, (h.2 j hj).2.trans ⟨fun ⟨i, hi, h1, h2⟩ => ⟨i, hi, by omega, h2⟩, fun ⟨i, hi, h1, h2⟩ => by
  rcases Nat.lt_succ_iff_lt_or_eq.1 h1 with h3 | h3
  · exact ⟨i, hi, h3, h2⟩
  · subst h3; omega⟩⟩⟩
theorem CntOf.set {fs : List Fe} {n p : Nat} {c : List Int} (h : CntOf fs n c) (hn : n < fs.length) (hp : p < c.length) (hx : fs[n].nx = p) (h0 : c[p] = 0) : CntOf fs (n + 1) (c.set p (c[p] + 1)) := by
  refine ⟨by rw [List.length_set]; exact h.1, fun j hj => ?_⟩
  rw [List.length_set] at hj
  have hb := h.2 j hj
  by_cases e : j = p
  · subst e
    rw [List.getElem_set_self, h0]
    exact ⟨.inr rfl, fun _ => ⟨n, hn, by omega, hx⟩, fun _ => rfl⟩
  · rw [List.getElem_set_ne (fun h => e h.symm)]
    refine ⟨hb.1, hb.2.trans ⟨fun ⟨i, hi, h1, h2⟩ => ⟨i, hi, by omega, h2⟩, fun ⟨i, hi, h1, h2⟩ => ?_⟩⟩
    rcases Nat.lt_succ_iff_lt_or_eq.1 h1 with h3 | h3
    · exact ⟨i, hi, h3, h2⟩
    · subst h3; omega
theorem UqF.setC {fs : List Fe} {n p : Nat} {c : List Int} (h : UqF fs n) (hn : n < fs.length) (hb : CntOf fs n c) (hp : p < c.length) (hx : fs[n].nx = p) (h0 : c[p] = 0) : UqF fs (n + 1) := fun i j hi hj hij hjn e => by
  rcases Nat.lt_succ_iff_lt_or_eq.1 hjn with h3 | h3
  · exact h i j hi hj hij h3 e
  · subst h3
    have := (hb.2 p hp).2.2 ⟨i, hi, hij, e.trans hx⟩
    omega
theorem UqF.notC {fs : List Fe} {n p : Nat} {c : List Int} (hn : n < fs.length) (hb : CntOf fs n c) (hp : p < c.length) (hx : fs[n].nx = p) (h0 : ¬ c[p] = 0) : ¬ UqF fs fs.length := fun h => by
  obtain ⟨i, hi, h1, h2⟩ := (hb.2 p hp).2.1 (by have := (hb.2 p hp).1; omega)
  have := h i n hi hn h1 hn (h2.trans hx.symm)
  omega
theorem not_both {s : Sp} {n : Nat} (hn : n < s.fs.length) (h0 : ¬ FreeF s n s.fs[n]) (h : ¬ UsedF s n s.fs[n]) : ¬ SpOk s := SpOk.not_fm hn fun k => by
  rcases k with k | k
  · exact h0 k
  · exact h k
theorem SpOk.nxIn {s : Sp} (h : SpOk s) : NxIn s.fs := nxin_of h.fm
theorem not_used {s : Sp} {n : Nat} (hn : n < s.fs.length) (h0 : ¬ s.fs[n].ow = -1) (h : ¬ UsedF s n s.fs[n]) : ¬ SpOk s := SpOk.not_fm hn fun k => by
  rcases k with k | k
  · exact h0 k.1
  · exact h k
theorem not_free {s : Sp} {n : Nat} (hn : n < s.fs.length) (h0 : s.fs[n].ow = -1) (h : ¬ FreeF s n s.fs[n]) : ¬ SpOk s := SpOk.not_fm hn fun k => by
  rcases k with k | k
  · exact h k
  · have := k.1.1; omega
theorem part_e {α : Type} (l : List α) (k z : Nat) : (l.take ((k + 1) * z)).drop (k * z) = (l.drop (k * z)).take z := by
  rw [List.drop_take]
  congr 1
  rw [Nat.succ_mul]
  omega
theorem SpW.at {s : Sp} (h : SpW s) {k : Nat} (hk : k < s.fs.length) : I64 s.fs[k].ow ∧ I64 s.fs[k].st ∧ I64 s.fs[k].nx := h.2 _ (List.getElem_mem hk)

set_option maxHeartbeats 1000000 in
theorem rvalid_c (s : Sp) (hW : SpW s) : F_ref03_Valid s = some (bP (SpOk s)) := by
  refine Gd.eq ?_
  unfold F_ref03_Valid
  refine Gd.call (rshift_c _) ?_
  refine .ite (fun hsh => ?_) fun hsh => .f fun h => hsh (bP_t h.shp.sh)
  have hsh : ShOk s.sh := bP_iff.1 hsh
  refine .ite (fun h2 => .f fun h => by have := h.shp.lo; omega) fun h2 => ?_
  refine .ite (fun h64 => .f fun h => by have := h.shp.hi; omega) fun h64 => ?_
  refine .pos (wu_sh hsh) ?_
  rw [shl_k hsh s.fs.length rfl (by omega)]
  refine .ite (fun hw => ?_) fun hw => .f fun h => hw (by rw [h.shp.wl])
  have hw : s.ws.length = s.fs.length * szS s := by omega
  obtain ⟨g1, g2, g3, g4, g5⟩ := sz_get hsh
  have hwl : s.fs.length * szS s ≤ 64 * 256 := Nat.mul_le_mul (by omega) g4
  refine Gd.bndR (P := fun z => (z = .inl () ∧ FmTo s s.fs.length ∧ UqF s.fs s.fs.length) ∨ (z = .inr false ∧ ¬ SpOk s)) ?_ (fun _ hP => ?_) (fun r hP => by
    rcases hP with ⟨h, _⟩ | ⟨h, hP⟩
    · cases h
    · injection h with h; rw [h, bP_f hP])
  · refine Gd.loop (fun x : List Int × Int => ∃ k : Nat, x.2 = k ∧ k ≤ s.fs.length ∧ FmTo s k ∧ CntOf s.fs k x.1 ∧ UqF s.fs k) _ (fun x => s.fs.length - x.2.toNat) ⟨0, rfl, Nat.zero_le _, fun i _ h => absurd h (Nat.not_lt_zero _), CntOf.zero, fun i j _ _ _ h => absurd h (Nat.not_lt_zero _)⟩ ?_
    rintro ⟨c, x⟩ ⟨k, hxk, hk, hfm, hct, huq⟩
    dsimp only at hxk hct ⊢
    subst hxk
    refine .ite (fun hlt => ?_) fun hlt => .out (.inl ⟨rfl, by have e : k = s.fs.length := (by omega); rw [e] at hfm huq; exact ⟨hfm, huq⟩⟩)
    have hlt : k < s.fs.length := by omega
    have hpart : k * szS s + szS s ≤ s.ws.length := by rw [hw, ← Nat.succ_mul]; exact Nat.mul_le_mul hlt (Nat.le_refl _)
    have hpart2 : (k + 1) * szS s = k * szS s + szS s := Nat.succ_mul _ _
    obtain ⟨i1, i2, i3⟩ := hW.at hlt
    unfold I64 at i1 i2 i3
    have hk1 : w64 ((k : Int) + 1) = ((k + 1 : Nat) : Int) := w64_in (by omega)
    rw [hk1]
    have hcl := hct.1
    -- what a round leaves
    refine Gd.bndR (P := fun z => (∃ c' : List Int, z = .inl c' ∧ FmTo s (k + 1) ∧ CntOf s.fs (k + 1) c' ∧ UqF s.fs (k + 1)) ∨ (z = .inr (.out (.inr false)) ∧ ¬ SpOk s)) ?_ (fun c' hP => ?_) (fun r hP => ?_)
    · refine .atN hlt ?_
      refine Gd.bndR (P := fun z => (z = .inl () ∧ ¬ FreeF s k s.fs[k]) ∨ (z = .inr (.inl c) ∧ FreeF s k s.fs[k]) ∨ (z = .inr (.inr (.out (.inr false))) ∧ ¬ SpOk s)) ?_ (fun _ hP => ?_) (fun r hP => ?_)
      · refine .ite (fun f0 => ?_) fun f0 => .some (.inl ⟨rfl, fun h => f0 h.1⟩)
        refine .ite (fun f1 => ?_) fun f1 => .some (.inl ⟨rfl, fun h => f1 h.2.1⟩)
        refine .ite (fun f2 => ?_) fun f2 => .some (.inl ⟨rfl, fun h => f2 h.2.2.1⟩)
        rw [shl_k hsh k rfl (by omega), shl_k hsh (k + 1) rfl (by omega)]
        refine Gd.bndR (P := fun z => (z = .inl () ∧ ZeroF s k) ∨ (z = .inr (.inr (.inr (.out (.inr false)))) ∧ ¬ SpOk s)) ?_ (fun _ hP => ?_) (fun r hP => ?_)
        · refine Gd.loop (fun x : Int => ∃ a : Nat, x = a ∧ k * szS s ≤ a ∧ a ≤ (k + 1) * szS s ∧ ∀ b (h : b < s.ws.length), k * szS s ≤ b → b < a → s.ws[b] = 0) _ (fun x => (k + 1) * szS s - x.toNat) ⟨k * szS s, rfl, Nat.le_refl _, by omega, fun b _ h1 h2 => by omega⟩ ?_
          rintro x ⟨a, rfl, ha1, ha2, hz⟩
          refine .ite (fun hza => ?_) fun hza => .out (.inl ⟨rfl, fun b hb h7 h8 => hz b hb h7 (by omega)⟩)
          have hal : a < s.ws.length := by omega
          refine .atN hal ?_
          refine .ite (fun z => ?_) fun z => .out (.inr ⟨rfl, not_both hlt (fun h => z (h.2.2.2 a hal ha1 (by omega))) fun h => by have := h.1.1; omega⟩)
          have e1 : w64 ((a : Int) + 1) = ((a + 1 : Nat) : Int) := w64_in (by omega)
          refine .go ⟨a + 1, e1, by omega, by omega, fun b h h7 h8 => ?_⟩ (by rw [e1, Int.toNat_natCast, Int.toNat_natCast]; omega)
          by_cases h3 : b = a
          · subst h3; exact z
          · exact hz b h h7 (by omega)
        · rcases hP with ⟨_, hP⟩ | ⟨h, _⟩
          · exact .some (.inr (.inl ⟨rfl, f0, f1, f2, hP⟩))
          · cases h
        · rcases hP with ⟨h, _⟩ | ⟨h, hP⟩
          · cases h
          · injection h with h; exact .inr (.inr ⟨by rw [h], hP⟩)
      · have hnf : ¬ FreeF s k s.fs[k] := by
          rcases hP with ⟨_, h⟩ | ⟨h, _⟩ | ⟨h, _⟩
          · exact h
          · cases h
          · cases h
        have bad : ∀ {p : Prop}, ¬ UsedF s k s.fs[k] → ¬ SpOk s := fun h => not_both hlt hnf h
        have nu : ¬ UsedF s k s.fs[k] → ¬ SpOk s := not_both hlt hnf
        refine .call (stamped_c _) ?_
        refine .ite (fun a1 => ?_) fun a1 => .some (.inr ⟨rfl, nu fun h => a1 (bP_t h.1)⟩)
        have a1 := bP_iff.1 a1
        refine .ite (fun a6 => .some (.inr ⟨rfl, nu fun h => by have := h.2.1; omega⟩)) fun a6 => ?_
        refine .ite (fun a7 => .some (.inr ⟨rfl, nu fun h => by have := h.2.2.1; omega⟩)) fun a7 => ?_
        refine .ite (fun a8 => .some (.inr ⟨rfl, nu fun h => h.2.2.2.1 a8⟩)) fun a8 => ?_
        refine .ite (fun h5 => ?_) fun h5 => ?_
        · have hus : UsedF s k s.fs[k] := ⟨a1, by omega, by omega, a8, fun j hj e => by omega⟩
          exact .some (.inl ⟨c, rfl, hfm.step hlt (.inr hus), hct.skip hlt (by omega), huq.skip hlt h5⟩)
        have hnl : s.fs[k].nx.toNat < s.fs.length := by omega
        have hcb := (hct.2 s.fs[k].nx.toNat (by omega)).1
        refine .at (by omega) hnl ?_
        refine .pos (by omega) ?_
        refine .at (by omega) (by omega) ?_
        refine .ite (fun ho => ?_) fun ho => .some (.inr ⟨rfl, nu fun h => ho (h.2.2.2.2 s.fs[k].nx.toNat hnl (by omega)).1⟩)
        refine .ite (fun hst => ?_) fun hst => .some (.inr ⟨rfl, nu fun h => hst (h.2.2.2.2 s.fs[k].nx.toNat hnl (by omega)).2⟩)
        have e1 : w64 (c[s.fs[k].nx.toNat] + 1) = c[s.fs[k].nx.toNat] + 1 := w64_in (by omega)
        rw [e1]
        refine .at (by omega) (by rw [List.length_set]; omega) ?_
        rw [List.getElem_set_self]
        refine .ite (fun hb => ?_) fun hb => ?_
        · exact .some (.inr ⟨rfl, fun h => UqF.notC (p := s.fs[k].nx.toNat) hlt hct (by omega) (by omega) (by omega) h.uq⟩)
        have hus : UsedF s k s.fs[k] := ⟨a1, by omega, by omega, a8, fun j hj e => by
          have e2 : j = s.fs[k].nx.toNat := by omega
          subst e2
          exact ⟨ho, hst⟩⟩
        exact .some (.inl ⟨_, rfl, hfm.step hlt (.inr hus), hct.set hlt (by omega) (by omega) (by omega), huq.setC (p := s.fs[k].nx.toNat) hlt hct (by omega) (by omega) (by omega)⟩)
      · rcases hP with ⟨h, _⟩ | ⟨h, hP⟩ | ⟨h, hP⟩
        · cases h
        · injection h with h
          exact .inl ⟨c, h, hfm.step hlt (.inl hP), hct.skip hlt (by rw [hP.2.2.1]; omega), huq.skip hlt hP.2.2.1⟩
        · injection h with h
          exact .inr ⟨h, hP⟩
    · rcases hP with ⟨c2, h, h1, h2, h3⟩ | ⟨h, _⟩
      · injection h with h
        subst h
        exact .go ⟨k + 1, rfl, hlt, h1, h2, h3⟩ (by dsimp only; omega)
      · cases h
    · rcases hP with ⟨c2, h, _⟩ | ⟨h, hP⟩
      · cases h
      · injection h with h
        subst h
        exact .inr ⟨rfl, hP⟩
  · obtain ⟨hfm, huq⟩ : FmTo s s.fs.length ∧ UqF s.fs s.fs.length := by
      rcases hP with ⟨_, h⟩ | ⟨h, _⟩
      · exact h
      · cases h
    have hfm' : ∀ i (h : i < s.fs.length), FreeF s i s.fs[i] ∨ UsedF s i s.fs[i] := fun i hi => hfm i hi hi
    have hnx : NxIn s.fs := nxin_of hfm'
    refine Gd.bndR (P := fun z => (z = .inl () ∧ EndF s.fs) ∨ (z = .inr false ∧ ¬ SpOk s)) ?_ (fun _ hP => ?_) (fun r hP => by
      rcases hP with ⟨h, _⟩ | ⟨h, hP⟩
      · cases h
      · injection h with h; rw [h, bP_f hP])
    · refine Gd.loop (fun x : Int => ∃ i : Nat, x = i ∧ i ≤ s.fs.length ∧ ∀ j, j < i → itF s.fs (s.fs.length + 1) j = -1) _ (fun x => s.fs.length - x.toNat) ⟨0, rfl, Nat.zero_le _, fun j h => absurd h (Nat.not_lt_zero _)⟩ ?_
      rintro x ⟨i, rfl, hi, hends⟩
      refine .ite (fun hlt2 => ?_) fun hlt2 => .out (.inl ⟨rfl, fun j hj => hends j (by omega)⟩)
      have hlt2 : i < s.fs.length := by omega
      refine Gd.bndR (P := fun z => (z = .inl () ∧ itF s.fs (s.fs.length + 1) i = -1) ∨ (z = .inr (.out (.inr false)) ∧ ¬ SpOk s)) ?_ (fun _ hP => ?_) (fun r hP => ?_)
      · refine Gd.bind (P := fun b => b = -1 ↔ itF s.fs (s.fs.length + 1) i = -1) ?_ fun b hb => ?_
        · refine Gd.loop (fun x : Int × Int => ∃ n : Nat, x = (itF s.fs n i, (n : Int)) ∧ n ≤ s.fs.length + 1) _ (fun x => s.fs.length + 1 - x.2.toNat) ⟨0, rfl, Nat.zero_le _⟩ ?_
          rintro x ⟨n, rfl, hn⟩
          dsimp only
          have hit := hnx.it n i (by omega)
          refine .ite (fun hn1 => ?_) fun hn1 => .out (by rw [show s.fs.length + 1 = n by omega])
          refine .ite (fun hn2 => .out ⟨fun _ => ?_, fun _ => hn2⟩) fun hn2 => ?_
          · rw [show s.fs.length + 1 = n + (s.fs.length + 1 - n) by omega, itF_add]
            exact itF_neg _ hn2
          refine .at (by omega) (by omega) ?_
          have e1 : w64 ((n : Int) + 1) = ((n + 1 : Nat) : Int) := w64_in (by omega)
          exact .go ⟨n + 1, by rw [e1, itF_succ, nxF_z (by omega) (by omega)], by omega⟩ (by dsimp only; rw [e1]; omega)
        · refine .ite (fun h => .some (.inl ⟨rfl, hb.1 h⟩)) fun h => .some (.inr ⟨rfl, fun k => h (hb.2 (k.ends _ hlt2))⟩)
      · rcases hP with ⟨_, h⟩ | ⟨h, _⟩
        · have e1 : w64 ((i : Int) + 1) = ((i + 1 : Nat) : Int) := w64_in (by omega)
          refine .go ⟨i + 1, e1, hlt2, fun j hj => ?_⟩ (by rw [e1]; omega)
          by_cases h3 : j = i
          · subst h3; exact h
          · exact hends j (by omega)
        · cases h
      · rcases hP with ⟨h, _⟩ | ⟨h, hP⟩
        · cases h
        · injection h with h
          subst h
          exact .inr ⟨rfl, hP⟩
    · rcases hP with ⟨_, h⟩ | ⟨h, _⟩
      · exact .t ⟨⟨hsh, by omega, by omega, hw⟩, hfm', huq, h⟩
      · cases h
end Go.Proofs.Ythpnlnjdmlbnaaa
/- A space is valid: the check of the program. No program. -/
namespace Go.Proofs.Ythpnlnjdmlbnaaa
open Go.RowKit
set_option linter.unusedVariables false
set_option linter.unusedSimpArgs false

theorem shl1 {j : Nat} (hj : j < 64) : 0 ≤ (1 : Int) * 2 ^ j ∧ (1 : Int) * 2 ^ j ≤ 18446744073709551615 := by
  have h1 : (2 : Nat) ^ j < 2 ^ 64 := Nat.pow_lt_pow_right (by decide) hj
  have e1 : ((2 : Int) ^ j) = ((2 ^ j : Nat) : Int) := by push_cast; rfl
  rw [Int.one_mul, e1]
  generalize 2 ^ j = x at *
  omega

theorem shru {a : Int} {j : Nat} (h : 0 ≤ a ∧ a ≤ 18446744073709551615) (hj : j ≤ 64) : shrN .u64 a (j : Int) = a / 2 ^ j := by
  unfold shrN
  rw [Int.toNat_natCast, Nat.min_eq_left (show j ≤ IntKind.u64.bits from hj)]
  exact Int.fdiv_eq_ediv_of_nonneg _ (Int.le_of_lt (Int.pow_pos (by decide)))
theorem shlu1 {j : Nat} (hj : j < 64) : shlN .u64 1 (j : Int) = 2 ^ j := by
  unfold shlN
  rw [Int.toNat_natCast, Nat.min_eq_left (show j ≤ IntKind.u64.bits from (by show j ≤ 64; omega)), Int.one_mul]
  exact wu_in (by have := shl1 hj; rw [Int.one_mul] at this; exact this)
set_option maxHeartbeats 1000000 in
theorem valid_c (s : Sp) (hW : SpW s) : F_frame_Valid s = some (bP (SpOk s)) := by
  refine Gd.eq ?_
  unfold F_frame_Valid
  refine Gd.call (shift_c _) ?_
  refine .ite (fun hsh => ?_) fun hsh => .f fun h => hsh (bP_t h.shp.sh)
  have hsh : ShOk s.sh := bP_iff.1 hsh
  refine .ite (fun h2 => .f fun h => by have := h.shp.lo; omega) fun h2 => ?_
  refine .ite (fun h64 => .f fun h => by have := h.shp.hi; omega) fun h64 => ?_
  refine .pos (wu_sh hsh) ?_
  rw [shl_k hsh s.fs.length rfl (by omega)]
  refine .ite (fun hw => ?_) fun hw => .f fun h => hw (by rw [h.shp.wl])
  have hw : s.ws.length = s.fs.length * szS s := by omega
  obtain ⟨g1, g2, g3, g4, g5⟩ := sz_get hsh
  have hwl : s.fs.length * szS s ≤ 64 * 256 := Nat.mul_le_mul (by omega) g4
  refine Gd.bndR (P := fun z => (z = .inl () ∧ FmTo s s.fs.length ∧ UqF s.fs s.fs.length) ∨ (z = .inr false ∧ ¬ SpOk s)) ?_ (fun _ hP => ?_) (fun r hP => by
    rcases hP with ⟨h, _⟩ | ⟨h, hP⟩
    · cases h
    · injection h with h; rw [h, bP_f hP])
  · refine Gd.loop (fun x : Int × Int => ∃ k m : Nat, x = ((m : Int), (k : Int)) ∧ k ≤ s.fs.length ∧ FmTo s k ∧ BitsOf s.fs k m ∧ UqF s.fs k) _ (fun x => s.fs.length - x.2.toNat) ⟨0, 0, rfl, Nat.zero_le _, fun i _ h => absurd h (Nat.not_lt_zero _), ⟨by decide, fun j _ => by simp⟩, fun i j _ _ _ h => absurd h (Nat.not_lt_zero _)⟩ ?_
    rintro x ⟨k, m, rfl, hk, hfm, hbt, huq⟩
    dsimp only
    refine .ite (fun hlt => ?_) fun hlt => .out (.inl ⟨rfl, by have e : k = s.fs.length := (by omega); rw [e] at hfm huq; exact ⟨hfm, huq⟩⟩)
    have hlt : k < s.fs.length := by omega
    have hpart : k * szS s + szS s ≤ s.ws.length := by rw [hw, ← Nat.succ_mul]; exact Nat.mul_le_mul hlt (Nat.le_refl _)
    have hpart2 : (k + 1) * szS s = k * szS s + szS s := Nat.succ_mul _ _
    obtain ⟨i1, i2, i3⟩ := hW.at hlt
    unfold I64 at i1 i2 i3
    have hk1 : w64 ((k : Int) + 1) = ((k + 1 : Nat) : Int) := w64_in (by omega)
    rw [hk1]
    refine .atN hlt ?_
    refine .ite (fun h0 => ?_) fun h0 => ?_
    · refine .ite (fun f1 => ?_) fun f1 => .out (.inr ⟨rfl, not_free hlt h0 fun h => f1 h.2.1⟩)
      refine .ite (fun f2 => ?_) fun f2 => .out (.inr ⟨rfl, not_free hlt h0 fun h => f2 h.2.2.1⟩)
      rw [shl_k hsh k rfl (by omega), shl_k hsh (k + 1) rfl (by omega)]
      refine .pos ⟨by omega, by omega, by omega⟩ ?_
      rw [show ((k * szS s : Nat) : Int).toNat = k * szS s from Int.toNat_natCast _, show (((k + 1) * szS s : Nat) : Int).toNat = (k + 1) * szS s from Int.toNat_natCast _, part_e]
      refine .call (zero_c _ (by rw [List.length_take]; omega)) ?_
      refine .ite (fun f3 => ?_) fun f3 => .out (.inr ⟨rfl, not_free hlt h0 fun h => f3 (bP_t ((allz_iff rfl hpart).2 h.2.2.2))⟩)
      exact .go ⟨k + 1, m, rfl, hlt, hfm.step hlt (.inl ⟨h0, f1, f2, (allz_iff rfl hpart).1 (bP_iff.1 f3)⟩), hbt.skip hlt (by omega), huq.skip hlt f2⟩ (by dsimp only; omega)
    have nu : ¬ UsedF s k s.fs[k] → ¬ SpOk s := not_used hlt h0
    refine .ite (fun a1 => .out (.inr ⟨rfl, nu fun h => by have := (stp_iff.1 h.1).1; omega⟩)) fun a1 => ?_
    refine .ite (fun a2 => .out (.inr ⟨rfl, nu fun h => by have := (stp_iff.1 h.1).2.1; omega⟩)) fun a2 => ?_
    refine .ite (fun a3 => .out (.inr ⟨rfl, nu fun h => by have := (stp_iff.1 h.1).2.2.1; omega⟩)) fun a3 => ?_
    rw [Int.tmod_eq_emod_of_nonneg (by omega)]
    refine .ite (fun a4 => ?_) fun a4 => .out (.inr ⟨rfl, nu fun h => a4 (stp_iff.1 h.1).2.2.2.1⟩)
    rw [Int.tdiv_eq_ediv_of_nonneg (by omega), w64_in (n := s.fs[k].st / 4294967296) (by omega)]
    refine .ite (fun a5 => .out (.inr ⟨rfl, nu fun h => by have := (stp_iff.1 h.1).2.2.2.2; omega⟩)) fun a5 => ?_
    refine .ite (fun a6 => .out (.inr ⟨rfl, nu fun h => by have := h.2.1; omega⟩)) fun a6 => ?_
    refine .ite (fun a7 => .out (.inr ⟨rfl, nu fun h => by have := h.2.2.1; omega⟩)) fun a7 => ?_
    refine .ite (fun a8 => .out (.inr ⟨rfl, nu fun h => h.2.2.2.1 a8⟩)) fun a8 => ?_
    have hst0 : Stp s.fs[k].ow s.fs[k].st := stp_iff.2 ⟨by omega, by omega, by omega, a4, by omega⟩
    refine .ite (fun h5 => ?_) fun h5 => ?_
    · have hus : UsedF s k s.fs[k] := ⟨hst0, by omega, by omega, a8, fun j hj e => by omega⟩
      exact .go ⟨k + 1, m, rfl, hlt, hfm.step hlt (.inr hus), hbt.skip hlt h5, huq.skip hlt (by omega)⟩ (by dsimp only; omega)
    have hnl : s.fs[k].nx.toNat < s.fs.length := by omega
    refine .at (by omega) hnl ?_
    have e1 : wu s.fs[k].nx = ((s.fs[k].nx.toNat : Nat) : Int) := by rw [wu_in (by omega)]; omega
    rw [e1]
    refine .pos (by omega) ?_
    rw [shru (by have := hbt.1; omega) (by omega), bit_test hbt.1 (by omega), shlu1 (by omega)]
    by_cases hb : m.testBit s.fs[k].nx.toNat = true
    · rw [if_pos hb]
      refine .pos rfl ?_
      exact .out (.inr ⟨rfl, fun h => UqF.not hlt hbt (by omega) (by omega) hb h.uq⟩)
    rw [if_neg hb]
    refine .neg (by decide) ?_
    refine .ite (fun ho => ?_) fun ho => .out (.inr ⟨rfl, nu fun h => ho (h.2.2.2.2 s.fs[k].nx.toNat hnl (by omega)).1⟩)
    refine .ite (fun hst => ?_) fun hst => .out (.inr ⟨rfl, nu fun h => hst (h.2.2.2.2 s.fs[k].nx.toNat hnl (by omega)).2⟩)
    have hus : UsedF s k s.fs[k] := ⟨hst0, by omega, by omega, a8, fun j hj e => by
      have e2 : j = s.fs[k].nx.toNat := by omega
      subst e2
      exact ⟨ho, hst⟩⟩
    exact .go ⟨k + 1, m ||| 2 ^ s.fs[k].nx.toNat, by rw [(bit_set hbt.1 (by omega)).1], hlt, hfm.step hlt (.inr hus), hbt.set hlt (by omega) (by omega), huq.set (p := s.fs[k].nx.toNat) hlt hbt (by omega) (by omega) (by simpa using hb)⟩ (by dsimp only; omega)
  · obtain ⟨hfm, huq⟩ : FmTo s s.fs.length ∧ UqF s.fs s.fs.length := by
      rcases hP with ⟨_, h⟩ | ⟨h, _⟩
      · exact h
      · cases h
    have hfm' : ∀ i (h : i < s.fs.length), FreeF s i s.fs[i] ∨ UsedF s i s.fs[i] := fun i hi => hfm i hi hi
    refine .call (straight_c s (nxin_of hfm') (by omega)) ?_
    exact .b (bP_iff.trans ⟨fun h => ⟨⟨hsh, by omega, by omega, hw⟩, hfm', huq, h.ends (nxin_of hfm')⟩, fun h => h.ends.str⟩)
end Go.Proofs.Ythpnlnjdmlbnaaa
/- Remembered sets are valid: both checks answer the same. No program. -/
namespace Go.Proofs.Ythpnlnjdmlbnaaa
open Go.RowKit
set_option linter.unusedVariables false
set_option linter.unusedSimpArgs false

/-- numbers that rise -/
def Asc (l : List Int) : Prop := ∀ i (h : i + 1 < l.length), l[i] < l[i + 1]
def KeyLt (a b : RSet) : Prop := a.frm < b.frm ∨ (a.frm = b.frm ∧ a.to < b.to)
/-- a set is as it has to be -/
def SetOk (x : RSet) : Prop := (0 ≤ x.frm ∧ x.frm < 64) ∧ (0 ≤ x.to ∧ x.to < 64) ∧ 0 < x.slots.length ∧ (∀ h : 0 < x.slots.length, 0 ≤ x.slots[0]) ∧ Asc x.slots
/-- valid sets -/
def SetsOk (l : List RSet) : Prop := (∀ x ∈ l, SetOk x) ∧ ∀ i (h : i + 1 < l.length), KeyLt l[i] l[i + 1]
structure Rng (x : RSet) : Prop where
  f0 : 0 ≤ x.frm
  f1 : x.frm < 64
  t0 : 0 ≤ x.to
  t1 : x.to < 64
theorem SetOk.rng {x : RSet} (h : SetOk x) : Rng x := ⟨h.1.1, h.1.2, h.2.1.1, h.2.1.2⟩
theorem keyAt {l : List RSet} {i j i' j' : Nat} {hi : i < l.length} {hj : j < l.length} {hi' : i' < l.length} {hj' : j' < l.length} (e : i = i' ∧ j = j') (h : KeyLt l[i] l[j]) : KeyLt l[i'] l[j'] := by
  obtain ⟨rfl, rfl⟩ := e
  exact h
theorem in_c (x : Int) : F_remset_in x = some (bP (0 ≤ x ∧ x < 64)) := by
  unfold F_remset_in
  by_cases h : 0 ≤ x
  · rw [if_pos h]; exact some_b (by simp [h])
  · rw [if_neg h]; exact some_f fun hp => h hp.1
theorem number_c (x : Int) : F_ref18_number x = some (bP (0 ≤ x ∧ x < 64)) := in_c x
/-- how two pairs compare -/
noncomputable def cmpV (a b : RSet) : Int := if a.frm = b.frm then a.to - b.to else a.frm - b.frm
theorem compare_c {a b : RSet} (ha : Rng a) (hb : Rng b) : F_remset_compare a b = some (cmpV a b) := by
  obtain ⟨a1, a2, a3, a4⟩ := ha
  obtain ⟨b1, b2, b3, b4⟩ := hb
  unfold F_remset_compare cmpV
  by_cases h : a.frm = b.frm
  · rw [if_pos h, if_pos h, w64_in (by omega)]
  · rw [if_neg h, if_neg h, w64_in (by omega)]
theorem cmpV_neg {a b : RSet} (ha : Rng a) (hb : Rng b) : cmpV a b < 0 ↔ KeyLt a b := by
  unfold cmpV KeyLt
  by_cases h : a.frm = b.frm
  · rw [if_pos h]; omega
  · rw [if_neg h]; omega
theorem cmpV_zero {a b : RSet} : cmpV a b = 0 ↔ a.frm = b.frm ∧ a.to = b.to := by
  unfold cmpV
  by_cases h : a.frm = b.frm
  · rw [if_pos h]; omega
  · rw [if_neg h]; omega
theorem before_c (a b : RSet) : F_ref18_before a b = some (bP (KeyLt a b)) := by
  unfold F_ref18_before KeyLt
  by_cases h : a.frm < b.frm
  · rw [if_pos h]; exact some_t (.inl h)
  rw [if_neg h]
  by_cases h2 : a.frm = b.frm
  · rw [if_pos h2]; exact some_b (by rw [decide_eq_true_iff]; exact ⟨fun k => .inr ⟨h2, k⟩, fun k => by omega⟩)
  · rw [if_neg h2]; exact some_f (by omega)

set_option maxHeartbeats 1000000 in
theorem sets_c (l : List RSet) (hl : l.length ≤ 4294967296) (hsl : ∀ x ∈ l, x.slots.length ≤ 4294967296) : F_remset_Valid l = some (bP (SetsOk l)) := by
  refine Gd.eq ?_
  unfold F_remset_Valid
  refine Gd.bndR (P := fun z => (z = .inl () ∧ SetsOk l) ∨ (z = .inr false ∧ ¬ SetsOk l)) ?_ (fun _ hP => ?_) (fun r hP => ?_)
  · refine Gd.loop (fun x : Int => ∃ k : Nat, x = k ∧ k ≤ l.length ∧ (∀ i (h : i < l.length), i < k → SetOk l[i]) ∧ ∀ i (h : i + 1 < l.length), i + 1 < k → KeyLt l[i] l[i + 1]) _ (fun x => l.length - x.toNat) ⟨0, rfl, Nat.zero_le _, fun i _ h => absurd h (Nat.not_lt_zero _), fun i _ h => absurd h (Nat.not_lt_zero _)⟩ ?_
    rintro x ⟨k, rfl, hk, hok, hkey⟩
    refine .ite (fun hlt => ?_) fun hlt => .out (.inl ⟨rfl, fun x hx => ?_, fun i h => hkey i h (by omega)⟩)
    · have hlt : k < l.length := by omega
      have hk1 : w64 ((k : Int) + 1) = ((k + 1 : Nat) : Int) := w64_in (by omega)
      have hx := hsl _ (List.getElem_mem hlt)
      have nu : ¬ SetOk l[k] → ¬ SetsOk l := fun h k => h (k.1 _ (List.getElem_mem hlt))
      refine Gd.bndR (P := fun z => (z = .inl () ∧ SetOk l[k] ∧ ∀ h : k - 1 + 1 < l.length, 0 < k → KeyLt l[k - 1] l[k - 1 + 1]) ∨ (z = .inr (.out (.inr false)) ∧ ¬ SetsOk l)) ?_ (fun _ hP => ?_) (fun r hP => ?_)
      · refine .atN hlt ?_
        have hst : ∀ i (h : i < l.length), i < k → Rng l[i] := fun i h hik => (hok i h hik).rng
        refine .call (in_c _) ?_
        refine .ite (fun hf => ?_) fun hf => .some (.inr ⟨rfl, nu fun h => hf (bP_t h.1)⟩)
        obtain ⟨hf1, hf2⟩ := bP_iff.1 hf
        refine .call (in_c _) ?_
        refine .ite (fun ht => ?_) fun ht => .some (.inr ⟨rfl, nu fun h => ht (bP_t h.2.1)⟩)
        obtain ⟨ht1, ht2⟩ := bP_iff.1 ht
        have fin : (hkk : ∀ h : k - 1 + 1 < l.length, 0 < k → KeyLt l[k - 1] l[k - 1 + 1]) → (hn : ¬ (l[k].slots.length : Int) = 0) → (h0 : ¬ l[k].slots[0]'(by omega) < 0) → ∀ z : Unit ⊕ LS Int (Unit ⊕ Bool), ((z = .inl () ∧ Asc l[k].slots) ∨ (z = .inr (.out (.inr false)) ∧ ¬ Asc l[k].slots)) → (z = .inl () ∧ SetOk l[k] ∧ ∀ h : k - 1 + 1 < l.length, 0 < k → KeyLt l[k - 1] l[k - 1 + 1]) ∨ (z = .inr (.out (.inr false)) ∧ ¬ SetsOk l) := fun hkk hn h0 z hz => by
          rcases hz with ⟨rfl, h⟩ | ⟨rfl, h⟩
          · exact .inl ⟨rfl, ⟨⟨hf1, hf2⟩, ⟨ht1, ht2⟩, by omega, fun _ => by omega, h⟩, hkk⟩
          · exact .inr ⟨rfl, nu fun k => h k.2.2.2.2⟩
        refine .ite (fun h0 => ?_) fun h0 => ?_
        ·
          have e3 : w64 ((k : Int) - 1) = ((k - 1 : Nat) : Int) := by rw [w64_in (by omega)]; omega
          rw [e3]
          refine .atN (show k - 1 < l.length by omega) ?_
          refine .call (compare_c (hst (k - 1) (by omega) (by omega)) ⟨hf1, hf2, ht1, ht2⟩) ?_
          refine .ite (fun hlt2 => .some (.inr ⟨rfl, fun h => by have := (cmpV_neg (hst (k - 1) (by omega) (by omega)) ⟨hf1, hf2, ht1, ht2⟩).2 (h.2 (k - 1) (by omega) |> keyAt (by omega)); omega⟩)) fun hlt2 => ?_
          have hky : KeyLt l[k - 1] l[k] := (cmpV_neg (hst (k - 1) (by omega) (by omega)) ⟨hf1, hf2, ht1, ht2⟩).1 (by omega)
          have hkk : ∀ h : k - 1 + 1 < l.length, 0 < k → KeyLt l[k - 1] l[k - 1 + 1] := fun h _ => keyAt (by omega) hky
          refine .ite (fun hn => .some (.inr ⟨rfl, nu fun h => by have := h.2.2.1; omega⟩)) fun hn => ?_
          refine .at0 (show 0 < l[k].slots.length by omega) ?_
          refine .ite (fun hs0 => .some (.inr ⟨rfl, nu fun h => by have := h.2.2.2.1 (by omega); omega⟩)) fun hs0 => ?_
          refine Gd.mono ?_ (fin hkk hn hs0)
          refine Gd.loop (fun x : Int => ∃ i : Nat, x = i ∧ 1 ≤ i ∧ i ≤ l[k].slots.length ∧ ∀ j (h : j + 1 < l[k].slots.length), j + 1 < i → l[k].slots[j] < l[k].slots[j + 1]) _ (fun x => l[k].slots.length - x.toNat) ⟨1, rfl, Nat.le_refl _, by omega, fun j _ h => by omega⟩ ?_
          rintro x ⟨i, rfl, hi1, hi2, hasc⟩
          refine .ite (fun hi => ?_) fun hi => .out (.inl ⟨rfl, fun j h => hasc j h (by omega)⟩)
          have hi : i < l[k].slots.length := by omega
          have e2 : w64 ((i : Int) - 1) = ((i - 1 : Nat) : Int) := by rw [w64_in (by omega)]; omega
          have e4 : w64 ((i : Int) + 1) = ((i + 1 : Nat) : Int) := w64_in (by omega)
          rw [e2, e4]
          refine .atN hi ?_
          refine .atN (show i - 1 < _ by omega) ?_
          refine .ite (fun hle => .out (.inr ⟨rfl, fun h => by have := h (i - 1) (by omega); simp only [show i - 1 + 1 = i by omega] at this; omega⟩)) fun hle => ?_
          refine .go ⟨i + 1, rfl, by omega, hi, fun j h hj => ?_⟩ (by omega)
          by_cases h5 : j + 1 = i
          · obtain rfl : j = i - 1 := by omega
            simp only [show i - 1 + 1 = i by omega]
            omega
          · exact hasc j h (by omega)
        ·
          have hkk : ∀ h : k - 1 + 1 < l.length, 0 < k → KeyLt l[k - 1] l[k - 1 + 1] := fun h h' => absurd h' (by omega)
          refine .ite (fun hn => .some (.inr ⟨rfl, nu fun h => by have := h.2.2.1; omega⟩)) fun hn => ?_
          refine .at0 (show 0 < l[k].slots.length by omega) ?_
          refine .ite (fun hs0 => .some (.inr ⟨rfl, nu fun h => by have := h.2.2.2.1 (by omega); omega⟩)) fun hs0 => ?_
          refine Gd.mono ?_ (fin hkk hn hs0)
          refine Gd.loop (fun x : Int => ∃ i : Nat, x = i ∧ 1 ≤ i ∧ i ≤ l[k].slots.length ∧ ∀ j (h : j + 1 < l[k].slots.length), j + 1 < i → l[k].slots[j] < l[k].slots[j + 1]) _ (fun x => l[k].slots.length - x.toNat) ⟨1, rfl, Nat.le_refl _, by omega, fun j _ h => by omega⟩ ?_
          rintro x ⟨i, rfl, hi1, hi2, hasc⟩
          refine .ite (fun hi => ?_) fun hi => .out (.inl ⟨rfl, fun j h => hasc j h (by omega)⟩)
          have hi : i < l[k].slots.length := by omega
          have e2 : w64 ((i : Int) - 1) = ((i - 1 : Nat) : Int) := by rw [w64_in (by omega)]; omega
          have e4 : w64 ((i : Int) + 1) = ((i + 1 : Nat) : Int) := w64_in (by omega)
          rw [e2, e4]
          refine .atN hi ?_
          refine .atN (show i - 1 < _ by omega) ?_
          refine .ite (fun hle => .out (.inr ⟨rfl, fun h => by have := h (i - 1) (by omega); simp only [show i - 1 + 1 = i by omega] at this; omega⟩)) fun hle => ?_
          refine .go ⟨i + 1, rfl, by omega, hi, fun j h hj => ?_⟩ (by omega)
          by_cases h5 : j + 1 = i
          · obtain rfl : j = i - 1 := by omega
            simp only [show i - 1 + 1 = i by omega]
            omega
          · exact hasc j h (by omega)
      · rcases hP with ⟨_, h1, h2⟩ | ⟨h, _⟩
        · rw [hk1]
          refine .go ⟨k + 1, rfl, hlt, fun i h hi => ?_, fun i h hi => ?_⟩ (by omega)
          · by_cases h3 : i = k
            · subst h3; exact h1
            · exact hok i h (by omega)
          · by_cases h3 : i + 1 = k
            · obtain rfl : i = k - 1 := by omega
              exact h2 h (by omega)
            · exact hkey i h (by omega)
        · cases h
      · rcases hP with ⟨h, _⟩ | ⟨h, hP⟩
        · cases h
        · injection h with h
          subst h
          exact .inr ⟨rfl, hP⟩
    · obtain ⟨i, hi, rfl⟩ := List.mem_iff_getElem.1 hx
      exact hok i hi (by omega)
  · rcases hP with ⟨_, h⟩ | ⟨h, _⟩
    · exact .t h
    · cases h
  · rcases hP with ⟨h, _⟩ | ⟨h, hP⟩
    · cases h
    · injection h with h; rw [h, bP_f hP]

set_option maxHeartbeats 1000000 in
theorem rsets_c (l : List RSet) (hl : l.length ≤ 4294967296) (hsl : ∀ x ∈ l, x.slots.length ≤ 4294967296) : F_ref18_Valid l = some (bP (SetsOk l)) := by
  refine Gd.eq ?_
  unfold F_ref18_Valid
  refine Gd.bndR (P := fun z => (z = .inl () ∧ SetsOk l) ∨ (z = .inr false ∧ ¬ SetsOk l)) ?_ (fun _ hP => ?_) (fun r hP => ?_)
  · refine Gd.loop (fun x : Int => ∃ k : Nat, x = k ∧ k ≤ l.length ∧ (∀ i (h : i < l.length), i < k → SetOk l[i]) ∧ ∀ i (h : i + 1 < l.length), i + 1 < k → KeyLt l[i] l[i + 1]) _ (fun x => l.length - x.toNat) ⟨0, rfl, Nat.zero_le _, fun i _ h => absurd h (Nat.not_lt_zero _), fun i _ h => absurd h (Nat.not_lt_zero _)⟩ ?_
    rintro x ⟨k, rfl, hk, hok, hkey⟩
    refine .ite (fun hlt => ?_) fun hlt => .out (.inl ⟨rfl, fun x hx => ?_, fun i h => hkey i h (by omega)⟩)
    · have hlt : k < l.length := by omega
      have hk1 : w64 ((k : Int) + 1) = ((k + 1 : Nat) : Int) := w64_in (by omega)
      have hx := hsl _ (List.getElem_mem hlt)
      have nu : ¬ SetOk l[k] → ¬ SetsOk l := fun h k => h (k.1 _ (List.getElem_mem hlt))
      refine Gd.bndR (P := fun z => (z = .inl () ∧ SetOk l[k] ∧ ∀ h : k - 1 + 1 < l.length, 0 < k → KeyLt l[k - 1] l[k - 1 + 1]) ∨ (z = .inr (.out (.inr false)) ∧ ¬ SetsOk l)) ?_ (fun _ hP => ?_) (fun r hP => ?_)
      · refine .atN hlt ?_
        have hst : ∀ i (h : i < l.length), i < k → Rng l[i] := fun i h hik => (hok i h hik).rng
        refine .call (number_c _) ?_
        refine .ite (fun hf => ?_) fun hf => .some (.inr ⟨rfl, nu fun h => hf (bP_t h.1)⟩)
        obtain ⟨hf1, hf2⟩ := bP_iff.1 hf
        refine .call (number_c _) ?_
        refine .ite (fun ht => ?_) fun ht => .some (.inr ⟨rfl, nu fun h => ht (bP_t h.2.1)⟩)
        obtain ⟨ht1, ht2⟩ := bP_iff.1 ht
        have fin : (hkk : ∀ h : k - 1 + 1 < l.length, 0 < k → KeyLt l[k - 1] l[k - 1 + 1]) → (hn : ¬ (l[k].slots.length : Int) = 0) → (h0 : ¬ l[k].slots[0]'(by omega) < 0) → ∀ z : Unit ⊕ LS Int (Unit ⊕ Bool), ((z = .inl () ∧ Asc l[k].slots) ∨ (z = .inr (.out (.inr false)) ∧ ¬ Asc l[k].slots)) → (z = .inl () ∧ SetOk l[k] ∧ ∀ h : k - 1 + 1 < l.length, 0 < k → KeyLt l[k - 1] l[k - 1 + 1]) ∨ (z = .inr (.out (.inr false)) ∧ ¬ SetsOk l) := fun hkk hn h0 z hz => by
          rcases hz with ⟨rfl, h⟩ | ⟨rfl, h⟩
          · exact .inl ⟨rfl, ⟨⟨hf1, hf2⟩, ⟨ht1, ht2⟩, by omega, fun _ => by omega, h⟩, hkk⟩
          · exact .inr ⟨rfl, nu fun k => h k.2.2.2.2⟩
        refine .ite (fun h0 => ?_) fun h0 => ?_
        ·
          have e3 : w64 ((k : Int) - 1) = ((k - 1 : Nat) : Int) := by rw [w64_in (by omega)]; omega
          rw [e3]
          refine .atN (show k - 1 < l.length by omega) ?_
          refine .call (before_c _ _) ?_
          refine .ite (fun hlt2 => ?_) fun hlt2 => .some (.inr ⟨rfl, fun h => hlt2 (bP_t (h.2 (k - 1) (by omega) |> keyAt (by omega)))⟩)
          have hky : KeyLt l[k - 1] l[k] := bP_iff.1 hlt2
          have hkk : ∀ h : k - 1 + 1 < l.length, 0 < k → KeyLt l[k - 1] l[k - 1 + 1] := fun h _ => keyAt (by omega) hky
          refine .ite (fun hn => .some (.inr ⟨rfl, nu fun h => by have := h.2.2.1; omega⟩)) fun hn => ?_
          refine .at0 (show 0 < l[k].slots.length by omega) ?_
          refine .ite (fun hs0 => .some (.inr ⟨rfl, nu fun h => by have := h.2.2.2.1 (by omega); omega⟩)) fun hs0 => ?_
          refine Gd.mono ?_ (fin hkk hn hs0)
          refine Gd.loop (fun x : Int => ∃ i : Nat, x = i ∧ 1 ≤ i ∧ i ≤ l[k].slots.length ∧ ∀ j (h : j + 1 < l[k].slots.length), j + 1 < i → l[k].slots[j] < l[k].slots[j + 1]) _ (fun x => l[k].slots.length - x.toNat) ⟨1, rfl, Nat.le_refl _, by omega, fun j _ h => by omega⟩ ?_
          rintro x ⟨i, rfl, hi1, hi2, hasc⟩
          refine .ite (fun hi => ?_) fun hi => .out (.inl ⟨rfl, fun j h => hasc j h (by omega)⟩)
          have hi : i < l[k].slots.length := by omega
          have e2 : w64 ((i : Int) - 1) = ((i - 1 : Nat) : Int) := by rw [w64_in (by omega)]; omega
          have e4 : w64 ((i : Int) + 1) = ((i + 1 : Nat) : Int) := w64_in (by omega)
          rw [e2, e4]
          refine .atN (show i - 1 < _ by omega) ?_
          refine .atN hi ?_
          refine .ite (fun hle => .out (.inr ⟨rfl, fun h => by have := h (i - 1) (by omega); simp only [show i - 1 + 1 = i by omega] at this; omega⟩)) fun hle => ?_
          refine .go ⟨i + 1, rfl, by omega, hi, fun j h hj => ?_⟩ (by omega)
          by_cases h5 : j + 1 = i
          · obtain rfl : j = i - 1 := by omega
            simp only [show i - 1 + 1 = i by omega]
            omega
          · exact hasc j h (by omega)
        ·
          have hkk : ∀ h : k - 1 + 1 < l.length, 0 < k → KeyLt l[k - 1] l[k - 1 + 1] := fun h h' => absurd h' (by omega)
          refine .ite (fun hn => .some (.inr ⟨rfl, nu fun h => by have := h.2.2.1; omega⟩)) fun hn => ?_
          refine .at0 (show 0 < l[k].slots.length by omega) ?_
          refine .ite (fun hs0 => .some (.inr ⟨rfl, nu fun h => by have := h.2.2.2.1 (by omega); omega⟩)) fun hs0 => ?_
          refine Gd.mono ?_ (fin hkk hn hs0)
          refine Gd.loop (fun x : Int => ∃ i : Nat, x = i ∧ 1 ≤ i ∧ i ≤ l[k].slots.length ∧ ∀ j (h : j + 1 < l[k].slots.length), j + 1 < i → l[k].slots[j] < l[k].slots[j + 1]) _ (fun x => l[k].slots.length - x.toNat) ⟨1, rfl, Nat.le_refl _, by omega, fun j _ h => by omega⟩ ?_
          rintro x ⟨i, rfl, hi1, hi2, hasc⟩
          refine .ite (fun hi => ?_) fun hi => .out (.inl ⟨rfl, fun j h => hasc j h (by omega)⟩)
          have hi : i < l[k].slots.length := by omega
          have e2 : w64 ((i : Int) - 1) = ((i - 1 : Nat) : Int) := by rw [w64_in (by omega)]; omega
          have e4 : w64 ((i : Int) + 1) = ((i + 1 : Nat) : Int) := w64_in (by omega)
          rw [e2, e4]
          refine .atN (show i - 1 < _ by omega) ?_
          refine .atN hi ?_
          refine .ite (fun hle => .out (.inr ⟨rfl, fun h => by have := h (i - 1) (by omega); simp only [show i - 1 + 1 = i by omega] at this; omega⟩)) fun hle => ?_
          refine .go ⟨i + 1, rfl, by omega, hi, fun j h hj => ?_⟩ (by omega)
          by_cases h5 : j + 1 = i
          · obtain rfl : j = i - 1 := by omega
            simp only [show i - 1 + 1 = i by omega]
            omega
          · exact hasc j h (by omega)
      · rcases hP with ⟨_, h1, h2⟩ | ⟨h, _⟩
        · rw [hk1]
          refine .go ⟨k + 1, rfl, hlt, fun i h hi => ?_, fun i h hi => ?_⟩ (by omega)
          · by_cases h3 : i = k
            · subst h3; exact h1
            · exact hok i h (by omega)
          · by_cases h3 : i + 1 = k
            · obtain rfl : i = k - 1 := by omega
              exact h2 h (by omega)
            · exact hkey i h (by omega)
        · cases h
      · rcases hP with ⟨h, _⟩ | ⟨h, hP⟩
        · cases h
        · injection h with h
          subst h
          exact .inr ⟨rfl, hP⟩
    · obtain ⟨i, hi, rfl⟩ := List.mem_iff_getElem.1 hx
      exact hok i hi (by omega)
  · rcases hP with ⟨_, h⟩ | ⟨h, _⟩
    · exact .t h
    · cases h
  · rcases hP with ⟨h, _⟩ | ⟨h, hP⟩
    · cases h
    · injection h with h; rw [h, bP_f hP]
end Go.Proofs.Ythpnlnjdmlbnaaa
/- Remembered sets: where a slot stands, and how it is inserted: the program and the reference put it at the same place. No program. -/
namespace Go.Proofs.Ythpnlnjdmlbnaaa
open Go.RowKit
set_option linter.unusedVariables false
set_option linter.unusedSimpArgs false

theorem findIdx_unique {α : Type} {p : α → Bool} : ∀ {l : List α} {i : Nat}, i ≤ l.length → (∀ j (h : j < l.length), j < i → p l[j] = false) → (∀ h : i < l.length, p l[i] = true) → l.findIdx p = i
  | [], i, hi, _, _ => by simp at hi; subst hi; rfl
  | x :: l, 0, _, _, h2 => by
    have : p x = true := h2 (by simp)
    rw [List.findIdx_cons, this]; rfl
  | x :: l, i + 1, hi, h1, h2 => by
    have h0 : p x = false := h1 0 (by simp) (by omega)
    have := findIdx_unique (p := p) (l := l) (i := i) (by simpa using hi) (fun j h hj => by
      have := h1 (j + 1) (by simpa using h) (by omega)
      simpa using this) (fun h => by
      have := h2 (by simpa using h)
      simpa using this)
    rw [List.findIdx_cons, h0, this]; rfl
theorem findIdx_le {α : Type} (p : α → Bool) (l : List α) : l.findIdx p ≤ l.length := List.findIdx_le_length
/-- the place of a pair, and of a slot -/
noncomputable def posK (l : List RSet) (t : RSet) : Nat := l.findIdx fun x => !bP (KeyLt x t)
noncomputable def posI (l : List Int) (s : Int) : Nat := l.findIdx fun x => !bP (x < s)
theorem KeyLt.trans {a b c : RSet} (h : KeyLt a b) (k : KeyLt b c) : KeyLt a c := by unfold KeyLt at *; omega
theorem KeyLt.irrefl {a : RSet} (h : KeyLt a a) : False := by unfold KeyLt at h; omega
theorem adj_all {α : Type} {R : α → α → Prop} (ht : ∀ {a b c}, R a b → R b c → R a c) {l : List α} (h : ∀ i (h : i + 1 < l.length), R l[i] l[i + 1]) : ∀ (d i : Nat) (hj : i + d + 1 < l.length), R (l[i]'(by omega)) l[i + d + 1]
  | 0, i, hj => h i hj
  | d + 1, i, hj => ht (b := l[i + d + 1]'(by omega)) (adj_all (l := l) @ht h d i (by omega)) (h (i + d + 1) hj)
theorem SetsOk.lt {l : List RSet} (h : SetsOk l) {i j : Nat} (hij : i < j) (hj : j < l.length) : KeyLt (l[i]'(by omega)) l[j] := by
  obtain ⟨d, rfl⟩ : ∃ d, j = i + d + 1 := ⟨j - i - 1, by omega⟩
  exact adj_all (R := KeyLt) KeyLt.trans h.2 d i hj
theorem Asc.lt {l : List Int} (h : Asc l) {i j : Nat} (hij : i < j) (hj : j < l.length) : l[i]'(by omega) < l[j] := by
  obtain ⟨d, rfl⟩ : ∃ d, j = i + d + 1 := ⟨j - i - 1, by omega⟩
  exact adj_all (R := fun a b : Int => a < b) (fun a b => by omega) h d i hj
theorem posK_of {l : List RSet} {t : RSet} {i : Nat} (hi : i ≤ l.length) (h1 : ∀ j (h : j < l.length), j < i → KeyLt l[j] t) (h2 : ∀ h : i < l.length, ¬ KeyLt l[i] t) : posK l t = i :=
  findIdx_unique hi (fun j h hj => by rw [bP_t (h1 j h hj)]; rfl) fun h => by rw [bP_f (h2 h)]; rfl
theorem posI_of {l : List Int} {s : Int} {i : Nat} (hi : i ≤ l.length) (h1 : ∀ j (h : j < l.length), j < i → l[j] < s) (h2 : ∀ h : i < l.length, ¬ l[i] < s) : posI l s = i :=
  findIdx_unique hi (fun j h hj => by rw [bP_t (h1 j h hj)]; rfl) fun h => by rw [bP_f (h2 h)]; rfl
theorem posK_le (l : List RSet) (t : RSet) : posK l t ≤ l.length := findIdx_le _ _
theorem posI_le (l : List Int) (s : Int) : posI l s ≤ l.length := findIdx_le _ _
theorem mid {i j : Nat} (h : i + j ≤ 9223372036854775807) : w64 (shrN .u64 (wu (w64 ((i : Int) + (j : Int)))) 1) = (((i + j) / 2 : Nat) : Int) := by
  rw [w64_in (n := (i : Int) + (j : Int)) (by omega), wu_in (by omega)]
  have := shru (a := (i : Int) + (j : Int)) (j := 1) (by omega) (by omega)
  rw [show ((1 : Nat) : Int) = 1 from rfl] at this
  rw [this, w64_in (by omega)]
  omega
/-- the search for a pair -/
theorem find_c {l : List RSet} (hl : SetsOk l) (hlen : l.length ≤ 4294967296) {t : RSet} (ht : Rng t) : F_slices_Set_ l t = some (((posK l t : Nat) : Int), bP (∃ h : posK l t < l.length, l[posK l t].frm = t.frm ∧ l[posK l t].to = t.to)) := by
  refine Gd.eq ?_
  unfold F_slices_Set_
  have hr : ∀ i (h : i < l.length), Rng l[i] := fun i h => (hl.1 _ (List.getElem_mem h)).rng
  refine Gd.bind (P := fun b : Int => b = (posK l t : Nat)) ?_ fun b hb => ?_
  · refine Gd.loop (fun x : Int × Int => ∃ i j : Nat, x = ((i : Int), (j : Int)) ∧ i ≤ j ∧ j ≤ l.length ∧ (∀ a (h : a < l.length), a < i → KeyLt l[a] t) ∧ ∀ a (h : a < l.length), j ≤ a → ¬ KeyLt l[a] t) _ (fun x => (x.2 - x.1).toNat) ⟨0, l.length, rfl, Nat.zero_le _, Nat.le_refl _, fun a _ h => absurd h (Nat.not_lt_zero _), fun a h k => by omega⟩ ?_
    rintro x ⟨i, j, rfl, hij, hj, h1, h2⟩
    dsimp only
    refine .ite (fun hlt => ?_) fun hlt => .out (by rw [posK_of (i := i) (by omega) h1 fun h => h2 i h (by omega)])
    rw [mid (by omega)]
    have hm : (i + j) / 2 < l.length := by omega
    have e1 : w64 ((((i + j) / 2 : Nat) : Int) + 1) = (((i + j) / 2 + 1 : Nat) : Int) := w64_in (by omega)
    rw [e1]
    refine .atN hm ?_
    refine .call (compare_c (hr _ hm) ht) ?_
    refine .ite (fun hc => ?_) fun hc => ?_
    · have hc := (cmpV_neg (hr _ hm) ht).1 hc
      refine .go ⟨(i + j) / 2 + 1, j, rfl, by omega, hj, fun a h ha => ?_, h2⟩ (by dsimp only; omega)
      by_cases h3 : a = (i + j) / 2
      · subst h3; exact hc
      · exact (hl.lt (show a < (i + j) / 2 by omega) hm).trans hc
    · have hc : ¬ KeyLt l[(i + j) / 2] t := fun h => hc ((cmpV_neg (hr _ hm) ht).2 h)
      refine .go ⟨i, (i + j) / 2, rfl, by omega, by omega, h1, fun a h ha k => ?_⟩ (by dsimp only; omega)
      by_cases h3 : a = (i + j) / 2
      · subst h3; exact hc k
      · exact hc ((hl.lt (show (i + j) / 2 < a by omega) h).trans k)
  · subst hb
    refine .ite (fun h => ?_) fun h => .some (by rw [bP_f (fun k => by obtain ⟨k, _⟩ := k; omega)])
    have h : posK l t < l.length := by omega
    refine .atN h ?_
    refine .call (compare_c (hr _ h) ht) ?_
    refine .some (congrArg _ ?_)
    by_cases h0 : cmpV l[posK l t] t = 0
    · rw [bP_t ⟨h, cmpV_zero.1 h0⟩]; exact decide_eq_true h0
    · rw [bP_f fun ⟨_, k⟩ => h0 (cmpV_zero.2 k)]; exact decide_eq_false h0
theorem less_c (a b : Int) : F_cmp_Less_int_ a b = some (decide (a < b)) := by
  unfold F_cmp_Less_int_ F_cmp_isNaN_int_
  simp
/-- the search for a slot -/
theorem bs_c {l : List Int} (hl : Asc l) (hlen : l.length ≤ 4294967296) (t : Int) : F_slices_BinarySearch___int_int_ l t = some (((posI l t : Nat) : Int), bP (∃ h : posI l t < l.length, l[posI l t] = t)) := by
  refine Gd.eq ?_
  unfold F_slices_BinarySearch___int_int_
  refine Gd.bind (P := fun b : Int => b = (posI l t : Nat)) ?_ fun b hb => ?_
  · refine Gd.loop (fun x : Int × Int => ∃ i j : Nat, x = ((i : Int), (j : Int)) ∧ i ≤ j ∧ j ≤ l.length ∧ (∀ a (h : a < l.length), a < i → l[a] < t) ∧ ∀ a (h : a < l.length), j ≤ a → ¬ l[a] < t) _ (fun x => (x.2 - x.1).toNat) ⟨0, l.length, rfl, Nat.zero_le _, Nat.le_refl _, fun a _ h => absurd h (Nat.not_lt_zero _), fun a h k => by omega⟩ ?_
    rintro x ⟨i, j, rfl, hij, hj, h1, h2⟩
    dsimp only
    refine .ite (fun hlt => ?_) fun hlt => .out (by rw [posI_of (i := i) (by omega) h1 fun h => h2 i h (by omega)])
    rw [mid (by omega)]
    have hm : (i + j) / 2 < l.length := by omega
    have e1 : w64 ((((i + j) / 2 : Nat) : Int) + 1) = (((i + j) / 2 + 1 : Nat) : Int) := w64_in (by omega)
    rw [e1]
    refine .atN hm ?_
    refine .call (less_c _ _) ?_
    refine .ite (fun hc => ?_) fun hc => ?_
    · have hc := of_decide_eq_true hc
      refine .go ⟨(i + j) / 2 + 1, j, rfl, by omega, hj, fun a h ha => ?_, h2⟩ (by dsimp only; omega)
      by_cases h3 : a = (i + j) / 2
      · subst h3; exact hc
      · have := hl.lt (show a < (i + j) / 2 by omega) hm; omega
    · have hc : ¬ l[(i + j) / 2] < t := fun h => hc (decide_eq_true h)
      refine .go ⟨i, (i + j) / 2, rfl, by omega, by omega, h1, fun a h ha k => ?_⟩ (by dsimp only; omega)
      by_cases h3 : a = (i + j) / 2
      · subst h3; exact hc k
      · have := hl.lt (show (i + j) / 2 < a by omega) h; omega
  · subst hb
    refine .ite (fun h => ?_) fun h => .some (by rw [bP_f (fun k => by obtain ⟨k, _⟩ := k; omega)])
    have h : posI l t < l.length := by omega
    refine .atN h ?_
    refine .ite (fun h0 => .some (by rw [bP_t ⟨h, h0⟩])) fun h0 => ?_
    refine .call (show F_slices_isNaN_int_ _ = some false by unfold F_slices_isNaN_int_; simp) ?_
    refine .neg (by decide) ?_
    exact .some (by rw [bP_f fun ⟨_, k⟩ => h0 k])
theorem clone_c (l : List RSet) (hl : l.length ≤ 1000000) (hs : ∀ x ∈ l, x.slots.length ≤ 4294967296) : F_clone_Sets l = some l := by
  refine Gd.eq ?_
  unfold F_clone_Sets
  refine Gd.bind (P := fun b => b = l) ?_ fun b hb => .some hb
  refine Gd.loop (fun x : List RSet × Int => ∃ k : Nat, x = (l.take k, (k : Int)) ∧ k ≤ l.length) _ (fun x => l.length - x.2.toNat) ⟨0, rfl, Nat.zero_le _⟩ ?_
  rintro x ⟨k, rfl, hk⟩
  dsimp only
  refine .ite (fun hlt => ?_) fun hlt => .out (List.take_of_length_le (by omega))
  have hlt : k < l.length := by omega
  have h1 := hs _ (List.getElem_mem hlt)
  refine .atN hlt ?_
  refine .pos ⟨by omega, by omega⟩ ?_
  rw [List.length_take]
  refine .pos ⟨by omega, by omega⟩ ?_
  have e1 : w64 ((k : Int) + 1) = ((k + 1 : Nat) : Int) := w64_in (by omega)
  rw [e1]
  exact .go ⟨k + 1, by rw [List.take_succ_eq_append_getElem hlt], hlt⟩ (by dsimp only; omega)
theorem rcopy_c (l : List RSet) (hl : l.length ≤ 1000000) (hs : ∀ x ∈ l, x.slots.length ≤ 4294967296) : F_ref18_Copy l = some l := clone_c l hl hs
/-- a slot inserted -/
noncomputable def withI (l : List Int) (s : Int) : List Int := open Classical in if ∃ h : posI l s < l.length, l[posI l s] = s then l else l.insertIdx (posI l s) s
noncomputable def putK (l : List RSet) (f t s : Int) : List RSet := open Classical in if h : ∃ h : posK l ⟨f, t, []⟩ < l.length, l[posK l ⟨f, t, []⟩].frm = f ∧ l[posK l ⟨f, t, []⟩].to = t
  then l.set (posK l ⟨f, t, []⟩) ⟨f, t, withI (l[posK l ⟨f, t, []⟩]'h.1).slots s⟩ else l.insertIdx (posK l ⟨f, t, []⟩) ⟨f, t, [s]⟩
theorem ins_eq {α : Type} (l : List α) (i : Nat) (x : α) : l.insertIdx i x = if i ≤ l.length then l.take i ++ [x] ++ l.drop i else l := by
  by_cases h : i ≤ l.length
  · rw [if_pos h]
    induction l generalizing i with
    | nil => obtain rfl : i = 0 := by simpa using h
             rfl
    | cons a l ih =>
      cases i with
      | zero => rfl
      | succ i => rw [List.insertIdx_succ_cons, ih i (by simpa using h)]; rfl
  · rw [if_neg h, List.insertIdx_of_length_lt (by omega)]
theorem rset_eta {x : RSet} {f t : Int} (h6 : x.frm = f) (h7 : x.to = t) : (⟨f, t, x.slots⟩ : RSet) = x := by subst h6 h7; rfl
theorem mk_eq {a b f t : Int} {y : List Int} (h : a = f) (k : b = t) : RSet.mk a b y = ⟨f, t, y⟩ := by rw [h, k]
/-- the program -/
theorem insert_c {l : List RSet} (hlen : l.length ≤ 100000) (hs : ∀ x ∈ l, x.slots.length ≤ 100000) (f t s : Int) :
    F_remset_Insert l f t s = some (open Classical in if SetsOk l ∧ (0 ≤ f ∧ f < 64) ∧ (0 ≤ t ∧ t < 64) ∧ 0 ≤ s then (putK l f t s, 0) else ([], 1)) := by
  refine Gd.eq ?_
  unfold F_remset_Insert
  refine .call (sets_c l (by omega) fun x hx => by have := hs x hx; omega) ?_
  refine .ite (fun h1 => ?_) fun h1 => .some (by rw [if_neg fun h => h1 (bP_t h.1)])
  have hok := bP_iff.1 h1
  refine .call (in_c _) ?_
  refine .ite (fun h2 => ?_) fun h2 => .some (by rw [if_neg fun h => h2 (bP_t h.2.1)])
  have hf := bP_iff.1 h2
  refine .call (in_c _) ?_
  refine .ite (fun h3 => ?_) fun h3 => .some (by rw [if_neg fun h => h3 (bP_t h.2.2.1)])
  have ht := bP_iff.1 h3
  refine .ite (fun h4 => .some (by rw [if_neg fun h => by omega])) fun h4 => ?_
  rw [if_pos ⟨hok, hf, ht, by omega⟩]
  refine .call (clone_c l (by omega) fun x hx => by have := hs x hx; omega) ?_
  refine .call (a := (((posK l ⟨f, t, []⟩ : Nat) : Int), bP (∃ h : posK l ⟨f, t, []⟩ < l.length, l[posK l ⟨f, t, []⟩].frm = f ∧ l[posK l ⟨f, t, []⟩].to = t))) (by
    unfold F_remset_find
    rw [find_c hok (by omega) (t := ⟨f, t, []⟩) ⟨hf.1, hf.2, ht.1, ht.2⟩]
    rfl) ?_
  dsimp only
  have hpl := posK_le l ⟨f, t, []⟩
  unfold putK
  refine .ite (fun h5 => ?_) fun h5 => ?_
  · have h5 := bP_iff.1 h5
    rw [dif_pos h5]
    obtain ⟨hil, h6, h7⟩ := h5
    have hso := hok.1 _ (List.getElem_mem hil)
    have hsl := hs _ (List.getElem_mem hil)
    refine .atN hil ?_
    refine .call (bs_c hso.2.2.2.2 (by omega) s) ?_
    dsimp only
    unfold withI
    refine .ite (fun h8 => ?_) fun h8 => ?_
    · rw [if_pos (bP_iff.1 h8)]
      refine .some (congrArg (fun x => (x, (0 : Int))) ?_)
      rw [rset_eta h6 h7, List.set_getElem_self]
    · rw [if_neg fun h => h8 (bP_t h)]
      have hp := posI_le l[posK l ⟨f, t, []⟩].slots s
      refine .call (a := l[posK l ⟨f, t, []⟩].slots.insertIdx (posI l[posK l ⟨f, t, []⟩].slots s) s) (by
        unfold F_slices_Insert_I insF
        dsimp only
        rw [if_pos ⟨by omega, by omega, by omega⟩, Int.toNat_natCast]) ?_
      rw [Int.toNat_natCast]
      exact .some (congrArg (fun x => (l.set _ x, (0 : Int))) (mk_eq h6 h7))
  · rw [dif_neg fun h => h5 (bP_t h)]
    refine .call (a := l.insertIdx (posK l ⟨f, t, []⟩) ⟨f, t, [s]⟩) (by
        unfold insF
        dsimp only
        rw [if_pos ⟨by omega, by omega, by omega⟩, Int.toNat_natCast]) ?_
    exact .some rfl
end Go.Proofs.Ythpnlnjdmlbnaaa
/- Remembered sets: the reference's insertion is the program's; which slots have to be remembered. No program. -/
namespace Go.Proofs.Ythpnlnjdmlbnaaa
open Go.RowKit
set_option linter.unusedVariables false
set_option linter.unusedSimpArgs false

theorem with_c {l : List Int} (hl : Asc l) (hlen : l.length ≤ 100000) (s : Int) : F_ref18_with l s = some (withI l s) := by
  refine Gd.eq ?_
  unfold F_ref18_with
  refine Gd.bind (P := fun b : Int => b = (posI l s : Nat)) ?_ fun b hb => ?_
  · refine Gd.loop (fun x : Int => ∃ i : Nat, x = i ∧ i ≤ l.length ∧ ∀ a (h : a < l.length), a < i → l[a] < s) _ (fun x => l.length - x.toNat) ⟨0, rfl, Nat.zero_le _, fun a _ h => absurd h (Nat.not_lt_zero _)⟩ ?_
    rintro x ⟨i, rfl, hi, h1⟩
    refine .ite (fun hlt => ?_) fun hlt => .out (by rw [posI_of hi h1 fun h => by omega])
    have hlt : i < l.length := by omega
    have e1 : w64 ((i : Int) + 1) = ((i + 1 : Nat) : Int) := w64_in (by omega)
    refine .atN hlt ?_
    rw [e1]
    refine .ite (fun hc => ?_) fun hc => .out (by rw [posI_of hi h1 fun _ => hc])
    refine .go ⟨i + 1, rfl, hlt, fun a h ha => ?_⟩ (by omega)
    by_cases h3 : a = i
    · subst h3; exact hc
    · exact h1 a h (by omega)
  · subst hb
    have hp := posI_le l s
    unfold withI
    have h2 : (l.take (posI l s)).length = posI l s := by rw [List.length_take]; omega
    have fin : ∀ {G : List Int → Prop}, G (l.insertIdx (posI l s) s) → Gd G (if (0 : Int) ≤ 0 ∧ (0 : Int) ≤ (posI l s : Nat) ∧ ((posI l s : Nat) : Int) ≤ l.length then
       if (((l.take (Int.toNat (posI l s : Nat))).drop (Int.toNat 0)).length : Int) * 8 ≤ 140737488355328 ∧ (((l.take (Int.toNat (posI l s : Nat))).drop (Int.toNat 0)).length : Int) ≤ 9223372036854775807 then
       if ((((l.take (Int.toNat (posI l s : Nat))).drop (Int.toNat 0)).length : Int) + [s].length) * 8 ≤ 140737488355328 ∧ (((l.take (Int.toNat (posI l s : Nat))).drop (Int.toNat 0)).length : Int) + [s].length ≤ 9223372036854775807 then
       if (0 : Int) ≤ (posI l s : Nat) ∧ ((posI l s : Nat) : Int) ≤ (l.length : Int) ∧ (l.length : Int) ≤ l.length then
       if (((((l.take (Int.toNat (posI l s : Nat))).drop (Int.toNat 0)) ++ [s]).length : Int) + ((l.take (Int.toNat (l.length : Int))).drop (Int.toNat (posI l s : Nat))).length) * 8 ≤ 140737488355328 ∧ ((((l.take (Int.toNat (posI l s : Nat))).drop (Int.toNat 0)) ++ [s]).length : Int) + ((l.take (Int.toNat (l.length : Int))).drop (Int.toNat (posI l s : Nat))).length ≤ 9223372036854775807 then
       some ((((l.take (Int.toNat (posI l s : Nat))).drop (Int.toNat 0)) ++ [s]) ++ ((l.take (Int.toNat (l.length : Int))).drop (Int.toNat (posI l s : Nat))))
       else none else none else none else none else none) := fun hG => by
      rw [Int.toNat_natCast, show (0 : Int).toNat = 0 from rfl, List.drop_zero, Int.toNat_natCast, List.take_length, List.length_append, List.length_drop, h2]
      simp only [List.length_cons, List.length_nil]
      refine .pos ⟨by omega, by omega, by omega⟩ (.pos ⟨by omega, by omega⟩ (.pos ⟨by omega, by omega⟩ (.pos ⟨by omega, by omega, by omega⟩ (.pos ⟨by omega, by omega⟩ (.some ?_)))))
      have := ins_eq l (posI l s) s
      rw [if_pos hp] at this
      rw [← this]
      exact hG
    refine .ite (fun h => ?_) fun h => ?_
    · have h : posI l s < l.length := by omega
      refine .atN h ?_
      refine .ite (fun h0 => .some (by rw [if_pos ⟨h, h0⟩])) fun h0 => ?_
      rw [if_neg fun ⟨_, k⟩ => h0 k]
      exact fin rfl
    · rw [if_neg fun ⟨k, _⟩ => h (by omega)]
      exact fin rfl
theorem put_c {l : List RSet} (hl : SetsOk l) (hlen : l.length ≤ 100000) (hs : ∀ x ∈ l, x.slots.length ≤ 100000) (f t s : Int) : F_ref18_Put l f t s = some (putK l f t s) := by
  refine Gd.eq ?_
  unfold F_ref18_Put
  refine Gd.bind (P := fun b : Int => b = (posK l ⟨f, t, []⟩ : Nat)) ?_ fun b hb => ?_
  · refine Gd.loop (fun x : Int => ∃ i : Nat, x = i ∧ i ≤ l.length ∧ ∀ a (h : a < l.length), a < i → KeyLt l[a] ⟨f, t, []⟩) _ (fun x => l.length - x.toNat) ⟨0, rfl, Nat.zero_le _, fun a _ h => absurd h (Nat.not_lt_zero _)⟩ ?_
    rintro x ⟨i, rfl, hi, h1⟩
    refine .ite (fun hlt => ?_) fun hlt => .out (by rw [posK_of hi h1 fun h => by omega])
    have hlt : i < l.length := by omega
    have e1 : w64 ((i : Int) + 1) = ((i + 1 : Nat) : Int) := w64_in (by omega)
    refine .atN hlt ?_
    refine .call (before_c _ _) ?_
    rw [e1]
    refine .ite (fun hc => ?_) fun hc => .out (by rw [posK_of hi h1 fun _ k => hc (bP_t k)])
    refine .go ⟨i + 1, rfl, hlt, fun a h ha => ?_⟩ (by omega)
    by_cases h3 : a = i
    · subst h3; exact bP_iff.1 hc
    · exact h1 a h (by omega)
  · subst hb
    refine .call (rcopy_c l (by omega) fun x hx => by have := hs x hx; omega) ?_
    have hp := posK_le l ⟨f, t, []⟩
    have h2 : (l.take (posK l ⟨f, t, []⟩)).length = posK l ⟨f, t, []⟩ := by rw [List.length_take]; omega
    have fin : ∀ {G : List RSet → Prop}, G (l.insertIdx (posK l ⟨f, t, []⟩) ⟨f, t, [s]⟩) → Gd G (if (0 : Int) ≤ (posK l ⟨f, t, []⟩ : Nat) ∧ ((posK l ⟨f, t, []⟩ : Nat) : Int) ≤ l.length then
       if (((l.take (Int.toNat (l.length : Int))).drop (Int.toNat (posK l ⟨f, t, []⟩ : Nat))).length : Int) * 40 ≤ 140737488355328 ∧ (((l.take (Int.toNat (l.length : Int))).drop (Int.toNat (posK l ⟨f, t, []⟩ : Nat))).length : Int) ≤ 9223372036854775807 then
       if (0 : Int) ≤ (posK l ⟨f, t, []⟩ : Nat) ∧ ((posK l ⟨f, t, []⟩ : Nat) : Int) ≤ l.length then
       if (((l.take (Int.toNat (posK l ⟨f, t, []⟩ : Nat))).length : Int) + [RSet.mk f t [s]].length) * 40 ≤ 140737488355328 ∧ ((l.take (Int.toNat (posK l ⟨f, t, []⟩ : Nat))).length : Int) + [RSet.mk f t [s]].length ≤ 9223372036854775807 then
       if ((((l.take (Int.toNat (posK l ⟨f, t, []⟩ : Nat))) ++ [RSet.mk f t [s]]).length : Int) + ((l.take (Int.toNat (l.length : Int))).drop (Int.toNat (posK l ⟨f, t, []⟩ : Nat))).length) * 40 ≤ 140737488355328 ∧ (((l.take (Int.toNat (posK l ⟨f, t, []⟩ : Nat))) ++ [RSet.mk f t [s]]).length : Int) + ((l.take (Int.toNat (l.length : Int))).drop (Int.toNat (posK l ⟨f, t, []⟩ : Nat))).length ≤ 9223372036854775807 then
       some (((l.take (Int.toNat (posK l ⟨f, t, []⟩ : Nat))) ++ [RSet.mk f t [s]]) ++ ((l.take (Int.toNat (l.length : Int))).drop (Int.toNat (posK l ⟨f, t, []⟩ : Nat))))
       else none else none else none else none else none) := fun hG => by
      rw [Int.toNat_natCast, Int.toNat_natCast, List.take_length, List.length_append, List.length_drop, h2]
      simp only [List.length_cons, List.length_nil]
      refine .pos ⟨by omega, by omega⟩ (.pos ⟨by omega, by omega⟩ (.pos ⟨by omega, by omega⟩ (.pos ⟨by omega, by omega⟩ (.pos ⟨by omega, by omega⟩ (.some ?_)))))
      have := ins_eq l (posK l ⟨f, t, []⟩) ⟨f, t, [s]⟩
      rw [if_pos hp] at this
      rw [← this]
      exact hG
    unfold putK
    refine .ite (fun h => ?_) fun h => ?_
    · have h : posK l ⟨f, t, []⟩ < l.length := by omega
      have hnot : ¬ KeyLt l[posK l ⟨f, t, []⟩] ⟨f, t, []⟩ := fun k => by
        have := List.findIdx_getElem (p := fun x => !bP (KeyLt x ⟨f, t, []⟩)) (xs := l) (w := h)
        simp only [Bool.not_eq_true'] at this
        have e : bP (KeyLt l[posK l ⟨f, t, []⟩] ⟨f, t, []⟩) = false := this
        rw [bP_t k] at e
        cases e
      refine .atN h ?_
      refine .call (before_c _ _) ?_
      refine .ite (fun h0 => ?_) fun h0 => ?_
      · have h0 := bP_iff.1 h0
        rw [dif_neg fun ⟨_, k1, k2⟩ => by unfold KeyLt at h0; dsimp only at h0; omega]
        exact fin rfl
      · have h0 : ¬ KeyLt ⟨f, t, []⟩ l[posK l ⟨f, t, []⟩] := fun k => h0 (bP_t k)
        have h6 : l[posK l ⟨f, t, []⟩].frm = f ∧ l[posK l ⟨f, t, []⟩].to = t := by unfold KeyLt at h0 hnot; dsimp only at h0 hnot; omega
        rw [dif_pos ⟨h, h6⟩]
        refine .call (with_c (hl.1 _ (List.getElem_mem h)).2.2.2.2 (hs _ (List.getElem_mem h)) s) ?_
        refine .atN h ?_
        rw [Int.toNat_natCast]
        exact .some (congrArg (fun x => l.set _ x) (mk_eq h6.1 h6.2))
    · rw [dif_neg fun ⟨k, _⟩ => h (by omega)]
      exact fin rfl
theorem same_ints_c (l : List Int) (h : l.length ≤ 4294967296) : F_ref18_SameInts l l = some true := by
  refine Gd.eq ?_
  unfold F_ref18_SameInts
  refine .pos rfl ?_
  refine Gd.bndR (P := fun z => z = .inl ()) ?_ (fun _ _ => .some rfl) (fun r h => by cases h)
  refine Gd.loop (fun x : Int => ∃ k : Nat, x = k ∧ k ≤ l.length) _ (fun x => l.length - x.toNat) ⟨0, rfl, Nat.zero_le _⟩ ?_
  rintro x ⟨k, rfl, hk⟩
  refine .ite (fun hlt => ?_) fun hlt => .out rfl
  have hlt : k < l.length := by omega
  have e1 : w64 ((k : Int) + 1) = ((k + 1 : Nat) : Int) := w64_in (by omega)
  rw [e1]
  exact .atN hlt (.atN hlt (.pos rfl (.go ⟨k + 1, rfl, hlt⟩ (by omega))))
theorem same_c (l : List RSet) (hl : l.length ≤ 4294967296) (h : ∀ x ∈ l, x.slots.length ≤ 4294967296) : F_ref18_Same l l = some true := by
  refine Gd.eq ?_
  unfold F_ref18_Same
  refine .pos rfl ?_
  refine Gd.bndR (P := fun z => z = .inl ()) ?_ (fun _ _ => .some rfl) (fun r h => by cases h)
  refine Gd.loop (fun x : Int => ∃ k : Nat, x = k ∧ k ≤ l.length) _ (fun x => l.length - x.toNat) ⟨0, rfl, Nat.zero_le _⟩ ?_
  rintro x ⟨k, rfl, hk⟩
  refine .ite (fun hlt => ?_) fun hlt => .out rfl
  have hlt : k < l.length := by omega
  have e1 : w64 ((k : Int) + 1) = ((k + 1 : Nat) : Int) := w64_in (by omega)
  rw [e1]
  exact .atN hlt (.atN hlt (.pos rfl (.pos rfl (.call (same_ints_c _ (h _ (List.getElem_mem hlt))) (.pos rfl (.go ⟨k + 1, rfl, hlt⟩ (by omega)))))))
end Go.Proofs.Ythpnlnjdmlbnaaa
/- The barrier: which slots have to be remembered, and what Record returns: the program and the reference agree. No program. -/
namespace Go.Proofs.Ythpnlnjdmlbnaaa
open Go.RowKit
set_option linter.unusedVariables false
set_option linter.unusedSimpArgs false

theorem shr_k {s : Sp} (hs : ShOk s.sh) {a : Int} (n : Nat) (ha : a = n) : shrN .i64 a (wu s.sh) = ((n / szS s : Nat) : Int) := by
  obtain ⟨g1, g2, g3, g4, g5⟩ := sz_get hs
  subst ha
  rw [wu_in (by omega)]
  unfold shrN
  rw [Nat.min_eq_left (show s.sh.toNat ≤ IntKind.i64.bits from (by show _ ≤ 64; omega)), Int.fdiv_eq_ediv_of_nonneg _ (by rw [g5]; omega), g5]
  exact (Int.natCast_ediv _ _).symm
/-- the frame of a word -/
def frOf (s : Sp) (a : Int) : Nat := a.toNat / szS s
theorem frOf_lt {s : Sp} (hs : SpOk s) {a : Int} (h0 : 0 ≤ a) (h : a < s.ws.length) : frOf s a < s.fs.length := by
  obtain ⟨g1, g2, g3, g4, g5⟩ := sz_get hs.shp.sh
  unfold frOf
  have := hs.shp.wl
  exact (Nat.div_lt_iff_lt_mul (by omega)).2 (by omega)
/-- a slot that has to be remembered, if w is what it holds -/
def NeedP (s : Sp) (p w : Int) : Prop := (¬ w = 0 ∧ w ≤ s.ws.length ∧ 0 ≤ p ∧ p < s.ws.length) ∧ ∃ (h1 : frOf s p < s.fs.length) (h2 : frOf s (w - 1) < s.fs.length), ¬ s.fs[frOf s p].ow = -1 ∧ ¬ s.fs[frOf s (w - 1)].ow = -1 ∧ s.fs[frOf s (w - 1)].st < s.fs[frOf s p].st
theorem ws_len {s : Sp} (hs : SpOk s) : s.ws.length ≤ 16384 := by
  obtain ⟨g1, g2, g3, g4, g5⟩ := sz_get hs.shp.sh
  have := hs.shp.wl
  have h : s.fs.length * szS s ≤ 64 * 256 := Nat.mul_le_mul hs.shp.hi g4
  omega
theorem pair_c {s : Sp} (hs : SpOk s) {p w : Int} (hw : 0 ≤ w ∧ w ≤ 18446744073709551615) : F_barrier_pair s p w = some (open Classical in if ¬ w = 0 ∧ w ≤ s.ws.length ∧ 0 ≤ p ∧ p < s.ws.length then ((frOf s p : Int), (frOf s (w - 1) : Int), true) else (0, 0, false)) := by
  have hl := ws_len hs
  refine Gd.eq ?_
  unfold F_barrier_pair
  rw [wu_in (n := (s.ws.length : Int)) (by omega)]
  refine .ite (fun h => .some (by rw [if_neg fun k => k.1 h])) fun h1 => ?_
  refine .ite (fun h => .some (by rw [if_neg fun k => by omega])) fun h2 => ?_
  refine .ite (fun h => .some (by rw [if_neg fun k => by omega])) fun h3 => ?_
  refine .ite (fun h => .some (by rw [if_neg fun k => by omega])) fun h4 => ?_
  refine .pos (wu_sh hs.shp.sh) (.some ?_)
  rw [if_pos ⟨h1, by omega, by omega, by omega⟩, wu_in (n := w - 1) (by omega), w64_in (n := w - 1) (by omega), shr_k hs.shp.sh p.toNat (by omega), shr_k hs.shp.sh (w - 1).toNat (by omega)]
  rfl
theorem needs_c {s : Sp} (hs : SpOk s) {p w : Int} (hw : 0 ≤ w ∧ w ≤ 18446744073709551615) : F_barrier_Needs s p w = some (bP (NeedP s p w)) := by
  refine Gd.eq ?_
  unfold F_barrier_Needs
  refine .call (pair_c hs hw) ?_
  by_cases h : ¬ w = 0 ∧ w ≤ s.ws.length ∧ 0 ≤ p ∧ p < s.ws.length
  · have h1 := frOf_lt hs (a := p) (by omega) (by omega)
    have h2 := frOf_lt hs (a := w - 1) (by omega) (by omega)
    rw [if_pos h]
    dsimp only
    refine .pos rfl ?_
    refine .atN h1 ?_
    refine .ite (fun k => .f fun ⟨_, _, _, q, _⟩ => q k) fun k1 => ?_
    refine .atN h2 ?_
    refine .ite (fun k => .f fun ⟨_, _, _, _, q, _⟩ => q k) fun k2 => ?_
    exact .b (by rw [decide_eq_true_iff]; exact ⟨fun k3 => ⟨h, h1, h2, k1, k2, k3⟩, fun ⟨_, _, _, _, _, q⟩ => q⟩)
  · rw [if_neg h]
    exact .neg (by decide) (.f fun k => h k.1)
theorem rpair_c {s : Sp} (hs : SpOk s) {p w : Int} (hw : 0 ≤ w ∧ w ≤ 18446744073709551615) : F_ref19_pair s p w = some (open Classical in if ¬ w = 0 ∧ w ≤ s.ws.length ∧ 0 ≤ p ∧ p < s.ws.length then ((frOf s p : Int), (frOf s (w - 1) : Int), bP (NeedP s p w)) else (0, 0, false)) := by
  have hl := ws_len hs
  refine Gd.eq ?_
  unfold F_ref19_pair
  rw [wu_in (n := (s.ws.length : Int)) (by omega)]
  refine .ite (fun h => .some (by rw [if_neg fun k => k.1 h])) fun h1 => ?_
  refine .ite (fun h => .some (by rw [if_neg fun k => by omega])) fun h2 => ?_
  refine .ite (fun h => .some (by rw [if_neg fun k => by omega])) fun h3 => ?_
  refine .ite (fun h => .some (by rw [if_neg fun k => by omega])) fun h4 => ?_
  have h : ¬ w = 0 ∧ w ≤ s.ws.length ∧ 0 ≤ p ∧ p < s.ws.length := ⟨h1, by omega, by omega, by omega⟩
  have g1 := frOf_lt hs (a := p) (by omega) (by omega)
  have g2 := frOf_lt hs (a := w - 1) (by omega) (by omega)
  refine .pos (wu_sh hs.shp.sh) ?_
  rw [if_pos h, wu_in (n := w - 1) (by omega), w64_in (n := w - 1) (by omega), shr_k hs.shp.sh p.toNat (by omega), shr_k hs.shp.sh (w - 1).toNat (by omega)]
  refine .atN g1 (.atN g2 ?_)
  refine .ite (fun k => .some (by rw [bP_f fun ⟨_, _, _, q, _⟩ => q k]; rfl)) fun k1 => ?_
  refine .ite (fun k => .some (by rw [bP_f fun ⟨_, _, _, _, q, _⟩ => q k]; rfl)) fun k2 => .some ?_
  refine congrArg (fun b => ((frOf s p : Int), (frOf s (w - 1) : Int), b)) ?_
  have := (some_b (b := decide (s.fs[frOf s (w - 1)].st < s.fs[frOf s p].st)) (p := NeedP s p w) (by rw [decide_eq_true_iff]; exact ⟨fun k3 => ⟨h, g1, g2, k1, k2, k3⟩, fun ⟨_, _, _, _, _, q⟩ => q⟩))
  injection this
theorem rneeds_c {s : Sp} (hs : SpOk s) {p w : Int} (hw : 0 ≤ w ∧ w ≤ 18446744073709551615) : F_ref19_Needs s p w = some (bP (NeedP s p w)) := by
  refine Gd.eq ?_
  unfold F_ref19_Needs
  refine .call (rpair_c hs hw) ?_
  by_cases h : ¬ w = 0 ∧ w ≤ s.ws.length ∧ 0 ≤ p ∧ p < s.ws.length
  · rw [if_pos h]; exact .some rfl
  · rw [if_neg h]; exact .some (bP_f fun k => h k.1).symm
/-- what Record returns -/
noncomputable def RecR (s : Sp) (l : List RSet) (p w : Int) : List RSet × Int := open Classical in if SpOk s ∧ SetsOk l then (if NeedP s p w then putK l (frOf s p) (frOf s (w - 1)) p else l, 0) else ([], 1)
theorem frOf_in {s : Sp} (hs : SpOk s) {a : Int} (h0 : 0 ≤ a) (h : a < s.ws.length) : (0 : Int) ≤ (frOf s a : Int) ∧ (frOf s a : Int) < 64 := by
  have := frOf_lt hs h0 h
  have := hs.shp.hi
  omega
theorem record_c {s : Sp} (hW : SpW s) {l : List RSet} (hl : l.length ≤ 100000) (hsl : ∀ x ∈ l, x.slots.length ≤ 100000) {p w : Int} (hw : 0 ≤ w ∧ w ≤ 18446744073709551615) : F_barrier_Record s l p w = some (RecR s l p w) := by
  refine Gd.eq ?_
  unfold F_barrier_Record RecR
  refine .call (valid_c s hW) ?_
  refine .ite (fun h1 => ?_) fun h1 => .some (by rw [if_neg fun k => h1 (bP_t k.1)])
  have h1 := bP_iff.1 h1
  refine .call (sets_c l (by omega) fun x hx => by have := hsl x hx; omega) ?_
  refine .ite (fun h2 => ?_) fun h2 => .some (by rw [if_neg fun k => h2 (bP_t k.2)])
  have h2 := bP_iff.1 h2
  rw [if_pos ⟨h1, h2⟩]
  refine .call (needs_c h1 hw) ?_
  refine .ite (fun h3 => ?_) fun h3 => ?_
  · have h3 := bP_iff.1 h3
    rw [if_pos h3]
    obtain ⟨k1, k2, k3, k4⟩ := h3.1
    refine .call (pair_c h1 hw) ?_
    rw [if_pos h3.1]
    dsimp only
    refine .call (insert_c hl hsl _ _ _) ?_
    rw [if_pos ⟨h2, frOf_in h1 (by omega) (by omega), frOf_in h1 (by omega) (by omega), k3⟩]
    exact .some rfl
  · rw [if_neg fun k => h3 (bP_t k)]
    exact .call (clone_c l (by omega) fun x hx => by have := hsl x hx; omega) (.some rfl)
theorem rrecord_c {s : Sp} (hW : SpW s) {l : List RSet} (hl : l.length ≤ 100000) (hsl : ∀ x ∈ l, x.slots.length ≤ 100000) {p w : Int} (hw : 0 ≤ w ∧ w ≤ 18446744073709551615) : F_ref19_Record s l p w = some (RecR s l p w) := by
  refine Gd.eq ?_
  unfold F_ref19_Record RecR
  refine .call (rvalid_c s hW) ?_
  refine .ite (fun h1 => ?_) fun h1 => .some (by rw [if_neg fun k => h1 (bP_t k.1)])
  have h1 := bP_iff.1 h1
  refine .call (rsets_c l (by omega) fun x hx => by have := hsl x hx; omega) ?_
  refine .ite (fun h2 => ?_) fun h2 => .some (by rw [if_neg fun k => h2 (bP_t k.2)])
  have h2 := bP_iff.1 h2
  rw [if_pos ⟨h1, h2⟩]
  refine .call (a := open Classical in if NeedP s p w then putK l (frOf s p) (frOf s (w - 1)) p else l) ?_ (.some rfl)
  refine Gd.eq ?_
  unfold F_ref19_Note
  refine .call (rpair_c h1 hw) ?_
  by_cases h3 : NeedP s p w
  · rw [if_pos h3, if_pos h3.1, bP_t h3]
    dsimp only
    exact .pos rfl (.call (put_c h2 hl hsl _ _ _) (.some rfl))
  · rw [if_neg h3]
    by_cases h4 : ¬ w = 0 ∧ w ≤ s.ws.length ∧ 0 ≤ p ∧ p < s.ws.length
    · rw [if_pos h4, bP_f h3]
      dsimp only
      exact .neg (by decide) (.some rfl)
    · rw [if_neg h4]
      exact .neg (by decide) (.some rfl)
end Go.Proofs.Ythpnlnjdmlbnaaa
/- Plain definitions on spaces: increments, objects begun. No program. -/
namespace Go.Proofs.Ythpnlnjdmlbnaaa
open Go.RowKit
set_option linter.unusedVariables false
set_option linter.unusedSimpArgs false

noncomputable instance (s : Sp) : Decidable (SpOk s) := Classical.propDecidable _
def MkE (s : Sp) (a r d : Int) : Int := if HdOk r d then (GoR s a (r + d)).2 else 13
theorem MkE_0 {s : Sp} {a r d : Int} (h : MkE s a r d = 0) : HdOk r d ∧ (GoR s a (r + d)).2 = 0 := by
  unfold MkE at h
  by_cases h1 : HdOk r d
  · rw [if_pos h1] at h; exact ⟨h1, h⟩
  · rw [if_neg h1] at h; cases h
noncomputable def IniE (s : Sp) (a r d : Int) : Int := if SpOk s then MkE s a r d else 1
theorem IniE_t {s : Sp} {a r d : Int} (h : SpOk s) : IniE s a r d = MkE s a r d := if_pos h
theorem IniE_f {s : Sp} {a r d : Int} (h : ¬ SpOk s) : IniE s a r d = 1 := if_neg h
theorem IniE_0 {s : Sp} {a r d : Int} (h : IniE s a r d = 0) : SpOk s ∧ MkE s a r d = 0 := by
  by_cases hs : SpOk s
  · rw [IniE_t hs] at h; exact ⟨hs, h⟩
  · rw [IniE_f hs] at h; cases h
theorem mod_neg {v n : Int} (hn : 1 ≤ n) (h : -((-v) % n) < 0) : -((-v) % n) + n = v % n := by
  have h1 := Int.mul_ediv_add_emod (-v) n
  have h2 := Int.emod_nonneg (-v) (by omega : n ≠ 0)
  have h3 := Int.emod_lt_of_pos (-v) (by omega : 0 < n)
  generalize (-v) % n = m at *
  generalize (-v) / n = p at *
  have h4 : v = (n - m) + n * (-p - 1) := by rw [Int.mul_sub, Int.mul_neg, Int.mul_one]; omega
  rw [h4, Int.add_mul_emod_self_left, Int.emod_eq_of_lt (by omega) (by omega)]
  omega
theorem mod_zero {v n : Int} (hn : 1 ≤ n) (h : ¬ -((-v) % n) < 0) : -((-v) % n) = v % n := by
  have h2 := Int.emod_nonneg (-v) (by omega : n ≠ 0)
  have h3 : (-v) % n = 0 := by omega
  have h4 : v % n = 0 := Int.emod_eq_zero_of_dvd (Int.dvd_neg.1 (Int.dvd_of_emod_eq_zero h3))
  omega
def clN (s : Sp) (n : Int) : Int := if n < 0 ∨ 1099511627776 < n then 0 else (n + szS s - 1) / szS s
abbrev feF : Fe := ⟨-1, -1, -1⟩
abbrev feZ : Fe := ⟨0, 0, 0⟩
def frsL (n j : Nat) : List Fe := (List.range n).map fun i => if i < j then feF else feZ
@[simp] theorem frsL_len (n j : Nat) : (frsL n j).length = n := by unfold frsL; simp
theorem frsL_0 (n : Nat) : frsL n 0 = List.replicate n feZ := by
  unfold frsL
  refine List.ext_getElem (by simp) fun i h1 h2 => ?_
  simp
theorem frsL_n (n : Nat) : frsL n n = List.replicate n feF := by
  unfold frsL
  refine List.ext_getElem (by simp) fun i h1 h2 => ?_
  simp at h1 ⊢
  omega
theorem frsL_set (n j : Nat) : (frsL n j).set j feF = frsL n (j + 1) := by
  unfold frsL
  refine List.ext_getElem (by simp) fun i h1 h2 => ?_
  rw [List.getElem_set, List.getElem_map, List.getElem_map, List.getElem_range]
  by_cases h : j = i
  · subst h
    rw [if_pos rfl, if_pos (by omega)]
  · rw [if_neg h]
    by_cases h3 : i < j
    · rw [if_pos h3, if_pos (by omega)]
    · rw [if_neg h3, if_neg (by omega)]
def newS (k : Int) (n : Nat) : Sp := ⟨k, List.replicate (n * 2 ^ k.toNat) 0, List.replicate n feF⟩
theorem clN_rng {s : Sp} (hs : ShOk s.sh) (n : Int) : 0 ≤ clN s n ∧ clN s n ≤ 1099511627776 := by
  obtain ⟨g1, g2, g3, g4, g5⟩ := sz_get hs
  unfold clN
  split
  · omega
  · rename_i h
    refine ⟨Int.ediv_nonneg (by omega) (by omega), ?_⟩
    have h1 : (n + szS s - 1) / szS s ≤ n := by
      rcases Int.lt_or_le n 1 with h2 | h2
      · have : n = 0 := by omega
        subst this
        rw [Int.ediv_eq_zero_of_lt (by omega) (by omega)]
        omega
      · refine Int.le_of_lt_add_one (Int.ediv_lt_of_lt_mul (by omega) ?_)
        have h3 : n * 1 ≤ n * szS s := Int.mul_le_mul_of_nonneg_left (by omega) (by omega)
        rw [Int.add_mul, Int.one_mul]
        omega
    omega
def itL (s : Sp) (F : Int) (m : Nat) : List Int := (List.range m).map fun j => itF s.fs j F
@[simp] theorem itL_len (s : Sp) (F : Int) (m : Nat) : (itL s F m).length = m := by unfold itL; simp
theorem chain_len {s : Sp} (h : SpOk s) {F : Int} (h0 : 0 ≤ F) (hF : F < s.fs.length) : ∃ m : Nat, 1 ≤ m ∧ m ≤ s.fs.length ∧ itF s.fs m F = -1 ∧ ∀ j, j < m → 0 ≤ itF s.fs j F ∧ itF s.fs j F < s.fs.length := by
  have hnx := nxin_of h.fm
  have hend : itF s.fs s.fs.length F = -1 := by
    have := end_len h (F := F.toNat) (by omega)
    rwa [Int.toNat_of_nonneg h0] at this
  have key : ∀ n : Nat, itF s.fs n F = -1 → ∃ m : Nat, m ≤ n ∧ itF s.fs m F = -1 ∧ ∀ j, j < m → ¬ itF s.fs j F = -1 := by
    intro n
    induction n with
    | zero => intro hn; exact ⟨0, Nat.le_refl _, hn, fun j hj => by omega⟩
    | succ n ih =>
      intro hn
      by_cases hp : itF s.fs n F = -1
      · obtain ⟨m, h1, h2⟩ := ih hp; exact ⟨m, by omega, h2⟩
      · refine ⟨n + 1, Nat.le_refl _, hn, fun j hj e => ?_⟩
        rcases Nat.lt_succ_iff_lt_or_eq.1 hj with h3 | h3
        · apply hp
          rw [show n = j + (n - j) by omega, itF_add]
          exact itF_neg _ e
        · subst h3; exact hp e
  obtain ⟨m, h1, h2, h3⟩ := key _ hend
  refine ⟨m, ?_, h1, h2, fun j hj => ?_⟩
  · rcases Nat.eq_zero_or_pos m with h4 | h4
    · subst h4
      have : F = -1 := h2
      omega
    · exact h4
  · have h5 := hnx.it j F (by omega)
    have h6 := h3 j hj
    omega
def cnO (fs : List Fe) (q : Int) (k : Nat) : Nat := (fs.take k).countP fun f => decide (f.ow = q)
theorem cnO_t {fs : List Fe} {q : Int} {k : Nat} (hk : k < fs.length) (h : fs[k].ow = q) : cnO fs q (k + 1) = cnO fs q k + 1 := by
  unfold cnO
  rw [List.take_succ_eq_append_getElem hk, List.countP_append, List.countP_singleton]
  simp [h]
theorem cnO_f {fs : List Fe} {q : Int} {k : Nat} (hk : k < fs.length) (h : ¬ fs[k].ow = q) : cnO fs q (k + 1) = cnO fs q k := by
  unfold cnO
  rw [List.take_succ_eq_append_getElem hk, List.countP_append, List.countP_singleton]
  simp [h]
theorem cnO_le (fs : List Fe) (q : Int) (k : Nat) : cnO fs q k ≤ k := by
  unfold cnO
  exact Nat.le_trans (List.countP_le_length ..) (by rw [List.length_take]; omega)
structure FitC (s : Sp) (q b f l n : Int) (m : Nat) : Prop where
  lo : 0 ≤ f
  hi : f.toNat < s.fs.length
  ow : (s.fs[f.toNat]'hi).ow = q
  st : (s.fs[f.toNat]'hi).st = b * 4294967296 + q
  len : (m : Int) = clN s n
  cnt : m = cnO s.fs q s.fs.length
  last : itF s.fs (m - 1) f = l
def IsLen (s : Sp) (f : Int) (m : Nat) : Prop := 1 ≤ m ∧ m ≤ s.fs.length ∧ itF s.fs m f = -1 ∧ ∀ j, j < m → 0 ≤ itF s.fs j f ∧ itF s.fs j f < s.fs.length
def FitP (s : Sp) (q b f l n : Int) : Prop := (0 ≤ q ∧ q ≤ 4294967295) ∧ (0 ≤ b ∧ b < 4) ∧ (0 ≤ n ∧ n ≤ s.ws.length) ∧ (n = 0 → f = -1 ∧ l = -1) ∧ (n ≠ 0 → ∃ m, IsLen s f m ∧ FitC s q b f l n m)
theorem IsLen.uniq {s : Sp} {f : Int} {m k : Nat} (h1 : IsLen s f m) (h2 : IsLen s f k) : m = k := by
  rcases Nat.lt_trichotomy m k with h | h | h
  · have := h2.2.2.2 m h; have := h1.2.2.1; omega
  · exact h
  · have := h1.2.2.2 k h; have := h2.2.2.1; omega
noncomputable def fldL (s : Sp) (a : Int) (n : Nat) : List Int := (List.range n).map fun (j : Nat) => (GoR s a (1 + (j : Int))).1
@[simp] theorem fldL_len (s : Sp) (a : Int) (n : Nat) : (fldL s a n).length = n := by unfold fldL; simp
noncomputable def SetR (s : Sp) (a i : Int) (ref : Bool) (w : Int) : Sp × Int := if (PlaceR s a i ref).2 = 0 then (setS s (PlaceR s a i ref).1 w, 0) else (⟨0, [], []⟩, (PlaceR s a i ref).2)
noncomputable def SlR (s : Sp) (a : Int) : List Int × Int := if (ShapeR s a).e = 0 then (fldL s a (ShapeR s a).r.toNat, 0) else ([], (ShapeR s a).e)
noncomputable def IniR (s : Sp) (a r d : Int) : Sp × Int := if IniE s a r d = 0 then (⟨s.sh, clrL s a (r + d).toNat (s.ws.set a.toNat (hdW r d)), s.fs⟩, 0) else (⟨0, [], []⟩, IniE s a r d)
theorem PlaceR_bad {s : Sp} {a i : Int} {ref : Bool} (h : ¬ (PlaceR s a i ref).2 = 0) : PlaceR s a i ref = (0, (PlaceR s a i ref).2) := by
  unfold PlaceR at h ⊢
  split
  · rfl
  · split
    · rfl
    · rename_i h1 h2
      rw [if_neg h1, if_neg h2] at h
      exact absurd rfl h
theorem look_2 {s : Sp} {a : Int} (h1 : (GoR s a 0).2 = 0) (h2 : ¬ (DecR (wAt s a)).e = 0 ∨ (DecR (wAt s a)).mv = true) : LookR s a = ⟨0, 0, 12⟩ := (if_neg (by simp [h1])).trans (if_pos h2)
theorem look_3 {s : Sp} {a r d A : Int} (h1 : (GoR s a 0).2 = 0) (h2 : DecR (wAt s a) = ⟨r, d, A, false, 0⟩) (h4 : ¬ (GoR s a (r + d)).2 = 0) : LookR s a = ⟨0, 0, 2⟩ := by
  unfold LookR
  rw [if_neg (by simp [h1]), h2, if_neg (by simp), if_pos h4]
theorem look_4 {s : Sp} {a r d A : Int} (h1 : (GoR s a 0).2 = 0) (h2 : DecR (wAt s a) = ⟨r, d, A, false, 0⟩) (h4 : (GoR s a (r + d)).2 = 0) : LookR s a = ⟨r, d, 0⟩ := by
  unfold LookR
  rw [if_neg (by simp [h1]), h2, if_neg (by simp), if_neg (by simp [h4])]
theorem hd_rng {w : Int} (h0 : 0 ≤ w) (h : (DecR w).e = 0) (hm : (DecR w).mv = false) : HdOk (DecR w).r (DecR w).d := (DecR_ok h0 h hm).2
end Go.Proofs.Ythpnlnjdmlbnaaa
/- Increments and objects: what the reference's functions answer. No program. -/
namespace Go.Proofs.Ythpnlnjdmlbnaaa
open Go.RowKit
set_option linter.unusedVariables false
set_option linter.unusedSimpArgs false

theorem mod_c {v n : Int} (hv : I64 v) (hn : 1 ≤ n ∧ n ≤ 9223372036854775807) : F_make_Mod v n = some (v % n) := by
  unfold I64 at hv
  have hm0 := Int.emod_nonneg v (by omega : n ≠ 0)
  have hm1 := Int.emod_lt_of_pos v (by omega : 0 < n)
  have hm2 := Int.emod_nonneg (-v) (by omega : n ≠ 0)
  have hm3 := Int.emod_lt_of_pos (-v) (by omega : 0 < n)
  refine Gd.eq ?_
  unfold F_make_Mod
  refine .pos (by omega) ?_
  by_cases h0 : 0 ≤ v
  · rw [Int.tmod_eq_emod_of_nonneg h0]
    exact .neg (by omega) (.some rfl)
  · have e : Int.tmod v n = -((-v) % n) := by
      rw [← Int.tmod_eq_emod_of_nonneg (a := -v) (by omega), Int.neg_tmod, Int.neg_neg]
    rw [e]
    refine .ite (fun h => .some ?_) fun h => .some (mod_zero hn.1 h)
    have h2 := mod_neg hn.1 h
    rw [w64_in (by omega), h2]
theorem next_c' : True := trivial
theorem sh_1 {s : Sp} (hs : ShOk s.sh) : shlN .i64 1 (wu s.sh) = (szS s : Int) := by
  have := shl_k hs (a := 1) 1 rfl (by omega)
  rw [Nat.one_mul] at this
  exact this
theorem sh_a {s : Sp} (hs : ShOk s.sh) {a : Int} (h0 : 0 ≤ a) (h1 : a ≤ 9223372036854775807) : bits BinOp.and IntKind.i64 a ((szS s : Int) - 1) = a % (szS s : Int) := by
  obtain ⟨e, z, he, h1', h2, h3, h4, h5, h6, h7⟩ := sh_get hs
  rw [h6]
  exact and_mod h0 h1 h2 h7
theorem go_c {s : Sp} (hs : ShpS s) (hn : NxIn s.fs) {a k : Int} (ha : I64 a) (hk : I64 k) : F_ref05_Go s a k = some (GoR s a k) := by
  obtain ⟨g1, g2, g3, g4, g5⟩ := hs.z
  have hsm := hs.small
  unfold I64 at ha hk
  refine Gd.eq ?_
  unfold F_ref05_Go
  refine .ite (fun h => .some (GoR_out (.inl h)).symm) fun h1 => ?_
  refine .ite (fun h => .some (GoR_out (.inr (.inl h))).symm) fun h2 => ?_
  refine .ite (fun h => .some (GoR_out (.inr (.inr h))).symm) fun h3 => ?_
  refine .pos (wu_sh hs.sh) ?_
  rw [GoR_in (by omega) (by omega) (by omega)]
  obtain ⟨F, hF, hFl⟩ := ad_frame hs (a := a) (by omega) (by omega)
  have hm0 := Int.emod_nonneg a (by omega : (szS s : Int) ≠ 0)
  have hm1 := Int.emod_lt_of_pos a (by omega : (0 : Int) < szS s)
  rw [shr_k hs.sh a.toNat (by omega), sh_1 hs.sh, w64_in (n := (szS s : Int) - 1) (by omega), sh_a hs.sh (by omega) (by omega), hF, show a.toNat / szS s = F by
    have : ((a.toNat / szS s : Nat) : Int) = a / szS s := by rw [Int.natCast_ediv, Int.toNat_of_nonneg (by omega)]
    omega]
  refine .atN hFl ?_
  rw [ownF_at hFl]
  refine .ite (fun h => .some (by rw [if_pos h])) fun h4 => ?_
  rw [if_neg h4]
  refine Gd.bndR (P := fun z => (∃ n f o : Int, z = .inl (n, f, o) ∧ 0 ≤ f ∧ f < s.fs.length ∧ 0 ≤ o ∧ 0 ≤ n ∧ o + n < szS s ∧ adv s F (a % szS s + k) = adv s f (o + n)) ∨ (z = .inr (0, 2) ∧ adv s F (a % szS s + k) = (0, 2))) ?_ (fun z hP => ?_) (fun r hP => ?_)
  · refine Gd.loop (fun x : Int × Int × Int => 0 ≤ x.2.1 ∧ x.2.1 < s.fs.length ∧ 0 ≤ x.2.2 ∧ x.2.2 < szS s ∧ 0 ≤ x.1 ∧ x.1 ≤ 9223372036854775807 ∧ adv s F (a % szS s + k) = adv s x.2.1 (x.2.2 + x.1)) _ (fun x => x.1.toNat) ⟨by dsimp only; omega, by dsimp only; omega, hm0, hm1, by dsimp only; omega, by dsimp only; omega, rfl⟩ ?_
    rintro ⟨n, f, o⟩ ⟨i1, i2, i3, i4, i5, i6, i7⟩
    dsimp only at i1 i2 i3 i4 i5 i6 i7 ⊢
    rw [w64_in (n := (szS s : Int) - o) (by omega)]
    refine .ite (fun h5 => ?_) fun h5 => .out (.inl ⟨n, f, o, rfl, i1, i2, i3, i5, by omega, i7⟩)
    refine .at i1 (by omega) ?_
    have hx := hn f.toNat (by omega)
    have e1 := adv_ge (s := s) (f := f) (n := o + n) (by omega) (by omega)
    rw [nxF_z i1 (by omega)] at e1
    refine .ite (fun h6 => .out (.inr ⟨rfl, ?_⟩)) fun h6 => ?_
    · rw [i7, e1]; exact adv_neg h6
    · rw [w64_in (n := n - ((szS s : Int) - o)) (by omega)]
      refine .go ⟨by dsimp only; omega, by dsimp only; omega, by dsimp only; omega, by dsimp only; omega, by dsimp only; omega, by dsimp only; omega, ?_⟩ (by dsimp only; omega)
      dsimp only
      rw [i7, e1]
      congr 1
      omega
  · rcases hP with ⟨n, f, o, h, i1, i2, i3, i4, i5, i6⟩ | ⟨h, _⟩
    · injection h with h
      subst h
      dsimp only
      rw [i6, adv_lt i1 (by omega) i5, shl_k hs.sh f.toNat (by omega) (by have := hs.hi; omega)]
      have hfz : f.toNat * szS s ≤ 64 * 256 := Nat.mul_le_mul (by have := hs.hi; omega) g4
      have hfe : ((f.toNat * szS s : Nat) : Int) = f * szS s := by push_cast; rw [Int.toNat_of_nonneg i1]
      rw [hfe] 
      rw [w64_in (n := f * szS s + o) (by omega), w64_in (n := f * szS s + o + n) (by omega), Int.add_assoc]
      exact .some rfl
    · cases h
  · rcases hP with ⟨n, f, o, h, _⟩ | ⟨h, hP⟩
    · cases h
    · injection h with h
      rw [h, hP]
theorem frames_c {s : Sp} (hs : ShOk s.sh) {n : Int} (hn : I64 n) : F_ref01_Ceil n s.sh = some (clN s n) := by
  obtain ⟨g1, g2, g3, g4, g5⟩ := sz_get hs
  unfold I64 at hn
  refine Gd.eq ?_
  unfold F_ref01_Ceil clN
  refine .ite (fun h => .some (by rw [if_pos (.inl h)])) fun h1 => ?_
  refine .ite (fun h => .some (by rw [if_pos (.inr h)])) fun h2 => ?_
  refine .neg (by omega) (.neg (by omega) (.pos (wu_sh hs) (.some ?_)))
  rw [if_neg (by omega), sh_1 hs, w64_in (n := n + szS s) (by omega), w64_in (n := n + szS s - 1) (by omega), shr_k hs (n + szS s - 1).toNat (by omega), Int.natCast_ediv, Int.toNat_of_nonneg (by omega)]
theorem frames09_c {s : Sp} (hs : ShOk s.sh) {i : Inc} (hi : I64 i.words) : F_ref09_Frames s i = some (clN s i.words) := by
  unfold F_ref09_Frames
  rw [frames_c hs hi]
  rfl
theorem extra_c {s : Sp} (hs : ShOk s.sh) {i : Inc} {n : Int} (hi : I64 i.words) (h : I64 (i.words + n)) : F_ref09_Extra s i n = some (clN s (i.words + n) - clN s i.words) := by
  unfold F_ref09_Extra
  have c1 := clN_rng hs (i.words + n)
  have c2 := clN_rng hs i.words
  have h' := h
  unfold I64 at h'
  rw [w64_in (n := i.words + n) (by omega), frames_c hs h, frames09_c hs hi]
  simp only [Option.bind_some]
  rw [w64_in (by omega)]
theorem chain_c {s : Sp} {F : Int} {m : Nat} (h : IsLen s F m) (hb : s.fs.length ≤ 4294967296) : F_ref05_Chain s F = some (itL s F m) := by
  obtain ⟨h1, h2, h3, h4⟩ := h
  refine Gd.eq ?_
  unfold F_ref05_Chain
  refine Gd.bind (P := fun b => b = itL s F m) ?_ fun b hb => .some hb
  refine Gd.loop (fun x : List Int × Int => ∃ k : Nat, x = (itL s F k, itF s.fs k F) ∧ k ≤ m) _ (fun x => m - x.1.length) ⟨0, rfl, Nat.zero_le _⟩ ?_
  rintro x ⟨k, rfl, hk⟩
  dsimp only
  have hkm : itF s.fs k F = -1 ↔ k = m := by
    constructor
    · intro h
      rcases Nat.lt_or_ge k m with h' | h'
      · have := h4 k h'; omega
      · omega
    · rintro rfl; exact h3
  refine .ite (fun h => .out (by rw [hkm.1 h])) fun h => ?_
  have hlt : k < m := by
    rcases Nat.lt_or_ge k m with h' | h'
    · exact h'
    · exact absurd (hkm.2 (by omega)) h
  have h5 := h4 k hlt
  rw [itL_len]
  simp only [List.length_cons, List.length_nil]
  refine .pos ⟨by omega, by omega⟩ ?_
  refine .at h5.1 (by omega) ?_
  refine .go ⟨k + 1, ?_, hlt⟩ (by dsimp only; rw [List.length_append, itL_len]; simp only [List.length_cons, List.length_nil]; omega)
  rw [itF_succ, nxF_z h5.1 (by omega)]
  refine Prod.ext ?_ rfl
  show itL s F k ++ [itF s.fs k F] = itL s F (k + 1)
  unfold itL
  rw [List.range_succ, List.map_append]
  rfl
theorem fits_c {s : Sp} (hs : SpOk s) (i : Inc) : F_ref09_Fits s i = some (bP (FitP s i.seq i.belt i.first i.last i.words)) := by
  have hh := hs.shp.hi
  have hsm := hs.shp.small
  refine Gd.eq ?_
  unfold F_ref09_Fits
  refine .ite (fun h => .f fun k => by have := k.1; omega) fun c1 => ?_
  refine .ite (fun h => .f fun k => by have := k.1; omega) fun c2 => ?_
  refine .ite (fun h => .f fun k => by have := k.2.1; omega) fun c3 => ?_
  refine .ite (fun h => .f fun k => by have := k.2.1; omega) fun c4 => ?_
  refine .ite (fun h => .f fun k => by have := k.2.2.1; omega) fun c5 => ?_
  refine .ite (fun h => .f fun k => by have := k.2.2.1; omega) fun c6 => ?_
  have hA : (0 ≤ i.seq ∧ i.seq ≤ 4294967295) ∧ (0 ≤ i.belt ∧ i.belt < 4) ∧ (0 ≤ i.words ∧ i.words ≤ s.ws.length) := ⟨⟨by omega, by omega⟩, ⟨by omega, by omega⟩, ⟨by omega, by omega⟩⟩
  refine .ite (fun z => ?_) fun z => ?_
  · refine .ite (fun f1 => .b ?_) fun f1 => .f fun k => f1 (k.2.2.2.1 z).1
    rw [decide_eq_true_iff]
    exact ⟨fun f2 => ⟨hA.1, hA.2.1, hA.2.2, fun _ => ⟨f1, f2⟩, fun h => absurd z h⟩, fun k => (k.2.2.2.1 z).2⟩
  refine .ite (fun h => .f fun k => by obtain ⟨_, _, k⟩ := k.2.2.2.2 z; have := k.lo; omega) fun d1 => ?_
  refine .ite (fun h => .f fun k => by obtain ⟨_, _, k⟩ := k.2.2.2.2 z; have := k.lo; have := k.hi; omega) fun d2 => ?_
  have hFl : i.first.toNat < s.fs.length := by omega
  refine .at (by omega) hFl ?_
  refine .ite (fun o1 => ?_) fun o1 => .f fun k => by obtain ⟨_, _, k⟩ := k.2.2.2.2 z; exact o1 k.ow
  rw [w64_in (n := i.belt * 4294967296) (by omega), w64_in (n := i.belt * 4294967296 + i.seq) (by omega)]
  refine .ite (fun o2 => ?_) fun o2 => .f fun k => by obtain ⟨_, _, k⟩ := k.2.2.2.2 z; exact o2 k.st
  obtain ⟨m, hil⟩ := chain_len hs (F := i.first) (by omega) (by omega)
  have hil : IsLen s i.first m := hil
  refine .call (chain_c hil (by omega)) ?_
  refine Gd.bind (P := fun b => b = (itL s i.first m, ((cnO s.fs i.seq s.fs.length : Nat) : Int))) ?_ fun b hb => ?_
  · refine Gd.loop (fun x : Int × Int => ∃ k : Nat, x = (((cnO s.fs i.seq k : Nat) : Int), (k : Int)) ∧ k ≤ s.fs.length) _ (fun x => s.fs.length - x.2.toNat) ⟨0, rfl, Nat.zero_le _⟩ ?_
    rintro x ⟨k, rfl, hk⟩
    dsimp only
    have hck := cnO_le s.fs i.seq k
    refine .ite (fun hlt => ?_) fun hlt => .out (by rw [show k = s.fs.length by omega])
    have hlt : k < s.fs.length := by omega
    have e1 : w64 ((k : Int) + 1) = ((k + 1 : Nat) : Int) := w64_in (by omega)
    refine .atN hlt ?_
    rw [e1]
    refine .ite (fun h4 => .go ⟨k + 1, by rw [cnO_t hlt h4, w64_in (by omega)]; rfl, hlt⟩ (by dsimp only; omega)) fun h4 => .go ⟨k + 1, by rw [cnO_f hlt h4], hlt⟩ (by dsimp only; omega)
  · subst hb
    dsimp only
    have hw : I64 i.words := by unfold I64; omega
    refine .call (frames09_c hs.shp.sh hw) ?_
    rw [itL_len]
    have hu : ∀ {k : Nat}, FitC s i.seq i.belt i.first i.last i.words k → IsLen s i.first k → k = m := fun _ h => h.uniq hil
    refine .ite (fun e1 => ?_) fun e1 => .f fun k => by
      obtain ⟨j, h0, h1⟩ := k.2.2.2.2 z
      obtain rfl := h0.uniq hil
      exact e1 h1.len
    refine .ite (fun e2 => ?_) fun e2 => .f fun k => by
      obtain ⟨j, h0, h1⟩ := k.2.2.2.2 z
      obtain rfl := h0.uniq hil
      exact e2 (by have := h1.cnt; omega)
    have hm1 := hil.1
    have hm2 := hil.2.1
    rw [w64_in (n := (m : Int) - 1) (by omega), show (m : Int) - 1 = ((m - 1 : Nat) : Int) by omega]
    refine .atN (by rw [itL_len]; omega) ?_
    have hla : ∀ h, (itL s i.first m)[m - 1]'h = itF s.fs (m - 1) i.first := fun h => by simp only [itL, List.getElem_map, List.getElem_range]
    rw [hla]
    refine .b ?_
    rw [decide_eq_true_iff]
    exact ⟨fun e3 => ⟨hA.1, hA.2.1, hA.2.2, fun h => absurd h z, fun _ => ⟨m, hil, ⟨by omega, hFl, o1, o2, e1, by omega, e3⟩⟩⟩, fun k => by
      obtain ⟨j, h0, h1⟩ := k.2.2.2.2 z
      obtain rfl := h0.uniq hil
      exact h1.last⟩
theorem valid09_c {s : Sp} (hW : SpW s) (i : Inc) : F_ref09_Valid s i = some (bP (SpOk s ∧ FitP s i.seq i.belt i.first i.last i.words)) := by
  refine Gd.eq ?_
  unfold F_ref09_Valid
  refine .call (rvalid_c s hW) ?_
  refine .ite (fun h => ?_) fun h => .f fun k => h (bP_t k.1)
  have h := bP_iff.1 h
  exact .call (fits_c h i) (.b (by rw [bP_iff]; exact ⟨fun k => ⟨h, k⟩, fun k => k.2⟩))
theorem owns_c (s : Sp) (h : s.fs.length ≤ 4294967296) (q : Int) : F_ref09_Owns s q = some (bP (∃ f ∈ s.fs, f.ow = q)) := by
  refine Gd.eq ?_
  unfold F_ref09_Owns
  refine Gd.bndR (P := fun z => (z = .inl () ∧ ¬ ∃ f ∈ s.fs, f.ow = q) ∨ (z = .inr true ∧ ∃ f ∈ s.fs, f.ow = q)) ?_ (fun _ hP => ?_) (fun r hP => ?_)
  · refine Gd.loop (fun x : Int => ∃ k : Nat, x = k ∧ k ≤ s.fs.length ∧ ∀ i (h : i < s.fs.length), i < k → ¬ s.fs[i].ow = q) _ (fun x => s.fs.length - x.toNat) ⟨0, rfl, Nat.zero_le _, fun i _ h => absurd h (Nat.not_lt_zero _)⟩ ?_
    rintro x ⟨k, rfl, hk, hz⟩
    refine .ite (fun hlt => ?_) fun hlt => .out (.inl ⟨rfl, fun ⟨f, hf, he⟩ => by
      obtain ⟨i, hi, rfl⟩ := List.mem_iff_getElem.1 hf
      exact hz i hi (by omega) he⟩)
    have hlt : k < s.fs.length := by omega
    have e1 : w64 ((k : Int) + 1) = ((k + 1 : Nat) : Int) := w64_in (by omega)
    refine .atN hlt ?_
    rw [e1]
    refine .ite (fun h => .out (.inr ⟨rfl, _, List.getElem_mem hlt, h⟩)) fun h => .go ⟨k + 1, rfl, hlt, fun i hi hk => ?_⟩ (by omega)
    by_cases h3 : i = k
    · subst h3; exact h
    · exact hz i hi (by omega)
  · rcases hP with ⟨_, h⟩ | ⟨h, _⟩
    · exact .f h
    · cases h
  · rcases hP with ⟨h, _⟩ | ⟨h, hP⟩
    · cases h
    · injection h with h; rw [h, bP_t hP]
theorem live_c (r d : Int) : F_ref07_Live r d = some (LiveR r d) := by
  refine Gd.eq ?_
  unfold F_ref07_Live LiveR
  refine .ite (fun h => .some (by rw [if_neg fun k => by unfold HdOk at k; omega])) fun h1 => ?_
  refine .ite (fun h => .some (by rw [if_neg fun k => by unfold HdOk at k; omega])) fun h2 => ?_
  refine .ite (fun h => .some (by rw [if_neg fun k => by unfold HdOk at k; omega])) fun h3 => ?_
  refine .ite (fun h => .some (by rw [if_neg fun k => by unfold HdOk at k; omega])) fun h4 => .some ?_
  rw [if_pos ⟨by omega, by omega, by omega, by omega⟩, w64_in (n := 1 + r) (by omega), w64_in (n := 1 + r + d) (by omega), w64_in (n := (1 + r + d) * 256) (by omega), w64_in (n := r * 2) (by omega), w64_in (n := (1 + r + d) * 256 + r * 2) (by omega), wu_in (by omega)]
  rfl
theorem clone_w {l : List Int} (h : l.length ≤ 4294967296) : F_ref02_Clone l = some l := by
  unfold F_ref02_Clone
  rw [if_pos ⟨by omega, by omega⟩]
theorem copy_c {s : Sp} (h1 : s.ws.length ≤ 4294967296) (h2 : s.fs.length ≤ 4294967296) : F_ref03_Copy s = some s := by
  refine Gd.eq ?_
  unfold F_ref03_Copy
  exact .call (clone_w h1) (.pos ⟨by omega, by omega⟩ (.some rfl))
theorem make_c {s : Sp} (hs : ShpS s) (hn : NxIn s.fs) {a r d : Int} (ha : I64 a) : F_ref08_Make s a r d = some (if MkE s a r d = 0 then (0, clrL s a (r + d).toNat (s.ws.set a.toNat (hdW r d))) else (MkE s a r d, s.ws)) := by
  refine Gd.eq ?_
  unfold F_ref08_Make MkE
  refine .call (live_c r d) ?_
  unfold LiveR
  by_cases hh : HdOk r d
  · rw [if_pos hh, if_pos hh]
    have hh2 := hh
    unfold HdOk at hh2
    refine .pos rfl ?_
    rw [w64_in (n := r + d) (by omega)]
    refine .call (go_c hs hn ha (by unfold I64; omega)) ?_
    refine .ite (fun hg => ?_) fun hg => .some (by rw [if_neg hg])
    rw [if_pos hg]
    obtain ⟨a1, a2, _⟩ := GoR_e hg
    refine .at a1 (by omega) ?_
    refine Gd.bind (P := fun b => b = clrL s a (r + d).toNat (s.ws.set a.toNat (hdW r d))) ?_ fun b hb => .some (by rw [hb])
    refine Gd.loop (fun x : List Int × Int => ∃ j : Nat, x = (clrL s a j (s.ws.set a.toNat (hdW r d)), ((j + 1 : Nat) : Int)) ∧ j ≤ (r + d).toNat) _ (fun x => (r + d).toNat + 1 - x.2.toNat) ⟨0, rfl, Nat.zero_le _⟩ ?_
    rintro x ⟨j, rfl, hj⟩
    dsimp only
    refine .ite (fun hlt => ?_) fun hlt => .out (by rw [show j = (r + d).toNat by omega])
    have hgj : (GoR s a ((j + 1 : Nat) : Int)).2 = 0 := GoR_mono hs hn hg (by omega) (by omega)
    have hr := GoR_rng hs hn hgj
    have hcl : (clrL s a j (s.ws.set a.toNat (hdW r d))).length = s.ws.length := by simp
    refine .call (go_c (s := ⟨s.sh, clrL s a j (s.ws.set a.toNat (hdW r d)), s.fs⟩) ⟨hs.sh, hs.lo, hs.hi, by rw [hcl]; exact hs.wl⟩ hn ha (by unfold I64; omega)) ?_
    rw [show GoR ⟨s.sh, clrL s a j (s.ws.set a.toNat (hdW r d)), s.fs⟩ a ((j + 1 : Nat) : Int) = GoR s a ((j + 1 : Nat) : Int) from GoR_ws (ws := s.ws) hcl]
    refine .at hr.1 (by rw [hcl]; have := hr.2; omega) ?_
    have e1 : w64 (((j + 1 : Nat) : Int) + 1) = ((j + 1 + 1 : Nat) : Int) := w64_in (by omega)
    rw [e1]
    exact .go ⟨j + 1, rfl, by omega⟩ (by dsimp only; omega)
  · rw [if_neg hh, if_neg hh]
    exact .neg (by decide) (.some rfl)
theorem init_c {s : Sp} (hW : SpW s) (hl : s.ws.length ≤ 4294967296 ∧ s.fs.length ≤ 4294967296) {a r d : Int} (ha : I64 a) : F_ref08_Init s a r d = some (IniR s a r d) := by
  refine Gd.eq ?_
  unfold F_ref08_Init IniR
  refine .call (rvalid_c s hW) ?_
  refine .ite (fun h => ?_) fun h => .some (by rw [IniE_f fun k => h (bP_t k)]; rfl)
  have h := bP_iff.1 h
  rw [IniE_t h]
  refine .call (copy_c hl.1 hl.2) ?_
  refine .call (make_c h.shp (nxin_of h.fm) ha) ?_
  by_cases h0 : MkE s a r d = 0
  · rw [if_pos h0, if_pos h0]
    exact .pos (by simp) (.pos rfl (.some rfl))
  · rw [if_neg h0, if_neg h0]
    exact .pos rfl (.neg h0 (.some rfl))
theorem small_c (s : Sp) : F_make_Small s = some (bP (s.ws.length ≤ 3000 ∧ s.fs.length ≤ 80)) := by
  refine Gd.eq ?_
  unfold F_make_Small
  refine .ite (fun h => .b ?_) fun h => .f fun k => by omega
  rw [decide_eq_true_iff]
  omega
end Go.Proofs.Ythpnlnjdmlbnaaa
/- The reference's Free and Lift, as plain functions. No program. -/
namespace Go.Proofs.Ythpnlnjdmlbnaaa
open Go.RowKit
set_option linter.unusedVariables false
set_option linter.unusedSimpArgs false

/-- whether a frame is free -/
def isFr (fs : List Fe) (k : Nat) : Bool := match fs[k]? with | some f => decide (f.ow = -1) | none => false
theorem isFr_at {fs : List Fe} {k : Nat} (h : k < fs.length) : isFr fs k = decide (fs[k].ow = -1) := by unfold isFr; rw [List.getElem?_eq_getElem h]
theorem isFr_lt {fs : List Fe} {k : Nat} (h : isFr fs k = true) : ∃ h' : k < fs.length, fs[k].ow = -1 := by
  rcases Nat.lt_or_ge k fs.length with h' | h'
  · rw [isFr_at h'] at h
    exact ⟨h', of_decide_eq_true h⟩
  · unfold isFr at h; rw [List.getElem?_eq_none h'] at h; cases h
/-- the free frames -/
def freeL (fs : List Fe) : List Nat := (List.range fs.length).filter (isFr fs)
def freeTo (fs : List Fe) (k : Nat) : List Int := ((List.range k).filter (isFr fs)).map fun (k : Nat) => (k : Int)
theorem freeTo_succ (fs : List Fe) (k : Nat) : freeTo fs (k + 1) = if isFr fs k = true then freeTo fs k ++ [(k : Int)] else freeTo fs k := by
  unfold freeTo
  rw [List.range_succ, List.filter_append, List.map_append]
  by_cases h : isFr fs k = true
  · rw [if_pos h]; simp [h]
  · rw [if_neg h]; simp [h]
theorem freeTo_len (fs : List Fe) (k : Nat) : (freeTo fs k).length ≤ k := by
  unfold freeTo
  rw [List.length_map]
  exact Nat.le_trans (List.length_filter_le _ _) (by simp)
theorem free_ok (s : Sp) (h : s.fs.length ≤ 65536) : F_ref04_Free s = some ((freeL s.fs).map fun (k : Nat) => (k : Int)) := by
  unfold F_ref04_Free
  refine bind_ok (a := freeTo s.fs s.fs.length) ?_ rfl
  refine loop_end (fun k => (freeTo s.fs k, (k : Int))) s.fs.length (fun j hj => ?_) ?_
  · dsimp only
    rw [if_pos (by omega), at_nat hj]
    simp only [Option.bind_some]
    have hl := freeTo_len s.fs j
    have e1 : w64 ((j : Int) + 1) = ((j + 1 : Nat) : Int) := w64_in (by omega)
    by_cases hf : s.fs[j].ow = -1
    · rw [if_pos hf, if_pos (by simp only [List.length_cons, List.length_nil]; omega), freeTo_succ, if_pos (by rw [isFr_at hj]; exact decide_eq_true hf), e1]
    · rw [if_neg hf, freeTo_succ, if_neg (by rw [isFr_at hj]; simpa using hf), e1]
  · dsimp only
    rw [if_neg (by omega)]
/-- the first free frame -/
def frF (fs : List Fe) : Option Nat := (freeL fs).head?
theorem filter_range {p : Nat → Bool} {n f : Nat} (hf : f < n) (hp : p f = true) (hm : ∀ k, k < f → p k = false) : ((List.range n).filter p).head? = some f := by
  obtain ⟨d, rfl⟩ : ∃ d, n = f + (d + 1) := ⟨n - f - 1, by omega⟩
  rw [List.range_add, List.filter_append]
  have h0 : (List.range f).filter p = [] := List.filter_eq_nil_iff.2 fun k hk => by rw [hm k (List.mem_range.1 hk)]; simp
  rw [h0, List.nil_append, List.range_succ_eq_map, List.map_cons, Nat.add_zero, List.filter_cons_of_pos hp]
  rfl
theorem frF_some {fs : List Fe} {f : Nat} (h : frF fs = some f) : ∃ h' : f < fs.length, fs[f].ow = -1 := by
  unfold frF freeL at h
  have := List.mem_filter.1 (List.mem_of_head? h)
  exact isFr_lt this.2
theorem frF_first {fs : List Fe} {f : Nat} (h : frF fs = some f) : ∀ k (hk : k < fs.length), k < f → ¬ fs[k].ow = -1 := fun k hk hkf e => by
  obtain ⟨g, hg, hm⟩ := least_nat (p := fun j => isFr fs j = true) k (by rw [isFr_at hk]; exact decide_eq_true e)
  have hgl := (isFr_lt hg).1
  have := filter_range (p := isFr fs) (n := fs.length) hgl hg fun j hj => by
    cases hx : isFr fs j with
    | false => rfl
    | true => have := hm j hx; omega
  have h2 : frF fs = some g := this
  rw [h2] at h
  injection h with h
  have := hm k (by rw [isFr_at hk]; exact decide_eq_true e)
  omega
theorem frF_of {fs : List Fe} (h : freeL fs ≠ []) : ∃ f, frF fs = some f := by
  unfold frF
  cases hx : freeL fs with
  | nil => exact absurd hx h
  | cons f l => exact ⟨f, rfl⟩
theorem lift_spec (s : Sp) (q b : Int) {f : Nat} (hf : frF s.fs = some f) (hl : s.fs.length ≤ 65536) (hq : 0 ≤ q ∧ q ≤ 4294967295) (hb : 0 ≤ b ∧ b < 4) : F_ref04_Lift s q b = some ((f : Int), s.fs.set f ⟨q, b * 4294967296 + q, -1⟩) := by
  obtain ⟨h1, h2⟩ := frF_some hf
  have h3 := frF_first hf
  unfold F_ref04_Lift
  refine bndR_eqR ?_
  refine loop_end (fun k => (k : Int)) f (fun j hj => ?_) ?_
  · rw [if_pos (by omega), at_nat (show j < s.fs.length by omega)]
    simp only [Option.bind_some]
    rw [if_neg (h3 j (by omega) hj), show w64 ((j : Int) + 1) = ((j + 1 : Nat) : Int) from w64_in (by omega)]
  · rw [if_pos (by omega), at_nat h1]
    simp only [Option.bind_some]
    rw [if_pos h2, w64_in (n := b * 4294967296) (by omega), w64_in (n := b * 4294967296 + q) (by omega), Int.toNat_natCast]
end Go.Proofs.Ythpnlnjdmlbnaaa
/- Increments as lists of frames; an increment gets frames. No program. -/
namespace Go.Proofs.Ythpnlnjdmlbnaaa
open Go.RowKit
set_option linter.unusedVariables false
set_option linter.unusedSimpArgs false

/-- the frames of an increment: who owns them, how they follow each other -/
structure IncC (fs : List Fe) (i : Inc) (fr : List Nat) : Prop where
  sq : 0 ≤ i.seq ∧ i.seq ≤ 4294967295
  bl : 0 ≤ i.belt ∧ i.belt < 4
  ch : Chn fs fr
  nd : fr.Nodup
  ow : ∀ k (h : k < fs.length), fs[k].ow = i.seq ↔ k ∈ fr
  st : ∀ k (h : k < fs.length), k ∈ fr → fs[k].st = i.belt * 4294967296 + i.seq
  first : i.first = match fr.head? with | none => -1 | some f => (f : Int)
  last : i.last = match fr.getLast? with | none => -1 | some f => (f : Int)
/-- one frame more -/
def lnk (fs : List Fe) (i : Inc) (f : Nat) : List Fe × Inc :=
  let fs1 := fs.set f ⟨i.seq, i.belt * 4294967296 + i.seq, -1⟩
  if i.first = -1 then (fs1, ⟨i.seq, i.belt, f, f, i.words⟩)
  else (match fs1[i.last.toNat]? with | some g => fs1.set i.last.toNat ⟨g.ow, g.st, f⟩ | none => fs1, ⟨i.seq, i.belt, i.first, f, i.words⟩)
theorem lnk_len (fs : List Fe) (i : Inc) (f : Nat) : (lnk fs i f).1.length = fs.length := by
  unfold lnk
  dsimp only
  split
  · simp
  · split <;> simp
theorem lnk_at {s : Sp} (hs : SpOk s) {i : Inc} {fr : List Nat} (hc : IncC s.fs i fr) {f : Nat} (hf : f < s.fs.length) (h0 : s.fs[f].ow = -1) :
    (∀ h : f < (lnk s.fs i f).1.length, (lnk s.fs i f).1[f] = ⟨i.seq, i.belt * 4294967296 + i.seq, -1⟩) ∧
    ∀ k (h : k < s.fs.length) (h' : k < (lnk s.fs i f).1.length), k ≠ f → (lnk s.fs i f).1[k].ow = s.fs[k].ow ∧ (lnk s.fs i f).1[k].st = s.fs[k].st ∧ (lnk s.fs i f).1[k].nx = if fr.getLast? = some k then (f : Int) else s.fs[k].nx := by
  have hfr : f ∉ fr := fun h => by have := (hc.ow f hf).2 h; have := hc.sq.1; omega
  cases hg : fr.getLast? with
  | none =>
    have hn : fr = [] := List.getLast?_eq_none_iff.1 hg
    have h1 : i.first = -1 := by rw [hc.first, hn]; rfl
    unfold lnk
    simp only [h1, if_true]
    refine ⟨fun h => by simp, fun k h h' hk => ?_⟩
    rw [List.getElem_set_ne (fun e => hk e.symm)]
    exact ⟨rfl, rfl, by simp⟩
  | some l =>
    have hlm : l ∈ fr := List.mem_of_getLast? hg
    have hll := hc.ch.lt l hlm
    have hlf : l ≠ f := fun e => hfr (e ▸ hlm)
    have hla : i.last = (l : Int) := by rw [hc.last, hg]
    have h1 : ¬ i.first = -1 := by
      rw [hc.first]
      cases hh : fr.head? with
      | none => rw [List.head?_eq_none_iff] at hh; rw [hh] at hg; cases hg
      | some x => dsimp only; omega
    have ht : i.last.toNat = l := by rw [hla]; rfl
    have hv : (lnk s.fs i f).1 = (s.fs.set f ⟨i.seq, i.belt * 4294967296 + i.seq, -1⟩).set l ⟨s.fs[l].ow, s.fs[l].st, f⟩ := by
      unfold lnk
      dsimp only
      rw [if_neg h1, ht]
      dsimp only
      rw [List.getElem?_set_ne (fun e => hlf e.symm), List.getElem?_eq_getElem hll]
    simp only [hv]
    refine ⟨fun h => by rw [List.getElem_set_ne hlf]; simp, fun k h h' hk => ?_⟩
    by_cases hkl : l = k
    · subst hkl
      simp
    · have : ¬ some l = some k := fun e => hkl (by injection e)
      rw [List.getElem_set_ne hkl, List.getElem_set_ne (fun e => hk e.symm), if_neg this]
      exact ⟨rfl, rfl, rfl⟩
theorem stp_of {i : Inc} (h1 : 0 ≤ i.seq ∧ i.seq ≤ 4294967295) (h2 : 0 ≤ i.belt ∧ i.belt < 4) : Stp i.seq (i.belt * 4294967296 + i.seq) := ⟨h1.1, h1.2, i.belt, h2.1, h2.2, by omega⟩
theorem lnk_ok {s : Sp} (hs : SpOk s) {i : Inc} {fr : List Nat} (hc : IncC s.fs i fr) {f : Nat} (hf : f < s.fs.length) (h0 : s.fs[f].ow = -1) :
    SpOk ⟨s.sh, s.ws, (lnk s.fs i f).1⟩ ∧ IncC (lnk s.fs i f).1 (lnk s.fs i f).2 (fr ++ [f]) := by
  obtain ⟨p1, p2⟩ := lnk_at hs hc hf h0
  have hlen := lnk_len s.fs i f
  have hfr : f ∉ fr := fun h => by have := (hc.ow f hf).2 h; have := hc.sq.1; omega
  have hq := hc.sq.1
  have e2 : (lnk s.fs i f).2.seq = i.seq ∧ (lnk s.fs i f).2.belt = i.belt ∧ (lnk s.fs i f).2.last = f ∧ (lnk s.fs i f).2.first = if i.first = -1 then (f : Int) else i.first := by
    unfold lnk
    dsimp only
    split <;> exact ⟨rfl, rfl, rfl, rfl⟩
  obtain ⟨e3, e4, e5, e6⟩ := e2
  refine ⟨sp_link hs hf h0 (stp_of hc.sq hc.bl) fr.getLast? (fun l hl => ?_) hlen p1 p2, ?_⟩
  · obtain ⟨g1, g2⟩ := hc.ch.last l hl
    have hm := List.mem_of_getLast? hl
    exact ⟨g1, g2, (hc.ow l g1).2 hm, hc.st l g1 hm⟩
  · refine ⟨by rw [e3]; exact hc.sq, by rw [e4]; exact hc.bl, ?_, ?_, fun k hk => ?_, fun k hk hkm => ?_, ?_, ?_⟩
    · exact hc.ch.snoc hlen hf (fun h => by rw [p1 h]) hc.nd hfr fun k hk a b => (p2 k a b (fun e => hfr (e ▸ hk))).2.2
    · rw [List.nodup_append]
      exact ⟨hc.nd, by simp, fun a ha b hb => by rw [List.mem_singleton] at hb; subst hb; exact fun e => hfr (e ▸ ha)⟩
    · rw [e3, List.mem_append, List.mem_singleton]
      by_cases hkf : k = f
      · subst hkf
        rw [p1 hk]
        simp
      · rw [(p2 k (by omega) hk hkf).1, hc.ow k (by omega)]
        simp [hkf]
    · rw [e3, e4]
      by_cases hkf : k = f
      · subst hkf
        rw [p1 hk]
      · rw [(p2 k (by omega) hk hkf).2.1]
        refine hc.st k (by omega) ?_
        rcases List.mem_append.1 hkm with h | h
        · exact h
        · rw [List.mem_singleton] at h; exact absurd h hkf
    · rw [e6]
      cases fr with
      | nil =>
        have h1 : i.first = -1 := hc.first
        rw [if_pos h1]
        rfl
      | cons g l =>
        have h1 : i.first = (g : Int) := hc.first
        rw [if_neg (by omega), h1]
        rfl
    · rw [e5, List.getLast?_append]
      simp
/-- other frames stay as they are -/
theorem lnk_other {s : Sp} (hs : SpOk s) {i : Inc} {fr : List Nat} (hc : IncC s.fs i fr) {f : Nat} (hf : f < s.fs.length) (h0 : s.fs[f].ow = -1) {k : Nat} (hk : k < s.fs.length) (h' : k < (lnk s.fs i f).1.length) (hkf : k ≠ f) (hkr : k ∉ fr) : (lnk s.fs i f).1[k] = s.fs[k] := by
  obtain ⟨a, b, c⟩ := (lnk_at hs hc hf h0).2 k hk h' hkf
  rw [if_neg (fun e => hkr (List.mem_of_getLast? e))] at c
  generalize (lnk s.fs i f).1[k] = x at *
  generalize s.fs[k] = y at *
  cases x
  cases y
  simp only at a b c
  subst a; subst b; subst c
  rfl
theorem lnk_free {s : Sp} (hs : SpOk s) {i : Inc} {fr : List Nat} (hc : IncC s.fs i fr) {f : Nat} (hf : frF s.fs = some f) : freeL (lnk s.fs i f).1 = (freeL s.fs).tail := by
  obtain ⟨hfl, h0⟩ := frF_some hf
  obtain ⟨p1, p2⟩ := lnk_at hs hc hfl h0
  have hlen := lnk_len s.fs i f
  have hq := hc.sq.1
  have e1 : ∀ k ∈ List.range s.fs.length, isFr (lnk s.fs i f).1 k = (isFr s.fs k && !decide (k = f)) := fun k hk => by
    have hk := List.mem_range.1 hk
    rw [isFr_at (by omega), isFr_at hk]
    by_cases hkf : k = f
    · subst hkf
      rw [p1 (by omega)]
      have : ¬ i.seq = -1 := by omega
      simp [this]
    · rw [(p2 k hk (by omega) hkf).1]
      simp [hkf]
  have e2 : freeL (lnk s.fs i f).1 = (freeL s.fs).filter fun k => !decide (k = f) := by
    unfold freeL
    rw [hlen, List.filter_filter]
    refine List.filter_congr fun k hk => ?_
    rw [e1 k hk, Bool.and_comm]
  have hnd : (freeL s.fs).Nodup := List.Pairwise.filter _ List.nodup_range
  unfold frF at hf
  cases hx : freeL s.fs with
  | nil => rw [hx] at hf; cases hf
  | cons g l =>
    rw [hx] at hf hnd
    injection hf with hf
    subst hf
    rw [e2, hx, List.tail_cons, List.filter_cons_of_neg (by simp)]
    refine List.filter_eq_self.2 fun k hk => ?_
    have := (List.nodup_cons.1 hnd).1
    have hne : k ≠ g := fun e => this (e ▸ hk)
    simp [hne]
/-- n frames more -/
def growN : Nat → List Fe → Inc → List Fe × Inc
  | 0, fs, i => (fs, i)
  | n + 1, fs, i => match frF fs with
    | none => (fs, i)
    | some f => growN n (lnk fs i f).1 (lnk fs i f).2
/-- what a loop of Grow leaves -/
structure GrowOk (s : Sp) (i : Inc) (fr : List Nat) (n : Nat) (fs' : List Fe) (i' : Inc) : Prop where
  sp : SpOk ⟨s.sh, s.ws, fs'⟩
  len : fs'.length = s.fs.length
  inc : IncC fs' i' (fr ++ (freeL s.fs).take n)
  free : freeL fs' = (freeL s.fs).drop n
  words : i'.words = i.words ∧ i'.seq = i.seq ∧ i'.belt = i.belt
  other : ∀ k (h : k < s.fs.length) (h' : k < fs'.length), k ∉ fr → k ∉ (freeL s.fs).take n → fs'[k] = s.fs[k]
theorem growN_ok : ∀ (n : Nat) {s : Sp} {i : Inc} {fr : List Nat}, SpOk s → IncC s.fs i fr → n ≤ (freeL s.fs).length → GrowOk s i fr n (growN n s.fs i).1 (growN n s.fs i).2
  | 0, s, i, fr, hs, hc, _ => ⟨hs, rfl, by simpa [growN] using hc, by simp [growN], ⟨rfl, rfl, rfl⟩, fun _ _ _ _ _ => rfl⟩
  | n + 1, s, i, fr, hs, hc, hn => by
    obtain ⟨f, hf⟩ := frF_of (fs := s.fs) (fun e => by rw [e] at hn; simp at hn)
    obtain ⟨hfl, h0⟩ := frF_some hf
    obtain ⟨k1, k2⟩ := lnk_ok hs hc hfl h0
    have kf := lnk_free hs hc hf
    have hx : freeL s.fs = f :: (freeL s.fs).tail := by
      unfold frF at hf
      cases hx : freeL s.fs with
      | nil => rw [hx] at hf; cases hf
      | cons g l => rw [hx] at hf; injection hf with hf; subst hf; rfl
    have hw : (lnk s.fs i f).2.words = i.words ∧ (lnk s.fs i f).2.seq = i.seq ∧ (lnk s.fs i f).2.belt = i.belt := by
      unfold lnk
      dsimp only
      split <;> exact ⟨rfl, rfl, rfl⟩
    have g := growN_ok n (s := ⟨s.sh, s.ws, (lnk s.fs i f).1⟩) k1 k2 (by show n ≤ (freeL (lnk s.fs i f).1).length; rw [kf, List.length_tail]; omega)
    have e : growN (n + 1) s.fs i = growN n (lnk s.fs i f).1 (lnk s.fs i f).2 := by
      show (match frF s.fs with | none => (s.fs, i) | some f => growN n (lnk s.fs i f).1 (lnk s.fs i f).2) = _
      rw [hf]
    rw [e]
    have ht : (freeL s.fs).take (n + 1) = f :: (freeL s.fs).tail.take n := by rw [hx]; rfl
    refine ⟨g.sp, g.len.trans (lnk_len _ _ _), ?_, ?_, ⟨g.words.1.trans hw.1, g.words.2.1.trans hw.2.1, g.words.2.2.trans hw.2.2⟩, fun k h h' hk hk2 => ?_⟩
    · have := g.inc
      dsimp only at this
      rw [kf, List.append_assoc] at this
      rw [ht]
      exact this
    · have := g.free
      dsimp only at this
      rw [this, kf, hx]
      rfl
    · rw [ht, List.mem_cons, not_or] at hk2
      have hl : k < (lnk s.fs i f).1.length := by rw [lnk_len]; exact h
      rw [← lnk_other hs hc hfl h0 h hl hk2.1 hk]
      refine g.other k hl h' ?_ ?_
      · rw [List.mem_append, List.mem_singleton, not_or]
        exact ⟨hk, hk2.1⟩
      · dsimp only
        rw [kf]
        exact hk2.2
end Go.Proofs.Ythpnlnjdmlbnaaa
/- Addresses in an increment: the words of a list of frames. No program. -/
namespace Go.Proofs.Ythpnlnjdmlbnaaa
open Go.RowKit
set_option linter.unusedVariables false
set_option linter.unusedSimpArgs false

/-- the address of a word of a list of frames -/
def adr (z : Nat) (fr : List Nat) (p : Nat) : Nat := (fr[p / z]?).getD 0 * z + p % z
theorem Chn.drop {fs : List Fe} : ∀ (n : Nat) {l : List Nat}, Chn fs l → Chn fs (l.drop n)
  | 0, _, h => h
  | n + 1, [], h => trivial
  | n + 1, f :: l, h => h.2.2.drop n
/-- frames that all have an owner -/
def Own (fs : List Fe) (fr : List Nat) : Prop := ∀ k ∈ fr, ∀ h : k < fs.length, ¬ fs[k].ow = -1
theorem IncC.own {fs : List Fe} {i : Inc} {fr : List Nat} (h : IncC fs i fr) : Own fs fr := fun k hk hl e => by
  have := (h.ow k hl).2 hk
  have := h.sq.1
  omega
theorem adr_div {z : Nat} (hz : 0 < z) (fr : List Nat) (p : Nat) : adr z fr p / z = (fr[p / z]?).getD 0 ∧ adr z fr p % z = p % z := by
  unfold adr
  have := Nat.mod_lt p hz
  refine ⟨?_, ?_⟩
  · rw [Nat.add_comm, Nat.add_mul_div_right _ _ hz, Nat.div_eq_of_lt this, Nat.zero_add]
  · rw [Nat.add_comm, Nat.add_mul_mod_self_right, Nat.mod_eq_of_lt this]
theorem adr_lt {s : Sp} (hs : ShpS s) {fr : List Nat} (hl : ∀ k ∈ fr, k < s.fs.length) {p : Nat} (hp : p < fr.length * szS s) : adr (szS s) fr p < s.ws.length := by
  obtain ⟨g1, g2, g3, g4, g5⟩ := hs.z
  have h1 : p / szS s < fr.length := Nat.div_lt_of_lt_mul (by rw [Nat.mul_comm]; exact hp)
  have h2 := hl _ (List.getElem_mem h1)
  unfold adr
  rw [List.getElem?_eq_getElem h1, Option.getD_some, hs.wl]
  have h3 := Nat.mod_lt p (show 0 < szS s by omega)
  have h4 : (fr[p / szS s] + 1) * szS s ≤ s.fs.length * szS s := Nat.mul_le_mul_right _ h2
  rw [Nat.add_mul] at h4
  omega
theorem div_sub {z p k : Nat} (hz : 0 < z) : (p % z + k) / z + p / z = (p + k) / z ∧ (p % z + k) % z = (p + k) % z := by
  have h := Nat.div_add_mod p z
  have e : p + k = (p % z + k) + z * (p / z) := by omega
  refine ⟨?_, ?_⟩
  · rw [e, Nat.add_mul_div_left _ _ hz]
  · rw [e, Nat.add_mul_mod_self_left]
theorem go_adr {s : Sp} (hs : ShpS s) {fr : List Nat} (hc : Chn s.fs fr) (ho : Own s.fs fr) {p k : Nat} (hp : p < fr.length * szS s) :
    GoR s ((adr (szS s) fr p : Nat) : Int) (k : Int) = if p + k < fr.length * szS s then (((adr (szS s) fr (p + k) : Nat) : Int), (0 : Int)) else (0, 2) := by
  obtain ⟨g1, g2, g3, g4, g5⟩ := hs.z
  have hz : 0 < szS s := by omega
  have h1 : p / szS s < fr.length := Nat.div_lt_of_lt_mul (by rw [Nat.mul_comm]; exact hp)
  have hlt := adr_lt hs hc.lt hp
  obtain ⟨d1, d2⟩ := adr_div hz fr p
  rw [List.getElem?_eq_getElem h1, Option.getD_some] at d1
  have hf := hc.lt _ (List.getElem_mem h1)
  rw [GoR_in (by omega) (by omega) (by omega), ← Int.natCast_ediv, ← Int.natCast_emod, d1, d2, ownF_at hf, if_neg (ho _ (List.getElem_mem h1) hf)]
  obtain ⟨q1, q2⟩ := div_sub (p := p) (k := k) hz
  have hd : fr.drop (p / szS s) = fr[p / szS s] :: fr.drop (p / szS s + 1) := List.drop_eq_getElem_cons h1
  have hc2 := hc.drop (p / szS s)
  rw [hd] at hc2
  have hit := hc2.it ((p % szS s + k) / szS s)
  rw [← hd, List.getElem?_drop, Nat.add_comm (p / szS s), q1] at hit
  unfold adv
  rw [show ((p % szS s : Nat) : Int) + (k : Int) = ((p % szS s + k : Nat) : Int) by push_cast; rfl, ← Int.natCast_ediv, ← Int.natCast_emod, Int.toNat_natCast, hit, q2]
  by_cases hpk : p + k < fr.length * szS s
  · have h2 : (p + k) / szS s < fr.length := Nat.div_lt_of_lt_mul (by rw [Nat.mul_comm]; exact hpk)
    rw [if_pos hpk, List.getElem?_eq_getElem h2]
    dsimp only
    rw [if_pos (Int.natCast_nonneg _)]
    unfold adr
    rw [List.getElem?_eq_getElem h2, Option.getD_some]
    push_cast
    rfl
  · have h2 : fr.length ≤ (p + k) / szS s := by
      rw [Nat.le_div_iff_mul_le hz]
      omega
    rw [if_neg hpk, List.getElem?_eq_none h2]
    rfl
/-- addresses of different words differ -/
theorem adr_inj {z : Nat} (hz : 0 < z) {fr : List Nat} (hn : fr.Nodup) {p q : Nat} (hp : p < fr.length * z) (hq : q < fr.length * z) (e : adr z fr p = adr z fr q) : p = q := by
  have h1 : p / z < fr.length := Nat.div_lt_of_lt_mul (by rw [Nat.mul_comm]; exact hp)
  have h2 : q / z < fr.length := Nat.div_lt_of_lt_mul (by rw [Nat.mul_comm]; exact hq)
  obtain ⟨a1, a2⟩ := adr_div hz fr p
  obtain ⟨b1, b2⟩ := adr_div hz fr q
  rw [e] at a1 a2
  rw [List.getElem?_eq_getElem h1, Option.getD_some] at a1
  rw [List.getElem?_eq_getElem h2, Option.getD_some] at b1
  have h3 : fr[p / z] = fr[q / z] := by rw [← a1, ← b1]
  have h4 : p / z = q / z := by
    by_cases hne : p / z = q / z
    · exact hne
    · have hpw := List.pairwise_iff_getElem.1 hn
      rcases Nat.lt_or_gt_of_ne hne with h | h
      · exact absurd h3 (hpw _ _ h1 h2 h)
      · exact absurd h3.symm (hpw _ _ h2 h1 h)
  have e1 := Nat.div_add_mod p z
  have e2 := Nat.div_add_mod q z
  rw [h4] at e1
  omega
/-- addresses of increments that share no frame differ -/
theorem adr_ne {z : Nat} (hz : 0 < z) {fr fr' : List Nat} (hd : ∀ k ∈ fr, k ∉ fr') {p q : Nat} (hp : p < fr.length * z) (hq : q < fr'.length * z) : adr z fr p ≠ adr z fr' q := fun e => by
  have h1 : p / z < fr.length := Nat.div_lt_of_lt_mul (by rw [Nat.mul_comm]; exact hp)
  have h2 : q / z < fr'.length := Nat.div_lt_of_lt_mul (by rw [Nat.mul_comm]; exact hq)
  obtain ⟨a1, _⟩ := adr_div hz fr p
  obtain ⟨b1, _⟩ := adr_div hz fr' q
  rw [e] at a1
  rw [List.getElem?_eq_getElem h1, Option.getD_some] at a1
  rw [List.getElem?_eq_getElem h2, Option.getD_some] at b1
  have h3 : fr[p / z] = fr'[q / z] := by rw [← a1, ← b1]
  exact hd _ (List.getElem_mem h1) (h3 ▸ List.getElem_mem h2)
theorem adr_append {z : Nat} (hz : 0 < z) {fr l : List Nat} {p : Nat} (hp : p < fr.length * z) : adr z (fr ++ l) p = adr z fr p := by
  have h1 : p / z < fr.length := Nat.div_lt_of_lt_mul (by rw [Nat.mul_comm]; exact hp)
  unfold adr
  rw [List.getElem?_append_left h1]

theorem sub_len : ∀ (l l' : List Nat), l.Nodup → (∀ x ∈ l, x ∈ l') → l.length ≤ l'.length
  | [], _, _, _ => Nat.zero_le _
  | x :: l, l', hn, h => by
    have hx := h x (by simp)
    have hn2 := List.nodup_cons.1 hn
    have := sub_len l (l'.erase x) hn2.2 fun y hy => (List.mem_erase_of_ne (fun (e : y = x) => hn2.1 (by rw [← e]; exact hy))).2 (h y (List.mem_cons_of_mem _ hy))
    rw [List.length_erase_of_mem hx] at this
    have h1 : 0 < l'.length := List.length_pos_of_mem hx
    rw [List.length_cons]
    omega
/-- whether a frame has an owner -/
def isOw (fs : List Fe) (q : Int) (k : Nat) : Bool := match fs[k]? with | some f => decide (f.ow = q) | none => false
theorem isOw_at {fs : List Fe} {q : Int} {k : Nat} (h : k < fs.length) : isOw fs q k = decide (fs[k].ow = q) := by unfold isOw; rw [List.getElem?_eq_getElem h]
theorem cnO_filter (fs : List Fe) (q : Int) : ∀ k, k ≤ fs.length → cnO fs q k = ((List.range k).filter (isOw fs q)).length
  | 0, _ => rfl
  | k + 1, h => by
    have ih := cnO_filter fs q k (by omega)
    rw [List.range_succ, List.filter_append, List.length_append]
    by_cases ho : fs[k].ow = q
    · rw [cnO_t (by omega) ho, ih]
      have : isOw fs q k = true := by rw [isOw_at (by omega)]; exact decide_eq_true ho
      simp [this]
    · rw [cnO_f (by omega) ho, ih]
      have : isOw fs q k = false := by rw [isOw_at (by omega)]; exact decide_eq_false ho
      simp [this]
/-- an increment lies in a space -/
structure IncOk (s : Sp) (i : Inc) (fr : List Nat) : Prop extends IncC s.fs i fr where
  wd : 0 ≤ i.words ∧ i.words ≤ s.ws.length
  len : (fr.length : Int) = clN s i.words
theorem clN_nat {s : Sp} (hs : ShOk s.sh) {n : Nat} (hn : n ≤ 1099511627776) : clN s (n : Int) = ((n + szS s - 1) / szS s : Nat) := by
  obtain ⟨g1, g2, g3, g4, g5⟩ := sz_get hs
  unfold clN
  rw [if_neg (by omega)]
  push_cast [Int.natCast_sub (show 1 ≤ n + szS s by omega)]
  rfl
theorem nodup_len {n : Nat} {l : List Nat} (hn : l.Nodup) (h : ∀ x ∈ l, x < n) : l.length ≤ n := nodup_le n l hn h
theorem IncOk.fit {s : Sp} (hs : SpOk s) {i : Inc} {fr : List Nat} (h : IncOk s i fr) : FitP s i.seq i.belt i.first i.last i.words := by
  obtain ⟨g1, g2, g3, g4, g5⟩ := hs.shp.z
  have hw := hs.shp.small
  obtain ⟨n, hn⟩ : ∃ n : Nat, i.words = n := ⟨i.words.toNat, by have := h.wd.1; omega⟩
  have hl := h.len
  rw [hn, clN_nat hs.shp.sh (by have := h.wd.2; omega)] at hl
  refine ⟨h.sq, h.bl, h.wd, fun h0 => ?_, fun h0 => ?_⟩
  · have h1 : fr = [] := by
      have : n = 0 := by omega
      subst this
      rw [Nat.zero_add, Nat.div_eq_of_lt (by omega)] at hl
      exact List.length_eq_zero_iff.1 (by omega)
    rw [h.first, h.last, h1]
    exact ⟨rfl, rfl⟩
  · have h1 : 0 < fr.length := by
      have : 1 ≤ (n + szS s - 1) / szS s := by rw [Nat.le_div_iff_mul_le (by omega)]; omega
      omega
    cases fr with
    | nil => simp at h1
    | cons f l =>
      have hf : i.first = (f : Int) := h.first
      have hin := h.ch.lt
      have hcount : cnO s.fs i.seq s.fs.length = (f :: l).length := by
        rw [cnO_filter _ _ _ (Nat.le_refl _)]
        refine Nat.le_antisymm (sub_len _ _ (List.Pairwise.filter _ List.nodup_range) fun k hk => ?_) (sub_len _ _ h.nd fun k hk => ?_)
        · obtain ⟨k1, k2⟩ := List.mem_filter.1 hk
          have k3 := List.mem_range.1 k1
          rw [isOw_at k3] at k2
          exact (h.ow k k3).1 (of_decide_eq_true k2)
        · have k3 := hin k hk
          exact List.mem_filter.2 ⟨List.mem_range.2 k3, by rw [isOw_at k3]; exact decide_eq_true ((h.ow k k3).2 hk)⟩
      refine ⟨(f :: l).length, ⟨by simp, nodup_len h.nd hin, ?_, fun j hj => ?_⟩, ⟨by omega, by rw [hf]; exact hin f (by simp), ?_, ?_, by rw [hn, clN_nat hs.shp.sh (by have := h.wd.2; omega)]; exact hl, hcount.symm, ?_⟩⟩
      · rw [hf, h.ch.it, List.getElem?_eq_none (Nat.le_refl _)]
      · rw [hf, h.ch.it, List.getElem?_eq_getElem hj]
        have := hin _ (List.getElem_mem hj)
        dsimp only
        omega
      · simp only [hf, Int.toNat_natCast]
        exact (h.ow f (hin f (by simp))).2 (by simp)
      · simp only [hf, Int.toNat_natCast]
        exact h.st f (hin f (by simp)) (by simp)
      · rw [hf, h.ch.it, h.last, List.getLast?_eq_getElem?]
        cases (f :: l)[(f :: l).length - 1]? <;> rfl
end Go.Proofs.Ythpnlnjdmlbnaaa
/- The reference's Grow and Alloc, as plain functions. No program. -/
namespace Go.Proofs.Ythpnlnjdmlbnaaa
open Go.RowKit
set_option linter.unusedVariables false
set_option linter.unusedSimpArgs false

theorem growN_succ : ∀ (n : Nat) (fs : List Fe) (i : Inc), growN (n + 1) fs i = match frF (growN n fs i).1 with
    | none => growN n fs i
    | some f => lnk (growN n fs i).1 (growN n fs i).2 f
  | 0, fs, i => by
    show (match frF fs with | none => (fs, i) | some f => growN 0 (lnk fs i f).1 (lnk fs i f).2) = (match frF fs with | none => (fs, i) | some f => lnk fs i f)
    cases frF fs <;> rfl
  | n + 1, fs, i => by
    have e : ∀ m, growN (m + 1) fs i = match frF fs with | none => (fs, i) | some f => growN m (lnk fs i f).1 (lnk fs i f).2 := fun _ => rfl
    rw [e (n + 1), e n]
    cases h : frF fs with
    | none => dsimp only; rw [h]
    | some f => dsimp only; exact growN_succ n _ _
/-- how many frames more -/
def exN (s : Sp) (i : Inc) (n : Int) : Nat := (clN s (i.words + n) - clN s i.words).toNat
/-- what Grow leaves -/
def grw (s : Sp) (i : Inc) (n : Int) : Inc := let j := (growN (exN s i n) s.fs i).2; ⟨j.seq, j.belt, j.first, j.last, i.words + n⟩
def grwF (s : Sp) (i : Inc) (n : Int) : List Fe := (growN (exN s i n) s.fs i).1
theorem exN_ok {s : Sp} (hs : ShpS s) {i : Inc} {n : Int} (h0 : 0 ≤ i.words ∧ i.words ≤ s.ws.length) (hn : 1 ≤ n ∧ n ≤ 48) : clN s (i.words + n) - clN s i.words = exN s i n ∧ exN s i n ≤ 7 := by
  obtain ⟨g1, g2, g3, g4, g5⟩ := hs.z
  have hw := hs.small
  obtain ⟨a, ha⟩ : ∃ a : Nat, i.words = a := ⟨i.words.toNat, by omega⟩
  obtain ⟨b, rfl⟩ : ∃ b : Nat, n = b := ⟨n.toNat, by omega⟩
  unfold exN
  rw [ha, show (a : Int) + (b : Int) = ((a + b : Nat) : Int) by push_cast; rfl, clN_nat hs.sh (by omega), clN_nat hs.sh (by omega)]
  have h1 : (a + szS s - 1) / szS s ≤ (a + b + szS s - 1) / szS s := Nat.div_le_div_right (by omega)
  have h2 : (a + b + szS s - 1) / szS s ≤ (a + szS s - 1) / szS s + 7 := by
    have : a + b + szS s - 1 ≤ (a + szS s - 1) + 6 * szS s := by omega
    have h3 := Nat.div_le_div_right (c := szS s) this
    rw [Nat.add_mul_div_right _ _ (by omega)] at h3
    omega
  omega
theorem grow_words {s : Sp} (hs : ShpS s) {i : Inc} {fr : List Nat} (h : IncOk s i fr) {n : Int} (hn : 1 ≤ n ∧ n ≤ 48) : i.words + n ≤ ((fr.length + exN s i n) * szS s : Nat) ∧ 0 < fr.length + exN s i n ∧ ((fr.length + exN s i n : Nat) : Int) = clN s (i.words + n) := by
  obtain ⟨g1, g2, g3, g4, g5⟩ := hs.z
  have hw := hs.small
  obtain ⟨e1, e2⟩ := exN_ok hs h.wd hn
  have hl := h.len
  have e3 : ((fr.length + exN s i n : Nat) : Int) = clN s (i.words + n) := by push_cast; omega
  obtain ⟨a, ha⟩ : ∃ a : Nat, i.words + n = a := ⟨(i.words + n).toNat, by have := h.wd.1; omega⟩
  have e4 := e3
  rw [ha, clN_nat hs.sh (by have := h.wd.2; omega)] at e4
  have e5 : fr.length + exN s i n = (a + szS s - 1) / szS s := by omega
  have e6 : a ≤ (a + szS s - 1) / szS s * szS s := by
    have h1 := Nat.div_add_mod (a + szS s - 1) (szS s)
    have h2 := Nat.mod_lt (a + szS s - 1) (show 0 < szS s by omega)
    rw [Nat.mul_comm] at h1
    omega
  refine ⟨by rw [ha, e5]; omega, ?_, e3⟩
  rw [e5]
  have : 1 ≤ (a + szS s - 1) / szS s := by rw [Nat.le_div_iff_mul_le (by omega)]; have := h.wd.1; omega
  omega
/-- what an increment is after Grow -/
structure GrwOk (s : Sp) (i : Inc) (fr : List Nat) (n : Int) : Prop where
  sp : SpOk ⟨s.sh, s.ws, grwF s i n⟩
  len : (grwF s i n).length = s.fs.length
  inc : IncOk ⟨s.sh, s.ws, grwF s i n⟩ (grw s i n) (fr ++ (freeL s.fs).take (exN s i n))
  free : freeL (grwF s i n) = (freeL s.fs).drop (exN s i n)
  same : (grw s i n).words = i.words + n ∧ (grw s i n).seq = i.seq ∧ (grw s i n).belt = i.belt
  other : ∀ k (h : k < s.fs.length) (h' : k < (grwF s i n).length), k ∉ fr → k ∉ (freeL s.fs).take (exN s i n) → (grwF s i n)[k] = s.fs[k]
theorem grw_ok {s : Sp} (hs : SpOk s) {i : Inc} {fr : List Nat} (h : IncOk s i fr) {n : Int} (hn : 1 ≤ n ∧ n ≤ 48) (hf : exN s i n ≤ (freeL s.fs).length) : GrwOk s i fr n := by
  have g := growN_ok (exN s i n) hs h.toIncC hf
  obtain ⟨w1, w2, w3⟩ := grow_words hs.shp h hn
  have hc : IncC (grwF s i n) (grw s i n) (fr ++ (freeL s.fs).take (exN s i n)) := by
    have := g.inc
    exact ⟨this.sq, this.bl, this.ch, this.nd, this.ow, this.st, this.first, this.last⟩
  have hlen : (fr ++ (freeL s.fs).take (exN s i n)).length = fr.length + exN s i n := by
    rw [List.length_append, List.length_take, Nat.min_eq_left hf]
  refine ⟨g.sp, g.len, { hc with wd := ⟨by have := h.wd.1; show 0 ≤ i.words + n; omega, ?_⟩, len := ?_ }, g.free, ⟨rfl, g.words.2.1, g.words.2.2⟩, g.other⟩
  · show i.words + n ≤ s.ws.length
    have h1 := nodup_len hc.nd hc.ch.lt
    rw [hlen, show (grwF s i n).length = s.fs.length from g.len] at h1
    have h2 : (fr.length + exN s i n) * szS s ≤ s.fs.length * szS s := Nat.mul_le_mul_right _ h1
    rw [hs.shp.wl]
    omega
  · rw [hlen]
    exact w3
theorem GrwOk.at {s : Sp} {i : Inc} {fr : List Nat} {n : Int} (h : GrwOk s i fr n) (hs : SpOk s) (hi : IncOk s i fr) (hn : 1 ≤ n ∧ n ≤ 48) (hf : exN s i n ≤ (freeL s.fs).length) :
    GoR ⟨s.sh, s.ws, grwF s i n⟩ ((grw s i n).first * 2 ^ s.sh.toNat) i.words = (((adr (szS s) (fr ++ (freeL s.fs).take (exN s i n)) i.words.toNat : Nat) : Int), 0) := by
  obtain ⟨g1, g2, g3, g4, g5⟩ := hs.shp.z
  obtain ⟨w1, w2, w3⟩ := grow_words hs.shp hi hn
  have hlen : (fr ++ (freeL s.fs).take (exN s i n)).length = fr.length + exN s i n := by
    rw [List.length_append, List.length_take, Nat.min_eq_left hf]
  obtain ⟨a, ha⟩ : ∃ a : Nat, i.words = a := ⟨i.words.toNat, by have := hi.wd.1; omega⟩
  have hf0 := h.inc.first
  have hch := h.inc.ch
  have hown := h.inc.own
  generalize hF : fr ++ (freeL s.fs).take (exN s i n) = F at *
  cases F with
  | nil => simp at hlen; omega
  | cons f l =>
    have e0 : adr (szS s) (f :: l) 0 = f * szS s := by
      unfold adr
      simp
    have hgo := go_adr (s := ⟨s.sh, s.ws, grwF s i n⟩) h.sp.shp hch hown (p := 0) (k := a) (by show 0 < (f :: l).length * szS s; rw [hlen]; exact Nat.mul_pos w2 (by omega))
    rw [show szS (⟨s.sh, s.ws, grwF s i n⟩ : Sp) = szS s from rfl, e0] at hgo
    rw [hf0, g5, ha]
    show GoR _ ((f : Int) * (szS s : Int)) (a : Int) = _
    rw [show (f : Int) * (szS s : Int) = ((f * szS s : Nat) : Int) by push_cast; rfl, hgo, if_pos (by rw [hlen]; omega), Nat.zero_add]
    rfl
theorem grow_spec {s : Sp} (hs : SpOk s) {i : Inc} {fr : List Nat} (hi : IncOk s i fr) {n : Int} (hn : 1 ≤ n ∧ n ≤ 48) :
    F_ref09_Grow s i n = some (if exN s i n ≤ (freeL s.fs).length then (grw s i n, ((adr (szS s) (fr ++ (freeL s.fs).take (exN s i n)) i.words.toNat : Nat) : Int), 0, grwF s i n) else (⟨0, 0, 0, 0, 0⟩, 0, 4, s.fs)) := by
  obtain ⟨g1, g2, g3, g4, g5⟩ := hs.shp.z
  have hw := hs.shp.small
  have h64 := hs.shp.hi
  obtain ⟨e1, e2⟩ := exN_ok hs.shp hi.wd hn
  have hwd := hi.wd
  unfold F_ref09_Grow
  have x1 : F_ref09_Extra s i n = some (exN s i n : Int) := by
    rw [extra_c hs.shp.sh (by unfold I64; omega) (by unfold I64; omega), e1]
  refine bind_ok x1 ?_
  refine bind_ok (free_ok s (by omega)) ?_
  rw [List.length_map]
  by_cases hf : exN s i n ≤ (freeL s.fs).length
  · rw [if_neg (by omega)]
    have gk := grw_ok hs hi hn hf
    have lp : loopO (fun (s8 : List Fe × Inc × Int) =>
        if 0 < s8.2.2 then
          ((F_ref04_Lift (Sp.mk s.sh s.ws s8.1) s8.2.1.seq s8.2.1.belt).bind fun v13 =>
            if v13.2.length = s8.1.length then
              if s8.2.1.first = (-1) then (some (.go ((v13.2, Inc.mk s8.2.1.seq s8.2.1.belt v13.1 v13.1 s8.2.1.words, w64 (s8.2.2 - 1)))))
              else (at_ v13.2 s8.2.1.last).bind fun v16 => some (.go ((v13.2.set (Int.toNat s8.2.1.last) (Fe.mk v16.ow v16.st v13.1), Inc.mk s8.2.1.seq s8.2.1.belt s8.2.1.first v13.1 s8.2.1.words, w64 (s8.2.2 - 1))))
            else none)
        else some (.out ((s8.1, s8.2.1)))) (s.fs, i, (exN s i n : Int)) = some (grwF s i n, (growN (exN s i n) s.fs i).2) := by
      refine loop_end (σ := List Fe × Inc × Int) (fun j => ((growN j s.fs i).1, (growN j s.fs i).2, ((exN s i n : Int) - (j : Int)))) (exN s i n) (fun j hj => ?_) ?_
      · have gj := growN_ok j hs hi.toIncC (by omega)
        have hfj : freeL (growN j s.fs i).1 ≠ [] := fun e => by
          have := congrArg List.length (gj.free.symm.trans e)
          rw [List.length_drop] at this
          simp at this
          omega
        obtain ⟨f, hff⟩ := frF_of hfj
        obtain ⟨hfl, h0⟩ := frF_some hff
        have hsq := gj.inc.sq
        have hbl := gj.inc.bl
        have hl := lift_spec ⟨s.sh, s.ws, (growN j s.fs i).1⟩ (growN j s.fs i).2.seq (growN j s.fs i).2.belt hff (by show (growN j s.fs i).1.length ≤ _; rw [gj.len]; omega) hsq hbl
        have hsucc := growN_succ j s.fs i
        rw [hff] at hsucc
        dsimp only at hsucc hl ⊢
        rw [if_pos (by omega), hl]
        simp only [Option.bind_some]
        rw [if_pos (by simp), hsucc, show w64 ((exN s i n : Int) - (j : Int) - 1) = (exN s i n : Int) - ((j + 1 : Nat) : Int) from by rw [w64_in (by omega)]; push_cast; omega]
        generalize (growN j s.fs i).1 = fs at *
        generalize hI : (growN j s.fs i).2 = I at *
        unfold lnk
        dsimp only
        by_cases h1 : I.first = -1
        · rw [if_pos h1, if_pos h1]
        · rw [if_neg h1, if_neg h1]
          have hlast := gj.inc.last
          cases hg : (fr ++ (freeL s.fs).take j).getLast? with
          | none =>
            have hn0 := List.getLast?_eq_none_iff.1 hg
            exact absurd (by rw [gj.inc.first, hn0]; rfl) h1
          | some l =>
            rw [hg] at hlast
            dsimp only at hlast
            have hll := gj.inc.ch.lt l (List.mem_of_getLast? hg)
            have hlt : I.last.toNat < (fs.set f ⟨I.seq, I.belt * 4294967296 + I.seq, -1⟩).length := by rw [List.length_set, hlast]; exact hll
            rw [at_int (by rw [hlast]; omega) hlt, List.getElem?_eq_getElem hlt]
            rfl
      · dsimp only
        rw [if_neg (by omega)]
        rfl
    refine bind_ok (a := (grwF s i n, (growN (exN s i n) s.fs i).2)) lp ?_
    dsimp only
    have hwu : wu s.sh = s.sh := wu_in (by omega)
    rw [hwu, if_pos g1]
    have hsp := gk.sp
    have hfst : 0 ≤ (grw s i n).first ∧ (grw s i n).first < s.fs.length := by
      have hf0 := gk.inc.first
      obtain ⟨w1, w2, w3⟩ := grow_words hs.shp hi hn
      cases hh : (fr ++ (freeL s.fs).take (exN s i n)).head? with
      | none =>
        have := List.head?_eq_none_iff.1 hh
        have h2 := congrArg List.length this
        rw [List.length_append, List.length_take, Nat.min_eq_left hf, List.length_nil] at h2
        omega
      | some x =>
        rw [hh] at hf0
        have := gk.inc.ch.lt x (List.mem_of_head? hh)
        have h3 : (⟨s.sh, s.ws, grwF s i n⟩ : Sp).fs.length = s.fs.length := gk.len
        rw [h3] at this
        rw [hf0]
        dsimp only
        omega
    have hshl : shlN .i64 (growN (exN s i n) s.fs i).2.first s.sh = (grw s i n).first * 2 ^ s.sh.toNat := by
      obtain ⟨e, he⟩ : ∃ e : Nat, s.sh = e := ⟨s.sh.toNat, by omega⟩
      have hb : 0 ≤ (grw s i n).first * 2 ^ s.sh.toNat ∧ (grw s i n).first * 2 ^ s.sh.toNat ≤ 16384 := by
        rw [g5]
        refine ⟨Int.mul_nonneg hfst.1 (by omega), ?_⟩
        have h1 : (grw s i n).first * (szS s : Int) ≤ (64 : Int) * (szS s : Int) := Int.mul_le_mul_of_nonneg_right (by omega) (by omega)
        have h2 : (64 : Int) * (szS s : Int) ≤ 64 * 256 := by omega
        omega
      rw [he] at hb ⊢
      rw [Int.toNat_natCast] at hb ⊢
      exact shl_pow (by omega) (by show _ ≤ (grw s i n).first * 2 ^ e ∧ (grw s i n).first * 2 ^ e ≤ _; omega)
    rw [hshl]
    have hgo : F_ref05_Go ⟨s.sh, s.ws, grwF s i n⟩ ((grw s i n).first * 2 ^ s.sh.toNat) i.words = some (((adr (szS s) (fr ++ (freeL s.fs).take (exN s i n)) i.words.toNat : Nat) : Int), 0) := by
      have h1 : (grw s i n).first * (szS s : Int) ≤ (64 : Int) * (szS s : Int) := Int.mul_le_mul_of_nonneg_right (by omega) (by omega)
      have h2 : (64 : Int) * (szS s : Int) ≤ 64 * 256 := by omega
      have h3 : 0 ≤ (grw s i n).first * (szS s : Int) := Int.mul_nonneg hfst.1 (by omega)
      have hI : I64 ((grw s i n).first * 2 ^ s.sh.toNat) := by rw [g5]; unfold I64; omega
      have hJ : I64 i.words := by unfold I64; omega
      rw [go_c (s := ⟨s.sh, s.ws, grwF s i n⟩) hsp.shp (nxin_of hsp.fm) hI hJ, gk.at hs hi hn hf]
    refine bind_ok hgo ?_
    have hwn : w64 ((growN (exN s i n) s.fs i).2.words + n) = i.words + n := by
      rw [(growN_ok (exN s i n) hs hi.toIncC hf).words.1]
      exact w64_in (by omega)
    rw [hwn, if_pos hf]
    rfl
  · rw [if_pos (by omega), if_neg hf]
end Go.Proofs.Ythpnlnjdmlbnaaa
/- The reference's Alloc, and objects that are begun. No program. -/
namespace Go.Proofs.Ythpnlnjdmlbnaaa
open Go.RowKit
set_option linter.unusedVariables false
set_option linter.unusedSimpArgs false

theorem copy_ok {s : Sp} (h1 : s.ws.length ≤ 65536) (h2 : s.fs.length ≤ 65536) : F_ref03_Copy s = some s := by
  unfold F_ref03_Copy F_ref02_Clone
  rw [if_pos (by omega)]
  simp only [Option.bind_some]
  rw [if_pos (by omega)]
theorem IncOk.nil {s : Sp} (hs : ShpS s) {i : Inc} {fr : List Nat} (h : IncOk s i fr) (h0 : i.words = 0) : fr = [] := by
  obtain ⟨g1, g2, g3, g4, g5⟩ := hs.z
  have hl := h.len
  rw [h0, show (0 : Int) = ((0 : Nat) : Int) from rfl, clN_nat hs.sh (by omega), Nat.zero_add, Nat.div_eq_of_lt (by omega)] at hl
  exact List.length_eq_zero_iff.1 (by omega)
theorem alloc_spec {s : Sp} (hs : SpOk s) (hW : SpW s) {i : Inc} {fr : List Nat} (hi : IncOk s i fr) {n : Int} (hn : 1 ≤ n ∧ n ≤ 48) :
    F_ref09_Alloc s i n = some (if exN s i n ≤ (freeL s.fs).length then (⟨s.sh, s.ws, grwF s i n⟩, grw s i n, ((adr (szS s) (fr ++ (freeL s.fs).take (exN s i n)) i.words.toNat : Nat) : Int), 0) else (⟨0, [], []⟩, ⟨0, 0, 0, 0, 0⟩, 0, 4)) := by
  have hw := hs.shp.small
  have h64 := hs.shp.hi
  unfold F_ref09_Alloc
  have hv : F_ref09_Valid s i = some true := by
    rw [valid09_c hW, bP_t ⟨hs, hi.fit hs⟩]
  refine bind_ok hv ?_
  rw [if_pos rfl, if_neg (by omega), if_neg (by omega)]
  have rest : ((F_ref03_Copy s).bind fun v15 => (F_ref09_Grow v15 i n).bind fun v16 =>
      if v16.2.2.2.length = v15.fs.length then
        if v16.2.2.1 = 0 then (some ((Sp.mk v15.sh v15.ws v16.2.2.2, v16.1, v16.2.1, 0)))
        else some ((Sp.mk 0 ([] : List Int) ([] : List Fe), Inc.mk 0 0 0 0 0, 0, v16.2.2.1))
      else none) = some (if exN s i n ≤ (freeL s.fs).length then (⟨s.sh, s.ws, grwF s i n⟩, grw s i n, ((adr (szS s) (fr ++ (freeL s.fs).take (exN s i n)) i.words.toNat : Nat) : Int), 0) else (⟨0, [], []⟩, ⟨0, 0, 0, 0, 0⟩, 0, 4)) := by
    refine bind_ok (copy_ok (by omega) (by omega)) ?_
    refine bind_ok (grow_spec hs hi hn) ?_
    by_cases hf : exN s i n ≤ (freeL s.fs).length
    · simp only [if_pos hf]
      rw [if_pos (grw_ok hs hi hn hf).len, if_pos trivial]
    · simp only [if_neg hf]
      rw [if_pos trivial, if_neg (by omega)]
  by_cases h0 : i.words = 0
  · rw [if_pos h0]
    have hfr := hi.nil hs.shp h0
    have ho : F_ref09_Owns s i.seq = some false := by
      rw [owns_c s (by omega), bP_f]
      rintro ⟨f, hf, e⟩
      obtain ⟨k, hk, rfl⟩ := List.getElem_of_mem hf
      have := (hi.ow k hk).1 e
      rw [hfr] at this
      cases this
    refine bind_ok ho ?_
    rw [if_neg (by decide)]
    exact rest
  · rw [if_neg h0]
    exact rest

/-- words written, but not in free frames -/
theorem sp_ws {s : Sp} (hs : SpOk s) {ws : List Int} (hl : ws.length = s.ws.length) (h : ∀ k (hk : k < s.fs.length), s.fs[k].ow = -1 → ∀ a (h1 : a < s.ws.length) (h2 : a < ws.length), a / szS s = k → ws[a] = s.ws[a]) : SpOk ⟨s.sh, ws, s.fs⟩ := by
  obtain ⟨g1, g2, g3, g4, g5⟩ := hs.shp.z
  refine ⟨⟨hs.shp.sh, hs.shp.lo, hs.shp.hi, by show ws.length = _; rw [hl]; exact hs.shp.wl⟩, fun i hi => ?_, hs.uq, hs.ends⟩
  rcases hs.fm i hi with q | q
  · refine .inl ⟨q.1, q.2.1, q.2.2.1, fun a ha h1 h2 => ?_⟩
    have ha2 : a < s.ws.length := by have : a < ws.length := ha; omega
    show ws[a] = 0
    have e : szS (⟨s.sh, ws, s.fs⟩ : Sp) = szS s := rfl
    rw [e] at h1 h2
    have hd : a / szS s = i := Nat.div_eq_of_lt_le h1 h2
    rw [h i hi q.1 a ha2 ha hd]
    exact q.2.2.2 a ha2 h1 h2
  · exact .inr q
/-- the words behind a header are cleared -/
theorem clrL_get (s : Sp) (a : Int) : ∀ (n : Nat) (l : List Int) (x : Nat), (∀ k : Nat, 1 ≤ k → k ≤ n → (GoR s a (k : Int)).1.toNat ≠ x) → (clrL s a n l)[x]? = l[x]?
  | 0, l, x, _ => rfl
  | n + 1, l, x, h => by
    unfold clrL
    rw [List.getElem?_set_ne (by have := h (n + 1) (by omega) (by omega); exact_mod_cast this)]
    exact clrL_get s a n l x fun k h1 h2 => h k h1 (by omega)
theorem clrL_zero (s : Sp) (a : Int) : ∀ (n : Nat) (l : List Int) (k : Nat), 1 ≤ k → k ≤ n → (GoR s a (k : Int)).1.toNat < l.length → (clrL s a n l)[(GoR s a (k : Int)).1.toNat]? = some 0
  | 0, l, k, h1, h2, _ => by omega
  | n + 1, l, k, h1, h2, hl => by
    unfold clrL
    by_cases he : (GoR s a ((n + 1 : Nat) : Int)).1.toNat = (GoR s a (k : Int)).1.toNat
    · rw [he, List.getElem?_set_self (by rw [clrL_len]; exact hl)]
    · rw [List.getElem?_set_ne he]
      have : k ≠ n + 1 := fun e => he (by rw [e])
      exact clrL_zero s a n l k h1 (by omega) hl

/-- the words of an object that is begun -/
def iniW (s : Sp) (a r d : Nat) : List Int := clrL s a (r + d) (s.ws.set a (hdW r d))
theorem iniW_len (s : Sp) (a r d : Nat) : (iniW s a r d).length = s.ws.length := by unfold iniW; rw [clrL_len, List.length_set]
section
variable {s : Sp} {fr : List Nat} {p r d : Nat}
theorem go_k (hs : ShpS s) (hc : Chn s.fs fr) (ho : Own s.fs fr) {k : Nat} (h : p + k < fr.length * szS s) : GoR s ((adr (szS s) fr p : Nat) : Int) (k : Int) = (((adr (szS s) fr (p + k) : Nat) : Int), 0) := by
  rw [go_adr hs hc ho (by omega), if_pos h]
theorem iniW_hd (hs : ShpS s) (hc : Chn s.fs fr) (hn : fr.Nodup) (ho : Own s.fs fr) (hp : p + r + d < fr.length * szS s) : (iniW s (adr (szS s) fr p) r d)[adr (szS s) fr p]? = some (hdW r d) := by
  obtain ⟨g1, g2, g3, g4, g5⟩ := hs.z
  unfold iniW
  rw [clrL_get _ _ _ _ _ fun k h1 h2 e => ?_, List.getElem?_set_self (adr_lt hs hc.lt (by omega))]
  rw [go_k hs hc ho (by omega)] at e
  have := adr_inj (by omega) hn (by omega) (by omega) (show adr (szS s) fr (p + k) = adr (szS s) fr p from e)
  omega
theorem iniW_0 (hs : ShpS s) (hc : Chn s.fs fr) (hn : fr.Nodup) (ho : Own s.fs fr) (hp : p + r + d < fr.length * szS s) {k : Nat} (h1 : 1 ≤ k) (h2 : k ≤ r + d) : (iniW s (adr (szS s) fr p) r d)[adr (szS s) fr (p + k)]? = some 0 := by
  have e := go_k (k := k) hs hc ho (p := p) (by omega)
  have := clrL_zero s ((adr (szS s) fr p : Nat) : Int) (r + d) (s.ws.set (adr (szS s) fr p) (hdW r d)) k h1 h2 (by rw [e, List.length_set]; exact adr_lt hs hc.lt (by omega))
  rw [e] at this
  exact this
theorem iniW_else (hs : ShpS s) (hc : Chn s.fs fr) (ho : Own s.fs fr) (hp : p + r + d < fr.length * szS s) {x : Nat} (h : ∀ k, k ≤ r + d → x ≠ adr (szS s) fr (p + k)) : (iniW s (adr (szS s) fr p) r d)[x]? = s.ws[x]? := by
  have h0 : x ≠ adr (szS s) fr p := h 0 (Nat.zero_le _)
  unfold iniW
  rw [clrL_get _ _ _ _ _ fun k h1 h2 e => ?_, List.getElem?_set_ne fun e => h0 e.symm]
  rw [go_k hs hc ho (by omega)] at e
  exact h k h2 e.symm
theorem ini_spec (hs : SpOk s) (hW : SpW s) (hc : Chn s.fs fr) (hn : fr.Nodup) (ho : Own s.fs fr) (hp : p + r + d < fr.length * szS s) (hr : r ≤ 15) (hd : d ≤ 32) :
    F_ref08_Init s ((adr (szS s) fr p : Nat) : Int) r d = some (⟨s.sh, iniW s (adr (szS s) fr p) r d, s.fs⟩, 0) := by
  have hw := hs.shp.small
  have h64 := hs.shp.hi
  have hlt := adr_lt hs.shp hc.lt (show p < fr.length * szS s by omega)
  have he : IniE s ((adr (szS s) fr p : Nat) : Int) r d = 0 := by
    rw [IniE_t hs]
    unfold MkE
    rw [if_pos (by unfold HdOk; omega), show (r : Int) + (d : Int) = ((r + d : Nat) : Int) by push_cast; rfl, go_k hs.shp hc ho (by omega)]
  have hv : IniR s ((adr (szS s) fr p : Nat) : Int) r d = (⟨s.sh, iniW s (adr (szS s) fr p) r d, s.fs⟩, 0) := by
    unfold IniR
    rw [if_pos he]
    rfl
  rw [init_c hW ⟨by omega, by omega⟩ (by unfold I64; omega), hv]
theorem ini_sp (hs : SpOk s) (hW : SpW s) (hc : Chn s.fs fr) (hn : fr.Nodup) (ho : Own s.fs fr) (hp : p + r + d < fr.length * szS s) (hr : r ≤ 15) (hd : d ≤ 32) : SpOk ⟨s.sh, iniW s (adr (szS s) fr p) r d, s.fs⟩ ∧ SpW ⟨s.sh, iniW s (adr (szS s) fr p) r d, s.fs⟩ := by
  obtain ⟨g1, g2, g3, g4, g5⟩ := hs.shp.z
  refine ⟨sp_ws hs (iniW_len ..) fun k hk hfree a h1 h2 hak => ?_, fun x hx => ?_, hW.2⟩
  · have := iniW_else hs.shp hc ho hp (x := a) fun j hj e => ?_
    · rw [List.getElem?_eq_getElem h2, List.getElem?_eq_getElem h1] at this
      exact Option.some.inj this
    · obtain ⟨d1, _⟩ := adr_div (show 0 < szS s by omega) fr (p + j)
      have hj2 : (p + j) / szS s < fr.length := Nat.div_lt_of_lt_mul (by rw [Nat.mul_comm]; omega)
      rw [← e, hak, List.getElem?_eq_getElem hj2, Option.getD_some] at d1
      subst d1
      exact ho _ (List.getElem_mem hj2) hk hfree
  · have hx : x ∈ iniW s (adr (szS s) fr p) r d := hx
    obtain ⟨a, ha, rfl⟩ := List.getElem_of_mem hx
    have h1 : (iniW s (adr (szS s) fr p) r d)[a]? = some (iniW s (adr (szS s) fr p) r d)[a] := List.getElem?_eq_getElem ha
    by_cases hk : ∃ k, k ≤ r + d ∧ a = adr (szS s) fr (p + k)
    · obtain ⟨k, hk, e⟩ := hk
      by_cases h0 : k = 0
      · subst h0
        subst e
        have this : (iniW s (adr (szS s) fr p) r d)[adr (szS s) fr (p + 0)]? = some (hdW r d) := iniW_hd hs.shp hc hn ho hp
        rw [h1] at this
        rw [Option.some.inj this]
        unfold U64 hdW
        omega
      · subst e
        have := iniW_0 hs.shp hc hn ho hp (k := k) (by omega) hk
        rw [h1] at this
        rw [Option.some.inj this]
        unfold U64
        omega
    · have := iniW_else hs.shp hc ho hp (x := a) fun k hkk e => hk ⟨k, hkk, e⟩
      rw [h1] at this
      exact hW.1 _ (List.mem_of_getElem? this.symm)
end
end Go.Proofs.Ythpnlnjdmlbnaaa
/- Spaces with increments full of objects: an object more. No program. -/
namespace Go.Proofs.Ythpnlnjdmlbnaaa
open Go.RowKit
set_option linter.unusedVariables false
set_option linter.unusedSimpArgs false

/-- objects one behind the other, from a word of an increment to another -/
def Lay (z : Nat) (ws : List Int) (fr : List Nat) : Nat → List (Nat × Nat) → Nat → Prop
  | p, [], q => p = q
  | p, (r, d) :: l, q => r ≤ 15 ∧ d ≤ 32 ∧ ws[adr z fr p]? = some (hdW r d) ∧ Lay z ws fr (p + 1 + r + d) l q
theorem Lay.le {z : Nat} {ws : List Int} {fr : List Nat} : ∀ {l : List (Nat × Nat)} {p q : Nat}, Lay z ws fr p l q → p ≤ q
  | [], p, q, h => Nat.le_of_eq h
  | (r, d) :: l, p, q, h => by have := h.2.2.2.le; omega
theorem Lay.congr {z : Nat} {ws ws' : List Int} {fr fr' : List Nat} : ∀ {l : List (Nat × Nat)} {p q : Nat}, Lay z ws fr p l q → (∀ k, p ≤ k → k < q → adr z fr' k = adr z fr k ∧ ws'[adr z fr k]? = ws[adr z fr k]?) → Lay z ws' fr' p l q
  | [], p, q, h, _ => h
  | (r, d) :: l, p, q, h, hk => by
    obtain ⟨h1, h2, h3, h4⟩ := h
    have hle := h4.le
    obtain ⟨e1, e2⟩ := hk p (Nat.le_refl _) (by omega)
    exact ⟨h1, h2, by rw [e1, e2]; exact h3, h4.congr fun k a b => hk k (by omega) b⟩
theorem Lay.snoc {z : Nat} {ws : List Int} {fr : List Nat} {r d : Nat} (hr : r ≤ 15) (hd : d ≤ 32) : ∀ {l : List (Nat × Nat)} {p q : Nat}, Lay z ws fr p l q → ws[adr z fr q]? = some (hdW r d) → Lay z ws fr p (l ++ [(r, d)]) (q + 1 + r + d)
  | [], p, q, h, hw => by
    have h : p = q := h
    subst h
    exact ⟨hr, hd, hw, rfl⟩
  | (r', d') :: l, p, q, h, hw => ⟨h.1, h.2.1, h.2.2.1, h.2.2.2.snoc hr hd hw⟩

/-- an increment, its frames, its objects -/
structure Itm where
  i : Inc
  fr : List Nat
  os : List (Nat × Nat)
structure ItmOk (s : Sp) (x : Itm) : Prop where
  inc : IncOk s x.i x.fr
  lay : Lay (szS s) s.ws x.fr 0 x.os x.i.words.toNat
structure SpInv (s : Sp) (L : List Itm) : Prop where
  ok : SpOk s
  w : SpW s
  each : ∀ x ∈ L, ItmOk s x
  seqs : L.Pairwise fun x y => x.i.seq ≠ y.i.seq
  all : ∀ k (h : k < s.fs.length), ¬ s.fs[k].ow = -1 → ∃ x ∈ L, k ∈ x.fr
theorem ItmOk.room {s : Sp} (hs : ShpS s) {x : Itm} (h : ItmOk s x) : x.i.words.toNat ≤ x.fr.length * szS s := by
  obtain ⟨g1, g2, g3, g4, g5⟩ := hs.z
  have hw := hs.small
  have hl := h.inc.len
  have hd := h.inc.wd
  obtain ⟨a, ha⟩ : ∃ a : Nat, x.i.words = a := ⟨x.i.words.toNat, by omega⟩
  rw [ha, clN_nat hs.sh (by omega)] at hl
  have e : x.fr.length = (a + szS s - 1) / szS s := by omega
  rw [e, ha, Int.toNat_natCast]
  have h1 := Nat.div_add_mod (a + szS s - 1) (szS s)
  have h2 := Nat.mod_lt (a + szS s - 1) (show 0 < szS s by omega)
  rw [Nat.mul_comm] at h1
  omega
/-- increments of different numbers share no frame -/
theorem IncC.disj {fs : List Fe} {i j : Inc} {fr fr' : List Nat} (h : IncC fs i fr) (h' : IncC fs j fr') (hne : i.seq ≠ j.seq) : ∀ k ∈ fr, k ∉ fr' := fun k hk hk' => by
  have hl := h.ch.lt k hk
  exact hne (((h.ow k hl).2 hk).symm.trans ((h'.ow k hl).2 hk'))
theorem freeL_mem {fs : List Fe} {k : Nat} (h : k ∈ freeL fs) : ∃ h' : k < fs.length, fs[k].ow = -1 := by
  unfold freeL at h
  exact isFr_lt (List.mem_filter.1 h).2

/-- the space behind an allocation, and the increment -/
def aloS (s : Sp) (x : Itm) (r d : Nat) : Sp := ⟨s.sh, iniW ⟨s.sh, s.ws, grwF s x.i ((1 + r + d : Nat) : Int)⟩ (adr (szS s) (x.fr ++ (freeL s.fs).take (exN s x.i ((1 + r + d : Nat) : Int))) x.i.words.toNat) r d, grwF s x.i ((1 + r + d : Nat) : Int)⟩
def aloX (s : Sp) (x : Itm) (r d : Nat) : Itm := ⟨grw s x.i ((1 + r + d : Nat) : Int), x.fr ++ (freeL s.fs).take (exN s x.i ((1 + r + d : Nat) : Int)), x.os ++ [(r, d)]⟩
theorem alo_own {s : Sp} (hs : SpOk s) (hW : SpW s) {x : Itm} (hx : ItmOk s x) {r d : Nat} (hr : r ≤ 15) (hd : d ≤ 32) (hf : exN s x.i ((1 + r + d : Nat) : Int) ≤ (freeL s.fs).length) :
    SpOk (aloS s x r d) ∧ SpW (aloS s x r d) ∧ ItmOk (aloS s x r d) (aloX s x r d) := by
  obtain ⟨g1, g2, g3, g4, g5⟩ := hs.shp.z
  have hn : 1 ≤ ((1 + r + d : Nat) : Int) ∧ ((1 + r + d : Nat) : Int) ≤ 48 := by omega
  have gk := grw_ok hs hx.inc hn hf
  obtain ⟨w1, w2, w3⟩ := grow_words hs.shp hx.inc hn
  have hwd := hx.inc.wd
  have hlen : (x.fr ++ (freeL s.fs).take (exN s x.i ((1 + r + d : Nat) : Int))).length = x.fr.length + exN s x.i ((1 + r + d : Nat) : Int) := by
    rw [List.length_append, List.length_take, Nat.min_eq_left hf]
  have hp : x.i.words.toNat + r + d < (x.fr ++ (freeL s.fs).take (exN s x.i ((1 + r + d : Nat) : Int))).length * szS s := by rw [hlen]; omega
  have hWg : SpW ⟨s.sh, s.ws, grwF s x.i ((1 + r + d : Nat) : Int)⟩ := ⟨hW.1, fun f hf => by
    obtain ⟨k, hk, rfl⟩ := List.getElem_of_mem hf
    have h64 := hs.shp.hi
    have hgl : (grwF s x.i ((1 + r + d : Nat) : Int)).length = s.fs.length := gk.len
    rcases gk.sp.fm k hk with h | h
    · obtain ⟨a, b, c, _⟩ := h
      rw [a, b, c]
      unfold I64
      omega
    · obtain ⟨⟨a, b, c, d1, d2, d3⟩, e1, e2, _⟩ := h
      have e2 : _ < ((grwF s x.i ((1 + r + d : Nat) : Int)).length : Int) := e2
      unfold I64
      omega⟩
  obtain ⟨q1, q2⟩ := ini_sp gk.sp hWg gk.inc.ch gk.inc.nd gk.inc.own (p := x.i.words.toNat) hp hr hd
  refine ⟨q1, q2, ?_, ?_⟩
  · have := gk.inc
    exact { this.toIncC with wd := ⟨this.wd.1, by show _ ≤ ((aloS s x r d).ws.length : Int); rw [show (aloS s x r d).ws.length = s.ws.length from iniW_len ..]; exact this.wd.2⟩, len := this.len }
  · have hroom := hx.room hs.shp
    show Lay (szS s) (aloS s x r d).ws (aloX s x r d).fr 0 (x.os ++ [(r, d)]) (x.i.words + ((1 + r + d : Nat) : Int)).toNat
    rw [show (x.i.words + ((1 + r + d : Nat) : Int)).toNat = x.i.words.toNat + 1 + r + d by omega]
    refine Lay.snoc hr hd (hx.lay.congr fun k _ hk => ⟨adr_append (by omega) (by omega), ?_⟩) ?_
    · have := iniW_else (s := ⟨s.sh, s.ws, grwF s x.i ((1 + r + d : Nat) : Int)⟩) gk.sp.shp gk.inc.ch gk.inc.own (p := x.i.words.toNat) hp (x := adr (szS s) x.fr k) fun j hj e => by
        rw [← adr_append (l := (freeL s.fs).take (exN s x.i ((1 + r + d : Nat) : Int))) (show 0 < szS s by omega) (show k < x.fr.length * szS s by omega)] at e
        have := adr_inj (show 0 < szS s by omega) gk.inc.nd (show k < _ * szS s by omega) (show x.i.words.toNat + j < _ * szS s by omega) e
        omega
      exact this
    · exact iniW_hd (s := ⟨s.sh, s.ws, grwF s x.i ((1 + r + d : Nat) : Int)⟩) gk.sp.shp gk.inc.ch gk.inc.nd gk.inc.own (p := x.i.words.toNat) hp
theorem alo_inv {s : Sp} {A B : List Itm} {x : Itm} (h : SpInv s (A ++ x :: B)) {r d : Nat} (hr : r ≤ 15) (hd : d ≤ 32) (hf : exN s x.i ((1 + r + d : Nat) : Int) ≤ (freeL s.fs).length) : SpInv (aloS s x r d) (A ++ aloX s x r d :: B) := by
  have hs := h.ok
  obtain ⟨g1, g2, g3, g4, g5⟩ := hs.shp.z
  have hx := h.each x (by simp)
  have hn : 1 ≤ ((1 + r + d : Nat) : Int) ∧ ((1 + r + d : Nat) : Int) ≤ 48 := by omega
  have gk := grw_ok hs hx.inc hn hf
  obtain ⟨q1, q2, q3⟩ := alo_own hs h.w hx hr hd hf
  have hsq : (aloX s x r d).i.seq = x.i.seq := gk.same.2.1
  have hne : ∀ y, y ∈ A ∨ y ∈ B → x.i.seq ≠ y.i.seq := fun y hy => by
    have hp := List.pairwise_append.1 h.seqs
    rcases hy with hy | hy
    · exact fun e => hp.2.2 y hy x (by simp) e.symm
    · exact (List.pairwise_cons.1 hp.2.1).1 y hy
  have hlen : (grwF s x.i ((1 + r + d : Nat) : Int)).length = s.fs.length := gk.len
  refine ⟨q1, q2, fun y hy => ?_, ?_, fun k hk ho => ?_⟩
  · have hy2 : y = aloX s x r d ∨ y ∈ A ∨ y ∈ B := by
      rcases List.mem_append.1 hy with h1 | h1
      · exact .inr (.inl h1)
      · rcases List.mem_cons.1 h1 with h2 | h2
        · exact .inl h2
        · exact .inr (.inr h2)
    rcases hy2 with rfl | hy2
    · exact q3
    · have hyI := h.each y (by rcases hy2 with h1 | h1 <;> simp [h1])
      have hney := hne y hy2
      have hdis := hx.inc.toIncC.disj hyI.inc.toIncC hney
      have notin : ∀ k ∈ y.fr, k ∉ x.fr ∧ k ∉ (freeL s.fs).take (exN s x.i ((1 + r + d : Nat) : Int)) := fun k hk => ⟨fun e => hdis k e hk, fun e => by
        obtain ⟨k1, k2⟩ := freeL_mem (List.mem_of_mem_take e)
        exact hyI.inc.own k hk k1 k2⟩
      have hsame : ∀ k (h1 : k < s.fs.length) (h2 : k < (grwF s x.i ((1 + r + d : Nat) : Int)).length), k ∈ y.fr → (grwF s x.i ((1 + r + d : Nat) : Int))[k] = s.fs[k] := fun k h1 h2 hk => gk.other k h1 h2 (notin k hk).1 (notin k hk).2
      refine ⟨⟨⟨hyI.inc.sq, hyI.inc.bl, ?_, hyI.inc.nd, fun k hk => ?_, fun k hk hky => ?_, hyI.inc.first, hyI.inc.last⟩, ⟨hyI.inc.wd.1, ?_⟩, hyI.inc.len⟩, ?_⟩
      · exact hyI.inc.ch.congr hlen fun k hk a b => by rw [hsame k a b hk]
      · have hk : k < (grwF s x.i ((1 + r + d : Nat) : Int)).length := hk
        have hk1 : k < s.fs.length := by omega
        by_cases hky : k ∈ y.fr
        · show (grwF s x.i ((1 + r + d : Nat) : Int))[k].ow = _ ↔ _
          rw [hsame k hk1 hk hky]
          exact hyI.inc.ow k hk1
        · refine ⟨fun e => ?_, fun e => absurd e hky⟩
          exfalso
          by_cases hkx : k ∈ x.fr ++ (freeL s.fs).take (exN s x.i ((1 + r + d : Nat) : Int))
          · have := (gk.inc.ow k hk).2 hkx
            rw [gk.same.2.1] at this
            exact hney (this.symm.trans e)
          · rw [List.mem_append, not_or] at hkx
            have h3 := gk.other k hk1 hk hkx.1 hkx.2
            have e : (grwF s x.i ((1 + r + d : Nat) : Int))[k].ow = y.i.seq := e
            rw [h3] at e
            exact hky ((hyI.inc.ow k hk1).1 e)
      · have hk : k < (grwF s x.i ((1 + r + d : Nat) : Int)).length := hk
        show (grwF s x.i ((1 + r + d : Nat) : Int))[k].st = _
        rw [hsame k (by omega) hk hky]
        exact hyI.inc.st k (by omega) hky
      · show _ ≤ ((aloS s x r d).ws.length : Int)
        rw [show (aloS s x r d).ws.length = s.ws.length from iniW_len ..]
        exact hyI.inc.wd.2
      · have hroom := hyI.room hs.shp
        refine hyI.lay.congr fun k _ hk => ⟨rfl, ?_⟩
        obtain ⟨w1, w2, w3⟩ := grow_words hs.shp hx.inc hn
        have hwd := hx.inc.wd
        have hlen2 : (x.fr ++ (freeL s.fs).take (exN s x.i ((1 + r + d : Nat) : Int))).length = x.fr.length + exN s x.i ((1 + r + d : Nat) : Int) := by
          rw [List.length_append, List.length_take, Nat.min_eq_left hf]
        have hp : x.i.words.toNat + r + d < (x.fr ++ (freeL s.fs).take (exN s x.i ((1 + r + d : Nat) : Int))).length * szS s := by rw [hlen2]; omega
        exact iniW_else (s := ⟨s.sh, s.ws, grwF s x.i ((1 + r + d : Nat) : Int)⟩) gk.sp.shp gk.inc.ch gk.inc.own (p := x.i.words.toNat) hp (x := adr (szS s) y.fr k) fun j hj e => by
          refine adr_ne (show 0 < szS s by omega) (fr := y.fr) (fr' := x.fr ++ (freeL s.fs).take (exN s x.i ((1 + r + d : Nat) : Int))) (fun k hk hk2 => ?_) (show k < _ * szS s by omega) (show x.i.words.toNat + j < _ * szS s by omega) e
          rcases List.mem_append.1 hk2 with h1 | h1
          · exact (notin k hk).1 h1
          · exact (notin k hk).2 h1
  · have hp := List.pairwise_append.1 h.seqs
    have hc := List.pairwise_cons.1 hp.2.1
    refine List.pairwise_append.2 ⟨hp.1, List.pairwise_cons.2 ⟨fun y hy => by rw [hsq]; exact hc.1 y hy, hc.2⟩, fun a ha b hb => ?_⟩
    rcases List.mem_cons.1 hb with rfl | hb
    · rw [hsq]; exact hp.2.2 a ha x (by simp)
    · exact hp.2.2 a ha b (by simp [hb])
  · have hk : k < (grwF s x.i ((1 + r + d : Nat) : Int)).length := hk
    by_cases hkx : k ∈ x.fr ++ (freeL s.fs).take (exN s x.i ((1 + r + d : Nat) : Int))
    · exact ⟨aloX s x r d, by simp, hkx⟩
    · rw [List.mem_append, not_or] at hkx
      have h3 := gk.other k (by omega) hk hkx.1 hkx.2
      have ho : ¬ (grwF s x.i ((1 + r + d : Nat) : Int))[k].ow = -1 := ho
      rw [h3] at ho
      obtain ⟨y, hy, hky⟩ := h.all k (by omega) ho
      rcases List.mem_append.1 hy with h1 | h1
      · exact ⟨y, by simp [h1], hky⟩
      · rcases List.mem_cons.1 h1 with rfl | h2
        · exact absurd hky hkx.1
        · exact ⟨y, by simp [h2], hky⟩
end Go.Proofs.Ythpnlnjdmlbnaaa
/- The maker of spaces, as a plain function. No program. -/
namespace Go.Proofs.Ythpnlnjdmlbnaaa
open Go.RowKit
set_option linter.unusedVariables false
set_option linter.unusedSimpArgs false

def DeckOk (d : BeltwaymakeDeck) : Prop := (∀ x ∈ d.l, I64 x) ∧ 0 ≤ d.pos ∧ d.l.length ≤ 9223372036854775807
theorem next_spec {d : BeltwaymakeDeck} (h : DeckOk d) {n : Int} (hn : 1 ≤ n ∧ n ≤ 9223372036854775807) : ∃ v d', F_make_Deck_Next d n = some (v, d') ∧ 0 ≤ v ∧ v < n ∧ DeckOk d' := by
  obtain ⟨h1, h2, h3⟩ := h
  unfold F_make_Deck_Next
  by_cases hp : (d.l.length : Int) ≤ d.pos
  · rw [if_pos hp]
    exact ⟨0, d, rfl, by omega, by omega, h1, h2, h3⟩
  · rw [if_neg hp]
    have e1 : w64 (d.pos + 1) = d.pos + 1 := w64_in (by omega)
    have e2 : w64 (d.pos + 1 - 1) = d.pos := by rw [w64_in (by omega)]; omega
    obtain ⟨v, hv, hm⟩ := at_ex (l := d.l) h2 (by omega)
    rw [e1, e2, hv]
    simp only [Option.bind_some]
    rw [mod_c (h1 v hm) hn]
    refine ⟨v % n, _, rfl, Int.emod_nonneg _ (by omega), Int.emod_lt_of_pos _ (by omega), h1, ?_, h3⟩
    show 0 ≤ d.pos + 1
    omega
theorem new_spec {k n : Int} (hk : ShOk k) (hn : 2 ≤ n ∧ n ≤ 64) : F_ref03_New k n = some (newS k n.toNat, 0) := by
  have hk0 := hk
  unfold ShOk at hk
  have hs : F_ref03_shift k = some true := by
    unfold F_ref03_shift
    simp [hk.1, hk.2]
  unfold F_ref03_New
  refine bind_ok hs ?_
  obtain ⟨e, he⟩ : ∃ e : Nat, k = e := ⟨k.toNat, by omega⟩
  obtain ⟨m, hm⟩ : ∃ m : Nat, n = m := ⟨n.toNat, by omega⟩
  subst he
  subst hm
  have hp : (2 : Nat) ^ e ≤ 2 ^ 8 := Nat.pow_le_pow_right (by decide) (by omega)
  have hp0 : 0 < (2 : Nat) ^ e := Nat.pow_pos (by decide)
  have hmul : m * 2 ^ e ≤ 64 * 256 := Nat.mul_le_mul (by omega) hp
  have hi : (m : Int) * 2 ^ e = ((m * 2 ^ e : Nat) : Int) := by push_cast; rfl
  have hsh : shlN .i64 (m : Int) (e : Int) = ((m * 2 ^ e : Nat) : Int) := by rw [shl_pow (by omega) (by rw [hi]; omega), hi]
  have hw : wu (e : Int) = (e : Int) := wu_in (by omega)
  rw [if_pos rfl, if_neg (by omega), if_neg (by omega), hw, if_pos (by omega), hsh, if_pos (by omega), if_pos (by omega)]
  have lp : loopO (fun (s12 : List Fe × Int) =>
      if s12.2 < ((List.replicate (Int.toNat (m : Int)) (Fe.mk 0 0 0)).length : Int) then
        ((at_ s12.1 s12.2).bind fun v17 => some (.go ((s12.1.set (Int.toNat s12.2) (Fe.mk (-1) (-1) (-1)), w64 (s12.2 + 1)))))
      else some (.out (((e : Int), List.replicate (Int.toNat ((m * 2 ^ e : Nat) : Int)) (0 : Int), s12.1)))) (List.replicate (Int.toNat (m : Int)) (Fe.mk 0 0 0), 0) = some ((e : Int), List.replicate (m * 2 ^ e) (0 : Int), List.replicate m feF) := by
    have h0 : List.replicate (Int.toNat (m : Int)) (Fe.mk 0 0 0) = List.replicate 0 feF ++ List.replicate (m - 0) (Fe.mk 0 0 0) := by simp
    rw [h0]
    refine loop_end (σ := List Fe × Int) (fun j => (List.replicate j feF ++ List.replicate (m - j) (Fe.mk 0 0 0), (j : Int))) m (fun j hj => ?_) ?_
    · dsimp only
      have hl : (List.replicate j feF ++ List.replicate (m - j) (Fe.mk 0 0 0)).length = m := by simp; omega
      rw [if_pos (by simp; omega), at_nat (by rw [hl]; exact hj)]
      simp only [Option.bind_some]
      rw [w64_in (by omega), Int.toNat_natCast]
      have hx : (List.replicate j feF ++ List.replicate (m - j) (Fe.mk 0 0 0)).set j (Fe.mk (-1) (-1) (-1)) = List.replicate (j + 1) feF ++ List.replicate (m - (j + 1)) (Fe.mk 0 0 0) := by
        rw [List.set_append_right _ _ (by simp), List.length_replicate, Nat.sub_self]
        obtain ⟨q, hq⟩ : ∃ q, m - j = q + 1 := ⟨m - j - 1, by omega⟩
        rw [hq, List.replicate_succ, List.set_cons_zero, show m - (j + 1) = q by omega, List.replicate_succ']
        simp
      rw [hx]
      rfl
    · dsimp only
      rw [if_neg (by simp), Nat.sub_self, Int.toNat_natCast]
      simp
  refine bind_ok lp ?_
  unfold newS
  simp
theorem new_inv {k : Int} {n : Nat} (hk : ShOk k) (hn : 2 ≤ n ∧ n ≤ 64) : SpInv (newS k n) [] := by
  have hg : ∀ i (h : i < (newS k n).fs.length), (newS k n).fs[i] = feF := fun i h => by simp [newS]
  refine ⟨⟨⟨hk, by simp [newS]; exact hn.1, by simp [newS]; exact hn.2, by simp [newS, szS]⟩, fun i hi => .inl ?_, fun i j hi hj hij _ e => by rw [hg], fun i hi => ?_⟩, ⟨fun x hx => ?_, fun f hf => ?_⟩, fun x hx => (by cases hx), List.Pairwise.nil, fun i hi ho => absurd (by rw [hg]) ho⟩
  · rw [hg]
    exact ⟨rfl, rfl, rfl, fun a ha _ _ => by simp [newS]⟩
  · rw [itF_step hi, hg]
    exact itF_neg _ rfl
  · have := List.eq_of_mem_replicate (show x ∈ List.replicate _ (0 : Int) from hx)
    subst this
    unfold U64
    omega
  · have := List.eq_of_mem_replicate (show f ∈ List.replicate _ feF from hf)
    subst this
    unfold I64
    exact ⟨by show _ ≤ (-1 : Int) ∧ (-1 : Int) ≤ _; omega, by show _ ≤ (-1 : Int) ∧ (-1 : Int) ≤ _; omega, by show _ ≤ (-1 : Int) ∧ (-1 : Int) ≤ _; omega⟩
theorem at4 {v : Int} (h : 0 ≤ v ∧ v < 4) : ∃ n : Int, at_ [3, 3, 9, 33] v = some n ∧ 1 ≤ n ∧ n ≤ 33 := by
  obtain ⟨n, hn, hm⟩ := at_ex (l := [(3 : Int), 3, 9, 33]) h.1 (by simp; omega)
  refine ⟨n, hn, ?_⟩
  simp only [List.mem_cons, List.not_mem_nil, or_false] at hm
  omega
theorem grown_spec {s : Sp} {A : List Itm} {x : Itm} (h : SpInv s (A ++ [x])) {d : BeltwaymakeDeck} (hd : DeckOk d) :
    ∃ t y d', F_make_grown d s x.i = some (t, y.i, d') ∧ SpInv t (A ++ [y]) ∧ DeckOk d' ∧ y.i.seq = x.i.seq ∧ y.i.belt = x.i.belt := by
  obtain ⟨r, d1, e1, r1, r2, hd1⟩ := next_spec hd (n := 4) (by omega)
  obtain ⟨q, d2, e2, q1, q2, hd2⟩ := next_spec hd1 (n := 4) (by omega)
  obtain ⟨m, e3, m1, m2⟩ := at4 ⟨q1, q2⟩
  obtain ⟨g, d3, e4, g1, g2, hd3⟩ := next_spec hd2 (n := m) (by omega)
  obtain ⟨r, rfl⟩ : ∃ r' : Nat, r = r' := ⟨r.toNat, by omega⟩
  obtain ⟨g, rfl⟩ : ∃ g' : Nat, g = g' := ⟨g.toNat, by omega⟩
  have hx := h.each x (by simp)
  unfold F_make_grown
  rw [e1, Option.bind_some, e2, Option.bind_some, e3, Option.bind_some, e4, Option.bind_some]
  dsimp only
  have ew : w64 (w64 (1 + (r : Int)) + (g : Int)) = ((1 + r + g : Nat) : Int) := by rw [w64_in (n := 1 + (r : Int)) (by omega), w64_in (by omega)]; push_cast; rfl
  rw [ew, alloc_spec h.ok h.w hx.inc (by omega), Option.bind_some]
  by_cases hf : exN s x.i ((1 + r + g : Nat) : Int) ≤ (freeL s.fs).length
  · rw [if_pos hf, if_pos rfl]
    obtain ⟨c1, c2, c3, c4, c5⟩ := h.ok.shp.z
    have hn : 1 ≤ ((1 + r + g : Nat) : Int) ∧ ((1 + r + g : Nat) : Int) ≤ 48 := by omega
    have gk := grw_ok h.ok hx.inc hn hf
    have hI := alo_inv h (r := r) (d := g) (by omega) (by omega) hf
    have hini : F_ref08_Init ⟨s.sh, s.ws, grwF s x.i ((1 + r + g : Nat) : Int)⟩ ((adr (szS s) (x.fr ++ (freeL s.fs).take (exN s x.i ((1 + r + g : Nat) : Int))) x.i.words.toNat : Nat) : Int) r g = some (aloS s x r g, 0) := by
      have hWg : SpW ⟨s.sh, s.ws, grwF s x.i ((1 + r + g : Nat) : Int)⟩ := ⟨h.w.1, hI.w.2⟩
      obtain ⟨w1, w2, w3⟩ := grow_words h.ok.shp hx.inc hn
      have hwd := hx.inc.wd
      have hlen : (x.fr ++ (freeL s.fs).take (exN s x.i ((1 + r + g : Nat) : Int))).length = x.fr.length + exN s x.i ((1 + r + g : Nat) : Int) := by
        rw [List.length_append, List.length_take, Nat.min_eq_left hf]
      exact (ini_spec gk.sp hWg gk.inc.ch gk.inc.nd gk.inc.own (p := x.i.words.toNat) (by show _ < _ * szS s; rw [hlen]; omega) (show r ≤ 15 by omega) (show g ≤ 32 by omega))
    rw [hini, Option.bind_some]
    exact ⟨_, aloX s x r g, d3, rfl, hI, hd3, gk.same.2.1, gk.same.2.2⟩
  · rw [if_neg hf, if_neg (by show ¬ (4 : Int) = 0; omega)]
    exact ⟨s, x, d3, rfl, h, hd3, rfl, rfl⟩
end Go.Proofs.Ythpnlnjdmlbnaaa
/- The maker of spaces: what it returns. No program. -/
namespace Go.Proofs.Ythpnlnjdmlbnaaa
open Go.RowKit
set_option linter.unusedVariables false
set_option linter.unusedSimpArgs false

/-- an increment without frames, beside the others -/
theorem SpInv.add {s : Sp} {L : List Itm} (h : SpInv s L) {q b : Int} (hq : 0 ≤ q ∧ q ≤ 4294967295) (hb : 0 ≤ b ∧ b < 4) (hn : ∀ x ∈ L, x.i.seq ≠ q) : SpInv s (L ++ [⟨⟨q, b, -1, -1, 0⟩, [], []⟩]) := by
  obtain ⟨g1, g2, g3, g4, g5⟩ := h.ok.shp.z
  refine ⟨h.ok, h.w, fun x hx => ?_, ?_, fun k hk ho => ?_⟩
  · rcases List.mem_append.1 hx with hx | hx
    · exact h.each x hx
    · rw [List.mem_singleton] at hx
      subst hx
      refine ⟨⟨⟨hq, hb, trivial, List.Pairwise.nil, fun k hk => ⟨fun e => ?_, fun e => by cases e⟩, (fun k hk e => by cases e), rfl, rfl⟩, ⟨by show (0 : Int) ≤ 0; omega, by show (0 : Int) ≤ _; omega⟩, ?_⟩, rfl⟩
      · have e : s.fs[k].ow = q := e
        obtain ⟨y, hy, hyk⟩ := h.all k hk (by rw [e]; omega)
        have := ((h.each y hy).inc.ow k hk).2 hyk
        exact absurd (this.symm.trans e) (hn y hy)
      · show ((0 : Nat) : Int) = clN s ((0 : Nat) : Int)
        rw [clN_nat h.ok.shp.sh (by omega), Nat.zero_add, Nat.div_eq_of_lt (by omega)]
  · refine List.pairwise_append.2 ⟨h.seqs, by simp, fun a ha b hb => ?_⟩
    rw [List.mem_singleton] at hb
    subst hb
    exact hn a ha
  · obtain ⟨y, hy, hyk⟩ := h.all k hk ho
    exact ⟨y, by simp [hy], hyk⟩
/-- an increment without words is left out -/
theorem SpInv.drop {s : Sp} {L : List Itm} {x : Itm} (h : SpInv s (L ++ [x])) (h0 : x.i.words = 0) : SpInv s L := by
  have hfr := (h.each x (by simp)).inc.nil h.ok.shp h0
  refine ⟨h.ok, h.w, fun y hy => h.each y (by simp [hy]), (List.pairwise_append.1 h.seqs).1, fun k hk ho => ?_⟩
  obtain ⟨y, hy, hyk⟩ := h.all k hk ho
  rcases List.mem_append.1 hy with h1 | h1
  · exact ⟨y, h1, hyk⟩
  · rw [List.mem_singleton] at h1
    subst h1
    rw [hfr] at hyk
    cases hyk
theorem space_spec {d : BeltwaymakeDeck} (hd : DeckOk d) : ∃ s L d', F_make_Space d = some (s, L.map Itm.i, d') ∧ SpInv s L ∧ (∀ x ∈ L, 0 < x.i.words ∧ x.i.seq ≤ 14 ∧ x.i.belt ≤ 2) ∧ L.length ≤ 4 ∧ DeckOk d' := by
  obtain ⟨v1, d1, e1, a1, b1, hd1⟩ := next_spec hd (n := 2) (by omega)
  obtain ⟨v2, d2, e2, a2, b2, hd2⟩ := next_spec hd1 (n := 9) (by omega)
  obtain ⟨v3, d3, e3, a3, b3, hd3⟩ := next_spec hd2 (n := 5) (by omega)
  have hk : ShOk (3 + v1) := by unfold ShOk; omega
  have hnew := new_inv (k := 3 + v1) (n := (2 + v2).toNat) hk (by omega)
  unfold F_make_Space
  rw [e1, Option.bind_some, e2, Option.bind_some]
  dsimp only
  rw [w64_in (n := 3 + v1) (by omega), w64_in (n := 2 + v2) (by omega), new_spec hk (by omega), Option.bind_some, e3, Option.bind_some]
  dsimp only
  obtain ⟨z, hz, L, q1, q2, q3, q4, q5⟩ := loop_ok (σ := BeltwaymakeDeck × Sp × List Inc × Int)
    (f := fun (s8 : BeltwaymakeDeck × Sp × List Inc × Int) =>
      if 0 < s8.2.2.2 then
        (((F_make_Deck_Next s8.1 3).bind fun v14 => (F_make_Deck_Next v14.2 3).bind fun v15 =>
          ((F_make_Deck_Next v15.2 5).bind fun v18 =>
            loopO (fun (s20 : BeltwaymakeDeck × Sp × Inc × Int) =>
              if 0 < s20.2.2.2 then
                ((F_make_grown s20.1 s20.2.1 s20.2.2.1).bind fun v25 => some (.go ((v25.2.2, v25.1, v25.2.1, w64 (s20.2.2.2 - 1)))))
              else some (.out ((s20.1, s20.2.1, s20.2.2.1)))) (v18.2, s8.2.1, Inc.mk (w64 ((w64 (3 * (s8.2.2.1.length : Int))) + v14.1)) v15.1 (-1) (-1) 0, w64 (1 + v18.1))).bind fun (b16 : BeltwaymakeDeck × Sp × Inc) =>
            if 0 < b16.2.2.words then
              (if ((s8.2.2.1.length : Int) + [b16.2.2].length) * 40 ≤ 140737488355328 ∧ (s8.2.2.1.length : Int) + [b16.2.2].length ≤ 9223372036854775807 then some ((b16.1, b16.2.1, s8.2.2.1 ++ [b16.2.2])) else none)
            else some ((b16.1, b16.2.1, s8.2.2.1))).bind fun (b12 : BeltwaymakeDeck × Sp × List Inc) =>
          some (.go ((b12.1, b12.2.1, b12.2.2, w64 (s8.2.2.2 - 1)))))
      else some (.out ((s8.1, s8.2.1, s8.2.2.1)))) (s := (d3, newS (3 + v1) (2 + v2).toNat, ([] : List Inc), v3))
    (fun st => DeckOk st.1 ∧ 0 ≤ st.2.2.2 ∧ ∃ L : List Itm, st.2.2.1 = L.map Itm.i ∧ SpInv st.2.1 L ∧ (∀ x ∈ L, 0 < x.i.words ∧ x.i.seq < 3 * (L.length : Int) ∧ x.i.belt ≤ 2) ∧ (L.length : Int) + st.2.2.2 ≤ 4)
    (fun b => ∃ L : List Itm, b.2.2 = L.map Itm.i ∧ SpInv b.2.1 L ∧ (∀ x ∈ L, 0 < x.i.words ∧ x.i.seq ≤ 14 ∧ x.i.belt ≤ 2) ∧ L.length ≤ 4 ∧ DeckOk b.1) (fun st => st.2.2.2.toNat)
    ⟨hd3, a3, [], rfl, hnew, (fun x hx => by cases hx), by show ((0 : Nat) : Int) + v3 ≤ 4; omega⟩
    (fun st ⟨i1, i2, L, i3, i4, i5, i6⟩ => by
      by_cases h0 : 0 < st.2.2.2
      · refine .inl ?_
        rw [if_pos h0]
        obtain ⟨u1, c1, f1, p1, r1, k1⟩ := next_spec i1 (n := 3) (by omega)
        obtain ⟨u2, c2, f2, p2, r2, k2⟩ := next_spec k1 (n := 3) (by omega)
        obtain ⟨u3, c3, f3, p3, r3, k3⟩ := next_spec k2 (n := 5) (by omega)
        have hlen : (st.2.2.1.length : Int) = L.length := by rw [i3, List.length_map]
        have hL4 : (L.length : Int) ≤ 4 := by omega
        have hsq : w64 (w64 (3 * (st.2.2.1.length : Int)) + u1) = 3 * (L.length : Int) + u1 := by rw [hlen, w64_in (n := 3 * (L.length : Int)) (by omega), w64_in (by omega)]
        have hadd := i4.add (q := 3 * (L.length : Int) + u1) (b := u2) (by omega) (by omega) fun x hx e => by have := (i5 x hx).2.1; omega
        obtain ⟨b16, hb, y, y1, y2, y3, y4, y5⟩ := loop_ok (σ := BeltwaymakeDeck × Sp × Inc × Int)
          (f := fun (s20 : BeltwaymakeDeck × Sp × Inc × Int) =>
              if 0 < s20.2.2.2 then
                ((F_make_grown s20.1 s20.2.1 s20.2.2.1).bind fun v25 => some (.go ((v25.2.2, v25.1, v25.2.1, w64 (s20.2.2.2 - 1)))))
              else some (.out ((s20.1, s20.2.1, s20.2.2.1)))) (s := (c3, st.2.1, Inc.mk (3 * (L.length : Int) + u1) u2 (-1) (-1) 0, 1 + u3))
          (fun t => DeckOk t.1 ∧ 0 ≤ t.2.2.2 ∧ t.2.2.2 ≤ 5 ∧ ∃ y : Itm, t.2.2.1 = y.i ∧ SpInv t.2.1 (L ++ [y]) ∧ y.i.seq = 3 * (L.length : Int) + u1 ∧ y.i.belt = u2)
          (fun b => ∃ y : Itm, b.2.2 = y.i ∧ SpInv b.2.1 (L ++ [y]) ∧ y.i.seq = 3 * (L.length : Int) + u1 ∧ y.i.belt = u2 ∧ DeckOk b.1) (fun t => t.2.2.2.toNat)
          ⟨k3, by show 0 ≤ 1 + u3; omega, by show 1 + u3 ≤ 5; omega, _, rfl, hadd, rfl, rfl⟩
          (fun t ⟨j1, j2, j2', y, j3, j4, j5, j6⟩ => by
            by_cases h1 : 0 < t.2.2.2
            · refine .inl ?_
              obtain ⟨t', y', d', m1, m2, m3, m4, m5⟩ := grown_spec j4 j1
              rw [if_pos h1, j3, m1, Option.bind_some]
              have hw : w64 (t.2.2.2 - 1) = t.2.2.2 - 1 := w64_in (by omega)
              rw [hw]
              exact ⟨_, rfl, ⟨m3, by show 0 ≤ t.2.2.2 - 1; omega, by show t.2.2.2 - 1 ≤ 5; omega, y', rfl, m2, m4.trans j5, m5.trans j6⟩, by show (t.2.2.2 - 1).toNat < t.2.2.2.toNat; omega⟩
            · refine .inr ?_
              rw [if_neg h1]
              exact ⟨_, rfl, y, j3, j4, j5, j6, j1⟩)
        rw [f1, Option.bind_some, f2, Option.bind_some, f3, Option.bind_some]
        dsimp only
        rw [hsq, w64_in (n := 1 + u3) (by omega), hb, Option.bind_some]
        have hwd := (y2.each y (by simp)).inc.wd
        rw [y1]
        by_cases hw : 0 < y.i.words
        · rw [if_pos hw, if_pos (by simp only [List.length_cons, List.length_nil]; rw [hlen]; omega), Option.bind_some, w64_in (n := st.2.2.2 - 1) (by omega)]
          refine ⟨_, rfl, ⟨y5, by show 0 ≤ st.2.2.2 - 1; omega, L ++ [y], by show st.2.2.1 ++ [y.i] = _; rw [i3, List.map_append]; rfl, y2, fun x hx => ?_, ?_⟩, by show (st.2.2.2 - 1).toNat < st.2.2.2.toNat; omega⟩
          · rw [List.length_append, List.length_singleton]
            rcases List.mem_append.1 hx with hx | hx
            · obtain ⟨z1, z2, z3⟩ := i5 x hx
              exact ⟨z1, by omega, z3⟩
            · rw [List.mem_singleton] at hx
              subst hx
              exact ⟨hw, by rw [y3]; omega, by rw [y4]; omega⟩
          · show ((L ++ [y]).length : Int) + (st.2.2.2 - 1) ≤ 4
            rw [List.length_append, List.length_singleton]
            omega
        · rw [if_neg hw, Option.bind_some, w64_in (n := st.2.2.2 - 1) (by omega)]
          exact ⟨_, rfl, ⟨y5, by show 0 ≤ st.2.2.2 - 1; omega, L, i3, y2.drop (by omega), i5, by show (L.length : Int) + (st.2.2.2 - 1) ≤ 4; omega⟩, by show (st.2.2.2 - 1).toNat < st.2.2.2.toNat; omega⟩
      · refine .inr ?_
        rw [if_neg h0]
        exact ⟨_, rfl, L, i3, i4, fun x hx => by obtain ⟨z1, z2, z3⟩ := i5 x hx; exact ⟨z1, by omega, z3⟩, by omega, i1⟩)
  rw [hz, Option.bind_some]
  exact ⟨z.2.1, L, z.1, by rw [q1], q2, q3, q4, q5⟩
end Go.Proofs.Ythpnlnjdmlbnaaa
/- The barrier's sanity check holds. No program. -/
namespace Go.Proofs.Ythpnlnjdmlbnaaa
open Go.RowKit
set_option linter.unusedVariables false
set_option linter.unusedSimpArgs false

/-- the space of the check -/
def awS : Sp := ⟨3, List.replicate 24 0, [⟨5, 5, -1⟩, ⟨2, 4294967298, -1⟩, ⟨-1, -1, -1⟩]⟩
theorem awS_z : szS awS = 8 := rfl
theorem awS_ok : SpOk awS := by
  have hx : ∀ i (h : i < awS.fs.length), awS.fs[i].nx = -1 := fun i h => by
    have h : i < 3 := h
    match i, h with
    | 0, _ => rfl
    | 1, _ => rfl
    | 2, _ => rfl
  refine ⟨⟨by unfold ShOk; exact ⟨by decide, by decide⟩, by decide, by decide, rfl⟩, fun i h => ?_, fun i j hi hj _ _ _ => hx i hi, fun i hi => ?_⟩
  · have h3 : i < 3 := h
    match i, h3 with
    | 0, _ => exact .inr (show UsedF awS 0 ⟨5, 5, -1⟩ from ⟨⟨by decide, by decide, 0, by decide, by decide, by decide⟩, by decide, by decide, by decide, fun j hj e => by have e : (-1 : Int) = j := e; omega⟩)
    | 1, _ => exact .inr (show UsedF awS 1 ⟨2, 4294967298, -1⟩ from ⟨⟨by decide, by decide, 1, by decide, by decide, by decide⟩, by decide, by decide, by decide, fun j hj e => by have e : (-1 : Int) = j := e; omega⟩)
    | 2, _ => exact .inl ⟨rfl, rfl, rfl, fun a ha _ _ => List.eq_of_mem_replicate (show awS.ws[a] ∈ List.replicate 24 (0 : Int) from List.getElem_mem ha)⟩
  · rw [itF_step hi, hx i hi]
    exact itF_neg _ rfl
theorem awS_w : SpW awS := by
  refine ⟨fun x hx => ?_, fun f hf => ?_⟩
  · have := List.eq_of_mem_replicate (show x ∈ List.replicate 24 (0 : Int) from hx)
    subst this
    unfold U64
    omega
  · have hf : f ∈ [(⟨5, 5, -1⟩ : Fe), ⟨2, 4294967298, -1⟩, ⟨-1, -1, -1⟩] := hf
    simp only [List.mem_cons, List.not_mem_nil, or_false] at hf
    unfold I64
    rcases hf with rfl | rfl | rfl <;> decide
theorem sets_nil : SetsOk [] := ⟨fun x hx => (by cases hx), fun i h => (by simp at h)⟩
theorem put_nil (f t s : Int) : putK [] f t s = [⟨f, t, [s]⟩] := by
  unfold putK
  rw [dif_neg fun ⟨h, _⟩ => by simp at h]
  rfl
theorem awake_c : F_law19_awake = some true := by
  refine Gd.eq ?_
  unfold F_law19_awake
  refine .call (new_spec (k := 3) (n := 3) (by unfold ShOk; omega) (by omega)) ?_
  have e : (Sp.mk (newS 3 (3 : Int).toNat).sh (newS 3 (3 : Int).toNat).ws ((((newS 3 (3 : Int).toNat).fs.set (Int.toNat 0) (Fe.mk 5 5 (-1))).set (Int.toNat 1) (Fe.mk 2 4294967298 (-1))))) = awS := rfl
  dsimp only
  refine .at0 (by decide) (.at1 (by decide) ?_)
  rw [e]
  have n1 : NeedP awS 9 1 := ⟨⟨by decide, by decide, by decide, by decide⟩, by decide, by decide, by decide, by decide, by decide⟩
  have n2 : ¬ NeedP awS 1 10 := fun ⟨_, _, _, _, _, h⟩ => by have h : (4294967298 : Int) < 5 := h; omega
  have n3 : ¬ NeedP awS 9 0 := fun h => h.1.1 rfl
  refine .call (record_c awS_w (l := []) (by decide) (fun x hx => by cases hx) (by omega)) ?_
  refine .call (needs_c awS_ok (by omega)) (.pos (bP_t n1) ?_)
  refine .call (needs_c awS_ok (by omega)) (.neg (by rw [bP_f n2]; decide) ?_)
  refine .call (needs_c awS_ok (by omega)) (.neg (by rw [bP_f n3]; decide) ?_)
  have hr : RecR awS [] 9 1 = ([⟨1, 0, [9]⟩], 0) := by
    unfold RecR
    rw [if_pos ⟨awS_ok, sets_nil⟩, if_pos n1, put_nil]
    rfl
  rw [hr]
  refine .pos rfl (.pos rfl (.at0 (l := ([⟨1, 0, [9]⟩] : List RSet)) (by decide) (.pos rfl (.some rfl))))
end Go.Proofs.Ythpnlnjdmlbnaaa
