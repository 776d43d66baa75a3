/- Plain laws of encoding and decoding. -/
import Derived.Test.YtadoehlhfccacaaEnc
import Derived.Test.YtadoehlhfccacaaOpH
namespace Go.Proofs.Ytadoehlhfccacaa

/-- an operation that scripts can hold -/
def OpOk' (o : Op4) : Prop := (0 ≤ o.c ∧ o.c ≤ 10) ∧ (0 ≤ o.x ∧ o.x ≤ 255) ∧ (0 ≤ o.y ∧ o.y ≤ 255) ∧ (0 ≤ o.z ∧ o.z ≤ 255) ∧ (opn o.c < 3 → o.z = 0) ∧ (opn o.c < 2 → o.y = 0) ∧ (opn o.c < 1 → o.x = 0)

theorem opn_pos {c : Int} (h0 : 1 ≤ c) (h1 : c ≤ 10) : 0 ≤ opn c := by unfold opn; repeat' split <;> omega

theorem mod_byte {x : Int} (h : 0 ≤ x ∧ x ≤ 255) : x % 256 = x := Int.emod_eq_of_lt h.1 (by omega)

theorem dec_encOp {o : Op4} (h : OpOk' o) (hc : o.c ≠ 0) (r : List Int) : dec (encOp o ++ r) = o :: dec r := by
  obtain ⟨hc0, hx, hy, hz, z3, z2, z1⟩ := h
  have hp := opn_pos (c := o.c) (by omega) (by omega)
  have hb := opn_bd o.c
  obtain ⟨m, hm⟩ := Int.eq_ofNat_of_zero_le hp
  have hcb : o.c % 256 = o.c := mod_byte ⟨by omega, by omega⟩
  rw [encOp_at (m := m) hm, hcb]
  have : m = 0 ∨ m = 1 ∨ m = 2 ∨ m = 3 := by omega
  obtain ⟨c, x, y, z⟩ := o
  dsimp only at *
  rcases this with rfl | rfl | rfl | rfl
  · rw [List.cons_append, dec_op (m := 0) hm (by simp)]
    simp [op4, arg, hm, z3 (by rw [hm]; decide), z2 (by rw [hm]; decide), z1 (by rw [hm]; decide)]
  · rw [List.cons_append, dec_op (m := 1) hm (by simp)]
    simp [op4, arg, hm, z3 (by rw [hm]; decide), z2 (by rw [hm]; decide), mod_byte hx]
  · rw [List.cons_append, dec_op (m := 2) hm (by simp)]
    simp [op4, arg, hm, z3 (by rw [hm]; decide), mod_byte hx, mod_byte hy]
  · rw [List.cons_append, dec_op (m := 3) hm (by simp)]
    simp [op4, arg, hm, mod_byte hx, mod_byte hy, mod_byte hz]

theorem dec_enc (l : List Op4) (h : ∀ o ∈ l, OpOk' o ∧ o.c ≠ 0) : dec (enc l) = l := by
  induction l with
  | nil => simp [enc, dec]
  | cons o l ih =>
    have h0 := h o (by simp)
    rw [enc, dec_encOp h0.1 h0.2, ih fun p hp => h p (by simp [hp])]

theorem encOp_range (o : Op4) : ∀ x ∈ encOp o, 0 ≤ x ∧ x ≤ 255 := by
  intro x hx
  unfold encOp at hx
  have key : ∀ y : Int, 0 ≤ y % 256 ∧ y % 256 ≤ 255 := fun y => by omega
  split at hx
  · simp at hx; omega
  · simp only [List.mem_cons, List.mem_map] at hx
    rcases hx with rfl | ⟨y, _, rfl⟩
    · exact key _
    · exact key _
theorem enc_range (l : List Op4) : ∀ x ∈ enc l, 0 ≤ x ∧ x ≤ 255 := by
  induction l with
  | nil => simp [enc]
  | cons o l ih =>
    intro x hx
    rw [enc, List.mem_append] at hx
    rcases hx with hx | hx
    · exact encOp_range o x hx
    · exact ih x hx

theorem enc_op4 {c : Int} {r : List Int} {m : Nat} (hm : opn c = m) (hlen : m ≤ r.length) (hl : ∀ x ∈ c :: r, 0 ≤ x ∧ x ≤ 255) : encOp (op4 c r) = c :: r.take m := by
  have hb := opn_bd c
  have hcb := mod_byte (hl c (by simp))
  rw [encOp_at (m := m) hm]
  have : m = 0 ∨ m = 1 ∨ m = 2 ∨ m = 3 := by omega
  rcases this with rfl | rfl | rfl | rfl
  · simp [op4, hcb]
  · match r, hlen, hl with
    | a :: r, _, hl => simp [op4, arg, hm, hcb, mod_byte (hl a (by simp))]
  · match r, hlen, hl with
    | a :: b :: r, _, hl => simp [op4, arg, hm, hcb, mod_byte (hl a (by simp)), mod_byte (hl b (by simp))]
  · match r, hlen, hl with
    | a :: b :: d :: r, _, hl => simp [op4, arg, hm, hcb, mod_byte (hl a (by simp)), mod_byte (hl b (by simp)), mod_byte (hl d (by simp))]

/-- the bytes of the operations that a script begins with are its own -/
theorem enc_dec_take (n : Nat) : ∀ l : List Int, (∀ x ∈ l, 0 ≤ x ∧ x ≤ 255) → n ≤ (dec l).length → (∀ i (h : i < (dec l).length), i < n → (dec l)[i].c ≠ 0) → ∃ rest, l = enc ((dec l).take n) ++ rest := by
  induction n with
  | zero => intro l _ _ _; exact ⟨l, by simp [enc]⟩
  | succ n ih =>
    intro l hl hn hc
    match l with
    | [] => simp [dec] at hn
    | c :: r =>
      by_cases h1 : opn c < 0
      · have hd := dec_bad (r := r) h1
        have h0 : 0 < (dec (c :: r)).length := by omega
        have := hc 0 h0 (by omega)
        simp [hd] at this
      · obtain ⟨m, hm⟩ := Int.eq_ofNat_of_zero_le (a := opn c) (by omega)
        by_cases h2 : r.length < m
        · have hd := dec_short (c := c) (r := r) (m := m) hm h2
          have h0 : 0 < (dec (c :: r)).length := by omega
          have := hc 0 h0 (by omega)
          simp [hd] at this
        · have hd := dec_op (c := c) (r := r) (m := m) hm (by omega)
          have he := enc_op4 hm (by omega) hl
          obtain ⟨rest, hrest⟩ := ih (r.drop m) (fun x hx => hl x (List.mem_cons_of_mem _ (List.mem_of_mem_drop hx))) (by rw [hd] at hn; simpa using hn) (fun i hi hin => by
            have := hc (i + 1) (by rw [hd]; simpa using hi) (by omega)
            simpa [hd] using this)
          refine ⟨rest, ?_⟩
          rw [hd, List.take_succ_cons, enc, he]
          rw [List.append_assoc, ← hrest, List.cons_append, List.take_append_drop]

end Go.Proofs.Ytadoehlhfccacaa
