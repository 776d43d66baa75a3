/- Bytes as a string; the range of decoded operations. -/
import Derived.Test.YtadoehlhfccacaaEncP
namespace Go.Proofs.Ytadoehlhfccacaa
open Go.RowKit

def bstr (ys : List Int) : ByteArray := ys.foldl (fun r n => r.push (UInt8.ofNat n.toNat)) ByteArray.empty

theorem conv_bytes {P : Program} {src dst e : TypeId} (hs : P.underlying src = some (.slice e)) (he : P.underlying e = some (.int .u8)) (hd : P.underlying dst = some .string) (w : World) (a : Option Addr) (l c : Nat) (ys : List Int)
    (h : Rd byteE w (.slice a l c) ys) : (convert src dst (.slice a l c)).run P w = .ok (.string (bstr ys)) w := by
  rw [run_convert_bytes_string w src dst e a l c hs he hd]
  obtain ⟨a', c', e1, _, _, hf⟩ := h.flat
  simp only [Value.slice.injEq] at e1
  obtain ⟨rfl, rfl, rfl⟩ := e1
  rcases hf with rfl | ⟨b, off, rfl, _, hf⟩
  · cases a with
    | none => rfl
    | some b => exact run_bytesToString w b 0 c [] (by have := run_loadCells (P := P) (w := w) b 0 (fun _ => undef) (fun j hj => absurd hj (Nat.not_lt_zero _)); simpa using this)
  · refine run_bytesToString w ⟨b, off, none⟩ ys.length c ys ?_
    have key := run_loadCells (P := P) (w := w) ⟨b, off, none⟩ ys.length (fun j => .int .u8 (ys.getD j 0)) (fun j hj => by
      have hadd : (⟨b, off, none⟩ : Addr).add j = ⟨b, off + j, none⟩ := by unfold Addr.add; split <;> simp_all
      have := hf j hj 0 (by omega)
      rw [hadd]
      simpa [List.getD, hj] using this)
    rw [key]
    congr 2
    apply List.ext_getElem
    · simp
    · intro i h1 h2
      simp at h1
      simp [List.getD, h1]

theorem Rd.take {α : Type} {E : El α} {w : World} {a : Option Addr} {m c n : Nat} {xs : List α} (h : Rd E w (.slice a m c) xs) (hn : n ≤ xs.length) : Rd E w (.slice a n c) (xs.take n) := by
  obtain ⟨a', c', e1, h2, h3, h4⟩ := h
  simp only [Value.slice.injEq] at e1
  obtain ⟨rfl, rfl, rfl⟩ := e1
  have hl : (xs.take n).length = n := by rw [List.length_take]; omega
  refine ⟨a, c, by rw [hl], by omega, h3, ?_⟩
  rcases h4 with h4 | ⟨b, off, h5, h6⟩
  · exact .inl (by rw [h4]; simp)
  · refine .inr ⟨b, off, h5, fun i hi => ?_⟩
    obtain ⟨cs, r, q⟩ := h6 i (by omega)
    exact ⟨cs, by rw [List.getElem_take]; exact r, q⟩

theorem arg_range {m : Nat} {r : List Int} (h : ∀ x ∈ r, 0 ≤ x ∧ x ≤ 255) (i : Nat) : 0 ≤ arg m r i ∧ arg m r i ≤ 255 := by
  unfold arg
  split
  · by_cases hi : i < r.length
    · simp only [List.getD, List.getElem?_eq_getElem hi, Option.getD_some]; exact h _ (List.getElem_mem hi)
    · simp [List.getD, hi]
  · omega
theorem dec_range (l : List Int) (h : ∀ x ∈ l, 0 ≤ x ∧ x ≤ 255) : ∀ o ∈ dec l, o.I := by
  match l with
  | [] => simp [dec]
  | c :: r =>
    intro o ho
    have hc := h c (by simp)
    have hr : ∀ x ∈ r, 0 ≤ x ∧ x ≤ 255 := fun x hx => h x (by simp [hx])
    have hz : Op4.I ⟨0, 0, 0, 0⟩ := by simp [Op4.I]
    unfold dec at ho
    split at ho
    · rcases List.mem_cons.1 ho with rfl | ho
      · exact hz
      · exact dec_range r hr o ho
    · split at ho
      · rw [List.mem_singleton.1 ho]; exact hz
      · rcases List.mem_cons.1 ho with rfl | ho
        · have a0 := arg_range (m := (opn c).toNat) hr 0
          have a1 := arg_range (m := (opn c).toNat) hr 1
          have a2 := arg_range (m := (opn c).toNat) hr 2
          exact ⟨⟨by show _ ≤ c; omega, by show c ≤ _; omega⟩, ⟨by show _ ≤ arg _ r 0; omega, by show arg _ r 0 ≤ _; omega⟩, ⟨by show _ ≤ arg _ r 1; omega, by show arg _ r 1 ≤ _; omega⟩, by show _ ≤ arg _ r 2; omega, by show arg _ r 2 ≤ _; omega⟩
        · exact dec_range _ (fun x hx => hr x (List.mem_of_mem_drop hx)) o ho
termination_by l.length
decreasing_by
  all_goals (simp; try omega)
theorem dec_length (l : List Int) : (dec l).length ≤ l.length := by
  match l with
  | [] => simp [dec]
  | c :: r =>
    unfold dec
    split
    · have := dec_length r; simp; omega
    · split
      · simp
      · have := dec_length (r.drop (opn c).toNat); simp at *; omega
termination_by l.length
decreasing_by
  all_goals (simp; try omega)
end Go.Proofs.Ytadoehlhfccacaa
