/- Shares, limits and names of configurations: what the program says of them. No condition. -/
import Derived.Test.YtchdmemgkegefaaCfgS
import Derived.Laws.RangeAny
namespace Go.Proofs.Ytchdmemgkegefaa
open Go.RowKit

/-- a number is a share -/
def shareB (b : Nat) : Bool := decide (b = 0) || (FloatKind.f64.format.order b 0 == some Ordering.gt && (FloatKind.f64.format.order b 4607182418800017408 == some Ordering.lt || FloatKind.f64.format.order b 4607182418800017408 == some Ordering.eq))

theorem f64bits' (b : Nat) (w : World) : Sem.run Try.prog (callFunc 101 #[Value.float .f64 b]) w = .ok (.value (.int .u64 b)) w := by kernel_rfl

set_option maxRecDepth 100000 in
set_option maxHeartbeats 1000000 in
theorem valid_any (b : Nat) (w : World) : Calls Try.prog 99 #[.float .f64 b] w fun e w' => e = .returned (.bool (shareB b)) ∧ w = w' := by
  have h64 := f64bits' b
  go_enter Try.func99, Try.ntmps99
  go_wp2
  all_goals go_ret
  all_goals refine ⟨congrArg Ending.returned (congrArg Value.bool ?_), rfl⟩
  all_goals (rw [Bool.eq_iff_iff]; simp_all [shareB])

set_option maxRecDepth 100000 in
set_option maxHeartbeats 1000000 in
theorem rvalid_any (b : Nat) (w : World) : Calls Try.prog 85 #[.float .f64 b] w fun e w' => e = .returned (.bool (shareB b)) ∧ w = w' := by
  have h64 := f64bits' b
  go_enter Try.func85, Try.ntmps85
  go_wp2
  all_goals go_ret
  all_goals refine ⟨congrArg Ending.returned (congrArg Value.bool ?_), rfl⟩
  all_goals (rw [Bool.eq_iff_iff]; simp_all [shareB])

theorem count_any (n : Int) (w : World) : Calls Try.prog 100 #[.int .i64 n] w fun e w' => e = .returned (.bool (decide (0 ≤ n ∧ n ≤ 64))) ∧ w = w' := by
  go_enter Try.func100, Try.ntmps100
  go_wp2
  all_goals go_ret
  all_goals refine ⟨congrArg Ending.returned (congrArg Value.bool ?_), rfl⟩
  all_goals first | (simp_all; done) | (simp_all; intros; omega)

def okCh (c : Nat) : Bool := (decide (97 ≤ c) && decide (c ≤ 122)) || (decide (48 ≤ c) && decide (c ≤ 57)) || decide (c = 45)
/-- a name is permitted -/
def NameOk (s : ByteArray) : Prop := 1 ≤ s.size ∧ s.size ≤ 16 ∧ (∀ h : 0 < s.size, 97 ≤ (s[0]'h).toNat ∧ (s[0]'h).toNat ≤ 122) ∧ ∀ i (h : i < s.size), okCh (s[i]'h).toNat = true

theorem okCh_lt {c : Nat} (h : okCh c = true) : c < 128 := by
  simp [okCh] at h
  omega
theorem decode_big (s : ByteArray) (pos : Nat) (h : pos < s.size) (hb : ¬ (s[pos]'h).toNat < 128) : okCh (Utf8.decode s pos).1 = false := by
  have hg : (s.get! (pos + 0)).toNat = (s[pos]'h).toNat := by
    have e : s.get! (pos + 0) = s[pos]'h := by
      show s.get! pos = _
      simp [ByteArray.get!, getElem!_pos, h]
      rfl
    rw [e]
  have key : 128 ≤ (Utf8.decode s pos).1 := by
    simp only [Utf8.decode, hg]
    repeat' split
    all_goals simp_all [Utf8.runeError]
    all_goals omega
  cases hk : okCh (Utf8.decode s pos).1 with
  | false => rfl
  | true => have := okCh_lt hk; omega

set_option maxRecDepth 100000 in
set_option maxHeartbeats 2000000 in
theorem named_any (s : ByteArray) (w : World) (hs : s.size ≤ 9223372036854775807) : Calls Try.prog 81 #[.string s] w fun e w' => (∃ b : Bool, e = .returned (.bool b) ∧ (b = true ↔ NameOk s)) ∧ Below w.heap.size w w' := by
  by_cases h1 : s.size < 1
  · have hd : decide ((s.size : Int) < 1) = true := by simp; omega
    go_enter Try.func81, Try.ntmps81
    go_wp2
    go_ret
    exact ⟨⟨_, rfl, by simp [NameOk]; intro h; omega⟩, Below.refl _ _⟩
  have hd : decide ((s.size : Int) < 1) = false := by simp; omega
  by_cases h2 : 16 < s.size
  · have hd2 : decide ((16 : Int) < s.size) = true := by simp; omega
    go_enter Try.func81, Try.ntmps81
    go_wp2
    go_ret
    exact ⟨⟨_, rfl, by simp [NameOk]; intro h; omega⟩, Below.refl _ _⟩
  have hd2 : decide ((16 : Int) < s.size) = false := by simp; omega
  have hp : 0 < s.size := by omega
  by_cases h3 : (s[0]'hp).toNat < 97
  · have hd3 : decide ((((s[0]'hp).toNat : Nat) : Int) < 97) = true := by simp; omega
    go_enter Try.func81, Try.ntmps81
    go_wp2
    go_ret
    exact ⟨⟨_, rfl, by simp [NameOk]; intro _ _ h; have := h hp; omega⟩, Below.refl _ _⟩
  have hd3 : decide ((((s[0]'hp).toNat : Nat) : Int) < 97) = false := by simp; omega
  by_cases h4 : 122 < (s[0]'hp).toNat
  · have hd4 : decide ((122 : Int) < (((s[0]'hp).toNat : Nat) : Int)) = true := by simp; omega
    go_enter Try.func81, Try.ntmps81
    go_wp2
    go_ret
    exact ⟨⟨_, rfl, by simp [NameOk]; intro _ _ h; have := h hp; omega⟩, Below.refl _ _⟩
  have hd4 : decide ((122 : Int) < (((s[0]'hp).toNat : Nat) : Int)) = false := by simp; omega
  go_enter Try.func81, Try.ntmps81
  go_wp2_with fail
  go_loopw [4] (fun _ wr => ∃ pos, wr = w.iter s pos ∧ ∀ i (h : i < s.size), i < pos → okCh (s[i]'h).toNat = true) (fun _ wr => s.size - wr.iterPos w.heap.size)
  case atStart => exact ⟨0, rfl, fun i _ h => absurd h (Nat.not_lt_zero _)⟩
  case round =>
    obtain ⟨pos, rfl, hpos⟩ := hrel
    have HP := Lib.hid hpos
    clear hpos
    by_cases hlt : pos < s.size
    · have hnx := fun ty => run_next_any (P := Try.prog) w s pos ty hlt
      by_cases hbig : (s[pos]'hlt).toNat < 128
      · rw [decode_ascii s pos hlt hbig] at hnx
        by_cases hk : okCh (s[pos]'hlt).toNat = true
        · have hpos2 : ∀ i (h : i < s.size), i < pos + 1 → okCh (s[i]'h).toNat = true := fun i h h' => by
            by_cases e : i = pos
            · subst e; exact hk
            · exact HP.out i h (by omega)
          have HP2 := Lib.hid hpos2
          clear hpos2
          have h128 : (s[pos]'hlt).toNat < 128 := hbig
          clear hbig
          generalize (s[pos]'hlt).toNat = c at *
          simp [okCh] at hk
          go_wp2
          all_goals first | (exfalso; omega) | (exfalso; simp_all; omega) | skip
          all_goals go_roundw
          all_goals first | exact ⟨pos + 1, rfl, HP2.out⟩ | (simp; omega)
        · have hn : ¬ NameOk s := fun h => hk (h.2.2.2 pos hlt)
          have HN := Lib.hid hn
          clear hn
          generalize (s[pos]'hlt).toNat = c at *
          simp [okCh] at hk
          go_wp2
          all_goals first | (exfalso; omega) | (exfalso; simp_all; omega) | skip
          all_goals go_ret
          all_goals first | exact ⟨⟨false, rfl, by simp; exact HN.out⟩, (Below.refl _ _).alloc (Nat.le_refl _) _⟩ | exact ⟨.inl ⟨rfl, HN.out⟩, (Below.refl _ _).alloc (Nat.le_refl _) _⟩
      · have hk := decode_big s pos hlt hbig
        generalize (Utf8.decode s pos).1 = c at *
        generalize (Utf8.decode s pos).2 = m at *
        have hn : ¬ NameOk s := fun h => hbig (okCh_lt (h.2.2.2 pos hlt))
        have HN := Lib.hid hn
        clear hn
        simp [okCh] at hk
        go_wp2
        all_goals first | (exfalso; omega) | (exfalso; simp_all; omega) | skip
        all_goals go_ret
        all_goals first | exact ⟨⟨false, rfl, by simp; exact HN.out⟩, (Below.refl _ _).alloc (Nat.le_refl _) _⟩ | exact ⟨.inl ⟨rfl, HN.out⟩, (Below.refl _ _).alloc (Nat.le_refl _) _⟩
    · have hnx := fun ty => run_next_end (P := Try.prog) w s pos ty hlt
      go_wp2
      go_ret
      exact ⟨⟨true, rfl, by simp; exact ⟨by omega, by omega, fun _ => ⟨by omega, by omega⟩, fun i h => HP.out i h (by omega)⟩⟩, (Below.refl _ _).alloc (Nat.le_refl _) _⟩
end Go.Proofs.Ytchdmemgkegefaa
