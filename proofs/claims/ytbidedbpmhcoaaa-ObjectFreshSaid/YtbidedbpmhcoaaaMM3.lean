/- Parts of the proof: E5, E6, E7, E8, E9, E10, E11, E12. No condition. -/
import Derived.Test.YtbidedbpmhcoaaaMM2
/- A space is valid: the check of the reference. No condition. -/
namespace Go.Proofs.Ytbidedbpmhcoaaa
open Go.RowKit
set_option linter.unusedSimpArgs false
set_option linter.unusedVariables false
set_option maxRecDepth 20000 in
set_option maxHeartbeats 4000000 in
theorem stamped_d (f : Fe) : DCall Try.prog 89 [.agg (frC f)] [] (DB (bP (Stp f.ow f.st))) [] := by
 refine DCall.mk Try.func89 rfl rfl ?_
 refine d_seq fun K1 k1 => ?_
 refine d_region rfl ?_
 refine go (m_box ty_79) ?_
 refine go (m_set) ?_
 refine .nil ⟨by kernel_rfl, ?_⟩
 refine k1 _ ?_
 refine d_seq fun K2 k2 => ?_
 refine d_seq fun K3 k3 => ?_
 by_cases h1 : 0 ≤ f.ow
 ·
  by_cases h2 : f.ow ≤ 4294967295
  ·
   refine d_region rfl ?_
   refine go (m_fa ty_79) ?_
   refine go (m_load ty_3) ?_
   refine go (m_bin) ?_
   refine go (m_move) ?_
   first | refine no ?_ | refine go (m_fa ty_79) ?_
   first | refine no ?_ | refine go (m_load ty_3) ?_
   first | refine no ?_ | refine go (m_bin) ?_
   refine go (m_pick) ?_
   refine .nil ⟨by kernel_rfl, ?_⟩
   refine k3 _ ?_
   refine d_condF rfl ?_
   refine d_skip ?_
   refine k2 _ ?_
   refine d_seq fun K4 k4 => ?_
   refine d_seq fun K5 k5 => ?_
   refine d_region rfl ?_
   refine go (m_set) ?_
   refine .nil ⟨by kernel_rfl, ?_⟩
   refine k5 _ ?_
   refine d_block ?_
   refine d_loop (α := Nat) (fun k => ⟨[(1, .ptr 0 0 0), (3, DI k)], [(0, ⟨3, false, false, [frC f]⟩)], 1⟩) (fun k => k ≤ 4 ∧ ∀ b : Int, 0 ≤ b → b < k → f.st ≠ f.ow + b * 4294967296) (fun k => 4 - k) 0 ⟨by omega, fun b _ h => by omega⟩ (wk [(0, 0)]) (fun k ⟨hk, hno⟩ => ?_)
   by_cases hlt : k < 4
   ·
    refine d_seq fun K6 k6 => ?_
    refine d_seq fun K7 k7 => ?_
    refine d_region rfl ?_
    refine go (m_move) ?_
    refine go (m_bin) ?_
    refine .nil ⟨by kernel_rfl, ?_⟩
    refine k7 _ ?_
    refine d_condT rfl ?_
    refine d_skip ?_
    refine k6 _ ?_
    refine d_seq fun K8 k8 => ?_
    refine d_block ?_
    refine d_seq fun K9 k9 => ?_
    by_cases h4 : f.st = f.ow + k * 4294967296
    ·
     refine d_region rfl ?_
     refine go (m_fa ty_79) ?_
     refine go (m_load ty_3) ?_
     refine go (m_fa ty_79) ?_
     refine go (m_load ty_3) ?_
     refine go (m_move) ?_
     refine go (m_bin) ?_
     refine go (m_bin) ?_
     refine go (m_bin) ?_
     refine .nil ⟨by kernel_rfl, ?_⟩
     refine k9 _ ?_
     refine d_condT rfl ?_
     refine d_seq fun K10 k10 => ?_
     refine d_region rfl ?_
     refine go (m_set) ?_
     refine .nil ⟨by kernel_rfl, ?_⟩
     refine k10 _ ?_
     refine d_ret ?_
     change RetD _ _ _ _ _ _ _
     exact fin [] (.tmp (.nil)) (h1 := .t ⟨h1, h2, k, by omega, by omega, h4⟩)
    ·
     refine d_region rfl ?_
     refine go (m_fa ty_79) ?_
     refine go (m_load ty_3) ?_
     refine go (m_fa ty_79) ?_
     refine go (m_load ty_3) ?_
     refine go (m_move) ?_
     refine go (m_bin) ?_
     refine go (m_bin) ?_
     refine go (m_bin) ?_
     refine .nil ⟨by kernel_rfl, ?_⟩
     refine k9 _ ?_
     refine d_condF rfl ?_
     refine d_skip ?_
     refine k8 _ ?_
     refine d_region rfl ?_
     refine go (m_move) ?_
     refine go (m_bin) ?_
     refine go (m_set) ?_
     refine .nil ⟨by kernel_rfl, ?_⟩
     exact ⟨k + 1, ⟨by omega, fun b h3 h5 => by by_cases h6 : b = k; (subst h6; exact h4); exact hno b h3 (by omega)⟩, by omega, wk [(0, 0)]⟩
   ·
    refine d_seq fun K11 k11 => ?_
    refine d_seq fun K12 k12 => ?_
    refine d_region rfl ?_
    refine go (m_move) ?_
    refine go (m_bin) ?_
    refine .nil ⟨by kernel_rfl, ?_⟩
    refine k12 _ ?_
    refine d_condF rfl ?_
    refine d_exit ?_
    refine k4 _ ?_
    refine d_seq fun K13 k13 => ?_
    refine d_region rfl ?_
    refine go (m_set) ?_
    refine .nil ⟨by kernel_rfl, ?_⟩
    refine k13 _ ?_
    refine d_ret ?_
    change RetD _ _ _ _ _ _ _
    exact fin [] (.tmp (.nil)) (h1 := .f fun h => by obtain ⟨b, h5, h6, h7⟩ := h.2.2; exact hno b h5 (by omega) h7)
  ·
   refine d_region rfl ?_
   refine go (m_fa ty_79) ?_
   refine go (m_load ty_3) ?_
   refine go (m_bin) ?_
   refine go (m_move) ?_
   first | refine no ?_ | refine go (m_fa ty_79) ?_
   first | refine no ?_ | refine go (m_load ty_3) ?_
   first | refine no ?_ | refine go (m_bin) ?_
   refine go (m_pick) ?_
   refine .nil ⟨by kernel_rfl, ?_⟩
   refine k3 _ ?_
   refine d_condT rfl ?_
   refine d_seq fun K14 k14 => ?_
   refine d_region rfl ?_
   refine go (m_set) ?_
   refine .nil ⟨by kernel_rfl, ?_⟩
   refine k14 _ ?_
   refine d_ret ?_
   change RetD _ _ _ _ _ _ _
   exact fin [] (.tmp (.nil)) (h1 := .f fun h => h2 h.2.1)
 ·
  refine d_region rfl ?_
  refine go (m_fa ty_79) ?_
  refine go (m_load ty_3) ?_
  refine go (m_bin) ?_
  refine go (m_move) ?_
  first | refine no ?_ | refine go (m_fa ty_79) ?_
  first | refine no ?_ | refine go (m_load ty_3) ?_
  first | refine no ?_ | refine go (m_bin) ?_
  refine go (m_pick) ?_
  refine .nil ⟨by kernel_rfl, ?_⟩
  refine k3 _ ?_
  refine d_condT rfl ?_
  refine d_seq fun K15 k15 => ?_
  refine d_region rfl ?_
  refine go (m_set) ?_
  refine .nil ⟨by kernel_rfl, ?_⟩
  refine k15 _ ?_
  refine d_ret ?_
  change RetD _ _ _ _ _ _ _
  exact fin [] (.tmp (.nil)) (h1 := .f fun h => h1 h.1)

/-- how often an entry follows one of the first -/
def CntOf (fs : List Fe) (n : Nat) (c : List Int) : Prop := c.length = 64 ∧ ∀ j (h : j < c.length), (c[j] = 0 ∨ c[j] = 1) ∧ (c[j] = 1 ↔ ∃ i, ∃ h : i < fs.length, i < n ∧ fs[i].nx = j)
theorem CntOf.zero {fs : List Fe} : CntOf fs 0 (List.replicate 64 0) := ⟨by simp, fun j hj => by
 rw [List.getElem_replicate]
 exact ⟨.inl rfl, fun h => absurd h (by decide), fun ⟨i, _, h, _⟩ => by omega⟩⟩
theorem CntOf.skip {fs : List Fe} {n : Nat} {c : List Int} (h : CntOf fs n c) (hn : n < fs.length) (hx : fs[n].nx < 0) : CntOf fs (n + 1) c := ⟨h.1, fun j hj => ⟨(h.2 j hj).1, (h.2 j hj).2.trans ⟨fun ⟨i, hi, h1, h2⟩ => ⟨i, hi, by omega, h2⟩, fun ⟨i, hi, h1, h2⟩ => by
 rcases Nat.lt_succ_iff_lt_or_eq.1 h1 with h3 | h3
 ·exact ⟨i, hi, h3, h2⟩
 ·subst h3; omega⟩⟩⟩
theorem CntOf.set {fs : List Fe} {n p : Nat} {c : List Int} (h : CntOf fs n c) (hn : n < fs.length) (hp : p < c.length) (hx : fs[n].nx = p) (h0 : c[p] = 0) : CntOf fs (n + 1) (c.set p (c[p] + 1)) := by
 refine ⟨by rw [List.length_set]; exact h.1, fun j hj => ?_⟩
 rw [List.length_set] at hj
 have hb := h.2 j hj
 by_cases e : j = p
 ·subst e
  rw [List.getElem_set_self, h0]
  exact ⟨.inr rfl, fun _ => ⟨n, hn, by omega, hx⟩, fun _ => rfl⟩
 ·rw [List.getElem_set_ne (fun h => e h.symm)]
  refine ⟨hb.1, hb.2.trans ⟨fun ⟨i, hi, h1, h2⟩ => ⟨i, hi, by omega, h2⟩, fun ⟨i, hi, h1, h2⟩ => ?_⟩⟩
  rcases Nat.lt_succ_iff_lt_or_eq.1 h1 with h3 | h3
  ·exact ⟨i, hi, h3, h2⟩
  ·subst h3; omega
theorem UqF.setC {fs : List Fe} {n p : Nat} {c : List Int} (h : UqF fs n) (hn : n < fs.length) (hb : CntOf fs n c) (hp : p < c.length) (hx : fs[n].nx = p) (h0 : c[p] = 0) : UqF fs (n + 1) := fun i j hi hj hij hjn e => by
 rcases Nat.lt_succ_iff_lt_or_eq.1 hjn with h3 | h3
 ·exact h i j hi hj hij h3 e
 ·subst h3
  have := (hb.2 p hp).2.2 ⟨i, hi, hij, e.trans hx⟩
  omega
theorem UqF.notC {fs : List Fe} {n p : Nat} {c : List Int} (hn : n < fs.length) (hb : CntOf fs n c) (hp : p < c.length) (hx : fs[n].nx = p) (h0 : ¬ c[p] = 0) : ¬ UqF fs fs.length := fun h => by
 obtain ⟨i, hi, h1, h2⟩ := (hb.2 p hp).2.1 (by have := (hb.2 p hp).1; omega)
 have := h i n hi hn h1 hn (h2.trans hx.symm)
 omega
theorem not_both {s : Sp} {n : Nat} (hn : n < s.fs.length) (h0 : ¬ FreeF s n s.fs[n]) (h : ¬ UsedF s n s.fs[n]) : ¬ SpOk s := SpOk.not_fm hn fun k => by
 rcases k with k | k
 ·exact h0 k
 ·exact h k
theorem SpOk.nxIn {s : Sp} (h : SpOk s) : NxIn s.fs := nxin_of h.fm
theorem zerof_iff {s : Sp} {k : Nat} : ZeroF s k ↔ ∀ a (h : a < s.ws.length), k * szS s ≤ a → a < (k + 1) * szS s → s.ws[a] = 0 := Iff.rfl

/-- the number that was just written -/
theorem ldB {td : TyD} {y : List DV} {j : Nat} {d : DV} (h : j < y.length) (h1 : td.agg = false := by rfl) (h2 : td.size = 1 := by rfl) : ldD td ((setCells y j [d]).drop j) = some d := by
 unfold ldD
 rw [h1, h2, if_neg (by decide), if_pos rfl, List.head?_drop]
 show (y.set j d)[j]? = _
 rw [List.getElem?_set_self h]

section
variable {P : Program} {o : Oper} {env : Env} {sto : Sto} {nxt : Nat}
theorem m_iaAZ {t e n : Nat} {x ix : Operand} {tt td : TyD} {k : IntKind} {i : Int} {s p q : Nat} {ob : Ob} (ht : TyOk P t tt) (he : TyOk P e td) (ho : o.op = .indexAddr t x ix := by rfl) (hk : tt.k = .array n e := by rfl) (hx : opd env x = .ptr s p q := by rfl) (hi : opd env ix = .lit (.int k i) := by rfl) (hs : sto.get s = some ob := by rfl)
  (h0 : 0 ≤ i := by omega) (hlt : i.toNat < n := by omega) : OpOK P o env sto nxt ⟨.ptr s p (q + i.toNat * td.size), [], [s], 0⟩ := m_iaA ht he ho hk hx (by rw [Int.toNat_of_nonneg h0]; exact hi) hs hlt
end

set_option maxRecDepth 20000 in
set_option maxHeartbeats 4000000 in
theorem rvalid_d (s : Sp) (hW : SpW s) : DCall Try.prog 55 [spD s] [] (DB (bP (SpOk s))) [] := by
 refine DCall.mk Try.func55 rfl rfl ?_
 refine d_lenA 0 2 fun hL => ?_
 refine d_lenA 0 1 fun hLw => ?_
 refine d_seq fun K1 k1 => ?_
 refine d_region rfl ?_
 refine go (m_box ty_25) ?_
 refine go (m_set) ?_
 refine .nil ⟨by kernel_rfl, ?_⟩
 refine k1 _ ?_
 refine d_seq fun K2 k2 => ?_
 refine d_region rfl ?_
 refine go (m_fa ty_25) ?_
 refine go (m_load ty_23) ?_
 refine go (m_len ty_23) ?_
 refine go (m_set) ?_
 refine .nil ⟨by kernel_rfl, ?_⟩
 refine k2 _ ?_
 refine d_seq fun K3 k3 => ?_
 refine d_seq fun K4 k4 => ?_
 by_cases hsh : ShOk s.sh
 ·
  by_cases h2 : 2 ≤ s.fs.length
  ·
   by_cases h64 : s.fs.length ≤ 64
   ·
    obtain ⟨g1, g2, g3, g4, g5⟩ := sz_get hsh
    by_cases hw : s.ws.length = s.fs.length * szS s
    ·
     refine d_region rfl ?_
     refine go (m_fa ty_25) ?_
     refine go (m_load ty_3) ?_
     refine go (m_call ((rshift_d _).t hsh)) ?_
     refine go (m_not) ?_
     refine go (m_move) ?_
     first | refine no ?_ | refine go (m_move) ?_
     first | refine no ?_ | refine go (m_bin) ?_
     refine go (m_pick) ?_
     refine go (m_move) ?_
     first | refine no ?_ | refine go (m_move) ?_
     first | refine no ?_ | refine go (m_bin) ?_
     refine go (m_pick) ?_
     refine go (m_move) ?_
     first | refine no ?_ | refine go (m_fa ty_25) ?_
     first | refine no ?_ | refine go (m_load ty_22) ?_
     first | refine no ?_ | refine go (m_len ty_22) ?_
     first | refine no ?_ | refine go (m_move) ?_
     first | refine no ?_ | refine go (m_fa ty_25) ?_
     first | refine no ?_ | refine go (m_load ty_3) ?_
     first | refine no ?_ | refine go (m_conv ty_3 ty_66) ?_
     first | refine no ?_ | refine go (m_shA (hr := sh_k hsh _ rfl (by omega))) ?_
     first | refine no ?_ | refine go (m_bin) ?_
     refine go (m_pick) ?_
     refine .nil ⟨by kernel_rfl, ?_⟩
     refine k4 _ ?_
     refine d_condF rfl ?_
     refine d_skip ?_
     refine k3 _ ?_
     refine d_seq fun K5 k5 => ?_
     refine d_region rfl ?_
     refine go (m_alloc ty_118) ?_
     refine .nil ⟨by kernel_rfl, ?_⟩
     refine k5 _ ?_
     refine d_seq fun K6 k6 => ?_
     refine d_seq fun K7 k7 => ?_
     refine d_region rfl ?_
     refine go (m_fa ty_25) ?_
     refine go (m_load ty_23) ?_
     refine go (m_len ty_23) ?_
     refine go (m_move) ?_
     refine .nil ⟨by kernel_rfl, ?_⟩
     refine k7 _ ?_
     refine d_block ?_
     refine d_loop (α := Nat × List Int) (fun x => ⟨[(1, .ptr 0 0 0), (3, DI s.fs.length), (4, .ptr 1 0 0), (39, .sl (s.fs.map frC)), (40, DI s.fs.length), (41, DI x.1)], [(0, ⟨3, false, false, [spC s]⟩), (1, ⟨64, false, false, [x.2.map DI]⟩)], 2⟩) (fun x => x.1 ≤ s.fs.length ∧ FmTo s x.1 ∧ CntOf s.fs x.1 x.2 ∧ UqF s.fs x.1) (fun x => s.fs.length - x.1) (0, List.replicate 64 0) ⟨by omega, fun i _ h => by omega, CntOf.zero, fun i j _ _ _ h => by omega⟩ (wk [(0, 0), (1, 1)]) (fun ⟨k, c⟩ ⟨hk, hfm, hct, huq⟩ => ?_)
     simp only [] at hk hfm hct huq
     simp only []
     have hcl := hct.1
     by_cases hlt : k < s.fs.length
     ·
      refine d_seq fun K8 k8 => ?_
      refine d_region rfl ?_
      refine go (m_bin) ?_
      refine .nil ⟨by kernel_rfl, ?_⟩
      refine k8 _ ?_
      refine d_seq fun K9 k9 => ?_
      refine d_condT rfl ?_
      refine d_skip ?_
      refine k9 _ ?_
      refine d_seq fun K10 k10 => ?_
      refine d_block ?_
      refine d_seq fun K11 k11 => ?_
      refine d_region rfl ?_
      refine go (m_move) ?_
      refine go (m_ia ty_23 ty_79) ?_
      refine go (m_load ty_79) ?_
      refine go (m_alloc ty_79) ?_
      refine go (m_set) ?_
      refine go (m_store ty_79) ?_
      refine .nil ⟨by kernel_rfl, ?_⟩
      refine k11 _ ?_
      refine d_seq fun K12 k12 => ?_
      refine d_seq fun K13 k13 => ?_
      have hpart : k * szS s + szS s ≤ s.ws.length := by rw [hw, ← Nat.succ_mul]; exact Nat.mul_le_mul hlt (Nat.le_refl _)
      have hpart2 : (k + 1) * szS s = k * szS s + szS s := Nat.succ_mul _ _
      obtain ⟨i1, i2, i3⟩ := hW.at hlt
      unfold I64 at i1 i2 i3
      by_cases f0 : s.fs[k].ow = -1
      ·
       by_cases f1 : s.fs[k].st = -1
       ·
        by_cases f2 : s.fs[k].nx = -1
        ·
         refine d_region rfl ?_
         refine go (m_fa ty_79) ?_
         refine go (m_load ty_3) ?_
         refine go (m_bin) ?_
         refine go (m_move) ?_
         first | refine no ?_ | refine go (m_fa ty_79) ?_
         first | refine no ?_ | refine go (m_load ty_3) ?_
         first | refine no ?_ | refine go (m_bin) ?_
         refine go (m_pick) ?_
         refine go (m_move) ?_
         first | refine no ?_ | refine go (m_fa ty_79) ?_
         first | refine no ?_ | refine go (m_load ty_3) ?_
         first | refine no ?_ | refine go (m_bin) ?_
         refine go (m_pick) ?_
         refine .nil ⟨by kernel_rfl, ?_⟩
         refine k13 _ ?_
         refine d_condT rfl ?_
         refine d_seq fun K14 k14 => ?_
         refine d_seq fun K15 k15 => ?_
         refine d_region rfl ?_
         refine go (m_move) ?_
         refine go (m_fa ty_25) ?_
         refine go (m_load ty_3) ?_
         refine go (m_conv ty_3 ty_66) ?_
         refine go (m_shA (hr := sh_k hsh _ rfl (by omega))) ?_
         refine go (m_set) ?_
         refine .nil ⟨by kernel_rfl, ?_⟩
         refine k15 _ ?_
         refine d_block ?_
         refine d_loop (α := Nat) (fun a => ⟨[(1, .ptr 0 0 0), (3, DI s.fs.length), (4, .ptr 1 0 0), (5, DI k), (7, DI a), (39, .sl (s.fs.map frC)), (40, DI s.fs.length), (41, DI k)], [(0, ⟨3, false, false, [spC s]⟩), (1, ⟨64, false, false, [c.map DI]⟩)], 2⟩) (fun a => k * szS s ≤ a ∧ a ≤ (k + 1) * szS s ∧ ∀ b (h : b < s.ws.length), k * szS s ≤ b → b < a → s.ws[b] = 0) (fun a => (k + 1) * szS s - a) (k * szS s) ⟨by omega, by omega, fun b _ _ h => by omega⟩ (wk [(0, 0), (1, 1)]) (fun a ⟨ha1, ha2, hz⟩ => ?_)
         by_cases hza : a < (k + 1) * szS s
         ·
          refine d_seq fun K16 k16 => ?_
          refine d_seq fun K17 k17 => ?_
          refine d_region rfl ?_
          refine go (m_move) ?_
          refine go (m_move) ?_
          refine go (m_bin) ?_
          refine go (m_fa ty_25) ?_
          refine go (m_load ty_3) ?_
          refine go (m_conv ty_3 ty_66) ?_
          refine go (m_shA (hr := sh_k hsh (k + 1) (by push_cast; rfl) (by omega))) ?_
          refine go (m_bin) ?_
          refine .nil ⟨by kernel_rfl, ?_⟩
          refine k17 _ ?_
          refine d_condT rfl ?_
          refine d_skip ?_
          refine k16 _ ?_
          refine d_seq fun K18 k18 => ?_
          refine d_block ?_
          refine d_seq fun K19 k19 => ?_
          by_cases z : s.ws[a] = 0
          ·
           refine d_region rfl ?_
           refine go (m_fa ty_25) ?_
           refine go (m_load ty_22) ?_
           refine go (m_move) ?_
           refine go (m_ia ty_22 ty_50) ?_
           refine go (m_load ty_50) ?_
           refine go (m_bin) ?_
           refine .nil ⟨by kernel_rfl, ?_⟩
           refine k19 _ ?_
           refine d_condF rfl ?_
           refine d_skip ?_
           refine k18 _ ?_
           refine d_region rfl ?_
           refine go (m_move) ?_
           refine go (m_bin) ?_
           refine go (m_set) ?_
           refine .nil ⟨by kernel_rfl, ?_⟩
           exact ⟨a + 1, ⟨by omega, by omega, fun b h h7 h8 => by by_cases h3 : b = a; (subst h3; exact z); exact hz b h h7 (by omega)⟩, by omega, wk [(0, 0), (1, 1)]⟩
          ·
           refine d_region rfl ?_
           refine go (m_fa ty_25) ?_
           refine go (m_load ty_22) ?_
           refine go (m_move) ?_
           refine go (m_ia ty_22 ty_50) ?_
           refine go (m_load ty_50) ?_
           refine go (m_bin) ?_
           refine .nil ⟨by kernel_rfl, ?_⟩
           refine k19 _ ?_
           refine d_condT rfl ?_
           refine d_seq fun K20 k20 => ?_
           refine d_region rfl ?_
           refine go (m_set) ?_
           refine .nil ⟨by kernel_rfl, ?_⟩
           refine k20 _ ?_
           refine d_ret ?_
           change RetD _ _ _ _ _ _ _
           exact fin [] (.tmp (.nil)) (h1 := .f (not_both hlt (fun h => z (h.2.2.2 a (by omega) ha1 (by omega))) fun h => by have := h.1.1; omega))
         ·
          refine d_seq fun K21 k21 => ?_
          refine d_seq fun K22 k22 => ?_
          refine d_region rfl ?_
          refine go (m_move) ?_
          refine go (m_move) ?_
          refine go (m_bin) ?_
          refine go (m_fa ty_25) ?_
          refine go (m_load ty_3) ?_
          refine go (m_conv ty_3 ty_66) ?_
          refine go (m_shA (hr := sh_k hsh (k + 1) (by push_cast; rfl) (by omega))) ?_
          refine go (m_bin) ?_
          refine .nil ⟨by kernel_rfl, ?_⟩
          refine k22 _ ?_
          refine d_condF rfl ?_
          refine d_exit ?_
          refine k14 _ ?_
          refine d_exit ?_
          refine k10 _ ?_
          refine d_region rfl ?_
          refine go (m_bin) ?_
          refine go (m_move) ?_
          refine .nil ⟨by kernel_rfl, ?_⟩
          exact ⟨(k + 1, c), ⟨by omega, hfm.step hlt (.inl ⟨f0, f1, f2, fun b hb h7 h8 => hz b hb h7 (by omega)⟩), hct.skip hlt (by omega), huq.skip hlt f2⟩, by simp only []; omega, wk [(0, 0), (1, 1)]⟩
        ·
         refine d_region rfl ?_
         refine go (m_fa ty_79) ?_
         refine go (m_load ty_3) ?_
         refine go (m_bin) ?_
         refine go (m_move) ?_
         first | refine no ?_ | refine go (m_fa ty_79) ?_
         first | refine no ?_ | refine go (m_load ty_3) ?_
         first | refine no ?_ | refine go (m_bin) ?_
         refine go (m_pick) ?_
         refine go (m_move) ?_
         first | refine no ?_ | refine go (m_fa ty_79) ?_
         first | refine no ?_ | refine go (m_load ty_3) ?_
         first | refine no ?_ | refine go (m_bin) ?_
         refine go (m_pick) ?_
         refine .nil ⟨by kernel_rfl, ?_⟩
         refine k13 _ ?_
         refine d_condF rfl ?_
         refine d_skip ?_
         refine k12 _ ?_
         refine d_seq fun K23 k23 => ?_
         refine d_seq fun K24 k24 => ?_
         by_cases a1 : Stp s.fs[k].ow s.fs[k].st
         ·
          by_cases a6 : -1 ≤ s.fs[k].nx
          ·
           by_cases a7 : s.fs[k].nx < s.fs.length
           ·
            by_cases a8 : ¬ s.fs[k].nx = k
            ·
             refine d_region rfl ?_
             refine go (m_load ty_79) ?_
             refine go (m_call ((stamped_d _).t a1)) ?_
             refine go (m_not) ?_
             refine go (m_move) ?_
             first | refine no ?_ | refine go (m_fa ty_79) ?_
             first | refine no ?_ | refine go (m_load ty_3) ?_
             first | refine no ?_ | refine go (m_bin) ?_
             refine go (m_pick) ?_
             refine go (m_move) ?_
             first | refine no ?_ | refine go (m_fa ty_79) ?_
             first | refine no ?_ | refine go (m_load ty_3) ?_
             first | refine no ?_ | refine go (m_move) ?_
             first | refine no ?_ | refine go (m_bin) ?_
             refine go (m_pick) ?_
             refine go (m_move) ?_
             first | refine no ?_ | refine go (m_fa ty_79) ?_
             first | refine no ?_ | refine go (m_load ty_3) ?_
             first | refine no ?_ | refine go (m_move) ?_
             first | refine no ?_ | refine go (m_bin) ?_
             refine go (m_pick) ?_
             refine .nil ⟨by kernel_rfl, ?_⟩
             refine k24 _ ?_
             refine d_condF rfl ?_
             refine d_skip ?_
             refine k23 _ ?_
             refine d_seq fun K25 k25 => ?_
             refine d_seq fun K26 k26 => ?_
             by_cases h5 : s.fs[k].nx = -1
             ·
              refine d_region rfl ?_
              refine go (m_fa ty_79) ?_
              refine go (m_load ty_3) ?_
              refine go (m_bin) ?_
              refine .nil ⟨by kernel_rfl, ?_⟩
              refine k26 _ ?_
              refine d_condT rfl ?_
              refine d_exit ?_
              refine k10 _ ?_
              refine d_region rfl ?_
              refine go (m_bin) ?_
              refine go (m_move) ?_
              refine .nil ⟨by kernel_rfl, ?_⟩
              have hus : UsedF s k s.fs[k] := ⟨a1, a6, a7, a8, fun j hj e => by omega⟩
              exact ⟨(k + 1, c), ⟨by omega, hfm.step hlt (.inr hus), hct.skip hlt (by omega), huq.skip hlt h5⟩, by simp only []; omega, wk [(0, 0), (1, 1)]⟩
             ·
              refine d_region rfl ?_
              refine go (m_fa ty_79) ?_
              refine go (m_load ty_3) ?_
              refine go (m_bin) ?_
              refine .nil ⟨by kernel_rfl, ?_⟩
              refine k26 _ ?_
              refine d_condF rfl ?_
              refine d_skip ?_
              refine k25 _ ?_
              refine d_seq fun K27 k27 => ?_
              refine d_region rfl ?_
              refine go (m_fa ty_25) ?_
              refine go (m_load ty_23) ?_
              refine go (m_fa ty_79) ?_
              refine go (m_load ty_3) ?_
              refine go (m_ia ty_23 ty_79) ?_
              refine go (m_load ty_79) ?_
              refine go (m_alloc ty_79) ?_
              refine go (m_store ty_79) ?_
              refine .nil ⟨by kernel_rfl, ?_⟩
              refine k27 _ ?_
              refine d_seq fun K28 k28 => ?_
              have hcb := (hct.2 s.fs[k].nx.toNat (by omega)).1
              refine d_region rfl ?_
              refine go (m_fa ty_79) ?_
              refine go (m_load ty_3) ?_
              refine go (m_iaAZ ty_118 ty_3) ?_
              refine go (m_load ty_3 (hd := ldA (p := s.fs[k].nx.toNat) (by omega) (by show 0 + _ * 1 = _; omega))) ?_
              refine go (m_bin) ?_
              refine go (m_iaAZ ty_118 ty_3) ?_
              refine go (m_store ty_3 (hc := .box rfl rfl rfl rfl rfl rfl rfl (by show 0 + _ * 1 + 1 ≤ (c.map DI).length; simp; omega))) ?_
              refine .nil ⟨by kernel_rfl, ?_⟩
              refine k28 _ ?_
              refine d_seq fun K29 k29 => ?_
              by_cases ho : s.fs[s.fs[k].nx.toNat].ow = s.fs[k].ow
              ·
               by_cases hst : s.fs[s.fs[k].nx.toNat].st = s.fs[k].st
               ·
                by_cases hb : c[s.fs[k].nx.toNat] = 0
                ·
                 refine d_region rfl ?_
                 refine go (m_fa ty_79) ?_
                 refine go (m_load ty_3) ?_
                 refine go (m_fa ty_79) ?_
                 refine go (m_load ty_3) ?_
                 refine go (m_bin) ?_
                 refine go (m_move) ?_
                 first | refine no ?_ | refine go (m_fa ty_79) ?_
                 first | refine no ?_ | refine go (m_load ty_3) ?_
                 first | refine no ?_ | refine go (m_fa ty_79) ?_
                 first | refine no ?_ | refine go (m_load ty_3) ?_
                 first | refine no ?_ | refine go (m_bin) ?_
                 refine go (m_pick) ?_
                 refine go (m_move) ?_
                 first | refine no ?_ | refine go (m_fa ty_79) ?_
                 first | refine no ?_ | refine go (m_load ty_3) ?_
                 first | refine no ?_ | refine go (m_iaAZ ty_118 ty_3) ?_
                 first | refine no ?_ | refine go (m_load ty_3 (hd := ldB (by show 0 + _ * 1 < _; simp; omega))) ?_
                 first | refine no ?_ | refine go (m_bin) ?_
                 refine go (m_pick) ?_
                 refine .nil ⟨by kernel_rfl, ?_⟩
                 refine k29 _ ?_
                 refine d_condF rfl ?_
                 refine d_skip ?_
                 refine k10 _ ?_
                 refine d_region rfl ?_
                 refine go (m_bin) ?_
                 refine go (m_move) ?_
                 refine .nil ⟨by kernel_rfl, ?_⟩
                 have hla : ∀ j (h : j < s.fs.length), s.fs[k].nx = j → s.fs[j].ow = s.fs[k].ow ∧ s.fs[j].st = s.fs[k].st := fun j hj e => by
                  have e2 : j = s.fs[k].nx.toNat := by omega
                  subst e2
                  exact ⟨ho, hst⟩
                 have hus : UsedF s k s.fs[k] := ⟨a1, a6, a7, a8, hla⟩
                 have hcs : setCells (c.map DI) (0 + s.fs[k].nx.toNat * 1) [DI (c[s.fs[k].nx.toNat] + 1)] = (c.set s.fs[k].nx.toNat (c[s.fs[k].nx.toNat] + 1)).map DI := by simp [setCells, List.map_set]
                 exact ⟨(k + 1, c.set s.fs[k].nx.toNat (c[s.fs[k].nx.toNat] + 1)), ⟨by omega, hfm.step hlt (.inr hus), hct.set hlt (by omega) (by omega) hb, huq.setC (p := s.fs[k].nx.toNat) hlt hct (by omega) (by omega) hb⟩, by simp only []; omega, wk [(0, 0), (1, 1)]⟩
                ·
                 refine d_region rfl ?_
                 refine go (m_fa ty_79) ?_
                 refine go (m_load ty_3) ?_
                 refine go (m_fa ty_79) ?_
                 refine go (m_load ty_3) ?_
                 refine go (m_bin) ?_
                 refine go (m_move) ?_
                 first | refine no ?_ | refine go (m_fa ty_79) ?_
                 first | refine no ?_ | refine go (m_load ty_3) ?_
                 first | refine no ?_ | refine go (m_fa ty_79) ?_
                 first | refine no ?_ | refine go (m_load ty_3) ?_
                 first | refine no ?_ | refine go (m_bin) ?_
                 refine go (m_pick) ?_
                 refine go (m_move) ?_
                 first | refine no ?_ | refine go (m_fa ty_79) ?_
                 first | refine no ?_ | refine go (m_load ty_3) ?_
                 first | refine no ?_ | refine go (m_iaAZ ty_118 ty_3) ?_
                 first | refine no ?_ | refine go (m_load ty_3 (hd := ldB (by show 0 + _ * 1 < _; simp; omega))) ?_
                 first | refine no ?_ | refine go (m_bin) ?_
                 refine go (m_pick) ?_
                 refine .nil ⟨by kernel_rfl, ?_⟩
                 refine k29 _ ?_
                 refine d_condT rfl ?_
                 refine d_seq fun K30 k30 => ?_
                 refine d_region rfl ?_
                 refine go (m_set) ?_
                 refine .nil ⟨by kernel_rfl, ?_⟩
                 refine k30 _ ?_
                 refine d_ret ?_
                 change RetD _ _ _ _ _ _ _
                 exact fin [] (.tmp (.nil)) (h1 := .f fun h => UqF.notC (p := s.fs[k].nx.toNat) hlt hct (by omega) (by omega) hb h.uq)
               ·
                refine d_region rfl ?_
                refine go (m_fa ty_79) ?_
                refine go (m_load ty_3) ?_
                refine go (m_fa ty_79) ?_
                refine go (m_load ty_3) ?_
                refine go (m_bin) ?_
                refine go (m_move) ?_
                first | refine no ?_ | refine go (m_fa ty_79) ?_
                first | refine no ?_ | refine go (m_load ty_3) ?_
                first | refine no ?_ | refine go (m_fa ty_79) ?_
                first | refine no ?_ | refine go (m_load ty_3) ?_
                first | refine no ?_ | refine go (m_bin) ?_
                refine go (m_pick) ?_
                refine go (m_move) ?_
                first | refine no ?_ | refine go (m_fa ty_79) ?_
                first | refine no ?_ | refine go (m_load ty_3) ?_
                first | refine no ?_ | refine go (m_iaAZ ty_118 ty_3) ?_
                first | refine no ?_ | refine go (m_load ty_3 (hd := ldB (by show 0 + _ * 1 < _; simp; omega))) ?_
                first | refine no ?_ | refine go (m_bin) ?_
                refine go (m_pick) ?_
                refine .nil ⟨by kernel_rfl, ?_⟩
                refine k29 _ ?_
                refine d_condT rfl ?_
                refine d_seq fun K31 k31 => ?_
                refine d_region rfl ?_
                refine go (m_set) ?_
                refine .nil ⟨by kernel_rfl, ?_⟩
                refine k31 _ ?_
                refine d_ret ?_
                change RetD _ _ _ _ _ _ _
                exact fin [] (.tmp (.nil)) (h1 := .f (not_both hlt (fun h => f2 h.2.2.1) fun h => by have h5 := h.2.2.2.2 s.fs[k].nx.toNat (by omega) (by omega); omega))
              ·
               refine d_region rfl ?_
               refine go (m_fa ty_79) ?_
               refine go (m_load ty_3) ?_
               refine go (m_fa ty_79) ?_
               refine go (m_load ty_3) ?_
               refine go (m_bin) ?_
               refine go (m_move) ?_
               first | refine no ?_ | refine go (m_fa ty_79) ?_
               first | refine no ?_ | refine go (m_load ty_3) ?_
               first | refine no ?_ | refine go (m_fa ty_79) ?_
               first | refine no ?_ | refine go (m_load ty_3) ?_
               first | refine no ?_ | refine go (m_bin) ?_
               refine go (m_pick) ?_
               refine go (m_move) ?_
               first | refine no ?_ | refine go (m_fa ty_79) ?_
               first | refine no ?_ | refine go (m_load ty_3) ?_
               first | refine no ?_ | refine go (m_iaAZ ty_118 ty_3) ?_
               first | refine no ?_ | refine go (m_load ty_3 (hd := ldB (by show 0 + _ * 1 < _; simp; omega))) ?_
               first | refine no ?_ | refine go (m_bin) ?_
               refine go (m_pick) ?_
               refine .nil ⟨by kernel_rfl, ?_⟩
               refine k29 _ ?_
               refine d_condT rfl ?_
               refine d_seq fun K32 k32 => ?_
               refine d_region rfl ?_
               refine go (m_set) ?_
               refine .nil ⟨by kernel_rfl, ?_⟩
               refine k32 _ ?_
               refine d_ret ?_
               change RetD _ _ _ _ _ _ _
               exact fin [] (.tmp (.nil)) (h1 := .f (not_both hlt (fun h => f2 h.2.2.1) fun h => by have h5 := h.2.2.2.2 s.fs[k].nx.toNat (by omega) (by omega); omega))
            ·
             refine d_region rfl ?_
             refine go (m_load ty_79) ?_
             refine go (m_call ((stamped_d _).t a1)) ?_
             refine go (m_not) ?_
             refine go (m_move) ?_
             first | refine no ?_ | refine go (m_fa ty_79) ?_
             first | refine no ?_ | refine go (m_load ty_3) ?_
             first | refine no ?_ | refine go (m_bin) ?_
             refine go (m_pick) ?_
             refine go (m_move) ?_
             first | refine no ?_ | refine go (m_fa ty_79) ?_
             first | refine no ?_ | refine go (m_load ty_3) ?_
             first | refine no ?_ | refine go (m_move) ?_
             first | refine no ?_ | refine go (m_bin) ?_
             refine go (m_pick) ?_
             refine go (m_move) ?_
             first | refine no ?_ | refine go (m_fa ty_79) ?_
             first | refine no ?_ | refine go (m_load ty_3) ?_
             first | refine no ?_ | refine go (m_move) ?_
             first | refine no ?_ | refine go (m_bin) ?_
             refine go (m_pick) ?_
             refine .nil ⟨by kernel_rfl, ?_⟩
             refine k24 _ ?_
             refine d_condT rfl ?_
             refine d_seq fun K33 k33 => ?_
             refine d_region rfl ?_
             refine go (m_set) ?_
             refine .nil ⟨by kernel_rfl, ?_⟩
             refine k33 _ ?_
             refine d_ret ?_
             change RetD _ _ _ _ _ _ _
             exact fin [] (.tmp (.nil)) (h1 := .f (not_both hlt (fun h => f2 h.2.2.1) fun h => by have h2 := h.2.1; have h3 := h.2.2.1; have h4 := h.2.2.2.1; omega))
           ·
            refine d_region rfl ?_
            refine go (m_load ty_79) ?_
            refine go (m_call ((stamped_d _).t a1)) ?_
            refine go (m_not) ?_
            refine go (m_move) ?_
            first | refine no ?_ | refine go (m_fa ty_79) ?_
            first | refine no ?_ | refine go (m_load ty_3) ?_
            first | refine no ?_ | refine go (m_bin) ?_
            refine go (m_pick) ?_
            refine go (m_move) ?_
            first | refine no ?_ | refine go (m_fa ty_79) ?_
            first | refine no ?_ | refine go (m_load ty_3) ?_
            first | refine no ?_ | refine go (m_move) ?_
            first | refine no ?_ | refine go (m_bin) ?_
            refine go (m_pick) ?_
            refine go (m_move) ?_
            first | refine no ?_ | refine go (m_fa ty_79) ?_
            first | refine no ?_ | refine go (m_load ty_3) ?_
            first | refine no ?_ | refine go (m_move) ?_
            first | refine no ?_ | refine go (m_bin) ?_
            refine go (m_pick) ?_
            refine .nil ⟨by kernel_rfl, ?_⟩
            refine k24 _ ?_
            refine d_condT rfl ?_
            refine d_seq fun K34 k34 => ?_
            refine d_region rfl ?_
            refine go (m_set) ?_
            refine .nil ⟨by kernel_rfl, ?_⟩
            refine k34 _ ?_
            refine d_ret ?_
            change RetD _ _ _ _ _ _ _
            exact fin [] (.tmp (.nil)) (h1 := .f (not_both hlt (fun h => f2 h.2.2.1) fun h => by have h2 := h.2.1; have h3 := h.2.2.1; have h4 := h.2.2.2.1; omega))
          ·
           refine d_region rfl ?_
           refine go (m_load ty_79) ?_
           refine go (m_call ((stamped_d _).t a1)) ?_
           refine go (m_not) ?_
           refine go (m_move) ?_
           first | refine no ?_ | refine go (m_fa ty_79) ?_
           first | refine no ?_ | refine go (m_load ty_3) ?_
           first | refine no ?_ | refine go (m_bin) ?_
           refine go (m_pick) ?_
           refine go (m_move) ?_
           first | refine no ?_ | refine go (m_fa ty_79) ?_
           first | refine no ?_ | refine go (m_load ty_3) ?_
           first | refine no ?_ | refine go (m_move) ?_
           first | refine no ?_ | refine go (m_bin) ?_
           refine go (m_pick) ?_
           refine go (m_move) ?_
           first | refine no ?_ | refine go (m_fa ty_79) ?_
           first | refine no ?_ | refine go (m_load ty_3) ?_
           first | refine no ?_ | refine go (m_move) ?_
           first | refine no ?_ | refine go (m_bin) ?_
           refine go (m_pick) ?_
           refine .nil ⟨by kernel_rfl, ?_⟩
           refine k24 _ ?_
           refine d_condT rfl ?_
           refine d_seq fun K35 k35 => ?_
           refine d_region rfl ?_
           refine go (m_set) ?_
           refine .nil ⟨by kernel_rfl, ?_⟩
           refine k35 _ ?_
           refine d_ret ?_
           change RetD _ _ _ _ _ _ _
           exact fin [] (.tmp (.nil)) (h1 := .f (not_both hlt (fun h => f2 h.2.2.1) fun h => by have h2 := h.2.1; have h3 := h.2.2.1; have h4 := h.2.2.2.1; omega))
         ·
          refine d_region rfl ?_
          refine go (m_load ty_79) ?_
          refine go (m_call ((stamped_d _).f a1)) ?_
          refine go (m_not) ?_
          refine go (m_move) ?_
          first | refine no ?_ | refine go (m_fa ty_79) ?_
          first | refine no ?_ | refine go (m_load ty_3) ?_
          first | refine no ?_ | refine go (m_bin) ?_
          refine go (m_pick) ?_
          refine go (m_move) ?_
          first | refine no ?_ | refine go (m_fa ty_79) ?_
          first | refine no ?_ | refine go (m_load ty_3) ?_
          first | refine no ?_ | refine go (m_move) ?_
          first | refine no ?_ | refine go (m_bin) ?_
          refine go (m_pick) ?_
          refine go (m_move) ?_
          first | refine no ?_ | refine go (m_fa ty_79) ?_
          first | refine no ?_ | refine go (m_load ty_3) ?_
          first | refine no ?_ | refine go (m_move) ?_
          first | refine no ?_ | refine go (m_bin) ?_
          refine go (m_pick) ?_
          refine .nil ⟨by kernel_rfl, ?_⟩
          refine k24 _ ?_
          refine d_condT rfl ?_
          refine d_seq fun K36 k36 => ?_
          refine d_region rfl ?_
          refine go (m_set) ?_
          refine .nil ⟨by kernel_rfl, ?_⟩
          refine k36 _ ?_
          refine d_ret ?_
          change RetD _ _ _ _ _ _ _
          exact fin [] (.tmp (.nil)) (h1 := .f (not_both hlt (fun h => f2 h.2.2.1) fun h => a1 h.1))
       ·
        refine d_region rfl ?_
        refine go (m_fa ty_79) ?_
        refine go (m_load ty_3) ?_
        refine go (m_bin) ?_
        refine go (m_move) ?_
        first | refine no ?_ | refine go (m_fa ty_79) ?_
        first | refine no ?_ | refine go (m_load ty_3) ?_
        first | refine no ?_ | refine go (m_bin) ?_
        refine go (m_pick) ?_
        refine go (m_move) ?_
        first | refine no ?_ | refine go (m_fa ty_79) ?_
        first | refine no ?_ | refine go (m_load ty_3) ?_
        first | refine no ?_ | refine go (m_bin) ?_
        refine go (m_pick) ?_
        refine .nil ⟨by kernel_rfl, ?_⟩
        refine k13 _ ?_
        refine d_condF rfl ?_
        refine d_skip ?_
        refine k12 _ ?_
        refine d_seq fun K37 k37 => ?_
        refine d_seq fun K38 k38 => ?_
        by_cases a1 : Stp s.fs[k].ow s.fs[k].st
        ·
         by_cases a6 : -1 ≤ s.fs[k].nx
         ·
          by_cases a7 : s.fs[k].nx < s.fs.length
          ·
           by_cases a8 : ¬ s.fs[k].nx = k
           ·
            refine d_region rfl ?_
            refine go (m_load ty_79) ?_
            refine go (m_call ((stamped_d _).t a1)) ?_
            refine go (m_not) ?_
            refine go (m_move) ?_
            first | refine no ?_ | refine go (m_fa ty_79) ?_
            first | refine no ?_ | refine go (m_load ty_3) ?_
            first | refine no ?_ | refine go (m_bin) ?_
            refine go (m_pick) ?_
            refine go (m_move) ?_
            first | refine no ?_ | refine go (m_fa ty_79) ?_
            first | refine no ?_ | refine go (m_load ty_3) ?_
            first | refine no ?_ | refine go (m_move) ?_
            first | refine no ?_ | refine go (m_bin) ?_
            refine go (m_pick) ?_
            refine go (m_move) ?_
            first | refine no ?_ | refine go (m_fa ty_79) ?_
            first | refine no ?_ | refine go (m_load ty_3) ?_
            first | refine no ?_ | refine go (m_move) ?_
            first | refine no ?_ | refine go (m_bin) ?_
            refine go (m_pick) ?_
            refine .nil ⟨by kernel_rfl, ?_⟩
            refine k38 _ ?_
            refine d_condF rfl ?_
            refine d_skip ?_
            refine k37 _ ?_
            refine d_seq fun K39 k39 => ?_
            refine d_seq fun K40 k40 => ?_
            by_cases h5 : s.fs[k].nx = -1
            ·
             refine d_region rfl ?_
             refine go (m_fa ty_79) ?_
             refine go (m_load ty_3) ?_
             refine go (m_bin) ?_
             refine .nil ⟨by kernel_rfl, ?_⟩
             refine k40 _ ?_
             refine d_condT rfl ?_
             refine d_exit ?_
             refine k10 _ ?_
             refine d_region rfl ?_
             refine go (m_bin) ?_
             refine go (m_move) ?_
             refine .nil ⟨by kernel_rfl, ?_⟩
             have hus : UsedF s k s.fs[k] := ⟨a1, a6, a7, a8, fun j hj e => by omega⟩
             exact ⟨(k + 1, c), ⟨by omega, hfm.step hlt (.inr hus), hct.skip hlt (by omega), huq.skip hlt h5⟩, by simp only []; omega, wk [(0, 0), (1, 1)]⟩
            ·
             refine d_region rfl ?_
             refine go (m_fa ty_79) ?_
             refine go (m_load ty_3) ?_
             refine go (m_bin) ?_
             refine .nil ⟨by kernel_rfl, ?_⟩
             refine k40 _ ?_
             refine d_condF rfl ?_
             refine d_skip ?_
             refine k39 _ ?_
             refine d_seq fun K41 k41 => ?_
             refine d_region rfl ?_
             refine go (m_fa ty_25) ?_
             refine go (m_load ty_23) ?_
             refine go (m_fa ty_79) ?_
             refine go (m_load ty_3) ?_
             refine go (m_ia ty_23 ty_79) ?_
             refine go (m_load ty_79) ?_
             refine go (m_alloc ty_79) ?_
             refine go (m_store ty_79) ?_
             refine .nil ⟨by kernel_rfl, ?_⟩
             refine k41 _ ?_
             refine d_seq fun K42 k42 => ?_
             have hcb := (hct.2 s.fs[k].nx.toNat (by omega)).1
             refine d_region rfl ?_
             refine go (m_fa ty_79) ?_
             refine go (m_load ty_3) ?_
             refine go (m_iaAZ ty_118 ty_3) ?_
             refine go (m_load ty_3 (hd := ldA (p := s.fs[k].nx.toNat) (by omega) (by show 0 + _ * 1 = _; omega))) ?_
             refine go (m_bin) ?_
             refine go (m_iaAZ ty_118 ty_3) ?_
             refine go (m_store ty_3 (hc := .box rfl rfl rfl rfl rfl rfl rfl (by show 0 + _ * 1 + 1 ≤ (c.map DI).length; simp; omega))) ?_
             refine .nil ⟨by kernel_rfl, ?_⟩
             refine k42 _ ?_
             refine d_seq fun K43 k43 => ?_
             by_cases ho : s.fs[s.fs[k].nx.toNat].ow = s.fs[k].ow
             ·
              by_cases hst : s.fs[s.fs[k].nx.toNat].st = s.fs[k].st
              ·
               by_cases hb : c[s.fs[k].nx.toNat] = 0
               ·
                refine d_region rfl ?_
                refine go (m_fa ty_79) ?_
                refine go (m_load ty_3) ?_
                refine go (m_fa ty_79) ?_
                refine go (m_load ty_3) ?_
                refine go (m_bin) ?_
                refine go (m_move) ?_
                first | refine no ?_ | refine go (m_fa ty_79) ?_
                first | refine no ?_ | refine go (m_load ty_3) ?_
                first | refine no ?_ | refine go (m_fa ty_79) ?_
                first | refine no ?_ | refine go (m_load ty_3) ?_
                first | refine no ?_ | refine go (m_bin) ?_
                refine go (m_pick) ?_
                refine go (m_move) ?_
                first | refine no ?_ | refine go (m_fa ty_79) ?_
                first | refine no ?_ | refine go (m_load ty_3) ?_
                first | refine no ?_ | refine go (m_iaAZ ty_118 ty_3) ?_
                first | refine no ?_ | refine go (m_load ty_3 (hd := ldB (by show 0 + _ * 1 < _; simp; omega))) ?_
                first | refine no ?_ | refine go (m_bin) ?_
                refine go (m_pick) ?_
                refine .nil ⟨by kernel_rfl, ?_⟩
                refine k43 _ ?_
                refine d_condF rfl ?_
                refine d_skip ?_
                refine k10 _ ?_
                refine d_region rfl ?_
                refine go (m_bin) ?_
                refine go (m_move) ?_
                refine .nil ⟨by kernel_rfl, ?_⟩
                have hla : ∀ j (h : j < s.fs.length), s.fs[k].nx = j → s.fs[j].ow = s.fs[k].ow ∧ s.fs[j].st = s.fs[k].st := fun j hj e => by
                 have e2 : j = s.fs[k].nx.toNat := by omega
                 subst e2
                 exact ⟨ho, hst⟩
                have hus : UsedF s k s.fs[k] := ⟨a1, a6, a7, a8, hla⟩
                have hcs : setCells (c.map DI) (0 + s.fs[k].nx.toNat * 1) [DI (c[s.fs[k].nx.toNat] + 1)] = (c.set s.fs[k].nx.toNat (c[s.fs[k].nx.toNat] + 1)).map DI := by simp [setCells, List.map_set]
                exact ⟨(k + 1, c.set s.fs[k].nx.toNat (c[s.fs[k].nx.toNat] + 1)), ⟨by omega, hfm.step hlt (.inr hus), hct.set hlt (by omega) (by omega) hb, huq.setC (p := s.fs[k].nx.toNat) hlt hct (by omega) (by omega) hb⟩, by simp only []; omega, wk [(0, 0), (1, 1)]⟩
               ·
                refine d_region rfl ?_
                refine go (m_fa ty_79) ?_
                refine go (m_load ty_3) ?_
                refine go (m_fa ty_79) ?_
                refine go (m_load ty_3) ?_
                refine go (m_bin) ?_
                refine go (m_move) ?_
                first | refine no ?_ | refine go (m_fa ty_79) ?_
                first | refine no ?_ | refine go (m_load ty_3) ?_
                first | refine no ?_ | refine go (m_fa ty_79) ?_
                first | refine no ?_ | refine go (m_load ty_3) ?_
                first | refine no ?_ | refine go (m_bin) ?_
                refine go (m_pick) ?_
                refine go (m_move) ?_
                first | refine no ?_ | refine go (m_fa ty_79) ?_
                first | refine no ?_ | refine go (m_load ty_3) ?_
                first | refine no ?_ | refine go (m_iaAZ ty_118 ty_3) ?_
                first | refine no ?_ | refine go (m_load ty_3 (hd := ldB (by show 0 + _ * 1 < _; simp; omega))) ?_
                first | refine no ?_ | refine go (m_bin) ?_
                refine go (m_pick) ?_
                refine .nil ⟨by kernel_rfl, ?_⟩
                refine k43 _ ?_
                refine d_condT rfl ?_
                refine d_seq fun K44 k44 => ?_
                refine d_region rfl ?_
                refine go (m_set) ?_
                refine .nil ⟨by kernel_rfl, ?_⟩
                refine k44 _ ?_
                refine d_ret ?_
                change RetD _ _ _ _ _ _ _
                exact fin [] (.tmp (.nil)) (h1 := .f fun h => UqF.notC (p := s.fs[k].nx.toNat) hlt hct (by omega) (by omega) hb h.uq)
              ·
               refine d_region rfl ?_
               refine go (m_fa ty_79) ?_
               refine go (m_load ty_3) ?_
               refine go (m_fa ty_79) ?_
               refine go (m_load ty_3) ?_
               refine go (m_bin) ?_
               refine go (m_move) ?_
               first | refine no ?_ | refine go (m_fa ty_79) ?_
               first | refine no ?_ | refine go (m_load ty_3) ?_
               first | refine no ?_ | refine go (m_fa ty_79) ?_
               first | refine no ?_ | refine go (m_load ty_3) ?_
               first | refine no ?_ | refine go (m_bin) ?_
               refine go (m_pick) ?_
               refine go (m_move) ?_
               first | refine no ?_ | refine go (m_fa ty_79) ?_
               first | refine no ?_ | refine go (m_load ty_3) ?_
               first | refine no ?_ | refine go (m_iaAZ ty_118 ty_3) ?_
               first | refine no ?_ | refine go (m_load ty_3 (hd := ldB (by show 0 + _ * 1 < _; simp; omega))) ?_
               first | refine no ?_ | refine go (m_bin) ?_
               refine go (m_pick) ?_
               refine .nil ⟨by kernel_rfl, ?_⟩
               refine k43 _ ?_
               refine d_condT rfl ?_
               refine d_seq fun K45 k45 => ?_
               refine d_region rfl ?_
               refine go (m_set) ?_
               refine .nil ⟨by kernel_rfl, ?_⟩
               refine k45 _ ?_
               refine d_ret ?_
               change RetD _ _ _ _ _ _ _
               exact fin [] (.tmp (.nil)) (h1 := .f (not_both hlt (fun h => f1 h.2.1) fun h => by have h5 := h.2.2.2.2 s.fs[k].nx.toNat (by omega) (by omega); omega))
             ·
              refine d_region rfl ?_
              refine go (m_fa ty_79) ?_
              refine go (m_load ty_3) ?_
              refine go (m_fa ty_79) ?_
              refine go (m_load ty_3) ?_
              refine go (m_bin) ?_
              refine go (m_move) ?_
              first | refine no ?_ | refine go (m_fa ty_79) ?_
              first | refine no ?_ | refine go (m_load ty_3) ?_
              first | refine no ?_ | refine go (m_fa ty_79) ?_
              first | refine no ?_ | refine go (m_load ty_3) ?_
              first | refine no ?_ | refine go (m_bin) ?_
              refine go (m_pick) ?_
              refine go (m_move) ?_
              first | refine no ?_ | refine go (m_fa ty_79) ?_
              first | refine no ?_ | refine go (m_load ty_3) ?_
              first | refine no ?_ | refine go (m_iaAZ ty_118 ty_3) ?_
              first | refine no ?_ | refine go (m_load ty_3 (hd := ldB (by show 0 + _ * 1 < _; simp; omega))) ?_
              first | refine no ?_ | refine go (m_bin) ?_
              refine go (m_pick) ?_
              refine .nil ⟨by kernel_rfl, ?_⟩
              refine k43 _ ?_
              refine d_condT rfl ?_
              refine d_seq fun K46 k46 => ?_
              refine d_region rfl ?_
              refine go (m_set) ?_
              refine .nil ⟨by kernel_rfl, ?_⟩
              refine k46 _ ?_
              refine d_ret ?_
              change RetD _ _ _ _ _ _ _
              exact fin [] (.tmp (.nil)) (h1 := .f (not_both hlt (fun h => f1 h.2.1) fun h => by have h5 := h.2.2.2.2 s.fs[k].nx.toNat (by omega) (by omega); omega))
           ·
            refine d_region rfl ?_
            refine go (m_load ty_79) ?_
            refine go (m_call ((stamped_d _).t a1)) ?_
            refine go (m_not) ?_
            refine go (m_move) ?_
            first | refine no ?_ | refine go (m_fa ty_79) ?_
            first | refine no ?_ | refine go (m_load ty_3) ?_
            first | refine no ?_ | refine go (m_bin) ?_
            refine go (m_pick) ?_
            refine go (m_move) ?_
            first | refine no ?_ | refine go (m_fa ty_79) ?_
            first | refine no ?_ | refine go (m_load ty_3) ?_
            first | refine no ?_ | refine go (m_move) ?_
            first | refine no ?_ | refine go (m_bin) ?_
            refine go (m_pick) ?_
            refine go (m_move) ?_
            first | refine no ?_ | refine go (m_fa ty_79) ?_
            first | refine no ?_ | refine go (m_load ty_3) ?_
            first | refine no ?_ | refine go (m_move) ?_
            first | refine no ?_ | refine go (m_bin) ?_
            refine go (m_pick) ?_
            refine .nil ⟨by kernel_rfl, ?_⟩
            refine k38 _ ?_
            refine d_condT rfl ?_
            refine d_seq fun K47 k47 => ?_
            refine d_region rfl ?_
            refine go (m_set) ?_
            refine .nil ⟨by kernel_rfl, ?_⟩
            refine k47 _ ?_
            refine d_ret ?_
            change RetD _ _ _ _ _ _ _
            exact fin [] (.tmp (.nil)) (h1 := .f (not_both hlt (fun h => f1 h.2.1) fun h => by have h2 := h.2.1; have h3 := h.2.2.1; have h4 := h.2.2.2.1; omega))
          ·
           refine d_region rfl ?_
           refine go (m_load ty_79) ?_
           refine go (m_call ((stamped_d _).t a1)) ?_
           refine go (m_not) ?_
           refine go (m_move) ?_
           first | refine no ?_ | refine go (m_fa ty_79) ?_
           first | refine no ?_ | refine go (m_load ty_3) ?_
           first | refine no ?_ | refine go (m_bin) ?_
           refine go (m_pick) ?_
           refine go (m_move) ?_
           first | refine no ?_ | refine go (m_fa ty_79) ?_
           first | refine no ?_ | refine go (m_load ty_3) ?_
           first | refine no ?_ | refine go (m_move) ?_
           first | refine no ?_ | refine go (m_bin) ?_
           refine go (m_pick) ?_
           refine go (m_move) ?_
           first | refine no ?_ | refine go (m_fa ty_79) ?_
           first | refine no ?_ | refine go (m_load ty_3) ?_
           first | refine no ?_ | refine go (m_move) ?_
           first | refine no ?_ | refine go (m_bin) ?_
           refine go (m_pick) ?_
           refine .nil ⟨by kernel_rfl, ?_⟩
           refine k38 _ ?_
           refine d_condT rfl ?_
           refine d_seq fun K48 k48 => ?_
           refine d_region rfl ?_
           refine go (m_set) ?_
           refine .nil ⟨by kernel_rfl, ?_⟩
           refine k48 _ ?_
           refine d_ret ?_
           change RetD _ _ _ _ _ _ _
           exact fin [] (.tmp (.nil)) (h1 := .f (not_both hlt (fun h => f1 h.2.1) fun h => by have h2 := h.2.1; have h3 := h.2.2.1; have h4 := h.2.2.2.1; omega))
         ·
          refine d_region rfl ?_
          refine go (m_load ty_79) ?_
          refine go (m_call ((stamped_d _).t a1)) ?_
          refine go (m_not) ?_
          refine go (m_move) ?_
          first | refine no ?_ | refine go (m_fa ty_79) ?_
          first | refine no ?_ | refine go (m_load ty_3) ?_
          first | refine no ?_ | refine go (m_bin) ?_
          refine go (m_pick) ?_
          refine go (m_move) ?_
          first | refine no ?_ | refine go (m_fa ty_79) ?_
          first | refine no ?_ | refine go (m_load ty_3) ?_
          first | refine no ?_ | refine go (m_move) ?_
          first | refine no ?_ | refine go (m_bin) ?_
          refine go (m_pick) ?_
          refine go (m_move) ?_
          first | refine no ?_ | refine go (m_fa ty_79) ?_
          first | refine no ?_ | refine go (m_load ty_3) ?_
          first | refine no ?_ | refine go (m_move) ?_
          first | refine no ?_ | refine go (m_bin) ?_
          refine go (m_pick) ?_
          refine .nil ⟨by kernel_rfl, ?_⟩
          refine k38 _ ?_
          refine d_condT rfl ?_
          refine d_seq fun K49 k49 => ?_
          refine d_region rfl ?_
          refine go (m_set) ?_
          refine .nil ⟨by kernel_rfl, ?_⟩
          refine k49 _ ?_
          refine d_ret ?_
          change RetD _ _ _ _ _ _ _
          exact fin [] (.tmp (.nil)) (h1 := .f (not_both hlt (fun h => f1 h.2.1) fun h => by have h2 := h.2.1; have h3 := h.2.2.1; have h4 := h.2.2.2.1; omega))
        ·
         refine d_region rfl ?_
         refine go (m_load ty_79) ?_
         refine go (m_call ((stamped_d _).f a1)) ?_
         refine go (m_not) ?_
         refine go (m_move) ?_
         first | refine no ?_ | refine go (m_fa ty_79) ?_
         first | refine no ?_ | refine go (m_load ty_3) ?_
         first | refine no ?_ | refine go (m_bin) ?_
         refine go (m_pick) ?_
         refine go (m_move) ?_
         first | refine no ?_ | refine go (m_fa ty_79) ?_
         first | refine no ?_ | refine go (m_load ty_3) ?_
         first | refine no ?_ | refine go (m_move) ?_
         first | refine no ?_ | refine go (m_bin) ?_
         refine go (m_pick) ?_
         refine go (m_move) ?_
         first | refine no ?_ | refine go (m_fa ty_79) ?_
         first | refine no ?_ | refine go (m_load ty_3) ?_
         first | refine no ?_ | refine go (m_move) ?_
         first | refine no ?_ | refine go (m_bin) ?_
         refine go (m_pick) ?_
         refine .nil ⟨by kernel_rfl, ?_⟩
         refine k38 _ ?_
         refine d_condT rfl ?_
         refine d_seq fun K50 k50 => ?_
         refine d_region rfl ?_
         refine go (m_set) ?_
         refine .nil ⟨by kernel_rfl, ?_⟩
         refine k50 _ ?_
         refine d_ret ?_
         change RetD _ _ _ _ _ _ _
         exact fin [] (.tmp (.nil)) (h1 := .f (not_both hlt (fun h => f1 h.2.1) fun h => a1 h.1))
      ·
       refine d_region rfl ?_
       refine go (m_fa ty_79) ?_
       refine go (m_load ty_3) ?_
       refine go (m_bin) ?_
       refine go (m_move) ?_
       first | refine no ?_ | refine go (m_fa ty_79) ?_
       first | refine no ?_ | refine go (m_load ty_3) ?_
       first | refine no ?_ | refine go (m_bin) ?_
       refine go (m_pick) ?_
       refine go (m_move) ?_
       first | refine no ?_ | refine go (m_fa ty_79) ?_
       first | refine no ?_ | refine go (m_load ty_3) ?_
       first | refine no ?_ | refine go (m_bin) ?_
       refine go (m_pick) ?_
       refine .nil ⟨by kernel_rfl, ?_⟩
       refine k13 _ ?_
       refine d_condF rfl ?_
       refine d_skip ?_
       refine k12 _ ?_
       refine d_seq fun K51 k51 => ?_
       refine d_seq fun K52 k52 => ?_
       by_cases a1 : Stp s.fs[k].ow s.fs[k].st
       ·
        by_cases a6 : -1 ≤ s.fs[k].nx
        ·
         by_cases a7 : s.fs[k].nx < s.fs.length
         ·
          by_cases a8 : ¬ s.fs[k].nx = k
          ·
           refine d_region rfl ?_
           refine go (m_load ty_79) ?_
           refine go (m_call ((stamped_d _).t a1)) ?_
           refine go (m_not) ?_
           refine go (m_move) ?_
           first | refine no ?_ | refine go (m_fa ty_79) ?_
           first | refine no ?_ | refine go (m_load ty_3) ?_
           first | refine no ?_ | refine go (m_bin) ?_
           refine go (m_pick) ?_
           refine go (m_move) ?_
           first | refine no ?_ | refine go (m_fa ty_79) ?_
           first | refine no ?_ | refine go (m_load ty_3) ?_
           first | refine no ?_ | refine go (m_move) ?_
           first | refine no ?_ | refine go (m_bin) ?_
           refine go (m_pick) ?_
           refine go (m_move) ?_
           first | refine no ?_ | refine go (m_fa ty_79) ?_
           first | refine no ?_ | refine go (m_load ty_3) ?_
           first | refine no ?_ | refine go (m_move) ?_
           first | refine no ?_ | refine go (m_bin) ?_
           refine go (m_pick) ?_
           refine .nil ⟨by kernel_rfl, ?_⟩
           refine k52 _ ?_
           refine d_condF rfl ?_
           refine d_skip ?_
           refine k51 _ ?_
           refine d_seq fun K53 k53 => ?_
           refine d_seq fun K54 k54 => ?_
           by_cases h5 : s.fs[k].nx = -1
           ·
            refine d_region rfl ?_
            refine go (m_fa ty_79) ?_
            refine go (m_load ty_3) ?_
            refine go (m_bin) ?_
            refine .nil ⟨by kernel_rfl, ?_⟩
            refine k54 _ ?_
            refine d_condT rfl ?_
            refine d_exit ?_
            refine k10 _ ?_
            refine d_region rfl ?_
            refine go (m_bin) ?_
            refine go (m_move) ?_
            refine .nil ⟨by kernel_rfl, ?_⟩
            have hus : UsedF s k s.fs[k] := ⟨a1, a6, a7, a8, fun j hj e => by omega⟩
            exact ⟨(k + 1, c), ⟨by omega, hfm.step hlt (.inr hus), hct.skip hlt (by omega), huq.skip hlt h5⟩, by simp only []; omega, wk [(0, 0), (1, 1)]⟩
           ·
            refine d_region rfl ?_
            refine go (m_fa ty_79) ?_
            refine go (m_load ty_3) ?_
            refine go (m_bin) ?_
            refine .nil ⟨by kernel_rfl, ?_⟩
            refine k54 _ ?_
            refine d_condF rfl ?_
            refine d_skip ?_
            refine k53 _ ?_
            refine d_seq fun K55 k55 => ?_
            refine d_region rfl ?_
            refine go (m_fa ty_25) ?_
            refine go (m_load ty_23) ?_
            refine go (m_fa ty_79) ?_
            refine go (m_load ty_3) ?_
            refine go (m_ia ty_23 ty_79) ?_
            refine go (m_load ty_79) ?_
            refine go (m_alloc ty_79) ?_
            refine go (m_store ty_79) ?_
            refine .nil ⟨by kernel_rfl, ?_⟩
            refine k55 _ ?_
            refine d_seq fun K56 k56 => ?_
            have hcb := (hct.2 s.fs[k].nx.toNat (by omega)).1
            refine d_region rfl ?_
            refine go (m_fa ty_79) ?_
            refine go (m_load ty_3) ?_
            refine go (m_iaAZ ty_118 ty_3) ?_
            refine go (m_load ty_3 (hd := ldA (p := s.fs[k].nx.toNat) (by omega) (by show 0 + _ * 1 = _; omega))) ?_
            refine go (m_bin) ?_
            refine go (m_iaAZ ty_118 ty_3) ?_
            refine go (m_store ty_3 (hc := .box rfl rfl rfl rfl rfl rfl rfl (by show 0 + _ * 1 + 1 ≤ (c.map DI).length; simp; omega))) ?_
            refine .nil ⟨by kernel_rfl, ?_⟩
            refine k56 _ ?_
            refine d_seq fun K57 k57 => ?_
            by_cases ho : s.fs[s.fs[k].nx.toNat].ow = s.fs[k].ow
            ·
             by_cases hst : s.fs[s.fs[k].nx.toNat].st = s.fs[k].st
             ·
              by_cases hb : c[s.fs[k].nx.toNat] = 0
              ·
               refine d_region rfl ?_
               refine go (m_fa ty_79) ?_
               refine go (m_load ty_3) ?_
               refine go (m_fa ty_79) ?_
               refine go (m_load ty_3) ?_
               refine go (m_bin) ?_
               refine go (m_move) ?_
               first | refine no ?_ | refine go (m_fa ty_79) ?_
               first | refine no ?_ | refine go (m_load ty_3) ?_
               first | refine no ?_ | refine go (m_fa ty_79) ?_
               first | refine no ?_ | refine go (m_load ty_3) ?_
               first | refine no ?_ | refine go (m_bin) ?_
               refine go (m_pick) ?_
               refine go (m_move) ?_
               first | refine no ?_ | refine go (m_fa ty_79) ?_
               first | refine no ?_ | refine go (m_load ty_3) ?_
               first | refine no ?_ | refine go (m_iaAZ ty_118 ty_3) ?_
               first | refine no ?_ | refine go (m_load ty_3 (hd := ldB (by show 0 + _ * 1 < _; simp; omega))) ?_
               first | refine no ?_ | refine go (m_bin) ?_
               refine go (m_pick) ?_
               refine .nil ⟨by kernel_rfl, ?_⟩
               refine k57 _ ?_
               refine d_condF rfl ?_
               refine d_skip ?_
               refine k10 _ ?_
               refine d_region rfl ?_
               refine go (m_bin) ?_
               refine go (m_move) ?_
               refine .nil ⟨by kernel_rfl, ?_⟩
               have hla : ∀ j (h : j < s.fs.length), s.fs[k].nx = j → s.fs[j].ow = s.fs[k].ow ∧ s.fs[j].st = s.fs[k].st := fun j hj e => by
                have e2 : j = s.fs[k].nx.toNat := by omega
                subst e2
                exact ⟨ho, hst⟩
               have hus : UsedF s k s.fs[k] := ⟨a1, a6, a7, a8, hla⟩
               have hcs : setCells (c.map DI) (0 + s.fs[k].nx.toNat * 1) [DI (c[s.fs[k].nx.toNat] + 1)] = (c.set s.fs[k].nx.toNat (c[s.fs[k].nx.toNat] + 1)).map DI := by simp [setCells, List.map_set]
               exact ⟨(k + 1, c.set s.fs[k].nx.toNat (c[s.fs[k].nx.toNat] + 1)), ⟨by omega, hfm.step hlt (.inr hus), hct.set hlt (by omega) (by omega) hb, huq.setC (p := s.fs[k].nx.toNat) hlt hct (by omega) (by omega) hb⟩, by simp only []; omega, wk [(0, 0), (1, 1)]⟩
              ·
               refine d_region rfl ?_
               refine go (m_fa ty_79) ?_
               refine go (m_load ty_3) ?_
               refine go (m_fa ty_79) ?_
               refine go (m_load ty_3) ?_
               refine go (m_bin) ?_
               refine go (m_move) ?_
               first | refine no ?_ | refine go (m_fa ty_79) ?_
               first | refine no ?_ | refine go (m_load ty_3) ?_
               first | refine no ?_ | refine go (m_fa ty_79) ?_
               first | refine no ?_ | refine go (m_load ty_3) ?_
               first | refine no ?_ | refine go (m_bin) ?_
               refine go (m_pick) ?_
               refine go (m_move) ?_
               first | refine no ?_ | refine go (m_fa ty_79) ?_
               first | refine no ?_ | refine go (m_load ty_3) ?_
               first | refine no ?_ | refine go (m_iaAZ ty_118 ty_3) ?_
               first | refine no ?_ | refine go (m_load ty_3 (hd := ldB (by show 0 + _ * 1 < _; simp; omega))) ?_
               first | refine no ?_ | refine go (m_bin) ?_
               refine go (m_pick) ?_
               refine .nil ⟨by kernel_rfl, ?_⟩
               refine k57 _ ?_
               refine d_condT rfl ?_
               refine d_seq fun K58 k58 => ?_
               refine d_region rfl ?_
               refine go (m_set) ?_
               refine .nil ⟨by kernel_rfl, ?_⟩
               refine k58 _ ?_
               refine d_ret ?_
               change RetD _ _ _ _ _ _ _
               exact fin [] (.tmp (.nil)) (h1 := .f fun h => UqF.notC (p := s.fs[k].nx.toNat) hlt hct (by omega) (by omega) hb h.uq)
             ·
              refine d_region rfl ?_
              refine go (m_fa ty_79) ?_
              refine go (m_load ty_3) ?_
              refine go (m_fa ty_79) ?_
              refine go (m_load ty_3) ?_
              refine go (m_bin) ?_
              refine go (m_move) ?_
              first | refine no ?_ | refine go (m_fa ty_79) ?_
              first | refine no ?_ | refine go (m_load ty_3) ?_
              first | refine no ?_ | refine go (m_fa ty_79) ?_
              first | refine no ?_ | refine go (m_load ty_3) ?_
              first | refine no ?_ | refine go (m_bin) ?_
              refine go (m_pick) ?_
              refine go (m_move) ?_
              first | refine no ?_ | refine go (m_fa ty_79) ?_
              first | refine no ?_ | refine go (m_load ty_3) ?_
              first | refine no ?_ | refine go (m_iaAZ ty_118 ty_3) ?_
              first | refine no ?_ | refine go (m_load ty_3 (hd := ldB (by show 0 + _ * 1 < _; simp; omega))) ?_
              first | refine no ?_ | refine go (m_bin) ?_
              refine go (m_pick) ?_
              refine .nil ⟨by kernel_rfl, ?_⟩
              refine k57 _ ?_
              refine d_condT rfl ?_
              refine d_seq fun K59 k59 => ?_
              refine d_region rfl ?_
              refine go (m_set) ?_
              refine .nil ⟨by kernel_rfl, ?_⟩
              refine k59 _ ?_
              refine d_ret ?_
              change RetD _ _ _ _ _ _ _
              exact fin [] (.tmp (.nil)) (h1 := .f (not_both hlt (fun h => f0 h.1) fun h => by have h5 := h.2.2.2.2 s.fs[k].nx.toNat (by omega) (by omega); omega))
            ·
             refine d_region rfl ?_
             refine go (m_fa ty_79) ?_
             refine go (m_load ty_3) ?_
             refine go (m_fa ty_79) ?_
             refine go (m_load ty_3) ?_
             refine go (m_bin) ?_
             refine go (m_move) ?_
             first | refine no ?_ | refine go (m_fa ty_79) ?_
             first | refine no ?_ | refine go (m_load ty_3) ?_
             first | refine no ?_ | refine go (m_fa ty_79) ?_
             first | refine no ?_ | refine go (m_load ty_3) ?_
             first | refine no ?_ | refine go (m_bin) ?_
             refine go (m_pick) ?_
             refine go (m_move) ?_
             first | refine no ?_ | refine go (m_fa ty_79) ?_
             first | refine no ?_ | refine go (m_load ty_3) ?_
             first | refine no ?_ | refine go (m_iaAZ ty_118 ty_3) ?_
             first | refine no ?_ | refine go (m_load ty_3 (hd := ldB (by show 0 + _ * 1 < _; simp; omega))) ?_
             first | refine no ?_ | refine go (m_bin) ?_
             refine go (m_pick) ?_
             refine .nil ⟨by kernel_rfl, ?_⟩
             refine k57 _ ?_
             refine d_condT rfl ?_
             refine d_seq fun K60 k60 => ?_
             refine d_region rfl ?_
             refine go (m_set) ?_
             refine .nil ⟨by kernel_rfl, ?_⟩
             refine k60 _ ?_
             refine d_ret ?_
             change RetD _ _ _ _ _ _ _
             exact fin [] (.tmp (.nil)) (h1 := .f (not_both hlt (fun h => f0 h.1) fun h => by have h5 := h.2.2.2.2 s.fs[k].nx.toNat (by omega) (by omega); omega))
          ·
           refine d_region rfl ?_
           refine go (m_load ty_79) ?_
           refine go (m_call ((stamped_d _).t a1)) ?_
           refine go (m_not) ?_
           refine go (m_move) ?_
           first | refine no ?_ | refine go (m_fa ty_79) ?_
           first | refine no ?_ | refine go (m_load ty_3) ?_
           first | refine no ?_ | refine go (m_bin) ?_
           refine go (m_pick) ?_
           refine go (m_move) ?_
           first | refine no ?_ | refine go (m_fa ty_79) ?_
           first | refine no ?_ | refine go (m_load ty_3) ?_
           first | refine no ?_ | refine go (m_move) ?_
           first | refine no ?_ | refine go (m_bin) ?_
           refine go (m_pick) ?_
           refine go (m_move) ?_
           first | refine no ?_ | refine go (m_fa ty_79) ?_
           first | refine no ?_ | refine go (m_load ty_3) ?_
           first | refine no ?_ | refine go (m_move) ?_
           first | refine no ?_ | refine go (m_bin) ?_
           refine go (m_pick) ?_
           refine .nil ⟨by kernel_rfl, ?_⟩
           refine k52 _ ?_
           refine d_condT rfl ?_
           refine d_seq fun K61 k61 => ?_
           refine d_region rfl ?_
           refine go (m_set) ?_
           refine .nil ⟨by kernel_rfl, ?_⟩
           refine k61 _ ?_
           refine d_ret ?_
           change RetD _ _ _ _ _ _ _
           exact fin [] (.tmp (.nil)) (h1 := .f (not_both hlt (fun h => f0 h.1) fun h => by have h2 := h.2.1; have h3 := h.2.2.1; have h4 := h.2.2.2.1; omega))
         ·
          refine d_region rfl ?_
          refine go (m_load ty_79) ?_
          refine go (m_call ((stamped_d _).t a1)) ?_
          refine go (m_not) ?_
          refine go (m_move) ?_
          first | refine no ?_ | refine go (m_fa ty_79) ?_
          first | refine no ?_ | refine go (m_load ty_3) ?_
          first | refine no ?_ | refine go (m_bin) ?_
          refine go (m_pick) ?_
          refine go (m_move) ?_
          first | refine no ?_ | refine go (m_fa ty_79) ?_
          first | refine no ?_ | refine go (m_load ty_3) ?_
          first | refine no ?_ | refine go (m_move) ?_
          first | refine no ?_ | refine go (m_bin) ?_
          refine go (m_pick) ?_
          refine go (m_move) ?_
          first | refine no ?_ | refine go (m_fa ty_79) ?_
          first | refine no ?_ | refine go (m_load ty_3) ?_
          first | refine no ?_ | refine go (m_move) ?_
          first | refine no ?_ | refine go (m_bin) ?_
          refine go (m_pick) ?_
          refine .nil ⟨by kernel_rfl, ?_⟩
          refine k52 _ ?_
          refine d_condT rfl ?_
          refine d_seq fun K62 k62 => ?_
          refine d_region rfl ?_
          refine go (m_set) ?_
          refine .nil ⟨by kernel_rfl, ?_⟩
          refine k62 _ ?_
          refine d_ret ?_
          change RetD _ _ _ _ _ _ _
          exact fin [] (.tmp (.nil)) (h1 := .f (not_both hlt (fun h => f0 h.1) fun h => by have h2 := h.2.1; have h3 := h.2.2.1; have h4 := h.2.2.2.1; omega))
        ·
         refine d_region rfl ?_
         refine go (m_load ty_79) ?_
         refine go (m_call ((stamped_d _).t a1)) ?_
         refine go (m_not) ?_
         refine go (m_move) ?_
         first | refine no ?_ | refine go (m_fa ty_79) ?_
         first | refine no ?_ | refine go (m_load ty_3) ?_
         first | refine no ?_ | refine go (m_bin) ?_
         refine go (m_pick) ?_
         refine go (m_move) ?_
         first | refine no ?_ | refine go (m_fa ty_79) ?_
         first | refine no ?_ | refine go (m_load ty_3) ?_
         first | refine no ?_ | refine go (m_move) ?_
         first | refine no ?_ | refine go (m_bin) ?_
         refine go (m_pick) ?_
         refine go (m_move) ?_
         first | refine no ?_ | refine go (m_fa ty_79) ?_
         first | refine no ?_ | refine go (m_load ty_3) ?_
         first | refine no ?_ | refine go (m_move) ?_
         first | refine no ?_ | refine go (m_bin) ?_
         refine go (m_pick) ?_
         refine .nil ⟨by kernel_rfl, ?_⟩
         refine k52 _ ?_
         refine d_condT rfl ?_
         refine d_seq fun K63 k63 => ?_
         refine d_region rfl ?_
         refine go (m_set) ?_
         refine .nil ⟨by kernel_rfl, ?_⟩
         refine k63 _ ?_
         refine d_ret ?_
         change RetD _ _ _ _ _ _ _
         exact fin [] (.tmp (.nil)) (h1 := .f (not_both hlt (fun h => f0 h.1) fun h => by have h2 := h.2.1; have h3 := h.2.2.1; have h4 := h.2.2.2.1; omega))
       ·
        refine d_region rfl ?_
        refine go (m_load ty_79) ?_
        refine go (m_call ((stamped_d _).f a1)) ?_
        refine go (m_not) ?_
        refine go (m_move) ?_
        first | refine no ?_ | refine go (m_fa ty_79) ?_
        first | refine no ?_ | refine go (m_load ty_3) ?_
        first | refine no ?_ | refine go (m_bin) ?_
        refine go (m_pick) ?_
        refine go (m_move) ?_
        first | refine no ?_ | refine go (m_fa ty_79) ?_
        first | refine no ?_ | refine go (m_load ty_3) ?_
        first | refine no ?_ | refine go (m_move) ?_
        first | refine no ?_ | refine go (m_bin) ?_
        refine go (m_pick) ?_
        refine go (m_move) ?_
        first | refine no ?_ | refine go (m_fa ty_79) ?_
        first | refine no ?_ | refine go (m_load ty_3) ?_
        first | refine no ?_ | refine go (m_move) ?_
        first | refine no ?_ | refine go (m_bin) ?_
        refine go (m_pick) ?_
        refine .nil ⟨by kernel_rfl, ?_⟩
        refine k52 _ ?_
        refine d_condT rfl ?_
        refine d_seq fun K64 k64 => ?_
        refine d_region rfl ?_
        refine go (m_set) ?_
        refine .nil ⟨by kernel_rfl, ?_⟩
        refine k64 _ ?_
        refine d_ret ?_
        change RetD _ _ _ _ _ _ _
        exact fin [] (.tmp (.nil)) (h1 := .f (not_both hlt (fun h => f0 h.1) fun h => a1 h.1))
     ·
      refine d_seq fun K65 k65 => ?_
      refine d_region rfl ?_
      refine go (m_bin) ?_
      refine .nil ⟨by kernel_rfl, ?_⟩
      refine k65 _ ?_
      refine d_seq fun K66 k66 => ?_
      refine d_condF rfl ?_
      refine d_exit ?_
      refine k6 _ ?_
      refine d_seq fun K67 k67 => ?_
      refine d_seq fun K68 k68 => ?_
      have hnx : NxIn s.fs := nxin_of fun i hi => hfm i hi (by omega)
      refine d_region rfl ?_
      refine go (m_fa ty_25) ?_
      refine go (m_load ty_23) ?_
      refine go (m_len ty_23) ?_
      refine go (m_move) ?_
      refine .nil ⟨by kernel_rfl, ?_⟩
      refine k68 _ ?_
      refine d_block ?_
      refine d_loop (α := Nat) (fun i => ⟨[(1, .ptr 0 0 0), (3, DI s.fs.length), (137, DI s.fs.length), (138, DI i)], [(0, ⟨3, false, false, [spC s]⟩)], 1⟩) (fun i => i ≤ s.fs.length ∧ ∀ j, j < i → itF s.fs (s.fs.length + 1) j = -1) (fun i => s.fs.length - i) 0 ⟨by omega, fun j h => by omega⟩ (wk [(0, 0)]) (fun i ⟨hi, hends⟩ => ?_)
      by_cases hlt2 : i < s.fs.length
      ·
       refine d_seq fun K69 k69 => ?_
       refine d_region rfl ?_
       refine go (m_bin) ?_
       refine .nil ⟨by kernel_rfl, ?_⟩
       refine k69 _ ?_
       refine d_seq fun K70 k70 => ?_
       refine d_condT rfl ?_
       refine d_skip ?_
       refine k70 _ ?_
       refine d_seq fun K71 k71 => ?_
       refine d_block ?_
       refine d_seq fun K72 k72 => ?_
       refine d_region rfl ?_
       refine go (m_move) ?_
       refine go (m_set) ?_
       refine .nil ⟨by kernel_rfl, ?_⟩
       refine k72 _ ?_
       refine d_seq fun K73 k73 => ?_
       refine d_region rfl ?_
       refine go (m_move) ?_
       refine go (m_set) ?_
       refine .nil ⟨by kernel_rfl, ?_⟩
       refine k73 _ ?_
       refine d_seq fun K74 k74 => ?_
       refine d_seq fun K75 k75 => ?_
       refine d_region rfl ?_
       refine go (m_set) ?_
       refine .nil ⟨by kernel_rfl, ?_⟩
       refine k75 _ ?_
       refine d_block ?_
       refine d_loop (α := Nat) (fun n => ⟨[(1, .ptr 0 0 0), (3, DI s.fs.length), (10, DI (itF s.fs n i)), (11, DI n), (137, DI s.fs.length), (138, DI i)], [(0, ⟨3, false, false, [spC s]⟩)], 1⟩) (fun n => n ≤ s.fs.length + 1 ∧ (-1 ≤ itF s.fs n i ∧ itF s.fs n i < s.fs.length)) (fun n => s.fs.length + 1 - n) 0 ⟨by omega, by show -1 ≤ (i : Int) ∧ (i : Int) < _; omega⟩ (wk [(0, 0)]) (fun n ⟨hn, hit⟩ => ?_)
       by_cases hn1 : n ≤ s.fs.length
       ·
        by_cases hn2 : ¬ itF s.fs n i = -1
        ·
         refine d_seq fun K76 k76 => ?_
         refine d_seq fun K77 k77 => ?_
         refine d_region rfl ?_
         refine go (m_move) ?_
         refine go (m_move) ?_
         refine go (m_bin) ?_
         refine go (m_move) ?_
         first | refine no ?_ | refine go (m_move) ?_
         first | refine no ?_ | refine go (m_bin) ?_
         refine go (m_pick) ?_
         refine .nil ⟨by kernel_rfl, ?_⟩
         refine k77 _ ?_
         refine d_condT rfl ?_
         refine d_skip ?_
         refine k76 _ ?_
         refine d_seq fun K78 k78 => ?_
         refine d_block ?_
         refine d_region rfl ?_
         refine go (m_fa ty_25) ?_
         refine go (m_load ty_23) ?_
         refine go (m_move) ?_
         refine go (m_ia ty_23 ty_79) ?_
         refine go (m_fa ty_79) ?_
         refine go (m_load ty_3) ?_
         refine go (m_set) ?_
         refine .nil ⟨by kernel_rfl, ?_⟩
         refine k78 _ ?_
         refine d_region rfl ?_
         refine go (m_move) ?_
         refine go (m_bin) ?_
         refine go (m_set) ?_
         refine .nil ⟨by kernel_rfl, ?_⟩
         exact ⟨n + 1, ⟨by omega, hnx.it _ _ (by omega)⟩, by omega, wk [(0, 0)] (h1 := by apply CvE.cons; exact .ptr rfl; apply CvE.cons; exact .lit; apply CvE.cons; exact .litE (by rw [itF_succ]; exact congrArg (Value.int _) (nxF_z (by omega) (by omega)).symm); apply CvE.cons; exact .lit; apply CvE.cons; exact .lit; apply CvE.cons; exact .lit; exact .nil)⟩
        ·
         refine d_seq fun K79 k79 => ?_
         refine d_seq fun K80 k80 => ?_
         refine d_region rfl ?_
         refine go (m_move) ?_
         refine go (m_move) ?_
         refine go (m_bin) ?_
         refine go (m_move) ?_
         first | refine no ?_ | refine go (m_move) ?_
         first | refine no ?_ | refine go (m_bin) ?_
         refine go (m_pick) ?_
         refine .nil ⟨by kernel_rfl, ?_⟩
         refine k80 _ ?_
         refine d_condF rfl ?_
         refine d_exit ?_
         refine k74 _ ?_
         refine d_seq fun K81 k81 => ?_
         by_cases hg : itF s.fs (s.fs.length + 1) i = -1
         ·
          have hgn : itF s.fs n i = -1 ↔ itF s.fs (s.fs.length + 1) i = -1 := by
           by_cases h3 : itF s.fs n i = -1
           ·rw [show s.fs.length + 1 = n + (s.fs.length + 1 - n) by omega, itF_add]
            exact ⟨fun h => itF_neg _ h, fun _ => h3⟩
           ·rw [show s.fs.length + 1 = n by omega]
          refine d_region rfl ?_
          refine go (m_move) ?_
          refine go (m_bin) ?_
          refine .nil ⟨by kernel_rfl, ?_⟩
          refine k81 _ ?_
          refine d_condF rfl ?_
          refine d_skip ?_
          refine k71 _ ?_
          refine d_region rfl ?_
          refine go (m_bin) ?_
          refine go (m_move) ?_
          refine .nil ⟨by kernel_rfl, ?_⟩
          exact ⟨i + 1, ⟨by omega, fun j hj => by by_cases h3 : j = i; (subst h3; exact hg); exact hends j (by omega)⟩, by omega, wk [(0, 0)]⟩
         ·
          have hgn : itF s.fs n i = -1 ↔ itF s.fs (s.fs.length + 1) i = -1 := by
           by_cases h3 : itF s.fs n i = -1
           ·rw [show s.fs.length + 1 = n + (s.fs.length + 1 - n) by omega, itF_add]
            exact ⟨fun h => itF_neg _ h, fun _ => h3⟩
           ·rw [show s.fs.length + 1 = n by omega]
          refine d_region rfl ?_
          refine go (m_move) ?_
          refine go (m_bin) ?_
          refine .nil ⟨by kernel_rfl, ?_⟩
          refine k81 _ ?_
          refine d_condT rfl ?_
          refine d_seq fun K82 k82 => ?_
          refine d_region rfl ?_
          refine go (m_set) ?_
          refine .nil ⟨by kernel_rfl, ?_⟩
          refine k82 _ ?_
          refine d_ret ?_
          change RetD _ _ _ _ _ _ _
          exact fin [] (.tmp (.nil)) (h1 := .f fun h => hg (h.ends _ hlt2))
       ·
        refine d_seq fun K83 k83 => ?_
        refine d_seq fun K84 k84 => ?_
        refine d_region rfl ?_
        refine go (m_move) ?_
        refine go (m_move) ?_
        refine go (m_bin) ?_
        refine go (m_move) ?_
        first | refine no ?_ | refine go (m_move) ?_
        first | refine no ?_ | refine go (m_bin) ?_
        refine go (m_pick) ?_
        refine .nil ⟨by kernel_rfl, ?_⟩
        refine k84 _ ?_
        refine d_condF rfl ?_
        refine d_exit ?_
        refine k74 _ ?_
        refine d_seq fun K85 k85 => ?_
        by_cases hg : itF s.fs (s.fs.length + 1) i = -1
        ·
         have hgn : itF s.fs n i = -1 ↔ itF s.fs (s.fs.length + 1) i = -1 := by
          by_cases h3 : itF s.fs n i = -1
          ·rw [show s.fs.length + 1 = n + (s.fs.length + 1 - n) by omega, itF_add]
           exact ⟨fun h => itF_neg _ h, fun _ => h3⟩
          ·rw [show s.fs.length + 1 = n by omega]
         refine d_region rfl ?_
         refine go (m_move) ?_
         refine go (m_bin) ?_
         refine .nil ⟨by kernel_rfl, ?_⟩
         refine k85 _ ?_
         refine d_condF rfl ?_
         refine d_skip ?_
         refine k71 _ ?_
         refine d_region rfl ?_
         refine go (m_bin) ?_
         refine go (m_move) ?_
         refine .nil ⟨by kernel_rfl, ?_⟩
         exact ⟨i + 1, ⟨by omega, fun j hj => by by_cases h3 : j = i; (subst h3; exact hg); exact hends j (by omega)⟩, by omega, wk [(0, 0)]⟩
        ·
         have hgn : itF s.fs n i = -1 ↔ itF s.fs (s.fs.length + 1) i = -1 := by
          by_cases h3 : itF s.fs n i = -1
          ·rw [show s.fs.length + 1 = n + (s.fs.length + 1 - n) by omega, itF_add]
           exact ⟨fun h => itF_neg _ h, fun _ => h3⟩
          ·rw [show s.fs.length + 1 = n by omega]
         refine d_region rfl ?_
         refine go (m_move) ?_
         refine go (m_bin) ?_
         refine .nil ⟨by kernel_rfl, ?_⟩
         refine k85 _ ?_
         refine d_condT rfl ?_
         refine d_seq fun K86 k86 => ?_
         refine d_region rfl ?_
         refine go (m_set) ?_
         refine .nil ⟨by kernel_rfl, ?_⟩
         refine k86 _ ?_
         refine d_ret ?_
         change RetD _ _ _ _ _ _ _
         exact fin [] (.tmp (.nil)) (h1 := .f fun h => hg (h.ends _ hlt2))
      ·
       refine d_seq fun K87 k87 => ?_
       refine d_region rfl ?_
       refine go (m_bin) ?_
       refine .nil ⟨by kernel_rfl, ?_⟩
       refine k87 _ ?_
       refine d_seq fun K88 k88 => ?_
       refine d_condF rfl ?_
       refine d_exit ?_
       refine k67 _ ?_
       refine d_seq fun K89 k89 => ?_
       refine d_region rfl ?_
       refine go (m_set) ?_
       refine .nil ⟨by kernel_rfl, ?_⟩
       refine k89 _ ?_
       refine d_ret ?_
       change RetD _ _ _ _ _ _ _
       exact fin [] (.tmp (.nil)) (h1 := .t ⟨⟨hsh, h2, h64, hw⟩, fun i hi => hfm i hi (by omega), fun i j hi hj h1 h3 e => huq i j hi hj h1 (by omega) e, fun i hi => hends i (by omega)⟩)
    ·
     refine d_region rfl ?_
     refine go (m_fa ty_25) ?_
     refine go (m_load ty_3) ?_
     refine go (m_call ((rshift_d _).t hsh)) ?_
     refine go (m_not) ?_
     refine go (m_move) ?_
     first | refine no ?_ | refine go (m_move) ?_
     first | refine no ?_ | refine go (m_bin) ?_
     refine go (m_pick) ?_
     refine go (m_move) ?_
     first | refine no ?_ | refine go (m_move) ?_
     first | refine no ?_ | refine go (m_bin) ?_
     refine go (m_pick) ?_
     refine go (m_move) ?_
     first | refine no ?_ | refine go (m_fa ty_25) ?_
     first | refine no ?_ | refine go (m_load ty_22) ?_
     first | refine no ?_ | refine go (m_len ty_22) ?_
     first | refine no ?_ | refine go (m_move) ?_
     first | refine no ?_ | refine go (m_fa ty_25) ?_
     first | refine no ?_ | refine go (m_load ty_3) ?_
     first | refine no ?_ | refine go (m_conv ty_3 ty_66) ?_
     first | refine no ?_ | refine go (m_shA (hr := sh_k hsh _ rfl (by omega))) ?_
     first | refine no ?_ | refine go (m_bin) ?_
     refine go (m_pick) ?_
     refine .nil ⟨by kernel_rfl, ?_⟩
     refine k4 _ ?_
     refine d_condT rfl ?_
     refine d_seq fun K90 k90 => ?_
     refine d_region rfl ?_
     refine go (m_set) ?_
     refine .nil ⟨by kernel_rfl, ?_⟩
     refine k90 _ ?_
     refine d_ret ?_
     change RetD _ _ _ _ _ _ _
     exact fin [] (.tmp (.nil)) (h1 := .f fun h => hw h.shp.wl)
   ·
    refine d_region rfl ?_
    refine go (m_fa ty_25) ?_
    refine go (m_load ty_3) ?_
    refine go (m_call ((rshift_d _).t hsh)) ?_
    refine go (m_not) ?_
    refine go (m_move) ?_
    first | refine no ?_ | refine go (m_move) ?_
    first | refine no ?_ | refine go (m_bin) ?_
    refine go (m_pick) ?_
    refine go (m_move) ?_
    first | refine no ?_ | refine go (m_move) ?_
    first | refine no ?_ | refine go (m_bin) ?_
    refine go (m_pick) ?_
    refine go (m_move) ?_
    first | refine no ?_ | refine go (m_fa ty_25) ?_
    first | refine no ?_ | refine go (m_load ty_22) ?_
    first | refine no ?_ | refine go (m_len ty_22) ?_
    first | refine no ?_ | refine go (m_move) ?_
    first | refine no ?_ | refine go (m_fa ty_25) ?_
    first | refine no ?_ | refine go (m_load ty_3) ?_
    first | refine no ?_ | refine go (m_conv ty_3 ty_66) ?_
    first | refine no ?_ | refine go (m_shA (hr := sh_k hsh _ rfl (by omega))) ?_
    first | refine no ?_ | refine go (m_bin) ?_
    refine go (m_pick) ?_
    refine .nil ⟨by kernel_rfl, ?_⟩
    refine k4 _ ?_
    refine d_condT rfl ?_
    refine d_seq fun K91 k91 => ?_
    refine d_region rfl ?_
    refine go (m_set) ?_
    refine .nil ⟨by kernel_rfl, ?_⟩
    refine k91 _ ?_
    refine d_ret ?_
    change RetD _ _ _ _ _ _ _
    exact fin [] (.tmp (.nil)) (h1 := .f fun h => h64 h.shp.hi)
  ·
   refine d_region rfl ?_
   refine go (m_fa ty_25) ?_
   refine go (m_load ty_3) ?_
   refine go (m_call ((rshift_d _).t hsh)) ?_
   refine go (m_not) ?_
   refine go (m_move) ?_
   first | refine no ?_ | refine go (m_move) ?_
   first | refine no ?_ | refine go (m_bin) ?_
   refine go (m_pick) ?_
   refine go (m_move) ?_
   first | refine no ?_ | refine go (m_move) ?_
   first | refine no ?_ | refine go (m_bin) ?_
   refine go (m_pick) ?_
   refine go (m_move) ?_
   first | refine no ?_ | refine go (m_fa ty_25) ?_
   first | refine no ?_ | refine go (m_load ty_22) ?_
   first | refine no ?_ | refine go (m_len ty_22) ?_
   first | refine no ?_ | refine go (m_move) ?_
   first | refine no ?_ | refine go (m_fa ty_25) ?_
   first | refine no ?_ | refine go (m_load ty_3) ?_
   first | refine no ?_ | refine go (m_conv ty_3 ty_66) ?_
   first | refine no ?_ | refine go (m_shA (hr := sh_k hsh _ rfl (by omega))) ?_
   first | refine no ?_ | refine go (m_bin) ?_
   refine go (m_pick) ?_
   refine .nil ⟨by kernel_rfl, ?_⟩
   refine k4 _ ?_
   refine d_condT rfl ?_
   refine d_seq fun K92 k92 => ?_
   refine d_region rfl ?_
   refine go (m_set) ?_
   refine .nil ⟨by kernel_rfl, ?_⟩
   refine k92 _ ?_
   refine d_ret ?_
   change RetD _ _ _ _ _ _ _
   exact fin [] (.tmp (.nil)) (h1 := .f fun h => h2 h.shp.lo)
 ·
  refine d_region rfl ?_
  refine go (m_fa ty_25) ?_
  refine go (m_load ty_3) ?_
  refine go (m_call ((rshift_d _).f hsh)) ?_
  refine go (m_not) ?_
  refine go (m_move) ?_
  first | refine no ?_ | refine go (m_move) ?_
  first | refine no ?_ | refine go (m_bin) ?_
  refine go (m_pick) ?_
  refine go (m_move) ?_
  first | refine no ?_ | refine go (m_move) ?_
  first | refine no ?_ | refine go (m_bin) ?_
  refine go (m_pick) ?_
  refine go (m_move) ?_
  first | refine no ?_ | refine go (m_fa ty_25) ?_
  first | refine no ?_ | refine go (m_load ty_22) ?_
  first | refine no ?_ | refine go (m_len ty_22) ?_
  first | refine no ?_ | refine go (m_move) ?_
  first | refine no ?_ | refine go (m_fa ty_25) ?_
  first | refine no ?_ | refine go (m_load ty_3) ?_
  first | refine no ?_ | refine go (m_conv ty_3 ty_66) ?_
  first | refine no ?_ | refine go (m_shA (hr := sh_k hsh _ rfl (by omega))) ?_
  first | refine no ?_ | refine go (m_bin) ?_
  refine go (m_pick) ?_
  refine .nil ⟨by kernel_rfl, ?_⟩
  refine k4 _ ?_
  refine d_condT rfl ?_
  refine d_seq fun K93 k93 => ?_
  refine d_region rfl ?_
  refine go (m_set) ?_
  refine .nil ⟨by kernel_rfl, ?_⟩
  refine k93 _ ?_
  refine d_ret ?_
  change RetD _ _ _ _ _ _ _
  exact fin [] (.tmp (.nil)) (h1 := .f fun h => hsh h.shp.sh)

end Go.Proofs.Ytbidedbpmhcoaaa
/- Words behind an address: the program and the reference. No condition. -/
namespace Go.Proofs.Ytbidedbpmhcoaaa
open Go.RowKit
set_option linter.unusedSimpArgs false
set_option linter.unusedVariables false
theorem Cv.t2 {sto : Sto} {ρ : Ren} {x y : Int} {r : Int × Int} (e : r = (x, y)) : Cv sto ρ (.tup [DI x, DI y]) (tup2 r) [] := by subst e; exact .tup (.cons (r := []) (r' := []) .lit (.cons (r := []) (r' := []) .lit .nil))
theorem sh_1 {s : Sp} (hs : ShOk s.sh) : ShI .shl .i64 1 s.sh (.int .i64 (szS s)) := ShI.to (sh_k hs 1 rfl (by omega)) (by rw [Nat.one_mul])
/-- an address's frame -/
theorem sh_f {s : Sp} (hs : ShOk s.sh) {a : Int} {F : Nat} (hF : a / szS s = F) : ShI .shr .i64 a s.sh (.int .i64 F) := by
 obtain ⟨g1, g2, g3, g4, g5⟩ := sz_get hs
 exact ShI.to (.shrZ ⟨g1, by show _ ≤ 64; omega⟩) (by rw [g5]; exact hF)
theorem sh_a {s : Sp} (hs : ShOk s.sh) {a : Int} (h0 : 0 ≤ a) (h1 : a ≤ 9223372036854775807) : BinI .and .i64 a ((szS s : Int) - 1) (.int .i64 (a % szS s)) := by
 obtain ⟨g1, g2, g3, g4, g5⟩ := sz_get hs
 exact .bitsE (.inl rfl) (and_mod h0 h1 (by omega : s.sh.toNat ≤ 8) rfl)
theorem sh_fz {s : Sp} (hs : ShOk s.sh) {f : Int} (h0 : 0 ≤ f) (h1 : f ≤ 4294967296) : ShI .shl .i64 f s.sh (.int .i64 (f * szS s)) := ShI.to (sh_k hs f.toNat (by omega) (by omega)) (by push_cast; rw [Int.toNat_of_nonneg h0])

set_option maxRecDepth 20000 in
set_option maxHeartbeats 4000000 in
theorem step_d (s : Sp) (a k : Int) (hW : SpW s) (ha : I64 a) (hk : I64 k) : DCall Try.prog 52 [spD s, DI a, DI k] [] (tup2 (StepR s a k)) [] := by
 refine DCall.mk Try.func52 rfl rfl ?_
 unfold I64 at ha hk
 refine d_lenA 0 1 fun hLw => ?_
 refine d_seq fun K1 k1 => ?_
 refine d_region rfl ?_
 refine go (m_box ty_25) ?_
 refine go (m_set) ?_
 refine go (m_set) ?_
 refine .nil ⟨by kernel_rfl, ?_⟩
 refine k1 _ ?_
 refine d_seq fun K2 k2 => ?_
 refine d_seq fun K3 k3 => ?_
 by_cases hs : SpOk s
 ·
  refine d_region rfl ?_
  refine go (m_load ty_25) ?_
  refine go (m_call ((valid_d _ hW).t hs)) ?_
  refine go (m_not) ?_
  refine .nil ⟨by kernel_rfl, ?_⟩
  refine k3 _ ?_
  refine d_condF rfl ?_
  refine d_skip ?_
  refine k2 _ ?_
  refine d_seq fun K4 k4 => ?_
  refine d_seq fun K5 k5 => ?_
  by_cases a1 : 0 ≤ a
  ·
   by_cases a2 : a < s.ws.length
   ·
    by_cases a3 : 0 ≤ k
    ·
     refine d_region rfl ?_
     refine go (m_move) ?_
     refine go (m_bin) ?_
     refine go (m_move) ?_
     first | refine no ?_ | refine go (m_move) ?_
     first | refine no ?_ | refine go (m_fa ty_25) ?_
     first | refine no ?_ | refine go (m_load ty_22) ?_
     first | refine no ?_ | refine go (m_len ty_22) ?_
     first | refine no ?_ | refine go (m_bin) ?_
     refine go (m_pick) ?_
     refine go (m_move) ?_
     first | refine no ?_ | refine go (m_move) ?_
     first | refine no ?_ | refine go (m_bin) ?_
     refine go (m_pick) ?_
     refine .nil ⟨by kernel_rfl, ?_⟩
     refine k5 _ ?_
     refine d_condF rfl ?_
     refine d_skip ?_
     refine k4 _ ?_
     refine d_seq fun K6 k6 => ?_
     obtain ⟨g1, g2, g3, g4, g5⟩ := hs.shp.z
     have hsm := hs.shp.small
     obtain ⟨F, hF, hFl⟩ := ad_frame hs.shp a1 a2
     have hnx := hs.nxIn
     have hh := hs.shp.hi
     have hm0 : 0 ≤ a % szS s := Int.emod_nonneg _ (by omega)
     have hm1 : a % szS s < szS s := Int.emod_lt_of_pos _ (by omega)
     refine d_any mixedP rfl (by kernel_rfl) ?_
     refine go (m_move) ?_
     refine go (m_fa ty_25) ?_
     refine go (m_load ty_3) ?_
     refine go (m_conv ty_3 ty_66) ?_
     refine go (m_shA (hr := sh_f hs.shp.sh hF)) ?_
     refine go (m_move) ?_
     refine go (m_load ty_25) ?_
     refine go (m_call (size_d _ hs.shp.sh)) ?_
     refine go (m_bin) ?_
     refine go (m_bin (hr := sh_a hs.shp.sh a1 (by omega))) ?_
     refine go (m_load ty_25) ?_
     refine go (m_call (size_d _ hs.shp.sh)) ?_
     refine go (m_set) ?_
     refine go (m_set) ?_
     refine go (m_set) ?_
     refine .nil ⟨⟨by kernel_rfl, by kernel_rfl⟩, ?_⟩
     refine k6 _ ?_
     refine d_seq fun K7 k7 => ?_
     refine d_seq fun K8 k8 => ?_
     by_cases ho : s.fs[F].ow = -1
     ·
      refine d_region rfl ?_
      refine go (m_load ty_25) ?_
      refine go (m_move) ?_
      refine go (m_call ((free_d s F hFl).t ho)) ?_
      refine .nil ⟨by kernel_rfl, ?_⟩
      refine k8 _ ?_
      refine d_condT rfl ?_
      refine d_seq fun K9 k9 => ?_
      refine d_region rfl ?_
      refine go (m_set) ?_
      refine go (m_set) ?_
      refine .nil ⟨by kernel_rfl, ?_⟩
      refine k9 _ ?_
      refine d_ret ?_
      change RetD _ _ _ _ _ _ _
      exact fin [] (.tmp (.tmp (.nil))) (h1 := .t2 (by rw [StepR_t hs, GoR_in a1 a2 a3, hF, ownF_at hFl, if_pos ho]))
     ·
      refine d_region rfl ?_
      refine go (m_load ty_25) ?_
      refine go (m_move) ?_
      refine go (m_call ((free_d s F hFl).f ho)) ?_
      refine .nil ⟨by kernel_rfl, ?_⟩
      refine k8 _ ?_
      refine d_condF rfl ?_
      refine d_skip ?_
      refine k7 _ ?_
      refine d_seq fun K10 k10 => ?_
      refine d_seq fun K11 k11 => ?_
      by_cases hkw : k ≤ s.ws.length
      ·
       refine d_region rfl ?_
       refine go (m_move) ?_
       refine go (m_fa ty_25) ?_
       refine go (m_load ty_22) ?_
       refine go (m_len ty_22) ?_
       refine go (m_bin) ?_
       refine .nil ⟨by kernel_rfl, ?_⟩
       refine k11 _ ?_
       refine d_condF rfl ?_
       refine d_skip ?_
       refine k10 _ ?_
       refine d_seq fun K12 k12 => ?_
       refine d_seq fun K13 k13 => ?_
       refine d_region rfl ?_
       refine go (m_move) ?_
       refine go (m_move) ?_
       refine go (m_move) ?_
       refine go (m_bin) ?_
       refine go (m_set) ?_
       refine go (m_set) ?_
       refine .nil ⟨by kernel_rfl, ?_⟩
       refine k13 _ ?_
       refine d_block ?_
       refine d_loop (α := Int × Int) (fun x => ⟨[(3, .ptr 0 0 0), (10, DI (szS s)), (11, DI x.1), (12, DI x.2)], [(0, ⟨3, false, false, [spC s]⟩)], 1⟩) (fun x => (-1 ≤ x.1 ∧ x.1 < s.fs.length) ∧ 0 ≤ x.2 ∧ x.2 ≤ 20000 ∧ adv s x.1 x.2 = adv s F (a % szS s + k)) (fun x => x.2.toNat) (F, a % szS s + k) ⟨by simp only []; omega, by simp only []; omega, by simp only []; omega, rfl⟩ (wk [(0, 0)]) (fun ⟨f, n⟩ ⟨⟨hf1, hf2⟩, hn0, hn1, hR⟩ => ?_)
       simp only [] at hf1 hf2 hn0 hn1 hR
       simp only []
       by_cases hf : 0 ≤ f
       ·
        refine d_seq fun K14 k14 => ?_
        refine d_seq fun K15 k15 => ?_
        refine d_region rfl ?_
        refine go (m_move) ?_
        refine go (m_bin) ?_
        refine .nil ⟨by kernel_rfl, ?_⟩
        refine k15 _ ?_
        refine d_condT rfl ?_
        refine d_skip ?_
        refine k14 _ ?_
        refine d_seq fun K16 k16 => ?_
        refine d_block ?_
        refine d_seq fun K17 k17 => ?_
        by_cases hnz : n < szS s
        ·
         refine d_region rfl ?_
         refine go (m_move) ?_
         refine go (m_move) ?_
         refine go (m_bin) ?_
         refine .nil ⟨by kernel_rfl, ?_⟩
         refine k17 _ ?_
         refine d_condT rfl ?_
         refine d_seq fun K18 k18 => ?_
         have hfz : f * szS s ≤ 64 * 256 := Int.mul_le_mul (by omega) (by omega) (by omega) (by omega)
         have hfz0 : 0 ≤ f * szS s := Int.mul_nonneg hf (by omega)
         refine d_region rfl ?_
         refine go (m_move) ?_
         refine go (m_fa ty_25) ?_
         refine go (m_load ty_3) ?_
         refine go (m_conv ty_3 ty_66) ?_
         refine go (m_shA (hr := sh_fz hs.shp.sh hf (by omega))) ?_
         refine go (m_move) ?_
         refine go (m_bin) ?_
         refine go (m_set) ?_
         refine go (m_set) ?_
         refine .nil ⟨by kernel_rfl, ?_⟩
         refine k18 _ ?_
         refine d_ret ?_
         change RetD _ _ _ _ _ _ _
         exact fin [] (.tmp (.tmp (.nil))) (h1 := .t2 (by rw [StepR_t hs, GoR_in a1 a2 a3, hF, ownF_at hFl, if_neg ho, ← hR, adv_lt hf hn0 hnz]))
        ·
         refine d_region rfl ?_
         refine go (m_move) ?_
         refine go (m_move) ?_
         refine go (m_bin) ?_
         refine .nil ⟨by kernel_rfl, ?_⟩
         refine k17 _ ?_
         refine d_condF rfl ?_
         refine d_skip ?_
         refine k16 _ ?_
         refine d_region rfl ?_
         refine go (m_fa ty_25) ?_
         refine go (m_load ty_23) ?_
         refine go (m_move) ?_
         refine go (m_ia ty_23 ty_79) ?_
         refine go (m_fa ty_79) ?_
         refine go (m_load ty_3) ?_
         refine go (m_move) ?_
         refine go (m_move) ?_
         refine go (m_bin) ?_
         refine go (m_set) ?_
         refine go (m_set) ?_
         refine .nil ⟨by kernel_rfl, ?_⟩
         have hfl : f.toNat < s.fs.length := by omega
         have hb := hnx f.toNat hfl
         exact ⟨(s.fs[f.toNat].nx, n - szS s), ⟨hb, by simp only []; omega, by simp only []; omega, by rw [← nxF_z hf hfl, ← adv_ge (by omega) (by omega)]; exact hR⟩, by simp only []; omega, wk [(0, 0)]⟩
       ·
        refine d_seq fun K19 k19 => ?_
        refine d_seq fun K20 k20 => ?_
        refine d_region rfl ?_
        refine go (m_move) ?_
        refine go (m_bin) ?_
        refine .nil ⟨by kernel_rfl, ?_⟩
        refine k20 _ ?_
        refine d_condF rfl ?_
        refine d_exit ?_
        refine k12 _ ?_
        refine d_seq fun K21 k21 => ?_
        refine d_region rfl ?_
        refine go (m_set) ?_
        refine go (m_set) ?_
        refine .nil ⟨by kernel_rfl, ?_⟩
        refine k21 _ ?_
        refine d_ret ?_
        change RetD _ _ _ _ _ _ _
        exact fin [] (.tmp (.tmp (.nil))) (h1 := .t2 (by rw [StepR_t hs, GoR_in a1 a2 a3, hF, ownF_at hFl, if_neg ho, ← hR, adv_neg (by omega)]))
      ·
       refine d_region rfl ?_
       refine go (m_move) ?_
       refine go (m_fa ty_25) ?_
       refine go (m_load ty_22) ?_
       refine go (m_len ty_22) ?_
       refine go (m_bin) ?_
       refine .nil ⟨by kernel_rfl, ?_⟩
       refine k11 _ ?_
       refine d_condT rfl ?_
       refine d_seq fun K22 k22 => ?_
       refine d_region rfl ?_
       refine go (m_set) ?_
       refine go (m_set) ?_
       refine .nil ⟨by kernel_rfl, ?_⟩
       refine k22 _ ?_
       refine d_ret ?_
       change RetD _ _ _ _ _ _ _
       exact fin [] (.tmp (.tmp (.nil))) (h1 := .t2 (by rw [StepR_t hs, GoR_in a1 a2 a3, hF, ownF_at hFl, if_neg ho, adv_end hs hFl (by omega)]))
    ·
     refine d_region rfl ?_
     refine go (m_move) ?_
     refine go (m_bin) ?_
     refine go (m_move) ?_
     first | refine no ?_ | refine go (m_move) ?_
     first | refine no ?_ | refine go (m_fa ty_25) ?_
     first | refine no ?_ | refine go (m_load ty_22) ?_
     first | refine no ?_ | refine go (m_len ty_22) ?_
     first | refine no ?_ | refine go (m_bin) ?_
     refine go (m_pick) ?_
     refine go (m_move) ?_
     first | refine no ?_ | refine go (m_move) ?_
     first | refine no ?_ | refine go (m_bin) ?_
     refine go (m_pick) ?_
     refine .nil ⟨by kernel_rfl, ?_⟩
     refine k5 _ ?_
     refine d_condT rfl ?_
     refine d_seq fun K23 k23 => ?_
     refine d_region rfl ?_
     refine go (m_set) ?_
     refine go (m_set) ?_
     refine .nil ⟨by kernel_rfl, ?_⟩
     refine k23 _ ?_
     refine d_ret ?_
     change RetD _ _ _ _ _ _ _
     exact fin [] (.tmp (.tmp (.nil))) (h1 := .t2 (by rw [StepR_t hs, GoR_out (by omega)]))
   ·
    refine d_region rfl ?_
    refine go (m_move) ?_
    refine go (m_bin) ?_
    refine go (m_move) ?_
    first | refine no ?_ | refine go (m_move) ?_
    first | refine no ?_ | refine go (m_fa ty_25) ?_
    first | refine no ?_ | refine go (m_load ty_22) ?_
    first | refine no ?_ | refine go (m_len ty_22) ?_
    first | refine no ?_ | refine go (m_bin) ?_
    refine go (m_pick) ?_
    refine go (m_move) ?_
    first | refine no ?_ | refine go (m_move) ?_
    first | refine no ?_ | refine go (m_bin) ?_
    refine go (m_pick) ?_
    refine .nil ⟨by kernel_rfl, ?_⟩
    refine k5 _ ?_
    refine d_condT rfl ?_
    refine d_seq fun K24 k24 => ?_
    refine d_region rfl ?_
    refine go (m_set) ?_
    refine go (m_set) ?_
    refine .nil ⟨by kernel_rfl, ?_⟩
    refine k24 _ ?_
    refine d_ret ?_
    change RetD _ _ _ _ _ _ _
    exact fin [] (.tmp (.tmp (.nil))) (h1 := .t2 (by rw [StepR_t hs, GoR_out (by omega)]))
  ·
   refine d_region rfl ?_
   refine go (m_move) ?_
   refine go (m_bin) ?_
   refine go (m_move) ?_
   first | refine no ?_ | refine go (m_move) ?_
   first | refine no ?_ | refine go (m_fa ty_25) ?_
   first | refine no ?_ | refine go (m_load ty_22) ?_
   first | refine no ?_ | refine go (m_len ty_22) ?_
   first | refine no ?_ | refine go (m_bin) ?_
   refine go (m_pick) ?_
   refine go (m_move) ?_
   first | refine no ?_ | refine go (m_move) ?_
   first | refine no ?_ | refine go (m_bin) ?_
   refine go (m_pick) ?_
   refine .nil ⟨by kernel_rfl, ?_⟩
   refine k5 _ ?_
   refine d_condT rfl ?_
   refine d_seq fun K25 k25 => ?_
   refine d_region rfl ?_
   refine go (m_set) ?_
   refine go (m_set) ?_
   refine .nil ⟨by kernel_rfl, ?_⟩
   refine k25 _ ?_
   refine d_ret ?_
   change RetD _ _ _ _ _ _ _
   exact fin [] (.tmp (.tmp (.nil))) (h1 := .t2 (by rw [StepR_t hs, GoR_out (by omega)]))
 ·
  refine d_region rfl ?_
  refine go (m_load ty_25) ?_
  refine go (m_call ((valid_d _ hW).f hs)) ?_
  refine go (m_not) ?_
  refine .nil ⟨by kernel_rfl, ?_⟩
  refine k3 _ ?_
  refine d_condT rfl ?_
  refine d_seq fun K26 k26 => ?_
  refine d_region rfl ?_
  refine go (m_set) ?_
  refine go (m_set) ?_
  refine .nil ⟨by kernel_rfl, ?_⟩
  refine k26 _ ?_
  refine d_ret ?_
  change RetD _ _ _ _ _ _ _
  exact fin [] (.tmp (.tmp (.nil))) (h1 := .t2 (by rw [StepR_f hs]))

set_option maxRecDepth 20000 in
set_option maxHeartbeats 4000000 in
theorem go_d (s : Sp) (a k : Int) (hs : ShpS s) (hn : NxIn s.fs) (ha : I64 a) (hk : I64 k) : DCall Try.prog 44 [spD s, DI a, DI k] [] (tup2 (GoR s a k)) [] := by
 refine DCall.mk Try.func44 rfl rfl ?_
 unfold I64 at ha hk
 refine d_lenA 0 1 fun hLw => ?_
 refine d_seq fun K1 k1 => ?_
 refine d_region rfl ?_
 refine go (m_box ty_25) ?_
 refine go (m_set) ?_
 refine go (m_set) ?_
 refine .nil ⟨by kernel_rfl, ?_⟩
 refine k1 _ ?_
 refine d_seq fun K2 k2 => ?_
 refine d_seq fun K3 k3 => ?_
 by_cases a1 : 0 ≤ a
 ·
  by_cases a2 : a < s.ws.length
  ·
   by_cases a3 : 0 ≤ k
   ·
    refine d_region rfl ?_
    refine go (m_move) ?_
    refine go (m_bin) ?_
    refine go (m_move) ?_
    first | refine no ?_ | refine go (m_move) ?_
    first | refine no ?_ | refine go (m_fa ty_25) ?_
    first | refine no ?_ | refine go (m_load ty_22) ?_
    first | refine no ?_ | refine go (m_len ty_22) ?_
    first | refine no ?_ | refine go (m_bin) ?_
    refine go (m_pick) ?_
    refine go (m_move) ?_
    first | refine no ?_ | refine go (m_move) ?_
    first | refine no ?_ | refine go (m_bin) ?_
    refine go (m_pick) ?_
    refine .nil ⟨by kernel_rfl, ?_⟩
    refine k3 _ ?_
    refine d_condF rfl ?_
    refine d_skip ?_
    refine k2 _ ?_
    refine d_seq fun K4 k4 => ?_
    obtain ⟨g1, g2, g3, g4, g5⟩ := hs.z
    obtain ⟨F, hF, hFl⟩ := ad_frame hs a1 a2
    have hh := hs.hi
    have hm0 : 0 ≤ a % szS s := Int.emod_nonneg _ (by omega)
    have hm1 : a % szS s < szS s := Int.emod_lt_of_pos _ (by omega)
    refine d_any mixedP rfl (by kernel_rfl) ?_
    refine go (m_move) ?_
    refine go (m_fa ty_25) ?_
    refine go (m_load ty_3) ?_
    refine go (m_conv ty_3 ty_66) ?_
    refine go (m_shA (hr := sh_f hs.sh hF)) ?_
    refine go (m_move) ?_
    refine go (m_fa ty_25) ?_
    refine go (m_load ty_3) ?_
    refine go (m_conv ty_3 ty_66) ?_
    refine go (m_shA (hr := sh_1 hs.sh)) ?_
    refine go (m_bin) ?_
    refine go (m_bin (hr := sh_a hs.sh a1 (by omega))) ?_
    refine go (m_set) ?_
    refine go (m_set) ?_
    refine .nil ⟨⟨by kernel_rfl, by kernel_rfl⟩, ?_⟩
    refine k4 _ ?_
    refine d_seq fun K5 k5 => ?_
    refine d_seq fun K6 k6 => ?_
    by_cases ho : s.fs[F].ow = -1
    ·
     refine d_region rfl ?_
     refine go (m_fa ty_25) ?_
     refine go (m_load ty_23) ?_
     refine go (m_move) ?_
     refine go (m_ia ty_23 ty_79) ?_
     refine go (m_fa ty_79) ?_
     refine go (m_load ty_3) ?_
     refine go (m_bin) ?_
     refine .nil ⟨by kernel_rfl, ?_⟩
     refine k6 _ ?_
     refine d_condT rfl ?_
     refine d_seq fun K7 k7 => ?_
     refine d_region rfl ?_
     refine go (m_set) ?_
     refine go (m_set) ?_
     refine .nil ⟨by kernel_rfl, ?_⟩
     refine k7 _ ?_
     refine d_ret ?_
     change RetD _ _ _ _ _ _ _
     exact fin [] (.tmp (.tmp (.nil))) (h1 := .t2 (by rw [GoR_in a1 a2 a3, hF, ownF_at hFl, if_pos ho]))
    ·
     refine d_region rfl ?_
     refine go (m_fa ty_25) ?_
     refine go (m_load ty_23) ?_
     refine go (m_move) ?_
     refine go (m_ia ty_23 ty_79) ?_
     refine go (m_fa ty_79) ?_
     refine go (m_load ty_3) ?_
     refine go (m_bin) ?_
     refine .nil ⟨by kernel_rfl, ?_⟩
     refine k6 _ ?_
     refine d_condF rfl ?_
     refine d_skip ?_
     refine k5 _ ?_
     refine d_seq fun K8 k8 => ?_
     refine d_block ?_
     refine d_loop (α := Int × Int × Int) (fun x => ⟨[(2, DI x.1), (3, .ptr 0 0 0), (8, DI x.2.1), (9, DI x.2.2)], [(0, ⟨3, false, false, [spC s]⟩)], 1⟩) (fun x => (0 ≤ x.2.1 ∧ x.2.1 < s.fs.length) ∧ (0 ≤ x.2.2 ∧ x.2.2 < szS s) ∧ (0 ≤ x.1 ∧ x.1 ≤ k) ∧ adv s x.2.1 (x.2.2 + x.1) = adv s F (a % szS s + k)) (fun x => x.1.toNat) (k, F, a % szS s) ⟨by simp only []; omega, by simp only []; omega, by simp only []; omega, rfl⟩ (wk [(0, 0)]) (fun ⟨n, f, m⟩ ⟨⟨hf1, hf2⟩, ⟨hm2, hm3⟩, ⟨hn0, hn1⟩, hR⟩ => ?_)
     simp only [] at hf1 hf2 hn0 hn1 hm2 hm3 hR
     simp only []
     have hfl : f.toNat < s.fs.length := by omega
     have hb := hn f.toNat hfl
     by_cases hge : szS s - m ≤ n
     ·
      refine d_seq fun K9 k9 => ?_
      refine d_seq fun K10 k10 => ?_
      refine d_region rfl ?_
      refine go (m_move) ?_
      refine go (m_fa ty_25) ?_
      refine go (m_load ty_3) ?_
      refine go (m_conv ty_3 ty_66) ?_
      refine go (m_shA (hr := sh_1 hs.sh)) ?_
      refine go (m_move) ?_
      refine go (m_bin) ?_
      refine go (m_bin) ?_
      refine .nil ⟨by kernel_rfl, ?_⟩
      refine k10 _ ?_
      refine d_condT rfl ?_
      refine d_skip ?_
      refine k9 _ ?_
      refine d_block ?_
      refine d_seq fun K11 k11 => ?_
      refine d_region rfl ?_
      refine go (m_move) ?_
      refine go (m_fa ty_25) ?_
      refine go (m_load ty_3) ?_
      refine go (m_conv ty_3 ty_66) ?_
      refine go (m_shA (hr := sh_1 hs.sh)) ?_
      refine go (m_move) ?_
      refine go (m_bin) ?_
      refine go (m_bin) ?_
      refine go (m_set) ?_
      refine .nil ⟨by kernel_rfl, ?_⟩
      refine k11 _ ?_
      refine d_seq fun K12 k12 => ?_
      refine d_region rfl ?_
      refine go (m_fa ty_25) ?_
      refine go (m_load ty_23) ?_
      refine go (m_move) ?_
      refine go (m_ia ty_23 ty_79) ?_
      refine go (m_fa ty_79) ?_
      refine go (m_load ty_3) ?_
      refine go (m_set) ?_
      refine go (m_set) ?_
      refine .nil ⟨by kernel_rfl, ?_⟩
      refine k12 _ ?_
      refine d_seq fun K13 k13 => ?_
      by_cases hg : s.fs[f.toNat].nx = -1
      ·
       refine d_region rfl ?_
       refine go (m_move) ?_
       refine go (m_bin) ?_
       refine .nil ⟨by kernel_rfl, ?_⟩
       refine k13 _ ?_
       refine d_condT rfl ?_
       refine d_seq fun K14 k14 => ?_
       refine d_region rfl ?_
       refine go (m_set) ?_
       refine go (m_set) ?_
       refine .nil ⟨by kernel_rfl, ?_⟩
       refine k14 _ ?_
       refine d_ret ?_
       change RetD _ _ _ _ _ _ _
       exact fin [] (.tmp (.tmp (.nil))) (h1 := .t2 (by rw [GoR_in a1 a2 a3, hF, ownF_at hFl, if_neg ho, ← hR, adv_ge (by omega) (by omega), nxF_z hf1 hfl, adv_neg hg]))
      ·
       refine d_region rfl ?_
       refine go (m_move) ?_
       refine go (m_bin) ?_
       refine .nil ⟨by kernel_rfl, ?_⟩
       refine k13 _ ?_
       refine d_condF rfl ?_
       refine d_skip ?_
       exact ⟨(n - (szS s - m), s.fs[f.toNat].nx, 0), ⟨by simp only []; omega, by simp only []; omega, by simp only []; omega, by rw [← hR, adv_ge (s := s) (f := f) (n := m + n) (by omega) (by omega), nxF_z hf1 hfl]; simp only []; congr 1; omega⟩, by simp only []; omega, wk [(0, 0)]⟩
     ·
      refine d_seq fun K15 k15 => ?_
      refine d_seq fun K16 k16 => ?_
      refine d_region rfl ?_
      refine go (m_move) ?_
      refine go (m_fa ty_25) ?_
      refine go (m_load ty_3) ?_
      refine go (m_conv ty_3 ty_66) ?_
      refine go (m_shA (hr := sh_1 hs.sh)) ?_
      refine go (m_move) ?_
      refine go (m_bin) ?_
      refine go (m_bin) ?_
      refine .nil ⟨by kernel_rfl, ?_⟩
      refine k16 _ ?_
      refine d_condF rfl ?_
      refine d_exit ?_
      refine k8 _ ?_
      refine d_seq fun K17 k17 => ?_
      have hfz : f * szS s ≤ 64 * 256 := Int.mul_le_mul (by omega) (by omega) (by omega) (by omega)
      have hfz0 : 0 ≤ f * szS s := Int.mul_nonneg hf1 (by omega)
      refine d_region rfl ?_
      refine go (m_move) ?_
      refine go (m_fa ty_25) ?_
      refine go (m_load ty_3) ?_
      refine go (m_conv ty_3 ty_66) ?_
      refine go (m_shA (hr := sh_fz hs.sh hf1 (by omega))) ?_
      refine go (m_move) ?_
      refine go (m_bin) ?_
      refine go (m_move) ?_
      refine go (m_bin) ?_
      refine go (m_set) ?_
      refine go (m_set) ?_
      refine .nil ⟨by kernel_rfl, ?_⟩
      refine k17 _ ?_
      refine d_ret ?_
      change RetD _ _ _ _ _ _ _
      exact fin [] (.tmp (.tmp (.nil))) (h1 := .t2 (by rw [GoR_in a1 a2 a3, hF, ownF_at hFl, if_neg ho, ← hR, adv_lt hf1 (by omega) (by omega), ← Int.add_assoc]))
   ·
    refine d_region rfl ?_
    refine go (m_move) ?_
    refine go (m_bin) ?_
    refine go (m_move) ?_
    first | refine no ?_ | refine go (m_move) ?_
    first | refine no ?_ | refine go (m_fa ty_25) ?_
    first | refine no ?_ | refine go (m_load ty_22) ?_
    first | refine no ?_ | refine go (m_len ty_22) ?_
    first | refine no ?_ | refine go (m_bin) ?_
    refine go (m_pick) ?_
    refine go (m_move) ?_
    first | refine no ?_ | refine go (m_move) ?_
    first | refine no ?_ | refine go (m_bin) ?_
    refine go (m_pick) ?_
    refine .nil ⟨by kernel_rfl, ?_⟩
    refine k3 _ ?_
    refine d_condT rfl ?_
    refine d_seq fun K18 k18 => ?_
    refine d_region rfl ?_
    refine go (m_set) ?_
    refine go (m_set) ?_
    refine .nil ⟨by kernel_rfl, ?_⟩
    refine k18 _ ?_
    refine d_ret ?_
    change RetD _ _ _ _ _ _ _
    exact fin [] (.tmp (.tmp (.nil))) (h1 := .t2 (by rw [GoR_out (by omega)]))
  ·
   refine d_region rfl ?_
   refine go (m_move) ?_
   refine go (m_bin) ?_
   refine go (m_move) ?_
   first | refine no ?_ | refine go (m_move) ?_
   first | refine no ?_ | refine go (m_fa ty_25) ?_
   first | refine no ?_ | refine go (m_load ty_22) ?_
   first | refine no ?_ | refine go (m_len ty_22) ?_
   first | refine no ?_ | refine go (m_bin) ?_
   refine go (m_pick) ?_
   refine go (m_move) ?_
   first | refine no ?_ | refine go (m_move) ?_
   first | refine no ?_ | refine go (m_bin) ?_
   refine go (m_pick) ?_
   refine .nil ⟨by kernel_rfl, ?_⟩
   refine k3 _ ?_
   refine d_condT rfl ?_
   refine d_seq fun K19 k19 => ?_
   refine d_region rfl ?_
   refine go (m_set) ?_
   refine go (m_set) ?_
   refine .nil ⟨by kernel_rfl, ?_⟩
   refine k19 _ ?_
   refine d_ret ?_
   change RetD _ _ _ _ _ _ _
   exact fin [] (.tmp (.tmp (.nil))) (h1 := .t2 (by rw [GoR_out (by omega)]))
 ·
  refine d_region rfl ?_
  refine go (m_move) ?_
  refine go (m_bin) ?_
  refine go (m_move) ?_
  first | refine no ?_ | refine go (m_move) ?_
  first | refine no ?_ | refine go (m_fa ty_25) ?_
  first | refine no ?_ | refine go (m_load ty_22) ?_
  first | refine no ?_ | refine go (m_len ty_22) ?_
  first | refine no ?_ | refine go (m_bin) ?_
  refine go (m_pick) ?_
  refine go (m_move) ?_
  first | refine no ?_ | refine go (m_move) ?_
  first | refine no ?_ | refine go (m_bin) ?_
  refine go (m_pick) ?_
  refine .nil ⟨by kernel_rfl, ?_⟩
  refine k3 _ ?_
  refine d_condT rfl ?_
  refine d_seq fun K20 k20 => ?_
  refine d_region rfl ?_
  refine go (m_set) ?_
  refine go (m_set) ?_
  refine .nil ⟨by kernel_rfl, ?_⟩
  refine k20 _ ?_
  refine d_ret ?_
  change RetD _ _ _ _ _ _ _
  exact fin [] (.tmp (.tmp (.nil))) (h1 := .t2 (by rw [GoR_out (by omega)]))

end Go.Proofs.Ytbidedbpmhcoaaa
/- Headers: the program and the reference. No condition. -/
namespace Go.Proofs.Ytbidedbpmhcoaaa
open Go.RowKit
set_option linter.unusedSimpArgs false
set_option linter.unusedVariables false
theorem Cv.tU {sto : Sto} {ρ : Ren} {x y : Int} {r : Int × Int} (e : r = (x, y)) : Cv sto ρ (.tup [DU x, DI y]) (tupU r) [] := by subst e; exact .tup (.cons (r := []) (r' := []) .lit (.cons (r := []) (r' := []) .lit .nil))
theorem Cv.t5 {sto : Sto} {ρ : Ren} {r d a x : Int} {mv : Bool} {h : Hd} (e : h = ⟨r, d, a, mv, x⟩) : Cv sto ρ (.tup [DI r, DI d, DI a, DB mv, DI x]) (tup5 h) [] := by subst e; exact .tup (.cons (r := []) (r' := []) .lit (.cons (r := []) (r' := []) .lit (.cons (r := []) (r' := []) .lit (.cons (r := []) (r' := []) .lit (.cons (r := []) (r' := []) .lit .nil)))))
section
variable {P : Program} {o : Oper} {env : Env} {sto : Sto} {nxt : Nat}
theorem m_xorV {t : Nat} {x : Operand} {k : IntKind} {p q : Int} (h : k.wrap (BitVec.ofInt k.bits (if k.signed then -1 else k.max) ^^^ BitVec.ofInt k.bits p).toNat = q) (ho : o.op = .unOp .xor t x := by rfl) (hx : opd env x = .lit (.int k p) := by rfl) : OpOK P o env sto nxt ⟨.lit (.int k q), [], [], 0⟩ := h ▸ m_xor ho hx
end
theorem sh_m {n : Nat} (hn : n ≤ 64) : ShI .shl .u64 18446744073709551615 n (.int .u64 ((18446744073709551616 - 2 ^ n : Nat) : Int)) := .raw (by
 simp only [shiftBin]
 rw [if_neg (by omega), Int.toNat_natCast, Nat.min_eq_left (show n ≤ IntKind.u64.bits from hn), mask1 hn])
theorem sh_v {v n : Nat} (hn : n ≤ 64) (h : v * 2 ^ n < 18446744073709551616) : ShI .shl .u64 v n (.int .u64 ((v * 2 ^ n : Nat) : Int)) := ShI.to (.shlu ⟨hn, by rw [show ((v : Int) * 2 ^ n) = ((v * 2 ^ n : Nat) : Int) by push_cast; rfl]; omega⟩) (by push_cast; rfl)
theorem sh_r {v n : Nat} (hn : n ≤ 64) : ShI .shr .u64 v n (.int .u64 ((v / 2 ^ n : Nat) : Int)) := ShI.to (.shr hn) (by push_cast; rfl)

set_option maxRecDepth 20000 in
set_option maxHeartbeats 4000000 in
theorem mask_d (n : Nat) (hn : n ≤ 64) : DCall Try.prog 111 [DI n] [] (DU ((2 ^ n - 1 : Nat) : Int)) [] := by
 refine DCall.mk Try.func111 rfl rfl ?_
 refine d_seq fun K1 k1 => ?_
 refine d_region rfl ?_
 refine go (m_set) ?_
 refine .nil ⟨by kernel_rfl, ?_⟩
 refine k1 _ ?_
 refine d_seq fun K2 k2 => ?_
 refine d_seq fun K3 k3 => ?_
 refine d_region rfl ?_
 refine go (m_move) ?_
 refine go (m_bin) ?_
 refine .nil ⟨by kernel_rfl, ?_⟩
 refine k3 _ ?_
 refine d_condF rfl ?_
 refine d_skip ?_
 refine k2 _ ?_
 refine d_seq fun K4 k4 => ?_
 refine d_region rfl ?_
 refine go (m_move) ?_
 refine go (m_conv ty_3 ty_66) ?_
 refine go (m_shA (hr := sh_m hn)) ?_
 refine go (m_xorV (mask2 hn)) ?_
 refine go (m_set) ?_
 refine .nil ⟨by kernel_rfl, ?_⟩
 refine k4 _ ?_
 refine d_ret ?_
 change RetD _ _ _ _ _ _ _
 exact fin [] (.tmp (.nil))

set_option maxRecDepth 20000 in
set_option maxHeartbeats 4000000 in
theorem bvalid_d (i n : Nat) (h : i + n ≤ 64) : DCall Try.prog 109 [DI i, DI n] [] (DB true) [] := by
 refine DCall.mk Try.func109 rfl rfl ?_
 refine d_seq fun K1 k1 => ?_
 refine d_region rfl ?_
 refine go (m_set) ?_
 refine .nil ⟨by kernel_rfl, ?_⟩
 refine k1 _ ?_
 refine d_seq fun K2 k2 => ?_
 refine d_region rfl ?_
 refine go (m_move) ?_
 refine go (m_bin) ?_
 refine go (m_move) ?_
 first | refine no ?_ | refine go (m_move) ?_
 first | refine no ?_ | refine go (m_bin) ?_
 refine go (m_pick) ?_
 refine go (m_move) ?_
 first | refine no ?_ | refine go (m_move) ?_
 first | refine no ?_ | refine go (m_bin) ?_
 refine go (m_pick) ?_
 refine go (m_move) ?_
 first | refine no ?_ | refine go (m_move) ?_
 first | refine no ?_ | refine go (m_move) ?_
 first | refine no ?_ | refine go (m_bin) ?_
 first | refine no ?_ | refine go (m_bin) ?_
 refine go (m_pick) ?_
 refine go (m_set) ?_
 refine .nil ⟨by kernel_rfl, ?_⟩
 refine k2 _ ?_
 refine d_ret ?_
 change RetD _ _ _ _ _ _ _
 exact fin [] (.tmp (.nil))

set_option maxRecDepth 20000 in
set_option maxHeartbeats 4000000 in
theorem fits_d (v n : Nat) (hn : n ≤ 64) (hv : v < 2 ^ n) : DCall Try.prog 110 [DU v, DI n] [] (DB true) [] := by
 refine DCall.mk Try.func110 rfl rfl ?_
 refine d_seq fun K1 k1 => ?_
 refine d_region rfl ?_
 refine go (m_set) ?_
 refine .nil ⟨by kernel_rfl, ?_⟩
 refine k1 _ ?_
 refine d_seq fun K2 k2 => ?_
 refine d_region rfl ?_
 refine go (m_move) ?_
 refine go (m_move) ?_
 refine go (m_call (mask_d n (by omega))) ?_
 refine go (m_bin (hr := .bitsE (.inr (.inr (.inr rfl))) (not_mask hv hn))) ?_
 refine go (m_bin) ?_
 refine go (m_set) ?_
 refine .nil ⟨by kernel_rfl, ?_⟩
 refine k2 _ ?_
 refine d_ret ?_
 change RetD _ _ _ _ _ _ _
 exact fin [] (.tmp (.nil))

set_option maxRecDepth 20000 in
set_option maxHeartbeats 4000000 in
theorem put_d (x i n v : Nat) (h : i + n ≤ 64) (hx : x < 2 ^ i) (hx2 : x < 18446744073709551616) (hv : v < 2 ^ n) (hv2 : v < 18446744073709551616) (hm : (2 ^ n - 1) * 2 ^ i < 18446744073709551616) (hr : x + v * 2 ^ i < 18446744073709551616) : DCall Try.prog 85 [DU x, DI i, DI n, DU v] [] (tupU (((x + v * 2 ^ i : Nat) : Int), 0)) [] := by
 refine DCall.mk Try.func85 rfl rfl ?_
 refine d_seq fun K1 k1 => ?_
 refine d_region rfl ?_
 refine go (m_set) ?_
 refine go (m_set) ?_
 refine .nil ⟨by kernel_rfl, ?_⟩
 refine k1 _ ?_
 refine d_seq fun K2 k2 => ?_
 refine d_seq fun K3 k3 => ?_
 refine d_region rfl ?_
 refine go (m_move) ?_
 refine go (m_move) ?_
 refine go (m_call (bvalid_d i n (by omega))) ?_
 refine go (m_not) ?_
 refine .nil ⟨by kernel_rfl, ?_⟩
 refine k3 _ ?_
 refine d_condF rfl ?_
 refine d_skip ?_
 refine k2 _ ?_
 refine d_seq fun K4 k4 => ?_
 refine d_seq fun K5 k5 => ?_
 refine d_region rfl ?_
 refine go (m_move) ?_
 refine go (m_move) ?_
 refine go (m_call (fits_d v n (by omega) hv)) ?_
 refine go (m_not) ?_
 refine .nil ⟨by kernel_rfl, ?_⟩
 refine k5 _ ?_
 refine d_condF rfl ?_
 refine d_skip ?_
 refine k4 _ ?_
 refine d_seq fun K6 k6 => ?_
 refine d_region rfl ?_
 refine go (m_move) ?_
 refine go (m_move) ?_
 refine go (m_call (mask_d n (by omega))) ?_
 refine go (m_move) ?_
 refine go (m_conv ty_3 ty_66) ?_
 refine go (m_shA (hr := sh_v (by omega) hm)) ?_
 refine go (m_bin (hr := .bitsE (.inr (.inr (.inr rfl))) (not_lo hx hm hx2))) ?_
 refine go (m_move) ?_
 refine go (m_move) ?_
 refine go (m_conv ty_3 ty_66) ?_
 refine go (m_shA (hr := sh_v (by omega) (by omega))) ?_
 refine go (m_bin (hr := .bitsE (.inr (.inl rfl)) (or_add hx hr hx2))) ?_
 refine go (m_set) ?_
 refine go (m_set) ?_
 refine .nil ⟨by kernel_rfl, ?_⟩
 refine k6 _ ?_
 refine d_ret ?_
 change RetD _ _ _ _ _ _ _
 exact fin [] (.tmp (.tmp (.nil))) (h1 := .tU rfl)

set_option maxRecDepth 20000 in
set_option maxHeartbeats 4000000 in
theorem get_d (x i n : Nat) (h : i + n ≤ 64) (hx2 : x < 18446744073709551616) : DCall Try.prog 112 [DU x, DI i, DI n] [] (tupU (((x / 2 ^ i % 2 ^ n : Nat) : Int), 0)) [] := by
 refine DCall.mk Try.func112 rfl rfl ?_
 refine d_seq fun K1 k1 => ?_
 refine d_region rfl ?_
 refine go (m_set) ?_
 refine go (m_set) ?_
 refine .nil ⟨by kernel_rfl, ?_⟩
 refine k1 _ ?_
 refine d_seq fun K2 k2 => ?_
 refine d_seq fun K3 k3 => ?_
 refine d_region rfl ?_
 refine go (m_move) ?_
 refine go (m_move) ?_
 refine go (m_call (bvalid_d i n (by omega))) ?_
 refine go (m_not) ?_
 refine .nil ⟨by kernel_rfl, ?_⟩
 refine k3 _ ?_
 refine d_condF rfl ?_
 refine d_skip ?_
 refine k2 _ ?_
 refine d_seq fun K4 k4 => ?_
 refine d_region rfl ?_
 refine go (m_move) ?_
 refine go (m_move) ?_
 refine go (m_conv ty_3 ty_66) ?_
 refine go (m_shA (hr := sh_r (by omega))) ?_
 refine go (m_move) ?_
 refine go (m_call (mask_d n (by omega))) ?_
 refine go (m_bin (hr := .bitsE (.inl rfl) (and_mask (Nat.lt_of_le_of_lt (Nat.div_le_self _ _) hx2) (by omega)))) ?_
 refine go (m_set) ?_
 refine go (m_set) ?_
 refine .nil ⟨by kernel_rfl, ?_⟩
 refine k4 _ ?_
 refine d_ret ?_
 change RetD _ _ _ _ _ _ _
 exact fin [] (.tmp (.tmp (.nil))) (h1 := .tU rfl)

set_option maxRecDepth 20000 in
set_option maxHeartbeats 4000000 in
theorem live_d (r d : Int) : DCall Try.prog 51 [DI r, DI d] [] (tupU (LiveR r d)) [] := by
 refine DCall.mk Try.func51 rfl rfl ?_
 refine d_seq fun K1 k1 => ?_
 refine d_region rfl ?_
 refine go (m_set) ?_
 refine go (m_set) ?_
 refine .nil ⟨by kernel_rfl, ?_⟩
 refine k1 _ ?_
 refine d_seq fun K2 k2 => ?_
 refine d_seq fun K3 k3 => ?_
 by_cases a1 : 0 ≤ r
 ·
  by_cases a2 : r ≤ 15
  ·
   by_cases a3 : 0 ≤ d
   ·
    by_cases a4 : d ≤ 32
    ·
     refine d_region rfl ?_
     refine go (m_move) ?_
     refine go (m_bin) ?_
     refine go (m_move) ?_
     first | refine no ?_ | refine go (m_move) ?_
     first | refine no ?_ | refine go (m_bin) ?_
     refine go (m_pick) ?_
     refine go (m_move) ?_
     first | refine no ?_ | refine go (m_move) ?_
     first | refine no ?_ | refine go (m_bin) ?_
     refine go (m_pick) ?_
     refine go (m_move) ?_
     first | refine no ?_ | refine go (m_move) ?_
     first | refine no ?_ | refine go (m_bin) ?_
     refine go (m_pick) ?_
     refine .nil ⟨by kernel_rfl, ?_⟩
     refine k3 _ ?_
     refine d_condF rfl ?_
     refine d_skip ?_
     refine k2 _ ?_
     refine d_seq fun K4 k4 => ?_
     obtain ⟨r, rfl⟩ : ∃ n : Nat, r = n := ⟨r.toNat, by omega⟩
     obtain ⟨d, rfl⟩ : ∃ n : Nat, d = n := ⟨d.toNat, by omega⟩
     refine d_region rfl ?_
     refine go (m_move) ?_
     refine go (m_conv ty_3 ty_50) ?_
     refine go (m_callT (vs := [.int .u64 ((0 + r * 2 ^ 1 : Nat) : Int), .int .i64 0]) (put_d 0 1 7 r (by decide) (by omega) (by omega) (by omega) (by omega) (by decide) (by omega))) ?_
     refine go (m_move) ?_
     refine go (m_ext) ?_
     refine go (m_ext) ?_
     refine go (m_set) ?_
     refine go (m_set) ?_
     refine .nil ⟨by kernel_rfl, ?_⟩
     refine k4 _ ?_
     refine d_seq fun K5 k5 => ?_
     refine d_region rfl ?_
     refine go (m_move) ?_
     refine go (m_move) ?_
     refine go (m_bin) ?_
     refine go (m_move) ?_
     refine go (m_bin) ?_
     refine go (m_conv ty_3 ty_50 (hr := .u64 (by omega))) ?_
     refine go (m_callT (vs := [.int .u64 (((0 + r * 2 ^ 1) + (1 + r + d) * 2 ^ 8 : Nat) : Int), .int .i64 0]) (put_d (0 + r * 2 ^ 1) 8 8 (1 + r + d) (by decide) (by omega) (by omega) (by omega) (by omega) (by decide) (by omega))) ?_
     refine go (m_move) ?_
     refine go (m_ext) ?_
     refine go (m_ext) ?_
     refine go (m_set) ?_
     refine .nil ⟨by kernel_rfl, ?_⟩
     refine k5 _ ?_
     refine d_seq fun K6 k6 => ?_
     refine d_region rfl ?_
     refine go (m_move) ?_
     refine go (m_set) ?_
     refine go (m_set) ?_
     refine .nil ⟨by kernel_rfl, ?_⟩
     refine k6 _ ?_
     refine d_ret ?_
     change RetD _ _ _ _ _ _ _
     exact fin [] (.tmp (.tmp (.nil))) (h1 := .tU ((if_pos ⟨a1, a2, a3, a4⟩).trans (by unfold hdW; congr 1; push_cast; omega)))
    ·
     refine d_region rfl ?_
     refine go (m_move) ?_
     refine go (m_bin) ?_
     refine go (m_move) ?_
     first | refine no ?_ | refine go (m_move) ?_
     first | refine no ?_ | refine go (m_bin) ?_
     refine go (m_pick) ?_
     refine go (m_move) ?_
     first | refine no ?_ | refine go (m_move) ?_
     first | refine no ?_ | refine go (m_bin) ?_
     refine go (m_pick) ?_
     refine go (m_move) ?_
     first | refine no ?_ | refine go (m_move) ?_
     first | refine no ?_ | refine go (m_bin) ?_
     refine go (m_pick) ?_
     refine .nil ⟨by kernel_rfl, ?_⟩
     refine k3 _ ?_
     refine d_condT rfl ?_
     refine d_seq fun K7 k7 => ?_
     refine d_region rfl ?_
     refine go (m_set) ?_
     refine go (m_set) ?_
     refine .nil ⟨by kernel_rfl, ?_⟩
     refine k7 _ ?_
     refine d_ret ?_
     change RetD _ _ _ _ _ _ _
     exact fin [] (.tmp (.tmp (.nil))) (h1 := .tU (if_neg fun h => by unfold HdOk at h; omega))
   ·
    refine d_region rfl ?_
    refine go (m_move) ?_
    refine go (m_bin) ?_
    refine go (m_move) ?_
    first | refine no ?_ | refine go (m_move) ?_
    first | refine no ?_ | refine go (m_bin) ?_
    refine go (m_pick) ?_
    refine go (m_move) ?_
    first | refine no ?_ | refine go (m_move) ?_
    first | refine no ?_ | refine go (m_bin) ?_
    refine go (m_pick) ?_
    refine go (m_move) ?_
    first | refine no ?_ | refine go (m_move) ?_
    first | refine no ?_ | refine go (m_bin) ?_
    refine go (m_pick) ?_
    refine .nil ⟨by kernel_rfl, ?_⟩
    refine k3 _ ?_
    refine d_condT rfl ?_
    refine d_seq fun K8 k8 => ?_
    refine d_region rfl ?_
    refine go (m_set) ?_
    refine go (m_set) ?_
    refine .nil ⟨by kernel_rfl, ?_⟩
    refine k8 _ ?_
    refine d_ret ?_
    change RetD _ _ _ _ _ _ _
    exact fin [] (.tmp (.tmp (.nil))) (h1 := .tU (if_neg fun h => by unfold HdOk at h; omega))
  ·
   refine d_region rfl ?_
   refine go (m_move) ?_
   refine go (m_bin) ?_
   refine go (m_move) ?_
   first | refine no ?_ | refine go (m_move) ?_
   first | refine no ?_ | refine go (m_bin) ?_
   refine go (m_pick) ?_
   refine go (m_move) ?_
   first | refine no ?_ | refine go (m_move) ?_
   first | refine no ?_ | refine go (m_bin) ?_
   refine go (m_pick) ?_
   refine go (m_move) ?_
   first | refine no ?_ | refine go (m_move) ?_
   first | refine no ?_ | refine go (m_bin) ?_
   refine go (m_pick) ?_
   refine .nil ⟨by kernel_rfl, ?_⟩
   refine k3 _ ?_
   refine d_condT rfl ?_
   refine d_seq fun K9 k9 => ?_
   refine d_region rfl ?_
   refine go (m_set) ?_
   refine go (m_set) ?_
   refine .nil ⟨by kernel_rfl, ?_⟩
   refine k9 _ ?_
   refine d_ret ?_
   change RetD _ _ _ _ _ _ _
   exact fin [] (.tmp (.tmp (.nil))) (h1 := .tU (if_neg fun h => by unfold HdOk at h; omega))
 ·
  refine d_region rfl ?_
  refine go (m_move) ?_
  refine go (m_bin) ?_
  refine go (m_move) ?_
  first | refine no ?_ | refine go (m_move) ?_
  first | refine no ?_ | refine go (m_bin) ?_
  refine go (m_pick) ?_
  refine go (m_move) ?_
  first | refine no ?_ | refine go (m_move) ?_
  first | refine no ?_ | refine go (m_bin) ?_
  refine go (m_pick) ?_
  refine go (m_move) ?_
  first | refine no ?_ | refine go (m_move) ?_
  first | refine no ?_ | refine go (m_bin) ?_
  refine go (m_pick) ?_
  refine .nil ⟨by kernel_rfl, ?_⟩
  refine k3 _ ?_
  refine d_condT rfl ?_
  refine d_seq fun K10 k10 => ?_
  refine d_region rfl ?_
  refine go (m_set) ?_
  refine go (m_set) ?_
  refine .nil ⟨by kernel_rfl, ?_⟩
  refine k10 _ ?_
  refine d_ret ?_
  change RetD _ _ _ _ _ _ _
  exact fin [] (.tmp (.tmp (.nil))) (h1 := .tU (if_neg fun h => by unfold HdOk at h; omega))

set_option maxRecDepth 20000 in
set_option maxHeartbeats 4000000 in
theorem rlive_d (r d : Int) : DCall Try.prog 90 [DI r, DI d] [] (tupU (LiveR r d)) [] := by
 refine DCall.mk Try.func90 rfl rfl ?_
 refine d_seq fun K1 k1 => ?_
 refine d_region rfl ?_
 refine go (m_set) ?_
 refine go (m_set) ?_
 refine .nil ⟨by kernel_rfl, ?_⟩
 refine k1 _ ?_
 refine d_seq fun K2 k2 => ?_
 refine d_seq fun K3 k3 => ?_
 by_cases a1 : 0 ≤ r
 ·
  by_cases a2 : r ≤ 15
  ·
   by_cases a3 : 0 ≤ d
   ·
    by_cases a4 : d ≤ 32
    ·
     refine d_region rfl ?_
     refine go (m_move) ?_
     refine go (m_bin) ?_
     refine go (m_move) ?_
     first | refine no ?_ | refine go (m_move) ?_
     first | refine no ?_ | refine go (m_bin) ?_
     refine go (m_pick) ?_
     refine go (m_move) ?_
     first | refine no ?_ | refine go (m_move) ?_
     first | refine no ?_ | refine go (m_bin) ?_
     refine go (m_pick) ?_
     refine go (m_move) ?_
     first | refine no ?_ | refine go (m_move) ?_
     first | refine no ?_ | refine go (m_bin) ?_
     refine go (m_pick) ?_
     refine .nil ⟨by kernel_rfl, ?_⟩
     refine k3 _ ?_
     refine d_condF rfl ?_
     refine d_skip ?_
     refine k2 _ ?_
     refine d_seq fun K4 k4 => ?_
     obtain ⟨r, rfl⟩ : ∃ n : Nat, r = n := ⟨r.toNat, by omega⟩
     obtain ⟨d, rfl⟩ : ∃ n : Nat, d = n := ⟨d.toNat, by omega⟩
     refine d_region rfl ?_
     refine go (m_move) ?_
     refine go (m_bin) ?_
     refine go (m_move) ?_
     refine go (m_bin) ?_
     refine go (m_bin) ?_
     refine go (m_move) ?_
     refine go (m_bin) ?_
     refine go (m_bin) ?_
     refine go (m_conv ty_3 ty_50 (hr := .u64 (by omega))) ?_
     refine go (m_set) ?_
     refine go (m_set) ?_
     refine .nil ⟨by kernel_rfl, ?_⟩
     refine k4 _ ?_
     refine d_ret ?_
     change RetD _ _ _ _ _ _ _
     exact fin [] (.tmp (.tmp (.nil))) (h1 := .tU ((if_pos ⟨a1, a2, a3, a4⟩).trans (by rfl)))
    ·
     refine d_region rfl ?_
     refine go (m_move) ?_
     refine go (m_bin) ?_
     refine go (m_move) ?_
     first | refine no ?_ | refine go (m_move) ?_
     first | refine no ?_ | refine go (m_bin) ?_
     refine go (m_pick) ?_
     refine go (m_move) ?_
     first | refine no ?_ | refine go (m_move) ?_
     first | refine no ?_ | refine go (m_bin) ?_
     refine go (m_pick) ?_
     refine go (m_move) ?_
     first | refine no ?_ | refine go (m_move) ?_
     first | refine no ?_ | refine go (m_bin) ?_
     refine go (m_pick) ?_
     refine .nil ⟨by kernel_rfl, ?_⟩
     refine k3 _ ?_
     refine d_condT rfl ?_
     refine d_seq fun K5 k5 => ?_
     refine d_region rfl ?_
     refine go (m_set) ?_
     refine go (m_set) ?_
     refine .nil ⟨by kernel_rfl, ?_⟩
     refine k5 _ ?_
     refine d_ret ?_
     change RetD _ _ _ _ _ _ _
     exact fin [] (.tmp (.tmp (.nil))) (h1 := .tU (if_neg fun h => by unfold HdOk at h; omega))
   ·
    refine d_region rfl ?_
    refine go (m_move) ?_
    refine go (m_bin) ?_
    refine go (m_move) ?_
    first | refine no ?_ | refine go (m_move) ?_
    first | refine no ?_ | refine go (m_bin) ?_
    refine go (m_pick) ?_
    refine go (m_move) ?_
    first | refine no ?_ | refine go (m_move) ?_
    first | refine no ?_ | refine go (m_bin) ?_
    refine go (m_pick) ?_
    refine go (m_move) ?_
    first | refine no ?_ | refine go (m_move) ?_
    first | refine no ?_ | refine go (m_bin) ?_
    refine go (m_pick) ?_
    refine .nil ⟨by kernel_rfl, ?_⟩
    refine k3 _ ?_
    refine d_condT rfl ?_
    refine d_seq fun K6 k6 => ?_
    refine d_region rfl ?_
    refine go (m_set) ?_
    refine go (m_set) ?_
    refine .nil ⟨by kernel_rfl, ?_⟩
    refine k6 _ ?_
    refine d_ret ?_
    change RetD _ _ _ _ _ _ _
    exact fin [] (.tmp (.tmp (.nil))) (h1 := .tU (if_neg fun h => by unfold HdOk at h; omega))
  ·
   refine d_region rfl ?_
   refine go (m_move) ?_
   refine go (m_bin) ?_
   refine go (m_move) ?_
   first | refine no ?_ | refine go (m_move) ?_
   first | refine no ?_ | refine go (m_bin) ?_
   refine go (m_pick) ?_
   refine go (m_move) ?_
   first | refine no ?_ | refine go (m_move) ?_
   first | refine no ?_ | refine go (m_bin) ?_
   refine go (m_pick) ?_
   refine go (m_move) ?_
   first | refine no ?_ | refine go (m_move) ?_
   first | refine no ?_ | refine go (m_bin) ?_
   refine go (m_pick) ?_
   refine .nil ⟨by kernel_rfl, ?_⟩
   refine k3 _ ?_
   refine d_condT rfl ?_
   refine d_seq fun K7 k7 => ?_
   refine d_region rfl ?_
   refine go (m_set) ?_
   refine go (m_set) ?_
   refine .nil ⟨by kernel_rfl, ?_⟩
   refine k7 _ ?_
   refine d_ret ?_
   change RetD _ _ _ _ _ _ _
   exact fin [] (.tmp (.tmp (.nil))) (h1 := .tU (if_neg fun h => by unfold HdOk at h; omega))
 ·
  refine d_region rfl ?_
  refine go (m_move) ?_
  refine go (m_bin) ?_
  refine go (m_move) ?_
  first | refine no ?_ | refine go (m_move) ?_
  first | refine no ?_ | refine go (m_bin) ?_
  refine go (m_pick) ?_
  refine go (m_move) ?_
  first | refine no ?_ | refine go (m_move) ?_
  first | refine no ?_ | refine go (m_bin) ?_
  refine go (m_pick) ?_
  refine go (m_move) ?_
  first | refine no ?_ | refine go (m_move) ?_
  first | refine no ?_ | refine go (m_bin) ?_
  refine go (m_pick) ?_
  refine .nil ⟨by kernel_rfl, ?_⟩
  refine k3 _ ?_
  refine d_condT rfl ?_
  refine d_seq fun K8 k8 => ?_
  refine d_region rfl ?_
  refine go (m_set) ?_
  refine go (m_set) ?_
  refine .nil ⟨by kernel_rfl, ?_⟩
  refine k8 _ ?_
  refine d_ret ?_
  change RetD _ _ _ _ _ _ _
  exact fin [] (.tmp (.tmp (.nil))) (h1 := .tU (if_neg fun h => by unfold HdOk at h; omega))

end Go.Proofs.Ytbidedbpmhcoaaa
/- Headers are read: the program and the reference. No condition. -/
namespace Go.Proofs.Ytbidedbpmhcoaaa
open Go.RowKit
set_option linter.unusedSimpArgs false
set_option linter.unusedVariables false
set_option maxRecDepth 20000 in
set_option maxHeartbeats 4000000 in
theorem dec_d (x : Nat) (hx : x < 18446744073709551616) : DCall Try.prog 91 [DU x] [] (tup5 (DecR x)) [] := by
 refine DCall.mk Try.func91 rfl rfl ?_
 refine d_seq fun K1 k1 => ?_
 refine d_region rfl ?_
 refine go (m_set) ?_
 refine go (m_set) ?_
 refine go (m_set) ?_
 refine go (m_set) ?_
 refine go (m_set) ?_
 refine .nil ⟨by kernel_rfl, ?_⟩
 refine k1 _ ?_
 refine d_seq fun K2 k2 => ?_
 refine d_seq fun K3 k3 => ?_
 by_cases h1 : x % 2 = 1
 ·
  refine d_region rfl ?_
  refine go (m_move) ?_
  refine go (m_bin (hr := .bitsE (.inl rfl) (show bits BinOp.and IntKind.u64 (x : Int) 1 = ((x % 2 : Nat) : Int) from and_mask (n := 1) hx (by omega)))) ?_
  refine go (m_bin) ?_
  refine .nil ⟨by kernel_rfl, ?_⟩
  refine k3 _ ?_
  refine d_condT rfl ?_
  refine d_seq fun K4 k4 => ?_
  refine d_region rfl ?_
  refine go (m_move) ?_
  refine go (m_callT (vs := [.int .u64 ((x / 2 ^ 1 % 2 ^ 63 : Nat) : Int), .int .i64 0]) (get_d x 1 63 (by decide) hx)) ?_
  refine go (m_move) ?_
  refine go (m_ext) ?_
  refine go (m_ext) ?_
  refine go (m_set) ?_
  refine go (m_set) ?_
  refine .nil ⟨by kernel_rfl, ?_⟩
  refine k4 _ ?_
  refine d_seq fun K5 k5 => ?_
  refine d_seq fun K6 k6 => ?_
  by_cases h2 : 16384 ≤ x / 2
  ·
   refine d_region rfl ?_
   refine go (m_move) ?_
   refine go (m_bin) ?_
   refine .nil ⟨by kernel_rfl, ?_⟩
   refine k6 _ ?_
   refine d_condT rfl ?_
   refine d_seq fun K7 k7 => ?_
   refine d_region rfl ?_
   refine go (m_set) ?_
   refine go (m_set) ?_
   refine go (m_set) ?_
   refine go (m_set) ?_
   refine go (m_set) ?_
   refine .nil ⟨by kernel_rfl, ?_⟩
   refine k7 _ ?_
   refine d_ret ?_
   change RetD _ _ _ _ _ _ _
   exact fin [] (.tmp (.tmp (.tmp (.tmp (.tmp (.nil)))))) (h1 := .t5 (by unfold DecR; rw [if_pos (by omega), if_pos (by omega)]))
  ·
   refine d_region rfl ?_
   refine go (m_move) ?_
   refine go (m_bin) ?_
   refine .nil ⟨by kernel_rfl, ?_⟩
   refine k6 _ ?_
   refine d_condF rfl ?_
   refine d_skip ?_
   refine k5 _ ?_
   refine d_seq fun K8 k8 => ?_
   refine d_region rfl ?_
   refine go (m_move) ?_
   refine go (m_conv ty_50 ty_3) ?_
   refine go (m_set) ?_
   refine go (m_set) ?_
   refine go (m_set) ?_
   refine go (m_set) ?_
   refine go (m_set) ?_
   refine .nil ⟨by kernel_rfl, ?_⟩
   refine k8 _ ?_
   refine d_ret ?_
   change RetD _ _ _ _ _ _ _
   exact fin [] (.tmp (.tmp (.tmp (.tmp (.tmp (.nil)))))) (h1 := .t5 (by unfold DecR; rw [if_pos (by omega), if_neg (by omega)] <;> congr 1 <;> omega))
 ·
  refine d_region rfl ?_
  refine go (m_move) ?_
  refine go (m_bin (hr := .bitsE (.inl rfl) (show bits BinOp.and IntKind.u64 (x : Int) 1 = ((x % 2 : Nat) : Int) from and_mask (n := 1) hx (by omega)))) ?_
  refine go (m_bin) ?_
  refine .nil ⟨by kernel_rfl, ?_⟩
  refine k3 _ ?_
  refine d_condF rfl ?_
  refine d_skip ?_
  refine k2 _ ?_
  refine d_seq fun K9 k9 => ?_
  refine d_region rfl ?_
  refine go (m_move) ?_
  refine go (m_callT (vs := [.int .u64 ((x / 2 ^ 1 % 2 ^ 7 : Nat) : Int), .int .i64 0]) (get_d x 1 7 (by decide) hx)) ?_
  refine go (m_move) ?_
  refine go (m_ext) ?_
  refine go (m_ext) ?_
  refine go (m_set) ?_
  refine go (m_set) ?_
  refine .nil ⟨by kernel_rfl, ?_⟩
  refine k9 _ ?_
  refine d_seq fun K10 k10 => ?_
  refine d_region rfl ?_
  refine go (m_move) ?_
  refine go (m_callT (vs := [.int .u64 ((x / 2 ^ 8 % 2 ^ 56 : Nat) : Int), .int .i64 0]) (get_d x 8 56 (by decide) hx)) ?_
  refine go (m_move) ?_
  refine go (m_ext) ?_
  refine go (m_ext) ?_
  refine go (m_set) ?_
  refine go (m_set) ?_
  refine .nil ⟨by kernel_rfl, ?_⟩
  refine k10 _ ?_
  refine d_seq fun K11 k11 => ?_
  refine d_seq fun K12 k12 => ?_
  by_cases b1 : x % 256 / 2 ≤ 15
  ·
   by_cases b2 : 1 + x % 256 / 2 ≤ x / 256
   ·
    by_cases b3 : x / 256 ≤ 33 + x % 256 / 2
    ·
     refine d_region rfl ?_
     refine go (m_move) ?_
     refine go (m_bin) ?_
     refine go (m_move) ?_
     first | refine no ?_ | refine go (m_move) ?_
     first | refine no ?_ | refine go (m_move) ?_
     first | refine no ?_ | refine go (m_bin) ?_
     first | refine no ?_ | refine go (m_bin) ?_
     refine go (m_pick) ?_
     refine go (m_move) ?_
     first | refine no ?_ | refine go (m_move) ?_
     first | refine no ?_ | refine go (m_move) ?_
     first | refine no ?_ | refine go (m_bin) ?_
     first | refine no ?_ | refine go (m_bin) ?_
     first | refine no ?_ | refine go (m_bin) ?_
     refine go (m_pick) ?_
     refine .nil ⟨by kernel_rfl, ?_⟩
     refine k12 _ ?_
     refine d_condF rfl ?_
     refine d_skip ?_
     refine k11 _ ?_
     refine d_seq fun K13 k13 => ?_
     refine d_region rfl ?_
     refine go (m_move) ?_
     refine go (m_conv ty_50 ty_3) ?_
     refine go (m_move) ?_
     refine go (m_bin) ?_
     refine go (m_move) ?_
     refine go (m_bin) ?_
     refine go (m_conv ty_50 ty_3) ?_
     refine go (m_set) ?_
     refine go (m_set) ?_
     refine go (m_set) ?_
     refine go (m_set) ?_
     refine go (m_set) ?_
     refine .nil ⟨by kernel_rfl, ?_⟩
     refine k13 _ ?_
     refine d_ret ?_
     change RetD _ _ _ _ _ _ _
     exact fin [] (.tmp (.tmp (.tmp (.tmp (.tmp (.nil)))))) (h1 := .t5 (by unfold DecR; rw [if_neg (by omega), if_pos (by omega)] <;> congr 1 <;> omega))
    ·
     refine d_region rfl ?_
     refine go (m_move) ?_
     refine go (m_bin) ?_
     refine go (m_move) ?_
     first | refine no ?_ | refine go (m_move) ?_
     first | refine no ?_ | refine go (m_move) ?_
     first | refine no ?_ | refine go (m_bin) ?_
     first | refine no ?_ | refine go (m_bin) ?_
     refine go (m_pick) ?_
     refine go (m_move) ?_
     first | refine no ?_ | refine go (m_move) ?_
     first | refine no ?_ | refine go (m_move) ?_
     first | refine no ?_ | refine go (m_bin) ?_
     first | refine no ?_ | refine go (m_bin) ?_
     first | refine no ?_ | refine go (m_bin) ?_
     refine go (m_pick) ?_
     refine .nil ⟨by kernel_rfl, ?_⟩
     refine k12 _ ?_
     refine d_condT rfl ?_
     refine d_seq fun K14 k14 => ?_
     refine d_region rfl ?_
     refine go (m_set) ?_
     refine go (m_set) ?_
     refine go (m_set) ?_
     refine go (m_set) ?_
     refine go (m_set) ?_
     refine .nil ⟨by kernel_rfl, ?_⟩
     refine k14 _ ?_
     refine d_ret ?_
     change RetD _ _ _ _ _ _ _
     exact fin [] (.tmp (.tmp (.tmp (.tmp (.tmp (.nil)))))) (h1 := .t5 (by unfold DecR; rw [if_neg (by omega), if_neg (by omega)]))
   ·
    refine d_region rfl ?_
    refine go (m_move) ?_
    refine go (m_bin) ?_
    refine go (m_move) ?_
    first | refine no ?_ | refine go (m_move) ?_
    first | refine no ?_ | refine go (m_move) ?_
    first | refine no ?_ | refine go (m_bin) ?_
    first | refine no ?_ | refine go (m_bin) ?_
    refine go (m_pick) ?_
    refine go (m_move) ?_
    first | refine no ?_ | refine go (m_move) ?_
    first | refine no ?_ | refine go (m_move) ?_
    first | refine no ?_ | refine go (m_bin) ?_
    first | refine no ?_ | refine go (m_bin) ?_
    first | refine no ?_ | refine go (m_bin) ?_
    refine go (m_pick) ?_
    refine .nil ⟨by kernel_rfl, ?_⟩
    refine k12 _ ?_
    refine d_condT rfl ?_
    refine d_seq fun K15 k15 => ?_
    refine d_region rfl ?_
    refine go (m_set) ?_
    refine go (m_set) ?_
    refine go (m_set) ?_
    refine go (m_set) ?_
    refine go (m_set) ?_
    refine .nil ⟨by kernel_rfl, ?_⟩
    refine k15 _ ?_
    refine d_ret ?_
    change RetD _ _ _ _ _ _ _
    exact fin [] (.tmp (.tmp (.tmp (.tmp (.tmp (.nil)))))) (h1 := .t5 (by unfold DecR; rw [if_neg (by omega), if_neg (by omega)]))
  ·
   refine d_region rfl ?_
   refine go (m_move) ?_
   refine go (m_bin) ?_
   refine go (m_move) ?_
   first | refine no ?_ | refine go (m_move) ?_
   first | refine no ?_ | refine go (m_move) ?_
   first | refine no ?_ | refine go (m_bin) ?_
   first | refine no ?_ | refine go (m_bin) ?_
   refine go (m_pick) ?_
   refine go (m_move) ?_
   first | refine no ?_ | refine go (m_move) ?_
   first | refine no ?_ | refine go (m_move) ?_
   first | refine no ?_ | refine go (m_bin) ?_
   first | refine no ?_ | refine go (m_bin) ?_
   first | refine no ?_ | refine go (m_bin) ?_
   refine go (m_pick) ?_
   refine .nil ⟨by kernel_rfl, ?_⟩
   refine k12 _ ?_
   refine d_condT rfl ?_
   refine d_seq fun K16 k16 => ?_
   refine d_region rfl ?_
   refine go (m_set) ?_
   refine go (m_set) ?_
   refine go (m_set) ?_
   refine go (m_set) ?_
   refine go (m_set) ?_
   refine .nil ⟨by kernel_rfl, ?_⟩
   refine k16 _ ?_
   refine d_ret ?_
   change RetD _ _ _ _ _ _ _
   exact fin [] (.tmp (.tmp (.tmp (.tmp (.tmp (.nil)))))) (h1 := .t5 (by unfold DecR; rw [if_neg (by omega), if_neg (by omega)]))

set_option maxRecDepth 20000 in
set_option maxHeartbeats 4000000 in
theorem rdec_d (x : Nat) (hx : x < 18446744073709551616) : DCall Try.prog 92 [DU x] [] (tup5 (DecR x)) [] := by
 refine DCall.mk Try.func92 rfl rfl ?_
 refine d_seq fun K1 k1 => ?_
 refine d_region rfl ?_
 refine go (m_set) ?_
 refine go (m_set) ?_
 refine go (m_set) ?_
 refine go (m_set) ?_
 refine go (m_set) ?_
 refine .nil ⟨by kernel_rfl, ?_⟩
 refine k1 _ ?_
 refine d_seq fun K2 k2 => ?_
 refine d_seq fun K3 k3 => ?_
 by_cases h1 : x % 2 = 1
 ·
  refine d_region rfl ?_
  refine go (m_move) ?_
  refine go (m_bin) ?_
  refine go (m_bin) ?_
  refine .nil ⟨by kernel_rfl, ?_⟩
  refine k3 _ ?_
  refine d_condT rfl ?_
  refine d_seq fun K4 k4 => ?_
  refine d_seq fun K5 k5 => ?_
  by_cases h2 : 16384 ≤ x / 2
  ·
   refine d_region rfl ?_
   refine go (m_move) ?_
   refine go (m_bin (hr := .quo ⟨by omega, by omega, wrapu64_id (by omega)⟩)) ?_
   refine go (m_bin) ?_
   refine .nil ⟨by kernel_rfl, ?_⟩
   refine k5 _ ?_
   refine d_condT rfl ?_
   refine d_seq fun K6 k6 => ?_
   refine d_region rfl ?_
   refine go (m_set) ?_
   refine go (m_set) ?_
   refine go (m_set) ?_
   refine go (m_set) ?_
   refine go (m_set) ?_
   refine .nil ⟨by kernel_rfl, ?_⟩
   refine k6 _ ?_
   refine d_ret ?_
   change RetD _ _ _ _ _ _ _
   exact fin [] (.tmp (.tmp (.tmp (.tmp (.tmp (.nil)))))) (h1 := .t5 (by unfold DecR; rw [if_pos (by omega), if_pos (by omega)]))
  ·
   refine d_region rfl ?_
   refine go (m_move) ?_
   refine go (m_bin (hr := .quo ⟨by omega, by omega, wrapu64_id (by omega)⟩)) ?_
   refine go (m_bin) ?_
   refine .nil ⟨by kernel_rfl, ?_⟩
   refine k5 _ ?_
   refine d_condF rfl ?_
   refine d_skip ?_
   refine k4 _ ?_
   refine d_seq fun K7 k7 => ?_
   refine d_region rfl ?_
   refine go (m_move) ?_
   refine go (m_bin (hr := .quo ⟨by omega, by omega, wrapu64_id (by omega)⟩)) ?_
   refine go (m_conv ty_50 ty_3) ?_
   refine go (m_set) ?_
   refine go (m_set) ?_
   refine go (m_set) ?_
   refine go (m_set) ?_
   refine go (m_set) ?_
   refine .nil ⟨by kernel_rfl, ?_⟩
   refine k7 _ ?_
   refine d_ret ?_
   change RetD _ _ _ _ _ _ _
   exact fin [] (.tmp (.tmp (.tmp (.tmp (.tmp (.nil)))))) (h1 := .t5 (by unfold DecR; rw [if_pos (by omega), if_neg (by omega)] <;> congr 1 <;> omega))
 ·
  refine d_region rfl ?_
  refine go (m_move) ?_
  refine go (m_bin) ?_
  refine go (m_bin) ?_
  refine .nil ⟨by kernel_rfl, ?_⟩
  refine k3 _ ?_
  refine d_condF rfl ?_
  refine d_skip ?_
  refine k2 _ ?_
  refine d_seq fun K8 k8 => ?_
  refine d_region rfl ?_
  refine go (m_move) ?_
  refine go (m_bin) ?_
  refine go (m_bin (hr := .quo ⟨by omega, by omega, wrapu64_id (by omega)⟩)) ?_
  refine go (m_conv ty_50 ty_3) ?_
  refine go (m_move) ?_
  refine go (m_bin (hr := .quo ⟨by omega, by omega, wrapu64_id (by omega)⟩)) ?_
  refine go (m_set) ?_
  refine go (m_set) ?_
  refine .nil ⟨by kernel_rfl, ?_⟩
  refine k8 _ ?_
  refine d_seq fun K9 k9 => ?_
  refine d_seq fun K10 k10 => ?_
  by_cases b0 : x / 256 ≤ 48
  ·
   by_cases b1 : x % 256 / 2 ≤ 15
   ·
    by_cases b2 : 1 + x % 256 / 2 ≤ x / 256
    ·
     by_cases b3 : x / 256 ≤ 33 + x % 256 / 2
     ·
      refine d_region rfl ?_
      refine go (m_move) ?_
      refine go (m_bin) ?_
      refine go (m_move) ?_
      first | refine no ?_ | refine go (m_move) ?_
      first | refine no ?_ | refine go (m_bin) ?_
      refine go (m_pick) ?_
      refine go (m_move) ?_
      first | refine no ?_ | refine go (m_move) ?_
      first | refine no ?_ | refine go (m_conv ty_50 ty_3) ?_
      first | refine no ?_ | refine go (m_move) ?_
      first | refine no ?_ | refine go (m_bin) ?_
      first | refine no ?_ | refine go (m_bin) ?_
      refine go (m_pick) ?_
      refine go (m_move) ?_
      first | refine no ?_ | refine go (m_move) ?_
      first | refine no ?_ | refine go (m_conv ty_50 ty_3) ?_
      first | refine no ?_ | refine go (m_bin) ?_
      first | refine no ?_ | refine go (m_move) ?_
      first | refine no ?_ | refine go (m_bin) ?_
      first | refine no ?_ | refine go (m_bin) ?_
      refine go (m_pick) ?_
      refine .nil ⟨by kernel_rfl, ?_⟩
      refine k10 _ ?_
      refine d_condF rfl ?_
      refine d_skip ?_
      refine k9 _ ?_
      refine d_seq fun K11 k11 => ?_
      refine d_region rfl ?_
      refine go (m_move) ?_
      refine go (m_move) ?_
      refine go (m_conv ty_50 ty_3) ?_
      refine go (m_bin) ?_
      refine go (m_move) ?_
      refine go (m_bin) ?_
      refine go (m_set) ?_
      refine go (m_set) ?_
      refine go (m_set) ?_
      refine go (m_set) ?_
      refine go (m_set) ?_
      refine .nil ⟨by kernel_rfl, ?_⟩
      refine k11 _ ?_
      refine d_ret ?_
      change RetD _ _ _ _ _ _ _
      exact fin [] (.tmp (.tmp (.tmp (.tmp (.tmp (.nil)))))) (h1 := .t5 (by unfold DecR; rw [if_neg (by omega), if_pos (by omega)] <;> congr 1 <;> omega))
     ·
      refine d_region rfl ?_
      refine go (m_move) ?_
      refine go (m_bin) ?_
      refine go (m_move) ?_
      first | refine no ?_ | refine go (m_move) ?_
      first | refine no ?_ | refine go (m_bin) ?_
      refine go (m_pick) ?_
      refine go (m_move) ?_
      first | refine no ?_ | refine go (m_move) ?_
      first | refine no ?_ | refine go (m_conv ty_50 ty_3) ?_
      first | refine no ?_ | refine go (m_move) ?_
      first | refine no ?_ | refine go (m_bin) ?_
      first | refine no ?_ | refine go (m_bin) ?_
      refine go (m_pick) ?_
      refine go (m_move) ?_
      first | refine no ?_ | refine go (m_move) ?_
      first | refine no ?_ | refine go (m_conv ty_50 ty_3) ?_
      first | refine no ?_ | refine go (m_bin) ?_
      first | refine no ?_ | refine go (m_move) ?_
      first | refine no ?_ | refine go (m_bin) ?_
      first | refine no ?_ | refine go (m_bin) ?_
      refine go (m_pick) ?_
      refine .nil ⟨by kernel_rfl, ?_⟩
      refine k10 _ ?_
      refine d_condT rfl ?_
      refine d_seq fun K12 k12 => ?_
      refine d_region rfl ?_
      refine go (m_set) ?_
      refine go (m_set) ?_
      refine go (m_set) ?_
      refine go (m_set) ?_
      refine go (m_set) ?_
      refine .nil ⟨by kernel_rfl, ?_⟩
      refine k12 _ ?_
      refine d_ret ?_
      change RetD _ _ _ _ _ _ _
      exact fin [] (.tmp (.tmp (.tmp (.tmp (.tmp (.nil)))))) (h1 := .t5 (by unfold DecR; rw [if_neg (by omega), if_neg (by omega)]))
    ·
     refine d_region rfl ?_
     refine go (m_move) ?_
     refine go (m_bin) ?_
     refine go (m_move) ?_
     first | refine no ?_ | refine go (m_move) ?_
     first | refine no ?_ | refine go (m_bin) ?_
     refine go (m_pick) ?_
     refine go (m_move) ?_
     first | refine no ?_ | refine go (m_move) ?_
     first | refine no ?_ | refine go (m_conv ty_50 ty_3) ?_
     first | refine no ?_ | refine go (m_move) ?_
     first | refine no ?_ | refine go (m_bin) ?_
     first | refine no ?_ | refine go (m_bin) ?_
     refine go (m_pick) ?_
     refine go (m_move) ?_
     first | refine no ?_ | refine go (m_move) ?_
     first | refine no ?_ | refine go (m_conv ty_50 ty_3) ?_
     first | refine no ?_ | refine go (m_bin) ?_
     first | refine no ?_ | refine go (m_move) ?_
     first | refine no ?_ | refine go (m_bin) ?_
     first | refine no ?_ | refine go (m_bin) ?_
     refine go (m_pick) ?_
     refine .nil ⟨by kernel_rfl, ?_⟩
     refine k10 _ ?_
     refine d_condT rfl ?_
     refine d_seq fun K13 k13 => ?_
     refine d_region rfl ?_
     refine go (m_set) ?_
     refine go (m_set) ?_
     refine go (m_set) ?_
     refine go (m_set) ?_
     refine go (m_set) ?_
     refine .nil ⟨by kernel_rfl, ?_⟩
     refine k13 _ ?_
     refine d_ret ?_
     change RetD _ _ _ _ _ _ _
     exact fin [] (.tmp (.tmp (.tmp (.tmp (.tmp (.nil)))))) (h1 := .t5 (by unfold DecR; rw [if_neg (by omega), if_neg (by omega)]))
   ·
    refine d_region rfl ?_
    refine go (m_move) ?_
    refine go (m_bin) ?_
    refine go (m_move) ?_
    first | refine no ?_ | refine go (m_move) ?_
    first | refine no ?_ | refine go (m_bin) ?_
    refine go (m_pick) ?_
    refine go (m_move) ?_
    first | refine no ?_ | refine go (m_move) ?_
    first | refine no ?_ | refine go (m_conv ty_50 ty_3) ?_
    first | refine no ?_ | refine go (m_move) ?_
    first | refine no ?_ | refine go (m_bin) ?_
    first | refine no ?_ | refine go (m_bin) ?_
    refine go (m_pick) ?_
    refine go (m_move) ?_
    first | refine no ?_ | refine go (m_move) ?_
    first | refine no ?_ | refine go (m_conv ty_50 ty_3) ?_
    first | refine no ?_ | refine go (m_bin) ?_
    first | refine no ?_ | refine go (m_move) ?_
    first | refine no ?_ | refine go (m_bin) ?_
    first | refine no ?_ | refine go (m_bin) ?_
    refine go (m_pick) ?_
    refine .nil ⟨by kernel_rfl, ?_⟩
    refine k10 _ ?_
    refine d_condT rfl ?_
    refine d_seq fun K14 k14 => ?_
    refine d_region rfl ?_
    refine go (m_set) ?_
    refine go (m_set) ?_
    refine go (m_set) ?_
    refine go (m_set) ?_
    refine go (m_set) ?_
    refine .nil ⟨by kernel_rfl, ?_⟩
    refine k14 _ ?_
    refine d_ret ?_
    change RetD _ _ _ _ _ _ _
    exact fin [] (.tmp (.tmp (.tmp (.tmp (.tmp (.nil)))))) (h1 := .t5 (by unfold DecR; rw [if_neg (by omega), if_neg (by omega)]))
  ·
   refine d_region rfl ?_
   refine go (m_move) ?_
   refine go (m_bin) ?_
   refine go (m_move) ?_
   first | refine no ?_ | refine go (m_move) ?_
   first | refine no ?_ | refine go (m_bin) ?_
   refine go (m_pick) ?_
   refine go (m_move) ?_
   first | refine no ?_ | refine go (m_move) ?_
   first | refine no ?_ | refine go (m_conv ty_50 ty_3) ?_
   first | refine no ?_ | refine go (m_move) ?_
   first | refine no ?_ | refine go (m_bin) ?_
   first | refine no ?_ | refine go (m_bin) ?_
   refine go (m_pick) ?_
   refine go (m_move) ?_
   first | refine no ?_ | refine go (m_move) ?_
   first | refine no ?_ | refine go (m_conv ty_50 ty_3) ?_
   first | refine no ?_ | refine go (m_bin) ?_
   first | refine no ?_ | refine go (m_move) ?_
   first | refine no ?_ | refine go (m_bin) ?_
   first | refine no ?_ | refine go (m_bin) ?_
   refine go (m_pick) ?_
   refine .nil ⟨by kernel_rfl, ?_⟩
   refine k10 _ ?_
   refine d_condT rfl ?_
   refine d_seq fun K15 k15 => ?_
   refine d_region rfl ?_
   refine go (m_set) ?_
   refine go (m_set) ?_
   refine go (m_set) ?_
   refine go (m_set) ?_
   refine go (m_set) ?_
   refine .nil ⟨by kernel_rfl, ?_⟩
   refine k15 _ ?_
   refine d_ret ?_
   change RetD _ _ _ _ _ _ _
   exact fin [] (.tmp (.tmp (.tmp (.tmp (.tmp (.nil)))))) (h1 := .t5 (by unfold DecR; rw [if_neg (by omega), if_neg (by omega)]))

end Go.Proofs.Ytbidedbpmhcoaaa
/- Objects are read. No condition. -/
namespace Go.Proofs.Ytbidedbpmhcoaaa
open Go.RowKit
set_option linter.unusedSimpArgs false
set_option linter.unusedVariables false
/-- a decoded object -/
abbrev decC (s : Sp) (a r d : Int) : List DV := [DI s.sh, .sl (s.ws.map uC), .sl (s.fs.map frC), DI a, DI r, DI d]
abbrev dec0 : List DV := [DI 0, DN, DN, DI 0, DI 0, DI 0]
theorem Cv.t3 {sto : Sto} {ρ : Ren} {r d e : Int} {l : Lk} (h : l = ⟨r, d, e⟩) : Cv sto ρ (.tup [DI r, DI d, DI e]) (tup3 l) [] := by subst h; exact .tup (.cons (r := []) (r' := []) .lit (.cons (r := []) (r' := []) .lit (.cons (r := []) (r' := []) .lit .nil)))
theorem I64.zero : I64 0 := by unfold I64; omega
theorem w_nat {s : Sp} (hW : SpW s) {a : Int} (h0 : 0 ≤ a) (h : a.toNat < s.ws.length) : ∃ x : Nat, x < 18446744073709551616 ∧ Value.int .u64 s.ws[a.toNat] = Value.int .u64 (x : Int) ∧ wAt s a = x := by
 have h1 := hW.1 _ (List.getElem_mem h)
 unfold U64 at h1
 exact ⟨(s.ws[a.toNat]).toNat, by omega, congrArg _ (by omega), by rw [wAt_in h0 h]; omega⟩

set_option maxRecDepth 20000 in
set_option maxHeartbeats 4000000 in
theorem read_ok (s : Sp) (a r d : Int) (hW : SpW s) (ha : I64 a) (h : ShapeR s a = ⟨r, d, 0⟩) : DCall Try.prog 58 [spD s, DI a] [] (.tup [.agg (decC s a r d), DI 0]) [] := by
 refine DCall.mk Try.func58 rfl rfl ?_
 obtain ⟨hs, hL, q1, q2, q3, q4, q5⟩ := ShapeR_ok hW h
 obtain ⟨q6, q7, _⟩ := GoR_e q1
 have q8 := q3
 unfold HdOk at q8
 obtain ⟨x, hx, hxv, hxw⟩ := w_nat hW (a := a) q6 (by omega)
 have hD : DecR (x : Int) = ⟨r, d, 0, false, 0⟩ := by rw [← hxw]; exact q2
 have hdc : DCall Try.prog 91 [DU x] [] (tup5 ⟨r, d, 0, false, 0⟩) [] := hD ▸ dec_d x hx
 have hst0 : DCall Try.prog 52 [spD s, DI a, DI 0] [] (tup2 ((GoR s a 0).1, 0)) [] := by have h1 := step_d s a 0 hW ha .zero; rw [StepR_t hs, show GoR s a 0 = ((GoR s a 0).1, 0) from Prod.ext rfl q1] at h1; exact h1
 have hst1 : DCall Try.prog 52 [spD s, DI a, DI (r + d)] [] (tup2 ((GoR s a (r + d)).1, 0)) [] := by have h1 := step_d s a (r + d) hW ha (by unfold I64; omega); rw [StepR_t hs, show GoR s a (r + d) = ((GoR s a (r + d)).1, 0) from Prod.ext rfl q5] at h1; exact h1
 refine d_seq fun K1 k1 => ?_
 refine d_region rfl ?_
 refine go (m_box ty_25) ?_
 refine go (m_alloc ty_88) ?_
 refine go (m_set) ?_
 refine .nil ⟨by kernel_rfl, ?_⟩
 refine k1 _ ?_
 refine d_seq fun K2 k2 => ?_
 refine d_seq fun K3 k3 => ?_
 refine d_region rfl ?_
 refine go (m_load ty_25) ?_
 refine go (m_move) ?_
 refine go (m_callT (vs := [.int .i64 (GoR s a (0)).1, .int .i64 0]) hst0) ?_
 refine go (m_move) ?_
 refine go (m_ext) ?_
 refine go (m_ext) ?_
 refine go (m_set) ?_
 refine go (m_set) ?_
 refine .nil ⟨by kernel_rfl, ?_⟩
 refine k3 _ ?_
 refine d_seq fun K4 k4 => ?_
 refine d_region rfl ?_
 refine go (m_move) ?_
 refine go (m_bin) ?_
 refine .nil ⟨by kernel_rfl, ?_⟩
 refine k4 _ ?_
 refine d_condF rfl ?_
 refine d_skip ?_
 refine k2 _ ?_
 refine d_seq fun K5 k5 => ?_
 refine d_region rfl ?_
 refine go (m_fa ty_25) ?_
 refine go (m_load ty_22) ?_
 refine go (m_move) ?_
 refine go (m_ia ty_22 ty_50) ?_
 refine go (m_load ty_50) ?_
 refine go (m_callT (vs := [.int .i64 r, .int .i64 d, .int .i64 0, .bool false, .int .i64 0]) hdc) ?_
 refine go (m_move) ?_
 refine go (m_ext) ?_
 refine go (m_ext) ?_
 refine go (m_ext) ?_
 refine go (m_ext) ?_
 refine go (m_ext) ?_
 refine go (m_set) ?_
 refine go (m_set) ?_
 refine go (m_set) ?_
 refine go (m_set) ?_
 refine go (m_set) ?_
 refine .nil ⟨by kernel_rfl, ?_⟩
 refine k5 _ ?_
 refine d_seq fun K6 k6 => ?_
 refine d_seq fun K7 k7 => ?_
 refine d_region rfl ?_
 refine go (m_move) ?_
 refine go (m_bin) ?_
 refine go (m_move) ?_
 first | refine no ?_ | refine go (m_move) ?_
 refine go (m_pick) ?_
 refine .nil ⟨by kernel_rfl, ?_⟩
 refine k7 _ ?_
 refine d_condF rfl ?_
 refine d_skip ?_
 refine k6 _ ?_
 refine d_seq fun K8 k8 => ?_
 refine d_seq fun K9 k9 => ?_
 refine d_region rfl ?_
 refine go (m_load ty_25) ?_
 refine go (m_move) ?_
 refine go (m_move) ?_
 refine go (m_move) ?_
 refine go (m_bin) ?_
 refine go (m_callT (vs := [.int .i64 (GoR s a (r + d)).1, .int .i64 0]) hst1) ?_
 refine go (m_move) ?_
 refine go (m_ext) ?_
 refine go (m_ext) ?_
 refine go (m_set) ?_
 refine go (m_set) ?_
 refine .nil ⟨by kernel_rfl, ?_⟩
 refine k9 _ ?_
 refine d_seq fun K10 k10 => ?_
 refine d_region rfl ?_
 refine go (m_move) ?_
 refine go (m_bin) ?_
 refine .nil ⟨by kernel_rfl, ?_⟩
 refine k10 _ ?_
 refine d_condF rfl ?_
 refine d_skip ?_
 refine k8 _ ?_
 refine d_seq fun K11 k11 => ?_
 refine d_region rfl ?_
 refine go (m_load ty_25) ?_
 refine go (m_move) ?_
 refine go (m_move) ?_
 refine go (m_move) ?_
 refine go (m_build ty_88) ?_
 refine go (m_store ty_88) ?_
 refine go (m_set) ?_
 refine .nil ⟨by kernel_rfl, ?_⟩
 refine k11 _ ?_
 refine d_ret ?_
 change RetD _ _ _ _ _ _ _
 exact fin [] (.cell ty_88 rfl rfl rfl rfl (.tmp (.nil)))

theorem shape_e1 {s : Sp} {a e : Int} (h : ShapeR s a = ⟨0, 0, e⟩) (h1 : ¬ (StepR s a 0).2 = 0) : (StepR s a 0).2 = e := by
 by_cases hs : SpOk s
 ·rw [StepR_t hs] at h1 ⊢
  rw [ShapeR_t hs] at h
  unfold LookR at h
  rw [if_pos h1] at h
  injection h
 ·rw [StepR_f hs]
  rw [ShapeR_f hs] at h
  injection h
theorem shape_e2 {s : Sp} {a e : Int} (hs : SpOk s) (h : ShapeR s a = ⟨0, 0, e⟩) (h1 : (GoR s a 0).2 = 0) (h2 : ¬ (DecR (wAt s a)).e = 0 ∨ (DecR (wAt s a)).mv = true) : (12 : Int) = e := by
 rw [ShapeR_t hs] at h
 unfold LookR at h
 rw [if_neg (by simp [h1]), if_pos h2] at h
 injection h
theorem shape_e3 {s : Sp} {a e : Int} (hs : SpOk s) (h : ShapeR s a = ⟨0, 0, e⟩) (h1 : (GoR s a 0).2 = 0) (h2 : (DecR (wAt s a)).e = 0) (h3 : (DecR (wAt s a)).mv = false) (he : ¬ e = 0) (h4 : ¬ (GoR s a ((DecR (wAt s a)).r + (DecR (wAt s a)).d)).2 = 0) : (2 : Int) = e := by
 rw [ShapeR_t hs] at h
 unfold LookR at h
 rw [if_neg (by simp [h1]), if_neg (by simp [h2, h3]), if_pos h4] at h
 injection h
theorem shape_e4 {s : Sp} {a e : Int} (hs : SpOk s) (h : ShapeR s a = ⟨0, 0, e⟩) (h1 : (GoR s a 0).2 = 0) (h2 : (DecR (wAt s a)).e = 0) (h3 : (DecR (wAt s a)).mv = false) (he : ¬ e = 0) : ¬ (GoR s a ((DecR (wAt s a)).r + (DecR (wAt s a)).d)).2 = 0 := fun h4 => by
 rw [ShapeR_t hs] at h
 unfold LookR at h
 rw [if_neg (by simp [h1]), if_neg (by simp [h2, h3]), if_neg (by simp [h4])] at h
 injection h with _ _ h
 exact he h.symm
theorem hd_rng {w : Int} (h0 : 0 ≤ w) (h : (DecR w).e = 0) (hm : (DecR w).mv = false) : HdOk (DecR w).r (DecR w).d := (DecR_ok h0 h hm).2

set_option maxRecDepth 20000 in
set_option maxHeartbeats 4000000 in
theorem read_bad (s : Sp) (a e : Int) (hW : SpW s) (ha : I64 a) (h : ShapeR s a = ⟨0, 0, e⟩) (he : ¬ e = 0) : DCall Try.prog 58 [spD s, DI a] [] (.tup [.agg dec0, DI e]) [] := by
 refine DCall.mk Try.func58 rfl rfl ?_
 refine d_seq fun K1 k1 => ?_
 refine d_region rfl ?_
 refine go (m_box ty_25) ?_
 refine go (m_alloc ty_88) ?_
 refine go (m_set) ?_
 refine .nil ⟨by kernel_rfl, ?_⟩
 refine k1 _ ?_
 refine d_seq fun K2 k2 => ?_
 refine d_seq fun K3 k3 => ?_
 refine d_region rfl ?_
 refine go (m_load ty_25) ?_
 refine go (m_move) ?_
 refine go (m_callT (vs := [.int .i64 (StepR s a (0)).1, .int .i64 (StepR s a (0)).2]) (step_d s a (0) hW ha (by unfold I64; omega))) ?_
 refine go (m_move) ?_
 refine go (m_ext) ?_
 refine go (m_ext) ?_
 refine go (m_set) ?_
 refine go (m_set) ?_
 refine .nil ⟨by kernel_rfl, ?_⟩
 refine k3 _ ?_
 refine d_seq fun K4 k4 => ?_
 by_cases h1 : (StepR s a 0).2 = 0
 ·
  obtain ⟨hs, hg, q1⟩ := StepR_e h1
  obtain ⟨q6, q7, _⟩ := GoR_e q1
  obtain ⟨x, hx, hxv, hxw⟩ := w_nat hW (a := a) q6 (by omega)
  obtain ⟨r, d, A, mv, f, hD⟩ : ∃ r d A mv f, DecR (x : Int) = ⟨r, d, A, mv, f⟩ := ⟨_, _, _, _, _, rfl⟩
  by_cases h2 : f = 0
  ·
   subst h2
   by_cases h3 : mv = false
   ·
    subst h3
    have hh : HdOk r d := by have := hd_rng (w := (x : Int)) (by omega) (by rw [hD]) (by rw [hD]); rw [hD] at this; exact this
    unfold HdOk at hh
    have h4 : ¬ (GoR s a (r + d)).2 = 0 := by have := shape_e4 hs h q1 (by rw [hxw, hD]) (by rw [hxw, hD]) he; rw [hxw, hD] at this; exact this
    have hst1 : DCall Try.prog 52 [spD s, DI a, DI (r + d)] [] (tup2 (GoR s a (r + d))) [] := by have h1 := step_d s a (r + d) hW ha (by unfold I64; omega); rw [StepR_t hs] at h1; exact h1
    have hdc := dec_d x hx
    rw [hD] at hdc
    refine d_region rfl ?_
    refine go (m_move) ?_
    refine go (m_bin) ?_
    refine .nil ⟨by kernel_rfl, ?_⟩
    refine k4 _ ?_
    refine d_condF rfl ?_
    refine d_skip ?_
    refine k2 _ ?_
    refine d_seq fun K5 k5 => ?_
    refine d_region rfl ?_
    refine go (m_fa ty_25) ?_
    refine go (m_load ty_22) ?_
    refine go (m_move) ?_
    refine go (m_ia ty_22 ty_50) ?_
    refine go (m_load ty_50) ?_
    refine go (m_callT (vs := [.int .i64 r, .int .i64 d, .int .i64 A, .bool false, .int .i64 0]) hdc) ?_
    refine go (m_move) ?_
    refine go (m_ext) ?_
    refine go (m_ext) ?_
    refine go (m_ext) ?_
    refine go (m_ext) ?_
    refine go (m_ext) ?_
    refine go (m_set) ?_
    refine go (m_set) ?_
    refine go (m_set) ?_
    refine go (m_set) ?_
    refine go (m_set) ?_
    refine .nil ⟨by kernel_rfl, ?_⟩
    refine k5 _ ?_
    refine d_seq fun K6 k6 => ?_
    refine d_seq fun K7 k7 => ?_
    refine d_region rfl ?_
    refine go (m_move) ?_
    refine go (m_bin) ?_
    refine go (m_move) ?_
    first | refine no ?_ | refine go (m_move) ?_
    refine go (m_pick) ?_
    refine .nil ⟨by kernel_rfl, ?_⟩
    refine k7 _ ?_
    refine d_condF rfl ?_
    refine d_skip ?_
    refine k6 _ ?_
    refine d_seq fun K8 k8 => ?_
    refine d_seq fun K9 k9 => ?_
    refine d_region rfl ?_
    refine go (m_load ty_25) ?_
    refine go (m_move) ?_
    refine go (m_move) ?_
    refine go (m_move) ?_
    refine go (m_bin) ?_
    refine go (m_callT (vs := [.int .i64 (GoR s a (r + d)).1, .int .i64 (GoR s a (r + d)).2]) hst1) ?_
    refine go (m_move) ?_
    refine go (m_ext) ?_
    refine go (m_ext) ?_
    refine go (m_set) ?_
    refine go (m_set) ?_
    refine .nil ⟨by kernel_rfl, ?_⟩
    refine k9 _ ?_
    refine d_seq fun K10 k10 => ?_
    refine d_region rfl ?_
    refine go (m_move) ?_
    refine go (m_bin) ?_
    refine .nil ⟨by kernel_rfl, ?_⟩
    refine k10 _ ?_
    refine d_condT rfl ?_
    refine d_seq fun K11 k11 => ?_
    refine d_region rfl ?_
    refine go (m_build ty_88) ?_
    refine go (m_store ty_88) ?_
    refine go (m_set) ?_
    refine .nil ⟨by kernel_rfl, ?_⟩
    refine k11 _ ?_
    refine d_ret ?_
    change RetD _ _ _ _ _ _ _
    exact fin [] (.cell ty_88 rfl rfl rfl rfl (.tmp (.nil))) (h1 := by apply Cv.tup; apply CvL.cons; apply Cv.agg; apply CvL.cons; exact .lit; apply CvL.cons; exact .lit; apply CvL.cons; exact .lit; apply CvL.cons; exact .lit; apply CvL.cons; exact .lit; apply CvL.cons; exact .lit; exact .nil; apply CvL.cons; exact .litE (congrArg (Value.int _) (shape_e3 hs h q1 (by rw [hxw, hD]) (by rw [hxw, hD]) he (by rw [hxw, hD]; exact h4))); exact .nil)
   ·
    obtain rfl : mv = true := by simpa using h3
    have hdc := dec_d x hx
    rw [hD] at hdc
    refine d_region rfl ?_
    refine go (m_move) ?_
    refine go (m_bin) ?_
    refine .nil ⟨by kernel_rfl, ?_⟩
    refine k4 _ ?_
    refine d_condF rfl ?_
    refine d_skip ?_
    refine k2 _ ?_
    refine d_seq fun K12 k12 => ?_
    refine d_region rfl ?_
    refine go (m_fa ty_25) ?_
    refine go (m_load ty_22) ?_
    refine go (m_move) ?_
    refine go (m_ia ty_22 ty_50) ?_
    refine go (m_load ty_50) ?_
    refine go (m_callT (vs := [.int .i64 r, .int .i64 d, .int .i64 A, .bool true, .int .i64 0]) hdc) ?_
    refine go (m_move) ?_
    refine go (m_ext) ?_
    refine go (m_ext) ?_
    refine go (m_ext) ?_
    refine go (m_ext) ?_
    refine go (m_ext) ?_
    refine go (m_set) ?_
    refine go (m_set) ?_
    refine go (m_set) ?_
    refine go (m_set) ?_
    refine go (m_set) ?_
    refine .nil ⟨by kernel_rfl, ?_⟩
    refine k12 _ ?_
    refine d_seq fun K13 k13 => ?_
    refine d_seq fun K14 k14 => ?_
    refine d_region rfl ?_
    refine go (m_move) ?_
    refine go (m_bin) ?_
    refine go (m_move) ?_
    first | refine no ?_ | refine go (m_move) ?_
    refine go (m_pick) ?_
    refine .nil ⟨by kernel_rfl, ?_⟩
    refine k14 _ ?_
    refine d_condT rfl ?_
    refine d_seq fun K15 k15 => ?_
    refine d_region rfl ?_
    refine go (m_build ty_88) ?_
    refine go (m_store ty_88) ?_
    refine go (m_set) ?_
    refine .nil ⟨by kernel_rfl, ?_⟩
    refine k15 _ ?_
    refine d_ret ?_
    change RetD _ _ _ _ _ _ _
    exact fin [] (.cell ty_88 rfl rfl rfl rfl (.tmp (.nil))) (h1 := by apply Cv.tup; apply CvL.cons; apply Cv.agg; apply CvL.cons; exact .lit; apply CvL.cons; exact .lit; apply CvL.cons; exact .lit; apply CvL.cons; exact .lit; apply CvL.cons; exact .lit; apply CvL.cons; exact .lit; exact .nil; apply CvL.cons; exact .litE (congrArg (Value.int _) (shape_e2 hs h q1 (by rw [hxw, hD]; exact .inr rfl))); exact .nil)
  ·
   have hdc := dec_d x hx
   rw [hD] at hdc
   refine d_region rfl ?_
   refine go (m_move) ?_
   refine go (m_bin) ?_
   refine .nil ⟨by kernel_rfl, ?_⟩
   refine k4 _ ?_
   refine d_condF rfl ?_
   refine d_skip ?_
   refine k2 _ ?_
   refine d_seq fun K16 k16 => ?_
   refine d_region rfl ?_
   refine go (m_fa ty_25) ?_
   refine go (m_load ty_22) ?_
   refine go (m_move) ?_
   refine go (m_ia ty_22 ty_50) ?_
   refine go (m_load ty_50) ?_
   refine go (m_callT (vs := [.int .i64 r, .int .i64 d, .int .i64 A, .bool mv, .int .i64 f]) hdc) ?_
   refine go (m_move) ?_
   refine go (m_ext) ?_
   refine go (m_ext) ?_
   refine go (m_ext) ?_
   refine go (m_ext) ?_
   refine go (m_ext) ?_
   refine go (m_set) ?_
   refine go (m_set) ?_
   refine go (m_set) ?_
   refine go (m_set) ?_
   refine go (m_set) ?_
   refine .nil ⟨by kernel_rfl, ?_⟩
   refine k16 _ ?_
   refine d_seq fun K17 k17 => ?_
   refine d_seq fun K18 k18 => ?_
   refine d_region rfl ?_
   refine go (m_move) ?_
   refine go (m_bin) ?_
   refine go (m_move) ?_
   first | refine no ?_ | refine go (m_move) ?_
   refine go (m_pick) ?_
   refine .nil ⟨by kernel_rfl, ?_⟩
   refine k18 _ ?_
   refine d_condT rfl ?_
   refine d_seq fun K19 k19 => ?_
   refine d_region rfl ?_
   refine go (m_build ty_88) ?_
   refine go (m_store ty_88) ?_
   refine go (m_set) ?_
   refine .nil ⟨by kernel_rfl, ?_⟩
   refine k19 _ ?_
   refine d_ret ?_
   change RetD _ _ _ _ _ _ _
   exact fin [] (.cell ty_88 rfl rfl rfl rfl (.tmp (.nil))) (h1 := by apply Cv.tup; apply CvL.cons; apply Cv.agg; apply CvL.cons; exact .lit; apply CvL.cons; exact .lit; apply CvL.cons; exact .lit; apply CvL.cons; exact .lit; apply CvL.cons; exact .lit; apply CvL.cons; exact .lit; exact .nil; apply CvL.cons; exact .litE (congrArg (Value.int _) (shape_e2 hs h q1 (by rw [hxw, hD]; exact .inl h2))); exact .nil)
 ·
  refine d_region rfl ?_
  refine go (m_move) ?_
  refine go (m_bin) ?_
  refine .nil ⟨by kernel_rfl, ?_⟩
  refine k4 _ ?_
  refine d_condT rfl ?_
  refine d_seq fun K20 k20 => ?_
  refine d_region rfl ?_
  refine go (m_build ty_88) ?_
  refine go (m_move) ?_
  refine go (m_store ty_88) ?_
  refine go (m_set) ?_
  refine .nil ⟨by kernel_rfl, ?_⟩
  refine k20 _ ?_
  refine d_ret ?_
  change RetD _ _ _ _ _ _ _
  exact fin [] (.cell ty_88 rfl rfl rfl rfl (.tmp (.nil))) (h1 := by apply Cv.tup; apply CvL.cons; apply Cv.agg; apply CvL.cons; exact .lit; apply CvL.cons; exact .lit; apply CvL.cons; exact .lit; apply CvL.cons; exact .lit; apply CvL.cons; exact .lit; apply CvL.cons; exact .lit; exact .nil; apply CvL.cons; exact .litE (congrArg (Value.int _) (shape_e1 h h1)); exact .nil)

set_option maxRecDepth 20000 in
set_option maxHeartbeats 4000000 in
theorem shape_d (s : Sp) (a : Int) (hW : SpW s) (ha : I64 a) : DCall Try.prog 21 [spD s, DI a] [] (tup3 (ShapeR s a)) [] := by
 refine DCall.mk Try.func21 rfl rfl ?_
 obtain ⟨r, d, e, h, hz⟩ := ShapeR_cases s a
 by_cases he : e = 0
 ·
  subst he
  refine d_seq fun K1 k1 => ?_
  refine d_region rfl ?_
  refine go (m_box ty_25) ?_
  refine go (m_set) ?_
  refine go (m_set) ?_
  refine go (m_set) ?_
  refine .nil ⟨by kernel_rfl, ?_⟩
  refine k1 _ ?_
  refine d_seq fun K2 k2 => ?_
  refine d_region rfl ?_
  refine go (m_load ty_25) ?_
  refine go (m_move) ?_
  refine go (m_callF (read_ok s a r d hW ha h)) ?_
  refine go (m_move) ?_
  refine go (m_ext) ?_
  refine go (m_ext) ?_
  refine go (m_alloc ty_88) ?_
  refine go (m_store ty_88) ?_
  refine go (m_set) ?_
  refine .nil ⟨by kernel_rfl, ?_⟩
  refine k2 _ ?_
  refine d_seq fun K3 k3 => ?_
  refine d_any mixedP rfl (by kernel_rfl) ?_
  refine go (m_fa ty_88) ?_
  refine go (m_load ty_3) ?_
  refine go (m_fa ty_88) ?_
  refine go (m_load ty_3) ?_
  refine go (m_move) ?_
  refine go (m_set) ?_
  refine go (m_set) ?_
  refine go (m_set) ?_
  refine .nil ⟨⟨by kernel_rfl, by kernel_rfl⟩, ?_⟩
  refine k3 _ ?_
  refine d_ret ?_
  change RetD _ _ _ _ _ _ _
  exact fin [] (.tmp (.tmp (.tmp (.nil)))) (h1 := .t3 h)
 ·
  obtain ⟨rfl, rfl⟩ : r = 0 ∧ d = 0 := by omega
  refine d_seq fun K4 k4 => ?_
  refine d_region rfl ?_
  refine go (m_box ty_25) ?_
  refine go (m_set) ?_
  refine go (m_set) ?_
  refine go (m_set) ?_
  refine .nil ⟨by kernel_rfl, ?_⟩
  refine k4 _ ?_
  refine d_seq fun K5 k5 => ?_
  refine d_region rfl ?_
  refine go (m_load ty_25) ?_
  refine go (m_move) ?_
  refine go (m_callF (read_bad s a e hW ha h he)) ?_
  refine go (m_move) ?_
  refine go (m_ext) ?_
  refine go (m_ext) ?_
  refine go (m_alloc ty_88) ?_
  refine go (m_store ty_88) ?_
  refine go (m_set) ?_
  refine .nil ⟨by kernel_rfl, ?_⟩
  refine k5 _ ?_
  refine d_seq fun K6 k6 => ?_
  refine d_any mixedP rfl (by kernel_rfl) ?_
  refine go (m_fa ty_88) ?_
  refine go (m_load ty_3) ?_
  refine go (m_fa ty_88) ?_
  refine go (m_load ty_3) ?_
  refine go (m_move) ?_
  refine go (m_set) ?_
  refine go (m_set) ?_
  refine go (m_set) ?_
  refine .nil ⟨⟨by kernel_rfl, by kernel_rfl⟩, ?_⟩
  refine k6 _ ?_
  refine d_ret ?_
  change RetD _ _ _ _ _ _ _
  exact fin [] (.tmp (.tmp (.tmp (.nil)))) (h1 := .t3 h)

set_option maxRecDepth 20000 in
set_option maxHeartbeats 4000000 in
theorem word_d (s : Sp) (a r d i : Int) (hW : SpW s) (ha : I64 a) (hi : I64 i) : DCall Try.prog 54 [.agg (decC s a r d), DI i] [] (DI (StepR s a i).1) [] := by
 refine DCall.mk Try.func54 rfl rfl ?_
 refine d_seq fun K1 k1 => ?_
 refine d_region rfl ?_
 refine go (m_box ty_88) ?_
 refine go (m_set) ?_
 refine .nil ⟨by kernel_rfl, ?_⟩
 refine k1 _ ?_
 refine d_seq fun K2 k2 => ?_
 refine d_region rfl ?_
 refine go (m_fa ty_88) ?_
 refine go (m_load ty_25) ?_
 refine go (m_fa ty_88) ?_
 refine go (m_load ty_3) ?_
 refine go (m_move) ?_
 refine go (m_callT (vs := [.int .i64 (StepR s a i).1, .int .i64 (StepR s a i).2]) (step_d s a i hW ha hi)) ?_
 refine go (m_move) ?_
 refine go (m_ext) ?_
 refine go (m_ext) ?_
 refine go (m_set) ?_
 refine go (m_set) ?_
 refine .nil ⟨by kernel_rfl, ?_⟩
 refine k2 _ ?_
 refine d_seq fun K3 k3 => ?_
 refine d_region rfl ?_
 refine go (m_move) ?_
 refine go (m_set) ?_
 refine .nil ⟨by kernel_rfl, ?_⟩
 refine k3 _ ?_
 refine d_ret ?_
 change RetD _ _ _ _ _ _ _
 exact fin [] (.tmp (.nil))

noncomputable def FldR (s : Sp) (a n b i : Int) : Int × Int := if i < 0 ∨ n ≤ i then (0, 17) else ((StepR s a (b + i)).1, 0)

set_option maxRecDepth 20000 in
set_option maxHeartbeats 4000000 in
theorem field_d (s : Sp) (a r d i n b : Int) (hW : SpW s) (ha : I64 a) (hn : n ≤ 1000) (hb : 0 ≤ b ∧ b ≤ 1000) : DCall Try.prog 93 [.agg (decC s a r d), DI i, DI n, DI b] [] (tup2 (FldR s a n b i)) [] := by
 refine DCall.mk Try.func93 rfl rfl ?_
 refine d_seq fun K1 k1 => ?_
 refine d_region rfl ?_
 refine go (m_box ty_88) ?_
 refine go (m_set) ?_
 refine go (m_set) ?_
 refine .nil ⟨by kernel_rfl, ?_⟩
 refine k1 _ ?_
 refine d_seq fun K2 k2 => ?_
 refine d_seq fun K3 k3 => ?_
 by_cases h1 : 0 ≤ i
 ·
  by_cases h2 : i < n
  ·
   refine d_region rfl ?_
   refine go (m_move) ?_
   refine go (m_bin) ?_
   refine go (m_move) ?_
   first | refine no ?_ | refine go (m_move) ?_
   first | refine no ?_ | refine go (m_move) ?_
   first | refine no ?_ | refine go (m_bin) ?_
   refine go (m_pick) ?_
   refine .nil ⟨by kernel_rfl, ?_⟩
   refine k3 _ ?_
   refine d_condF rfl ?_
   refine d_skip ?_
   refine k2 _ ?_
   refine d_seq fun K4 k4 => ?_
   refine d_region rfl ?_
   refine go (m_load ty_88) ?_
   refine go (m_move) ?_
   refine go (m_move) ?_
   refine go (m_bin) ?_
   refine go (m_call (word_d s a r d (b + i) hW ha (by unfold I64; omega))) ?_
   refine go (m_set) ?_
   refine go (m_set) ?_
   refine .nil ⟨by kernel_rfl, ?_⟩
   refine k4 _ ?_
   refine d_ret ?_
   change RetD _ _ _ _ _ _ _
   exact fin [] (.tmp (.tmp (.nil))) (h1 := .t2 (if_neg (by omega)))
  ·
   refine d_region rfl ?_
   refine go (m_move) ?_
   refine go (m_bin) ?_
   refine go (m_move) ?_
   first | refine no ?_ | refine go (m_move) ?_
   first | refine no ?_ | refine go (m_move) ?_
   first | refine no ?_ | refine go (m_bin) ?_
   refine go (m_pick) ?_
   refine .nil ⟨by kernel_rfl, ?_⟩
   refine k3 _ ?_
   refine d_condT rfl ?_
   refine d_seq fun K5 k5 => ?_
   refine d_region rfl ?_
   refine go (m_set) ?_
   refine go (m_set) ?_
   refine .nil ⟨by kernel_rfl, ?_⟩
   refine k5 _ ?_
   refine d_ret ?_
   change RetD _ _ _ _ _ _ _
   exact fin [] (.tmp (.tmp (.nil))) (h1 := .t2 (if_pos (by omega)))
 ·
  refine d_region rfl ?_
  refine go (m_move) ?_
  refine go (m_bin) ?_
  refine go (m_move) ?_
  first | refine no ?_ | refine go (m_move) ?_
  first | refine no ?_ | refine go (m_move) ?_
  first | refine no ?_ | refine go (m_bin) ?_
  refine go (m_pick) ?_
  refine .nil ⟨by kernel_rfl, ?_⟩
  refine k3 _ ?_
  refine d_condT rfl ?_
  refine d_seq fun K6 k6 => ?_
  refine d_region rfl ?_
  refine go (m_set) ?_
  refine go (m_set) ?_
  refine .nil ⟨by kernel_rfl, ?_⟩
  refine k6 _ ?_
  refine d_ret ?_
  change RetD _ _ _ _ _ _ _
  exact fin [] (.tmp (.tmp (.nil))) (h1 := .t2 (if_pos (by omega)))

set_option maxRecDepth 20000 in
set_option maxHeartbeats 4000000 in
theorem ref_d (s : Sp) (a r d i : Int) (hW : SpW s) (ha : I64 a) (hr : 0 ≤ r ∧ r ≤ 900) (hd : 0 ≤ d ∧ d ≤ 900) : DCall Try.prog 62 [.agg (decC s a r d), DI i] [] (tup2 (FldR s a r 1 i)) [] := by
 refine DCall.mk Try.func62 rfl rfl ?_
 refine d_seq fun K1 k1 => ?_
 refine d_region rfl ?_
 refine go (m_box ty_88) ?_
 refine go (m_set) ?_
 refine go (m_set) ?_
 refine .nil ⟨by kernel_rfl, ?_⟩
 refine k1 _ ?_
 refine d_seq fun K2 k2 => ?_
 refine d_region rfl ?_
 refine go (m_load ty_88) ?_
 refine go (m_move) ?_
 refine go (m_fa ty_88) ?_
 refine go (m_load ty_3) ?_
 refine go (m_callT (vs := [.int .i64 (FldR s a r 1 i).1, .int .i64 (FldR s a r 1 i).2]) (field_d s a r d i r 1 hW ha (by omega) (by omega))) ?_
 refine go (m_ext) ?_
 refine go (m_ext) ?_
 refine go (m_set) ?_
 refine go (m_set) ?_
 refine .nil ⟨by kernel_rfl, ?_⟩
 refine k2 _ ?_
 refine d_ret ?_
 change RetD _ _ _ _ _ _ _
 exact fin [] (.tmp (.tmp (.nil)))

set_option maxRecDepth 20000 in
set_option maxHeartbeats 4000000 in
theorem datum_d (s : Sp) (a r d i : Int) (hW : SpW s) (ha : I64 a) (hr : 0 ≤ r ∧ r ≤ 900) (hd : 0 ≤ d ∧ d ≤ 900) : DCall Try.prog 66 [.agg (decC s a r d), DI i] [] (tup2 (FldR s a d (1 + r) i)) [] := by
 refine DCall.mk Try.func66 rfl rfl ?_
 refine d_seq fun K1 k1 => ?_
 refine d_region rfl ?_
 refine go (m_box ty_88) ?_
 refine go (m_set) ?_
 refine go (m_set) ?_
 refine .nil ⟨by kernel_rfl, ?_⟩
 refine k1 _ ?_
 refine d_seq fun K2 k2 => ?_
 refine d_region rfl ?_
 refine go (m_load ty_88) ?_
 refine go (m_move) ?_
 refine go (m_fa ty_88) ?_
 refine go (m_load ty_3) ?_
 refine go (m_fa ty_88) ?_
 refine go (m_load ty_3) ?_
 refine go (m_bin) ?_
 refine go (m_callT (vs := [.int .i64 (FldR s a d (1 + r) i).1, .int .i64 (FldR s a d (1 + r) i).2]) (field_d s a r d i d (1 + r) hW ha (by omega) (by omega))) ?_
 refine go (m_ext) ?_
 refine go (m_ext) ?_
 refine go (m_set) ?_
 refine go (m_set) ?_
 refine .nil ⟨by kernel_rfl, ?_⟩
 refine k2 _ ?_
 refine d_ret ?_
 change RetD _ _ _ _ _ _ _
 exact fin [] (.tmp (.tmp (.nil)))

end Go.Proofs.Ytbidedbpmhcoaaa
/- Fields of objects: the program. No condition. -/
namespace Go.Proofs.Ytbidedbpmhcoaaa
open Go.RowKit
set_option linter.unusedSimpArgs false
set_option linter.unusedVariables false
theorem sc_spO {a b : Nat} {s : Sp} : Sc (.agg (spO a b s)) := .agg fun d hd => by
 simp only [List.mem_cons, List.not_mem_nil, or_false] at hd
 rcases hd with rfl | rfl | rfl
 ·exact .lit
 ·exact .own
 ·exact .own
theorem set_map {α : Type} {c : α → List DV} {l : List α} {i j : Nat} {x : α} {r : List DV} (e : i = j) (hr : r = c x) : (l.map c).set i r = (l.set j x).map c := by subst e; subst hr; rw [List.map_set]

set_option maxRecDepth 20000 in
set_option maxHeartbeats 4000000 in
theorem get_ref (s : Sp) (a i : Int) (hW : SpW s) (ha : I64 a) : DCall Try.prog 61 [spD s, DI a, DI i, .lit (.func (.func 62) #[] #[])] [] (tupU (GetR s a i true)) [] := by
 refine DCall.mk Try.func61 rfl rfl ?_
 obtain ⟨r, d, e, h, hz⟩ := ShapeR_cases s a
 by_cases he : e = 0
 ·
  subst he
  obtain ⟨hs, hL, q1, q2, q3, q4, q5⟩ := ShapeR_ok hW h
  have q8 := q3
  unfold HdOk at q8
  obtain ⟨q6, q7, _⟩ := GoR_e q1
  have hnx := hs.nxIn
  have hfd := ref_d s a r d i hW ha (by omega) (by omega)
  by_cases hi : 0 ≤ i ∧ i < r
  ·
   rw [show FldR s a r 1 i = ((GoR s a (1 + i)).1, 0) from (if_neg (by omega)).trans (by rw [StepR_t hs])] at hfd
   have hP : PlaceR s a i true = ((GoR s a (1 + i)).1, 0) := PlaceR_t h (by simpa using hi)
   have hg := GoR_rng hs.shp hnx (GoR_mono hs.shp hnx q5 (j := 1 + i) (by omega) (by omega))
   refine d_seq fun K1 k1 => ?_
   refine d_region rfl ?_
   refine go (m_box ty_25) ?_
   refine go (m_set) ?_
   refine go (m_set) ?_
   refine .nil ⟨by kernel_rfl, ?_⟩
   refine k1 _ ?_
   refine d_seq fun K2 k2 => ?_
   refine d_region rfl ?_
   refine go (m_load ty_25) ?_
   refine go (m_move) ?_
   refine go (m_callF (read_ok s a r d hW ha h)) ?_
   refine go (m_move) ?_
   refine go (m_ext) ?_
   refine go (m_ext) ?_
   refine go (m_alloc ty_88) ?_
   refine go (m_store ty_88) ?_
   refine go (m_set) ?_
   refine .nil ⟨by kernel_rfl, ?_⟩
   refine k2 _ ?_
   refine d_seq fun K3 k3 => ?_
   refine d_seq fun K4 k4 => ?_
   refine d_region rfl ?_
   refine go (m_move) ?_
   refine go (m_bin) ?_
   refine .nil ⟨by kernel_rfl, ?_⟩
   refine k4 _ ?_
   refine d_condF rfl ?_
   refine d_skip ?_
   refine k3 _ ?_
   refine d_seq fun K5 k5 => ?_
   refine d_region rfl ?_
   refine go (m_move) ?_
   refine go (m_load ty_88) ?_
   refine go (m_move) ?_
   refine go (m_callT (vs := [.int .i64 (GoR s a (1 + i)).1, .int .i64 0]) hfd) ?_
   refine go (m_move) ?_
   refine go (m_ext) ?_
   refine go (m_ext) ?_
   refine go (m_set) ?_
   refine go (m_set) ?_
   refine .nil ⟨by kernel_rfl, ?_⟩
   refine k5 _ ?_
   refine d_seq fun K6 k6 => ?_
   refine d_seq fun K7 k7 => ?_
   refine d_region rfl ?_
   refine go (m_move) ?_
   refine go (m_bin) ?_
   refine .nil ⟨by kernel_rfl, ?_⟩
   refine k7 _ ?_
   refine d_condF rfl ?_
   refine d_skip ?_
   refine k6 _ ?_
   refine d_seq fun K8 k8 => ?_
   refine d_region rfl ?_
   refine go (m_fa ty_25) ?_
   refine go (m_load ty_22) ?_
   refine go (m_move) ?_
   refine go (m_ia ty_22 ty_50) ?_
   refine go (m_load ty_50) ?_
   refine go (m_set) ?_
   refine go (m_set) ?_
   refine .nil ⟨by kernel_rfl, ?_⟩
   refine k8 _ ?_
   refine d_ret ?_
   change RetD _ _ _ _ _ _ _
   exact fin [] (.tmp (.tmp (.nil))) (h1 := .tU ((GetR_t hP).trans (by rw [wAt_in hg.1 (by omega)])))
  ·
   rw [show FldR s a r 1 i = (0, 17) from if_pos (by omega)] at hfd
   have hP : PlaceR s a i true = (0, 17) := PlaceR_i h (by simp; omega)
   refine d_seq fun K9 k9 => ?_
   refine d_region rfl ?_
   refine go (m_box ty_25) ?_
   refine go (m_set) ?_
   refine go (m_set) ?_
   refine .nil ⟨by kernel_rfl, ?_⟩
   refine k9 _ ?_
   refine d_seq fun K10 k10 => ?_
   refine d_region rfl ?_
   refine go (m_load ty_25) ?_
   refine go (m_move) ?_
   refine go (m_callF (read_ok s a r d hW ha h)) ?_
   refine go (m_move) ?_
   refine go (m_ext) ?_
   refine go (m_ext) ?_
   refine go (m_alloc ty_88) ?_
   refine go (m_store ty_88) ?_
   refine go (m_set) ?_
   refine .nil ⟨by kernel_rfl, ?_⟩
   refine k10 _ ?_
   refine d_seq fun K11 k11 => ?_
   refine d_seq fun K12 k12 => ?_
   refine d_region rfl ?_
   refine go (m_move) ?_
   refine go (m_bin) ?_
   refine .nil ⟨by kernel_rfl, ?_⟩
   refine k12 _ ?_
   refine d_condF rfl ?_
   refine d_skip ?_
   refine k11 _ ?_
   refine d_seq fun K13 k13 => ?_
   refine d_region rfl ?_
   refine go (m_move) ?_
   refine go (m_load ty_88) ?_
   refine go (m_move) ?_
   refine go (m_callT (vs := [.int .i64 0, .int .i64 17]) hfd) ?_
   refine go (m_move) ?_
   refine go (m_ext) ?_
   refine go (m_ext) ?_
   refine go (m_set) ?_
   refine go (m_set) ?_
   refine .nil ⟨by kernel_rfl, ?_⟩
   refine k13 _ ?_
   refine d_seq fun K14 k14 => ?_
   refine d_seq fun K15 k15 => ?_
   refine d_region rfl ?_
   refine go (m_move) ?_
   refine go (m_bin) ?_
   refine .nil ⟨by kernel_rfl, ?_⟩
   refine k15 _ ?_
   refine d_condT rfl ?_
   refine d_seq fun K16 k16 => ?_
   refine d_region rfl ?_
   refine go (m_move) ?_
   refine go (m_set) ?_
   refine go (m_set) ?_
   refine .nil ⟨by kernel_rfl, ?_⟩
   refine k16 _ ?_
   refine d_ret ?_
   change RetD _ _ _ _ _ _ _
   exact fin [] (.tmp (.tmp (.nil))) (h1 := .tU (GetR_e hP (by decide)))
 ·
  obtain ⟨rfl, rfl⟩ : r = 0 ∧ d = 0 := by omega
  refine d_seq fun K17 k17 => ?_
  refine d_region rfl ?_
  refine go (m_box ty_25) ?_
  refine go (m_set) ?_
  refine go (m_set) ?_
  refine .nil ⟨by kernel_rfl, ?_⟩
  refine k17 _ ?_
  refine d_seq fun K18 k18 => ?_
  refine d_region rfl ?_
  refine go (m_load ty_25) ?_
  refine go (m_move) ?_
  refine go (m_callF (read_bad s a e hW ha h he)) ?_
  refine go (m_move) ?_
  refine go (m_ext) ?_
  refine go (m_ext) ?_
  refine go (m_alloc ty_88) ?_
  refine go (m_store ty_88) ?_
  refine go (m_set) ?_
  refine .nil ⟨by kernel_rfl, ?_⟩
  refine k18 _ ?_
  refine d_seq fun K19 k19 => ?_
  refine d_seq fun K20 k20 => ?_
  refine d_region rfl ?_
  refine go (m_move) ?_
  refine go (m_bin) ?_
  refine .nil ⟨by kernel_rfl, ?_⟩
  refine k20 _ ?_
  refine d_condT rfl ?_
  refine d_seq fun K21 k21 => ?_
  refine d_region rfl ?_
  refine go (m_move) ?_
  refine go (m_set) ?_
  refine go (m_set) ?_
  refine .nil ⟨by kernel_rfl, ?_⟩
  refine k21 _ ?_
  refine d_ret ?_
  change RetD _ _ _ _ _ _ _
  exact fin [] (.tmp (.tmp (.nil))) (h1 := .tU (GetR_e (PlaceR_e h he) he))

set_option maxRecDepth 20000 in
set_option maxHeartbeats 4000000 in
theorem oRef_d (s : Sp) (a i : Int) (hW : SpW s) (ha : I64 a) : DCall Try.prog 26 [spD s, DI a, DI i] [] (tupU (GetR s a i true)) [] := by
 refine DCall.mk Try.func26 rfl rfl ?_
 refine d_seq fun K1 k1 => ?_
 refine d_region rfl ?_
 refine go (m_box ty_25) ?_
 refine go (m_set) ?_
 refine go (m_set) ?_
 refine .nil ⟨by kernel_rfl, ?_⟩
 refine k1 _ ?_
 refine d_seq fun K2 k2 => ?_
 refine d_region rfl ?_
 refine go (m_load ty_25) ?_
 refine go (m_move) ?_
 refine go (m_move) ?_
 refine go (m_callT (vs := [.int .u64 (GetR s a i true).1, .int .i64 (GetR s a i true).2]) (get_ref s a i hW ha)) ?_
 refine go (m_ext) ?_
 refine go (m_ext) ?_
 refine go (m_set) ?_
 refine go (m_set) ?_
 refine .nil ⟨by kernel_rfl, ?_⟩
 refine k2 _ ?_
 refine d_ret ?_
 change RetD _ _ _ _ _ _ _
 exact fin [] (.tmp (.tmp (.nil))) (h1 := .tU rfl)

set_option maxRecDepth 20000 in
set_option maxHeartbeats 4000000 in
theorem setb_ref (s : Sp) (a i v : Int) (hW : SpW s) (ha : I64 a)  (f : Int) (hf : PlaceR s a i true = (0, f)) (hf0 : ¬ f = 0) (hl : SpLen s) : DCall Try.prog 64 [spD s, DI a, DI i, DU v, .lit (.func (.func 62) #[] #[])] [] (.tup [.agg [DI 0, DN, DN], DI f]) [] := by
 refine DCall.mk Try.func64 rfl rfl ?_
 obtain ⟨r, d, e, h, hz⟩ := ShapeR_cases s a
 by_cases he : e = 0
 ·
  subst he
  obtain ⟨hs, hL, q1, q2, q3, q4, q5⟩ := ShapeR_ok hW h
  have q8 := q3
  unfold HdOk at q8
  obtain ⟨q6, q7, _⟩ := GoR_e q1
  have hnx := hs.nxIn
  have hfd := ref_d s a r d i hW ha (by omega) (by omega)
  by_cases hi : 0 ≤ i ∧ i < r
  ·
   rw [show FldR s a r 1 i = ((GoR s a (1 + i)).1, 0) from (if_neg (by omega)).trans (by rw [StepR_t hs])] at hfd
   have hP : PlaceR s a i true = ((GoR s a (1 + i)).1, 0) := PlaceR_t h (by simpa using hi)
   have hg := GoR_rng hs.shp hnx (GoR_mono hs.shp hnx q5 (j := 1 + i) (by omega) (by omega))
   refine d_seq fun K1 k1 => ?_
   refine d_region rfl ?_
   refine go (m_box ty_25) ?_
   refine go (m_alloc ty_25) ?_
   refine go (m_set) ?_
   refine .nil ⟨by kernel_rfl, ?_⟩
   refine k1 _ ?_
   refine d_seq fun K2 k2 => ?_
   refine d_region rfl ?_
   refine go (m_load ty_25) ?_
   refine go (m_move) ?_
   refine go (m_callF (read_ok s a r d hW ha h)) ?_
   refine go (m_move) ?_
   refine go (m_ext) ?_
   refine go (m_ext) ?_
   refine go (m_alloc ty_88) ?_
   refine go (m_store ty_88) ?_
   refine go (m_set) ?_
   refine .nil ⟨by kernel_rfl, ?_⟩
   refine k2 _ ?_
   refine d_seq fun K3 k3 => ?_
   refine d_seq fun K4 k4 => ?_
   refine d_region rfl ?_
   refine go (m_move) ?_
   refine go (m_bin) ?_
   refine .nil ⟨by kernel_rfl, ?_⟩
   refine k4 _ ?_
   refine d_condF rfl ?_
   refine d_skip ?_
   refine k3 _ ?_
   refine d_seq fun K5 k5 => ?_
   refine d_region rfl ?_
   refine go (m_move) ?_
   refine go (m_load ty_88) ?_
   refine go (m_move) ?_
   refine go (m_callT (vs := [.int .i64 (GoR s a (1 + i)).1, .int .i64 0]) hfd) ?_
   refine go (m_move) ?_
   refine go (m_ext) ?_
   refine go (m_ext) ?_
   refine go (m_set) ?_
   refine go (m_set) ?_
   refine .nil ⟨by kernel_rfl, ?_⟩
   refine k5 _ ?_
   refine d_seq fun K6 k6 => ?_
   refine d_seq fun K7 k7 => ?_
   refine d_region rfl ?_
   refine go (m_move) ?_
   refine go (m_bin) ?_
   refine .nil ⟨by kernel_rfl, ?_⟩
   refine k7 _ ?_
   refine d_condF rfl ?_
   refine d_skip ?_
   refine k6 _ ?_
   refine d_seq fun K8 k8 => ?_
   have hf1 : f = 0 := by rw [hP] at hf; injection hf with _ h2; exact h2.symm
   exact absurd hf1 hf0
  ·
   rw [show FldR s a r 1 i = (0, 17) from if_pos (by omega)] at hfd
   have hP : PlaceR s a i true = (0, 17) := PlaceR_i h (by simp; omega)
   refine d_seq fun K9 k9 => ?_
   refine d_region rfl ?_
   refine go (m_box ty_25) ?_
   refine go (m_alloc ty_25) ?_
   refine go (m_set) ?_
   refine .nil ⟨by kernel_rfl, ?_⟩
   refine k9 _ ?_
   refine d_seq fun K10 k10 => ?_
   refine d_region rfl ?_
   refine go (m_load ty_25) ?_
   refine go (m_move) ?_
   refine go (m_callF (read_ok s a r d hW ha h)) ?_
   refine go (m_move) ?_
   refine go (m_ext) ?_
   refine go (m_ext) ?_
   refine go (m_alloc ty_88) ?_
   refine go (m_store ty_88) ?_
   refine go (m_set) ?_
   refine .nil ⟨by kernel_rfl, ?_⟩
   refine k10 _ ?_
   refine d_seq fun K11 k11 => ?_
   refine d_seq fun K12 k12 => ?_
   refine d_region rfl ?_
   refine go (m_move) ?_
   refine go (m_bin) ?_
   refine .nil ⟨by kernel_rfl, ?_⟩
   refine k12 _ ?_
   refine d_condF rfl ?_
   refine d_skip ?_
   refine k11 _ ?_
   refine d_seq fun K13 k13 => ?_
   refine d_region rfl ?_
   refine go (m_move) ?_
   refine go (m_load ty_88) ?_
   refine go (m_move) ?_
   refine go (m_callT (vs := [.int .i64 0, .int .i64 17]) hfd) ?_
   refine go (m_move) ?_
   refine go (m_ext) ?_
   refine go (m_ext) ?_
   refine go (m_set) ?_
   refine go (m_set) ?_
   refine .nil ⟨by kernel_rfl, ?_⟩
   refine k13 _ ?_
   refine d_seq fun K14 k14 => ?_
   refine d_seq fun K15 k15 => ?_
   refine d_region rfl ?_
   refine go (m_move) ?_
   refine go (m_bin) ?_
   refine .nil ⟨by kernel_rfl, ?_⟩
   refine k15 _ ?_
   refine d_condT rfl ?_
   refine d_seq fun K16 k16 => ?_
   refine d_region rfl ?_
   refine go (m_build ty_25) ?_
   refine go (m_move) ?_
   refine go (m_store ty_25) ?_
   refine go (m_set) ?_
   refine .nil ⟨by kernel_rfl, ?_⟩
   refine k16 _ ?_
   refine d_ret ?_
   change RetD _ _ _ _ _ _ _
   exact fin [] (.cell ty_25 rfl rfl rfl rfl (.tmp (.nil))) (h1 := by repeat' (first | exact .lit | exact CvL.nil | apply CvL.cons | apply Cv.agg | apply Cv.tup | exact .litE (congrArg (Value.int _) (congrArg Prod.snd (hP.symm.trans hf)))))
 ·
  obtain ⟨rfl, rfl⟩ : r = 0 ∧ d = 0 := by omega
  refine d_seq fun K17 k17 => ?_
  refine d_region rfl ?_
  refine go (m_box ty_25) ?_
  refine go (m_alloc ty_25) ?_
  refine go (m_set) ?_
  refine .nil ⟨by kernel_rfl, ?_⟩
  refine k17 _ ?_
  refine d_seq fun K18 k18 => ?_
  refine d_region rfl ?_
  refine go (m_load ty_25) ?_
  refine go (m_move) ?_
  refine go (m_callF (read_bad s a e hW ha h he)) ?_
  refine go (m_move) ?_
  refine go (m_ext) ?_
  refine go (m_ext) ?_
  refine go (m_alloc ty_88) ?_
  refine go (m_store ty_88) ?_
  refine go (m_set) ?_
  refine .nil ⟨by kernel_rfl, ?_⟩
  refine k18 _ ?_
  refine d_seq fun K19 k19 => ?_
  refine d_seq fun K20 k20 => ?_
  refine d_region rfl ?_
  refine go (m_move) ?_
  refine go (m_bin) ?_
  refine .nil ⟨by kernel_rfl, ?_⟩
  refine k20 _ ?_
  refine d_condT rfl ?_
  refine d_seq fun K21 k21 => ?_
  refine d_region rfl ?_
  refine go (m_build ty_25) ?_
  refine go (m_move) ?_
  refine go (m_store ty_25) ?_
  refine go (m_set) ?_
  refine .nil ⟨by kernel_rfl, ?_⟩
  refine k21 _ ?_
  refine d_ret ?_
  change RetD _ _ _ _ _ _ _
  exact fin [] (.cell ty_25 rfl rfl rfl rfl (.tmp (.nil))) (h1 := by repeat' (first | exact .lit | exact CvL.nil | apply CvL.cons | apply Cv.agg | apply Cv.tup | exact .litE (congrArg (Value.int _) (congrArg Prod.snd ((PlaceR_e h he).symm.trans hf)))))

set_option maxRecDepth 20000 in
set_option maxHeartbeats 4000000 in
theorem seto_ref (s : Sp) (a i v : Int) (hW : SpW s) (ha : I64 a)  (x : Int) (hf : PlaceR s a i true = (x, 0)) (hl : SpLen s) : DCall Try.prog 64 [spD s, DI a, DI i, DU v, .lit (.func (.func 62) #[] #[])] [] (.tup [.agg (spO 0 1 s), DI 0]) [(0, wO (s.ws.set x.toNat v)), (1, fO s.fs)] := by
 refine DCall.mk Try.func64 rfl rfl ?_
 obtain ⟨r, d, e, h, hz⟩ := ShapeR_cases s a
 by_cases he : e = 0
 ·
  subst he
  obtain ⟨hs, hL, q1, q2, q3, q4, q5⟩ := ShapeR_ok hW h
  have q8 := q3
  unfold HdOk at q8
  obtain ⟨q6, q7, _⟩ := GoR_e q1
  have hnx := hs.nxIn
  have hfd := ref_d s a r d i hW ha (by omega) (by omega)
  by_cases hi : 0 ≤ i ∧ i < r
  ·
   rw [show FldR s a r 1 i = ((GoR s a (1 + i)).1, 0) from (if_neg (by omega)).trans (by rw [StepR_t hs])] at hfd
   have hP : PlaceR s a i true = ((GoR s a (1 + i)).1, 0) := PlaceR_t h (by simpa using hi)
   have hg := GoR_rng hs.shp hnx (GoR_mono hs.shp hnx q5 (j := 1 + i) (by omega) (by omega))
   obtain rfl : (GoR s a (1 + i)).1 = x := by rw [hP] at hf; injection hf
   refine d_seq fun K1 k1 => ?_
   refine d_region rfl ?_
   refine go (m_box ty_25) ?_
   refine go (m_alloc ty_25) ?_
   refine go (m_set) ?_
   refine .nil ⟨by kernel_rfl, ?_⟩
   refine k1 _ ?_
   refine d_seq fun K2 k2 => ?_
   refine d_region rfl ?_
   refine go (m_load ty_25) ?_
   refine go (m_move) ?_
   refine go (m_callF (read_ok s a r d hW ha h)) ?_
   refine go (m_move) ?_
   refine go (m_ext) ?_
   refine go (m_ext) ?_
   refine go (m_alloc ty_88) ?_
   refine go (m_store ty_88) ?_
   refine go (m_set) ?_
   refine .nil ⟨by kernel_rfl, ?_⟩
   refine k2 _ ?_
   refine d_seq fun K3 k3 => ?_
   refine d_seq fun K4 k4 => ?_
   refine d_region rfl ?_
   refine go (m_move) ?_
   refine go (m_bin) ?_
   refine .nil ⟨by kernel_rfl, ?_⟩
   refine k4 _ ?_
   refine d_condF rfl ?_
   refine d_skip ?_
   refine k3 _ ?_
   refine d_seq fun K5 k5 => ?_
   refine d_region rfl ?_
   refine go (m_move) ?_
   refine go (m_load ty_88) ?_
   refine go (m_move) ?_
   refine go (m_callT (vs := [.int .i64 (GoR s a (1 + i)).1, .int .i64 0]) hfd) ?_
   refine go (m_move) ?_
   refine go (m_ext) ?_
   refine go (m_ext) ?_
   refine go (m_set) ?_
   refine go (m_set) ?_
   refine .nil ⟨by kernel_rfl, ?_⟩
   refine k5 _ ?_
   refine d_seq fun K6 k6 => ?_
   refine d_seq fun K7 k7 => ?_
   refine d_region rfl ?_
   refine go (m_move) ?_
   refine go (m_bin) ?_
   refine .nil ⟨by kernel_rfl, ?_⟩
   refine k7 _ ?_
   refine d_condF rfl ?_
   refine d_skip ?_
   refine k6 _ ?_
   refine d_seq fun K8 k8 => ?_
   refine d_region rfl ?_
   refine go (m_load ty_25) ?_
   refine go (m_callS [] (cspace_d s hl) sc_spO (ScS.cons sc_u (ScS.one sc_fr))) ?_
   refine go (m_alloc ty_25) ?_
   refine go (m_store ty_25) ?_
   refine .nil ⟨by kernel_rfl, ?_⟩
   refine k8 _ ?_
   refine d_seq fun K9 k9 => ?_
   refine d_region rfl ?_
   refine go (m_fa ty_25) ?_
   refine go (m_load ty_22) ?_
   refine go (m_move) ?_
   refine go (m_move) ?_
   refine go (m_ia ty_22 ty_50) ?_
   refine go (m_store ty_50) ?_
   refine .nil ⟨by kernel_rfl, ?_⟩
   refine k9 _ ?_
   refine d_seq fun K10 k10 => ?_
   refine d_region rfl ?_
   refine go (m_load ty_25) ?_
   refine go (m_store ty_25) ?_
   refine go (m_set) ?_
   refine .nil ⟨by kernel_rfl, ?_⟩
   refine k10 _ ?_
   refine d_ret ?_
   change RetD _ _ _ _ _ _ _
   exact fin [(0, 3), (1, 4)] (.cell ty_25 rfl rfl rfl rfl (.tmp (.nil))) (h2 := by apply CvS.cons rfl rfl; exact .arrE (set_map (by simp) rfl); apply CvS.cons rfl rfl; exact .arr rfl; exact .nil)
  ·
   rw [show FldR s a r 1 i = (0, 17) from if_pos (by omega)] at hfd
   have hP : PlaceR s a i true = (0, 17) := PlaceR_i h (by simp; omega)
   refine d_seq fun K11 k11 => ?_
   refine d_region rfl ?_
   refine go (m_box ty_25) ?_
   refine go (m_alloc ty_25) ?_
   refine go (m_set) ?_
   refine .nil ⟨by kernel_rfl, ?_⟩
   refine k11 _ ?_
   refine d_seq fun K12 k12 => ?_
   exact absurd (congrArg Prod.snd (hP.symm.trans hf)) (by show ¬ (17 : Int) = 0; decide)
 ·
  obtain ⟨rfl, rfl⟩ : r = 0 ∧ d = 0 := by omega
  refine d_seq fun K13 k13 => ?_
  refine d_region rfl ?_
  refine go (m_box ty_25) ?_
  refine go (m_alloc ty_25) ?_
  refine go (m_set) ?_
  refine .nil ⟨by kernel_rfl, ?_⟩
  refine k13 _ ?_
  refine d_seq fun K14 k14 => ?_
  exact absurd (congrArg Prod.snd ((PlaceR_e h he).symm.trans hf)) (by exact he)

set_option maxRecDepth 20000 in
set_option maxHeartbeats 4000000 in
theorem get_datum (s : Sp) (a i : Int) (hW : SpW s) (ha : I64 a) : DCall Try.prog 61 [spD s, DI a, DI i, .lit (.func (.func 66) #[] #[])] [] (tupU (GetR s a i false)) [] := by
 refine DCall.mk Try.func61 rfl rfl ?_
 obtain ⟨r, d, e, h, hz⟩ := ShapeR_cases s a
 by_cases he : e = 0
 ·
  subst he
  obtain ⟨hs, hL, q1, q2, q3, q4, q5⟩ := ShapeR_ok hW h
  have q8 := q3
  unfold HdOk at q8
  obtain ⟨q6, q7, _⟩ := GoR_e q1
  have hnx := hs.nxIn
  have hfd := datum_d s a r d i hW ha (by omega) (by omega)
  by_cases hi : 0 ≤ i ∧ i < d
  ·
   rw [show FldR s a d (1 + r) i = ((GoR s a ((1 + r) + i)).1, 0) from (if_neg (by omega)).trans (by rw [StepR_t hs])] at hfd
   have hP : PlaceR s a i false = ((GoR s a ((1 + r) + i)).1, 0) := PlaceR_t h (by simpa using hi)
   have hg := GoR_rng hs.shp hnx (GoR_mono hs.shp hnx q5 (j := (1 + r) + i) (by omega) (by omega))
   refine d_seq fun K1 k1 => ?_
   refine d_region rfl ?_
   refine go (m_box ty_25) ?_
   refine go (m_set) ?_
   refine go (m_set) ?_
   refine .nil ⟨by kernel_rfl, ?_⟩
   refine k1 _ ?_
   refine d_seq fun K2 k2 => ?_
   refine d_region rfl ?_
   refine go (m_load ty_25) ?_
   refine go (m_move) ?_
   refine go (m_callF (read_ok s a r d hW ha h)) ?_
   refine go (m_move) ?_
   refine go (m_ext) ?_
   refine go (m_ext) ?_
   refine go (m_alloc ty_88) ?_
   refine go (m_store ty_88) ?_
   refine go (m_set) ?_
   refine .nil ⟨by kernel_rfl, ?_⟩
   refine k2 _ ?_
   refine d_seq fun K3 k3 => ?_
   refine d_seq fun K4 k4 => ?_
   refine d_region rfl ?_
   refine go (m_move) ?_
   refine go (m_bin) ?_
   refine .nil ⟨by kernel_rfl, ?_⟩
   refine k4 _ ?_
   refine d_condF rfl ?_
   refine d_skip ?_
   refine k3 _ ?_
   refine d_seq fun K5 k5 => ?_
   refine d_region rfl ?_
   refine go (m_move) ?_
   refine go (m_load ty_88) ?_
   refine go (m_move) ?_
   refine go (m_callT (vs := [.int .i64 (GoR s a ((1 + r) + i)).1, .int .i64 0]) hfd) ?_
   refine go (m_move) ?_
   refine go (m_ext) ?_
   refine go (m_ext) ?_
   refine go (m_set) ?_
   refine go (m_set) ?_
   refine .nil ⟨by kernel_rfl, ?_⟩
   refine k5 _ ?_
   refine d_seq fun K6 k6 => ?_
   refine d_seq fun K7 k7 => ?_
   refine d_region rfl ?_
   refine go (m_move) ?_
   refine go (m_bin) ?_
   refine .nil ⟨by kernel_rfl, ?_⟩
   refine k7 _ ?_
   refine d_condF rfl ?_
   refine d_skip ?_
   refine k6 _ ?_
   refine d_seq fun K8 k8 => ?_
   refine d_region rfl ?_
   refine go (m_fa ty_25) ?_
   refine go (m_load ty_22) ?_
   refine go (m_move) ?_
   refine go (m_ia ty_22 ty_50) ?_
   refine go (m_load ty_50) ?_
   refine go (m_set) ?_
   refine go (m_set) ?_
   refine .nil ⟨by kernel_rfl, ?_⟩
   refine k8 _ ?_
   refine d_ret ?_
   change RetD _ _ _ _ _ _ _
   exact fin [] (.tmp (.tmp (.nil))) (h1 := .tU ((GetR_t hP).trans (by rw [wAt_in hg.1 (by omega)])))
  ·
   rw [show FldR s a d (1 + r) i = (0, 17) from if_pos (by omega)] at hfd
   have hP : PlaceR s a i false = (0, 17) := PlaceR_i h (by simp; omega)
   refine d_seq fun K9 k9 => ?_
   refine d_region rfl ?_
   refine go (m_box ty_25) ?_
   refine go (m_set) ?_
   refine go (m_set) ?_
   refine .nil ⟨by kernel_rfl, ?_⟩
   refine k9 _ ?_
   refine d_seq fun K10 k10 => ?_
   refine d_region rfl ?_
   refine go (m_load ty_25) ?_
   refine go (m_move) ?_
   refine go (m_callF (read_ok s a r d hW ha h)) ?_
   refine go (m_move) ?_
   refine go (m_ext) ?_
   refine go (m_ext) ?_
   refine go (m_alloc ty_88) ?_
   refine go (m_store ty_88) ?_
   refine go (m_set) ?_
   refine .nil ⟨by kernel_rfl, ?_⟩
   refine k10 _ ?_
   refine d_seq fun K11 k11 => ?_
   refine d_seq fun K12 k12 => ?_
   refine d_region rfl ?_
   refine go (m_move) ?_
   refine go (m_bin) ?_
   refine .nil ⟨by kernel_rfl, ?_⟩
   refine k12 _ ?_
   refine d_condF rfl ?_
   refine d_skip ?_
   refine k11 _ ?_
   refine d_seq fun K13 k13 => ?_
   refine d_region rfl ?_
   refine go (m_move) ?_
   refine go (m_load ty_88) ?_
   refine go (m_move) ?_
   refine go (m_callT (vs := [.int .i64 0, .int .i64 17]) hfd) ?_
   refine go (m_move) ?_
   refine go (m_ext) ?_
   refine go (m_ext) ?_
   refine go (m_set) ?_
   refine go (m_set) ?_
   refine .nil ⟨by kernel_rfl, ?_⟩
   refine k13 _ ?_
   refine d_seq fun K14 k14 => ?_
   refine d_seq fun K15 k15 => ?_
   refine d_region rfl ?_
   refine go (m_move) ?_
   refine go (m_bin) ?_
   refine .nil ⟨by kernel_rfl, ?_⟩
   refine k15 _ ?_
   refine d_condT rfl ?_
   refine d_seq fun K16 k16 => ?_
   refine d_region rfl ?_
   refine go (m_move) ?_
   refine go (m_set) ?_
   refine go (m_set) ?_
   refine .nil ⟨by kernel_rfl, ?_⟩
   refine k16 _ ?_
   refine d_ret ?_
   change RetD _ _ _ _ _ _ _
   exact fin [] (.tmp (.tmp (.nil))) (h1 := .tU (GetR_e hP (by decide)))
 ·
  obtain ⟨rfl, rfl⟩ : r = 0 ∧ d = 0 := by omega
  refine d_seq fun K17 k17 => ?_
  refine d_region rfl ?_
  refine go (m_box ty_25) ?_
  refine go (m_set) ?_
  refine go (m_set) ?_
  refine .nil ⟨by kernel_rfl, ?_⟩
  refine k17 _ ?_
  refine d_seq fun K18 k18 => ?_
  refine d_region rfl ?_
  refine go (m_load ty_25) ?_
  refine go (m_move) ?_
  refine go (m_callF (read_bad s a e hW ha h he)) ?_
  refine go (m_move) ?_
  refine go (m_ext) ?_
  refine go (m_ext) ?_
  refine go (m_alloc ty_88) ?_
  refine go (m_store ty_88) ?_
  refine go (m_set) ?_
  refine .nil ⟨by kernel_rfl, ?_⟩
  refine k18 _ ?_
  refine d_seq fun K19 k19 => ?_
  refine d_seq fun K20 k20 => ?_
  refine d_region rfl ?_
  refine go (m_move) ?_
  refine go (m_bin) ?_
  refine .nil ⟨by kernel_rfl, ?_⟩
  refine k20 _ ?_
  refine d_condT rfl ?_
  refine d_seq fun K21 k21 => ?_
  refine d_region rfl ?_
  refine go (m_move) ?_
  refine go (m_set) ?_
  refine go (m_set) ?_
  refine .nil ⟨by kernel_rfl, ?_⟩
  refine k21 _ ?_
  refine d_ret ?_
  change RetD _ _ _ _ _ _ _
  exact fin [] (.tmp (.tmp (.nil))) (h1 := .tU (GetR_e (PlaceR_e h he) he))

set_option maxRecDepth 20000 in
set_option maxHeartbeats 4000000 in
theorem oData_d (s : Sp) (a i : Int) (hW : SpW s) (ha : I64 a) : DCall Try.prog 30 [spD s, DI a, DI i] [] (tupU (GetR s a i false)) [] := by
 refine DCall.mk Try.func30 rfl rfl ?_
 refine d_seq fun K1 k1 => ?_
 refine d_region rfl ?_
 refine go (m_box ty_25) ?_
 refine go (m_set) ?_
 refine go (m_set) ?_
 refine .nil ⟨by kernel_rfl, ?_⟩
 refine k1 _ ?_
 refine d_seq fun K2 k2 => ?_
 refine d_region rfl ?_
 refine go (m_load ty_25) ?_
 refine go (m_move) ?_
 refine go (m_move) ?_
 refine go (m_callT (vs := [.int .u64 (GetR s a i false).1, .int .i64 (GetR s a i false).2]) (get_datum s a i hW ha)) ?_
 refine go (m_ext) ?_
 refine go (m_ext) ?_
 refine go (m_set) ?_
 refine go (m_set) ?_
 refine .nil ⟨by kernel_rfl, ?_⟩
 refine k2 _ ?_
 refine d_ret ?_
 change RetD _ _ _ _ _ _ _
 exact fin [] (.tmp (.tmp (.nil))) (h1 := .tU rfl)

set_option maxRecDepth 20000 in
set_option maxHeartbeats 4000000 in
theorem setb_datum (s : Sp) (a i v : Int) (hW : SpW s) (ha : I64 a)  (f : Int) (hf : PlaceR s a i false = (0, f)) (hf0 : ¬ f = 0) (hl : SpLen s) : DCall Try.prog 64 [spD s, DI a, DI i, DU v, .lit (.func (.func 66) #[] #[])] [] (.tup [.agg [DI 0, DN, DN], DI f]) [] := by
 refine DCall.mk Try.func64 rfl rfl ?_
 obtain ⟨r, d, e, h, hz⟩ := ShapeR_cases s a
 by_cases he : e = 0
 ·
  subst he
  obtain ⟨hs, hL, q1, q2, q3, q4, q5⟩ := ShapeR_ok hW h
  have q8 := q3
  unfold HdOk at q8
  obtain ⟨q6, q7, _⟩ := GoR_e q1
  have hnx := hs.nxIn
  have hfd := datum_d s a r d i hW ha (by omega) (by omega)
  by_cases hi : 0 ≤ i ∧ i < d
  ·
   rw [show FldR s a d (1 + r) i = ((GoR s a ((1 + r) + i)).1, 0) from (if_neg (by omega)).trans (by rw [StepR_t hs])] at hfd
   have hP : PlaceR s a i false = ((GoR s a ((1 + r) + i)).1, 0) := PlaceR_t h (by simpa using hi)
   have hg := GoR_rng hs.shp hnx (GoR_mono hs.shp hnx q5 (j := (1 + r) + i) (by omega) (by omega))
   refine d_seq fun K1 k1 => ?_
   refine d_region rfl ?_
   refine go (m_box ty_25) ?_
   refine go (m_alloc ty_25) ?_
   refine go (m_set) ?_
   refine .nil ⟨by kernel_rfl, ?_⟩
   refine k1 _ ?_
   refine d_seq fun K2 k2 => ?_
   refine d_region rfl ?_
   refine go (m_load ty_25) ?_
   refine go (m_move) ?_
   refine go (m_callF (read_ok s a r d hW ha h)) ?_
   refine go (m_move) ?_
   refine go (m_ext) ?_
   refine go (m_ext) ?_
   refine go (m_alloc ty_88) ?_
   refine go (m_store ty_88) ?_
   refine go (m_set) ?_
   refine .nil ⟨by kernel_rfl, ?_⟩
   refine k2 _ ?_
   refine d_seq fun K3 k3 => ?_
   refine d_seq fun K4 k4 => ?_
   refine d_region rfl ?_
   refine go (m_move) ?_
   refine go (m_bin) ?_
   refine .nil ⟨by kernel_rfl, ?_⟩
   refine k4 _ ?_
   refine d_condF rfl ?_
   refine d_skip ?_
   refine k3 _ ?_
   refine d_seq fun K5 k5 => ?_
   refine d_region rfl ?_
   refine go (m_move) ?_
   refine go (m_load ty_88) ?_
   refine go (m_move) ?_
   refine go (m_callT (vs := [.int .i64 (GoR s a ((1 + r) + i)).1, .int .i64 0]) hfd) ?_
   refine go (m_move) ?_
   refine go (m_ext) ?_
   refine go (m_ext) ?_
   refine go (m_set) ?_
   refine go (m_set) ?_
   refine .nil ⟨by kernel_rfl, ?_⟩
   refine k5 _ ?_
   refine d_seq fun K6 k6 => ?_
   refine d_seq fun K7 k7 => ?_
   refine d_region rfl ?_
   refine go (m_move) ?_
   refine go (m_bin) ?_
   refine .nil ⟨by kernel_rfl, ?_⟩
   refine k7 _ ?_
   refine d_condF rfl ?_
   refine d_skip ?_
   refine k6 _ ?_
   refine d_seq fun K8 k8 => ?_
   have hf1 : f = 0 := by rw [hP] at hf; injection hf with _ h2; exact h2.symm
   exact absurd hf1 hf0
  ·
   rw [show FldR s a d (1 + r) i = (0, 17) from if_pos (by omega)] at hfd
   have hP : PlaceR s a i false = (0, 17) := PlaceR_i h (by simp; omega)
   refine d_seq fun K9 k9 => ?_
   refine d_region rfl ?_
   refine go (m_box ty_25) ?_
   refine go (m_alloc ty_25) ?_
   refine go (m_set) ?_
   refine .nil ⟨by kernel_rfl, ?_⟩
   refine k9 _ ?_
   refine d_seq fun K10 k10 => ?_
   refine d_region rfl ?_
   refine go (m_load ty_25) ?_
   refine go (m_move) ?_
   refine go (m_callF (read_ok s a r d hW ha h)) ?_
   refine go (m_move) ?_
   refine go (m_ext) ?_
   refine go (m_ext) ?_
   refine go (m_alloc ty_88) ?_
   refine go (m_store ty_88) ?_
   refine go (m_set) ?_
   refine .nil ⟨by kernel_rfl, ?_⟩
   refine k10 _ ?_
   refine d_seq fun K11 k11 => ?_
   refine d_seq fun K12 k12 => ?_
   refine d_region rfl ?_
   refine go (m_move) ?_
   refine go (m_bin) ?_
   refine .nil ⟨by kernel_rfl, ?_⟩
   refine k12 _ ?_
   refine d_condF rfl ?_
   refine d_skip ?_
   refine k11 _ ?_
   refine d_seq fun K13 k13 => ?_
   refine d_region rfl ?_
   refine go (m_move) ?_
   refine go (m_load ty_88) ?_
   refine go (m_move) ?_
   refine go (m_callT (vs := [.int .i64 0, .int .i64 17]) hfd) ?_
   refine go (m_move) ?_
   refine go (m_ext) ?_
   refine go (m_ext) ?_
   refine go (m_set) ?_
   refine go (m_set) ?_
   refine .nil ⟨by kernel_rfl, ?_⟩
   refine k13 _ ?_
   refine d_seq fun K14 k14 => ?_
   refine d_seq fun K15 k15 => ?_
   refine d_region rfl ?_
   refine go (m_move) ?_
   refine go (m_bin) ?_
   refine .nil ⟨by kernel_rfl, ?_⟩
   refine k15 _ ?_
   refine d_condT rfl ?_
   refine d_seq fun K16 k16 => ?_
   refine d_region rfl ?_
   refine go (m_build ty_25) ?_
   refine go (m_move) ?_
   refine go (m_store ty_25) ?_
   refine go (m_set) ?_
   refine .nil ⟨by kernel_rfl, ?_⟩
   refine k16 _ ?_
   refine d_ret ?_
   change RetD _ _ _ _ _ _ _
   exact fin [] (.cell ty_25 rfl rfl rfl rfl (.tmp (.nil))) (h1 := by repeat' (first | exact .lit | exact CvL.nil | apply CvL.cons | apply Cv.agg | apply Cv.tup | exact .litE (congrArg (Value.int _) (congrArg Prod.snd (hP.symm.trans hf)))))
 ·
  obtain ⟨rfl, rfl⟩ : r = 0 ∧ d = 0 := by omega
  refine d_seq fun K17 k17 => ?_
  refine d_region rfl ?_
  refine go (m_box ty_25) ?_
  refine go (m_alloc ty_25) ?_
  refine go (m_set) ?_
  refine .nil ⟨by kernel_rfl, ?_⟩
  refine k17 _ ?_
  refine d_seq fun K18 k18 => ?_
  refine d_region rfl ?_
  refine go (m_load ty_25) ?_
  refine go (m_move) ?_
  refine go (m_callF (read_bad s a e hW ha h he)) ?_
  refine go (m_move) ?_
  refine go (m_ext) ?_
  refine go (m_ext) ?_
  refine go (m_alloc ty_88) ?_
  refine go (m_store ty_88) ?_
  refine go (m_set) ?_
  refine .nil ⟨by kernel_rfl, ?_⟩
  refine k18 _ ?_
  refine d_seq fun K19 k19 => ?_
  refine d_seq fun K20 k20 => ?_
  refine d_region rfl ?_
  refine go (m_move) ?_
  refine go (m_bin) ?_
  refine .nil ⟨by kernel_rfl, ?_⟩
  refine k20 _ ?_
  refine d_condT rfl ?_
  refine d_seq fun K21 k21 => ?_
  refine d_region rfl ?_
  refine go (m_build ty_25) ?_
  refine go (m_move) ?_
  refine go (m_store ty_25) ?_
  refine go (m_set) ?_
  refine .nil ⟨by kernel_rfl, ?_⟩
  refine k21 _ ?_
  refine d_ret ?_
  change RetD _ _ _ _ _ _ _
  exact fin [] (.cell ty_25 rfl rfl rfl rfl (.tmp (.nil))) (h1 := by repeat' (first | exact .lit | exact CvL.nil | apply CvL.cons | apply Cv.agg | apply Cv.tup | exact .litE (congrArg (Value.int _) (congrArg Prod.snd ((PlaceR_e h he).symm.trans hf)))))

set_option maxRecDepth 20000 in
set_option maxHeartbeats 4000000 in
theorem seto_datum (s : Sp) (a i v : Int) (hW : SpW s) (ha : I64 a)  (x : Int) (hf : PlaceR s a i false = (x, 0)) (hl : SpLen s) : DCall Try.prog 64 [spD s, DI a, DI i, DU v, .lit (.func (.func 66) #[] #[])] [] (.tup [.agg (spO 0 1 s), DI 0]) [(0, wO (s.ws.set x.toNat v)), (1, fO s.fs)] := by
 refine DCall.mk Try.func64 rfl rfl ?_
 obtain ⟨r, d, e, h, hz⟩ := ShapeR_cases s a
 by_cases he : e = 0
 ·
  subst he
  obtain ⟨hs, hL, q1, q2, q3, q4, q5⟩ := ShapeR_ok hW h
  have q8 := q3
  unfold HdOk at q8
  obtain ⟨q6, q7, _⟩ := GoR_e q1
  have hnx := hs.nxIn
  have hfd := datum_d s a r d i hW ha (by omega) (by omega)
  by_cases hi : 0 ≤ i ∧ i < d
  ·
   rw [show FldR s a d (1 + r) i = ((GoR s a ((1 + r) + i)).1, 0) from (if_neg (by omega)).trans (by rw [StepR_t hs])] at hfd
   have hP : PlaceR s a i false = ((GoR s a ((1 + r) + i)).1, 0) := PlaceR_t h (by simpa using hi)
   have hg := GoR_rng hs.shp hnx (GoR_mono hs.shp hnx q5 (j := (1 + r) + i) (by omega) (by omega))
   obtain rfl : (GoR s a ((1 + r) + i)).1 = x := by rw [hP] at hf; injection hf
   refine d_seq fun K1 k1 => ?_
   refine d_region rfl ?_
   refine go (m_box ty_25) ?_
   refine go (m_alloc ty_25) ?_
   refine go (m_set) ?_
   refine .nil ⟨by kernel_rfl, ?_⟩
   refine k1 _ ?_
   refine d_seq fun K2 k2 => ?_
   refine d_region rfl ?_
   refine go (m_load ty_25) ?_
   refine go (m_move) ?_
   refine go (m_callF (read_ok s a r d hW ha h)) ?_
   refine go (m_move) ?_
   refine go (m_ext) ?_
   refine go (m_ext) ?_
   refine go (m_alloc ty_88) ?_
   refine go (m_store ty_88) ?_
   refine go (m_set) ?_
   refine .nil ⟨by kernel_rfl, ?_⟩
   refine k2 _ ?_
   refine d_seq fun K3 k3 => ?_
   refine d_seq fun K4 k4 => ?_
   refine d_region rfl ?_
   refine go (m_move) ?_
   refine go (m_bin) ?_
   refine .nil ⟨by kernel_rfl, ?_⟩
   refine k4 _ ?_
   refine d_condF rfl ?_
   refine d_skip ?_
   refine k3 _ ?_
   refine d_seq fun K5 k5 => ?_
   refine d_region rfl ?_
   refine go (m_move) ?_
   refine go (m_load ty_88) ?_
   refine go (m_move) ?_
   refine go (m_callT (vs := [.int .i64 (GoR s a ((1 + r) + i)).1, .int .i64 0]) hfd) ?_
   refine go (m_move) ?_
   refine go (m_ext) ?_
   refine go (m_ext) ?_
   refine go (m_set) ?_
   refine go (m_set) ?_
   refine .nil ⟨by kernel_rfl, ?_⟩
   refine k5 _ ?_
   refine d_seq fun K6 k6 => ?_
   refine d_seq fun K7 k7 => ?_
   refine d_region rfl ?_
   refine go (m_move) ?_
   refine go (m_bin) ?_
   refine .nil ⟨by kernel_rfl, ?_⟩
   refine k7 _ ?_
   refine d_condF rfl ?_
   refine d_skip ?_
   refine k6 _ ?_
   refine d_seq fun K8 k8 => ?_
   refine d_region rfl ?_
   refine go (m_load ty_25) ?_
   refine go (m_callS [] (cspace_d s hl) sc_spO (ScS.cons sc_u (ScS.one sc_fr))) ?_
   refine go (m_alloc ty_25) ?_
   refine go (m_store ty_25) ?_
   refine .nil ⟨by kernel_rfl, ?_⟩
   refine k8 _ ?_
   refine d_seq fun K9 k9 => ?_
   refine d_region rfl ?_
   refine go (m_fa ty_25) ?_
   refine go (m_load ty_22) ?_
   refine go (m_move) ?_
   refine go (m_move) ?_
   refine go (m_ia ty_22 ty_50) ?_
   refine go (m_store ty_50) ?_
   refine .nil ⟨by kernel_rfl, ?_⟩
   refine k9 _ ?_
   refine d_seq fun K10 k10 => ?_
   refine d_region rfl ?_
   refine go (m_load ty_25) ?_
   refine go (m_store ty_25) ?_
   refine go (m_set) ?_
   refine .nil ⟨by kernel_rfl, ?_⟩
   refine k10 _ ?_
   refine d_ret ?_
   change RetD _ _ _ _ _ _ _
   exact fin [(0, 3), (1, 4)] (.cell ty_25 rfl rfl rfl rfl (.tmp (.nil))) (h2 := by apply CvS.cons rfl rfl; exact .arrE (set_map (by simp) rfl); apply CvS.cons rfl rfl; exact .arr rfl; exact .nil)
  ·
   rw [show FldR s a d (1 + r) i = (0, 17) from if_pos (by omega)] at hfd
   have hP : PlaceR s a i false = (0, 17) := PlaceR_i h (by simp; omega)
   refine d_seq fun K11 k11 => ?_
   refine d_region rfl ?_
   refine go (m_box ty_25) ?_
   refine go (m_alloc ty_25) ?_
   refine go (m_set) ?_
   refine .nil ⟨by kernel_rfl, ?_⟩
   refine k11 _ ?_
   refine d_seq fun K12 k12 => ?_
   exact absurd (congrArg Prod.snd (hP.symm.trans hf)) (by show ¬ (17 : Int) = 0; decide)
 ·
  obtain ⟨rfl, rfl⟩ : r = 0 ∧ d = 0 := by omega
  refine d_seq fun K13 k13 => ?_
  refine d_region rfl ?_
  refine go (m_box ty_25) ?_
  refine go (m_alloc ty_25) ?_
  refine go (m_set) ?_
  refine .nil ⟨by kernel_rfl, ?_⟩
  refine k13 _ ?_
  refine d_seq fun K14 k14 => ?_
  exact absurd (congrArg Prod.snd ((PlaceR_e h he).symm.trans hf)) (by exact he)

end Go.Proofs.Ytbidedbpmhcoaaa
/- Fields of objects: written, and their addresses; the program. No condition. -/
namespace Go.Proofs.Ytbidedbpmhcoaaa
open Go.RowKit
set_option linter.unusedSimpArgs false
set_option linter.unusedVariables false
theorem sc_spO2 {a b : Nat} {s : Sp} : Sc (.tup [.agg (spO a b s), DI 0]) := .tup fun d hd => by
 simp only [List.mem_cons, List.not_mem_nil, or_false] at hd
 rcases hd with rfl | rfl
 ·exact sc_spO
 ·exact .lit
theorem sc_bad {f : Int} : Sc (.tup [.agg [DI 0, DN, DN], DI f]) := .tup fun d hd => by
 simp only [List.mem_cons, List.not_mem_nil, or_false] at hd
 rcases hd with rfl | rfl
 ·exact .agg fun d hd => by
   simp only [List.mem_cons, List.not_mem_nil, or_false] at hd
   rcases hd with rfl | rfl | rfl <;> exact .lit
 ·exact .lit
/-- the addresses of the first fields -/
noncomputable def fldL (s : Sp) (a : Int) (n : Nat) : List Int := (List.range n).map fun (j : Nat) => (GoR s a (1 + (j : Int))).1
@[simp] theorem fldL_len (s : Sp) (a : Int) (n : Nat) : (fldL s a n).length = n := by unfold fldL; simp
theorem fldL_succ (s : Sp) (a : Int) (n : Nat) : (fldL s a (n + 1)).map iC = (fldL s a n).map iC ++ [[DI (GoR s a (1 + (n : Int))).1]] := by
 unfold fldL
 rw [List.range_succ, List.map_append, List.map_append]
 rfl
abbrev iO (l : List Int) : Ob := ⟨1, true, false, l.map iC⟩

set_option maxRecDepth 20000 in
set_option maxHeartbeats 4000000 in
theorem osetRef_bad (s : Sp) (a i v : Int) (hW : SpW s) (ha : I64 a)  (f : Int) (hf : PlaceR s a i true = (0, f)) (hf0 : ¬ f = 0) (hl : SpLen s) : DCall Try.prog 28 [spD s, DI a, DI i, DU v] [] (.tup [.agg [DI 0, DN, DN], DI f]) [] := by
 refine DCall.mk Try.func28 rfl rfl ?_
 refine d_seq fun K1 k1 => ?_
 refine d_region rfl ?_
 refine go (m_box ty_25) ?_
 refine go (m_alloc ty_25) ?_
 refine go (m_set) ?_
 refine .nil ⟨by kernel_rfl, ?_⟩
 refine k1 _ ?_
 refine d_seq fun K2 k2 => ?_
 refine d_region rfl ?_
 refine go (m_load ty_25) ?_
 refine go (m_move) ?_
 refine go (m_move) ?_
 refine go (m_move) ?_
 refine go (m_callS [] (setb_ref s a i v hW ha f hf hf0 hl) sc_bad ScS.nil) ?_
 refine go (m_ext) ?_
 refine go (m_ext) ?_
 refine go (m_store ty_25) ?_
 refine go (m_set) ?_
 refine .nil ⟨by kernel_rfl, ?_⟩
 refine k2 _ ?_
 refine d_ret ?_
 change RetD _ _ _ _ _ _ _
 exact fin [] (.cell ty_25 rfl rfl rfl rfl (.tmp (.nil)))

set_option maxRecDepth 20000 in
set_option maxHeartbeats 4000000 in
theorem osetRef_ok (s : Sp) (a i v : Int) (hW : SpW s) (ha : I64 a)  (x : Int) (hf : PlaceR s a i true = (x, 0)) (hl : SpLen s) : DCall Try.prog 28 [spD s, DI a, DI i, DU v] [] (.tup [.agg (spO 0 1 s), DI 0]) [(0, wO (s.ws.set x.toNat v)), (1, fO s.fs)] := by
 refine DCall.mk Try.func28 rfl rfl ?_
 refine d_seq fun K1 k1 => ?_
 refine d_region rfl ?_
 refine go (m_box ty_25) ?_
 refine go (m_alloc ty_25) ?_
 refine go (m_set) ?_
 refine .nil ⟨by kernel_rfl, ?_⟩
 refine k1 _ ?_
 refine d_seq fun K2 k2 => ?_
 refine d_region rfl ?_
 refine go (m_load ty_25) ?_
 refine go (m_move) ?_
 refine go (m_move) ?_
 refine go (m_move) ?_
 refine go (m_callS [] (seto_ref s a i v hW ha x hf hl) sc_spO2 (ScS.cons sc_u (ScS.one sc_fr))) ?_
 refine go (m_ext) ?_
 refine go (m_ext) ?_
 refine go (m_store ty_25) ?_
 refine go (m_set) ?_
 refine .nil ⟨by kernel_rfl, ?_⟩
 refine k2 _ ?_
 refine d_ret ?_
 change RetD _ _ _ _ _ _ _
 exact fin [(0, 2), (1, 3)] (.cell ty_25 rfl rfl rfl rfl (.tmp (.nil)))

set_option maxRecDepth 20000 in
set_option maxHeartbeats 4000000 in
theorem osetData_bad (s : Sp) (a i v : Int) (hW : SpW s) (ha : I64 a)  (f : Int) (hf : PlaceR s a i false = (0, f)) (hf0 : ¬ f = 0) (hl : SpLen s) : DCall Try.prog 32 [spD s, DI a, DI i, DU v] [] (.tup [.agg [DI 0, DN, DN], DI f]) [] := by
 refine DCall.mk Try.func32 rfl rfl ?_
 refine d_seq fun K1 k1 => ?_
 refine d_region rfl ?_
 refine go (m_box ty_25) ?_
 refine go (m_alloc ty_25) ?_
 refine go (m_set) ?_
 refine .nil ⟨by kernel_rfl, ?_⟩
 refine k1 _ ?_
 refine d_seq fun K2 k2 => ?_
 refine d_region rfl ?_
 refine go (m_load ty_25) ?_
 refine go (m_move) ?_
 refine go (m_move) ?_
 refine go (m_move) ?_
 refine go (m_callS [] (setb_datum s a i v hW ha f hf hf0 hl) sc_bad ScS.nil) ?_
 refine go (m_ext) ?_
 refine go (m_ext) ?_
 refine go (m_store ty_25) ?_
 refine go (m_set) ?_
 refine .nil ⟨by kernel_rfl, ?_⟩
 refine k2 _ ?_
 refine d_ret ?_
 change RetD _ _ _ _ _ _ _
 exact fin [] (.cell ty_25 rfl rfl rfl rfl (.tmp (.nil)))

set_option maxRecDepth 20000 in
set_option maxHeartbeats 4000000 in
theorem osetData_ok (s : Sp) (a i v : Int) (hW : SpW s) (ha : I64 a)  (x : Int) (hf : PlaceR s a i false = (x, 0)) (hl : SpLen s) : DCall Try.prog 32 [spD s, DI a, DI i, DU v] [] (.tup [.agg (spO 0 1 s), DI 0]) [(0, wO (s.ws.set x.toNat v)), (1, fO s.fs)] := by
 refine DCall.mk Try.func32 rfl rfl ?_
 refine d_seq fun K1 k1 => ?_
 refine d_region rfl ?_
 refine go (m_box ty_25) ?_
 refine go (m_alloc ty_25) ?_
 refine go (m_set) ?_
 refine .nil ⟨by kernel_rfl, ?_⟩
 refine k1 _ ?_
 refine d_seq fun K2 k2 => ?_
 refine d_region rfl ?_
 refine go (m_load ty_25) ?_
 refine go (m_move) ?_
 refine go (m_move) ?_
 refine go (m_move) ?_
 refine go (m_callS [] (seto_datum s a i v hW ha x hf hl) sc_spO2 (ScS.cons sc_u (ScS.one sc_fr))) ?_
 refine go (m_ext) ?_
 refine go (m_ext) ?_
 refine go (m_store ty_25) ?_
 refine go (m_set) ?_
 refine .nil ⟨by kernel_rfl, ?_⟩
 refine k2 _ ?_
 refine d_ret ?_
 change RetD _ _ _ _ _ _ _
 exact fin [(0, 2), (1, 3)] (.cell ty_25 rfl rfl rfl rfl (.tmp (.nil)))

set_option maxRecDepth 20000 in
set_option maxHeartbeats 4000000 in
theorem oslots_bad (s : Sp) (a e : Int) (hW : SpW s) (ha : I64 a) (h : ShapeR s a = ⟨0, 0, e⟩) (he : ¬ e = 0) : DCall Try.prog 23 [spD s, DI a] [] (.tup [DN, DI e]) [] := by
 refine DCall.mk Try.func23 rfl rfl ?_
 refine d_seq fun K1 k1 => ?_
 refine d_region rfl ?_
 refine go (m_box ty_25) ?_
 refine go (m_set) ?_
 refine go (m_set) ?_
 refine .nil ⟨by kernel_rfl, ?_⟩
 refine k1 _ ?_
 refine d_seq fun K2 k2 => ?_
 refine d_region rfl ?_
 refine go (m_load ty_25) ?_
 refine go (m_move) ?_
 refine go (m_callF (read_bad s a e hW ha h he)) ?_
 refine go (m_move) ?_
 refine go (m_ext) ?_
 refine go (m_ext) ?_
 refine go (m_alloc ty_88) ?_
 refine go (m_store ty_88) ?_
 refine go (m_set) ?_
 refine .nil ⟨by kernel_rfl, ?_⟩
 refine k2 _ ?_
 refine d_seq fun K3 k3 => ?_
 refine d_seq fun K4 k4 => ?_
 refine d_region rfl ?_
 refine go (m_move) ?_
 refine go (m_bin) ?_
 refine .nil ⟨by kernel_rfl, ?_⟩
 refine k4 _ ?_
 refine d_condT rfl ?_
 refine d_seq fun K5 k5 => ?_
 refine d_region rfl ?_
 refine go (m_move) ?_
 refine go (m_set) ?_
 refine go (m_set) ?_
 refine .nil ⟨by kernel_rfl, ?_⟩
 refine k5 _ ?_
 refine d_ret ?_
 change RetD _ _ _ _ _ _ _
 exact fin [] (.tmp (.tmp (.nil)))

set_option maxRecDepth 20000 in
set_option maxHeartbeats 4000000 in
theorem oslots_0 (s : Sp) (a d : Int) (hW : SpW s) (ha : I64 a) (h : ShapeR s a = ⟨0, d, 0⟩) : DCall Try.prog 23 [spD s, DI a] [] (.tup [DN, DI 0]) [] := by
 refine DCall.mk Try.func23 rfl rfl ?_
 obtain ⟨hs, hL, q1, q2, q3, q4, q5⟩ := ShapeR_ok hW h
 have q8 := q3
 unfold HdOk at q8
 obtain ⟨q6, q7, _⟩ := GoR_e q1
 refine d_seq fun K1 k1 => ?_
 refine d_region rfl ?_
 refine go (m_box ty_25) ?_
 refine go (m_set) ?_
 refine go (m_set) ?_
 refine .nil ⟨by kernel_rfl, ?_⟩
 refine k1 _ ?_
 refine d_seq fun K2 k2 => ?_
 refine d_region rfl ?_
 refine go (m_load ty_25) ?_
 refine go (m_move) ?_
 refine go (m_callF (read_ok s a 0 d hW ha h)) ?_
 refine go (m_move) ?_
 refine go (m_ext) ?_
 refine go (m_ext) ?_
 refine go (m_alloc ty_88) ?_
 refine go (m_store ty_88) ?_
 refine go (m_set) ?_
 refine .nil ⟨by kernel_rfl, ?_⟩
 refine k2 _ ?_
 refine d_seq fun K3 k3 => ?_
 refine d_seq fun K4 k4 => ?_
 refine d_region rfl ?_
 refine go (m_move) ?_
 refine go (m_bin) ?_
 refine .nil ⟨by kernel_rfl, ?_⟩
 refine k4 _ ?_
 refine d_condF rfl ?_
 refine d_skip ?_
 refine k3 _ ?_
 refine d_seq fun K5 k5 => ?_
 refine d_region rfl ?_
 refine go (m_set) ?_
 refine .nil ⟨by kernel_rfl, ?_⟩
 refine k5 _ ?_
 refine d_seq fun K6 k6 => ?_
 refine d_seq fun K7 k7 => ?_
 refine d_region rfl ?_
 refine go (m_set) ?_
 refine .nil ⟨by kernel_rfl, ?_⟩
 refine k7 _ ?_
 refine d_block ?_
 refine d_loop (α := Unit) (fun _ => ⟨[(6, .ptr 0 0 0), (8, DN), (9, DI 0)], [(0, ⟨6, false, false, [decC s a 0 d]⟩)], 1⟩) (fun _ => True) (fun _ => 0) () trivial (wk [(0, 1)]) (fun _ _ => ?_)
 refine d_seq fun K8 k8 => ?_
 refine d_seq fun K9 k9 => ?_
 refine d_region rfl ?_
 refine go (m_move) ?_
 refine go (m_fa ty_88) ?_
 refine go (m_load ty_3) ?_
 refine go (m_bin) ?_
 refine .nil ⟨by kernel_rfl, ?_⟩
 refine k9 _ ?_
 refine d_condF rfl ?_
 refine d_exit ?_
 refine k6 _ ?_
 refine d_seq fun K10 k10 => ?_
 refine d_region rfl ?_
 refine go (m_move) ?_
 refine go (m_set) ?_
 refine go (m_set) ?_
 refine .nil ⟨by kernel_rfl, ?_⟩
 refine k10 _ ?_
 refine d_ret ?_
 change RetD _ _ _ _ _ _ _
 exact fin [] (.tmp (.tmp (.nil)))

set_option maxRecDepth 20000 in
set_option maxHeartbeats 4000000 in
theorem oslots_n (s : Sp) (a d : Int) (r : Nat) (hW : SpW s) (ha : I64 a) (h : ShapeR s a = ⟨r, d, 0⟩) (hr : 0 < r) : DCall Try.prog 23 [spD s, DI a] [] (.tup [.own 0 0 r, DI 0]) [(0, iO (fldL s a r))] := by
 refine DCall.mk Try.func23 rfl rfl ?_
 obtain ⟨hs, hL, q1, q2, q3, q4, q5⟩ := ShapeR_ok hW h
 have q8 := q3
 unfold HdOk at q8
 obtain ⟨q6, q7, _⟩ := GoR_e q1
 refine d_seq fun K1 k1 => ?_
 refine d_region rfl ?_
 refine go (m_box ty_25) ?_
 refine go (m_set) ?_
 refine go (m_set) ?_
 refine .nil ⟨by kernel_rfl, ?_⟩
 refine k1 _ ?_
 refine d_seq fun K2 k2 => ?_
 refine d_region rfl ?_
 refine go (m_load ty_25) ?_
 refine go (m_move) ?_
 refine go (m_callF (read_ok s a r d hW ha h)) ?_
 refine go (m_move) ?_
 refine go (m_ext) ?_
 refine go (m_ext) ?_
 refine go (m_alloc ty_88) ?_
 refine go (m_store ty_88) ?_
 refine go (m_set) ?_
 refine .nil ⟨by kernel_rfl, ?_⟩
 refine k2 _ ?_
 refine d_seq fun K3 k3 => ?_
 refine d_seq fun K4 k4 => ?_
 refine d_region rfl ?_
 refine go (m_move) ?_
 refine go (m_bin) ?_
 refine .nil ⟨by kernel_rfl, ?_⟩
 refine k4 _ ?_
 refine d_condF rfl ?_
 refine d_skip ?_
 refine k3 _ ?_
 refine d_seq fun K5 k5 => ?_
 refine d_region rfl ?_
 refine go (m_set) ?_
 refine .nil ⟨by kernel_rfl, ?_⟩
 refine k5 _ ?_
 refine d_seq fun K6 k6 => ?_
 refine d_seq fun K7 k7 => ?_
 refine d_region rfl ?_
 refine go (m_set) ?_
 refine .nil ⟨by kernel_rfl, ?_⟩
 refine k7 _ ?_
 refine d_block ?_
 refine d_loop1 (α := Nat) (fun k => ⟨[(6, .ptr 0 0 0), (8, .own 1 0 k), (9, DI k)], [(0, ⟨6, false, false, [decC s a r d]⟩), (1, iO (fldL s a k))], 2⟩) (fun k => 1 ≤ k ∧ k ≤ r) (fun k => r - k) (r) ?_ (fun k ⟨hk1, hk2⟩ => ?_)
 ·
  refine d_seq fun K8 k8 => ?_
  refine d_seq fun K9 k9 => ?_
  refine d_region rfl ?_
  refine go (m_move) ?_
  refine go (m_fa ty_88) ?_
  refine go (m_load ty_3) ?_
  refine go (m_bin) ?_
  refine .nil ⟨by kernel_rfl, ?_⟩
  refine k9 _ ?_
  refine d_condT rfl ?_
  refine d_skip ?_
  refine k8 _ ?_
  refine d_seq fun K10 k10 => ?_
  refine d_block ?_
  refine d_region rfl ?_
  refine go (m_move) ?_
  refine go (m_load ty_88) ?_
  refine go (m_move) ?_
  refine go (m_bin) ?_
  refine go (m_call (word_d s a r d (1 + 0) hW ha (by unfold I64; omega))) ?_
  refine go (m_lit ty_26 ty_3) ?_
  refine go (m_app ty_26 ty_3) ?_
  refine go (m_set) ?_
  refine .nil ⟨by kernel_rfl, ?_⟩
  refine k10 _ ?_
  refine d_region rfl ?_
  refine go (m_move) ?_
  refine go (m_bin) ?_
  refine go (m_set) ?_
  refine .nil ⟨by kernel_rfl, ?_⟩
  have hx : [[DI (StepR s a (1 + 0)).1]] = (fldL s a 1).map iC := by rw [StepR_t hs]; rfl
  exact ⟨1, ⟨by omega, by omega⟩, by omega, wk [(0, 1), (1, 3)]⟩
 ·
  have hfl := fldL_len s a k
  by_cases hlt : k < r
  ·
   refine d_seq fun K11 k11 => ?_
   refine d_seq fun K12 k12 => ?_
   refine d_region rfl ?_
   refine go (m_move) ?_
   refine go (m_fa ty_88) ?_
   refine go (m_load ty_3) ?_
   refine go (m_bin) ?_
   refine .nil ⟨by kernel_rfl, ?_⟩
   refine k12 _ ?_
   refine d_condT rfl ?_
   refine d_skip ?_
   refine k11 _ ?_
   refine d_seq fun K13 k13 => ?_
   refine d_block ?_
   refine d_region rfl ?_
   refine go (m_move) ?_
   refine go (m_load ty_88) ?_
   refine go (m_move) ?_
   refine go (m_bin) ?_
   refine go (m_call (word_d s a r d (1 + k) hW ha (by unfold I64; omega))) ?_
   refine go (m_lit ty_26 ty_3) ?_
   refine go (m_app ty_26 ty_3) ?_
   refine go (m_set) ?_
   refine .nil ⟨by kernel_rfl, ?_⟩
   refine k13 _ ?_
   refine d_region rfl ?_
   refine go (m_move) ?_
   refine go (m_bin) ?_
   refine go (m_set) ?_
   refine .nil ⟨by kernel_rfl, ?_⟩
   have hx : (fldL s a k).map iC ++ [[DI (StepR s a (1 + (k : Int))).1]] = (fldL s a (k + 1)).map iC := by rw [fldL_succ, StepR_t hs]
   exact ⟨k + 1, ⟨by omega, by omega⟩, by omega, wk [(0, 0), (1, 3)]⟩
  ·
   refine d_seq fun K14 k14 => ?_
   refine d_seq fun K15 k15 => ?_
   refine d_region rfl ?_
   refine go (m_move) ?_
   refine go (m_fa ty_88) ?_
   refine go (m_load ty_3) ?_
   refine go (m_bin) ?_
   refine .nil ⟨by kernel_rfl, ?_⟩
   refine k15 _ ?_
   refine d_condF rfl ?_
   refine d_exit ?_
   refine k6 _ ?_
   refine d_seq fun K16 k16 => ?_
   have hkr : k = r := by omega
   subst hkr
   refine d_region rfl ?_
   refine go (m_move) ?_
   refine go (m_set) ?_
   refine go (m_set) ?_
   refine .nil ⟨by kernel_rfl, ?_⟩
   refine k16 _ ?_
   refine d_ret ?_
   change RetD _ _ _ _ _ _ _
   exact fin [(0, 1)] (.tmp (.tmp (.nil)))

end Go.Proofs.Ytbidedbpmhcoaaa
/- Fields of objects: the reference. No condition. -/
namespace Go.Proofs.Ytbidedbpmhcoaaa
open Go.RowKit
set_option linter.unusedSimpArgs false
set_option linter.unusedVariables false
theorem look_1 {s : Sp} {a : Int} (h1 : ¬ (GoR s a 0).2 = 0) : LookR s a = ⟨0, 0, (GoR s a 0).2⟩ := if_pos h1
theorem look_2 {s : Sp} {a : Int} (h1 : (GoR s a 0).2 = 0) (h2 : ¬ (DecR (wAt s a)).e = 0 ∨ (DecR (wAt s a)).mv = true) : LookR s a = ⟨0, 0, 12⟩ := (if_neg (by simp [h1])).trans (if_pos h2)
theorem look_3 {s : Sp} {a r d A : Int} (h1 : (GoR s a 0).2 = 0) (h2 : DecR (wAt s a) = ⟨r, d, A, false, 0⟩) (h4 : ¬ (GoR s a (r + d)).2 = 0) : LookR s a = ⟨0, 0, 2⟩ := by
 unfold LookR
 rw [if_neg (by simp [h1]), h2, if_neg (by simp), if_pos h4]
theorem look_4 {s : Sp} {a r d A : Int} (h1 : (GoR s a 0).2 = 0) (h2 : DecR (wAt s a) = ⟨r, d, A, false, 0⟩) (h4 : (GoR s a (r + d)).2 = 0) : LookR s a = ⟨r, d, 0⟩ := by
 unfold LookR
 rw [if_neg (by simp [h1]), h2, if_neg (by simp), if_neg (by simp [h4])]

set_option maxRecDepth 20000 in
set_option maxHeartbeats 4000000 in
theorem look_d (s : Sp) (a : Int) (hs : SpOk s) (hW : SpW s) (ha : I64 a) : DCall Try.prog 59 [spD s, DI a] [] (tup3 (LookR s a)) [] := by
 refine DCall.mk Try.func59 rfl rfl ?_
 by_cases h1 : (GoR s a 0).2 = 0
 ·
  have q1 := h1
  obtain ⟨q6, q7, _⟩ := GoR_e q1
  obtain ⟨x, hx, hxv, hxw⟩ := w_nat hW (a := a) q6 (by omega)
  obtain ⟨r, d, A, mv, f, hD⟩ : ∃ r d A mv f, DecR (x : Int) = ⟨r, d, A, mv, f⟩ := ⟨_, _, _, _, _, rfl⟩
  by_cases h2 : f = 0
  ·
   subst h2
   by_cases h3 : mv = false
   ·
    subst h3
    have hh : HdOk r d := by have := hd_rng (w := (x : Int)) (by omega) (by rw [hD]) (by rw [hD]); rw [hD] at this; exact this
    unfold HdOk at hh
    by_cases h4 : (GoR s a (r + d)).2 = 0
    ·
     have hdc := rdec_d x hx
     rw [hD] at hdc
     refine d_seq fun K1 k1 => ?_
     refine d_region rfl ?_
     refine go (m_box ty_25) ?_
     refine go (m_set) ?_
     refine go (m_set) ?_
     refine go (m_set) ?_
     refine .nil ⟨by kernel_rfl, ?_⟩
     refine k1 _ ?_
     refine d_seq fun K2 k2 => ?_
     refine d_seq fun K3 k3 => ?_
     refine d_region rfl ?_
     refine go (m_load ty_25) ?_
     refine go (m_move) ?_
     refine go (m_callT (vs := [.int .i64 (GoR s a (0)).1, .int .i64 (GoR s a (0)).2]) (go_d s a (0) hs.shp hs.nxIn ha (by unfold I64; omega))) ?_
     refine go (m_move) ?_
     refine go (m_ext) ?_
     refine go (m_ext) ?_
     refine go (m_set) ?_
     refine go (m_set) ?_
     refine .nil ⟨by kernel_rfl, ?_⟩
     refine k3 _ ?_
     refine d_seq fun K4 k4 => ?_
     refine d_region rfl ?_
     refine go (m_move) ?_
     refine go (m_bin) ?_
     refine .nil ⟨by kernel_rfl, ?_⟩
     refine k4 _ ?_
     refine d_condF rfl ?_
     refine d_skip ?_
     refine k2 _ ?_
     refine d_seq fun K5 k5 => ?_
     refine d_region rfl ?_
     refine go (m_fa ty_25) ?_
     refine go (m_load ty_22) ?_
     refine go (m_move) ?_
     refine go (m_ia ty_22 ty_50) ?_
     refine go (m_load ty_50) ?_
     refine go (m_callT (vs := [.int .i64 r, .int .i64 d, .int .i64 A, .bool false, .int .i64 0]) hdc) ?_
     refine go (m_move) ?_
     refine go (m_ext) ?_
     refine go (m_ext) ?_
     refine go (m_ext) ?_
     refine go (m_ext) ?_
     refine go (m_ext) ?_
     refine go (m_set) ?_
     refine go (m_set) ?_
     refine go (m_set) ?_
     refine go (m_set) ?_
     refine go (m_set) ?_
     refine .nil ⟨by kernel_rfl, ?_⟩
     refine k5 _ ?_
     refine d_seq fun K6 k6 => ?_
     refine d_seq fun K7 k7 => ?_
     refine d_region rfl ?_
     refine go (m_move) ?_
     refine go (m_bin) ?_
     refine go (m_move) ?_
     first | refine no ?_ | refine go (m_move) ?_
     refine go (m_pick) ?_
     refine .nil ⟨by kernel_rfl, ?_⟩
     refine k7 _ ?_
     refine d_condF rfl ?_
     refine d_skip ?_
     refine k6 _ ?_
     refine d_seq fun K8 k8 => ?_
     refine d_seq fun K9 k9 => ?_
     refine d_region rfl ?_
     refine go (m_load ty_25) ?_
     refine go (m_move) ?_
     refine go (m_move) ?_
     refine go (m_move) ?_
     refine go (m_bin) ?_
     refine go (m_callT (vs := [.int .i64 (GoR s a (r + d)).1, .int .i64 (GoR s a (r + d)).2]) (go_d s a (r + d) hs.shp hs.nxIn ha (by unfold I64; omega))) ?_
     refine go (m_move) ?_
     refine go (m_ext) ?_
     refine go (m_ext) ?_
     refine go (m_set) ?_
     refine go (m_set) ?_
     refine .nil ⟨by kernel_rfl, ?_⟩
     refine k9 _ ?_
     refine d_seq fun K10 k10 => ?_
     refine d_region rfl ?_
     refine go (m_move) ?_
     refine go (m_bin) ?_
     refine .nil ⟨by kernel_rfl, ?_⟩
     refine k10 _ ?_
     refine d_condF rfl ?_
     refine d_skip ?_
     refine k8 _ ?_
     refine d_seq fun K11 k11 => ?_
     refine d_region rfl ?_
     refine go (m_move) ?_
     refine go (m_move) ?_
     refine go (m_set) ?_
     refine go (m_set) ?_
     refine go (m_set) ?_
     refine .nil ⟨by kernel_rfl, ?_⟩
     refine k11 _ ?_
     refine d_ret ?_
     change RetD _ _ _ _ _ _ _
     exact fin [] (.tmp (.tmp (.tmp (.nil)))) (h1 := .t3 (look_4 q1 (hxw ▸ hD) h4))
    ·
     have hdc := rdec_d x hx
     rw [hD] at hdc
     refine d_seq fun K12 k12 => ?_
     refine d_region rfl ?_
     refine go (m_box ty_25) ?_
     refine go (m_set) ?_
     refine go (m_set) ?_
     refine go (m_set) ?_
     refine .nil ⟨by kernel_rfl, ?_⟩
     refine k12 _ ?_
     refine d_seq fun K13 k13 => ?_
     refine d_seq fun K14 k14 => ?_
     refine d_region rfl ?_
     refine go (m_load ty_25) ?_
     refine go (m_move) ?_
     refine go (m_callT (vs := [.int .i64 (GoR s a (0)).1, .int .i64 (GoR s a (0)).2]) (go_d s a (0) hs.shp hs.nxIn ha (by unfold I64; omega))) ?_
     refine go (m_move) ?_
     refine go (m_ext) ?_
     refine go (m_ext) ?_
     refine go (m_set) ?_
     refine go (m_set) ?_
     refine .nil ⟨by kernel_rfl, ?_⟩
     refine k14 _ ?_
     refine d_seq fun K15 k15 => ?_
     refine d_region rfl ?_
     refine go (m_move) ?_
     refine go (m_bin) ?_
     refine .nil ⟨by kernel_rfl, ?_⟩
     refine k15 _ ?_
     refine d_condF rfl ?_
     refine d_skip ?_
     refine k13 _ ?_
     refine d_seq fun K16 k16 => ?_
     refine d_region rfl ?_
     refine go (m_fa ty_25) ?_
     refine go (m_load ty_22) ?_
     refine go (m_move) ?_
     refine go (m_ia ty_22 ty_50) ?_
     refine go (m_load ty_50) ?_
     refine go (m_callT (vs := [.int .i64 r, .int .i64 d, .int .i64 A, .bool false, .int .i64 0]) hdc) ?_
     refine go (m_move) ?_
     refine go (m_ext) ?_
     refine go (m_ext) ?_
     refine go (m_ext) ?_
     refine go (m_ext) ?_
     refine go (m_ext) ?_
     refine go (m_set) ?_
     refine go (m_set) ?_
     refine go (m_set) ?_
     refine go (m_set) ?_
     refine go (m_set) ?_
     refine .nil ⟨by kernel_rfl, ?_⟩
     refine k16 _ ?_
     refine d_seq fun K17 k17 => ?_
     refine d_seq fun K18 k18 => ?_
     refine d_region rfl ?_
     refine go (m_move) ?_
     refine go (m_bin) ?_
     refine go (m_move) ?_
     first | refine no ?_ | refine go (m_move) ?_
     refine go (m_pick) ?_
     refine .nil ⟨by kernel_rfl, ?_⟩
     refine k18 _ ?_
     refine d_condF rfl ?_
     refine d_skip ?_
     refine k17 _ ?_
     refine d_seq fun K19 k19 => ?_
     refine d_seq fun K20 k20 => ?_
     refine d_region rfl ?_
     refine go (m_load ty_25) ?_
     refine go (m_move) ?_
     refine go (m_move) ?_
     refine go (m_move) ?_
     refine go (m_bin) ?_
     refine go (m_callT (vs := [.int .i64 (GoR s a (r + d)).1, .int .i64 (GoR s a (r + d)).2]) (go_d s a (r + d) hs.shp hs.nxIn ha (by unfold I64; omega))) ?_
     refine go (m_move) ?_
     refine go (m_ext) ?_
     refine go (m_ext) ?_
     refine go (m_set) ?_
     refine go (m_set) ?_
     refine .nil ⟨by kernel_rfl, ?_⟩
     refine k20 _ ?_
     refine d_seq fun K21 k21 => ?_
     refine d_region rfl ?_
     refine go (m_move) ?_
     refine go (m_bin) ?_
     refine .nil ⟨by kernel_rfl, ?_⟩
     refine k21 _ ?_
     refine d_condT rfl ?_
     refine d_seq fun K22 k22 => ?_
     refine d_region rfl ?_
     refine go (m_set) ?_
     refine go (m_set) ?_
     refine go (m_set) ?_
     refine .nil ⟨by kernel_rfl, ?_⟩
     refine k22 _ ?_
     refine d_ret ?_
     change RetD _ _ _ _ _ _ _
     exact fin [] (.tmp (.tmp (.tmp (.nil)))) (h1 := .t3 (look_3 q1 (hxw ▸ hD) h4))
   ·
    obtain rfl : mv = true := by simpa using h3
    have hdc := rdec_d x hx
    rw [hD] at hdc
    refine d_seq fun K23 k23 => ?_
    refine d_region rfl ?_
    refine go (m_box ty_25) ?_
    refine go (m_set) ?_
    refine go (m_set) ?_
    refine go (m_set) ?_
    refine .nil ⟨by kernel_rfl, ?_⟩
    refine k23 _ ?_
    refine d_seq fun K24 k24 => ?_
    refine d_seq fun K25 k25 => ?_
    refine d_region rfl ?_
    refine go (m_load ty_25) ?_
    refine go (m_move) ?_
    refine go (m_callT (vs := [.int .i64 (GoR s a (0)).1, .int .i64 (GoR s a (0)).2]) (go_d s a (0) hs.shp hs.nxIn ha (by unfold I64; omega))) ?_
    refine go (m_move) ?_
    refine go (m_ext) ?_
    refine go (m_ext) ?_
    refine go (m_set) ?_
    refine go (m_set) ?_
    refine .nil ⟨by kernel_rfl, ?_⟩
    refine k25 _ ?_
    refine d_seq fun K26 k26 => ?_
    refine d_region rfl ?_
    refine go (m_move) ?_
    refine go (m_bin) ?_
    refine .nil ⟨by kernel_rfl, ?_⟩
    refine k26 _ ?_
    refine d_condF rfl ?_
    refine d_skip ?_
    refine k24 _ ?_
    refine d_seq fun K27 k27 => ?_
    refine d_region rfl ?_
    refine go (m_fa ty_25) ?_
    refine go (m_load ty_22) ?_
    refine go (m_move) ?_
    refine go (m_ia ty_22 ty_50) ?_
    refine go (m_load ty_50) ?_
    refine go (m_callT (vs := [.int .i64 r, .int .i64 d, .int .i64 A, .bool true, .int .i64 0]) hdc) ?_
    refine go (m_move) ?_
    refine go (m_ext) ?_
    refine go (m_ext) ?_
    refine go (m_ext) ?_
    refine go (m_ext) ?_
    refine go (m_ext) ?_
    refine go (m_set) ?_
    refine go (m_set) ?_
    refine go (m_set) ?_
    refine go (m_set) ?_
    refine go (m_set) ?_
    refine .nil ⟨by kernel_rfl, ?_⟩
    refine k27 _ ?_
    refine d_seq fun K28 k28 => ?_
    refine d_seq fun K29 k29 => ?_
    refine d_region rfl ?_
    refine go (m_move) ?_
    refine go (m_bin) ?_
    refine go (m_move) ?_
    first | refine no ?_ | refine go (m_move) ?_
    refine go (m_pick) ?_
    refine .nil ⟨by kernel_rfl, ?_⟩
    refine k29 _ ?_
    refine d_condT rfl ?_
    refine d_seq fun K30 k30 => ?_
    refine d_region rfl ?_
    refine go (m_set) ?_
    refine go (m_set) ?_
    refine go (m_set) ?_
    refine .nil ⟨by kernel_rfl, ?_⟩
    refine k30 _ ?_
    refine d_ret ?_
    change RetD _ _ _ _ _ _ _
    exact fin [] (.tmp (.tmp (.tmp (.nil)))) (h1 := .t3 (look_2 q1 (by rw [hxw, hD]; exact .inr rfl)))
  ·
   have hdc := rdec_d x hx
   rw [hD] at hdc
   refine d_seq fun K31 k31 => ?_
   refine d_region rfl ?_
   refine go (m_box ty_25) ?_
   refine go (m_set) ?_
   refine go (m_set) ?_
   refine go (m_set) ?_
   refine .nil ⟨by kernel_rfl, ?_⟩
   refine k31 _ ?_
   refine d_seq fun K32 k32 => ?_
   refine d_seq fun K33 k33 => ?_
   refine d_region rfl ?_
   refine go (m_load ty_25) ?_
   refine go (m_move) ?_
   refine go (m_callT (vs := [.int .i64 (GoR s a (0)).1, .int .i64 (GoR s a (0)).2]) (go_d s a (0) hs.shp hs.nxIn ha (by unfold I64; omega))) ?_
   refine go (m_move) ?_
   refine go (m_ext) ?_
   refine go (m_ext) ?_
   refine go (m_set) ?_
   refine go (m_set) ?_
   refine .nil ⟨by kernel_rfl, ?_⟩
   refine k33 _ ?_
   refine d_seq fun K34 k34 => ?_
   refine d_region rfl ?_
   refine go (m_move) ?_
   refine go (m_bin) ?_
   refine .nil ⟨by kernel_rfl, ?_⟩
   refine k34 _ ?_
   refine d_condF rfl ?_
   refine d_skip ?_
   refine k32 _ ?_
   refine d_seq fun K35 k35 => ?_
   refine d_region rfl ?_
   refine go (m_fa ty_25) ?_
   refine go (m_load ty_22) ?_
   refine go (m_move) ?_
   refine go (m_ia ty_22 ty_50) ?_
   refine go (m_load ty_50) ?_
   refine go (m_callT (vs := [.int .i64 r, .int .i64 d, .int .i64 A, .bool mv, .int .i64 f]) hdc) ?_
   refine go (m_move) ?_
   refine go (m_ext) ?_
   refine go (m_ext) ?_
   refine go (m_ext) ?_
   refine go (m_ext) ?_
   refine go (m_ext) ?_
   refine go (m_set) ?_
   refine go (m_set) ?_
   refine go (m_set) ?_
   refine go (m_set) ?_
   refine go (m_set) ?_
   refine .nil ⟨by kernel_rfl, ?_⟩
   refine k35 _ ?_
   refine d_seq fun K36 k36 => ?_
   refine d_seq fun K37 k37 => ?_
   refine d_region rfl ?_
   refine go (m_move) ?_
   refine go (m_bin) ?_
   refine go (m_move) ?_
   first | refine no ?_ | refine go (m_move) ?_
   refine go (m_pick) ?_
   refine .nil ⟨by kernel_rfl, ?_⟩
   refine k37 _ ?_
   refine d_condT rfl ?_
   refine d_seq fun K38 k38 => ?_
   refine d_region rfl ?_
   refine go (m_set) ?_
   refine go (m_set) ?_
   refine go (m_set) ?_
   refine .nil ⟨by kernel_rfl, ?_⟩
   refine k38 _ ?_
   refine d_ret ?_
   change RetD _ _ _ _ _ _ _
   exact fin [] (.tmp (.tmp (.tmp (.nil)))) (h1 := .t3 (look_2 q1 (by rw [hxw, hD]; exact .inl h2)))
 ·
  refine d_seq fun K39 k39 => ?_
  refine d_region rfl ?_
  refine go (m_box ty_25) ?_
  refine go (m_set) ?_
  refine go (m_set) ?_
  refine go (m_set) ?_
  refine .nil ⟨by kernel_rfl, ?_⟩
  refine k39 _ ?_
  refine d_seq fun K40 k40 => ?_
  refine d_seq fun K41 k41 => ?_
  refine d_region rfl ?_
  refine go (m_load ty_25) ?_
  refine go (m_move) ?_
  refine go (m_callT (vs := [.int .i64 (GoR s a (0)).1, .int .i64 (GoR s a (0)).2]) (go_d s a (0) hs.shp hs.nxIn ha (by unfold I64; omega))) ?_
  refine go (m_move) ?_
  refine go (m_ext) ?_
  refine go (m_ext) ?_
  refine go (m_set) ?_
  refine go (m_set) ?_
  refine .nil ⟨by kernel_rfl, ?_⟩
  refine k41 _ ?_
  refine d_seq fun K42 k42 => ?_
  refine d_region rfl ?_
  refine go (m_move) ?_
  refine go (m_bin) ?_
  refine .nil ⟨by kernel_rfl, ?_⟩
  refine k42 _ ?_
  refine d_condT rfl ?_
  refine d_seq fun K43 k43 => ?_
  refine d_region rfl ?_
  refine go (m_move) ?_
  refine go (m_set) ?_
  refine go (m_set) ?_
  refine go (m_set) ?_
  refine .nil ⟨by kernel_rfl, ?_⟩
  refine k43 _ ?_
  refine d_ret ?_
  change RetD _ _ _ _ _ _ _
  exact fin [] (.tmp (.tmp (.tmp (.nil)))) (h1 := .t3 (look_1 h1))

set_option maxRecDepth 20000 in
set_option maxHeartbeats 4000000 in
theorem placeT_d (s : Sp) (a i : Int) (hs : SpOk s) (hW : SpW s) (ha : I64 a) : DCall Try.prog 94 [spD s, DI a, DI i, DB true] [] (tup2 (PlaceR s a i true)) [] := by
 refine DCall.mk Try.func94 rfl rfl ?_
 obtain ⟨r, d, e, h, hz⟩ := ShapeR_cases s a
 have hlk : DCall Try.prog 59 [spD s, DI a] [] (tup3 ⟨r, d, e⟩) [] := by have h1 := look_d s a hs hW ha; rw [← ShapeR_t hs, h] at h1; exact h1
 by_cases he : e = 0
 ·
  subst he
  obtain ⟨_, hL, q1, q2, q3, q4, q5⟩ := ShapeR_ok hW h
  have q8 := q3
  unfold HdOk at q8
  refine d_seq fun K1 k1 => ?_
  refine d_region rfl ?_
  refine go (m_box ty_25) ?_
  refine go (m_set) ?_
  refine go (m_set) ?_
  refine .nil ⟨by kernel_rfl, ?_⟩
  refine k1 _ ?_
  refine d_seq fun K2 k2 => ?_
  refine d_region rfl ?_
  refine go (m_load ty_25) ?_
  refine go (m_move) ?_
  refine go (m_callT (vs := [.int .i64 r, .int .i64 d, .int .i64 0]) hlk) ?_
  refine go (m_move) ?_
  refine go (m_ext) ?_
  refine go (m_ext) ?_
  refine go (m_ext) ?_
  refine go (m_set) ?_
  refine go (m_set) ?_
  refine go (m_set) ?_
  refine .nil ⟨by kernel_rfl, ?_⟩
  refine k2 _ ?_
  refine d_seq fun K3 k3 => ?_
  refine d_seq fun K4 k4 => ?_
  refine d_region rfl ?_
  refine go (m_move) ?_
  refine go (m_bin) ?_
  refine .nil ⟨by kernel_rfl, ?_⟩
  refine k4 _ ?_
  refine d_condF rfl ?_
  refine d_skip ?_
  refine k3 _ ?_
  refine d_seq fun K5 k5 => ?_
  refine d_region rfl ?_
  refine go (m_move) ?_
  refine go (m_move) ?_
  refine go (m_bin) ?_
  refine go (m_set) ?_
  refine go (m_set) ?_
  refine .nil ⟨by kernel_rfl, ?_⟩
  refine k5 _ ?_
  refine d_seq fun K6 k6 => ?_
  refine d_seq fun K7 k7 => ?_
  refine d_region rfl ?_
  refine go (m_move) ?_
  refine .nil ⟨by kernel_rfl, ?_⟩
  refine k7 _ ?_
  refine d_condT rfl ?_
  refine d_region rfl ?_
  refine go (m_move) ?_
  refine go (m_set) ?_
  refine go (m_set) ?_
  refine .nil ⟨by kernel_rfl, ?_⟩
  refine k6 _ ?_
  refine d_seq fun K8 k8 => ?_
  refine d_seq fun K9 k9 => ?_
  by_cases h1 : 0 ≤ i
  ·
   by_cases h2 : i < r
   ·
    refine d_region rfl ?_
    refine go (m_move) ?_
    refine go (m_bin) ?_
    refine go (m_move) ?_
    first | refine no ?_ | refine go (m_move) ?_
    first | refine no ?_ | refine go (m_move) ?_
    first | refine no ?_ | refine go (m_bin) ?_
    refine go (m_pick) ?_
    refine .nil ⟨by kernel_rfl, ?_⟩
    refine k9 _ ?_
    refine d_condF rfl ?_
    refine d_skip ?_
    refine k8 _ ?_
    refine d_seq fun K10 k10 => ?_
    refine d_region rfl ?_
    refine go (m_load ty_25) ?_
    refine go (m_move) ?_
    refine go (m_move) ?_
    refine go (m_move) ?_
    refine go (m_bin) ?_
    refine go (m_callT (vs := [.int .i64 (GoR s a (1 + i)).1, .int .i64 (GoR s a (1 + i)).2]) (go_d s a (1 + i) hs.shp hs.nxIn ha (by unfold I64; omega))) ?_
    refine go (m_ext) ?_
    refine go (m_ext) ?_
    refine go (m_set) ?_
    refine go (m_set) ?_
    refine .nil ⟨by kernel_rfl, ?_⟩
    refine k10 _ ?_
    refine d_ret ?_
    change RetD _ _ _ _ _ _ _
    exact fin [] (.tmp (.tmp (.nil))) (h1 := .t2 ((PlaceR_t h (by simp; omega)).trans (Prod.ext rfl (GoR_mono hs.shp hs.nxIn q5 (by first | omega | (simp; omega)) (by first | omega | (simp; omega))).symm)))
   ·
    refine d_region rfl ?_
    refine go (m_move) ?_
    refine go (m_bin) ?_
    refine go (m_move) ?_
    first | refine no ?_ | refine go (m_move) ?_
    first | refine no ?_ | refine go (m_move) ?_
    first | refine no ?_ | refine go (m_bin) ?_
    refine go (m_pick) ?_
    refine .nil ⟨by kernel_rfl, ?_⟩
    refine k9 _ ?_
    refine d_condT rfl ?_
    refine d_seq fun K11 k11 => ?_
    refine d_region rfl ?_
    refine go (m_set) ?_
    refine go (m_set) ?_
    refine .nil ⟨by kernel_rfl, ?_⟩
    refine k11 _ ?_
    refine d_ret ?_
    change RetD _ _ _ _ _ _ _
    exact fin [] (.tmp (.tmp (.nil))) (h1 := .t2 (PlaceR_i h (by simp; omega)))
  ·
   refine d_region rfl ?_
   refine go (m_move) ?_
   refine go (m_bin) ?_
   refine go (m_move) ?_
   first | refine no ?_ | refine go (m_move) ?_
   first | refine no ?_ | refine go (m_move) ?_
   first | refine no ?_ | refine go (m_bin) ?_
   refine go (m_pick) ?_
   refine .nil ⟨by kernel_rfl, ?_⟩
   refine k9 _ ?_
   refine d_condT rfl ?_
   refine d_seq fun K12 k12 => ?_
   refine d_region rfl ?_
   refine go (m_set) ?_
   refine go (m_set) ?_
   refine .nil ⟨by kernel_rfl, ?_⟩
   refine k12 _ ?_
   refine d_ret ?_
   change RetD _ _ _ _ _ _ _
   exact fin [] (.tmp (.tmp (.nil))) (h1 := .t2 (PlaceR_i h (by simp; omega)))
 ·
  obtain ⟨rfl, rfl⟩ : r = 0 ∧ d = 0 := by omega
  refine d_seq fun K13 k13 => ?_
  refine d_region rfl ?_
  refine go (m_box ty_25) ?_
  refine go (m_set) ?_
  refine go (m_set) ?_
  refine .nil ⟨by kernel_rfl, ?_⟩
  refine k13 _ ?_
  refine d_seq fun K14 k14 => ?_
  refine d_region rfl ?_
  refine go (m_load ty_25) ?_
  refine go (m_move) ?_
  refine go (m_callT (vs := [.int .i64 0, .int .i64 0, .int .i64 e]) hlk) ?_
  refine go (m_move) ?_
  refine go (m_ext) ?_
  refine go (m_ext) ?_
  refine go (m_ext) ?_
  refine go (m_set) ?_
  refine go (m_set) ?_
  refine go (m_set) ?_
  refine .nil ⟨by kernel_rfl, ?_⟩
  refine k14 _ ?_
  refine d_seq fun K15 k15 => ?_
  refine d_seq fun K16 k16 => ?_
  refine d_region rfl ?_
  refine go (m_move) ?_
  refine go (m_bin) ?_
  refine .nil ⟨by kernel_rfl, ?_⟩
  refine k16 _ ?_
  refine d_condT rfl ?_
  refine d_seq fun K17 k17 => ?_
  refine d_region rfl ?_
  refine go (m_move) ?_
  refine go (m_set) ?_
  refine go (m_set) ?_
  refine .nil ⟨by kernel_rfl, ?_⟩
  refine k17 _ ?_
  refine d_ret ?_
  change RetD _ _ _ _ _ _ _
  exact fin [] (.tmp (.tmp (.nil))) (h1 := .t2 (PlaceR_e h he))

set_option maxRecDepth 20000 in
set_option maxHeartbeats 4000000 in
theorem rgetT_d (s : Sp) (a i : Int) (hW : SpW s) (ha : I64 a) : DCall Try.prog 63 [spD s, DI a, DI i, DB true] [] (tupU (GetR s a i true)) [] := by
 refine DCall.mk Try.func63 rfl rfl ?_
 by_cases hs : SpOk s
 ·
  obtain ⟨x, f, hP⟩ : ∃ x f, PlaceR s a i true = (x, f) := ⟨_, _, rfl⟩
  have hpl : DCall Try.prog 94 [spD s, DI a, DI i, DB true] [] (tup2 (x, f)) [] := hP ▸ placeT_d s a i hs hW ha
  by_cases hf : f = 0
  ·
   subst hf
   have hg := PlaceR_rng (i := i) (ref := true) hW (by rw [hP])
   rw [hP] at hg
   simp only [] at hg
   refine d_seq fun K1 k1 => ?_
   refine d_region rfl ?_
   refine go (m_box ty_25) ?_
   refine go (m_set) ?_
   refine go (m_set) ?_
   refine .nil ⟨by kernel_rfl, ?_⟩
   refine k1 _ ?_
   refine d_seq fun K2 k2 => ?_
   refine d_seq fun K3 k3 => ?_
   refine d_region rfl ?_
   refine go (m_load ty_25) ?_
   refine go (m_call ((rvalid_d s hW).t hs)) ?_
   refine go (m_not) ?_
   refine .nil ⟨by kernel_rfl, ?_⟩
   refine k3 _ ?_
   refine d_condF rfl ?_
   refine d_skip ?_
   refine k2 _ ?_
   refine d_seq fun K4 k4 => ?_
   refine d_region rfl ?_
   refine go (m_load ty_25) ?_
   refine go (m_move) ?_
   refine go (m_move) ?_
   refine go (m_move) ?_
   refine go (m_callT (vs := [.int .i64 x, .int .i64 0]) hpl) ?_
   refine go (m_move) ?_
   refine go (m_ext) ?_
   refine go (m_ext) ?_
   refine go (m_set) ?_
   refine go (m_set) ?_
   refine .nil ⟨by kernel_rfl, ?_⟩
   refine k4 _ ?_
   refine d_seq fun K5 k5 => ?_
   refine d_seq fun K6 k6 => ?_
   refine d_region rfl ?_
   refine go (m_move) ?_
   refine go (m_bin) ?_
   refine .nil ⟨by kernel_rfl, ?_⟩
   refine k6 _ ?_
   refine d_condF rfl ?_
   refine d_skip ?_
   refine k5 _ ?_
   refine d_seq fun K7 k7 => ?_
   refine d_region rfl ?_
   refine go (m_fa ty_25) ?_
   refine go (m_load ty_22) ?_
   refine go (m_move) ?_
   refine go (m_ia ty_22 ty_50) ?_
   refine go (m_load ty_50) ?_
   refine go (m_set) ?_
   refine go (m_set) ?_
   refine .nil ⟨by kernel_rfl, ?_⟩
   refine k7 _ ?_
   refine d_ret ?_
   change RetD _ _ _ _ _ _ _
   exact fin [] (.tmp (.tmp (.nil))) (h1 := .tU ((GetR_t hP).trans (by rw [wAt_in hg.1 (by omega)])))
  ·
   refine d_seq fun K8 k8 => ?_
   refine d_region rfl ?_
   refine go (m_box ty_25) ?_
   refine go (m_set) ?_
   refine go (m_set) ?_
   refine .nil ⟨by kernel_rfl, ?_⟩
   refine k8 _ ?_
   refine d_seq fun K9 k9 => ?_
   refine d_seq fun K10 k10 => ?_
   refine d_region rfl ?_
   refine go (m_load ty_25) ?_
   refine go (m_call ((rvalid_d s hW).t hs)) ?_
   refine go (m_not) ?_
   refine .nil ⟨by kernel_rfl, ?_⟩
   refine k10 _ ?_
   refine d_condF rfl ?_
   refine d_skip ?_
   refine k9 _ ?_
   refine d_seq fun K11 k11 => ?_
   refine d_region rfl ?_
   refine go (m_load ty_25) ?_
   refine go (m_move) ?_
   refine go (m_move) ?_
   refine go (m_move) ?_
   refine go (m_callT (vs := [.int .i64 x, .int .i64 f]) hpl) ?_
   refine go (m_move) ?_
   refine go (m_ext) ?_
   refine go (m_ext) ?_
   refine go (m_set) ?_
   refine go (m_set) ?_
   refine .nil ⟨by kernel_rfl, ?_⟩
   refine k11 _ ?_
   refine d_seq fun K12 k12 => ?_
   refine d_seq fun K13 k13 => ?_
   refine d_region rfl ?_
   refine go (m_move) ?_
   refine go (m_bin) ?_
   refine .nil ⟨by kernel_rfl, ?_⟩
   refine k13 _ ?_
   refine d_condT rfl ?_
   refine d_seq fun K14 k14 => ?_
   refine d_region rfl ?_
   refine go (m_move) ?_
   refine go (m_set) ?_
   refine go (m_set) ?_
   refine .nil ⟨by kernel_rfl, ?_⟩
   refine k14 _ ?_
   refine d_ret ?_
   change RetD _ _ _ _ _ _ _
   exact fin [] (.tmp (.tmp (.nil))) (h1 := .tU (GetR_e hP hf))
 ·
  have hP : PlaceR s a i true = (0, 1) := PlaceR_e (ShapeR_f hs) (by decide)
  refine d_seq fun K15 k15 => ?_
  refine d_region rfl ?_
  refine go (m_box ty_25) ?_
  refine go (m_set) ?_
  refine go (m_set) ?_
  refine .nil ⟨by kernel_rfl, ?_⟩
  refine k15 _ ?_
  refine d_seq fun K16 k16 => ?_
  refine d_seq fun K17 k17 => ?_
  refine d_region rfl ?_
  refine go (m_load ty_25) ?_
  refine go (m_call ((rvalid_d s hW).f hs)) ?_
  refine go (m_not) ?_
  refine .nil ⟨by kernel_rfl, ?_⟩
  refine k17 _ ?_
  refine d_condT rfl ?_
  refine d_seq fun K18 k18 => ?_
  refine d_region rfl ?_
  refine go (m_set) ?_
  refine go (m_set) ?_
  refine .nil ⟨by kernel_rfl, ?_⟩
  refine k18 _ ?_
  refine d_ret ?_
  change RetD _ _ _ _ _ _ _
  exact fin [] (.tmp (.tmp (.nil))) (h1 := .tU (GetR_e hP (by decide)))

set_option maxRecDepth 20000 in
set_option maxHeartbeats 4000000 in
theorem rsetbT_d (s : Sp) (a i v : Int) (hW : SpW s) (ha : I64 a)  (g : Int) (hf0 : PlaceR s a i true = (0, g)) (hg0 : ¬ g = 0) (hl : SpLen s) : DCall Try.prog 65 [spD s, DI a, DI i, DB true, DU v] [] (.tup [.agg [DI 0, DN, DN], DI g]) [] := by
 refine DCall.mk Try.func65 rfl rfl ?_
 by_cases hs : SpOk s
 ·
  obtain ⟨x, f, hP⟩ : ∃ x f, PlaceR s a i true = (x, f) := ⟨_, _, rfl⟩
  have hpl : DCall Try.prog 94 [spD s, DI a, DI i, DB true] [] (tup2 (x, f)) [] := hP ▸ placeT_d s a i hs hW ha
  by_cases hf : f = 0
  ·
   subst hf
   have hg := PlaceR_rng (i := i) (ref := true) hW (by rw [hP])
   rw [hP] at hg
   simp only [] at hg
   refine d_seq fun K1 k1 => ?_
   refine d_region rfl ?_
   refine go (m_box ty_25) ?_
   refine go (m_alloc ty_25) ?_
   refine go (m_set) ?_
   refine .nil ⟨by kernel_rfl, ?_⟩
   refine k1 _ ?_
   refine d_seq fun K2 k2 => ?_
   refine d_seq fun K3 k3 => ?_
   refine d_region rfl ?_
   refine go (m_load ty_25) ?_
   refine go (m_call ((rvalid_d s hW).t hs)) ?_
   refine go (m_not) ?_
   refine .nil ⟨by kernel_rfl, ?_⟩
   refine k3 _ ?_
   refine d_condF rfl ?_
   refine d_skip ?_
   refine k2 _ ?_
   refine d_seq fun K4 k4 => ?_
   refine d_region rfl ?_
   refine go (m_load ty_25) ?_
   refine go (m_move) ?_
   refine go (m_move) ?_
   refine go (m_move) ?_
   refine go (m_callT (vs := [.int .i64 x, .int .i64 0]) hpl) ?_
   refine go (m_move) ?_
   refine go (m_ext) ?_
   refine go (m_ext) ?_
   refine go (m_set) ?_
   refine go (m_set) ?_
   refine .nil ⟨by kernel_rfl, ?_⟩
   refine k4 _ ?_
   refine d_seq fun K5 k5 => ?_
   refine d_seq fun K6 k6 => ?_
   refine d_region rfl ?_
   refine go (m_move) ?_
   refine go (m_bin) ?_
   refine .nil ⟨by kernel_rfl, ?_⟩
   refine k6 _ ?_
   refine d_condF rfl ?_
   refine d_skip ?_
   refine k5 _ ?_
   refine d_seq fun K7 k7 => ?_
   exact absurd (congrArg Prod.snd (hP.symm.trans hf0)).symm hg0
  ·
   refine d_seq fun K8 k8 => ?_
   refine d_region rfl ?_
   refine go (m_box ty_25) ?_
   refine go (m_alloc ty_25) ?_
   refine go (m_set) ?_
   refine .nil ⟨by kernel_rfl, ?_⟩
   refine k8 _ ?_
   refine d_seq fun K9 k9 => ?_
   refine d_seq fun K10 k10 => ?_
   refine d_region rfl ?_
   refine go (m_load ty_25) ?_
   refine go (m_call ((rvalid_d s hW).t hs)) ?_
   refine go (m_not) ?_
   refine .nil ⟨by kernel_rfl, ?_⟩
   refine k10 _ ?_
   refine d_condF rfl ?_
   refine d_skip ?_
   refine k9 _ ?_
   refine d_seq fun K11 k11 => ?_
   refine d_region rfl ?_
   refine go (m_load ty_25) ?_
   refine go (m_move) ?_
   refine go (m_move) ?_
   refine go (m_move) ?_
   refine go (m_callT (vs := [.int .i64 x, .int .i64 f]) hpl) ?_
   refine go (m_move) ?_
   refine go (m_ext) ?_
   refine go (m_ext) ?_
   refine go (m_set) ?_
   refine go (m_set) ?_
   refine .nil ⟨by kernel_rfl, ?_⟩
   refine k11 _ ?_
   refine d_seq fun K12 k12 => ?_
   refine d_seq fun K13 k13 => ?_
   refine d_region rfl ?_
   refine go (m_move) ?_
   refine go (m_bin) ?_
   refine .nil ⟨by kernel_rfl, ?_⟩
   refine k13 _ ?_
   refine d_condT rfl ?_
   refine d_seq fun K14 k14 => ?_
   refine d_region rfl ?_
   refine go (m_build ty_25) ?_
   refine go (m_move) ?_
   refine go (m_store ty_25) ?_
   refine go (m_set) ?_
   refine .nil ⟨by kernel_rfl, ?_⟩
   refine k14 _ ?_
   refine d_ret ?_
   change RetD _ _ _ _ _ _ _
   exact fin [] (.cell ty_25 rfl rfl rfl rfl (.tmp (.nil))) (h1 := by repeat' (first | exact .lit | exact CvL.nil | apply CvL.cons | apply Cv.agg | apply Cv.tup | exact .litE (congrArg (Value.int _) (congrArg Prod.snd (hP.symm.trans hf0)))))
 ·
  have hP : PlaceR s a i true = (0, 1) := PlaceR_e (ShapeR_f hs) (by decide)
  refine d_seq fun K15 k15 => ?_
  refine d_region rfl ?_
  refine go (m_box ty_25) ?_
  refine go (m_alloc ty_25) ?_
  refine go (m_set) ?_
  refine .nil ⟨by kernel_rfl, ?_⟩
  refine k15 _ ?_
  refine d_seq fun K16 k16 => ?_
  refine d_seq fun K17 k17 => ?_
  refine d_region rfl ?_
  refine go (m_load ty_25) ?_
  refine go (m_call ((rvalid_d s hW).f hs)) ?_
  refine go (m_not) ?_
  refine .nil ⟨by kernel_rfl, ?_⟩
  refine k17 _ ?_
  refine d_condT rfl ?_
  refine d_seq fun K18 k18 => ?_
  refine d_region rfl ?_
  refine go (m_build ty_25) ?_
  refine go (m_store ty_25) ?_
  refine go (m_set) ?_
  refine .nil ⟨by kernel_rfl, ?_⟩
  refine k18 _ ?_
  refine d_ret ?_
  change RetD _ _ _ _ _ _ _
  exact fin [] (.cell ty_25 rfl rfl rfl rfl (.tmp (.nil))) (h1 := by repeat' (first | exact .lit | exact CvL.nil | apply CvL.cons | apply Cv.agg | apply Cv.tup | exact .litE (congrArg (Value.int _) (congrArg Prod.snd (hP.symm.trans hf0)))))

set_option maxRecDepth 20000 in
set_option maxHeartbeats 4000000 in
theorem rsetoT_d (s : Sp) (a i v : Int) (hW : SpW s) (ha : I64 a)  (y : Int) (hf0 : PlaceR s a i true = (y, 0)) (hl : SpLen s) : DCall Try.prog 65 [spD s, DI a, DI i, DB true, DU v] [] (.tup [.agg (spO 0 1 s), DI 0]) [(0, wO (s.ws.set y.toNat v)), (1, fO s.fs)] := by
 refine DCall.mk Try.func65 rfl rfl ?_
 by_cases hs : SpOk s
 ·
  obtain ⟨x, f, hP⟩ : ∃ x f, PlaceR s a i true = (x, f) := ⟨_, _, rfl⟩
  have hpl : DCall Try.prog 94 [spD s, DI a, DI i, DB true] [] (tup2 (x, f)) [] := hP ▸ placeT_d s a i hs hW ha
  by_cases hf : f = 0
  ·
   subst hf
   have hg := PlaceR_rng (i := i) (ref := true) hW (by rw [hP])
   rw [hP] at hg
   simp only [] at hg
   refine d_seq fun K1 k1 => ?_
   refine d_region rfl ?_
   refine go (m_box ty_25) ?_
   refine go (m_alloc ty_25) ?_
   refine go (m_set) ?_
   refine .nil ⟨by kernel_rfl, ?_⟩
   refine k1 _ ?_
   refine d_seq fun K2 k2 => ?_
   refine d_seq fun K3 k3 => ?_
   obtain rfl : x = y := congrArg Prod.fst (hP.symm.trans hf0)
   refine d_region rfl ?_
   refine go (m_load ty_25) ?_
   refine go (m_call ((rvalid_d s hW).t hs)) ?_
   refine go (m_not) ?_
   refine .nil ⟨by kernel_rfl, ?_⟩
   refine k3 _ ?_
   refine d_condF rfl ?_
   refine d_skip ?_
   refine k2 _ ?_
   refine d_seq fun K4 k4 => ?_
   refine d_region rfl ?_
   refine go (m_load ty_25) ?_
   refine go (m_move) ?_
   refine go (m_move) ?_
   refine go (m_move) ?_
   refine go (m_callT (vs := [.int .i64 x, .int .i64 0]) hpl) ?_
   refine go (m_move) ?_
   refine go (m_ext) ?_
   refine go (m_ext) ?_
   refine go (m_set) ?_
   refine go (m_set) ?_
   refine .nil ⟨by kernel_rfl, ?_⟩
   refine k4 _ ?_
   refine d_seq fun K5 k5 => ?_
   refine d_seq fun K6 k6 => ?_
   refine d_region rfl ?_
   refine go (m_move) ?_
   refine go (m_bin) ?_
   refine .nil ⟨by kernel_rfl, ?_⟩
   refine k6 _ ?_
   refine d_condF rfl ?_
   refine d_skip ?_
   refine k5 _ ?_
   refine d_seq fun K7 k7 => ?_
   refine d_region rfl ?_
   refine go (m_load ty_25) ?_
   refine go (m_callS [] (rcopy_d s hl) sc_spO (ScS.cons sc_u (ScS.one sc_fr))) ?_
   refine go (m_alloc ty_25) ?_
   refine go (m_store ty_25) ?_
   refine .nil ⟨by kernel_rfl, ?_⟩
   refine k7 _ ?_
   refine d_seq fun K8 k8 => ?_
   refine d_region rfl ?_
   refine go (m_fa ty_25) ?_
   refine go (m_load ty_22) ?_
   refine go (m_move) ?_
   refine go (m_move) ?_
   refine go (m_ia ty_22 ty_50) ?_
   refine go (m_store ty_50) ?_
   refine .nil ⟨by kernel_rfl, ?_⟩
   refine k8 _ ?_
   refine d_seq fun K9 k9 => ?_
   refine d_region rfl ?_
   refine go (m_load ty_25) ?_
   refine go (m_store ty_25) ?_
   refine go (m_set) ?_
   refine .nil ⟨by kernel_rfl, ?_⟩
   refine k9 _ ?_
   refine d_ret ?_
   change RetD _ _ _ _ _ _ _
   exact fin [(0, 2), (1, 3)] (.cell ty_25 rfl rfl rfl rfl (.tmp (.nil))) (h2 := by apply CvS.cons rfl rfl; exact .arrE (set_map (by simp) rfl); apply CvS.cons rfl rfl; exact .arr rfl; exact .nil)
  ·
   refine d_seq fun K10 k10 => ?_
   refine d_region rfl ?_
   refine go (m_box ty_25) ?_
   refine go (m_alloc ty_25) ?_
   refine go (m_set) ?_
   refine .nil ⟨by kernel_rfl, ?_⟩
   refine k10 _ ?_
   refine d_seq fun K11 k11 => ?_
   refine d_seq fun K12 k12 => ?_
   exact absurd (congrArg Prod.snd (hP.symm.trans hf0)) (by exact hf)
 ·
  have hP : PlaceR s a i true = (0, 1) := PlaceR_e (ShapeR_f hs) (by decide)
  refine d_seq fun K13 k13 => ?_
  refine d_region rfl ?_
  refine go (m_box ty_25) ?_
  refine go (m_alloc ty_25) ?_
  refine go (m_set) ?_
  refine .nil ⟨by kernel_rfl, ?_⟩
  refine k13 _ ?_
  refine d_seq fun K14 k14 => ?_
  refine d_seq fun K15 k15 => ?_
  exact absurd (congrArg Prod.snd (hP.symm.trans hf0)) (by show ¬ (1 : Int) = 0; decide)

set_option maxRecDepth 20000 in
set_option maxHeartbeats 4000000 in
theorem rRef_d (s : Sp) (a i : Int) (hW : SpW s) (ha : I64 a) : DCall Try.prog 27 [spD s, DI a, DI i] [] (tupU (GetR s a i true)) [] := by
 refine DCall.mk Try.func27 rfl rfl ?_
 refine d_seq fun K1 k1 => ?_
 refine d_region rfl ?_
 refine go (m_box ty_25) ?_
 refine go (m_set) ?_
 refine go (m_set) ?_
 refine .nil ⟨by kernel_rfl, ?_⟩
 refine k1 _ ?_
 refine d_seq fun K2 k2 => ?_
 refine d_region rfl ?_
 refine go (m_load ty_25) ?_
 refine go (m_move) ?_
 refine go (m_move) ?_
 refine go (m_callT (vs := [.int .u64 (GetR s a i true).1, .int .i64 (GetR s a i true).2]) (rgetT_d s a i hW ha)) ?_
 refine go (m_ext) ?_
 refine go (m_ext) ?_
 refine go (m_set) ?_
 refine go (m_set) ?_
 refine .nil ⟨by kernel_rfl, ?_⟩
 refine k2 _ ?_
 refine d_ret ?_
 change RetD _ _ _ _ _ _ _
 exact fin [] (.tmp (.tmp (.nil))) (h1 := .tU rfl)

set_option maxRecDepth 20000 in
set_option maxHeartbeats 4000000 in
theorem rsetRef_bad (s : Sp) (a i v : Int) (hW : SpW s) (ha : I64 a)  (f : Int) (hf : PlaceR s a i true = (0, f)) (hf0 : ¬ f = 0) (hl : SpLen s) : DCall Try.prog 29 [spD s, DI a, DI i, DU v] [] (.tup [.agg [DI 0, DN, DN], DI f]) [] := by
 refine DCall.mk Try.func29 rfl rfl ?_
 refine d_seq fun K1 k1 => ?_
 refine d_region rfl ?_
 refine go (m_box ty_25) ?_
 refine go (m_alloc ty_25) ?_
 refine go (m_set) ?_
 refine .nil ⟨by kernel_rfl, ?_⟩
 refine k1 _ ?_
 refine d_seq fun K2 k2 => ?_
 refine d_region rfl ?_
 refine go (m_load ty_25) ?_
 refine go (m_move) ?_
 refine go (m_move) ?_
 refine go (m_move) ?_
 refine go (m_callS [] (rsetbT_d s a i v hW ha f hf hf0 hl) sc_bad ScS.nil) ?_
 refine go (m_ext) ?_
 refine go (m_ext) ?_
 refine go (m_store ty_25) ?_
 refine go (m_set) ?_
 refine .nil ⟨by kernel_rfl, ?_⟩
 refine k2 _ ?_
 refine d_ret ?_
 change RetD _ _ _ _ _ _ _
 exact fin [] (.cell ty_25 rfl rfl rfl rfl (.tmp (.nil)))

set_option maxRecDepth 20000 in
set_option maxHeartbeats 4000000 in
theorem rsetRef_ok (s : Sp) (a i v : Int) (hW : SpW s) (ha : I64 a)  (x : Int) (hf : PlaceR s a i true = (x, 0)) (hl : SpLen s) : DCall Try.prog 29 [spD s, DI a, DI i, DU v] [] (.tup [.agg (spO 0 1 s), DI 0]) [(0, wO (s.ws.set x.toNat v)), (1, fO s.fs)] := by
 refine DCall.mk Try.func29 rfl rfl ?_
 refine d_seq fun K1 k1 => ?_
 refine d_region rfl ?_
 refine go (m_box ty_25) ?_
 refine go (m_alloc ty_25) ?_
 refine go (m_set) ?_
 refine .nil ⟨by kernel_rfl, ?_⟩
 refine k1 _ ?_
 refine d_seq fun K2 k2 => ?_
 refine d_region rfl ?_
 refine go (m_load ty_25) ?_
 refine go (m_move) ?_
 refine go (m_move) ?_
 refine go (m_move) ?_
 refine go (m_callS [] (rsetoT_d s a i v hW ha x hf hl) sc_spO2 (ScS.cons sc_u (ScS.one sc_fr))) ?_
 refine go (m_ext) ?_
 refine go (m_ext) ?_
 refine go (m_store ty_25) ?_
 refine go (m_set) ?_
 refine .nil ⟨by kernel_rfl, ?_⟩
 refine k2 _ ?_
 refine d_ret ?_
 change RetD _ _ _ _ _ _ _
 exact fin [(0, 2), (1, 3)] (.cell ty_25 rfl rfl rfl rfl (.tmp (.nil)))

set_option maxRecDepth 20000 in
set_option maxHeartbeats 4000000 in
theorem placeF_d (s : Sp) (a i : Int) (hs : SpOk s) (hW : SpW s) (ha : I64 a) : DCall Try.prog 94 [spD s, DI a, DI i, DB false] [] (tup2 (PlaceR s a i false)) [] := by
 refine DCall.mk Try.func94 rfl rfl ?_
 obtain ⟨r, d, e, h, hz⟩ := ShapeR_cases s a
 have hlk : DCall Try.prog 59 [spD s, DI a] [] (tup3 ⟨r, d, e⟩) [] := by have h1 := look_d s a hs hW ha; rw [← ShapeR_t hs, h] at h1; exact h1
 by_cases he : e = 0
 ·
  subst he
  obtain ⟨_, hL, q1, q2, q3, q4, q5⟩ := ShapeR_ok hW h
  have q8 := q3
  unfold HdOk at q8
  refine d_seq fun K1 k1 => ?_
  refine d_region rfl ?_
  refine go (m_box ty_25) ?_
  refine go (m_set) ?_
  refine go (m_set) ?_
  refine .nil ⟨by kernel_rfl, ?_⟩
  refine k1 _ ?_
  refine d_seq fun K2 k2 => ?_
  refine d_region rfl ?_
  refine go (m_load ty_25) ?_
  refine go (m_move) ?_
  refine go (m_callT (vs := [.int .i64 r, .int .i64 d, .int .i64 0]) hlk) ?_
  refine go (m_move) ?_
  refine go (m_ext) ?_
  refine go (m_ext) ?_
  refine go (m_ext) ?_
  refine go (m_set) ?_
  refine go (m_set) ?_
  refine go (m_set) ?_
  refine .nil ⟨by kernel_rfl, ?_⟩
  refine k2 _ ?_
  refine d_seq fun K3 k3 => ?_
  refine d_seq fun K4 k4 => ?_
  refine d_region rfl ?_
  refine go (m_move) ?_
  refine go (m_bin) ?_
  refine .nil ⟨by kernel_rfl, ?_⟩
  refine k4 _ ?_
  refine d_condF rfl ?_
  refine d_skip ?_
  refine k3 _ ?_
  refine d_seq fun K5 k5 => ?_
  refine d_region rfl ?_
  refine go (m_move) ?_
  refine go (m_move) ?_
  refine go (m_bin) ?_
  refine go (m_set) ?_
  refine go (m_set) ?_
  refine .nil ⟨by kernel_rfl, ?_⟩
  refine k5 _ ?_
  refine d_seq fun K6 k6 => ?_
  refine d_seq fun K7 k7 => ?_
  refine d_region rfl ?_
  refine go (m_move) ?_
  refine .nil ⟨by kernel_rfl, ?_⟩
  refine k7 _ ?_
  refine d_condF rfl ?_
  refine d_skip ?_
  refine k6 _ ?_
  refine d_seq fun K8 k8 => ?_
  refine d_seq fun K9 k9 => ?_
  by_cases h1 : 0 ≤ i
  ·
   by_cases h2 : i < d
   ·
    refine d_region rfl ?_
    refine go (m_move) ?_
    refine go (m_bin) ?_
    refine go (m_move) ?_
    first | refine no ?_ | refine go (m_move) ?_
    first | refine no ?_ | refine go (m_move) ?_
    first | refine no ?_ | refine go (m_bin) ?_
    refine go (m_pick) ?_
    refine .nil ⟨by kernel_rfl, ?_⟩
    refine k9 _ ?_
    refine d_condF rfl ?_
    refine d_skip ?_
    refine k8 _ ?_
    refine d_seq fun K10 k10 => ?_
    refine d_region rfl ?_
    refine go (m_load ty_25) ?_
    refine go (m_move) ?_
    refine go (m_move) ?_
    refine go (m_move) ?_
    refine go (m_bin) ?_
    refine go (m_callT (vs := [.int .i64 (GoR s a ((1 + r) + i)).1, .int .i64 (GoR s a ((1 + r) + i)).2]) (go_d s a ((1 + r) + i) hs.shp hs.nxIn ha (by unfold I64; omega))) ?_
    refine go (m_ext) ?_
    refine go (m_ext) ?_
    refine go (m_set) ?_
    refine go (m_set) ?_
    refine .nil ⟨by kernel_rfl, ?_⟩
    refine k10 _ ?_
    refine d_ret ?_
    change RetD _ _ _ _ _ _ _
    exact fin [] (.tmp (.tmp (.nil))) (h1 := .t2 ((PlaceR_t h (by simp; omega)).trans (Prod.ext rfl (GoR_mono hs.shp hs.nxIn q5 (by first | omega | (simp; omega)) (by first | omega | (simp; omega))).symm)))
   ·
    refine d_region rfl ?_
    refine go (m_move) ?_
    refine go (m_bin) ?_
    refine go (m_move) ?_
    first | refine no ?_ | refine go (m_move) ?_
    first | refine no ?_ | refine go (m_move) ?_
    first | refine no ?_ | refine go (m_bin) ?_
    refine go (m_pick) ?_
    refine .nil ⟨by kernel_rfl, ?_⟩
    refine k9 _ ?_
    refine d_condT rfl ?_
    refine d_seq fun K11 k11 => ?_
    refine d_region rfl ?_
    refine go (m_set) ?_
    refine go (m_set) ?_
    refine .nil ⟨by kernel_rfl, ?_⟩
    refine k11 _ ?_
    refine d_ret ?_
    change RetD _ _ _ _ _ _ _
    exact fin [] (.tmp (.tmp (.nil))) (h1 := .t2 (PlaceR_i h (by simp; omega)))
  ·
   refine d_region rfl ?_
   refine go (m_move) ?_
   refine go (m_bin) ?_
   refine go (m_move) ?_
   first | refine no ?_ | refine go (m_move) ?_
   first | refine no ?_ | refine go (m_move) ?_
   first | refine no ?_ | refine go (m_bin) ?_
   refine go (m_pick) ?_
   refine .nil ⟨by kernel_rfl, ?_⟩
   refine k9 _ ?_
   refine d_condT rfl ?_
   refine d_seq fun K12 k12 => ?_
   refine d_region rfl ?_
   refine go (m_set) ?_
   refine go (m_set) ?_
   refine .nil ⟨by kernel_rfl, ?_⟩
   refine k12 _ ?_
   refine d_ret ?_
   change RetD _ _ _ _ _ _ _
   exact fin [] (.tmp (.tmp (.nil))) (h1 := .t2 (PlaceR_i h (by simp; omega)))
 ·
  obtain ⟨rfl, rfl⟩ : r = 0 ∧ d = 0 := by omega
  refine d_seq fun K13 k13 => ?_
  refine d_region rfl ?_
  refine go (m_box ty_25) ?_
  refine go (m_set) ?_
  refine go (m_set) ?_
  refine .nil ⟨by kernel_rfl, ?_⟩
  refine k13 _ ?_
  refine d_seq fun K14 k14 => ?_
  refine d_region rfl ?_
  refine go (m_load ty_25) ?_
  refine go (m_move) ?_
  refine go (m_callT (vs := [.int .i64 0, .int .i64 0, .int .i64 e]) hlk) ?_
  refine go (m_move) ?_
  refine go (m_ext) ?_
  refine go (m_ext) ?_
  refine go (m_ext) ?_
  refine go (m_set) ?_
  refine go (m_set) ?_
  refine go (m_set) ?_
  refine .nil ⟨by kernel_rfl, ?_⟩
  refine k14 _ ?_
  refine d_seq fun K15 k15 => ?_
  refine d_seq fun K16 k16 => ?_
  refine d_region rfl ?_
  refine go (m_move) ?_
  refine go (m_bin) ?_
  refine .nil ⟨by kernel_rfl, ?_⟩
  refine k16 _ ?_
  refine d_condT rfl ?_
  refine d_seq fun K17 k17 => ?_
  refine d_region rfl ?_
  refine go (m_move) ?_
  refine go (m_set) ?_
  refine go (m_set) ?_
  refine .nil ⟨by kernel_rfl, ?_⟩
  refine k17 _ ?_
  refine d_ret ?_
  change RetD _ _ _ _ _ _ _
  exact fin [] (.tmp (.tmp (.nil))) (h1 := .t2 (PlaceR_e h he))

set_option maxRecDepth 20000 in
set_option maxHeartbeats 4000000 in
theorem rgetF_d (s : Sp) (a i : Int) (hW : SpW s) (ha : I64 a) : DCall Try.prog 63 [spD s, DI a, DI i, DB false] [] (tupU (GetR s a i false)) [] := by
 refine DCall.mk Try.func63 rfl rfl ?_
 by_cases hs : SpOk s
 ·
  obtain ⟨x, f, hP⟩ : ∃ x f, PlaceR s a i false = (x, f) := ⟨_, _, rfl⟩
  have hpl : DCall Try.prog 94 [spD s, DI a, DI i, DB false] [] (tup2 (x, f)) [] := hP ▸ placeF_d s a i hs hW ha
  by_cases hf : f = 0
  ·
   subst hf
   have hg := PlaceR_rng (i := i) (ref := false) hW (by rw [hP])
   rw [hP] at hg
   simp only [] at hg
   refine d_seq fun K1 k1 => ?_
   refine d_region rfl ?_
   refine go (m_box ty_25) ?_
   refine go (m_set) ?_
   refine go (m_set) ?_
   refine .nil ⟨by kernel_rfl, ?_⟩
   refine k1 _ ?_
   refine d_seq fun K2 k2 => ?_
   refine d_seq fun K3 k3 => ?_
   refine d_region rfl ?_
   refine go (m_load ty_25) ?_
   refine go (m_call ((rvalid_d s hW).t hs)) ?_
   refine go (m_not) ?_
   refine .nil ⟨by kernel_rfl, ?_⟩
   refine k3 _ ?_
   refine d_condF rfl ?_
   refine d_skip ?_
   refine k2 _ ?_
   refine d_seq fun K4 k4 => ?_
   refine d_region rfl ?_
   refine go (m_load ty_25) ?_
   refine go (m_move) ?_
   refine go (m_move) ?_
   refine go (m_move) ?_
   refine go (m_callT (vs := [.int .i64 x, .int .i64 0]) hpl) ?_
   refine go (m_move) ?_
   refine go (m_ext) ?_
   refine go (m_ext) ?_
   refine go (m_set) ?_
   refine go (m_set) ?_
   refine .nil ⟨by kernel_rfl, ?_⟩
   refine k4 _ ?_
   refine d_seq fun K5 k5 => ?_
   refine d_seq fun K6 k6 => ?_
   refine d_region rfl ?_
   refine go (m_move) ?_
   refine go (m_bin) ?_
   refine .nil ⟨by kernel_rfl, ?_⟩
   refine k6 _ ?_
   refine d_condF rfl ?_
   refine d_skip ?_
   refine k5 _ ?_
   refine d_seq fun K7 k7 => ?_
   refine d_region rfl ?_
   refine go (m_fa ty_25) ?_
   refine go (m_load ty_22) ?_
   refine go (m_move) ?_
   refine go (m_ia ty_22 ty_50) ?_
   refine go (m_load ty_50) ?_
   refine go (m_set) ?_
   refine go (m_set) ?_
   refine .nil ⟨by kernel_rfl, ?_⟩
   refine k7 _ ?_
   refine d_ret ?_
   change RetD _ _ _ _ _ _ _
   exact fin [] (.tmp (.tmp (.nil))) (h1 := .tU ((GetR_t hP).trans (by rw [wAt_in hg.1 (by omega)])))
  ·
   refine d_seq fun K8 k8 => ?_
   refine d_region rfl ?_
   refine go (m_box ty_25) ?_
   refine go (m_set) ?_
   refine go (m_set) ?_
   refine .nil ⟨by kernel_rfl, ?_⟩
   refine k8 _ ?_
   refine d_seq fun K9 k9 => ?_
   refine d_seq fun K10 k10 => ?_
   refine d_region rfl ?_
   refine go (m_load ty_25) ?_
   refine go (m_call ((rvalid_d s hW).t hs)) ?_
   refine go (m_not) ?_
   refine .nil ⟨by kernel_rfl, ?_⟩
   refine k10 _ ?_
   refine d_condF rfl ?_
   refine d_skip ?_
   refine k9 _ ?_
   refine d_seq fun K11 k11 => ?_
   refine d_region rfl ?_
   refine go (m_load ty_25) ?_
   refine go (m_move) ?_
   refine go (m_move) ?_
   refine go (m_move) ?_
   refine go (m_callT (vs := [.int .i64 x, .int .i64 f]) hpl) ?_
   refine go (m_move) ?_
   refine go (m_ext) ?_
   refine go (m_ext) ?_
   refine go (m_set) ?_
   refine go (m_set) ?_
   refine .nil ⟨by kernel_rfl, ?_⟩
   refine k11 _ ?_
   refine d_seq fun K12 k12 => ?_
   refine d_seq fun K13 k13 => ?_
   refine d_region rfl ?_
   refine go (m_move) ?_
   refine go (m_bin) ?_
   refine .nil ⟨by kernel_rfl, ?_⟩
   refine k13 _ ?_
   refine d_condT rfl ?_
   refine d_seq fun K14 k14 => ?_
   refine d_region rfl ?_
   refine go (m_move) ?_
   refine go (m_set) ?_
   refine go (m_set) ?_
   refine .nil ⟨by kernel_rfl, ?_⟩
   refine k14 _ ?_
   refine d_ret ?_
   change RetD _ _ _ _ _ _ _
   exact fin [] (.tmp (.tmp (.nil))) (h1 := .tU (GetR_e hP hf))
 ·
  have hP : PlaceR s a i false = (0, 1) := PlaceR_e (ShapeR_f hs) (by decide)
  refine d_seq fun K15 k15 => ?_
  refine d_region rfl ?_
  refine go (m_box ty_25) ?_
  refine go (m_set) ?_
  refine go (m_set) ?_
  refine .nil ⟨by kernel_rfl, ?_⟩
  refine k15 _ ?_
  refine d_seq fun K16 k16 => ?_
  refine d_seq fun K17 k17 => ?_
  refine d_region rfl ?_
  refine go (m_load ty_25) ?_
  refine go (m_call ((rvalid_d s hW).f hs)) ?_
  refine go (m_not) ?_
  refine .nil ⟨by kernel_rfl, ?_⟩
  refine k17 _ ?_
  refine d_condT rfl ?_
  refine d_seq fun K18 k18 => ?_
  refine d_region rfl ?_
  refine go (m_set) ?_
  refine go (m_set) ?_
  refine .nil ⟨by kernel_rfl, ?_⟩
  refine k18 _ ?_
  refine d_ret ?_
  change RetD _ _ _ _ _ _ _
  exact fin [] (.tmp (.tmp (.nil))) (h1 := .tU (GetR_e hP (by decide)))

set_option maxRecDepth 20000 in
set_option maxHeartbeats 4000000 in
theorem rsetbF_d (s : Sp) (a i v : Int) (hW : SpW s) (ha : I64 a)  (g : Int) (hf0 : PlaceR s a i false = (0, g)) (hg0 : ¬ g = 0) (hl : SpLen s) : DCall Try.prog 65 [spD s, DI a, DI i, DB false, DU v] [] (.tup [.agg [DI 0, DN, DN], DI g]) [] := by
 refine DCall.mk Try.func65 rfl rfl ?_
 by_cases hs : SpOk s
 ·
  obtain ⟨x, f, hP⟩ : ∃ x f, PlaceR s a i false = (x, f) := ⟨_, _, rfl⟩
  have hpl : DCall Try.prog 94 [spD s, DI a, DI i, DB false] [] (tup2 (x, f)) [] := hP ▸ placeF_d s a i hs hW ha
  by_cases hf : f = 0
  ·
   subst hf
   have hg := PlaceR_rng (i := i) (ref := false) hW (by rw [hP])
   rw [hP] at hg
   simp only [] at hg
   refine d_seq fun K1 k1 => ?_
   refine d_region rfl ?_
   refine go (m_box ty_25) ?_
   refine go (m_alloc ty_25) ?_
   refine go (m_set) ?_
   refine .nil ⟨by kernel_rfl, ?_⟩
   refine k1 _ ?_
   refine d_seq fun K2 k2 => ?_
   refine d_seq fun K3 k3 => ?_
   refine d_region rfl ?_
   refine go (m_load ty_25) ?_
   refine go (m_call ((rvalid_d s hW).t hs)) ?_
   refine go (m_not) ?_
   refine .nil ⟨by kernel_rfl, ?_⟩
   refine k3 _ ?_
   refine d_condF rfl ?_
   refine d_skip ?_
   refine k2 _ ?_
   refine d_seq fun K4 k4 => ?_
   refine d_region rfl ?_
   refine go (m_load ty_25) ?_
   refine go (m_move) ?_
   refine go (m_move) ?_
   refine go (m_move) ?_
   refine go (m_callT (vs := [.int .i64 x, .int .i64 0]) hpl) ?_
   refine go (m_move) ?_
   refine go (m_ext) ?_
   refine go (m_ext) ?_
   refine go (m_set) ?_
   refine go (m_set) ?_
   refine .nil ⟨by kernel_rfl, ?_⟩
   refine k4 _ ?_
   refine d_seq fun K5 k5 => ?_
   refine d_seq fun K6 k6 => ?_
   refine d_region rfl ?_
   refine go (m_move) ?_
   refine go (m_bin) ?_
   refine .nil ⟨by kernel_rfl, ?_⟩
   refine k6 _ ?_
   refine d_condF rfl ?_
   refine d_skip ?_
   refine k5 _ ?_
   refine d_seq fun K7 k7 => ?_
   exact absurd (congrArg Prod.snd (hP.symm.trans hf0)).symm hg0
  ·
   refine d_seq fun K8 k8 => ?_
   refine d_region rfl ?_
   refine go (m_box ty_25) ?_
   refine go (m_alloc ty_25) ?_
   refine go (m_set) ?_
   refine .nil ⟨by kernel_rfl, ?_⟩
   refine k8 _ ?_
   refine d_seq fun K9 k9 => ?_
   refine d_seq fun K10 k10 => ?_
   refine d_region rfl ?_
   refine go (m_load ty_25) ?_
   refine go (m_call ((rvalid_d s hW).t hs)) ?_
   refine go (m_not) ?_
   refine .nil ⟨by kernel_rfl, ?_⟩
   refine k10 _ ?_
   refine d_condF rfl ?_
   refine d_skip ?_
   refine k9 _ ?_
   refine d_seq fun K11 k11 => ?_
   refine d_region rfl ?_
   refine go (m_load ty_25) ?_
   refine go (m_move) ?_
   refine go (m_move) ?_
   refine go (m_move) ?_
   refine go (m_callT (vs := [.int .i64 x, .int .i64 f]) hpl) ?_
   refine go (m_move) ?_
   refine go (m_ext) ?_
   refine go (m_ext) ?_
   refine go (m_set) ?_
   refine go (m_set) ?_
   refine .nil ⟨by kernel_rfl, ?_⟩
   refine k11 _ ?_
   refine d_seq fun K12 k12 => ?_
   refine d_seq fun K13 k13 => ?_
   refine d_region rfl ?_
   refine go (m_move) ?_
   refine go (m_bin) ?_
   refine .nil ⟨by kernel_rfl, ?_⟩
   refine k13 _ ?_
   refine d_condT rfl ?_
   refine d_seq fun K14 k14 => ?_
   refine d_region rfl ?_
   refine go (m_build ty_25) ?_
   refine go (m_move) ?_
   refine go (m_store ty_25) ?_
   refine go (m_set) ?_
   refine .nil ⟨by kernel_rfl, ?_⟩
   refine k14 _ ?_
   refine d_ret ?_
   change RetD _ _ _ _ _ _ _
   exact fin [] (.cell ty_25 rfl rfl rfl rfl (.tmp (.nil))) (h1 := by repeat' (first | exact .lit | exact CvL.nil | apply CvL.cons | apply Cv.agg | apply Cv.tup | exact .litE (congrArg (Value.int _) (congrArg Prod.snd (hP.symm.trans hf0)))))
 ·
  have hP : PlaceR s a i false = (0, 1) := PlaceR_e (ShapeR_f hs) (by decide)
  refine d_seq fun K15 k15 => ?_
  refine d_region rfl ?_
  refine go (m_box ty_25) ?_
  refine go (m_alloc ty_25) ?_
  refine go (m_set) ?_
  refine .nil ⟨by kernel_rfl, ?_⟩
  refine k15 _ ?_
  refine d_seq fun K16 k16 => ?_
  refine d_seq fun K17 k17 => ?_
  refine d_region rfl ?_
  refine go (m_load ty_25) ?_
  refine go (m_call ((rvalid_d s hW).f hs)) ?_
  refine go (m_not) ?_
  refine .nil ⟨by kernel_rfl, ?_⟩
  refine k17 _ ?_
  refine d_condT rfl ?_
  refine d_seq fun K18 k18 => ?_
  refine d_region rfl ?_
  refine go (m_build ty_25) ?_
  refine go (m_store ty_25) ?_
  refine go (m_set) ?_
  refine .nil ⟨by kernel_rfl, ?_⟩
  refine k18 _ ?_
  refine d_ret ?_
  change RetD _ _ _ _ _ _ _
  exact fin [] (.cell ty_25 rfl rfl rfl rfl (.tmp (.nil))) (h1 := by repeat' (first | exact .lit | exact CvL.nil | apply CvL.cons | apply Cv.agg | apply Cv.tup | exact .litE (congrArg (Value.int _) (congrArg Prod.snd (hP.symm.trans hf0)))))

set_option maxRecDepth 20000 in
set_option maxHeartbeats 4000000 in
theorem rsetoF_d (s : Sp) (a i v : Int) (hW : SpW s) (ha : I64 a)  (y : Int) (hf0 : PlaceR s a i false = (y, 0)) (hl : SpLen s) : DCall Try.prog 65 [spD s, DI a, DI i, DB false, DU v] [] (.tup [.agg (spO 0 1 s), DI 0]) [(0, wO (s.ws.set y.toNat v)), (1, fO s.fs)] := by
 refine DCall.mk Try.func65 rfl rfl ?_
 by_cases hs : SpOk s
 ·
  obtain ⟨x, f, hP⟩ : ∃ x f, PlaceR s a i false = (x, f) := ⟨_, _, rfl⟩
  have hpl : DCall Try.prog 94 [spD s, DI a, DI i, DB false] [] (tup2 (x, f)) [] := hP ▸ placeF_d s a i hs hW ha
  by_cases hf : f = 0
  ·
   subst hf
   have hg := PlaceR_rng (i := i) (ref := false) hW (by rw [hP])
   rw [hP] at hg
   simp only [] at hg
   refine d_seq fun K1 k1 => ?_
   refine d_region rfl ?_
   refine go (m_box ty_25) ?_
   refine go (m_alloc ty_25) ?_
   refine go (m_set) ?_
   refine .nil ⟨by kernel_rfl, ?_⟩
   refine k1 _ ?_
   refine d_seq fun K2 k2 => ?_
   refine d_seq fun K3 k3 => ?_
   obtain rfl : x = y := congrArg Prod.fst (hP.symm.trans hf0)
   refine d_region rfl ?_
   refine go (m_load ty_25) ?_
   refine go (m_call ((rvalid_d s hW).t hs)) ?_
   refine go (m_not) ?_
   refine .nil ⟨by kernel_rfl, ?_⟩
   refine k3 _ ?_
   refine d_condF rfl ?_
   refine d_skip ?_
   refine k2 _ ?_
   refine d_seq fun K4 k4 => ?_
   refine d_region rfl ?_
   refine go (m_load ty_25) ?_
   refine go (m_move) ?_
   refine go (m_move) ?_
   refine go (m_move) ?_
   refine go (m_callT (vs := [.int .i64 x, .int .i64 0]) hpl) ?_
   refine go (m_move) ?_
   refine go (m_ext) ?_
   refine go (m_ext) ?_
   refine go (m_set) ?_
   refine go (m_set) ?_
   refine .nil ⟨by kernel_rfl, ?_⟩
   refine k4 _ ?_
   refine d_seq fun K5 k5 => ?_
   refine d_seq fun K6 k6 => ?_
   refine d_region rfl ?_
   refine go (m_move) ?_
   refine go (m_bin) ?_
   refine .nil ⟨by kernel_rfl, ?_⟩
   refine k6 _ ?_
   refine d_condF rfl ?_
   refine d_skip ?_
   refine k5 _ ?_
   refine d_seq fun K7 k7 => ?_
   refine d_region rfl ?_
   refine go (m_load ty_25) ?_
   refine go (m_callS [] (rcopy_d s hl) sc_spO (ScS.cons sc_u (ScS.one sc_fr))) ?_
   refine go (m_alloc ty_25) ?_
   refine go (m_store ty_25) ?_
   refine .nil ⟨by kernel_rfl, ?_⟩
   refine k7 _ ?_
   refine d_seq fun K8 k8 => ?_
   refine d_region rfl ?_
   refine go (m_fa ty_25) ?_
   refine go (m_load ty_22) ?_
   refine go (m_move) ?_
   refine go (m_move) ?_
   refine go (m_ia ty_22 ty_50) ?_
   refine go (m_store ty_50) ?_
   refine .nil ⟨by kernel_rfl, ?_⟩
   refine k8 _ ?_
   refine d_seq fun K9 k9 => ?_
   refine d_region rfl ?_
   refine go (m_load ty_25) ?_
   refine go (m_store ty_25) ?_
   refine go (m_set) ?_
   refine .nil ⟨by kernel_rfl, ?_⟩
   refine k9 _ ?_
   refine d_ret ?_
   change RetD _ _ _ _ _ _ _
   exact fin [(0, 2), (1, 3)] (.cell ty_25 rfl rfl rfl rfl (.tmp (.nil))) (h2 := by apply CvS.cons rfl rfl; exact .arrE (set_map (by simp) rfl); apply CvS.cons rfl rfl; exact .arr rfl; exact .nil)
  ·
   refine d_seq fun K10 k10 => ?_
   refine d_region rfl ?_
   refine go (m_box ty_25) ?_
   refine go (m_alloc ty_25) ?_
   refine go (m_set) ?_
   refine .nil ⟨by kernel_rfl, ?_⟩
   refine k10 _ ?_
   refine d_seq fun K11 k11 => ?_
   refine d_seq fun K12 k12 => ?_
   exact absurd (congrArg Prod.snd (hP.symm.trans hf0)) (by exact hf)
 ·
  have hP : PlaceR s a i false = (0, 1) := PlaceR_e (ShapeR_f hs) (by decide)
  refine d_seq fun K13 k13 => ?_
  refine d_region rfl ?_
  refine go (m_box ty_25) ?_
  refine go (m_alloc ty_25) ?_
  refine go (m_set) ?_
  refine .nil ⟨by kernel_rfl, ?_⟩
  refine k13 _ ?_
  refine d_seq fun K14 k14 => ?_
  refine d_seq fun K15 k15 => ?_
  exact absurd (congrArg Prod.snd (hP.symm.trans hf0)) (by show ¬ (1 : Int) = 0; decide)

set_option maxRecDepth 20000 in
set_option maxHeartbeats 4000000 in
theorem rData_d (s : Sp) (a i : Int) (hW : SpW s) (ha : I64 a) : DCall Try.prog 31 [spD s, DI a, DI i] [] (tupU (GetR s a i false)) [] := by
 refine DCall.mk Try.func31 rfl rfl ?_
 refine d_seq fun K1 k1 => ?_
 refine d_region rfl ?_
 refine go (m_box ty_25) ?_
 refine go (m_set) ?_
 refine go (m_set) ?_
 refine .nil ⟨by kernel_rfl, ?_⟩
 refine k1 _ ?_
 refine d_seq fun K2 k2 => ?_
 refine d_region rfl ?_
 refine go (m_load ty_25) ?_
 refine go (m_move) ?_
 refine go (m_move) ?_
 refine go (m_callT (vs := [.int .u64 (GetR s a i false).1, .int .i64 (GetR s a i false).2]) (rgetF_d s a i hW ha)) ?_
 refine go (m_ext) ?_
 refine go (m_ext) ?_
 refine go (m_set) ?_
 refine go (m_set) ?_
 refine .nil ⟨by kernel_rfl, ?_⟩
 refine k2 _ ?_
 refine d_ret ?_
 change RetD _ _ _ _ _ _ _
 exact fin [] (.tmp (.tmp (.nil))) (h1 := .tU rfl)

set_option maxRecDepth 20000 in
set_option maxHeartbeats 4000000 in
theorem rsetData_bad (s : Sp) (a i v : Int) (hW : SpW s) (ha : I64 a)  (f : Int) (hf : PlaceR s a i false = (0, f)) (hf0 : ¬ f = 0) (hl : SpLen s) : DCall Try.prog 33 [spD s, DI a, DI i, DU v] [] (.tup [.agg [DI 0, DN, DN], DI f]) [] := by
 refine DCall.mk Try.func33 rfl rfl ?_
 refine d_seq fun K1 k1 => ?_
 refine d_region rfl ?_
 refine go (m_box ty_25) ?_
 refine go (m_alloc ty_25) ?_
 refine go (m_set) ?_
 refine .nil ⟨by kernel_rfl, ?_⟩
 refine k1 _ ?_
 refine d_seq fun K2 k2 => ?_
 refine d_region rfl ?_
 refine go (m_load ty_25) ?_
 refine go (m_move) ?_
 refine go (m_move) ?_
 refine go (m_move) ?_
 refine go (m_callS [] (rsetbF_d s a i v hW ha f hf hf0 hl) sc_bad ScS.nil) ?_
 refine go (m_ext) ?_
 refine go (m_ext) ?_
 refine go (m_store ty_25) ?_
 refine go (m_set) ?_
 refine .nil ⟨by kernel_rfl, ?_⟩
 refine k2 _ ?_
 refine d_ret ?_
 change RetD _ _ _ _ _ _ _
 exact fin [] (.cell ty_25 rfl rfl rfl rfl (.tmp (.nil)))

set_option maxRecDepth 20000 in
set_option maxHeartbeats 4000000 in
theorem rsetData_ok (s : Sp) (a i v : Int) (hW : SpW s) (ha : I64 a)  (x : Int) (hf : PlaceR s a i false = (x, 0)) (hl : SpLen s) : DCall Try.prog 33 [spD s, DI a, DI i, DU v] [] (.tup [.agg (spO 0 1 s), DI 0]) [(0, wO (s.ws.set x.toNat v)), (1, fO s.fs)] := by
 refine DCall.mk Try.func33 rfl rfl ?_
 refine d_seq fun K1 k1 => ?_
 refine d_region rfl ?_
 refine go (m_box ty_25) ?_
 refine go (m_alloc ty_25) ?_
 refine go (m_set) ?_
 refine .nil ⟨by kernel_rfl, ?_⟩
 refine k1 _ ?_
 refine d_seq fun K2 k2 => ?_
 refine d_region rfl ?_
 refine go (m_load ty_25) ?_
 refine go (m_move) ?_
 refine go (m_move) ?_
 refine go (m_move) ?_
 refine go (m_callS [] (rsetoF_d s a i v hW ha x hf hl) sc_spO2 (ScS.cons sc_u (ScS.one sc_fr))) ?_
 refine go (m_ext) ?_
 refine go (m_ext) ?_
 refine go (m_store ty_25) ?_
 refine go (m_set) ?_
 refine .nil ⟨by kernel_rfl, ?_⟩
 refine k2 _ ?_
 refine d_ret ?_
 change RetD _ _ _ _ _ _ _
 exact fin [(0, 2), (1, 3)] (.cell ty_25 rfl rfl rfl rfl (.tmp (.nil)))

set_option maxRecDepth 20000 in
set_option maxHeartbeats 4000000 in
theorem rshape_d (s : Sp) (a : Int) (hW : SpW s) (ha : I64 a) : DCall Try.prog 22 [spD s, DI a] [] (tup3 (ShapeR s a)) [] := by
 refine DCall.mk Try.func22 rfl rfl ?_
 by_cases hs : SpOk s
 ·
  refine d_seq fun K1 k1 => ?_
  refine d_region rfl ?_
  refine go (m_box ty_25) ?_
  refine go (m_set) ?_
  refine go (m_set) ?_
  refine go (m_set) ?_
  refine .nil ⟨by kernel_rfl, ?_⟩
  refine k1 _ ?_
  refine d_seq fun K2 k2 => ?_
  refine d_seq fun K3 k3 => ?_
  refine d_region rfl ?_
  refine go (m_load ty_25) ?_
  refine go (m_call ((rvalid_d s hW).t hs)) ?_
  refine go (m_not) ?_
  refine .nil ⟨by kernel_rfl, ?_⟩
  refine k3 _ ?_
  refine d_condF rfl ?_
  refine d_skip ?_
  refine k2 _ ?_
  refine d_seq fun K4 k4 => ?_
  refine d_region rfl ?_
  refine go (m_load ty_25) ?_
  refine go (m_move) ?_
  refine go (m_callT (vs := [.int .i64 (LookR s a).r, .int .i64 (LookR s a).d, .int .i64 (LookR s a).e]) (look_d s a hs hW ha)) ?_
  refine go (m_ext) ?_
  refine go (m_ext) ?_
  refine go (m_ext) ?_
  refine go (m_set) ?_
  refine go (m_set) ?_
  refine go (m_set) ?_
  refine .nil ⟨by kernel_rfl, ?_⟩
  refine k4 _ ?_
  refine d_ret ?_
  change RetD _ _ _ _ _ _ _
  exact fin [] (.tmp (.tmp (.tmp (.nil)))) (h1 := .t3 (ShapeR_t hs))
 ·
  refine d_seq fun K5 k5 => ?_
  refine d_region rfl ?_
  refine go (m_box ty_25) ?_
  refine go (m_set) ?_
  refine go (m_set) ?_
  refine go (m_set) ?_
  refine .nil ⟨by kernel_rfl, ?_⟩
  refine k5 _ ?_
  refine d_seq fun K6 k6 => ?_
  refine d_seq fun K7 k7 => ?_
  refine d_region rfl ?_
  refine go (m_load ty_25) ?_
  refine go (m_call ((rvalid_d s hW).f hs)) ?_
  refine go (m_not) ?_
  refine .nil ⟨by kernel_rfl, ?_⟩
  refine k7 _ ?_
  refine d_condT rfl ?_
  refine d_seq fun K8 k8 => ?_
  refine d_region rfl ?_
  refine go (m_set) ?_
  refine go (m_set) ?_
  refine go (m_set) ?_
  refine .nil ⟨by kernel_rfl, ?_⟩
  refine k8 _ ?_
  refine d_ret ?_
  change RetD _ _ _ _ _ _ _
  exact fin [] (.tmp (.tmp (.tmp (.nil)))) (h1 := .t3 (ShapeR_f hs))

end Go.Proofs.Ytbidedbpmhcoaaa
