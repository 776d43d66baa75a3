/- Parts of the proof: DF, DG, DH, L1, P1, L2, S1, P2, P3, P4, P5, P6, S2, L3, L4. No condition. -/
import Derived.Test.YthpnlnjdmlbnaaaMW2
import Derived.KernelRfl
import Derived.Laws.StructEq
import Derived.IntWalk
/- The operations on data, with their side conditions sought by themselves. No condition. -/
namespace Go.Proofs.Ythpnlnjdmlbnaaa
open Go.RowKit
set_option linter.unusedSimpArgs false
set_option linter.unusedVariables false

/-- a guard that lets its operation run -/
inductive Grd (ops : Array Oper) (o : Oper) (env : Env) : Prop
  | none : o.guard = none → Grd ops o env
  | yes {g t : Nat} {b : Bool} : o.guard = some (g, b) → (ops[g]?).bind (·.dst) = some t → env.get t = .lit (.bool b) → Grd ops o env

section
variable {P : Program} {env : Env} {sto : Sto} {nxt : Nat} {o : Oper} {ops : Array Oper} {l : List Oper} {K : Outs → DSt → Prop}

theorem go {d : DV} {us : List (Nat × Option Ob)} {rs : List Nat} {n : Nat} (h : OpOK P o env sto nxt ⟨d, us, rs, n⟩)
    (k : Steps P ops l ⟨env.put o.dst d, sto.upd us, nxt + n⟩ fun outs => K ((⟨d, us, rs, n⟩, nxt) :: outs)) (hg : Grd ops o env := by first | exact .none rfl | exact .yes rfl rfl rfl) : Steps P ops (o :: l) ⟨env, sto, nxt⟩ K :=
  Steps.cons' (by
    unfold StepOK
    cases hg with
    | none hn => rw [hn]; exact h
    | yes h1 h2 h3 => rw [h1]; exact ⟨_, h2, .inl ⟨h3, h⟩⟩) k
/-- an operation whose guard does not hold -/
theorem no {g t : Nat} {b : Bool} (k : Steps P ops l ⟨env.put o.dst .any, sto, nxt⟩ fun outs => K ((⟨.any, [], [], 0⟩, nxt) :: outs))
    (hg : o.guard = some (g, b) := by rfl) (ht : (ops[g]?).bind (·.dst) = some t := by rfl) (hb : env.get t = .lit (.bool (!b)) := by rfl) : Steps P ops (o :: l) ⟨env, sto, nxt⟩ K :=
  Steps.cons' (out := ⟨.any, [], [], 0⟩) (by unfold StepOK; rw [hg]; exact ⟨t, ht, .inr (.inl ⟨.inl hb, .inl rfl⟩)⟩) k
/-- an operation whose guard is open -/
theorem goS {d : DV} {rs : List Nat} {g t : Nat} {b c : Bool} (hg : o.guard = some (g, b)) (ht : (ops[g]?).bind (·.dst) = some t) (hb : env.get t = .lit (.bool c)) (h : c = b → OpOK P o env sto nxt ⟨d, [], rs, 0⟩)
    (k : Steps P ops l ⟨env.put o.dst (cond (c == b) d .any), sto, nxt⟩ fun outs => K ((⟨cond (c == b) d .any, [], rs, 0⟩, nxt) :: outs)) : Steps P ops (o :: l) ⟨env, sto, nxt⟩ K :=
  Steps.cons' (out := ⟨cond (c == b) d .any, [], rs, 0⟩) (by
    unfold StepOK
    rw [hg]
    refine ⟨t, ht, .inr (.inr ⟨c, hb, rfl, rfl, fun hc => ?_, fun hc => ?_⟩)⟩
    · have := h hc
      subst hc
      simpa using this
    · subst hc; cases b <;> rfl) k
/-- a Boolean gets a name -/
theorem goB {b0 : Bool} {rs : List Nat} (h : OpOK P o env sto nxt ⟨.lit (.bool b0), [], rs, 0⟩)
    (k : ∀ c, c = b0 → Steps P ops l ⟨env.put o.dst (.lit (.bool c)), sto, nxt⟩ fun outs => K ((⟨.lit (.bool c), [], rs, 0⟩, nxt) :: outs)) (hg : Grd ops o env := by first | exact .none rfl | exact .yes rfl rfl rfl) : Steps P ops (o :: l) ⟨env, sto, nxt⟩ K := go h (k b0 rfl) hg

theorem m_move {x : Operand} (ho : o.op = .move x := by rfl) : OpOK P o env sto nxt ⟨opd env x, [], [], 0⟩ := r_move ho
theorem m_moveB {x : Operand} {b : Bool} (ho : o.op = .move x := by rfl) (hx : opd env x = .lit (.bool b) := by rfl) : OpOK P o env sto nxt ⟨.lit (.bool b), [], [], 0⟩ := by
  have := r_move (P := P) (env := env) (sto := sto) (nxt := nxt) ho
  rwa [hx] at this
theorem m_set {x : Operand} (ho : o.op = .assign x := by rfl) : OpOK P o env sto nxt ⟨opd env x, [], [], 0⟩ := r_assign ho
theorem m_pick {c x y : Operand} {t : Bool} (ho : o.op = .pick c x y := by rfl) (hc : opd env c = .lit (.bool t) := by rfl) : OpOK P o env sto nxt ⟨cond t (opd env x) (opd env y), [], [], 0⟩ := by
  have := r_pick (P := P) (sto := sto) (nxt := nxt) ho hc
  cases t <;> exact this
theorem m_or {c x y : Operand} {b q : Bool} (ho : o.op = .pick c x y := by rfl) (hc : opd env c = .lit (.bool b) := by rfl) (hx : opd env x = .lit (.bool true) := by rfl) (hy : b = false → opd env y = .lit (.bool q) := by intro h; subst h; rfl) : OpOK P o env sto nxt ⟨.lit (.bool (b || q)), [], [], 0⟩ := by
  have := r_pick (P := P) (sto := sto) (nxt := nxt) ho hc
  cases b with
  | true => rw [if_pos rfl, hx] at this; exact this
  | false => rw [if_neg (by simp), hy rfl] at this; exact this
theorem m_and {c x y : Operand} {b q : Bool} (ho : o.op = .pick c x y := by rfl) (hc : opd env c = .lit (.bool b) := by rfl) (hy : opd env y = .lit (.bool false) := by rfl) (hx : b = true → opd env x = .lit (.bool q) := by intro h; subst h; rfl) : OpOK P o env sto nxt ⟨.lit (.bool (b && q)), [], [], 0⟩ := by
  have := r_pick (P := P) (sto := sto) (nxt := nxt) ho hc
  cases b with
  | true => rw [if_pos rfl, hx rfl] at this; exact this
  | false => rw [if_neg (by simp), hy] at this; exact this
theorem m_ext {x : Operand} {i : Nat} {xs : List DV} {d : DV} (ho : o.op = .extract x i := by rfl) (hx : opd env x = .tup xs := by rfl) (hi : xs[i]? = some d := by rfl) : OpOK P o env sto nxt ⟨d, [], [], 0⟩ := r_extract ho hx hi
theorem m_not {t : Nat} {x : Operand} {p : Bool} (ho : o.op = .unOp .not t x := by rfl) (hx : opd env x = .lit (.bool p) := by rfl) : OpOK P o env sto nxt ⟨.lit (.bool (!p)), [], [], 0⟩ := r_not ho hx
theorem m_func {f : Nat} {cap : Array Operand} {l : List Operand} (ho : o.op = .makeFunc (.func f) #[] cap := by rfl) (hc : cap = l.toArray := by rfl) : OpOK P o env sto nxt ⟨.fn f (l.map (opd env)), [], [], 0⟩ := r_func ho hc

/-- what a comparison or a sum of numbers gives -/
inductive BinI : BinOp → IntKind → Int → Int → Value → Prop
  | add {a b : Int} : -9223372036854775808 ≤ a + b ∧ a + b ≤ 9223372036854775807 → BinI .add .i64 a b (.int .i64 (a + b))
  | sub {a b : Int} : -9223372036854775808 ≤ a - b ∧ a - b ≤ 9223372036854775807 → BinI .sub .i64 a b (.int .i64 (a - b))
  | mul {a b : Int} : -9223372036854775808 ≤ a * b ∧ a * b ≤ 9223372036854775807 → BinI .mul .i64 a b (.int .i64 (a * b))
  | addu {a b : Int} : 0 ≤ a + b ∧ a + b ≤ 18446744073709551615 → BinI .add .u64 a b (.int .u64 (a + b))
  | subu {a b : Int} : 0 ≤ a - b ∧ a - b ≤ 18446744073709551615 → BinI .sub .u64 a b (.int .u64 (a - b))
  | bitsE {op : BinOp} {k : IntKind} {a b r : Int} : (op = .and ∨ op = .or ∨ op = .xor ∨ op = .andNot) → bits op k a b = r → BinI op k a b (.int k r)
  | mulu {a b : Int} : 0 ≤ a * b ∧ a * b ≤ 18446744073709551615 → BinI .mul .u64 a b (.int .u64 (a * b))
  | quo {k : IntKind} {a b : Int} : 0 ≤ a ∧ 0 < b ∧ k.wrap (a / b) = a / b → BinI .quo k a b (.int k (a / b))
  | rem {k : IntKind} {a b : Int} : 0 ≤ a ∧ 0 < b → BinI .rem k a b (.int k (a % b))
  | ltT {k : IntKind} {a b : Int} : a < b → BinI .lss k a b (.bool true)
  | ltF {k : IntKind} {a b : Int} : b ≤ a → BinI .lss k a b (.bool false)
  | leT {k : IntKind} {a b : Int} : a ≤ b → BinI .leq k a b (.bool true)
  | leF {k : IntKind} {a b : Int} : b < a → BinI .leq k a b (.bool false)
  | gtT {k : IntKind} {a b : Int} : b < a → BinI .gtr k a b (.bool true)
  | gtF {k : IntKind} {a b : Int} : a ≤ b → BinI .gtr k a b (.bool false)
  | geT {k : IntKind} {a b : Int} : b ≤ a → BinI .geq k a b (.bool true)
  | geF {k : IntKind} {a b : Int} : a < b → BinI .geq k a b (.bool false)
  | eqT {k : IntKind} {a b : Int} : a = b → BinI .eql k a b (.bool true)
  | eqF {k : IntKind} {a b : Int} : ¬ a = b → BinI .eql k a b (.bool false)
  | neT {k : IntKind} {a b : Int} : ¬ a = b → BinI .neq k a b (.bool true)
  | neF {k : IntKind} {a b : Int} : a = b → BinI .neq k a b (.bool false)
  | lt {k : IntKind} {a b : Int} : BinI .lss k a b (.bool (decide (a < b)))
  | le {k : IntKind} {a b : Int} : BinI .leq k a b (.bool (decide (a ≤ b)))
  | gt {k : IntKind} {a b : Int} : BinI .gtr k a b (.bool (decide (b < a)))
  | ge {k : IntKind} {a b : Int} : BinI .geq k a b (.bool (decide (b ≤ a)))
  | eq {k : IntKind} {a b : Int} : BinI .eql k a b (.bool (decide (a = b)))
  | ne {k : IntKind} {a b : Int} : BinI .neq k a b (.bool (!decide (a = b)))
  | raw {op : BinOp} {k : IntKind} {a b : Int} {r : Value} : intBin op k a b = some r → BinI op k a b r
theorem BinI.ok {op : BinOp} {k : IntKind} {a b : Int} {r : Value} (h : BinI op k a b r) : intBin op k a b = some r := by
  cases h with
  | add h => show some (Value.int _ _) = _; rw [wrap64_id h]
  | sub h => show some (Value.int _ _) = _; rw [wrap64_id h]
  | mul h => show some (Value.int _ _) = _; rw [wrap64_id h]
  | addu h => show some (Value.int _ _) = _; rw [wrapu64_id h]
  | subu h => show some (Value.int _ _) = _; rw [wrapu64_id h]
  | bitsE h1 h2 => subst h2; rcases h1 with rfl | rfl | rfl | rfl <;> rfl
  | mulu h => show some (Value.int _ _) = _; rw [wrapu64_id h]
  | quo h => obtain ⟨h1, h2, h3⟩ := h; simp only [intBin]; rw [if_neg (by omega), Int.tdiv_eq_ediv_of_nonneg h1, h3]
  | rem h => obtain ⟨h1, h2⟩ := h; simp only [intBin]; rw [if_neg (by omega), Int.tmod_eq_emod_of_nonneg h1]
  | ltT h => simp [intBin, h]
  | ltF h => simp [intBin]; omega
  | leT h => simp [intBin, h]
  | leF h => simp [intBin]; omega
  | gtT h => simp [intBin, h]
  | gtF h => simp [intBin]; omega
  | geT h => simp [intBin, h]
  | geF h => simp [intBin]; omega
  | eqT h => simp [intBin, h]
  | eqF h => simp [intBin, h]
  | neT h => simp [intBin, h]
  | neF h => simp [intBin, h]
  | lt => rfl
  | le => rfl
  | gt => rfl
  | ge => rfl
  | eq => simp only [intBin]; congr 2
  | ne => simp only [intBin]; congr 2
  | raw h => exact h
theorem m_bin {op : BinOp} {t : Nat} {x y : Operand} {t' : Nat} {k : IntKind} {p q : Int} {r : Value} (ho : o.op = .binOp op t x y t' := by rfl) (hx : opd env x = .lit (.int k p) := by rfl) (hy : opd env y = .lit (.int k q) := by rfl)
    (hr : BinI op k p q r := by first | exact .add (by omega) | exact .sub (by omega) | exact .ltT (by omega) | exact .ltF (by omega) | exact .leT (by omega) | exact .leF (by omega) | exact .gtT (by omega) | exact .gtF (by omega) | exact .geT (by omega) | exact .geF (by omega) | exact .eqT (by omega) | exact .eqF (by omega) | exact .neT (by omega) | exact .neF (by omega) | exact .mul (by omega) | exact .addu (by omega) | exact .subu (by omega) | exact .rem (by omega) | exact .lt | exact .le | exact .gt | exact .ge | exact .eq | exact .ne | exact .raw rfl) : OpOK P o env sto nxt ⟨.lit r, [], [], 0⟩ := r_bin ho hx hy hr.ok
theorem m_bin' {op : BinOp} {t : Nat} {x y : Operand} {t' : Nat} {k : IntKind} {p q : Int} {r : Value} (hr : BinI op k p q r) (ho : o.op = .binOp op t x y t' := by rfl) (hx : opd env x = .lit (.int k p) := by rfl) (hy : opd env y = .lit (.int k q) := by rfl) : OpOK P o env sto nxt ⟨.lit r, [], [], 0⟩ := r_bin ho hx hy hr.ok
theorem m_eqB {t : Nat} {x y : Operand} {t' : Nat} {p q : Bool} {td : TyD} (ht : TyOk P t td) (ho : o.op = .binOp .eql t x y t' := by rfl) (hk : td.k = .bool := by rfl) (hx : opd env x = .lit (.bool p) := by rfl) (hy : opd env y = .lit (.bool q) := by rfl) : OpOK P o env sto nxt ⟨.lit (.bool (p == q)), [], [], 0⟩ := r_eqB ho ht hk hx hy
theorem m_neB {t : Nat} {x y : Operand} {t' : Nat} {p q : Bool} {td : TyD} (ht : TyOk P t td) (ho : o.op = .binOp .neq t x y t' := by rfl) (hk : td.k = .bool := by rfl) (hx : opd env x = .lit (.bool p) := by rfl) (hy : opd env y = .lit (.bool q) := by rfl) : OpOK P o env sto nxt ⟨.lit (.bool (p != q)), [], [], 0⟩ := r_neB ho ht hk hx hy

inductive ShI : BinOp → IntKind → Int → Int → Value → Prop
  | shl {a : Int} {s : Nat} : s ≤ 64 ∧ -9223372036854775808 ≤ a * 2 ^ s ∧ a * 2 ^ s ≤ 9223372036854775807 → ShI .shl .i64 a s (.int .i64 (a * 2 ^ s))
  | shlu {a : Int} {s : Nat} : s ≤ 64 ∧ 0 ≤ a * 2 ^ s ∧ a * 2 ^ s ≤ 18446744073709551615 → ShI .shl .u64 a s (.int .u64 (a * 2 ^ s))
  | shr {k : IntKind} {a : Int} {s : Nat} : s ≤ k.bits → ShI .shr k a s (.int k (a / 2 ^ s))
  | shlZ {a q : Int} : 0 ≤ q ∧ q ≤ 64 ∧ -9223372036854775808 ≤ a * 2 ^ q.toNat ∧ a * 2 ^ q.toNat ≤ 9223372036854775807 → ShI .shl .i64 a q (.int .i64 (a * 2 ^ q.toNat))
  | shluZ {a q : Int} : 0 ≤ q ∧ q ≤ 64 ∧ 0 ≤ a * 2 ^ q.toNat ∧ a * 2 ^ q.toNat ≤ 18446744073709551615 → ShI .shl .u64 a q (.int .u64 (a * 2 ^ q.toNat))
  | shrZ {k : IntKind} {a q : Int} : 0 ≤ q ∧ q.toNat ≤ k.bits → ShI .shr k a q (.int k (a / 2 ^ q.toNat))
  | raw {op : BinOp} {k : IntKind} {a b : Int} {r : Value} : shiftBin op k a b = some r → ShI op k a b r
theorem ShI.ok {op : BinOp} {k : IntKind} {a b : Int} {r : Value} (h : ShI op k a b r) : shiftBin op k a b = some r := by
  cases h with
  | shl h =>
    obtain ⟨h1, h2⟩ := h
    simp only [shiftBin]
    rw [if_neg (by omega), Int.toNat_natCast, Nat.min_eq_left (show _ ≤ IntKind.i64.bits from h1), wrap64_id h2]
  | shlu h =>
    obtain ⟨h1, h2⟩ := h
    simp only [shiftBin]
    rw [if_neg (by omega), Int.toNat_natCast, Nat.min_eq_left (show _ ≤ IntKind.u64.bits from h1), wrapu64_id h2]
  | shr h =>
    simp only [shiftBin]
    rw [if_neg (by omega), Int.toNat_natCast, Nat.min_eq_left h, Int.fdiv_eq_ediv_of_nonneg _ (Int.le_of_lt (Int.pow_pos (by decide)))]
  | shlZ h =>
    obtain ⟨h0, h1, h2⟩ := h
    simp only [shiftBin]
    rw [if_neg (by omega), Nat.min_eq_left (show _ ≤ IntKind.i64.bits by show _ ≤ 64; omega), wrap64_id h2]
  | shluZ h =>
    obtain ⟨h0, h1, h2⟩ := h
    simp only [shiftBin]
    rw [if_neg (by omega), Nat.min_eq_left (show _ ≤ IntKind.u64.bits by show _ ≤ 64; omega), wrapu64_id h2]
  | shrZ h =>
    simp only [shiftBin]
    rw [if_neg (by omega), Nat.min_eq_left h.2, Int.fdiv_eq_ediv_of_nonneg _ (Int.le_of_lt (Int.pow_pos (by decide)))]
  | raw h => exact h
theorem m_sh {op : BinOp} {t : Nat} {x y : Operand} {t' : Nat} {k j : IntKind} {p q : Int} {r : Value} (hr : ShI op k p q r) (ho : o.op = .binOp op t x y t' := by rfl) (hx : opd env x = .lit (.int k p) := by rfl) (hy : opd env y = .lit (.int j q) := by rfl) : OpOK P o env sto nxt ⟨.lit r, [], [], 0⟩ := r_shift ho hx hy hr.ok

inductive CnvI : IntKind → Int → Value → Prop
  | i64 {n : Int} : -9223372036854775808 ≤ n ∧ n ≤ 9223372036854775807 → CnvI .i64 n (.int .i64 n)
  | u64 {n : Int} : 0 ≤ n ∧ n ≤ 18446744073709551615 → CnvI .u64 n (.int .u64 n)
  | raw {k : IntKind} {n : Int} : CnvI k n (.int k (k.wrap n))
theorem m_conv {src dst : Nat} {x : Operand} {td td' : TyD} {k q : IntKind} {n : Int} {r : Value} (hs : TyOk P src td) (hd : TyOk P dst td') (ho : o.op = .convert src dst x := by rfl) (hk : td'.k = .int k := by rfl) (hx : opd env x = .lit (.int q n) := by rfl)
    (hr : CnvI k n r := by first | exact .i64 (by omega) | exact .u64 (by omega) | exact .raw) : OpOK P o env sto nxt ⟨.lit r, [], [], 0⟩ := by
  have := r_conv (P := P) (sto := sto) (nxt := nxt) ho hs hd hk hx
  cases hr with
  | i64 h => rwa [wrap64_id h] at this
  | u64 h => rwa [wrapu64_id h] at this
  | raw => exact this

theorem map_at {α : Type} {c : α → List DV} {l : List α} {i : Nat} (h : i < l.length) : (l.map c)[i]? = some (c l[i]) := by rw [List.getElem?_map, List.getElem?_eq_getElem h]; rfl

/-- where an address points to, in cells -/
inductive Cells (env : Env) (sto : Sto) : Operand → List DV → List Nat → Prop
  | pp {p : Operand} {cs : List DV} : opd env p = .pp cs → Cells env sto p cs []
  | ptr {p : Operand} {s i j : Nat} {ob : Ob} {x : List DV} : opd env p = .ptr s i j → sto.get s = some ob → ob.els[i]? = some x → Cells env sto p (x.drop j) [s]
  | ptrM {α : Type} {c : α → List DV} {l : List α} {p : Operand} {s i j z : Nat} {arr frz : Bool} : opd env p = .ptr s i j → sto.get s = some ⟨z, arr, frz, l.map c⟩ → (h : i < l.length) → Cells env sto p ((c l[i]).drop j) [s]
theorem m_load {t : Nat} {p : Operand} {td : TyD} {d : DV} {cs : List DV} {rs : List Nat} (ht : TyOk P t td) (ho : o.op = .load t p := by rfl) (hc : Cells env sto p cs rs := by first | exact .ptr rfl rfl rfl | exact .pp rfl | exact .ptrM rfl rfl (by omega)) (hd : ldD td cs = some d := by rfl) : OpOK P o env sto nxt ⟨d, [], rs, 0⟩ := by
  cases hc with
  | pp hp => exact r_loadP ho ht hp hd
  | ptr hp hs hx => exact r_load ho ht hp hs hx hd
  | ptrM hp hs h => exact r_load ho ht hp hs (map_at h) hd

inductive FaD (env : Env) (sto : Sto) (off : Nat) : Operand → DV → List Nat → Prop
  | pp {p : Operand} {cs : List DV} : opd env p = .pp cs → FaD env sto off p (.pp (cs.drop off)) []
  | ptr {p : Operand} {s i j : Nat} {ob : Ob} : opd env p = .ptr s i j → sto.get s = some ob → FaD env sto off p (.ptr s i (j + off)) [s]
theorem m_fa {t f : Nat} {p : Operand} {td : TyD} {fs : List (Nat × Nat)} {off size : Nat} {d : DV} {rs : List Nat} (ht : TyOk P t td) (ho : o.op = .fieldAddr t p f := by rfl) (hk : td.k = .struct fs := by rfl) (hf : fs[f]? = some (off, size) := by rfl) (h0 : size ≠ 0 := by decide)
    (hc : FaD env sto off p d rs := by first | exact .ptr rfl rfl | exact .pp rfl) : OpOK P o env sto nxt ⟨d, [], rs, 0⟩ := by
  cases hc with
  | pp hp => exact r_faP ho ht hk hf h0 hp
  | ptr hp hs => exact r_fa ho ht hk hf h0 hp hs

/-- an element's address; the index is a natural number, or not negative -/
inductive IaD (env : Env) (sto : Sto) (z : Nat) : Operand → Operand → DV → List Nat → Prop
  | map {α : Type} {c : α → List DV} {l : List α} {x ix : Operand} {k : IntKind} {i : Nat} : opd env x = .sl (l.map c) → opd env ix = .lit (.int k (i : Int)) → (h : i < l.length) → (c l[i]).length = z → IaD env sto z x ix (.pp (c l[i])) []
  | mapZ {α : Type} {c : α → List DV} {l : List α} {x ix : Operand} {k : IntKind} {n : Int} : opd env x = .sl (l.map c) → opd env ix = .lit (.int k n) → 0 ≤ n → (h : n.toNat < l.length) → (c l[n.toNat]).length = z → IaD env sto z x ix (.pp (c l[n.toNat])) []
  | sl {xs : List (List DV)} {y : List DV} {x ix : Operand} {k : IntKind} {i : Nat} : opd env x = .sl xs → opd env ix = .lit (.int k (i : Int)) → xs[i]? = some y → y.length = z → IaD env sto z x ix (.pp y) []
  | own {s off len : Nat} {ob : Ob} {x ix : Operand} {k : IntKind} {i : Nat} : opd env x = .own s off len → opd env ix = .lit (.int k (i : Int)) → sto.get s = some ob → ob.esz = z → i < len → IaD env sto z x ix (.ptr s (off + i) 0) [s]
  | ownZ {s off len : Nat} {ob : Ob} {x ix : Operand} {k : IntKind} {n : Int} : opd env x = .own s off len → opd env ix = .lit (.int k n) → sto.get s = some ob → ob.esz = z → 0 ≤ n → n.toNat < len → IaD env sto z x ix (.ptr s (off + n.toNat) 0) [s]
  | own0 {s len : Nat} {ob : Ob} {x ix : Operand} {k : IntKind} {i : Nat} : opd env x = .own s 0 len → opd env ix = .lit (.int k (i : Int)) → sto.get s = some ob → ob.esz = z → i < len → IaD env sto z x ix (.ptr s i 0) [s]
  | own0Z {s len : Nat} {ob : Ob} {x ix : Operand} {k : IntKind} {n : Int} : opd env x = .own s 0 len → opd env ix = .lit (.int k n) → sto.get s = some ob → ob.esz = z → 0 ≤ n → n.toNat < len → IaD env sto z x ix (.ptr s n.toNat 0) [s]
theorem m_ia {t e : Nat} {x ix : Operand} {tt td : TyD} {d : DV} {rs : List Nat} (ht : TyOk P t tt) (he : TyOk P e td) (ho : o.op = .indexAddr t x ix := by rfl) (hk : tt.k = .slice e := by rfl)
    (hc : IaD env sto td.size x ix d rs := by first | exact .map rfl rfl (by omega) rfl | exact .own0 rfl rfl rfl rfl (by omega) | exact .own rfl rfl rfl rfl (by omega) | exact .mapZ rfl rfl (by omega) (by omega) rfl | exact .own0Z rfl rfl rfl rfl (by omega) (by omega) | exact .ownZ rfl rfl rfl rfl (by omega) (by omega) | exact .sl rfl rfl rfl rfl) : OpOK P o env sto nxt ⟨d, [], rs, 0⟩ := by
  cases hc with
  | map hx hi h hl => exact r_iaM ho ht hk he hx hi h hl
  | mapZ hx hi h0 h hl => exact r_iaM ho ht hk he hx (by rw [Int.toNat_of_nonneg h0]; exact hi) h hl
  | sl hx hi hy hl => exact r_iaS ho ht hk he hx hi hy hl
  | own hx hi hs hz hlt => exact r_iaO ho ht hk he hx hi hs hz hlt
  | own0 hx hi hs hz hlt => have := r_iaO (P := P) (nxt := nxt) ho ht hk he hx hi hs hz hlt; rw [Nat.zero_add] at this; exact this
  | own0Z hx hi hs hz h0 hlt => have := r_iaO (P := P) (nxt := nxt) ho ht hk he hx (by rw [Int.toNat_of_nonneg h0]; exact hi) hs hz hlt; rw [Nat.zero_add] at this; exact this
  | ownZ hx hi hs hz h0 hlt => exact r_iaO ho ht hk he hx (by rw [Int.toNat_of_nonneg h0]; exact hi) hs hz hlt
theorem m_iaA {t e n : Nat} {x ix : Operand} {tt td : TyD} {k : IntKind} {i : Nat} {s p q : Nat} {ob : Ob} (ht : TyOk P t tt) (he : TyOk P e td) (ho : o.op = .indexAddr t x ix := by rfl) (hk : tt.k = .array n e := by rfl) (hx : opd env x = .ptr s p q := by rfl) (hi : opd env ix = .lit (.int k (i : Int)) := by rfl) (hs : sto.get s = some ob := by rfl)
    (hlt : i < n := by omega) : OpOK P o env sto nxt ⟨.ptr s p (q + i * td.size), [], [s], 0⟩ := r_iaA ho ht hk he hx hi hs hlt

inductive LenD (env : Env) (sto : Sto) : Operand → Nat → List Nat → Prop
  | map {α : Type} {c : α → List DV} {l : List α} {x : Operand} : opd env x = .sl (l.map c) → LenD env sto x l.length []
  | sl {xs : List (List DV)} {x : Operand} : opd env x = .sl xs → LenD env sto x xs.length []
  | nil {x : Operand} : opd env x = .lit (.slice none 0 0) → LenD env sto x 0 []
  | own {s off len : Nat} {ob : Ob} {x : Operand} : opd env x = .own s off len → sto.get s = some ob → LenD env sto x len [s]
theorem m_len {x : Operand} {t : Nat} {td : TyD} {e n : Nat} {rs : List Nat} (ht : TyOk P t td) (ho : o.op = .call ⟨.builtin .len, #[x], #[t]⟩ := by rfl) (hk : td.k = .slice e := by rfl)
    (hx : LenD env sto x n rs := by first | exact .map rfl | exact .own rfl rfl | exact .nil rfl | exact .sl rfl) : OpOK P o env sto nxt ⟨.lit (.int .i64 n), [], rs, 0⟩ := by
  cases hx with
  | map h => exact r_lenS ho ht hk h (by simp)
  | sl h => exact r_lenS ho ht hk h rfl
  | nil h => exact r_lenN ho ht hk h
  | own h hs => exact r_lenO ho ht hk h hs

inductive NilD (env : Env) (sto : Sto) : Operand → DV → List Nat → Prop
  | pp {x : Operand} {cs : List DV} : opd env x = .pp cs → NilD env sto x (.pp cs) []
  | ptr {x : Operand} {s i j : Nat} {ob : Ob} : opd env x = .ptr s i j → sto.get s = some ob → NilD env sto x (.ptr s i j) [s]
  | fn {x : Operand} {f : Nat} {xs : List DV} : opd env x = .fn f xs → NilD env sto x (.fn f xs) []
  | func {x : Operand} {f : Nat} {p q : Array Value} : opd env x = .lit (.func (.func f) p q) → NilD env sto x (.lit (.func (.func f) p q)) []
theorem m_nil {x : Operand} {d : DV} {rs : List Nat} (ho : o.op = .nilCheck x := by rfl) (hc : NilD env sto x d rs := by first | exact .ptr rfl rfl | exact .pp rfl | exact .fn rfl | exact .func rfl) : OpOK P o env sto nxt ⟨d, [], rs, 0⟩ := by
  cases hc with
  | pp h => exact r_nilP ho h
  | ptr h hs => exact r_nil ho h hs
  | fn h => exact r_nilF ho h
  | func h => exact r_nilL ho h

theorem m_alloc {t : Nat} {td : TyD} (ht : TyOk P t td) (ho : o.op = .alloc t := by rfl) (hz : td.zero.length = td.size := by rfl) (h0 : 0 < td.size := by decide) : OpOK P o env sto nxt ⟨.ptr nxt 0 0, [(nxt, some ⟨td.size, false, false, [td.zero]⟩)], [], 1⟩ := r_alloc ho ht hz h0
theorem m_box {t : Nat} {x : Operand} {td : TyD} {cs : List DV} {r : List Nat} (ht : TyOk P t td) (ho : o.op = .box t x := by rfl) (hc : cellsD td (opd env x) = some cs := by rfl) (hb : boxF sto cs = some r := by rfl) (h0 : 0 < td.size := by decide) :
    OpOK P o env sto nxt ⟨.ptr nxt 0 0, [(nxt, some ⟨td.size, false, false, [cs]⟩)], r, 1⟩ := r_box ho ht hc hb h0
theorem m_build {t : Nat} {parts : Array (Nat × Operand)} {l : List (Nat × Operand)} {td : TyD} {fs : List (Nat × Nat)} {cells : List DV} {r : List Nat} (ht : TyOk P t td) (ho : o.op = .build t parts := by rfl) (hp : parts = l.toArray := by rfl) (hk : td.k = .struct fs := by rfl)
    (h : fillD sto (fs[·]?) td.zero (l.map fun p => (p.1, opd env p.2)) = some (cells, r) := by rfl) : OpOK P o env sto nxt ⟨.agg cells, [], r, 0⟩ := r_build ho hp ht hk h
theorem m_lit {t e len : Nat} {parts : Array (Nat × Operand)} {l : List (Nat × Operand)} {tt td : TyD} {cells cells' : List DV} {r us : List Nat} (ht : TyOk P t tt) (he : TyOk P e td) (ho : o.op = .buildSlice t len parts := by rfl) (hp : parts = l.toArray := by rfl) (hk : tt.k = .slice e := by rfl)
    (hz : td.zero.length = td.size := by rfl) (h0 : 0 < td.size := by decide) (h1 : 0 < len := by decide) (hm : len * td.size ≤ 16777216 := by decide)
    (h : fillD sto (fun i => some (i * td.size, td.size)) (zeros td len) (l.map fun p => (p.1, opd env p.2)) = some (cells, r) := by rfl) (hpu : pureL sto cells = some (cells', us) := by rfl) :
    OpOK P o env sto nxt ⟨.own nxt 0 len, (nxt, some ⟨td.size, true, false, chunks len td.size cells'⟩) :: frzU sto us, r ++ us, 1⟩ := r_lit ho hp ht hk he hz h0 h1 hm h hpu
theorem m_make {t e : Nat} {l c : Operand} {tt td : TyD} {k : IntKind} {n : Nat} (ht : TyOk P t tt) (he : TyOk P e td) (ho : o.op = .makeSlice t l c := by rfl) (hk : tt.k = .slice e := by rfl) (hl : opd env l = .lit (.int k (n : Int)) := by rfl) (hc : opd env c = .lit (.int k (n : Int)) := by rfl)
    (hb : td.bytes * n ≤ 281474976710656 := by simp only []; omega) (hm : n ≤ 9223372036854775807 := by omega) (hz : td.zero.length = td.size := by rfl) (h0 : 0 < td.size := by decide) :
    OpOK P o env sto nxt ⟨.own nxt 0 n, [(nxt, some ⟨td.size, true, false, List.replicate n td.zero⟩)], [], 1⟩ := r_make ho ht hk he hl hc hb hm hz h0

/-- a store -/
inductive StD (env : Env) (sto : Sto) (td : TyD) : Operand → Operand → List (Nat × Option Ob) → List Nat → Prop
  | box {p x : Operand} {s i j : Nat} {ob : Ob} {y cs : List DV} {r : List Nat} : opd env p = .ptr s i j → sto.get s = some ob → ob.frz = false → ob.arr = false → cellsD td (opd env x) = some cs → boxF sto cs = some r → ob.els[i]? = some y → j + cs.length ≤ y.length →
      StD env sto td p x [(s, some { ob with els := ob.els.set i (setCells y j cs) })] (s :: r)
  | arr {p x : Operand} {s i j : Nat} {ob : Ob} {y cs cs' : List DV} {us : List Nat} : opd env p = .ptr s i j → sto.get s = some ob → ob.frz = false → ob.arr = true → cellsD td (opd env x) = some cs → pureL sto cs = some (cs', us) → us.contains s = false → ob.els[i]? = some y → j + cs.length ≤ y.length →
      StD env sto td p x ((s, some { ob with els := ob.els.set i (setCells y j cs') }) :: frzU sto us) (s :: us)
  | arrM {α : Type} {c : α → List DV} {l : List α} {p x : Operand} {s i j z : Nat} {cs cs' : List DV} {us : List Nat} : opd env p = .ptr s i j → sto.get s = some ⟨z, true, false, l.map c⟩ → cellsD td (opd env x) = some cs → pureL sto cs = some (cs', us) → us.contains s = false → (h : i < l.length) → j + cs.length ≤ (c l[i]).length →
      StD env sto td p x ((s, some ⟨z, true, false, (l.map c).set i (setCells (c l[i]) j cs')⟩) :: frzU sto us) (s :: us)
theorem m_store {t : Nat} {p x : Operand} {td : TyD} {us : List (Nat × Option Ob)} {rs : List Nat} (ht : TyOk P t td) (ho : o.op = .store t p x := by rfl)
    (hc : StD env sto td p x us rs := by first | exact .box rfl rfl rfl rfl rfl rfl rfl (by first | decide | exact Nat.le_of_ble_eq_true rfl) | exact .arrM rfl rfl rfl rfl rfl (by omega) (by first | decide | exact Nat.le_of_ble_eq_true rfl) | exact .arr rfl rfl rfl rfl rfl rfl rfl rfl (by first | decide | exact Nat.le_of_ble_eq_true rfl)) : OpOK P o env sto nxt ⟨.any, us, rs, 0⟩ := by
  cases hc with
  | box h1 h2 h3 h4 h5 h6 h7 h8 => exact r_store ho ht h1 h2 h3 h4 h5 h6 h7 h8
  | arr h1 h2 h3 h4 h5 h6 h7 h8 h9 => exact r_storeA ho ht h1 h2 h3 h4 h5 h6 h7 h8 h9
  | arrM h1 h2 h5 h6 h7 h8 h9 => exact r_storeA ho ht h1 h2 rfl rfl h5 h6 h7 (map_at h8) h9

inductive ElsD (env : Env) (sto : Sto) (z : Nat) : Operand → List (List DV) → List Nat → Prop
  | map {α : Type} {c : α → List DV} {l : List α} {x : Operand} : opd env x = .sl (l.map c) → (∀ a, (c a).length = z) → ElsD env sto z x (l.map c) []
  | own {α : Type} {c : α → List DV} {l : List α} {x : Operand} {s off len : Nat} {frz : Bool} : opd env x = .own s off len → sto.get s = some ⟨z, true, frz, l.map c⟩ → off = 0 → len = l.length → (∀ a, (c a).length = z) → ElsD env sto z x (l.map c) [s]
  | raw {x : Operand} {ys : List (List DV)} {rs : List Nat} : elsF sto (opd env x) = some (ys, rs) → (∀ y ∈ ys, y.length = z) → ElsD env sto z x ys rs
theorem ElsD.ok {z : Nat} {x : Operand} {ys : List (List DV)} {rs : List Nat} (h : ElsD env sto z x ys rs) : elsF sto (opd env x) = some (ys, rs) ∧ ∀ y ∈ ys, y.length = z := by
  cases h with
  | map h hz =>
    rw [h]
    exact ⟨rfl, fun y hy => by obtain ⟨a, _, rfl⟩ := List.mem_map.1 hy; exact hz a⟩
  | own h hs h0 hl hz =>
    rw [h]
    subst h0
    subst hl
    refine ⟨?_, fun y hy => by obtain ⟨a, _, rfl⟩ := List.mem_map.1 hy; exact hz a⟩
    unfold elsF
    simp only [hs]
    rw [if_pos ⟨trivial, by simp⟩, List.drop_zero, List.take_of_length_le (by simp)]
  | raw h hz => exact ⟨h, hz⟩
/-- append -/
inductive AppD (env : Env) (sto : Sto) (nxt z : Nat) : Operand → Nat → List (List DV) → List (Nat × Option Ob) → List Nat → Prop
  | nil {s : Operand} {ys : List (List DV)} : opd env s = .lit (.slice none 0 0) → AppD env sto nxt z s 0 ys [(nxt, some ⟨z, true, false, ys⟩)] []
  | own {s : Operand} {k len : Nat} {ob : Ob} {ys : List (List DV)} : opd env s = .own k 0 len → sto.get k = some ob → ob.frz = false → ob.arr = true → ob.esz = z → len = ob.els.length → AppD env sto nxt z s len ys [(k, none), (nxt, some ⟨z, true, false, ob.els ++ ys⟩)] [k]
theorem m_app {t e len : Nat} {s x : Operand} {tt td : TyD} {ys : List (List DV)} {rs rs' : List Nat} {us : List (Nat × Option Ob)} (ht : TyOk P t tt) (he : TyOk P e td) (ho : o.op = .call ⟨.builtin .append, #[s, x], #[t, t]⟩ := by rfl) (hk : tt.k = .slice e := by rfl)
    (hx : ElsD env sto td.size x ys rs := by first | exact .map rfl (fun _ => rfl) | exact .own rfl rfl rfl (by simp) (fun _ => rfl) | exact .raw rfl (by simp [chunks, List.range_succ]))
    (hs : AppD env sto nxt td.size s len ys us rs' := by first | exact .nil rfl | exact .own rfl rfl rfl rfl rfl (by simp))
    (hz : td.zero.length = td.size := by rfl) (h0 : 0 < td.size := by decide) (hb : (len + ys.length) * td.bytes ≤ 140737488355328 := by simp [chunks] <;> omega) (h63 : len + ys.length ≤ maxLen := by unfold maxLen; simp [chunks] <;> omega) :
    OpOK P o env sto nxt ⟨.own nxt 0 (len + ys.length), us, rs' ++ rs, 1⟩ := by
  obtain ⟨hx1, hx2⟩ := hx.ok
  cases hs with
  | nil h =>
    rw [Nat.zero_add] at hb h63 ⊢
    exact r_appN ho ht hk he h hx1 hz h0 hx2 hb h63
  | own h1 h2 h3 h4 h5 h6 =>
    have := r_app (P := P) (nxt := nxt) ho ht hk he h1 h2 hx1 h3 h4 (Nat.le_of_eq h6) h5 hz h0 hx2 hb h63
    rw [List.take_of_length_le (Nat.le_of_eq h6.symm)] at this
    exact this

theorem m_shA {op : BinOp} {t : Nat} {x y : Operand} {t' : Nat} {k j : IntKind} {p q : Int} {r : Value} (ho : o.op = .binOp op t x y t' := by rfl) (hx : opd env x = .lit (.int k p) := by rfl) (hy : opd env y = .lit (.int j q) := by rfl)
    (hr : ShI op k p q r := by first | exact .shr (by first | decide | omega) | exact .shl (by first | decide | omega) | exact .shlu (by first | decide | omega) | exact .raw rfl) : OpOK P o env sto nxt ⟨.lit r, [], [], 0⟩ := r_shift ho hx hy hr.ok
theorem m_xor {t : Nat} {x : Operand} {k : IntKind} {p : Int} (ho : o.op = .unOp .xor t x := by rfl) (hx : opd env x = .lit (.int k p) := by rfl) : OpOK P o env sto nxt ⟨.lit (.int k (k.wrap (BitVec.ofInt k.bits (if k.signed then -1 else k.max) ^^^ BitVec.ofInt k.bits p).toNat)), [], [], 0⟩ := r_xor ho hx
/-- a part of a slice -/
inductive SlD (env : Env) (sto : Sto) (z : Nat) : Operand → Option Operand → Option Operand → DV → List Nat → Prop
  | map {α : Type} {c : α → List DV} {l : List α} {x : Operand} {lo hi : Option Operand} {a b : Option Nat} : opd env x = .sl (l.map c) → Bnd env lo a → Bnd env hi b → a.getD 0 ≤ b.getD l.length → b.getD l.length ≤ l.length → (∀ a, (c a).length = z) → SlD env sto z x lo hi (.sl (((l.take (b.getD l.length)).drop (a.getD 0)).map c)) []
  | own {s off len : Nat} {ob : Ob} {x : Operand} {lo hi : Option Operand} {a b : Option Nat} : opd env x = .own s off len → sto.get s = some ob → Bnd env lo a → Bnd env hi b → ob.esz = z → a.getD 0 ≤ b.getD len → b.getD len ≤ len → a.getD 0 = 0 ∨ a.getD 0 < b.getD len → SlD env sto z x lo hi (.own s (off + a.getD 0) (b.getD len - a.getD 0)) [s]
theorem m_sl {t e : Nat} {x : Operand} {lo hi : Option Operand} {tt td : TyD} {d : DV} {rs : List Nat} (ht : TyOk P t tt) (he : TyOk P e td) (ho : o.op = .slice t x lo hi none := by rfl) (hk : tt.k = .slice e := by rfl)
    (hc : SlD env sto td.size x lo hi d rs := by first | exact .map rfl (by first | exact .none | exact .some rfl) (by first | exact .none | exact .some rfl) (by simp only [Option.getD]; omega) (by simp only [Option.getD]; omega) (fun _ => rfl) | exact .own rfl rfl (by first | exact .none | exact .some rfl) (by first | exact .none | exact .some rfl) rfl (by simp only [Option.getD]; omega) (by simp only [Option.getD]; omega) (by simp only [Option.getD]; omega)) : OpOK P o env sto nxt ⟨d, [], rs, 0⟩ := by
  cases hc with
  | @map α c l x lo hi a b hx hl hh h1 h2 hz =>
    have := r_slS (P := P) (sto := sto) (nxt := nxt) ho ht hk he hx hl hh (by simpa using h1) (by simpa using h2) (fun y hy => by
      have : y ∈ l.map c := List.mem_of_mem_head? hy
      obtain ⟨a, _, rfl⟩ := List.mem_map.1 this
      exact hz a)
    simpa [List.map_take, List.map_drop] using this
  | own hx hs hl hh hz h1 h2 h3 => exact r_slO ho ht hk he hx hs hl hh hz h1 h2 h3
end
end Go.Proofs.Ythpnlnjdmlbnaaa
/- Calls, loops and ends on data, with their side conditions sought by themselves. No condition. -/
namespace Go.Proofs.Ythpnlnjdmlbnaaa
open Go.RowKit
set_option linter.unusedSimpArgs false
set_option linter.unusedVariables false

abbrev DI (n : Int) : DV := .lit (.int .i64 n)
abbrev DU (n : Int) : DV := .lit (.int .u64 n)
abbrev DB (b : Bool) : DV := .lit (.bool b)
abbrev DN : DV := .lit (.slice none 0 0)
theorem Cv.litE {sto : Sto} {ρ : Ren} {u v : Value} (h : u = v) : Cv sto ρ (.lit u) (.lit v) [] := h ▸ .lit
theorem Cv.frzM {α : Type} {c : α → List DV} {l : List α} {sto : Sto} {ρ : Ren} {s len z : Nat} {fz : Bool} (h : sto.get s = some ⟨z, true, fz, l.map c⟩) (hl : len = l.length) : Cv sto ρ (.own s 0 len) (.sl (l.map c)) [s] :=
  .frz h rfl (by simp [hl]) (by rw [hl, List.drop_zero, List.take_of_length_le (by simp)])
theorem Cv.slE {sto : Sto} {ρ : Ren} {xs ys : List (List DV)} (h : xs = ys) : Cv sto ρ (.sl xs) (.sl ys) [] := h ▸ .sl
theorem CvO.arrE {sto : Sto} {ρ : Ren} {z : Nat} {fz : Bool} {xs ys : List (List DV)} (h : xs = ys) : CvO sto ρ ⟨z, true, fz, xs⟩ ⟨z, true, fz, ys⟩ [] := h ▸ .arr rfl

section
variable {P : Program} {env : Env} {sto : Sto} {nxt : Nat} {o : Oper}

theorem idb_nil (n : Nat) : idb [] n = n := rfl
theorem callU_nil (nxt : Nat) : callU [] 0 nxt [] = [] := rfl

/-- a call without objects handed in or made, that returns nothing plain: what it reads need not be frozen -/
theorem m_call {c : Operand} {args : Array Operand} {l : List Operand} {ty : Array TypeId} {f : Nat} {cap ds : List DV} {v : Value} {fr1 : List Nat} (hc : DCall P f ds [] (.lit v) []) (ho : o.op = .call ⟨.value c, args, ty⟩ := by rfl) (hl : args = l.toArray := by rfl) (hcl : CalleeD env c f cap := by first | exact .func | exact .tmp rfl | exact .clo rfl)
    (hA : CvL sto [] (l.map (opd env) ++ cap) ds fr1 := by repeat' (first | exact CvL.nil | apply CvL.cons | exact .lit | exact .any | exact .sl | exact .nil | exact .frzM rfl (by first | rfl | simp) | exact .pp | apply Cv.agg | apply Cv.tup | apply Cv.fn | exact .litE (by assumption))) : OpOK P o env sto nxt ⟨.lit v, [], fr1, 0⟩ := by
  have := r_callB (P := P) (nxt := nxt) (ρ := []) (fr2 := []) ho hl hcl hc .lit (fun s ob h => by cases h) hA .nil rfl rfl
  simpa [outOf, ren, callU, idb, List.append_nil] using this
/-- the same with several results -/
theorem m_callT {c : Operand} {args : Array Operand} {l : List Operand} {ty : Array TypeId} {f : Nat} {cap ds : List DV} {vs : List Value} {fr1 : List Nat} (hc : DCall P f ds [] (.tup (vs.map .lit)) []) (ho : o.op = .call ⟨.value c, args, ty⟩ := by rfl) (hl : args = l.toArray := by rfl) (hcl : CalleeD env c f cap := by first | exact .func | exact .tmp rfl | exact .clo rfl)
    (hA : CvL sto [] (l.map (opd env) ++ cap) ds fr1 := by repeat' (first | exact CvL.nil | apply CvL.cons | exact .lit | exact .any | exact .sl | exact .nil | exact .frzM rfl (by first | rfl | simp) | exact .pp | apply Cv.agg | apply Cv.tup | apply Cv.fn | exact .litE (by assumption))) : OpOK P o env sto nxt ⟨.tup (vs.map .lit), [], fr1, 0⟩ := by
  have hm : ∀ vs : List Value, renL (phi [] 0 nxt) (vs.map .lit) = vs.map .lit := fun vs => by
    rw [renL_map, List.map_map]
    exact List.map_congr_left fun v _ => by simp [ren]
  have := r_callB (P := P) (nxt := nxt) (ρ := []) (fr2 := []) ho hl hcl hc (.tup fun d hd => by obtain ⟨v, _, rfl⟩ := List.mem_map.1 hd; exact .lit) (fun s ob h => by cases h) hA .nil rfl rfl
  simpa [outOf, ren, callU, idb, List.append_nil, hm] using this
/-- a call whose result is plain: what it is handed is frozen -/
theorem m_callF {c : Operand} {args : Array Operand} {l : List Operand} {ty : Array TypeId} {f : Nat} {cap ds : List DV} {r : DV} {fr1 : List Nat} (hc : DCall P f ds [] r []) (ho : o.op = .call ⟨.value c, args, ty⟩ := by rfl) (hl : args = l.toArray := by rfl) (hcl : CalleeD env c f cap := by first | exact .func | exact .tmp rfl | exact .clo rfl)
    (hA : CvL sto [] (l.map (opd env) ++ cap) ds fr1 := by repeat' (first | exact CvL.nil | apply CvL.cons | exact .lit | exact .any | exact .sl | exact .nil | exact .frzM rfl (by first | rfl | simp) | exact .pp | apply Cv.agg | apply Cv.tup | apply Cv.fn | exact .litE (by assumption))) : OpOK P o env sto nxt ⟨ren (phi [] 0 nxt) r, frzU sto fr1, fr1, 0⟩ := by
  have := r_callF (P := P) (nxt := nxt) (ρ := []) (fr2 := []) ho hl hcl hc hA .nil rfl rfl
  simpa [outOf, callU, idb, List.append_nil] using this
/-- a call in general, that returns nothing plain -/
theorem m_callS {c : Operand} {args : Array Operand} {l : List Operand} {ty : Array TypeId} {f : Nat} {cap ds : List DV} {S : Sto} {r : DV} {S' : Sto} {fr1 fr2 : List Nat} (ρ : Ren) (hc : DCall P f ds S r S') (hr : Sc r) (hsS : ScS S') (ho : o.op = .call ⟨.value c, args, ty⟩ := by rfl) (hl : args = l.toArray := by rfl) (hcl : CalleeD env c f cap := by first | exact .func | exact .tmp rfl | exact .clo rfl)
    (hA : CvL sto ρ (l.map (opd env) ++ cap) ds fr1 := by repeat' (first | exact CvL.nil | apply CvL.cons | exact .lit | exact .any | exact .sl | exact .nil | exact .own rfl | exact .ptr rfl | exact .frzM rfl (by first | rfl | simp) | exact .pp | apply Cv.agg | apply Cv.tup | apply Cv.fn | exact .litE (by assumption)))
    (hS : CvS sto ρ S fr2 := by repeat' (first | exact CvS.nil | apply CvS.cons rfl rfl | exact .arr rfl | apply CvO.box | exact CvL.nil | apply CvL.cons | exact .lit | exact .any | exact .sl | exact .nil | exact .own rfl | exact .ptr rfl | exact .frzM rfl (by first | rfl | simp) | exact .arrE (by assumption)))
    (hok : okC ρ (fr1 ++ fr2) S.length = true := by rfl) (hkn : knownB sto ρ = true := by rfl) : OpOK P o env sto nxt ⟨ren (phi ρ S.length nxt) r, callU ρ S.length nxt S', ρ.map (·.2) ++ (fr1 ++ fr2), idb S' S.length - S.length⟩ := by
  have := r_callB (P := P) (nxt := nxt) ho hl hcl hc hr hsS hA hS hok hkn
  simpa [outOf] using this
/-- a call in general: what is handed in plain is frozen -/
theorem m_callG {c : Operand} {args : Array Operand} {l : List Operand} {ty : Array TypeId} {f : Nat} {cap ds : List DV} {S : Sto} {r : DV} {S' : Sto} {fr1 fr2 : List Nat} (ρ : Ren) (hc : DCall P f ds S r S') (ho : o.op = .call ⟨.value c, args, ty⟩ := by rfl) (hl : args = l.toArray := by rfl) (hcl : CalleeD env c f cap := by first | exact .func | exact .tmp rfl | exact .clo rfl)
    (hA : CvL sto ρ (l.map (opd env) ++ cap) ds fr1 := by repeat' (first | exact CvL.nil | apply CvL.cons | exact .lit | exact .any | exact .sl | exact .nil | exact .own rfl | exact .ptr rfl | exact .frzM rfl (by first | rfl | simp) | exact .pp | apply Cv.agg | apply Cv.tup | apply Cv.fn | exact .litE (by assumption)))
    (hS : CvS sto ρ S fr2 := by repeat' (first | exact CvS.nil | apply CvS.cons rfl rfl | exact .arr rfl | apply CvO.box | exact CvL.nil | apply CvL.cons | exact .lit | exact .any | exact .sl | exact .nil | exact .own rfl | exact .ptr rfl | exact .frzM rfl (by first | rfl | simp) | exact .arrE (by assumption)))
    (hok : okC ρ (fr1 ++ fr2) S.length = true := by rfl) (hkn : knownB sto ρ = true := by rfl) : OpOK P o env sto nxt ⟨ren (phi ρ S.length nxt) r, callU ρ S.length nxt S' ++ frzU sto (fr1 ++ fr2), ρ.map (·.2) ++ (fr1 ++ fr2), idb S' S.length - S.length⟩ := r_callF ho hl hcl hc hA hS hok hkn

theorem CvL.numbers {sto : Sto} {ρ : Ren} : ∀ (l : List Int), CvL sto ρ (l.map DI) (l.map DI) []
  | [] => .nil
  | _ :: l => CvL.cons (r := []) (r' := []) .lit (CvL.numbers l)
/-- a box whose cells are numbers -/
theorem CvO.boxI {sto : Sto} {ρ : Ren} {z : Nat} {fz : Bool} {cs : List DV} {l : List Int} (h : cs = l.map DI) : CvO sto ρ ⟨z, false, fz, [cs]⟩ ⟨z, false, fz, [l.map DI]⟩ [] := by subst h; exact .box (.numbers l)
/-- a number of an array of numbers -/
theorem ldA {td : TyD} {l : List Int} {j p : Nat} (h : p < l.length) (e : j = p) (h1 : td.agg = false := by rfl) (h2 : td.size = 1 := by rfl) : ldD td ((l.map DI).drop j) = some (DI l[p]) := by
  subst e
  unfold ldD
  rw [h1, h2, if_neg (by decide), if_pos rfl, List.head?_drop, List.getElem?_map, List.getElem?_eq_getElem h]
  rfl
/-- less is known -/
theorem wk {n0 : Nat} {st st' : DSt} {fr1 fr2 : List Nat} (ρ : Ren)
    (h1 : CvE st.sto ρ st.env st'.env fr1 := by repeat' (first | exact CvE.nil | apply CvE.cons | exact .any | exact .lit | exact .sl | exact .nil | exact .own rfl | exact .ptr rfl | exact .pp | exact CvL.nil | apply CvL.cons | apply Cv.agg | apply Cv.tup | apply Cv.fn | exact .litE (by assumption) | exact .litE (congrArg (Value.int _) (by omega))))
    (h2 : CvS st.sto ρ st'.sto fr2 := by repeat' (first | exact CvS.nil | apply CvS.cons rfl rfl | exact .arr rfl | exact CvO.boxI rfl | exact CvO.boxI (by assumption) | apply CvO.box | exact CvL.nil | apply CvL.cons | exact .any | exact .lit | exact .sl | exact .nil | exact .own rfl | exact .ptr rfl | exact .pp | exact .arrE (by assumption) | exact .litE (by assumption) | exact .litE (congrArg (Value.int _) (by omega))))
    (h3 : okR ρ (fr1 ++ fr2) n0 st'.nxt = true := by rfl) : Weak n0 st st' := WeakE.weak ⟨ρ, fr1, fr2, h1, h2, h3⟩

/-- the end of a call -/
theorem fin {fn : Func} {n0 : Nat} {r : DV} {S' : Sto} {e : Exit} {st : DSt} {ds : List DV} {fr1 fr2 : List Nat} (ρ : Ren) (hl : ResL P st fn.results.toList ds)
    (h1 : Cv st.sto ρ (resV ds) r fr1 := by repeat' (first | exact .any | exact .lit | exact .sl | exact .nil | exact .own rfl | exact .ptr rfl | exact .frzM rfl (by first | rfl | simp) | exact .pp | exact CvL.nil | apply CvL.cons | apply Cv.agg | apply Cv.tup | apply Cv.fn | exact .litE (by assumption) | exact .litE (congrArg (Value.int _) (by omega)) | exact .litE (by simp [*])))
    (h2 : CvS st.sto ρ S' fr2 := by repeat' (first | exact CvS.nil | apply CvS.cons rfl rfl | exact .arr rfl | apply CvO.box | exact CvL.nil | apply CvL.cons | exact .any | exact .lit | exact .sl | exact .nil | exact .own rfl | exact .ptr rfl | exact .pp | exact .arrE (by assumption) | exact .litE (by assumption)))
    (h3 : okR ρ (fr1 ++ fr2) n0 (idb S' n0) = true := by rfl) (he : e = .normal ∨ e = .ret := by first | exact .inr rfl | exact .inl rfl) : RetD P fn n0 r S' e st := ⟨he, ds, ρ, fr1, fr2, hl, h1, h2, h3⟩

theorem PRep.len {w : World} {no : Nat → Prop} {v : Value} {xs : List (List DV)} (h : PRep w no v (.sl xs)) : xs.length ≤ 9223372036854775807 := by
  obtain ⟨_, cap, _, h1, h2, _⟩ := h.sl_inv
  unfold maxLen at h2
  omega
/-- slices are not longer than memory lets them be -/
theorem d_len {nt n0 : Nat} {Q : Exit → DSt → Prop} {code : Code} {st : DSt} {α : Type} {c : α → List DV} {l : List α} (k : Nat) (h : l.length ≤ 9223372036854775807 → DWp P nt n0 code Q st) (hk : st.env.get k = .sl (l.map c) := by rfl) : DWp P nt n0 code Q st := fun C h1 h2 a w hs => by
  refine h ?_ C h1 h2 a w hs
  obtain ⟨m, _, hm, _⟩ := hs
  have := hm.env k
  rw [hk] at this
  simpa using this.sl_inv.len
theorem d_lenA {nt n0 : Nat} {Q : Exit → DSt → Prop} {code : Code} {st : DSt} {α : Type} {c : α → List DV} {l : List α} {cs : List DV} (k i : Nat) (h : l.length ≤ 9223372036854775807 → DWp P nt n0 code Q st) (hk : st.env.get k = .agg cs := by rfl) (hi : cs[i]? = some (.sl (l.map c)) := by rfl) : DWp P nt n0 code Q st := fun C h1 h2 a w hs => by
  refine h ?_ C h1 h2 a w hs
  obtain ⟨m, _, hm, _⟩ := hs
  have := hm.env k
  rw [hk] at this
  obtain ⟨vs, _, q1, q2⟩ := this.agg_inv
  have hlt : i < vs.length := by
    rcases Nat.lt_or_ge i cs.length with h' | h'
    · omega
    · rw [List.getElem?_eq_none h'] at hi; cases hi
  simpa using (q2 i _ _ (List.getElem?_eq_getElem hlt) hi).sl_inv.len
end
end Go.Proofs.Ythpnlnjdmlbnaaa
/- Structs of numbers compared. No condition. -/
namespace Go.Proofs.Ythpnlnjdmlbnaaa
open Go.RowKit
set_option linter.unusedSimpArgs false
set_option linter.unusedVariables false

def intsOf : List DV → Option (List Int)
  | [] => some []
  | .lit (.int .i64 n) :: l => match intsOf l with | some r => some (n :: r) | none => none
  | _ => none
/-- a struct type of n numbers -/
def stEqB (P : Program) (t n : Nat) : Bool := match P.underlying t with
  | some (.struct fs) => !P.stoodInHeld t && !P.eqGuardType P.depth t && fs.size == n && fs.toList.zipIdx.all fun p => !(p.1.name == "_") && p.1.offset == p.2 && (match P.underlying p.1.type with | some (.int .i64) => true | _ => false) && (match P.info? p.1.type with | some i => i.size == 1 | none => false)
  | _ => false

section
variable {P : Program} {env : Env} {sto : Sto} {nxt : Nat} {o : Oper}
theorem intsOf_vals {m : Mem} {vs : List Value} {xs : List DV} {ms : List Int} (h : intsOf xs = some ms) (hr : Reps m vs xs) : vs = ms.map (Value.int .i64) := by
  induction xs generalizing vs ms with
  | nil =>
    injection h with h
    subst h
    exact List.length_eq_zero_iff.1 hr.1
  | cons x xs ih =>
    unfold intsOf at h
    split at h
    · rename_i hq; cases hq
    · rename_i n l hq
      injection hq with h1 h2
      subst h1
      subst h2
      split at h
      · rename_i r hr'
        injection h with h
        subst h
        cases vs with
        | nil => have := hr.1; simp at this
        | cons v vs =>
          have h1 := hr.2 0 v _ rfl rfl
          have h2 := ih (vs := vs) hr' ⟨by simpa using hr.1, fun i v d hv hd => hr.2 (i + 1) v d (by simpa using hv) (by simpa using hd)⟩
          rw [h1.lit_inv, h2]
          rfl
      · cases h
    · cases h

theorem run_eqFields (w : World) (ms bs : List Int) (d : Nat) (hl : ms.length = bs.length) : ∀ (fs : List Field) (k : Nat),
    (fs.zipIdx k).all (fun p => !(p.1.name == "_") && p.1.offset == p.2 && (match P.underlying p.1.type with | some (.int .i64) => true | _ => false) && (match P.info? p.1.type with | some i => i.size == 1 | none => false)) = true →
    k + fs.length = ms.length → (Op.eqFields (d + 1) (ms.map (Value.int .i64)).toArray (bs.map (Value.int .i64)).toArray fs).run P w = .ok (decide (ms.drop k = bs.drop k)) w
  | [], k, _, hk => by
    have h1 : ms.drop k = [] := List.drop_eq_nil_of_le (by simp at hk; omega)
    have h2 : bs.drop k = [] := List.drop_eq_nil_of_le (by simp at hk; omega)
    simp [Op.eqFields, h1, h2]
  | f :: fs, k, h, hk => by
    rw [List.zipIdx_cons, List.all_cons, Bool.and_eq_true] at h
    obtain ⟨h1, h2⟩ := h
    simp only [Bool.and_eq_true, Bool.not_eq_true', beq_iff_eq, beq_eq_false_iff_ne, ne_eq] at h1
    obtain ⟨⟨⟨a1, a2⟩, a3⟩, a4⟩ := h1
    have hlt : k < ms.length := by simp at hk; omega
    have hlt2 : k < bs.length := by omega
    have hu : P.underlying f.type = some (.int .i64) := by
      split at a3
      · assumption
      · cases a3
    have hp : ∀ (cs : List Int) (hc : k < cs.length), (part f.type (cs.map (Value.int .i64)).toArray f.offset).run P w = .ok (.int .i64 cs[k]) w := fun cs hc => by
      cases hi : P.info? f.type with
      | none => rw [hi] at a4; cases a4
      | some i =>
        rw [hi] at a4
        have hs : i.size = 1 := by simpa using a4
        simp [part, isAgg, run_underlying hu, a2, hc]
    have ih := run_eqFields w ms bs d hl fs (k + 1) h2 (by simp at hk; omega)
    have e1 : ms.drop k = ms[k] :: ms.drop (k + 1) := List.drop_eq_getElem_cons hlt
    have e2 : bs.drop k = bs[k] :: bs.drop (k + 1) := List.drop_eq_getElem_cons hlt2
    have hi := run_equalIn_int (P := P) w d f.type .i64 .i64 ms[k] bs[k] hu
    unfold Op.eqFields
    rw [if_pos a1]
    simp only [Sem.run_bind, hp ms hlt, hp bs hlt2, Result.andThen_ok, hi]
    by_cases he : ms[k] = bs[k]
    · have hb : (ms[k] == bs[k]) = true := by rw [he]; exact beq_self_eq_true _
      have key : (ms.drop k = bs.drop k) ↔ (ms.drop (k + 1) = bs.drop (k + 1)) := by
        rw [e1, e2, List.cons.injEq]
        exact ⟨fun h => h.2, fun h => ⟨he, h⟩⟩
      rw [hb]
      simp only [Bool.not_true, Bool.false_eq_true, if_false, ih]
      rw [decide_eq_decide.2 key]
    · have hb : (ms[k] == bs[k]) = false := by rw [beq_eq_false_iff_ne]; exact he
      have key : ¬ (ms.drop k = bs.drop k) := by
        rw [e1, e2, List.cons.injEq]
        exact fun h => he h.1
      rw [hb, decide_eq_false key]
      rfl

theorem run_eqS {t : Nat} {ms bs : List Int} (ht : stEqB P t ms.length = true) (hl : ms.length = bs.length) (w : World) :
    (Op.equalIn 10000 t (.agg (ms.map (Value.int .i64)).toArray) (.agg (bs.map (Value.int .i64)).toArray)).run P w = .ok (decide (ms = bs)) w ∧ P.eqGuardType P.depth t = false := by
  unfold stEqB at ht
  split at ht
  · rename_i fs hu
    simp only [Bool.and_eq_true, Bool.not_eq_true', beq_iff_eq] at ht
    obtain ⟨⟨⟨h1, h2⟩, h3⟩, h4⟩ := ht
    have hf : P.fieldsOf t = fs := by unfold Program.fieldsOf; rw [hu]
    refine ⟨?_, h2⟩
    rw [run_equalIn_struct w 9999 t _ _ (by rw [hf]; exact hu) h1, hf]
    have := run_eqFields (P := P) w ms bs 9998 hl fs.toList 0 h4 (by simp; omega)
    simpa using this
  · cases ht

theorem m_eqS {t : Nat} {x y : Operand} {t' : Nat} {xs ys : List DV} {ms bs : List Int} (ht : stEqB P t ms.length = true := by kernel_rfl) (ho : o.op = .binOp .eql t x y t' := by rfl) (hx : opd env x = .agg xs := by rfl) (hy : opd env y = .agg ys := by rfl) (ha : intsOf xs = some ms := by rfl) (hb : intsOf ys = some bs := by rfl) (hl : ms.length = bs.length := by rfl) :
    OpOK P o env sto nxt ⟨.lit (.bool (decide (ms = bs))), [], [], 0⟩ := .ran fun F m a hI hE _ _ => by
  have h1 := hE x (by simp [ho, Op.operands])
  have h2 := hE y (by simp [ho, Op.operands])
  rw [hx] at h1
  rw [hy] at h2
  obtain ⟨us, e1, q1, q2⟩ := h1.agg_inv
  obtain ⟨vs, e2, p1, p2⟩ := h2.agg_inv
  have v1 := intsOf_vals ha ⟨q1, q2⟩
  have v2 := intsOf_vals hb ⟨p1, p2⟩
  subst v1
  subst v2
  obtain ⟨r1, r2⟩ := run_eqS ht hl m.w
  refine ran_bin rfl ho hI e1 e2 ?_
  rw [Sem.run_bind, run_eqGuard_agg m.w _ _ _ _ _ _ r2, Result.andThen_ok, run_eql_struct, r1]
  rfl
theorem m_neS {t : Nat} {x y : Operand} {t' : Nat} {xs ys : List DV} {ms bs : List Int} (ht : stEqB P t ms.length = true := by kernel_rfl) (ho : o.op = .binOp .neq t x y t' := by rfl) (hx : opd env x = .agg xs := by rfl) (hy : opd env y = .agg ys := by rfl) (ha : intsOf xs = some ms := by rfl) (hb : intsOf ys = some bs := by rfl) (hl : ms.length = bs.length := by rfl) :
    OpOK P o env sto nxt ⟨.lit (.bool (!decide (ms = bs))), [], [], 0⟩ := .ran fun F m a hI hE _ _ => by
  have h1 := hE x (by simp [ho, Op.operands])
  have h2 := hE y (by simp [ho, Op.operands])
  rw [hx] at h1
  rw [hy] at h2
  obtain ⟨us, e1, q1, q2⟩ := h1.agg_inv
  obtain ⟨vs, e2, p1, p2⟩ := h2.agg_inv
  have v1 := intsOf_vals ha ⟨q1, q2⟩
  have v2 := intsOf_vals hb ⟨p1, p2⟩
  subst v1
  subst v2
  obtain ⟨r1, r2⟩ := run_eqS ht hl m.w
  refine ran_bin rfl ho hI e1 e2 ?_
  rw [Sem.run_bind, run_eqGuard_agg m.w _ _ _ _ _ _ r2, Result.andThen_ok, run_neq_struct, r1]
  rfl

theorem ScS.one {k z : Nat} {a f : Bool} {α : Type} {c : α → List DV} {l : List α} (h : ∀ x, ∀ d ∈ c x, Sc d) : ScS [(k, ⟨z, a, f, l.map c⟩)] := fun s ob hs y hy d hd => by
  rw [Sto.get_cons] at hs
  split at hs
  · injection hs with hs
    subst hs
    obtain ⟨x, _, rfl⟩ := List.mem_map.1 hy
    exact h x d hd
  · cases hs
theorem ScS.nil : ScS [] := fun s ob h => by cases h
theorem ScS.cons {k z : Nat} {a f : Bool} {α : Type} {c : α → List DV} {l : List α} {S : Sto} (h : ∀ x, ∀ d ∈ c x, Sc d) (hS : ScS S) : ScS ((k, ⟨z, a, f, l.map c⟩) :: S) := fun s ob hs y hy d hd => by
  rw [Sto.get_cons] at hs
  split at hs
  · injection hs with hs
    subst hs
    obtain ⟨x, _, rfl⟩ := List.mem_map.1 hy
    exact h x d hd
  · exact hS s ob hs y hy d hd
theorem ScS.box {k z : Nat} {f : Bool} {cs : List DV} {S : Sto} (h : ∀ d ∈ cs, Sc d) (hS : ScS S) : ScS ((k, ⟨z, false, f, [cs]⟩) :: S) := fun s ob hs y hy d hd => by
  rw [Sto.get_cons] at hs
  split at hs
  · injection hs with hs
    subst hs
    obtain rfl := List.mem_singleton.1 hy
    exact h d hd
  · exact hS s ob hs y hy d hd
end
/-- a loop whose first round begins in another state -/
theorem d_loop1 {P : Program} {nt n0 : Nat} {Q : Exit → DSt → Prop} {st : DSt} {α : Type} {body : Code} (I : α → DSt) (p : α → Prop) (μ : α → Nat) (m0 : Nat)
    (hf : DWp P nt n0 body (thenD (fun s => ∃ x', p x' ∧ μ x' < m0 ∧ Weak n0 s (I x')) Q) st)
    (hs : ∀ x, p x → DWp P nt n0 body (thenD (fun s => ∃ x', p x' ∧ μ x' < μ x ∧ Weak n0 s (I x')) Q) (I x)) : DWp P nt n0 (.loop body) Q st := fun C h1 h2 a w hw => by
  subst h2
  let I' : Option α → DSt := fun o => match o with | none => st | some x => I x
  let p' : Option α → Prop := fun o => match o with | none => True | some x => p x
  let μ' : Option α → Nat := fun o => match o with | none => m0 | some x => μ x
  have hr : ∀ o, p' o → DWp P nt C.n0 body (thenD (fun s => ∃ x', p x' ∧ μ x' < μ' o ∧ Weak C.n0 s (I x')) Q) (I' o) := fun o ho => match o, ho with
    | none, _ => hf
    | some x, ho => hs x ho
  let J : Act → World → Nat → Prop := fun a w n => ∃ x, p' x ∧ Sim C (I' x) a w ∧ μ' x = n
  have ex : ∀ a w, (∃ x, p' x ∧ Sim C (I' x) a w) → ∃ k, J a w k ∧ ∀ j, J a w j → k ≤ j := fun a w ⟨x, q1, q2⟩ => least_nat (p := J a w) (μ' x) ⟨x, q1, q2, rfl⟩
  refine wp_loop (fun a w => ∃ x, p' x ∧ Sim C (I' x) a w) (fun a w => open Classical in if h : ∃ x, p' x ∧ Sim C (I' x) a w then Classical.choose (ex a w h) else 0) ⟨none, trivial, hw⟩ fun a w hI => ?_
  obtain ⟨⟨x, q1, q2, q3⟩, q4⟩ := Classical.choose_spec (ex a w hI)
  refine wp_mono (hr x q1 C h1 rfl a w q2) fun e a' w' ⟨s, k1, k2⟩ => ?_
  cases e with
  | normal =>
    obtain ⟨x', j1, j2, j3⟩ := k1
    have hs' : Sim C (I' (some x')) a' w' := j3.sim k2
    have hI' : ∃ x, p' x ∧ Sim C (I' x) a' w' := ⟨some x', j1, hs'⟩
    refine ⟨hI', ?_⟩
    rw [dif_pos hI, dif_pos hI']
    have h5 := (Classical.choose_spec (ex a' w' hI')).2 (μ x') ⟨some x', j1, hs', rfl⟩
    omega
  | _ => exact ⟨s, k1, k2⟩
end Go.Proofs.Ythpnlnjdmlbnaaa
/- Lifting: plain functions with an answer or none, and how code on data follows them. No condition. -/
namespace Go.Proofs.Ythpnlnjdmlbnaaa
open Go.RowKit
set_option linter.unusedVariables false
set_option linter.unusedSimpArgs false

abbrev w64 (n : Int) : Int := IntKind.i64.wrap n
abbrev wu (n : Int) : Int := IntKind.u64.wrap n

section plain
variable {α β ρ σ : Type}
theorem bnd {x : Option α} {K : α → Option β} {r : β} (H : x.bind K = some r) : ∃ v, x = some v ∧ K v = some r := Option.bind_eq_some_iff.1 H
theorem iT {p : Prop} [Decidable p] {A B : Option β} {r : β} (h : p) (H : (if p then A else B) = some r) : A = some r := by rwa [if_pos h] at H
theorem iF {p : Prop} [Decidable p] {A B : Option β} {r : β} (h : ¬ p) (H : (if p then A else B) = some r) : B = some r := by rwa [if_neg h] at H
theorem ck {p : Prop} [Decidable p] {A : Option β} {r : β} (H : (if p then A else none) = some r) : p ∧ A = some r := by
  by_cases h : p
  · exact ⟨h, iT h H⟩
  · have := iF h H; cases this
theorem som {a r : β} (H : some a = some r) : a = r := Option.some.inj H
/-- an element -/
def at_ (l : List α) (i : Int) : Option α := if 0 ≤ i then l[i.toNat]? else none
theorem at_get {l : List α} {i : Int} {v : α} (h : at_ l i = some v) : 0 ≤ i ∧ l[i.toNat]? = some v := ck h
theorem at_lt {l : List α} {i : Int} {v : α} (h : at_ l i = some v) : 0 ≤ i ∧ i.toNat < l.length := by
  obtain ⟨h1, h2⟩ := at_get h
  refine ⟨h1, ?_⟩
  rcases Nat.lt_or_ge i.toNat l.length with h' | h'
  · exact h'
  · rw [List.getElem?_eq_none h'] at h2; cases h2
theorem at_elem {l : List α} {i : Int} {v : α} (h : at_ l i = some v) : ∃ h' : i.toNat < l.length, l[i.toNat] = v := by
  obtain ⟨h1, h2⟩ := at_get h
  obtain ⟨_, h3⟩ := at_lt h
  rw [List.getElem?_eq_getElem h3] at h2
  exact ⟨h3, Option.some.inj h2⟩
/-- a round of a loop: it goes on, or is left -/
inductive LS (σ β : Type) where
  | go (s : σ)
  | out (b : β)
def loopN (f : σ → Option (LS σ β)) : Nat → σ → Option β
  | 0, _ => none
  | n + 1, s => match f s with
    | none => none
    | some (.go s') => loopN f n s'
    | some (.out b) => some b
theorem loopN_succ {f : σ → Option (LS σ β)} : ∀ {n : Nat} {s : σ} {b : β}, loopN f n s = some b → loopN f (n + 1) s = some b
  | 0, _, _, h => by cases h
  | n + 1, s, b, h => by
    unfold loopN at h ⊢
    cases hf : f s with
    | none => rw [hf] at h; cases h
    | some y =>
      rw [hf] at h
      cases y with
      | go s' => exact loopN_succ (n := n) h
      | out b' => exact h
theorem loopN_le {f : σ → Option (LS σ β)} {n m : Nat} {s : σ} {b : β} (h : loopN f n s = some b) (hm : n ≤ m) : loopN f m s = some b := by
  induction hm with
  | refl => exact h
  | step _ ih => exact loopN_succ ih
theorem loopN_one {f : σ → Option (LS σ β)} {n m : Nat} {s : σ} {b c : β} (h : loopN f n s = some b) (k : loopN f m s = some c) : b = c := by
  have h1 := loopN_le h (Nat.le_max_left n m)
  have h2 := loopN_le k (Nat.le_max_right n m)
  rw [h1] at h2
  exact Option.some.inj h2
/-- a loop: what it is left with -/
noncomputable def loopO (f : σ → Option (LS σ β)) (s : σ) : Option β := open Classical in if h : ∃ b, ∃ n, loopN f n s = some b then some (Classical.choose h) else none
theorem loopO_iff {f : σ → Option (LS σ β)} {s : σ} {b : β} : loopO f s = some b ↔ ∃ n, loopN f n s = some b := by
  unfold loopO
  constructor
  · intro h
    split at h
    · rename_i hx
      rw [← Option.some.inj h]
      exact Classical.choose_spec hx
    · cases h
  · rintro ⟨n, h⟩
    have hx : ∃ b, ∃ n, loopN f n s = some b := ⟨b, n, h⟩
    rw [dif_pos hx]
    obtain ⟨m, hm⟩ := Classical.choose_spec hx
    rw [loopN_one hm h]
theorem loopO_go {f : σ → Option (LS σ β)} {s s' : σ} (h : f s = some (.go s')) : loopO f s = loopO f s' := by
  apply Option.ext
  intro b
  rw [loopO_iff, loopO_iff]
  constructor
  · rintro ⟨n, hn⟩
    cases n with
    | zero => cases hn
    | succ n => unfold loopN at hn; rw [h] at hn; exact ⟨n, hn⟩
  · rintro ⟨n, hn⟩
    exact ⟨n + 1, by unfold loopN; rw [h]; exact hn⟩
theorem loopO_out {f : σ → Option (LS σ β)} {s : σ} {b : β} (h : f s = some (.out b)) : loopO f s = some b :=
  loopO_iff.2 ⟨1, by unfold loopN; rw [h]⟩
/-- n rounds that are known -/
theorem loop_run {f : σ → Option (LS σ β)} (I : Nat → σ) : ∀ (n k : Nat), (∀ j, k ≤ j → j < k + n → f (I j) = some (.go (I (j + 1)))) → loopO f (I k) = loopO f (I (k + n))
  | 0, k, _ => rfl
  | n + 1, k, h => by
    rw [loopO_go (h k (Nat.le_refl _) (by omega)), loop_run I n (k + 1) fun j h1 h2 => h j (by omega) (by omega)]
    congr 2
    omega
theorem loop_end {f : σ → Option (LS σ β)} (I : Nat → σ) (n : Nat) {b : β} (h : ∀ j, j < n → f (I j) = some (.go (I (j + 1)))) (hb : f (I n) = some (.out b)) : loopO f (I 0) = some b := by
  rw [loop_run I n 0 fun j _ hj => h j (by omega), Nat.zero_add]
  exact loopO_out hb
/-- what follows, unless it was left for good -/
def bndR (X : Option (β ⊕ ρ)) (K : β → Option ρ) : Option ρ := X.bind fun z => match z with
  | .inl b => K b
  | .inr r => some r
@[simp] theorem bndR_none (K : β → Option ρ) : bndR none K = none := rfl
@[simp] theorem bndR_inl (b : β) (K : β → Option ρ) : bndR (some (.inl b)) K = K b := rfl
@[simp] theorem bndR_inr (r : ρ) (K : β → Option ρ) : bndR (some (.inr r)) K = some r := rfl
end plain

section
variable {P : Program} {nt n0 : Nat} {Q : Exit → DSt → Prop} {st : DSt} {α β ρ σ : Type}

theorem d_cutF {x y : Code} {X : Option β} {K : β → Option ρ} {r : ρ} (I : β → DSt) (H : X.bind K = some r)
    (hx : ∀ z, X = some z → DWp P nt n0 x (thenD (fun s => Weak n0 s (I z)) Q) st) (hy : ∀ b, K b = some r → DWp P nt n0 y Q (I b)) : DWp P nt n0 (.seq x y) Q st := by
  obtain ⟨z, h1, h2⟩ := bnd H
  refine d_cut I (fun b => b = z) ((hx z h1).mono fun e s h => ?_) (fun b hb => by subst hb; exact hy b h2)
  cases e with
  | normal => exact ⟨z, rfl, h⟩
  | _ => exact h
theorem d_cutR {x y : Code} {X : Option (β ⊕ ρ)} {K : β → Option ρ} {r : ρ} (I : β → DSt) (H : bndR X K = some r)
    (hx : ∀ z, X = some z → (∀ r', z = .inr r' → r' = r) → DWp P nt n0 x (thenD (fun s => ∃ b, z = .inl b ∧ Weak n0 s (I b)) Q) st) (hy : ∀ b, K b = some r → DWp P nt n0 y Q (I b)) : DWp P nt n0 (.seq x y) Q st := by
  obtain ⟨z, h1, h2⟩ := bnd H
  have h3 : ∀ r', z = .inr r' → r' = r := fun r' e => by subst e; exact Option.some.inj h2
  refine d_cut I (fun b => z = .inl b) ((hx z h1 h3).mono fun e s h => ?_) (fun b hb => by subst hb; exact hy b h2)
  cases e with
  | normal => exact h
  | _ => exact h
theorem d_loopF {body : Code} {f : σ → Option (LS σ β)} {s0 : σ} {z : β} (I : σ → DSt) (H : loopO f s0 = some z) (h0 : Weak n0 st (I s0))
    (hs : ∀ s y, f s = some y → (∀ b, y = .out b → b = z) → DWp P nt n0 body (thenD (fun s' => ∃ x', y = .go x' ∧ Weak n0 s' (I x')) Q) (I s)) : DWp P nt n0 (.loop body) Q st := by
  obtain ⟨n, hn⟩ := loopO_iff.1 H
  refine d_loop (α := Nat × σ) (fun x => I x.2) (fun x => loopN f x.1 x.2 = some z) (fun x => x.1) (n, s0) hn h0 fun x hx => ?_
  obtain ⟨m, s⟩ := x
  cases m with
  | zero => cases hx
  | succ m =>
    unfold loopN at hx
    dsimp only at hx ⊢
    cases hf : f s with
    | none => rw [hf] at hx; cases hx
    | some y =>
      rw [hf] at hx
      refine (hs s y hf fun b e => by subst e; exact Option.some.inj hx).mono fun e s' h => ?_
      cases e with
      | normal =>
        obtain ⟨x', h1, h2⟩ := h
        subst h1
        exact ⟨(m, x'), hx, Nat.lt_succ_self m, h2⟩
      | _ => exact h
theorem d_condE {c : Operand} {x y : Code} {b : Bool} (hc : opd st.env c = .lit (.bool b)) (e : b = true) (h : DWp P nt n0 x Q st) : DWp P nt n0 (.cond c x y) Q st := by subst e; exact d_condT hc h
theorem d_condN {c : Operand} {x y : Code} {b : Bool} (hc : opd st.env c = .lit (.bool b)) (e : b = false) (h : DWp P nt n0 y Q st) : DWp P nt n0 (.cond c x y) Q st := by subst e; exact d_condF hc h
end

section
variable {P : Program} {env : Env} {sto : Sto} {nxt : Nat} {o : Oper} {ops : Array Oper} {l : List Oper} {K : Outs → DSt → Prop}
/-- a Boolean that is known -/
theorem bq {b c : Bool} {us : List (Nat × Option Ob)} {rs : List Nat} {n : Nat} (e : b = c) (h : OpOK P o env sto nxt ⟨.lit (.bool b), us, rs, n⟩) : OpOK P o env sto nxt ⟨.lit (.bool c), us, rs, n⟩ := e ▸ h
theorem gY {g t : Nat} {b c : Bool} (e : c = b) (h1 : o.guard = some (g, b) := by rfl) (h2 : (ops[g]?).bind (·.dst) = some t := by rfl) (h3 : env.get t = .lit (.bool c) := by rfl) : Grd ops o env := .yes h1 h2 (e ▸ h3)
theorem noE {g t : Nat} {b c : Bool} (e : c = !b) (k : Steps P ops l ⟨env.put o.dst (.tup []), sto, nxt⟩ fun outs => K ((⟨.tup [], [], [], 0⟩, nxt) :: outs))
    (hg : o.guard = some (g, b) := by rfl) (ht : (ops[g]?).bind (·.dst) = some t := by rfl) (hb : env.get t = .lit (.bool c) := by rfl) : Steps P ops (o :: l) ⟨env, sto, nxt⟩ K :=
  Steps.cons' (out := ⟨.tup [], [], [], 0⟩) (by unfold StepOK; rw [hg]; exact ⟨t, ht, .inr (.inl ⟨.inl (e ▸ hb), .inr rfl⟩)⟩) k
/-- its guard was not done itself -/
theorem noU {g t : Nat} {b : Bool} (k : Steps P ops l ⟨env.put o.dst (.tup []), sto, nxt⟩ fun outs => K ((⟨.tup [], [], [], 0⟩, nxt) :: outs))
    (hg : o.guard = some (g, b) := by rfl) (ht : (ops[g]?).bind (·.dst) = some t := by rfl) (hb : env.get t = .tup [] := by rfl) : Steps P ops (o :: l) ⟨env, sto, nxt⟩ K :=
  Steps.cons' (out := ⟨.tup [], [], [], 0⟩) (by unfold StepOK; rw [hg]; exact ⟨t, ht, .inr (.inl ⟨.inr hb, .inr rfl⟩)⟩) k
theorem m_pickE {c x y : Operand} {t u : Bool} (e : t = u) (ho : o.op = .pick c x y := by rfl) (hc : opd env c = .lit (.bool t) := by rfl) : OpOK P o env sto nxt ⟨cond u (opd env x) (opd env y), [], [], 0⟩ := by subst e; exact m_pick ho hc
/-- sums, differences, products; bits -/
theorem m_ar {op : BinOp} {t : Nat} {x y : Operand} {t' : Nat} {k : IntKind} {p q : Int} {r : Value} (ho : o.op = .binOp op t x y t' := by rfl) (hx : opd env x = .lit (.int k p) := by rfl) (hy : opd env y = .lit (.int k q) := by rfl) (hr : intBin op k p q = some r := by rfl) : OpOK P o env sto nxt ⟨.lit r, [], [], 0⟩ := r_bin ho hx hy hr
theorem m_cmp {op : BinOp} {t : Nat} {x y : Operand} {t' : Nat} {k : IntKind} {p q : Int} {r : Value} (ho : o.op = .binOp op t x y t' := by rfl) (hx : opd env x = .lit (.int k p) := by rfl) (hy : opd env y = .lit (.int k q) := by rfl)
    (hr : BinI op k p q r := by first | exact .lt | exact .le | exact .gt | exact .ge | exact .eq | exact .ne) : OpOK P o env sto nxt ⟨.lit r, [], [], 0⟩ := r_bin ho hx hy hr.ok
theorem m_quo {t : Nat} {x y : Operand} {t' : Nat} {k : IntKind} {p q : Int} (h : ¬ q = 0) (ho : o.op = .binOp .quo t x y t' := by rfl) (hx : opd env x = .lit (.int k p) := by rfl) (hy : opd env y = .lit (.int k q) := by rfl) : OpOK P o env sto nxt ⟨.lit (.int k (k.wrap (p.tdiv q))), [], [], 0⟩ :=
  r_bin ho hx hy (by unfold intBin; dsimp only; rw [if_neg h])
theorem m_rem {t : Nat} {x y : Operand} {t' : Nat} {k : IntKind} {p q : Int} (h : ¬ q = 0) (ho : o.op = .binOp .rem t x y t' := by rfl) (hx : opd env x = .lit (.int k p) := by rfl) (hy : opd env y = .lit (.int k q) := by rfl) : OpOK P o env sto nxt ⟨.lit (.int k (p.tmod q)), [], [], 0⟩ :=
  r_bin ho hx hy (by unfold intBin; dsimp only; rw [if_neg h])
theorem m_shl {t : Nat} {x y : Operand} {t' : Nat} {k j : IntKind} {p q : Int} (h : 0 ≤ q) (ho : o.op = .binOp .shl t x y t' := by rfl) (hx : opd env x = .lit (.int k p) := by rfl) (hy : opd env y = .lit (.int j q) := by rfl) : OpOK P o env sto nxt ⟨.lit (.int k (k.wrap (p * 2 ^ min q.toNat k.bits))), [], [], 0⟩ :=
  r_shift ho hx hy (by unfold shiftBin; rw [if_neg (by omega)])
theorem m_shr {t : Nat} {x y : Operand} {t' : Nat} {k j : IntKind} {p q : Int} (h : 0 ≤ q) (ho : o.op = .binOp .shr t x y t' := by rfl) (hx : opd env x = .lit (.int k p) := by rfl) (hy : opd env y = .lit (.int j q) := by rfl) : OpOK P o env sto nxt ⟨.lit (.int k (p.fdiv (2 ^ min q.toNat k.bits))), [], [], 0⟩ :=
  r_shift ho hx hy (by unfold shiftBin; rw [if_neg (by omega)])
theorem m_neg {t : Nat} {x : Operand} {k : IntKind} {p : Int} (ho : o.op = .unOp .neg t x := by rfl) (hx : opd env x = .lit (.int k p) := by rfl) : OpOK P o env sto nxt ⟨.lit (.int k (k.wrap (0 - p))), [], [], 0⟩ := r_neg ho hx
theorem m_cnv {src dst : Nat} {x : Operand} {td td' : TyD} {k q : IntKind} {n : Int} (hs : TyOk P src td) (hd : TyOk P dst td') (ho : o.op = .convert src dst x := by rfl) (hk : td'.k = .int k := by rfl) (hx : opd env x = .lit (.int q n) := by rfl) : OpOK P o env sto nxt ⟨.lit (.int k (k.wrap n)), [], [], 0⟩ := r_conv ho hs hd hk hx

/-- an element of plain data -/
theorem m_iaS {α : Type} {c : α → List DV} {xs : List α} {v : α} {n : Int} {t e : Nat} {x ix : Operand} {tt td : TyD} {k : IntKind} (h : at_ xs n = some v) (ht : TyOk P t tt) (he : TyOk P e td) (ho : o.op = .indexAddr t x ix := by rfl) (hk : tt.k = .slice e := by rfl)
    (hx : opd env x = .sl (xs.map c) := by rfl) (hi : opd env ix = .lit (.int k n) := by rfl) (hl : (c v).length = td.size := by rfl) : OpOK P o env sto nxt ⟨.pp (c v), [], [], 0⟩ := by
  obtain ⟨h0, h1⟩ := at_lt h
  obtain ⟨h2, rfl⟩ := at_elem h
  exact r_iaM ho ht hk he hx (by rw [Int.toNat_of_nonneg h0]; exact hi) h1 hl
/-- an element of an object -/
theorem m_iaO {α : Type} {xs : List α} {v : α} {n : Int} {s len : Nat} {ob : Ob} {t e : Nat} {x ix : Operand} {tt td : TyD} {k : IntKind} (h : at_ xs n = some v) (ht : TyOk P t tt) (he : TyOk P e td) (ho : o.op = .indexAddr t x ix) (hx : opd env x = .own s 0 len) (hl : xs.length = len) (hk : tt.k = .slice e := by rfl)
    (hi : opd env ix = .lit (.int k n) := by rfl) (hs : sto.get s = some ob := by rfl) (hz : ob.esz = td.size := by rfl) : OpOK P o env sto nxt ⟨.ptr s n.toNat 0, [], [s], 0⟩ := by
  obtain ⟨h0, h1⟩ := at_lt h
  have := r_iaO (P := P) (nxt := nxt) ho ht hk he hx (by rw [Int.toNat_of_nonneg h0]; exact hi) hs hz (by omega)
  rw [Nat.zero_add] at this
  exact this
/-- an element of an object is read -/
theorem m_ldO {α : Type} {c : α → List DV} {xs : List α} {v : α} {n : Int} {t : Nat} {p : Operand} {td : TyD} {s j z : Nat} {arr frz : Bool} {d : DV} (h : at_ xs n = some v) (ht : TyOk P t td) (ho : o.op = .load t p := by rfl) (hp : opd env p = .ptr s n.toNat j := by rfl) (hs : sto.get s = some ⟨z, arr, frz, xs.map c⟩ := by rfl)
    (hd : ldD td ((c v).drop j) = some d := by rfl) : OpOK P o env sto nxt ⟨d, [], [s], 0⟩ := by
  obtain ⟨h0, h1⟩ := at_get h
  exact r_load ho ht hp hs (by show (xs.map c)[n.toNat]? = some (c v); rw [List.getElem?_map, h1]; rfl) hd
/-- an element of an object is written -/
theorem m_stO {α : Type} {c : α → List DV} {xs : List α} {v : α} {n : Int} {t : Nat} {p x : Operand} {td : TyD} {s j z : Nat} {cs cs' : List DV} {us : List Nat} (h : at_ xs n = some v) (a : α) (ht : TyOk P t td) (ho : o.op = .store t p x := by rfl) (hp : opd env p = .ptr s n.toNat j := by rfl) (hs : sto.get s = some ⟨z, true, false, xs.map c⟩ := by rfl)
    (hc : cellsD td (opd env x) = some cs := by rfl) (hpu : pureL sto cs = some (cs', us) := by rfl) (hn : us.contains s = false := by rfl) (hj : j + cs.length ≤ (c v).length := by exact Nat.le_of_ble_eq_true rfl) (ha : setCells (c v) j cs' = c a := by rfl) :
    OpOK P o env sto nxt ⟨.any, (s, some ⟨z, true, false, (xs.set n.toNat a).map c⟩) :: frzU sto us, s :: us, 0⟩ := by
  obtain ⟨h0, h1⟩ := at_get h
  have := r_storeA (P := P) (nxt := nxt) ho ht hp hs rfl rfl hc hpu hn (by show (xs.map c)[n.toNat]? = some (c v); rw [List.getElem?_map, h1]; rfl) hj
  rw [ha] at this
  rwa [show (xs.set n.toNat a).map c = (xs.map c).set n.toNat (c a) by rw [List.map_set]]
/-- a row of elements -/
theorem m_litE {α : Type} {c : α → List DV} (xs : List α) {t e len : Nat} {parts : Array (Nat × Operand)} {l : List (Nat × Operand)} {tt td : TyD} {cells cells' : List DV} {r us : List Nat} (ht : TyOk P t tt) (he : TyOk P e td) (ho : o.op = .buildSlice t len parts := by rfl) (hp : parts = l.toArray := by rfl) (hk : tt.k = .slice e := by rfl)
    (hz : td.zero.length = td.size := by rfl) (h0 : 0 < td.size := by decide) (h1 : 0 < len := by decide) (hm : len * td.size ≤ 16777216 := by decide)
    (h : fillD sto (fun i => some (i * td.size, td.size)) (zeros td len) (l.map fun p => (p.1, opd env p.2)) = some (cells, r) := by rfl) (hpu : pureL sto cells = some (cells', us) := by rfl) (hx : chunks len td.size cells' = xs.map c := by rfl) (hl : len = xs.length := by rfl) :
    OpOK P o env sto nxt ⟨.own nxt 0 xs.length, (nxt, some ⟨td.size, true, false, xs.map c⟩) :: frzU sto us, r ++ us, 1⟩ := by
  have := r_lit (P := P) (nxt := nxt) ho hp ht hk he hz h0 h1 hm h hpu
  rw [hx, hl] at this
  exact this
/-- elements that are zero -/
theorem m_mkE {α : Type} {c : α → List DV} {n B : Int} (a : α) {t e : Nat} {x y : Operand} {tt td : TyD} {k : IntKind} (h : 0 ≤ n ∧ n * B ≤ 281474976710656 ∧ n ≤ 9223372036854775807) (ht : TyOk P t tt) (he : TyOk P e td) (ho : o.op = .makeSlice t x y := by rfl) (hk : tt.k = .slice e := by rfl) (hl : opd env x = .lit (.int k n) := by rfl) (hc : opd env y = .lit (.int k n) := by rfl)
    (hz : td.zero.length = td.size := by rfl) (h0 : 0 < td.size := by decide) (ha : td.zero = c a := by rfl) (hB : (td.bytes : Int) = B := by rfl) :
    OpOK P o env sto nxt ⟨.own nxt 0 (List.replicate n.toNat a).length, [(nxt, some ⟨td.size, true, false, (List.replicate n.toNat a).map c⟩)], [], 1⟩ := by
  subst hB
  obtain ⟨h1, h2, h3⟩ := h
  have e := Int.toNat_of_nonneg h1
  have := r_make (P := P) (nxt := nxt) (sto := sto) (n := n.toNat) ho ht hk he (by rw [e]; exact hl) (by rw [e]; exact hc) (by
    have : ((td.bytes * n.toNat : Nat) : Int) ≤ 281474976710656 := by push_cast; rw [e, Int.mul_comm]; exact h2
    omega) (by omega) hz h0
  rw [ha] at this
  rw [List.length_replicate, List.map_replicate]
  exact this
/-- what is appended -/
inductive ElE (env : Env) (sto : Sto) (z : Nat) : Operand → List (List DV) → List Nat → Prop
  | nil {x : Operand} : opd env x = .lit (.slice none 0 0) → ElE env sto z x [] []
  | sl {xs : List (List DV)} {x : Operand} : opd env x = .sl xs → (∀ y ∈ xs, y.length = z) → ElE env sto z x xs []
  | own {xs : List (List DV)} {x : Operand} {s len : Nat} {frz : Bool} : opd env x = .own s 0 len → sto.get s = some ⟨z, true, frz, xs⟩ → len = xs.length → (∀ y ∈ xs, y.length = z) → ElE env sto z x xs [s]
theorem ElE.ok {z : Nat} {x : Operand} {ys : List (List DV)} {rs : List Nat} (h : ElE env sto z x ys rs) : elsF sto (opd env x) = some (ys, rs) ∧ ∀ y ∈ ys, y.length = z := by
  cases h with
  | nil h => rw [h]; exact ⟨rfl, fun y hy => by cases hy⟩
  | sl h hz => rw [h]; exact ⟨rfl, hz⟩
  | own h hs hl hz =>
    rw [h]
    subst hl
    refine ⟨?_, hz⟩
    unfold elsF
    simp only [hs]
    rw [if_pos ⟨trivial, by simp⟩, List.drop_zero, List.take_of_length_le (by simp)]
theorem nat_le {a b : Nat} (h : (a : Int) ≤ (b : Int)) : a ≤ b := by omega
theorem all_len {α : Type} {c : α → List DV} {z : Nat} (h : ∀ a, (c a).length = z) (xs : List α) : ∀ y ∈ xs.map c, y.length = z := fun y hy => by
  obtain ⟨a, _, rfl⟩ := List.mem_map.1 hy
  exact h a
theorem m_apN {α : Type} {c : α → List DV} (ys : List α) {t e : Nat} {s x : Operand} {tt td : TyD} {rs : List Nat} {B : Int} (hb : (ys.length : Int) * B ≤ 140737488355328 ∧ (ys.length : Int) ≤ 9223372036854775807) (ht : TyOk P t tt) (he : TyOk P e td) (ho : o.op = .call ⟨.builtin .append, #[s, x], #[t, t]⟩) (hx : ElE env sto td.size x (ys.map c) rs) (hk : tt.k = .slice e := by rfl)
    (hs : opd env s = .lit (.slice none 0 0) := by rfl) (hz : td.zero.length = td.size := by rfl) (h0 : 0 < td.size := by decide) (hB : (td.bytes : Int) = B := by rfl) :
    OpOK P o env sto nxt ⟨.own nxt 0 ys.length, [(nxt, some ⟨td.size, true, false, ys.map c⟩)], rs, 1⟩ := by
  subst hB
  obtain ⟨h1, h2⟩ := hx.ok
  have := r_appN (P := P) (nxt := nxt) ho ht hk he hs h1 hz h0 h2 (by rw [List.length_map]; exact nat_le (a := _ * _) hb.1) (by rw [List.length_map]; unfold maxLen; omega)
  rw [List.length_map] at this
  exact this
theorem m_apO {α : Type} {c : α → List DV} (xs ys : List α) {t e k len : Nat} {s x : Operand} {tt td : TyD} {rs : List Nat} {B : Int} (hb : ((xs.length : Int) + ys.length) * B ≤ 140737488355328 ∧ (xs.length : Int) + ys.length ≤ 9223372036854775807) (ht : TyOk P t tt) (he : TyOk P e td) (ho : o.op = .call ⟨.builtin .append, #[s, x], #[t, t]⟩) (hs : opd env s = .own k 0 len) (hx : ElE env sto td.size x (ys.map c) rs) (hl : xs.length = len) (hk : tt.k = .slice e := by rfl)
    (hg : sto.get k = some ⟨td.size, true, false, xs.map c⟩ := by rfl) (hz : td.zero.length = td.size := by rfl) (h0 : 0 < td.size := by decide) (hB : (td.bytes : Int) = B := by rfl) :
    OpOK P o env sto nxt ⟨.own nxt 0 (xs ++ ys).length, [(k, none), (nxt, some ⟨td.size, true, false, (xs ++ ys).map c⟩)], k :: rs, 1⟩ := by
  subst hB
  obtain ⟨h1, h2⟩ := hx.ok
  subst hl
  have := r_app (P := P) (nxt := nxt) ho ht hk he hs hg h1 rfl rfl (by simp) rfl hz h0 h2 (by rw [List.length_map]; exact nat_le (a := (_ + _) * _) hb.1) (by rw [List.length_map]; unfold maxLen; omega)
  dsimp only at this
  rw [List.length_map, List.take_of_length_le (by simp), ← List.map_append, ← List.length_append] at this
  exact this
/-- a part of plain data -/
theorem m_slS {α : Type} {c : α → List DV} {xs : List α} {a b : Int} {t e : Nat} {x : Operand} {lo hi : Option Operand} {tt td : TyD} (h : 0 ≤ a ∧ a ≤ b ∧ b ≤ xs.length) (ht : TyOk P t tt) (he : TyOk P e td)
    (hl : (lo = none ∧ a = 0) ∨ ∃ y k, lo = some y ∧ opd env y = .lit (.int k a)) (hh : (hi = none ∧ b = xs.length) ∨ ∃ y k, hi = some y ∧ opd env y = .lit (.int k b))
    (ho : o.op = .slice t x lo hi none := by rfl) (hk : tt.k = .slice e := by rfl) (hx : opd env x = .sl (xs.map c) := by rfl) (hz : ∀ a, (c a).length = td.size := by exact fun _ => rfl) :
    OpOK P o env sto nxt ⟨.sl (((xs.take b.toNat).drop a.toNat).map c), [], [], 0⟩ := by
  obtain ⟨h1, h2, h3⟩ := h
  have e1 := Int.toNat_of_nonneg h1
  have e2 := Int.toNat_of_nonneg (show 0 ≤ b by omega)
  obtain ⟨l, b1, l1⟩ : ∃ l, Bnd env lo l ∧ l.getD 0 = a.toNat := by
    rcases hl with ⟨rfl, rfl⟩ | ⟨y, k, rfl, hy⟩
    · exact ⟨none, .none, rfl⟩
    · exact ⟨some a.toNat, .some (k := k) (by rw [e1]; exact hy), rfl⟩
  obtain ⟨u, b2, u1⟩ : ∃ u, Bnd env hi u ∧ u.getD (xs.map c).length = b.toNat := by
    rcases hh with ⟨rfl, rfl⟩ | ⟨y, k, rfl, hy⟩
    · exact ⟨none, .none, by simp⟩
    · exact ⟨some b.toNat, .some (k := k) (by rw [e2]; exact hy), rfl⟩
  have := r_slS (P := P) (sto := sto) (nxt := nxt) ho ht hk he hx b1 b2 (by rw [l1, u1]; omega) (by rw [u1, List.length_map]; omega) (fun y hy => by
    obtain ⟨a, _, rfl⟩ := List.mem_map.1 (List.mem_of_mem_head? hy)
    exact hz a)
  rw [l1, u1] at this
  rw [List.map_drop, List.map_take]
  exact this
theorem Cv.ownE {sto : Sto} {ρ : Ren} {s s' len len' : Nat} (h : ρ.get s' = some s) (e : len = len') : Cv sto ρ (.own s 0 len) (.own s' 0 len') [] := e ▸ .own h
end
end Go.Proofs.Ythpnlnjdmlbnaaa
/- Spaces: the plain model: what is valid. No program. -/
namespace Go.Proofs.Ythpnlnjdmlbnaaa
open Go.RowKit
set_option linter.unusedVariables false
set_option linter.unusedSimpArgs false

/-- an entry of the frame table -/
structure Fe where
  ow : Int
  st : Int
  nx : Int
/-- a space -/
structure Sp where
  sh : Int
  ws : List Int
  fs : List Fe
def uC (x : Int) : List DV := [DU x]
def iC (x : Int) : List DV := [DI x]
def bC (x : Bool) : List DV := [DB x]
def frC (f : Fe) : List DV := [DI f.ow, DI f.st, DI f.nx]
def spC (s : Sp) : List DV := [DI s.sh, .sl (s.ws.map uC), .sl (s.fs.map frC)]
abbrev spD (s : Sp) : DV := .agg (spC s)
/-- whether p -/
noncomputable def bP (p : Prop) : Bool := @decide p (Classical.propDecidable p)
theorem bP_t {p : Prop} (h : p) : bP p = true := by unfold bP; exact @decide_eq_true p (Classical.propDecidable p) h
theorem bP_f {p : Prop} (h : ¬ p) : bP p = false := by unfold bP; exact @decide_eq_false p (Classical.propDecidable p) h
theorem bP_iff {p : Prop} : bP p = true ↔ p := ⟨fun h => Classical.byContradiction fun hn => (by rw [bP_f hn] at h; cases h), bP_t⟩
theorem bP_congr {p q : Prop} (h : p ↔ q) : bP p = bP q := by rw [propext h]
theorem DCall.t {P : Program} {f : Nat} {ds : List DV} {S S' : Sto} {p : Prop} (h : DCall P f ds S (DB (bP p)) S') (hp : p) : DCall P f ds S (DB true) S' := by rw [← bP_t hp]; exact h
theorem DCall.f {P : Program} {f : Nat} {ds : List DV} {S S' : Sto} {p : Prop} (h : DCall P f ds S (DB (bP p)) S') (hp : ¬ p) : DCall P f ds S (DB false) S' := by rw [← bP_f hp]; exact h
theorem Cv.t {sto : Sto} {ρ : Ren} {p : Prop} (h : p) : Cv sto ρ (DB true) (DB (bP p)) [] := by rw [bP_t h]; exact .lit
theorem Cv.f {sto : Sto} {ρ : Ren} {p : Prop} (h : ¬ p) : Cv sto ρ (DB false) (DB (bP p)) [] := by rw [bP_f h]; exact .lit
theorem Cv.b {sto : Sto} {ρ : Ren} {p : Prop} {b : Bool} (h : b = true ↔ p) : Cv sto ρ (DB b) (DB (bP p)) [] := by
  cases b with
  | true => exact Cv.t (h.1 rfl)
  | false => exact Cv.f fun hp => by have := h.2 hp; cases this
def ShOk (x : Int) : Prop := 3 ≤ x ∧ x ≤ 8
def AllZ (l : List Int) : Prop := ∀ x ∈ l, x = 0
def I64 (x : Int) : Prop := -9223372036854775808 ≤ x ∧ x ≤ 9223372036854775807
/-- the number of words of a frame -/
def szS (s : Sp) : Nat := 2 ^ s.sh.toNat
theorem sh_get {s : Sp} (hs : ShOk s.sh) : ∃ e z : Nat, s.sh = (e : Int) ∧ 3 ≤ e ∧ e ≤ 8 ∧ (2 : Int) ^ e = (z : Int) ∧ 8 ≤ z ∧ z ≤ 256 ∧ szS s = z ∧ z = 2 ^ e := by
  unfold ShOk at hs
  obtain ⟨e, he⟩ : ∃ e : Nat, s.sh = e := ⟨s.sh.toNat, by omega⟩
  have h1 : 3 ≤ e := by omega
  have h2 : e ≤ 8 := by omega
  refine ⟨e, 2 ^ e, he, h1, h2, by push_cast; rfl, ?_, ?_, by unfold szS; rw [he]; rfl, rfl⟩
  · have : (2 : Nat) ^ 3 ≤ 2 ^ e := Nat.pow_le_pow_right (by decide) h1
    omega
  · have : (2 : Nat) ^ e ≤ 2 ^ 8 := Nat.pow_le_pow_right (by decide) h2
    omega
theorem sz_get {s : Sp} (hs : ShOk s.sh) : 0 ≤ s.sh ∧ s.sh ≤ 8 ∧ 8 ≤ szS s ∧ szS s ≤ 256 ∧ (2 : Int) ^ s.sh.toNat = (szS s : Int) := by
  obtain ⟨e, z, he, h1, h2, h3, h4, h5, h6, h7⟩ := sh_get hs
  rw [h6]
  refine ⟨by omega, by omega, h4, h5, ?_⟩
  rw [← h3, he]
  rfl
theorem and_mod {a : Int} {e z : Nat} (h0 : 0 ≤ a) (h1 : a ≤ 9223372036854775807) (he : e ≤ 8) (hz : z = 2 ^ e) : bits BinOp.and IntKind.i64 a ((z : Int) - 1) = a % (z : Int) := by
  obtain ⟨n, rfl⟩ : ∃ n : Nat, a = n := ⟨a.toNat, by omega⟩
  subst hz
  have hz2 : (2 : Nat) ^ e ≤ 2 ^ 8 := Nat.pow_le_pow_right (by decide) he
  have hz1 : 0 < (2 : Nat) ^ e := Nat.pow_pos (by decide)
  have e1 : (((2 ^ e : Nat) : Int) - 1) = ((2 ^ e - 1 : Nat) : Int) := by omega
  rw [e1]
  show IntKind.i64.wrap ((BitVec.ofInt 64 (n : Int) &&& BitVec.ofInt 64 ((2 ^ e - 1 : Nat) : Int)).toNat : Int) = _
  rw [BitVec.ofInt_natCast, BitVec.ofInt_natCast, BitVec.toNat_and, BitVec.toNat_ofNat, BitVec.toNat_ofNat, Nat.mod_eq_of_lt (by omega), Nat.mod_eq_of_lt (by omega), Nat.and_two_pow_sub_one_eq_mod]
  have := Nat.mod_lt n hz1
  rw [IntWalk.i64_in _ (by omega)]
  rfl
/-- the frame that follows -/
def nxF (fs : List Fe) (f : Int) : Int := if h : 0 ≤ f ∧ f.toNat < fs.length then (fs[f.toNat]'h.2).nx else -1
theorem nxF_z {fs : List Fe} {f : Int} (h : 0 ≤ f) (h2 : f.toNat < fs.length) : nxF fs f = (fs[f.toNat]'h2).nx := by unfold nxF; rw [dif_pos ⟨h, h2⟩]
/-- k frames on -/
def itF (fs : List Fe) : Nat → Int → Int
  | 0, f => f
  | k + 1, f => itF fs k (nxF fs f)
theorem nxF_neg {fs : List Fe} {f : Int} (h : f < 0) : nxF fs f = -1 := by unfold nxF; rw [dif_neg (by omega)]
theorem nxF_at {fs : List Fe} {i : Nat} (h : i < fs.length) : nxF fs i = fs[i].nx := by
  unfold nxF
  rw [dif_pos ⟨by omega, by simpa using h⟩]
  rfl
theorem itF_neg {fs : List Fe} : ∀ (k : Nat) {f : Int}, f = -1 → itF fs k f = -1
  | 0, f, h => h
  | k + 1, f, h => by unfold itF; exact itF_neg k (nxF_neg (by omega))
theorem itF_add {fs : List Fe} : ∀ (j k : Nat) (f : Int), itF fs (j + k) f = itF fs k (itF fs j f)
  | 0, k, f => by rw [Nat.zero_add]; rfl
  | j + 1, k, f => by
    rw [show j + 1 + k = (j + k) + 1 by omega]
    show itF fs (j + k) (nxF fs f) = itF fs k (itF fs j (nxF fs f))
    exact itF_add j k _
theorem itF_succ {fs : List Fe} (k : Nat) (f : Int) : itF fs (k + 1) f = nxF fs (itF fs k f) := itF_add k 1 f
/-- every entry is followed by one of the table, or none -/
def NxIn (fs : List Fe) : Prop := ∀ i (h : i < fs.length), -1 ≤ fs[i].nx ∧ fs[i].nx < fs.length
theorem NxIn.nx {fs : List Fe} (h : NxIn fs) (f : Int) : -1 ≤ nxF fs f ∧ nxF fs f < fs.length := by
  unfold nxF
  split
  · exact h _ _
  · omega
theorem NxIn.it {fs : List Fe} (h : NxIn fs) : ∀ (k : Nat) (f : Int), -1 ≤ f ∧ f < fs.length → -1 ≤ itF fs k f ∧ itF fs k f < fs.length
  | 0, f, hf => hf
  | k + 1, f, _ => h.it k _ (h.nx f)
/-- every chain ends -/
def EndF (fs : List Fe) : Prop := ∀ i, i < fs.length → itF fs (fs.length + 1) i = -1
/-- no frame is reached from itself -/
def StrF (fs : List Fe) : Prop := ∀ i, i < fs.length → ∀ k, k < fs.length → itF fs (k + 1) i ≠ i
theorem nodup_le : ∀ (n : Nat) (l : List Nat), l.Nodup → (∀ x ∈ l, x < n) → l.length ≤ n
  | 0, l, _, h => by
    cases l with
    | nil => simp
    | cons a l => exact absurd (h a (List.mem_cons_self ..)) (Nat.not_lt_zero _)
  | n + 1, l, hd, h => by
    have h1 := nodup_le n (l.filter (· ≠ n)) (hd.filter _) fun x hx => by
      have := List.mem_filter.1 hx
      have h2 := h x this.1
      have h3 : x ≠ n := by simpa using this.2
      omega
    have h2 : l.length ≤ (l.filter (· ≠ n)).length + 1 := by
      have e : l.length = (l.filter (· ≠ n)).length + (l.filter (fun x => !decide (x ≠ n))).length := by
        clear h1 h hd
        induction l with
        | nil => rfl
        | cons a l ih =>
          by_cases ha : a = n
          · rw [List.filter_cons, List.filter_cons, if_neg (by simp [ha]), if_pos (by simp [ha]), List.length_cons, List.length_cons]; omega
          · rw [List.filter_cons, List.filter_cons, if_pos (by simp [ha]), if_neg (by simp [ha]), List.length_cons, List.length_cons]; omega
      have h3 : (l.filter (fun x => !decide (x ≠ n))).length ≤ 1 := by
        have hd2 := hd.filter (fun x => !decide (x ≠ n))
        have hm : ∀ x ∈ l.filter (fun x => !decide (x ≠ n)), x = n := fun x hx => by
          have := (List.mem_filter.1 hx).2
          simpa using this
        revert hd2 hm
        generalize l.filter (fun x => !decide (x ≠ n)) = m
        intro hd2 hm
        match m, hd2, hm with
        | [], _, _ => simp
        | [a], _, _ => simp
        | a :: b :: m, hd2, hm =>
          exfalso
          have ha := hm a (by simp)
          have hb := hm b (by simp)
          exact (List.pairwise_cons.1 hd2).1 b (by simp) (ha.trans hb.symm)
      omega
    omega
theorem EndF.str {fs : List Fe} (h : EndF fs) : StrF fs := by
  intro i hi k hk e
  have h1 : ∀ m : Nat, itF fs ((k + 1) * m) i = i := by
    intro m
    induction m with
    | zero => rfl
    | succ m ih => rw [Nat.mul_succ, itF_add, ih, e]
  have h2 := h1 (fs.length + 1)
  rw [Nat.mul_comm, Nat.mul_succ] at h2
  rw [show (fs.length + 1) * k + (fs.length + 1) = (fs.length + 1) + (fs.length + 1) * k by omega, itF_add, h i hi, itF_neg _ rfl] at h2
  omega
theorem StrF.ends {fs : List Fe} (hn : NxIn fs) (h : StrF fs) : EndF fs := by
  intro i hi
  apply Classical.byContradiction
  intro hne
  have hin : ∀ j, j ≤ fs.length + 1 → 0 ≤ itF fs j i ∧ itF fs j i < fs.length := by
    intro j hj
    have h1 := hn.it j i (by omega)
    refine ⟨?_, h1.2⟩
    rcases Int.lt_or_le (itF fs j i) 0 with h2 | h2
    · exfalso
      apply hne
      rw [show fs.length + 1 = j + (fs.length + 1 - j) by omega, itF_add]
      exact itF_neg _ (by omega)
    · exact h2
  have hnd : ((List.range (fs.length + 1)).map fun j => (itF fs j i).toNat).Nodup := by
    rw [List.nodup_iff_pairwise_ne, List.pairwise_map]
    refine List.pairwise_iff_getElem.2 fun a b ha hb hab e => ?_
    simp only [List.length_range] at ha hb
    simp only [List.getElem_range] at e
    have h1 := hin a (by omega)
    have h2 := hin b (by omega)
    have e2 : itF fs b i = itF fs a i := by omega
    rw [show b = a + ((b - a - 1) + 1) by omega, itF_add] at e2
    have h3 := h (itF fs a i).toNat (by omega) (b - a - 1) (by omega)
    apply h3
    rw [show (((itF fs a i).toNat : Nat) : Int) = itF fs a i by omega]
    exact e2
  have := nodup_le fs.length _ hnd fun x hx => by
    obtain ⟨j, hj, rfl⟩ := List.mem_map.1 hx
    have := hin j (by have := List.mem_range.1 hj; omega)
    omega
  rw [List.length_map, List.length_range] at this
  omega

/-- an owner and a stamp belong together -/
def Stp (ow st : Int) : Prop := 0 ≤ ow ∧ ow ≤ 4294967295 ∧ ∃ b : Int, 0 ≤ b ∧ b < 4 ∧ st = ow + b * 4294967296
theorem stp_iff {ow st : Int} : Stp ow st ↔ 0 ≤ ow ∧ ow ≤ 4294967295 ∧ 0 ≤ st ∧ st % 4294967296 = ow ∧ st / 4294967296 < 4 := by
  unfold Stp
  constructor
  · rintro ⟨h1, h2, b, h3, h4, rfl⟩
    omega
  · rintro ⟨h1, h2, h3, h4, h5⟩
    exact ⟨h1, h2, st / 4294967296, by omega, h5, by omega⟩
/-- the words of a frame are zero -/
def ZeroF (s : Sp) (i : Nat) : Prop := ∀ a (h : a < s.ws.length), i * szS s ≤ a → a < (i + 1) * szS s → s.ws[a] = 0
def FreeF (s : Sp) (i : Nat) (f : Fe) : Prop := f.ow = -1 ∧ f.st = -1 ∧ f.nx = -1 ∧ ZeroF s i
def UsedF (s : Sp) (i : Nat) (f : Fe) : Prop := Stp f.ow f.st ∧ -1 ≤ f.nx ∧ f.nx < s.fs.length ∧ f.nx ≠ i ∧ ∀ j (h : j < s.fs.length), f.nx = j → s.fs[j].ow = f.ow ∧ s.fs[j].st = f.st
/-- no two entries are followed by the same -/
def UqF (fs : List Fe) (n : Nat) : Prop := ∀ i j (hi : i < fs.length) (hj : j < fs.length), i < j → j < n → fs[i].nx = fs[j].nx → fs[i].nx = -1
structure ShpS (s : Sp) : Prop where
  sh : ShOk s.sh
  lo : 2 ≤ s.fs.length
  hi : s.fs.length ≤ 64
  wl : s.ws.length = s.fs.length * szS s
/-- a valid space -/
structure SpOk (s : Sp) : Prop where
  shp : ShpS s
  fm : ∀ i (h : i < s.fs.length), FreeF s i s.fs[i] ∨ UsedF s i s.fs[i]
  uq : UqF s.fs s.fs.length
  ends : EndF s.fs
theorem nxin_of {s : Sp} (fm : ∀ i (h : i < s.fs.length), FreeF s i s.fs[i] ∨ UsedF s i s.fs[i]) : NxIn s.fs := fun i hi => by
  rcases fm i hi with h | h
  · rw [h.2.2.1]; omega
  · exact ⟨h.2.1, h.2.2.1⟩
def U64 (x : Int) : Prop := 0 ≤ x ∧ x ≤ 18446744073709551615
/-- all numbers are within their types -/
def SpW (s : Sp) : Prop := (∀ x ∈ s.ws, U64 x) ∧ ∀ f ∈ s.fs, I64 f.ow ∧ I64 f.st ∧ I64 f.nx
/-- the bits of a word are the frames that follow one of the first -/
def BitsOf (fs : List Fe) (n m : Nat) : Prop := m < 18446744073709551616 ∧ ∀ j, j < 64 → (m.testBit j = true ↔ ∃ i, ∃ h : i < fs.length, i < n ∧ fs[i].nx = j)
theorem bit_test {m j : Nat} (hm : m < 18446744073709551616) (hj : j < 64) : bits BinOp.and IntKind.u64 ((m : Int) / 2 ^ j) 1 = if m.testBit j then 1 else 0 := by
  have e1 : ((m : Int) / 2 ^ j) = ((m / 2 ^ j : Nat) : Int) := by push_cast; rfl
  have h1 : m / 2 ^ j < 18446744073709551616 := Nat.lt_of_le_of_lt (Nat.div_le_self _ _) hm
  rw [e1]
  show IntKind.u64.wrap ((BitVec.ofInt 64 ((m / 2 ^ j : Nat) : Int) &&& BitVec.ofInt 64 ((1 : Nat) : Int)).toNat : Int) = _
  rw [BitVec.ofInt_natCast, BitVec.ofInt_natCast, BitVec.toNat_and, BitVec.toNat_ofNat, BitVec.toNat_ofNat, Nat.mod_eq_of_lt (by omega), Nat.mod_eq_of_lt (by decide), Nat.and_one_is_mod]
  have h2 : m.testBit j = (m / 2 ^ j % 2 == 1) := by rw [Nat.testBit_eq_decide_div_mod_eq]; rfl
  rw [h2]
  rw [IntWalk.u64_in _ (by omega)]
  rcases Nat.mod_two_eq_zero_or_one (m / 2 ^ j) with h | h <;> rw [h] <;> rfl
theorem bit_set {m j : Nat} (hm : m < 18446744073709551616) (hj : j < 64) : bits BinOp.or IntKind.u64 (m : Int) (2 ^ j) = ((m ||| 2 ^ j : Nat) : Int) ∧ m ||| 2 ^ j < 18446744073709551616 := by
  have e1 : ((2 : Int) ^ j) = ((2 ^ j : Nat) : Int) := by push_cast; rfl
  have h1 : (2 : Nat) ^ j < 2 ^ 64 := Nat.pow_lt_pow_right (by decide) hj
  have h2 : m ||| 2 ^ j < 2 ^ 64 := Nat.or_lt_two_pow (by omega) h1
  rw [e1]
  refine ⟨?_, by omega⟩
  show IntKind.u64.wrap ((BitVec.ofInt 64 (m : Int) ||| BitVec.ofInt 64 ((2 ^ j : Nat) : Int)).toNat : Int) = _
  rw [BitVec.ofInt_natCast, BitVec.ofInt_natCast, BitVec.toNat_or, BitVec.toNat_ofNat, BitVec.toNat_ofNat, Nat.mod_eq_of_lt (by omega), Nat.mod_eq_of_lt (by omega), IntWalk.u64_in _ (by omega)]
theorem BitsOf.skip {fs : List Fe} {n m : Nat} (h : BitsOf fs n m) (hn : n < fs.length) (hx : fs[n].nx < 0) : BitsOf fs (n + 1) m := ⟨h.1, fun j hj => (h.2 j hj).trans ⟨fun ⟨i, hi, h1, h2⟩ => ⟨i, hi, by omega, h2⟩, fun ⟨i, hi, h1, h2⟩ => by
  rcases Nat.lt_succ_iff_lt_or_eq.1 h1 with h3 | h3
  · exact ⟨i, hi, h3, h2⟩
  · subst h3; omega⟩⟩
theorem BitsOf.set {fs : List Fe} {n m p : Nat} (h : BitsOf fs n m) (hn : n < fs.length) (hp : p < 64) (hx : fs[n].nx = p) : BitsOf fs (n + 1) (m ||| 2 ^ p) := by
  refine ⟨(bit_set h.1 hp).2, fun j hj => ?_⟩
  rw [Nat.testBit_or, Nat.testBit_two_pow, Bool.or_eq_true, h.2 j hj, decide_eq_true_iff]
  constructor
  · rintro (⟨i, hi, h1, h2⟩ | e)
    · exact ⟨i, hi, by omega, h2⟩
    · exact ⟨n, hn, by omega, by rw [hx, e]⟩
  · rintro ⟨i, hi, h1, h2⟩
    rcases Nat.lt_succ_iff_lt_or_eq.1 h1 with h3 | h3
    · exact .inl ⟨i, hi, h3, h2⟩
    · subst h3; right; omega
theorem UqF.skip {fs : List Fe} {n : Nat} (h : UqF fs n) (hn : n < fs.length) (hx : fs[n].nx = -1) : UqF fs (n + 1) := fun i j hi hj hij hjn e => by
  rcases Nat.lt_succ_iff_lt_or_eq.1 hjn with h3 | h3
  · exact h i j hi hj hij h3 e
  · subst h3; rw [e]; exact hx
theorem UqF.set {fs : List Fe} {n m p : Nat} (h : UqF fs n) (hn : n < fs.length) (hb : BitsOf fs n m) (hp : p < 64) (hx : fs[n].nx = p) (hm : m.testBit p = false) : UqF fs (n + 1) := fun i j hi hj hij hjn e => by
  rcases Nat.lt_succ_iff_lt_or_eq.1 hjn with h3 | h3
  · exact h i j hi hj hij h3 e
  · subst h3
    exfalso
    have := (hb.2 p hp).2 ⟨i, hi, hij, e.trans hx⟩
    rw [hm] at this
    cases this
theorem UqF.not {fs : List Fe} {n m p : Nat} (hn : n < fs.length) (hb : BitsOf fs n m) (hp : p < 64) (hx : fs[n].nx = p) (hm : m.testBit p = true) : ¬ UqF fs fs.length := fun h => by
  obtain ⟨i, hi, h1, h2⟩ := (hb.2 p hp).1 hm
  have := h i n hi hn h1 hn (h2.trans hx.symm)
  omega
/-- the first entries are as they have to be -/
def FmTo (s : Sp) (n : Nat) : Prop := ∀ i (h : i < s.fs.length), i < n → FreeF s i s.fs[i] ∨ UsedF s i s.fs[i]
theorem FmTo.step {s : Sp} {n : Nat} (h : FmTo s n) (hn : n < s.fs.length) (k : FreeF s n s.fs[n] ∨ UsedF s n s.fs[n]) : FmTo s (n + 1) := fun i hi hin => by
  rcases Nat.lt_succ_iff_lt_or_eq.1 hin with h3 | h3
  · exact h i hi h3
  · subst h3; exact k
theorem allz_iff {s : Sp} {k z : Nat} (hz : szS s = z) (hk : k * z + z ≤ s.ws.length) : AllZ ((s.ws.drop (k * z)).take z) ↔ ZeroF s k := by
  unfold ZeroF
  rw [hz, Nat.succ_mul]
  constructor
  · intro h a ha h1 h2
    have : s.ws[a] ∈ (s.ws.drop (k * z)).take z := by
      refine List.mem_iff_getElem.2 ⟨a - k * z, by rw [List.length_take, List.length_drop]; omega, ?_⟩
      rw [List.getElem_take, List.getElem_drop]
      congr 1
      omega
    exact h _ this
  · intro h x hx
    obtain ⟨i, hi, rfl⟩ := List.mem_iff_getElem.1 hx
    rw [List.length_take, List.length_drop] at hi
    rw [List.getElem_take, List.getElem_drop]
    exact h _ _ (by omega) (by omega)
theorem SpOk.not_fm {s : Sp} {n : Nat} (hn : n < s.fs.length) (h : ¬ (FreeF s n s.fs[n] ∨ UsedF s n s.fs[n])) : ¬ SpOk s := fun k => h (k.fm n hn)

end Go.Proofs.Ythpnlnjdmlbnaaa
/- Lifting: the rules that the printed proofs use. No condition. -/
namespace Go.Proofs.Ythpnlnjdmlbnaaa
open Go.RowKit
set_option linter.unusedVariables false
set_option linter.unusedSimpArgs false

def yC (x : Int) : List DV := [.lit (.int .u8 x)]
def fC (x : Nat) : List DV := [.lit (.float .f64 x)]
def sC (x : ByteArray) : List DV := [.lit (.string x)]
def lC {α : Type} (c : α → List DV) (q : List α) : List DV := [.sl (q.map c)]
def shlN (k : IntKind) (p q : Int) : Int := k.wrap (p * 2 ^ min q.toNat k.bits)
def shrN (k : IntKind) (p q : Int) : Int := p.fdiv (2 ^ min q.toNat k.bits)
def xorN (k : IntKind) (p : Int) : Int := k.wrap (BitVec.ofInt k.bits (if k.signed then -1 else k.max) ^^^ BitVec.ofInt k.bits p).toNat

mutual
def scB : DV → Bool
  | .any => true
  | .lit _ => true
  | .own _ _ _ => true
  | .ptr _ _ _ => true
  | .agg xs => scLB xs
  | .tup xs => scLB xs
  | _ => false
def scLB : List DV → Bool
  | [] => true
  | d :: l => scB d && scLB l
end
mutual
theorem scB_ok : ∀ {d : DV}, scB d = true → Sc d
  | .any, _ => .any
  | .lit _, _ => .lit
  | .own _ _ _, _ => .own
  | .ptr _ _ _, _ => .ptr
  | .agg xs, h => .agg (scLB_ok (by simpa [scB] using h))
  | .tup xs, h => .tup (scLB_ok (by simpa [scB] using h))
  | .sl _, h => by simp [scB] at h
  | .pp _, h => by simp [scB] at h
  | .fn _ _, h => by simp [scB] at h
theorem scLB_ok : ∀ {l : List DV}, scLB l = true → ∀ d ∈ l, Sc d
  | [], _, d, hd => by cases hd
  | x :: l, h, d, hd => by
    simp only [scLB, Bool.and_eq_true] at h
    cases hd with
    | head => exact scB_ok h.1
    | tail _ hd => exact scLB_ok h.2 d hd
end
theorem scL {l : List DV} (h : scLB l = true) : ∀ d ∈ l, Sc d := scLB_ok h
theorem scC {α : Type} {c : α → List DV} (h : ∀ x, scLB (c x) = true) : ∀ x, ∀ d ∈ c x, Sc d := fun x => scLB_ok (h x)

theorem Steps.mono {P : Program} {ops : Array Oper} {l : List Oper} {st : DSt} {K K' : Outs → DSt → Prop} (h : Steps P ops l st K) (hk : ∀ o s, K o s → K' o s) : Steps P ops l st K' := by
  obtain ⟨outs, env', sto', nxt', h1, h2⟩ := h
  exact ⟨outs, env', sto', nxt', h1, hk _ _ h2⟩

section
variable {P : Program} {nt n0 : Nat} {Q : Exit → DSt → Prop} {st : DSt}
/-- a region, and what follows it -/
theorem d_rs {id : Nat} {ops : Array Oper} {l : List Oper} {y : Code} (hl : ops = l.toArray) (h : Steps P l.toArray l st fun outs s => seqB nt l outs = true ∧ DWp P nt n0 y Q s) : DWp P nt n0 (.seq (.region id ops false) y) Q st :=
  d_seq fun K hK => d_region hl (h.mono fun o s hs => ⟨hs.1, hK s hs.2⟩)
theorem d_as {id : Nat} {ops : Array Oper} {l : List Oper} {y : Code} (hm : P.follows .mixedOrders = true) (hl : ops = l.toArray) (hk : backB l.toArray = true) (h : Steps P l.toArray l st fun outs s => (seqB nt l outs = true ∧ ordB l.toArray outs = true) ∧ DWp P nt n0 y Q s) : DWp P nt n0 (.seq (.region id ops true) y) Q st :=
  d_seq fun K hK => d_any hm hl hk (h.mono fun o s hs => ⟨hs.1, hK s hs.2⟩)
/-- a nil slice in a box, as an object -/
theorem d_nilB {c : Code} {env : Env} {sto : Sto} {nxt : Nat} (b j z : Nat) (hz : 0 < z) {n : Nat} {fz : Bool} {cs : List DV} (hb : sto.get b = some ⟨n, false, fz, [cs]⟩) (hj : cs[j]? = some (.lit (.slice none 0 0)))
    (h : DWp P nt n0 c Q ⟨env, (b, ⟨n, false, fz, [cs.set j (.own nxt 0 0)]⟩) :: (nxt, ⟨z, true, false, []⟩) :: (sto.drop nxt).drop b, nxt + 1⟩) : DWp P nt n0 c Q ⟨env, sto, nxt⟩ := fun C h1 h2 a w hs => by
  refine h C h1 h2 a w ?_
  obtain ⟨m, rfl, hm, hF⟩ := hs
  have hn : m.σ nxt = none := hF nxt (Nat.le_refl _)
  obtain ⟨t1, t2⟩ := turn_new hm.inv hn m.w ⟨z, none, true, noI⟩ rfl rfl rfl (Nat.le_refl _) (fun _ _ => rfl) (fun g c h => by cases h)
  have hbn : b ≠ nxt := by
    rintro rfl
    obtain ⟨e, he, _⟩ := hm.sto _ _ hb
    rw [hn] at he; cases he
  refine ⟨⟨m.w, m.M, setE m.σ nxt (some ⟨z, none, true, noI⟩)⟩, rfl, ⟨t1, hm.M, hm.size, hm.defers, hm.org.trans t2.ent, hm.lim0, fun j => (hm.env j).ext t2.toExt, fun s ob hs => ?_⟩, fun s hs => ?_⟩
  · simp only [Sto.get_cons, Sto.drop_get] at hs
    by_cases hsb : s = b
    · subst hsb
      rw [if_pos rfl] at hs
      injection hs with hs
      subst hs
      have hold := Holds.loc hm.inv t2 (by simpa using hbn) (hm.sto s _ hb)
      obtain ⟨e, q1, q2, q3, q4⟩ := hold
      refine ⟨e, q1, q2, q3, ?_⟩
      cases hblk : e.blk with
      | none => rw [hblk] at q4; exact absurd q4.1 (by simp)
      | some p =>
        obtain ⟨g, cap⟩ := p
        rw [hblk] at q4
        obtain ⟨row, deep⟩ := q4
        have old : ∀ (i : Nat) x (k : Nat) d, [cs.set j (.own nxt 0 0)][i]? = some x → x[k]? = some d → (i = 0 ∧ k = j ∧ d = .own nxt 0 0) ∨ (i = 0 ∧ cs[k]? = some d) := fun i x k d hx hd => by
          cases i with
          | succ i => simp at hx
          | zero =>
            simp only [List.getElem?_cons_zero, Option.some.injEq] at hx
            subst hx
            by_cases hkj : k = j
            · subst hkj
              rw [List.getElem?_set_self (get_lt hj)] at hd
              injection hd with hd
              exact .inl ⟨rfl, rfl, hd.symm⟩
            · rw [List.getElem?_set_ne (by omega)] at hd
              exact .inr ⟨rfl, hd⟩
        refine ⟨row_turn row rfl rfl rfl (fun i x hx => ?_) (fun i x k d u hx hd hu => ?_), deep.conv rfl (fun _ r => r) fun i x k z' l hx hd => ?_⟩
        · cases i with
          | succ i => simp at hx
          | zero =>
            simp only [List.getElem?_cons_zero, Option.some.injEq] at hx
            subst hx
            rw [List.length_set]
            exact row.sz 0 cs rfl
        · rcases old i x k d hx hd with ⟨rfl, rfl, rfl⟩ | ⟨rfl, hd⟩
          · obtain ⟨u', w1, w2, w3⟩ := row_cell row (i := 0) (x := cs) rfl hj
            rw [hu] at w1
            injection w1 with w1
            subst w1
            refine ⟨w2, ?_⟩
            have : Rep (⟨m.w, m.M, setE m.σ nxt (some ⟨z, none, true, noI⟩)⟩ : Mem) u (.lit (.slice none 0 0)) := w3
            rw [this.lit_inv]
            exact .ownNil (setE_same _ _ _) rfl
          · obtain ⟨u', w1, w2⟩ := row_cell row (i := 0) (x := cs) rfl hd
            rw [hu] at w1
            injection w1 with w1
            subst w1
            exact w2
        · rcases old i x k _ hx hd with ⟨_, _, h⟩ | ⟨rfl, hd⟩
          · cases h
          · exact ⟨cs, rfl, hd⟩
    · rw [if_neg hsb] at hs
      by_cases hs' : s = nxt
      · subst hs'
        rw [if_pos rfl] at hs
        injection hs with hs
        subst hs
        exact ⟨_, setE_same _ _ _, rfl, rfl, rfl, hz⟩
      · rw [if_neg hs', if_neg hsb, if_neg hs'] at hs
        exact Holds.loc hm.inv t2 (by simpa using hs') (hm.sto s ob hs)
  · dsimp only at hs ⊢
    rw [setE_ne _ _ (by omega)]
    exact hF s (by dsimp only; omega)

/-- a nil slice in a struct, as an object -/
theorem d_nilA {c : Code} {env : Env} {sto : Sto} {nxt : Nat} (k j z : Nat) (hz : 0 < z) {cs : List DV} (hk : env.get k = .agg cs) (hj : cs[j]? = some (.lit (.slice none 0 0)))
    (h : DWp P nt n0 c Q ⟨env.put (some k) (.agg (cs.set j (.own nxt 0 0))), (nxt, ⟨z, true, false, []⟩) :: sto.drop nxt, nxt + 1⟩) : DWp P nt n0 c Q ⟨env, sto, nxt⟩ := fun C h1 h2 a w hs => by
  refine h C h1 h2 a w ?_
  obtain ⟨m, rfl, hm, hF⟩ := hs
  have hn : m.σ nxt = none := hF nxt (Nat.le_refl _)
  obtain ⟨t1, t2⟩ := turn_new hm.inv hn m.w ⟨z, none, true, noI⟩ rfl rfl rfl (Nat.le_refl _) (fun _ _ => rfl) (fun g c h => by cases h)
  refine ⟨⟨m.w, m.M, setE m.σ nxt (some ⟨z, none, true, noI⟩)⟩, rfl, ⟨t1, hm.M, hm.size, hm.defers, hm.org.trans t2.ent, hm.lim0, fun i => ?_, fun s ob hs => ?_⟩, fun s hs => ?_⟩
  · rw [Env.put_get]
    by_cases hi : i = k
    · subst hi
      rw [if_pos rfl]
      have hv := (hm.env i).ext t2.toExt
      rw [show env.get i = DV.agg cs from hk] at hv
      obtain ⟨vs, e0, e1, e2⟩ := hv.agg_inv
      rw [e0]
      refine .agg (by rw [List.length_set]; exact e1) fun n u d hu hd => ?_
      by_cases hnj : n = j
      · subst hnj
        have hlt : n < cs.length := by
          rcases Nat.lt_or_ge n cs.length with h' | h'
          · exact h'
          · rw [List.getElem?_eq_none h'] at hj; cases hj
        rw [List.getElem?_set_self hlt] at hd
        injection hd with hd
        subst hd
        have := e2 n u _ hu hj
        rw [this.lit_inv]
        exact .ownNil (setE_same _ _ _) rfl
      · rw [List.getElem?_set_ne (by omega)] at hd
        exact e2 n u d hu hd
    · rw [if_neg hi]; exact (hm.env i).ext t2.toExt
  · simp only [Sto.get_cons, Sto.drop_get] at hs
    by_cases hs' : s = nxt
    · subst hs'
      rw [if_pos rfl] at hs
      injection hs with hs
      subst hs
      exact ⟨_, setE_same _ _ _, rfl, rfl, rfl, hz⟩
    · rw [if_neg hs', if_neg hs'] at hs
      exact Holds.loc hm.inv t2 (by simpa using hs') (hm.sto s ob hs)
  · dsimp only at hs ⊢
    rw [setE_ne _ _ (by omega)]
    exact hF s (by dsimp only; omega)

theorem wkE {n0 : Nat} {st st' : DSt} {fr1 fr2 : List Nat} (ρ : Ren)
    (h1 : CvE st.sto ρ st.env st'.env fr1 := by repeat' (first | exact CvE.nil | apply CvE.cons | exact .lit | exact .own rfl | exact .sl | exact .nil | exact .ptr rfl | exact .ownE rfl (by first | omega | (simp; done) | (simp; omega)) | exact .frzM rfl (by first | omega | (simp; done) | (simp; omega)) | exact .dfzM rfl (fun _ => rfl) (fun _ => rfl) (by first | omega | (simp; done) | (simp; omega)) | exact .any | exact .pp | exact CvL.nil | apply CvL.cons | apply Cv.agg | apply Cv.tup | apply Cv.fn))
    (h2 : CvS st.sto ρ st'.sto fr2 := by repeat' (first | exact CvS.nil | apply CvS.cons rfl rfl | exact .arr rfl | exact CvO.same (dpM fun _ => rfl) | apply CvO.rowAt (fun _ => rfl) | apply CvO.box | exact CvL.nil | apply CvL.cons | exact CvL.numbers _ | exact .lit | exact .own rfl | exact .sl | exact .nil | exact .ptr rfl | exact .ownE rfl (by first | omega | (simp; done) | (simp; omega)) | exact .frzM rfl (by first | omega | (simp; done) | (simp; omega)) | exact .dfzM rfl (fun _ => rfl) (fun _ => rfl) (by first | omega | (simp; done) | (simp; omega)) | exact .any | exact .pp))
    (h3 : okR ρ (fr1 ++ fr2) n0 st'.nxt = true := by rfl) : Weak n0 st st' := WeakE.weak ⟨ρ, fr1, fr2, h1, h2, h3⟩
theorem finE {fn : Func} {n0 : Nat} {r : DV} {S' : Sto} {e : Exit} {st : DSt} {ds : List DV} {fr1 fr2 : List Nat} (ρ : Ren) (hl : ResL P st fn.results.toList ds)
    (h1 : Cv st.sto ρ (resV ds) r fr1 := by repeat' (first | exact .lit | exact .own rfl | exact .sl | exact .nil | exact .ptr rfl | exact .ownE rfl (by first | omega | (simp; done) | (simp; omega)) | exact .frzM rfl (by first | omega | (simp; done) | (simp; omega)) | exact .dfzM rfl (fun _ => rfl) (fun _ => rfl) (by first | omega | (simp; done) | (simp; omega)) | exact CvL.nil | apply CvL.cons | apply Cv.agg | apply Cv.tup | apply Cv.fn | exact .any | exact .pp))
    (h2 : CvS st.sto ρ S' fr2 := by repeat' (first | exact CvS.nil | apply CvS.cons rfl rfl | exact .arr rfl | exact CvO.same (dpM fun _ => rfl) | apply CvO.rowAt (fun _ => rfl) | apply CvO.box | exact CvL.nil | apply CvL.cons | exact CvL.numbers _ | exact .lit | exact .own rfl | exact .sl | exact .nil | exact .ptr rfl | exact .ownE rfl (by first | omega | (simp; done) | (simp; omega)) | exact .frzM rfl (by first | omega | (simp; done) | (simp; omega)) | exact .dfzM rfl (fun _ => rfl) (fun _ => rfl) (by first | omega | (simp; done) | (simp; omega)) | exact .any | exact .pp))
    (h3 : okR ρ (fr1 ++ fr2) n0 (idb S' n0) = true := by rfl) (he : e = .normal ∨ e = .ret := by first | exact .inr rfl | exact .inl rfl) : RetD P fn n0 r S' e st := ⟨he, ds, ρ, fr1, fr2, hl, h1, h2, h3⟩
end

section
variable {P : Program} {env : Env} {sto : Sto} {nxt : Nat} {o : Oper}
theorem m_add {t : Nat} {x y : Operand} {t' : Nat} {k : IntKind} {p q : Int} (ho : o.op = .binOp .add t x y t' := by rfl) (hx : opd env x = .lit (.int k p) := by rfl) (hy : opd env y = .lit (.int k q) := by rfl) : OpOK P o env sto nxt ⟨.lit (.int k (k.wrap (p + q))), [], [], 0⟩ := r_bin ho hx hy rfl
theorem m_sub {t : Nat} {x y : Operand} {t' : Nat} {k : IntKind} {p q : Int} (ho : o.op = .binOp .sub t x y t' := by rfl) (hx : opd env x = .lit (.int k p) := by rfl) (hy : opd env y = .lit (.int k q) := by rfl) : OpOK P o env sto nxt ⟨.lit (.int k (k.wrap (p - q))), [], [], 0⟩ := r_bin ho hx hy rfl
theorem m_mul {t : Nat} {x y : Operand} {t' : Nat} {k : IntKind} {p q : Int} (ho : o.op = .binOp .mul t x y t' := by rfl) (hx : opd env x = .lit (.int k p) := by rfl) (hy : opd env y = .lit (.int k q) := by rfl) : OpOK P o env sto nxt ⟨.lit (.int k (k.wrap (p * q))), [], [], 0⟩ := r_bin ho hx hy rfl
theorem m_bits {op : BinOp} {t : Nat} {x y : Operand} {t' : Nat} {k : IntKind} {p q : Int} (ho : o.op = .binOp op t x y t' := by rfl) (hx : opd env x = .lit (.int k p) := by rfl) (hy : opd env y = .lit (.int k q) := by rfl) (h : op = .and ∨ op = .or ∨ op = .xor ∨ op = .andNot := by first | exact .inl rfl | exact .inr (.inl rfl) | exact .inr (.inr (.inl rfl)) | exact .inr (.inr (.inr rfl))) : OpOK P o env sto nxt ⟨.lit (.int k (bits op k p q)), [], [], 0⟩ := r_bin ho hx hy (BinI.bitsE h rfl).ok
theorem m_lss {t : Nat} {x y : Operand} {t' : Nat} {k : IntKind} {p q : Int} (ho : o.op = .binOp .lss t x y t' := by rfl) (hx : opd env x = .lit (.int k p) := by rfl) (hy : opd env y = .lit (.int k q) := by rfl) : OpOK P o env sto nxt ⟨.lit (.bool (decide (p < q))), [], [], 0⟩ := r_bin ho hx hy BinI.lt.ok
theorem m_leq {t : Nat} {x y : Operand} {t' : Nat} {k : IntKind} {p q : Int} (ho : o.op = .binOp .leq t x y t' := by rfl) (hx : opd env x = .lit (.int k p) := by rfl) (hy : opd env y = .lit (.int k q) := by rfl) : OpOK P o env sto nxt ⟨.lit (.bool (decide (p ≤ q))), [], [], 0⟩ := r_bin ho hx hy BinI.le.ok
theorem m_gtr {t : Nat} {x y : Operand} {t' : Nat} {k : IntKind} {p q : Int} (ho : o.op = .binOp .gtr t x y t' := by rfl) (hx : opd env x = .lit (.int k p) := by rfl) (hy : opd env y = .lit (.int k q) := by rfl) : OpOK P o env sto nxt ⟨.lit (.bool (decide (q < p))), [], [], 0⟩ := r_bin ho hx hy BinI.gt.ok
theorem m_geq {t : Nat} {x y : Operand} {t' : Nat} {k : IntKind} {p q : Int} (ho : o.op = .binOp .geq t x y t' := by rfl) (hx : opd env x = .lit (.int k p) := by rfl) (hy : opd env y = .lit (.int k q) := by rfl) : OpOK P o env sto nxt ⟨.lit (.bool (decide (q ≤ p))), [], [], 0⟩ := r_bin ho hx hy BinI.ge.ok
theorem m_eql {t : Nat} {x y : Operand} {t' : Nat} {k : IntKind} {p q : Int} (ho : o.op = .binOp .eql t x y t' := by rfl) (hx : opd env x = .lit (.int k p) := by rfl) (hy : opd env y = .lit (.int k q) := by rfl) : OpOK P o env sto nxt ⟨.lit (.bool (decide (p = q))), [], [], 0⟩ := r_bin ho hx hy BinI.eq.ok
theorem m_neq {t : Nat} {x y : Operand} {t' : Nat} {k : IntKind} {p q : Int} (ho : o.op = .binOp .neq t x y t' := by rfl) (hx : opd env x = .lit (.int k p) := by rfl) (hy : opd env y = .lit (.int k q) := by rfl) : OpOK P o env sto nxt ⟨.lit (.bool (!decide (p = q))), [], [], 0⟩ := r_bin ho hx hy BinI.ne.ok
theorem m_lenE {x : Operand} {t : Nat} {td : TyD} {e n : Nat} {rs : List Nat} (ht : TyOk P t td) (ho : o.op = .call ⟨.builtin .len, #[x], #[t]⟩ := by rfl) (hk : td.k = .slice e := by rfl)
    (hx : LenD env sto x n rs := by first | exact .map rfl | exact .own rfl rfl | exact .nil rfl | exact .sl rfl) : OpOK P o env sto nxt ⟨.lit (.int .i64 n), [], rs, 0⟩ := m_len ht ho hk hx
theorem m_shlE {t : Nat} {x y : Operand} {t' : Nat} {k j : IntKind} {p q : Int} (h : 0 ≤ q) (ho : o.op = .binOp .shl t x y t' := by rfl) (hx : opd env x = .lit (.int k p) := by rfl) (hy : opd env y = .lit (.int j q) := by rfl) : OpOK P o env sto nxt ⟨.lit (.int k (shlN k p q)), [], [], 0⟩ := m_shl h ho hx hy
theorem m_shrE {t : Nat} {x y : Operand} {t' : Nat} {k j : IntKind} {p q : Int} (h : 0 ≤ q) (ho : o.op = .binOp .shr t x y t' := by rfl) (hx : opd env x = .lit (.int k p) := by rfl) (hy : opd env y = .lit (.int j q) := by rfl) : OpOK P o env sto nxt ⟨.lit (.int k (shrN k p q)), [], [], 0⟩ := m_shr h ho hx hy
theorem m_xorE {t : Nat} {x : Operand} {k : IntKind} {p : Int} (ho : o.op = .unOp .xor t x := by rfl) (hx : opd env x = .lit (.int k p) := by rfl) : OpOK P o env sto nxt ⟨.lit (.int k (xorN k p)), [], [], 0⟩ := m_xor ho hx
/-- a call that returns nothing plain: what it is handed stays as it is -/
theorem m_cS {c : Operand} {args : Array Operand} {l : List Operand} {ty : Array TypeId} {f : Nat} {cap ds : List DV} {S : Sto} {r : DV} {S' : Sto} {fr1 fr2 : List Nat} (ρ : Ren) (hc : DCall P f ds S r S') (hr : scB r = true) (hsS : ScS S') (ho : o.op = .call ⟨.value c, args, ty⟩ := by rfl) (hl : args = l.toArray := by rfl) (hcl : CalleeD env c f cap := by first | exact .func | exact .tmp rfl | exact .clo rfl)
    (hA : CvL sto ρ (l.map (opd env) ++ cap) ds fr1 := by repeat' (first | exact CvL.nil | apply CvL.cons | exact .lit | exact .own rfl | exact .sl | exact .nil | exact .ptr rfl | exact .ownE rfl (by first | omega | (simp; done) | (simp; omega)) | exact .frzM rfl (by first | omega | (simp; done) | (simp; omega)) | exact .dfzM rfl (fun _ => rfl) (fun _ => rfl) (by first | omega | (simp; done) | (simp; omega)) | exact .any | exact .pp | apply Cv.agg | apply Cv.tup | apply Cv.fn))
    (hS : CvS sto ρ S fr2 := by repeat' (first | exact CvS.nil | apply CvS.cons rfl rfl | exact .arr rfl | exact CvO.same (dpM fun _ => rfl) | apply CvO.rowAt (fun _ => rfl) | apply CvO.box | exact CvL.nil | apply CvL.cons | exact CvL.numbers _ | exact .lit | exact .own rfl | exact .sl | exact .nil | exact .ptr rfl | exact .ownE rfl (by first | omega | (simp; done) | (simp; omega)) | exact .frzM rfl (by first | omega | (simp; done) | (simp; omega)) | exact .dfzM rfl (fun _ => rfl) (fun _ => rfl) (by first | omega | (simp; done) | (simp; omega))))
    (hok : okC ρ (fr1 ++ fr2) S.length = true := by rfl) (hkn : knownB sto ρ = true := by rfl) : OpOK P o env sto nxt ⟨ren (phi ρ S.length nxt) r, callU ρ S.length nxt S', ρ.map (·.2) ++ (fr1 ++ fr2), idb S' S.length - S.length⟩ := by
  have := r_callB (P := P) (nxt := nxt) ho hl hcl hc (scB_ok hr) hsS hA hS hok hkn
  simpa [outOf] using this
/-- a call in general: what it is handed in plain is frozen -/
theorem m_cG {c : Operand} {args : Array Operand} {l : List Operand} {ty : Array TypeId} {f : Nat} {cap ds : List DV} {S : Sto} {r : DV} {S' : Sto} {fr1 fr2 : List Nat} (ρ : Ren) (hc : DCall P f ds S r S') (ho : o.op = .call ⟨.value c, args, ty⟩ := by rfl) (hl : args = l.toArray := by rfl) (hcl : CalleeD env c f cap := by first | exact .func | exact .tmp rfl | exact .clo rfl)
    (hA : CvL sto ρ (l.map (opd env) ++ cap) ds fr1 := by repeat' (first | exact CvL.nil | apply CvL.cons | exact .lit | exact .own rfl | exact .sl | exact .nil | exact .ptr rfl | exact .ownE rfl (by first | omega | (simp; done) | (simp; omega)) | exact .frzM rfl (by first | omega | (simp; done) | (simp; omega)) | exact .dfzM rfl (fun _ => rfl) (fun _ => rfl) (by first | omega | (simp; done) | (simp; omega)) | exact .any | exact .pp | apply Cv.agg | apply Cv.tup | apply Cv.fn))
    (hS : CvS sto ρ S fr2 := by repeat' (first | exact CvS.nil | apply CvS.cons rfl rfl | exact .arr rfl | exact CvO.same (dpM fun _ => rfl) | apply CvO.rowAt (fun _ => rfl) | apply CvO.box | exact CvL.nil | apply CvL.cons | exact CvL.numbers _ | exact .lit | exact .own rfl | exact .sl | exact .nil | exact .ptr rfl | exact .ownE rfl (by first | omega | (simp; done) | (simp; omega)) | exact .frzM rfl (by first | omega | (simp; done) | (simp; omega)) | exact .dfzM rfl (fun _ => rfl) (fun _ => rfl) (by first | omega | (simp; done) | (simp; omega))))
    (hok : okC ρ (fr1 ++ fr2) S.length = true := by rfl) (hkn : knownB sto ρ = true := by rfl) : OpOK P o env sto nxt ⟨ren (phi ρ S.length nxt) r, callU ρ S.length nxt S' ++ frzU sto (fr1 ++ fr2), ρ.map (·.2) ++ (fr1 ++ fr2), idb S' S.length - S.length⟩ := r_callF ho hl hcl hc hA hS hok hkn
/-- a contract in other words -/
theorem DCall.conv {f : FuncId} {ds : List DV} {S : Sto} {r r' : DV} {S' S'' : Sto} {fr1 fr2 : List Nat} (h : DCall P f ds S r S') (ρ : Ren) (h1 : Cv S' ρ r r' fr1) (h2 : CvS S' ρ S'' fr2) (h3 : okR ρ (fr1 ++ fr2) S.length (idb S'' S.length) = true) : DCall P f ds S r' S'' := ⟨h.1, fun w M σ vs hI hS hσ hR => by
  refine Calls.mono (h.2 w M σ vs hI hS hσ hR) fun e w' ⟨v, σ', he, q1, q2, q3, q4, q5⟩ => ?_
  obtain ⟨m', k1, k2, k3, k4, k5, k6, k7⟩ := weak_mem (n0 := S.length) (σ0 := σ) q1 q4 h3 h2 (fun s hs => List.mem_append_right _ hs) q2 hσ
  obtain ⟨mw, mM, mσ⟩ := m'
  dsimp only at k1 k2
  subst k1
  subst k2
  have := k4 _ _ fr1 _ h1 (fun s hs => List.mem_append_left _ hs) q3
  exact ⟨v, mσ, he, k3, k6, this, k5, k7⟩⟩
end
end Go.Proofs.Ythpnlnjdmlbnaaa
/- Plain functions with loops: when they have an answer. No program. -/
namespace Go.Proofs.Ythpnlnjdmlbnaaa
open Go.RowKit
set_option linter.unusedVariables false
set_option linter.unusedSimpArgs false

section
variable {α β ρ σ : Type}
/-- a loop with an invariant comes to an end -/
theorem loop_inv {f : σ → Option (LS σ β)} (I : σ → Prop) (Q : β → Prop) (μ : σ → Nat)
    (h : ∀ s, I s → (∃ s', f s = some (.go s') ∧ I s' ∧ μ s' < μ s) ∨ (∃ b, f s = some (.out b) ∧ Q b)) : ∀ (n : Nat) (s : σ), μ s = n → I s → ∃ b, loopO f s = some b ∧ Q b := by
  intro n
  induction n using Nat.strongRecOn with
  | _ n ih =>
    intro s hn hs
    rcases h s hs with ⟨s', h1, h2, h3⟩ | ⟨b, h1, h2⟩
    · obtain ⟨b, k1, k2⟩ := ih (μ s') (by omega) s' rfl h2
      exact ⟨b, (loopO_go h1).trans k1, k2⟩
    · exact ⟨b, loopO_out h1, h2⟩
theorem loop_ok {f : σ → Option (LS σ β)} {s : σ} (I : σ → Prop) (Q : β → Prop) (μ : σ → Nat) (hs : I s)
    (h : ∀ s, I s → (∃ s', f s = some (.go s') ∧ I s' ∧ μ s' < μ s) ∨ (∃ b, f s = some (.out b) ∧ Q b)) : ∃ b, loopO f s = some b ∧ Q b := loop_inv I Q μ h _ s rfl hs
theorem loop_to {f : σ → Option (LS σ β)} {s : σ} {b : β} (I : σ → Prop) (μ : σ → Nat) (hs : I s)
    (h : ∀ s, I s → (∃ s', f s = some (.go s') ∧ I s' ∧ μ s' < μ s) ∨ f s = some (.out b)) : loopO f s = some b := by
  obtain ⟨c, h1, rfl⟩ := loop_ok I (fun c => c = b) μ hs fun s hs => (h s hs).imp id fun e => ⟨b, e, rfl⟩
  exact h1
theorem loop_then {f : σ → Option (LS σ β)} {s : σ} {K : β → Option ρ} {R : ρ → Prop} (I : σ → Prop) (Q : β → Prop) (μ : σ → Nat) (hs : I s)
    (h : ∀ s, I s → (∃ s', f s = some (.go s') ∧ I s' ∧ μ s' < μ s) ∨ (∃ b, f s = some (.out b) ∧ Q b)) (hk : ∀ b, Q b → ∃ r, K b = some r ∧ R r) : ∃ r, (loopO f s).bind K = some r ∧ R r := by
  obtain ⟨b, h1, h2⟩ := loop_ok I Q μ hs h
  obtain ⟨r, h3, h4⟩ := hk b h2
  exact ⟨r, by rw [h1]; exact h3, h4⟩
theorem bind_ok {x : Option α} {a : α} {K : α → Option β} {r : β} (h : x = some a) (k : K a = some r) : x.bind K = some r := by rw [h]; exact k
theorem bind_eq {x : Option α} {a : α} {K : α → Option β} (h : x = some a) : x.bind K = K a := by rw [h]; rfl
theorem bndR_eq {x : Option (β ⊕ ρ)} {b : β} {K : β → Option ρ} (h : x = some (.inl b)) : bndR x K = K b := by rw [h]; rfl
theorem bndR_eqR {x : Option (β ⊕ ρ)} {r : ρ} {K : β → Option ρ} (h : x = some (.inr r)) : bndR x K = some r := by rw [h]; rfl
theorem at_nat {l : List α} {i : Nat} (h : i < l.length) : at_ l (i : Int) = some l[i] := by
  unfold at_
  rw [if_pos (by omega), Int.toNat_natCast, List.getElem?_eq_getElem h]
theorem at_int {l : List α} {i : Int} (h0 : 0 ≤ i) (h : i.toNat < l.length) : at_ l i = some l[i.toNat] := by
  unfold at_
  rw [if_pos h0, List.getElem?_eq_getElem h]
theorem at_ex {l : List α} {i : Int} (h0 : 0 ≤ i) (h : i < l.length) : ∃ v, at_ l i = some v ∧ v ∈ l := ⟨l[i.toNat]'(by omega), at_int h0 (by omega), List.getElem_mem _⟩
end
theorem w64_in {n : Int} (h : -9223372036854775808 ≤ n ∧ n ≤ 9223372036854775807) : w64 n = n := wrap64_id h
theorem wu_in {n : Int} (h : 0 ≤ n ∧ n ≤ 18446744073709551615) : wu n = n := wrapu64_id h
theorem w64_nat {n : Nat} (h : n ≤ 9223372036854775807) : w64 (n : Int) = n := w64_in (by omega)
theorem shl_pow {p : Int} {e : Nat} (he : e ≤ 64) (h : -9223372036854775808 ≤ p * 2 ^ e ∧ p * 2 ^ e ≤ 9223372036854775807) : shlN .i64 p (e : Int) = p * 2 ^ e := by
  unfold shlN
  rw [Int.toNat_natCast, Nat.min_eq_left (show e ≤ IntKind.i64.bits from he)]
  exact w64_in h
end Go.Proofs.Ythpnlnjdmlbnaaa
/- Plain: words behind an address, over frames that follow each other. No condition. -/
namespace Go.Proofs.Ythpnlnjdmlbnaaa
open Go.RowKit
set_option linter.unusedSimpArgs false
set_option linter.unusedVariables false
theorem ShpS.z {s : Sp} (h : ShpS s) : 0 ≤ s.sh ∧ s.sh ≤ 8 ∧ 8 ≤ szS s ∧ szS s ≤ 256 ∧ (2 : Int) ^ s.sh.toNat = (szS s : Int) := sz_get h.sh
theorem ShpS.small {s : Sp} (h : ShpS s) : s.ws.length ≤ 16384 := by
  rw [h.wl]
  exact Nat.mul_le_mul h.hi h.z.2.2.2.1
theorem ad_frame {s : Sp} (h : ShpS s) {a : Int} (h0 : 0 ≤ a) (h1 : a < s.ws.length) : ∃ F : Nat, a / szS s = F ∧ F < s.fs.length := by
  obtain ⟨g1, g2, g3, g4, g5⟩ := h.z
  obtain ⟨n, rfl⟩ : ∃ n : Nat, a = n := ⟨a.toNat, by omega⟩
  refine ⟨n / szS s, by push_cast; rfl, ?_⟩
  rw [h.wl] at h1
  exact Nat.div_lt_of_lt_mul (by rw [Nat.mul_comm]; omega)
/-- the word with a number, from a frame on: its address, or that it lies outside -/
def adv (s : Sp) (f n : Int) : Int × Int := if 0 ≤ itF s.fs (n / szS s).toNat f then (itF s.fs (n / szS s).toNat f * szS s + n % szS s, 0) else (0, 2)
theorem adv_lt {s : Sp} {f n : Int} (hf : 0 ≤ f) (h0 : 0 ≤ n) (h1 : n < szS s) : adv s f n = (f * szS s + n, 0) := by
  have e : (n / szS s).toNat = 0 := by rw [Int.ediv_eq_zero_of_lt h0 h1]; rfl
  unfold adv
  rw [e]
  show (if 0 ≤ f then (f * szS s + n % szS s, 0) else (0, 2)) = _
  rw [if_pos hf, Int.emod_eq_of_lt h0 h1]
theorem adv_neg {s : Sp} {f n : Int} (hf : f = -1) : adv s f n = (0, 2) := by
  unfold adv
  rw [itF_neg _ hf]
  rfl
theorem adv_ge {s : Sp} {f n : Int} (hz : 0 < szS s) (h1 : szS s ≤ n) : adv s f n = adv s (nxF s.fs f) (n - szS s) := by
  have e1 : n / szS s = (n - szS s) / szS s + 1 := by
    have : n = (n - szS s) + 1 * szS s := by omega
    rw [this, Int.add_mul_ediv_right _ _ (by omega)]
    congr 2
    omega
  have e2 : (n - szS s) % szS s = n % szS s := by rw [Int.sub_emod_right]
  have e3 : 0 ≤ (n - szS s) / szS s := Int.ediv_nonneg (by omega) (by omega)
  unfold adv
  rw [e2, e1, show ((n - szS s) / szS s + 1).toNat = ((n - szS s) / szS s).toNat + 1 by omega]
  rfl
def ownF (fs : List Fe) (f : Int) : Int := if h : 0 ≤ f ∧ f.toNat < fs.length then (fs[f.toNat]'h.2).ow else -1
theorem ownF_at {fs : List Fe} {i : Nat} (h : i < fs.length) : ownF fs i = fs[i].ow := by
  unfold ownF
  rw [dif_pos ⟨by omega, by simpa using h⟩]
  rfl
/-- the address k words behind another one, and why there is none -/
def GoR (s : Sp) (a k : Int) : Int × Int := if a < 0 ∨ s.ws.length ≤ a ∨ k < 0 then (0, 2) else if ownF s.fs (a / szS s) = -1 then (0, 5) else adv s (a / szS s) (a % szS s + k)
open Classical in
noncomputable def StepR (s : Sp) (a k : Int) : Int × Int := if SpOk s then GoR s a k else (0, 1)
theorem StepR_t {s : Sp} {a k : Int} (h : SpOk s) : StepR s a k = GoR s a k := if_pos h
theorem StepR_f {s : Sp} {a k : Int} (h : ¬ SpOk s) : StepR s a k = (0, 1) := if_neg h
theorem GoR_out {s : Sp} {a k : Int} (h : a < 0 ∨ s.ws.length ≤ a ∨ k < 0) : GoR s a k = (0, 2) := if_pos h
theorem GoR_in {s : Sp} {a k : Int} (h0 : 0 ≤ a) (h1 : a < s.ws.length) (h2 : 0 ≤ k) : GoR s a k = if ownF s.fs (a / szS s) = -1 then (0, 5) else adv s (a / szS s) (a % szS s + k) := if_neg (by omega)
theorem adv_end {s : Sp} (h : SpOk s) {F : Nat} (hF : F < s.fs.length) {n : Int} (hn : (s.ws.length : Int) < n) : adv s F n = (0, 2) := by
  obtain ⟨g1, g2, g3, g4, g5⟩ := h.shp.z
  have hl := h.shp.wl
  have e : s.fs.length ≤ (n / szS s).toNat := by
    have h1 : ((s.fs.length : Nat) : Int) ≤ n / szS s := by
      rw [Int.le_ediv_iff_mul_le (by omega)]
      omega
    omega
  have hst := h.ends.str
  have hnx := nxin_of h.fm
  -- after as many steps as there are frames nothing is left
  have h2 : itF s.fs s.fs.length F = -1 := by
    apply Classical.byContradiction
    intro hne
    have hin : ∀ j, j ≤ s.fs.length → 0 ≤ itF s.fs j F ∧ itF s.fs j F < s.fs.length := by
      intro j hj
      have h1 := hnx.it j F (by omega)
      refine ⟨?_, h1.2⟩
      rcases Int.lt_or_le (itF s.fs j F) 0 with h2 | h2
      · exfalso
        apply hne
        rw [show s.fs.length = j + (s.fs.length - j) by omega, itF_add]
        exact itF_neg _ (by omega)
      · exact h2
    have hnd : ((List.range (s.fs.length + 1)).map fun j => (itF s.fs j F).toNat).Nodup := by
      rw [List.nodup_iff_pairwise_ne, List.pairwise_map]
      refine List.pairwise_iff_getElem.2 fun a b ha hb hab e => ?_
      simp only [List.length_range] at ha hb
      simp only [List.getElem_range] at e
      have h1 := hin a (by omega)
      have h2 := hin b (by omega)
      have e2 : itF s.fs b F = itF s.fs a F := by omega
      rw [show b = a + ((b - a - 1) + 1) by omega, itF_add] at e2
      have h3 := hst (itF s.fs a F).toNat (by omega) (b - a - 1) (by omega)
      apply h3
      rw [show (((itF s.fs a F).toNat : Nat) : Int) = itF s.fs a F by omega]
      exact e2
    have := nodup_le s.fs.length _ hnd fun x hx => by
      obtain ⟨j, hj, rfl⟩ := List.mem_map.1 hx
      have := hin j (by have := List.mem_range.1 hj; omega)
      omega
    rw [List.length_map, List.length_range] at this
    omega
  unfold adv
  rw [show (n / szS s).toNat = s.fs.length + ((n / szS s).toNat - s.fs.length) by omega, itF_add, h2, itF_neg _ rfl]
  rfl
abbrev tup2 (r : Int × Int) : DV := .tup [.lit (.int .i64 r.1), .lit (.int .i64 r.2)]
end Go.Proofs.Ythpnlnjdmlbnaaa
/- Plain: fields of words, headers. No condition. -/
namespace Go.Proofs.Ythpnlnjdmlbnaaa
open Go.RowKit
set_option linter.unusedSimpArgs false
set_option linter.unusedVariables false
theorem u64_wrap {n : Nat} (h : n < 18446744073709551616) : IntKind.u64.wrap (n : Int) = n := IntWalk.u64_in _ (by omega)
theorem bits_nat {a b : Nat} (ha : a < 18446744073709551616) (hb : b < 18446744073709551616) : bits BinOp.and IntKind.u64 a b = ((a &&& b : Nat) : Int) ∧ bits BinOp.or IntKind.u64 a b = ((a ||| b : Nat) : Int) := by
  have h1 : a &&& b < 2 ^ 64 := Nat.lt_of_le_of_lt Nat.and_le_left (by omega)
  have h2 : a ||| b < 2 ^ 64 := Nat.or_lt_two_pow (by omega) (by omega)
  constructor
  · show IntKind.u64.wrap ((BitVec.ofInt 64 (a : Int) &&& BitVec.ofInt 64 (b : Int)).toNat : Int) = _
    rw [BitVec.ofInt_natCast, BitVec.ofInt_natCast, BitVec.toNat_and, BitVec.toNat_ofNat, BitVec.toNat_ofNat, Nat.mod_eq_of_lt (by omega), Nat.mod_eq_of_lt (by omega), u64_wrap (by omega)]
  · show IntKind.u64.wrap ((BitVec.ofInt 64 (a : Int) ||| BitVec.ofInt 64 (b : Int)).toNat : Int) = _
    rw [BitVec.ofInt_natCast, BitVec.ofInt_natCast, BitVec.toNat_or, BitVec.toNat_ofNat, BitVec.toNat_ofNat, Nat.mod_eq_of_lt (by omega), Nat.mod_eq_of_lt (by omega), u64_wrap (by omega)]
/-- a bit that is not in the second word -/
theorem bits_not {a b : Nat} (ha : a < 18446744073709551616) (hb : b < 18446744073709551616) : bits BinOp.andNot IntKind.u64 a b = ((a &&& (18446744073709551615 - b) : Nat) : Int) := by
  have h1 : a &&& (18446744073709551615 - b) < 2 ^ 64 := Nat.lt_of_le_of_lt Nat.and_le_left (by omega)
  show IntKind.u64.wrap ((BitVec.ofInt 64 (a : Int) &&& ~~~BitVec.ofInt 64 (b : Int)).toNat : Int) = _
  rw [BitVec.ofInt_natCast, BitVec.ofInt_natCast, BitVec.toNat_and, BitVec.toNat_not, BitVec.toNat_ofNat, BitVec.toNat_ofNat, Nat.mod_eq_of_lt (by omega), Nat.mod_eq_of_lt (by omega)]
  rw [show (2 : Nat) ^ 64 - 1 - b = 18446744073709551615 - b by omega, u64_wrap (by omega)]
theorem pow_le64 {n : Nat} (h : n ≤ 64) : 1 ≤ (2 : Nat) ^ n ∧ (2 : Nat) ^ n ≤ 18446744073709551616 := ⟨Nat.pow_pos (by decide), Nat.pow_le_pow_right (by decide) h⟩
theorem and_mask {a n : Nat} (ha : a < 18446744073709551616) (hn : n ≤ 64) : bits BinOp.and IntKind.u64 a ((2 ^ n - 1 : Nat) : Int) = ((a % 2 ^ n : Nat) : Int) := by
  have := pow_le64 hn
  rw [(bits_nat ha (by omega)).1, Nat.and_two_pow_sub_one_eq_mod]
theorem or_add {a v i : Nat} (ha : a < 2 ^ i) (h : a + v * 2 ^ i < 18446744073709551616) (ha2 : a < 18446744073709551616) : bits BinOp.or IntKind.u64 a ((v * 2 ^ i : Nat) : Int) = ((a + v * 2 ^ i : Nat) : Int) := by
  rw [(bits_nat ha2 (by omega)).2, Nat.or_comm, Nat.mul_comm v, ← Nat.two_pow_add_eq_or_of_lt ha, Nat.add_comm]
/-- the words that have only bits below another one's -/
theorem not_lo {a v i : Nat} (ha : a < 2 ^ i) (h : v * 2 ^ i < 18446744073709551616) (ha2 : a < 18446744073709551616) : bits BinOp.andNot IntKind.u64 a ((v * 2 ^ i : Nat) : Int) = a := by
  rw [bits_not ha2 h]
  congr 1
  refine Nat.eq_of_testBit_eq fun j => ?_
  rw [Nat.testBit_and]
  rcases Nat.lt_or_ge j i with hj | hj
  · by_cases h64 : j < 64
    · have e : (18446744073709551615 - v * 2 ^ i).testBit j = true := by
        have := Nat.testBit_two_pow_sub_succ (n := 64) (x := v * 2 ^ i) h j
        rw [show (2 : Nat) ^ 64 - (v * 2 ^ i + 1) = 18446744073709551615 - v * 2 ^ i by omega] at this
        rw [this, Nat.testBit_mul_two_pow]
        simp [h64]
        omega
      rw [e, Bool.and_true]
    · have e : a.testBit j = false := Nat.testBit_lt_two_pow (Nat.lt_of_lt_of_le ha2 (by
        show 2 ^ 64 ≤ 2 ^ j
        exact Nat.pow_le_pow_right (by decide) (by omega)))
      rw [e, Bool.false_and]
  · have e : a.testBit j = false := Nat.testBit_lt_two_pow (Nat.lt_of_lt_of_le ha (Nat.pow_le_pow_right (by decide) hj))
    rw [e, Bool.false_and]
theorem not_mask {v n : Nat} (hv : v < 2 ^ n) (hn : n ≤ 64) : bits BinOp.andNot IntKind.u64 v ((2 ^ n - 1 : Nat) : Int) = 0 := by
  have := pow_le64 hn
  rw [bits_not (by omega) (by omega)]
  show ((_ : Nat) : Int) = ((0 : Nat) : Int)
  congr 1
  refine Nat.eq_of_testBit_eq fun j => ?_
  rw [Nat.testBit_and, Nat.zero_testBit]
  rcases Nat.lt_or_ge j n with hj | hj
  · have e := Nat.testBit_two_pow_sub_succ (n := 64) (x := 2 ^ n - 1) (by omega) j
    rw [show (2 : Nat) ^ 64 - (2 ^ n - 1 + 1) = 18446744073709551615 - (2 ^ n - 1) by omega] at e
    rw [e, Nat.testBit_two_pow_sub_one]
    simp [hj]
  · have e : v.testBit j = false := Nat.testBit_lt_two_pow (Nat.lt_of_lt_of_le hv (Nat.pow_le_pow_right (by decide) hj))
    rw [e, Bool.false_and]
/-- the mask, as it is made -/
theorem mask1 {n : Nat} (hn : n ≤ 64) : IntKind.u64.wrap (18446744073709551615 * 2 ^ n) = ((18446744073709551616 - 2 ^ n : Nat) : Int) := by
  have h1 : ∀ n : Fin 65, IntKind.u64.wrap (18446744073709551615 * 2 ^ n.val) = ((18446744073709551616 - 2 ^ n.val : Nat) : Int) := by decide +kernel
  exact h1 ⟨n, by omega⟩
theorem mask2 {n : Nat} (hn : n ≤ 64) : IntKind.u64.wrap (BitVec.ofInt IntKind.u64.bits (if IntKind.u64.signed then -1 else IntKind.u64.max) ^^^ BitVec.ofInt IntKind.u64.bits ((18446744073709551616 - 2 ^ n : Nat) : Int)).toNat = ((2 ^ n - 1 : Nat) : Int) := by
  have h1 : ∀ n : Fin 65, IntKind.u64.wrap (BitVec.ofInt IntKind.u64.bits (if IntKind.u64.signed then -1 else IntKind.u64.max) ^^^ BitVec.ofInt IntKind.u64.bits ((18446744073709551616 - 2 ^ n.val : Nat) : Int)).toNat = ((2 ^ n.val - 1 : Nat) : Int) := by decide +kernel
  exact h1 ⟨n, by omega⟩
/-- a header -/
def hdW (r d : Int) : Int := (1 + r + d) * 256 + r * 2
def HdOk (r d : Int) : Prop := 0 ≤ r ∧ r ≤ 15 ∧ 0 ≤ d ∧ d ≤ 32
instance (r d : Int) : Decidable (HdOk r d) := by unfold HdOk; infer_instance
def LiveR (r d : Int) : Int × Int := if HdOk r d then (hdW r d, 0) else (0, 13)
/-- a word that is the header of an object with r and d fields -/
def IsHd (w r d : Int) : Prop := w = hdW r d ∧ HdOk r d
/-- what a word says -/
structure Hd where
  r : Int
  d : Int
  a : Int
  mv : Bool
  e : Int
def DecR (w : Int) : Hd :=
  if w % 2 = 1 then (if 16384 ≤ w / 2 then ⟨0, 0, 0, false, 12⟩ else ⟨0, 0, w / 2, true, 0⟩)
  else if w % 256 / 2 ≤ 15 ∧ 1 + w % 256 / 2 ≤ w / 256 ∧ w / 256 ≤ 33 + w % 256 / 2 then ⟨w % 256 / 2, w / 256 - 1 - w % 256 / 2, 0, false, 0⟩ else ⟨0, 0, 0, false, 12⟩
theorem DecR_hd {r d : Int} (h : HdOk r d) : DecR (hdW r d) = ⟨r, d, 0, false, 0⟩ := by
  unfold HdOk at h
  unfold DecR hdW
  have e1 : ((1 + r + d) * 256 + r * 2) % 2 = 0 := by omega
  have e2 : ((1 + r + d) * 256 + r * 2) % 256 / 2 = r := by omega
  have e3 : ((1 + r + d) * 256 + r * 2) / 256 = 1 + r + d := by omega
  rw [if_neg (by omega), e2, e3, if_pos (by omega)]
  congr 1
  omega
theorem DecR_ok {w : Int} (h0 : 0 ≤ w) (h : (DecR w).e = 0) (hm : (DecR w).mv = false) : IsHd w (DecR w).r (DecR w).d := by
  unfold DecR at h hm ⊢
  by_cases h2 : w % 2 = 1
  · rw [if_pos h2] at h hm
    by_cases h3 : 16384 ≤ w / 2
    · rw [if_pos h3] at h; cases h
    · rw [if_neg h3] at hm; cases hm
  · rw [if_neg h2] at h hm ⊢
    by_cases h3 : w % 256 / 2 ≤ 15 ∧ 1 + w % 256 / 2 ≤ w / 256 ∧ w / 256 ≤ 33 + w % 256 / 2
    · rw [if_pos h3]
      unfold IsHd hdW HdOk
      simp only []
      omega
    · rw [if_neg h3] at h; cases h
abbrev tup5 (h : Hd) : DV := .tup [.lit (.int .i64 h.r), .lit (.int .i64 h.d), .lit (.int .i64 h.a), .lit (.bool h.mv), .lit (.int .i64 h.e)]
abbrev tupU (r : Int × Int) : DV := .tup [.lit (.int .u64 r.1), .lit (.int .i64 r.2)]
end Go.Proofs.Ythpnlnjdmlbnaaa
/- Plain: objects. No condition. -/
namespace Go.Proofs.Ythpnlnjdmlbnaaa
open Go.RowKit
set_option linter.unusedSimpArgs false
set_option linter.unusedVariables false
def wAt (s : Sp) (a : Int) : Int := if h : 0 ≤ a ∧ a.toNat < s.ws.length then s.ws[a.toNat]'h.2 else 0
theorem wAt_in {s : Sp} {a : Int} (h0 : 0 ≤ a) (h : a.toNat < s.ws.length) : wAt s a = s.ws[a.toNat] := dif_pos ⟨h0, h⟩
theorem wAt_u {s : Sp} (hW : SpW s) (a : Int) : U64 (wAt s a) := by
  unfold wAt
  split
  · exact hW.1 _ (List.getElem_mem _)
  · exact ⟨by decide, by decide⟩
/-- numbers of fields, or why there are none -/
structure Lk where
  r : Int
  d : Int
  e : Int
def LookR (s : Sp) (a : Int) : Lk :=
  if ¬ (GoR s a 0).2 = 0 then ⟨0, 0, (GoR s a 0).2⟩
  else if ¬ (DecR (wAt s a)).e = 0 ∨ (DecR (wAt s a)).mv = true then ⟨0, 0, 12⟩
  else if ¬ (GoR s a ((DecR (wAt s a)).r + (DecR (wAt s a)).d)).2 = 0 then ⟨0, 0, 2⟩
  else ⟨(DecR (wAt s a)).r, (DecR (wAt s a)).d, 0⟩
open Classical in
noncomputable def ShapeR (s : Sp) (a : Int) : Lk := if SpOk s then LookR s a else ⟨0, 0, 1⟩
theorem ShapeR_t {s : Sp} {a : Int} (h : SpOk s) : ShapeR s a = LookR s a := if_pos h
theorem ShapeR_f {s : Sp} {a : Int} (h : ¬ SpOk s) : ShapeR s a = ⟨0, 0, 1⟩ := if_neg h
theorem GoR_e {s : Sp} {a k : Int} (h : (GoR s a k).2 = 0) : 0 ≤ a ∧ a < s.ws.length ∧ 0 ≤ k ∧ ¬ ownF s.fs (a / szS s) = -1 ∧ GoR s a k = adv s (a / szS s) (a % szS s + k) ∧ 0 ≤ itF s.fs ((a % szS s + k) / szS s).toNat (a / szS s) := by
  unfold GoR at h ⊢
  by_cases h1 : a < 0 ∨ s.ws.length ≤ a ∨ k < 0
  · rw [if_pos h1] at h; cases h
  · rw [if_neg h1] at h ⊢
    by_cases h2 : ownF s.fs (a / szS s) = -1
    · rw [if_pos h2] at h; cases h
    · rw [if_neg h2] at h ⊢
      refine ⟨by omega, by omega, by omega, h2, rfl, ?_⟩
      unfold adv at h
      by_cases h3 : 0 ≤ itF s.fs ((a % szS s + k) / szS s).toNat (a / szS s)
      · exact h3
      · rw [if_neg h3] at h; cases h
theorem GoR_v {s : Sp} {a k : Int} (h : (GoR s a k).2 = 0) : (GoR s a k).1 = itF s.fs ((a % szS s + k) / szS s).toNat (a / szS s) * szS s + (a % szS s + k) % szS s := by
  obtain ⟨h1, h2, h3, h4, h5, h6⟩ := GoR_e h
  rw [h5]
  unfold adv
  rw [if_pos h6]
/-- within the words that there are -/
theorem GoR_rng {s : Sp} (hs : ShpS s) (hn : NxIn s.fs) {a k : Int} (h : (GoR s a k).2 = 0) : 0 ≤ (GoR s a k).1 ∧ (GoR s a k).1 < s.ws.length := by
  obtain ⟨g1, g2, g3, g4, g5⟩ := hs.z
  obtain ⟨h1, h2, h3, h4, h5, h6⟩ := GoR_e h
  obtain ⟨F, hF, hFl⟩ := ad_frame hs h1 h2
  have h7 := hn.it ((a % szS s + k) / szS s).toNat (a / szS s) (by omega)
  have h8 : 0 ≤ (a % szS s + k) % szS s := Int.emod_nonneg _ (by omega)
  have h9 : (a % szS s + k) % szS s < szS s := Int.emod_lt_of_pos _ (by omega)
  rw [GoR_v h]
  generalize itF s.fs ((a % szS s + k) / szS s).toNat (a / szS s) = g at *
  generalize (a % szS s + k) % szS s = m at *
  have h10 : 0 ≤ g * szS s := Int.mul_nonneg h6 (by omega)
  have h11 : (g + 1) * szS s ≤ s.fs.length * szS s := Int.mul_le_mul_of_nonneg_right (by omega) (by omega)
  have h12 : (g + 1) * szS s = g * szS s + szS s := by rw [Int.add_mul, Int.one_mul]
  rw [hs.wl]
  push_cast
  omega
/-- what lies nearer is there, too -/
theorem GoR_mono {s : Sp} (hs : ShpS s) (hn : NxIn s.fs) {a j k : Int} (h : (GoR s a k).2 = 0) (h0 : 0 ≤ j) (hj : j ≤ k) : (GoR s a j).2 = 0 := by
  obtain ⟨g1, g2, g3, g4, g5⟩ := hs.z
  obtain ⟨h1, h2, h3, h4, h5, h6⟩ := GoR_e h
  have hm0 : 0 ≤ a % szS s := Int.emod_nonneg _ (by omega)
  have e1 : (a % szS s + j) / szS s ≤ (a % szS s + k) / szS s := Int.ediv_le_ediv (by omega) (by omega)
  have e2 : 0 ≤ (a % szS s + j) / szS s := Int.ediv_nonneg (by omega) (by omega)
  have h7 : 0 ≤ itF s.fs ((a % szS s + j) / szS s).toNat (a / szS s) := by
    rcases Int.lt_or_le (itF s.fs ((a % szS s + j) / szS s).toNat (a / szS s)) 0 with h8 | h8
    · exfalso
      obtain ⟨F, hF, hFl⟩ := ad_frame hs h1 h2
      have h9 := hn.it ((a % szS s + j) / szS s).toNat (a / szS s) (by omega)
      rw [show ((a % szS s + k) / szS s).toNat = ((a % szS s + j) / szS s).toNat + (((a % szS s + k) / szS s).toNat - ((a % szS s + j) / szS s).toNat) by omega, itF_add, itF_neg _ (by omega)] at h6
      omega
    · exact h8
  rw [GoR_in h1 h2 h0, if_neg h4]
  unfold adv
  rw [if_pos h7]
theorem StepR_e {s : Sp} {a k : Int} (h : (StepR s a k).2 = 0) : SpOk s ∧ StepR s a k = GoR s a k ∧ (GoR s a k).2 = 0 := by
  by_cases hs : SpOk s
  · rw [StepR_t hs] at h; exact ⟨hs, StepR_t hs, h⟩
  · rw [StepR_f hs] at h; cases h
/-- an object: what it takes to be one -/
theorem LookR_ok {s : Sp} (hW : SpW s) {a r d : Int} (h : LookR s a = ⟨r, d, 0⟩) : (GoR s a 0).2 = 0 ∧ DecR (wAt s a) = ⟨r, d, 0, false, 0⟩ ∧ HdOk r d ∧ wAt s a = hdW r d ∧ (GoR s a (r + d)).2 = 0 := by
  unfold LookR at h
  by_cases h1 : (GoR s a 0).2 = 0
  · rw [if_neg (by simp [h1])] at h
    by_cases h2 : ¬ (DecR (wAt s a)).e = 0 ∨ (DecR (wAt s a)).mv = true
    · rw [if_pos h2] at h; cases h
    · rw [if_neg h2] at h
      by_cases h3 : (GoR s a ((DecR (wAt s a)).r + (DecR (wAt s a)).d)).2 = 0
      · rw [if_neg (by simp [h3])] at h
        have e1 : (DecR (wAt s a)).e = 0 := Classical.byContradiction fun h => h2 (.inl h)
        have e2 : (DecR (wAt s a)).mv = false := by
          cases hm : (DecR (wAt s a)).mv
          · rfl
          · exact absurd (.inr hm) h2
        have h4 := DecR_ok (wAt_u hW a).1 e1 e2
        injection h with h5 h6
        rw [h5, h6] at h4 h3
        have h7 := DecR_hd h4.2
        rw [← h4.1] at h7
        exact ⟨h1, h7, h4.2, h4.1, h3⟩
      · rw [if_pos h3] at h; cases h
  · rw [if_pos h1] at h
    injection h with _ _ h
    exact absurd h h1
theorem LookR_mk {s : Sp} {a r d : Int} (h1 : (GoR s a 0).2 = 0) (h2 : wAt s a = hdW r d) (h3 : HdOk r d) (h4 : (GoR s a (r + d)).2 = 0) : LookR s a = ⟨r, d, 0⟩ := by
  unfold LookR
  rw [if_neg (by simp [h1]), h2, DecR_hd h3, if_neg (by simp), if_neg (by simp [h4])]
theorem LookR_cases (s : Sp) (a : Int) : ∃ r d e, LookR s a = ⟨r, d, e⟩ ∧ (e = 0 ∨ (¬ e = 0 ∧ r = 0 ∧ d = 0)) := by
  unfold LookR
  by_cases h1 : (GoR s a 0).2 = 0
  · rw [if_neg (by simp [h1])]
    by_cases h2 : ¬ (DecR (wAt s a)).e = 0 ∨ (DecR (wAt s a)).mv = true
    · rw [if_pos h2]; exact ⟨_, _, _, rfl, .inr ⟨by decide, rfl, rfl⟩⟩
    · rw [if_neg h2]
      by_cases h3 : (GoR s a ((DecR (wAt s a)).r + (DecR (wAt s a)).d)).2 = 0
      · rw [if_neg (by simp [h3])]; exact ⟨_, _, _, rfl, .inl rfl⟩
      · rw [if_pos h3]; exact ⟨_, _, _, rfl, .inr ⟨by decide, rfl, rfl⟩⟩
  · rw [if_pos h1]; exact ⟨_, _, _, rfl, .inr ⟨h1, rfl, rfl⟩⟩
theorem ShapeR_cases (s : Sp) (a : Int) : ∃ r d e, ShapeR s a = ⟨r, d, e⟩ ∧ (e = 0 ∨ (¬ e = 0 ∧ r = 0 ∧ d = 0)) := by
  by_cases hs : SpOk s
  · rw [ShapeR_t hs]; exact LookR_cases s a
  · rw [ShapeR_f hs]; exact ⟨_, _, _, rfl, .inr ⟨by decide, rfl, rfl⟩⟩
theorem ShapeR_ok {s : Sp} (hW : SpW s) {a r d : Int} (h : ShapeR s a = ⟨r, d, 0⟩) : SpOk s ∧ LookR s a = ⟨r, d, 0⟩ ∧ (GoR s a 0).2 = 0 ∧ DecR (wAt s a) = ⟨r, d, 0, false, 0⟩ ∧ HdOk r d ∧ wAt s a = hdW r d ∧ (GoR s a (r + d)).2 = 0 := by
  by_cases hs : SpOk s
  · rw [ShapeR_t hs] at h; exact ⟨hs, h, LookR_ok hW h⟩
  · rw [ShapeR_f hs] at h; cases h
abbrev tup3 (l : Lk) : DV := .tup [.lit (.int .i64 l.r), .lit (.int .i64 l.d), .lit (.int .i64 l.e)]
end Go.Proofs.Ythpnlnjdmlbnaaa
/- Plain: fields of objects. No condition. -/
namespace Go.Proofs.Ythpnlnjdmlbnaaa
open Go.RowKit
set_option linter.unusedSimpArgs false
set_option linter.unusedVariables false
/-- the address of a field -/
def FnR (l : Lk) (ref : Bool) : Int := if ref then l.r else l.d
def FbR (l : Lk) (ref : Bool) : Int := if ref then 1 else 1 + l.r
noncomputable def PlaceR (s : Sp) (a i : Int) (ref : Bool) : Int × Int := if ¬ (ShapeR s a).e = 0 then (0, (ShapeR s a).e) else if i < 0 ∨ FnR (ShapeR s a) ref ≤ i then (0, 17) else ((GoR s a (FbR (ShapeR s a) ref + i)).1, 0)
noncomputable def GetR (s : Sp) (a i : Int) (ref : Bool) : Int × Int := if (PlaceR s a i ref).2 = 0 then (wAt s (PlaceR s a i ref).1, 0) else (0, (PlaceR s a i ref).2)
theorem PlaceR_e {s : Sp} {a i : Int} {ref : Bool} {r d e : Int} (h : ShapeR s a = ⟨r, d, e⟩) (he : ¬ e = 0) : PlaceR s a i ref = (0, e) := by
  unfold PlaceR
  rw [h, if_pos he]
theorem PlaceR_i {s : Sp} {a i : Int} {ref : Bool} {r d : Int} (h : ShapeR s a = ⟨r, d, 0⟩) (hi : i < 0 ∨ (if ref then r else d) ≤ i) : PlaceR s a i ref = (0, 17) := by
  unfold PlaceR
  rw [h, if_neg (by simp), if_pos (show i < 0 ∨ FnR ⟨r, d, 0⟩ ref ≤ i from hi)]
theorem PlaceR_t {s : Sp} {a i : Int} {ref : Bool} {r d : Int} (h : ShapeR s a = ⟨r, d, 0⟩) (hi : 0 ≤ i ∧ i < (if ref then r else d)) : PlaceR s a i ref = ((GoR s a ((if ref then 1 else 1 + r) + i)).1, 0) := by
  unfold PlaceR
  rw [h, if_neg (by simp), if_neg (show ¬ (i < 0 ∨ FnR ⟨r, d, 0⟩ ref ≤ i) from fun h => by rcases h with h | h; omega; exact absurd hi.2 (Int.not_lt.2 h))]
  rfl
theorem PlaceR_rng {s : Sp} (hW : SpW s) {a i : Int} {ref : Bool} (h : (PlaceR s a i ref).2 = 0) : 0 ≤ (PlaceR s a i ref).1 ∧ (PlaceR s a i ref).1 < s.ws.length := by
  obtain ⟨r, d, e, hL, hz⟩ := ShapeR_cases s a
  by_cases he : e = 0
  · subst he
    by_cases hi : i < 0 ∨ (if ref then r else d) ≤ i
    · rw [PlaceR_i hL hi] at h; cases h
    · have hi2 : 0 ≤ i ∧ i < (if ref then r else d) := by omega
      rw [PlaceR_t hL hi2]
      obtain ⟨hs, _, _, _, h3, _, h5⟩ := ShapeR_ok hW hL
      unfold HdOk at h3
      have hn : NxIn s.fs := nxin_of hs.fm
      refine GoR_rng hs.shp hn (GoR_mono hs.shp hn h5 ?_ ?_)
      · cases ref <;> simp <;> omega
      · cases ref <;> simp at hi2 ⊢ <;> omega
  · rw [PlaceR_e hL he] at h
    exact absurd h he
theorem GetR_e {s : Sp} {a i : Int} {ref : Bool} {x e : Int} (h : PlaceR s a i ref = (x, e)) (he : ¬ e = 0) : GetR s a i ref = (0, e) := by
  unfold GetR
  rw [h, if_neg he]
theorem GetR_t {s : Sp} {a i : Int} {ref : Bool} {x : Int} (h : PlaceR s a i ref = (x, 0)) : GetR s a i ref = (wAt s x, 0) := by
  unfold GetR
  rw [h, if_pos rfl]
/-- a space with another word -/
def setS (s : Sp) (x w : Int) : Sp := { s with ws := s.ws.set x.toNat w }
theorem setS_len (s : Sp) (x w : Int) : (setS s x w).ws.length = s.ws.length := List.length_set ..
end Go.Proofs.Ythpnlnjdmlbnaaa
/- Plain: words of an object are cleared; different words have different addresses. No condition. -/
namespace Go.Proofs.Ythpnlnjdmlbnaaa
open Go.RowKit
set_option linter.unusedSimpArgs false
set_option linter.unusedVariables false
theorem GoR_ws {sh : Int} {ws l : List Int} {fs : List Fe} {a k : Int} (h : l.length = ws.length) : GoR ⟨sh, l, fs⟩ a k = GoR ⟨sh, ws, fs⟩ a k := by
  unfold GoR adv szS
  simp only [h]
/-- the first words of an object are set to zero -/
def clrL (s : Sp) (a : Int) : Nat → List Int → List Int
  | 0, l => l
  | n + 1, l => (clrL s a n l).set (GoR s a ((n + 1 : Nat) : Int)).1.toNat 0
@[simp] theorem clrL_len (s : Sp) (a : Int) (l : List Int) : ∀ n, (clrL s a n l).length = l.length
  | 0 => rfl
  | n + 1 => by unfold clrL; rw [List.length_set]; exact clrL_len s a l n
theorem clrL_comm {s : Sp} {a : Int} {p : Nat} {w : Int} : ∀ (n : Nat) (l : List Int), (∀ k : Nat, 1 ≤ k → k ≤ n → (GoR s a (k : Int)).1.toNat ≠ p) → (clrL s a n l).set p w = clrL s a n (l.set p w)
  | 0, l, _ => rfl
  | n + 1, l, h => by
    unfold clrL
    rw [List.set_comm _ _ (h (n + 1) (by omega) (by omega)), clrL_comm n l fun k h1 h2 => h k h1 (by omega)]
theorem end_len {s : Sp} (h : SpOk s) {F : Nat} (hF : F < s.fs.length) : itF s.fs s.fs.length F = -1 := by
  have hst := h.ends.str
  have hnx := nxin_of h.fm
  apply Classical.byContradiction
  intro hne
  have hin : ∀ j, j ≤ s.fs.length → 0 ≤ itF s.fs j F ∧ itF s.fs j F < s.fs.length := by
    intro j hj
    have h1 := hnx.it j F (by omega)
    refine ⟨?_, h1.2⟩
    rcases Int.lt_or_le (itF s.fs j F) 0 with h2 | h2
    · exfalso
      apply hne
      rw [show s.fs.length = j + (s.fs.length - j) by omega, itF_add]
      exact itF_neg _ (by omega)
    · exact h2
  have hnd : ((List.range (s.fs.length + 1)).map fun j => (itF s.fs j F).toNat).Nodup := by
    rw [List.nodup_iff_pairwise_ne, List.pairwise_map]
    refine List.pairwise_iff_getElem.2 fun a b ha hb hab e => ?_
    simp only [List.length_range] at ha hb
    simp only [List.getElem_range] at e
    have h1 := hin a (by omega)
    have h2 := hin b (by omega)
    have e2 : itF s.fs b F = itF s.fs a F := by omega
    rw [show b = a + ((b - a - 1) + 1) by omega, itF_add] at e2
    have h3 := hst (itF s.fs a F).toNat (by omega) (b - a - 1) (by omega)
    apply h3
    rw [show (((itF s.fs a F).toNat : Nat) : Int) = itF s.fs a F by omega]
    exact e2
  have := nodup_le s.fs.length _ hnd fun x hx => by
    obtain ⟨j, hj, rfl⟩ := List.mem_map.1 hx
    have := hin j (by have := List.mem_range.1 hj; omega)
    omega
  rw [List.length_map, List.length_range] at this
  omega
theorem split_eq {z g m g' m' : Int} (h0 : 0 ≤ m) (h1 : m < z) (h2 : 0 ≤ m') (h3 : m' < z) (e : g * z + m = g' * z + m') : g = g' ∧ m = m' := by
  have a1 : (g * z + m) / z = g := by rw [Int.add_comm, Int.add_mul_ediv_right _ _ (by omega), Int.ediv_eq_zero_of_lt h0 h1, Int.zero_add]
  have a2 : (g' * z + m') / z = g' := by rw [Int.add_comm, Int.add_mul_ediv_right _ _ (by omega), Int.ediv_eq_zero_of_lt h2 h3, Int.zero_add]
  have a3 : g = g' := by rw [← a1, ← a2, e]
  subst a3
  exact ⟨rfl, by omega⟩
/-- different words of an object have different addresses -/
theorem GoR_inj {s : Sp} (hs : SpOk s) {a j k : Int} (h1 : (GoR s a j).2 = 0) (h2 : (GoR s a k).2 = 0) (hjk : j < k) : (GoR s a j).1 ≠ (GoR s a k).1 := by
  intro e
  obtain ⟨g1, g2, g3, g4, g5⟩ := hs.shp.z
  have hnx := nxin_of hs.fm
  obtain ⟨a1, a2, a3, a4, a5, a6⟩ := GoR_e h1
  obtain ⟨b1, b2, b3, b4, b5, b6⟩ := GoR_e h2
  obtain ⟨F, hF, hFl⟩ := ad_frame hs.shp a1 a2
  rw [GoR_v h1, GoR_v h2] at e
  have hz : (0 : Int) < szS s := by omega
  have c1 := split_eq (Int.emod_nonneg _ (by omega)) (Int.emod_lt_of_pos _ hz) (Int.emod_nonneg _ (by omega)) (Int.emod_lt_of_pos _ hz) e
  have d0 : 0 ≤ a % szS s := Int.emod_nonneg _ (by omega)
  have d1 : 0 ≤ (a % szS s + j) / szS s := Int.ediv_nonneg (by omega) (by omega)
  have d2 : (a % szS s + j) / szS s ≤ (a % szS s + k) / szS s := Int.ediv_le_ediv hz (by omega)
  rcases Int.lt_or_le ((a % szS s + j) / szS s) ((a % szS s + k) / szS s) with d3 | d3
  · have e1 := c1.1
    rw [hF] at e1 a6 b6
    have hq : ((a % szS s + k) / szS s).toNat < s.fs.length := by
      apply Classical.byContradiction
      intro hge
      rw [show ((a % szS s + k) / szS s).toNat = s.fs.length + (((a % szS s + k) / szS s).toNat - s.fs.length) by omega, itF_add, end_len hs hFl, itF_neg _ rfl] at b6
      omega
    have f1 := hnx.it ((a % szS s + j) / szS s).toNat F (by omega)
    rw [show ((a % szS s + k) / szS s).toNat = ((a % szS s + j) / szS s).toNat + ((((a % szS s + k) / szS s).toNat - ((a % szS s + j) / szS s).toNat - 1) + 1) by omega, itF_add] at e1
    have f2 := hs.ends.str (itF s.fs ((a % szS s + j) / szS s).toNat F).toNat (by omega) (((a % szS s + k) / szS s).toNat - ((a % szS s + j) / szS s).toNat - 1) (by omega)
    apply f2
    rw [show (((itF s.fs ((a % szS s + j) / szS s).toNat F).toNat : Nat) : Int) = itF s.fs ((a % szS s + j) / szS s).toNat F by omega]
    exact e1.symm
  · have e3 : (a % szS s + j) / szS s = (a % szS s + k) / szS s := by omega
    have e4 := c1.2
    have f1 := Int.mul_ediv_add_emod (a % szS s + j) (szS s)
    have f2 := Int.mul_ediv_add_emod (a % szS s + k) (szS s)
    rw [e3, e4] at f1
    omega
theorem GoR_0 {s : Sp} (hs : ShpS s) {a : Int} (h : (GoR s a 0).2 = 0) : GoR s a 0 = (a, 0) := by
  obtain ⟨g1, g2, g3, g4, g5⟩ := hs.z
  obtain ⟨a1, a2, a3, a4, a5, a6⟩ := GoR_e h
  obtain ⟨F, hF, hFl⟩ := ad_frame hs a1 a2
  have d0 : 0 ≤ a % szS s := Int.emod_nonneg _ (by omega)
  have d1 : a % szS s < szS s := Int.emod_lt_of_pos _ (by omega)
  rw [a5, Int.add_zero, adv_lt (by omega) d0 d1, Int.mul_comm, Int.mul_ediv_add_emod]
end Go.Proofs.Ythpnlnjdmlbnaaa
/- Spaces: a free frame is given to an owner and linked: the space stays valid; chains as lists. No program. -/
namespace Go.Proofs.Ythpnlnjdmlbnaaa
open Go.RowKit
set_option linter.unusedVariables false
set_option linter.unusedSimpArgs false

theorem SpOk.nofree {s : Sp} (hs : SpOk s) {f k : Nat} (hf : f < s.fs.length) (h0 : s.fs[f].ow = -1) (hk : k < s.fs.length) : ¬ s.fs[k].nx = (f : Int) := fun e => by
  rcases hs.fm k hk with h | h
  · have := h.2.2.1; omega
  · obtain ⟨h1, h2⟩ := h.2.2.2.2 f hf e
    have := h.1.1
    omega
theorem itF_step {fs : List Fe} {n x : Nat} (hx : x < fs.length) : itF fs (n + 1) (x : Int) = itF fs n fs[x].nx := by
  show itF fs n (nxF fs x) = _
  rw [nxF_at hx]

/-- a free frame gets an owner, and may be linked behind the last one of its owner -/
theorem sp_link {s : Sp} (hs : SpOk s) {f : Nat} (hf : f < s.fs.length) (h0 : s.fs[f].ow = -1) {q st : Int} (hst : Stp q st) (lo : Option Nat)
    (hlo : ∀ l, lo = some l → ∃ h : l < s.fs.length, s.fs[l].nx = -1 ∧ s.fs[l].ow = q ∧ s.fs[l].st = st) {fs' : List Fe} (hlen : fs'.length = s.fs.length) (hp1 : ∀ h : f < fs'.length, fs'[f] = ⟨q, st, -1⟩)
    (hp : ∀ k (h : k < s.fs.length) (h' : k < fs'.length), k ≠ f → fs'[k].ow = s.fs[k].ow ∧ fs'[k].st = s.fs[k].st ∧ fs'[k].nx = if lo = some k then (f : Int) else s.fs[k].nx) : SpOk ⟨s.sh, s.ws, fs'⟩ := by
  have hf' : f < fs'.length := by omega
  have nf := fun k hk => hs.nofree hf h0 (k := k) hk
  have hz : ∀ i, ZeroF s i → ZeroF ⟨s.sh, s.ws, fs'⟩ i := fun i h => h
  have hq : 0 ≤ q := hst.1
  have hnx : NxIn s.fs := nxin_of hs.fm
  refine ⟨⟨hs.shp.sh, by show 2 ≤ fs'.length; rw [hlen]; exact hs.shp.lo, by show fs'.length ≤ 64; rw [hlen]; exact hs.shp.hi, by show s.ws.length = fs'.length * _; rw [hlen]; exact hs.shp.wl⟩, fun i hi => ?_, fun i j hi hj hij hjn e => ?_, fun i hi => ?_⟩
  · by_cases hif : i = f
    · subst hif
      refine .inr ?_
      show UsedF _ _ fs'[i]
      rw [hp1 hf']
      exact ⟨hst, by show (-1 : Int) ≤ -1; omega, by show (-1 : Int) < fs'.length; omega, by show (-1 : Int) ≠ i; omega, fun j hj e => by have : (-1 : Int) = j := e; omega⟩
    · have hi2 : i < s.fs.length := by have : i < fs'.length := hi; omega
      obtain ⟨p1, p2, p3⟩ := hp i hi2 hi hif
      rcases hs.fm i hi2 with h | h
      · have hl : ¬ lo = some i := fun e => by obtain ⟨_, _, h2, _⟩ := hlo i e; have := h.1; omega
        rw [if_neg hl] at p3
        exact .inl ⟨p1.trans h.1, p2.trans h.2.1, p3.trans h.2.2.1, hz i h.2.2.2⟩
      · refine .inr ⟨by rw [p1, p2]; exact h.1, ?_⟩
        by_cases hl : lo = some i
        · rw [if_pos hl] at p3
          obtain ⟨_, g1, g2, g3⟩ := hlo i hl
          refine ⟨by rw [p3]; omega, by rw [p3]; show (f : Int) < fs'.length; omega, by rw [p3]; omega, fun j hj e => ?_⟩
          rw [p3] at e
          have : j = f := by omega
          subst this
          show fs'[j].ow = _ ∧ fs'[j].st = _
          rw [hp1 hf', p1, p2]
          exact ⟨g2.symm, g3.symm⟩
        · rw [if_neg hl] at p3
          obtain ⟨u1, u2, u3, u4, u5⟩ := h
          refine ⟨by rw [p3]; exact u2, by rw [p3]; show _ < (fs'.length : Int); omega, by rw [p3]; exact u4, fun j hj e => ?_⟩
          rw [p3] at e
          have hj2 : j < s.fs.length := by have : j < fs'.length := hj; omega
          have hjf : j ≠ f := fun e' => by subst e'; exact nf i hi2 e
          obtain ⟨r1, r2, _⟩ := hp j hj2 hj hjf
          obtain ⟨v1, v2⟩ := u5 j hj2 e
          show fs'[j].ow = _ ∧ fs'[j].st = _
          rw [r1, r2, p1, p2]
          exact ⟨v1, v2⟩
  · show fs'[i].nx = -1
    have e : fs'[i].nx = fs'[j].nx := e
    have hi2 : i < s.fs.length := by have : i < fs'.length := hi; omega
    have hj2 : j < s.fs.length := by have : j < fs'.length := hj; omega
    by_cases hif : i = f
    · subst hif; rw [hp1 hf']
    by_cases hjf : j = f
    · subst hjf; rw [e, hp1 hf']
    obtain ⟨_, _, p3⟩ := hp i hi2 hi hif
    obtain ⟨_, _, r3⟩ := hp j hj2 hj hjf
    by_cases hl : lo = some i
    · rw [if_pos hl] at p3
      have : ¬ lo = some j := fun e' => by rw [hl] at e'; injection e' with e'; omega
      rw [if_neg this] at r3
      exact absurd (r3.symm.trans (e.symm.trans p3)) (nf j hj2)
    · rw [if_neg hl] at p3
      by_cases hl2 : lo = some j
      · rw [if_pos hl2] at r3
        exact absurd (p3.symm.trans (e.trans r3)) (nf i hi2)
      · rw [if_neg hl2] at r3
        rw [p3]
        exact hs.uq i j hi2 hj2 hij hj2 (p3.symm.trans (e.trans r3))
  · have hfe : ∀ n, itF fs' (n + 1) (f : Int) = -1 := fun n => by
      rw [itF_step hf', hp1 hf']
      exact itF_neg n rfl
    have key : ∀ n x, (x = -1 ∨ ∃ k : Nat, x = (k : Int) ∧ k < s.fs.length ∧ k ≠ f) → itF s.fs n x = -1 → itF fs' (n + 1) x = -1 := by
      intro n
      induction n with
      | zero =>
        intro x _ h
        exact itF_neg 1 h
      | succ n ih =>
        intro x hx h
        rcases hx with hx | ⟨k, rfl, hk, hkf⟩
        · exact itF_neg _ hx
        · have hk' : k < fs'.length := by omega
          obtain ⟨_, _, p3⟩ := hp k hk hk' hkf
          rw [itF_step hk] at h
          rw [itF_step hk', p3]
          by_cases hl : lo = some k
          · rw [if_pos hl]; exact hfe n
          · rw [if_neg hl]
            refine ih _ ?_ h
            have hr := hnx k hk
            by_cases hm : s.fs[k].nx = -1
            · exact .inl hm
            · refine .inr ⟨s.fs[k].nx.toNat, by omega, by omega, fun e => nf k hk (by omega)⟩
    show itF fs' (fs'.length + 1) i = -1
    rw [hlen]
    have hi2 : i < s.fs.length := by have : i < fs'.length := hi; omega
    by_cases hif : i = f
    · subst hif; exact hfe _
    · exact key _ _ (.inr ⟨i, rfl, hi2, hif⟩) (end_len hs hi2)

/-- frames that follow each other, to the end -/
def Chn (fs : List Fe) : List Nat → Prop
  | [] => True
  | f :: l => ∃ h : f < fs.length, fs[f].nx = (match l with | [] => -1 | g :: _ => (g : Int)) ∧ Chn fs l
theorem Chn.lt {fs : List Fe} : ∀ {l : List Nat}, Chn fs l → ∀ k ∈ l, k < fs.length
  | [], _, k, hk => by cases hk
  | f :: l, h, k, hk => by
    obtain ⟨h1, _, h3⟩ := h
    rcases List.mem_cons.1 hk with rfl | hk
    · exact h1
    · exact h3.lt k hk
theorem Chn.it {fs : List Fe} : ∀ {l : List Nat} {f : Nat}, Chn fs (f :: l) → ∀ j, itF fs j (f : Int) = match (f :: l)[j]? with | some k => (k : Int) | none => -1
  | l, f, _, 0 => rfl
  | [], f, h, j + 1 => by
    obtain ⟨h1, h2, _⟩ := h
    rw [itF_step h1, h2]
    simp only [List.getElem?_cons_succ, List.getElem?_nil]
    exact itF_neg j rfl
  | g :: l, f, h, j + 1 => by
    obtain ⟨h1, h2, h3⟩ := h
    rw [itF_step h1, h2]
    show itF fs j (g : Int) = _
    rw [h3.it j, List.getElem?_cons_succ]
/-- a chain that is not touched stays -/
theorem Chn.congr {fs fs' : List Fe} (hlen : fs'.length = fs.length) : ∀ {l : List Nat}, Chn fs l → (∀ k ∈ l, ∀ (h : k < fs.length) (h' : k < fs'.length), fs'[k].nx = fs[k].nx) → Chn fs' l
  | [], _, _ => trivial
  | f :: l, h, hk => by
    obtain ⟨h1, h2, h3⟩ := h
    refine ⟨by omega, ?_, h3.congr hlen fun k hkl => hk k (List.mem_cons_of_mem _ hkl)⟩
    rw [hk f (by simp) h1 (by omega)]
    exact h2
/-- a chain gets one frame more -/
theorem Chn.snoc {fs fs' : List Fe} {f : Nat} (hlen : fs'.length = fs.length) (hf : f < fs.length) (hff : ∀ h : f < fs'.length, fs'[f].nx = -1) : ∀ {l : List Nat}, Chn fs l → l.Nodup → f ∉ l →
    (∀ k ∈ l, ∀ (h : k < fs.length) (h' : k < fs'.length), fs'[k].nx = if l.getLast? = some k then (f : Int) else fs[k].nx) → Chn fs' (l ++ [f])
  | [], _, _, _, _ => ⟨by omega, hff _, trivial⟩
  | g :: l, h, hn, hfl, hk => by
    obtain ⟨h1, h2, h3⟩ := h
    have hn2 := List.nodup_cons.1 hn
    have hx := hk g (by simp) h1 (by omega)
    refine ⟨by omega, ?_, h3.snoc hlen hf hff hn2.2 (fun h => hfl (List.mem_cons_of_mem _ h)) fun k hkl a b => ?_⟩
    · rw [hx]
      cases l with
      | nil => rw [if_pos (by simp)]; rfl
      | cons g' l =>
        have : ¬ (g :: g' :: l).getLast? = some g := fun e => by
          rw [List.getLast?_cons_cons] at e
          exact hn2.1 (List.mem_of_getLast? e)
        rw [if_neg this, h2]
        rfl
    · rw [hk k (List.mem_cons_of_mem _ hkl) a b]
      cases l with
      | nil => cases hkl
      | cons g' l => rw [List.getLast?_cons_cons]
theorem Chn.last {fs : List Fe} : ∀ {l : List Nat}, Chn fs l → ∀ k, l.getLast? = some k → ∃ h : k < fs.length, fs[k].nx = -1
  | [], _, k, e => by cases e
  | [f], h, k, e => by
    obtain ⟨h1, h2, _⟩ := h
    simp only [List.getLast?_singleton, Option.some.injEq] at e
    subst e
    exact ⟨h1, h2⟩
  | f :: g :: l, h, k, e => by
    obtain ⟨_, _, h3⟩ := h
    rw [List.getLast?_cons_cons] at e
    exact h3.last k e
end Go.Proofs.Ythpnlnjdmlbnaaa
/- Rows with objects of one's own inside: frozen as they are laid in. No condition. -/
namespace Go.Proofs.Ythpnlnjdmlbnaaa
open Go.RowKit
set_option linter.unusedVariables false
set_option linter.unusedSimpArgs false

section
variable {sto : Sto}
theorem pu_nil : pureL sto [] = some ([], []) := rfl
theorem pu_lit {v : Value} {l b : List DV} {u : List Nat} (h : pureL sto l = some (b, u)) : pureL sto (.lit v :: l) = some (.lit v :: b, u) := by
  unfold pureL
  rw [h]
  rfl
theorem pu_sl {xs : List (List DV)} {l b : List DV} {u : List Nat} (h : pureL sto l = some (b, u)) : pureL sto (.sl xs :: l) = some (.sl xs :: b, u) := by
  unfold pureL
  rw [h]
  rfl
theorem pu_own {α : Type} {c : α → List DV} {ys : List α} {s z : Nat} {f : Bool} {l b : List DV} {u : List Nat} (hg : sto.get s = some ⟨z, true, f, ys.map c⟩) (h : pureL sto l = some (b, u)) : pureL sto (.own s 0 ys.length :: l) = some (.sl (ys.map c) :: b, s :: u) := by
  have e : pure1 sto (.own s 0 ys.length) = some (.sl (ys.map c), [s]) := by
    unfold pure1
    simp only [hg]
    rw [if_pos ⟨trivial, by simp⟩, List.drop_zero, List.take_of_length_le (by simp)]
  unfold pureL
  rw [e, h]
  rfl
end
section
variable {P : Program} {o : Oper} {env : Env} {sto : Sto} {nxt : Nat}
/-- a row of elements that hold objects -/
theorem m_litP {α : Type} {c : α → List DV} (xs : List α) {t e len : Nat} {parts : Array (Nat × Operand)} {l : List (Nat × Operand)} {tt td : TyD} {cells cells' : List DV} {r us : List Nat} (ht : TyOk P t tt) (he : TyOk P e td) (ho : o.op = .buildSlice t len parts) (hp : parts = l.toArray) (hk : tt.k = .slice e)
    (hz : td.zero.length = td.size) (h0 : 0 < td.size) (h1 : 0 < len) (hm : len * td.size ≤ 16777216)
    (h : fillD sto (fun i => some (i * td.size, td.size)) (zeros td len) (l.map fun p => (p.1, opd env p.2)) = some (cells, r)) (hpu : pureL sto cells = some (cells', us)) (hx : chunks len td.size cells' = xs.map c) (hl : len = xs.length) :
    OpOK P o env sto nxt ⟨.own nxt 0 xs.length, (nxt, some ⟨td.size, true, false, xs.map c⟩) :: frzU sto us, r ++ us, 1⟩ := m_litE xs ht he ho hp hk hz h0 h1 hm h hpu hx hl
theorem bnd_ex {lo : Option Operand} {a d : Int} {n : Nat} (hd : d = (n : Int)) (h0 : 0 ≤ a) (hl : (lo = none ∧ a = d) ∨ ∃ y k, lo = some y ∧ opd env y = .lit (.int k a)) : ∃ l, Bnd env lo l ∧ l.getD n = a.toNat := by
  have e1 := Int.toNat_of_nonneg h0
  rcases hl with ⟨rfl, rfl⟩ | ⟨y, k, rfl, hy⟩
  · exact ⟨none, .none, by simp [hd]⟩
  · exact ⟨some a.toNat, .some (k := k) (by rw [e1]; exact hy), rfl⟩
/-- a part of an object, still the object's -/
theorem m_slV {α : Type} {c : α → List DV} {xs : List α} {a b : Int} {t e s len : Nat} {f : Bool} {x : Operand} {lo hi : Option Operand} {tt td : TyD} (h : 0 ≤ a ∧ a ≤ b ∧ b ≤ xs.length ∧ (a = 0 ∨ a < b)) (ht : TyOk P t tt) (he : TyOk P e td)
    (hl : (lo = none ∧ a = 0) ∨ ∃ y k, lo = some y ∧ opd env y = .lit (.int k a)) (hh : (hi = none ∧ b = xs.length) ∨ ∃ y k, hi = some y ∧ opd env y = .lit (.int k b))
    (ho : o.op = .slice t x lo hi none) (hk : tt.k = .slice e) (hx : opd env x = .own s 0 len) (hs : sto.get s = some ⟨td.size, true, f, xs.map c⟩) (hlen : xs.length = len) :
    OpOK P o env sto nxt ⟨.own s a.toNat (b.toNat - a.toNat), [], [s], 0⟩ := by
  obtain ⟨h1, h2, h3, h4⟩ := h
  subst hlen
  obtain ⟨l, b1, l1⟩ := bnd_ex (n := 0) rfl h1 hl
  obtain ⟨u, b2, u1⟩ := bnd_ex (n := xs.length) rfl (show 0 ≤ b by omega) hh
  have := r_slO (P := P) (sto := sto) (nxt := nxt) ho ht hk he hx hs b1 b2 rfl (by rw [l1, u1]; omega) (by rw [u1]; omega) (by rw [l1, u1]; omega)
  rw [l1, u1, Nat.zero_add] at this
  exact this
/-- nothing is left of it -/
theorem r_slN {t e : Nat} {x : Operand} {lo hi : Option Operand} {tt td : TyD} {s off len : Nat} {ob : Ob} (ho : o.op = .slice t x lo hi none) (ht : TyOk P t tt) (hk : tt.k = .slice e) (he : TyOk P e td) (hx : opd env x = .own s off len) (hs : sto.get s = some ob) (hl : Bnd env lo (some len)) (hh : Bnd env hi none)
    (hz : ob.esz = td.size) : OpOK P o env sto nxt ⟨.sl [], [], [s], 0⟩ := .ran fun F m a hI hE hHo _ => by
  have hX := hE x (by simp [ho, Op.operands])
  rw [hx] at hX
  have hL := bnd_run (m := m) (a := a) hl fun x hx => hE x (by simp [ho, Op.operands, hx])
  have hH := bnd_run (m := m) (a := a) hh fun x hx => hE x (by simp [ho, Op.operands, hx])
  obtain ⟨e', k1, k2, k3, k6⟩ := own_get hX (hHo s (by simp) ob hs)
  rcases k6 with ⟨g, cap, k6, q0, k7, k8⟩ | ⟨k6, q0, rfl, rfl, k7, k8⟩
  · have hrun := run_slice ht hk he (ad := some ⟨g, off * ob.esz, none⟩) (sliceBounds_run (P := P) (len := len) (cap := cap - off) hL hH (Nat.le_refl _) (Nat.le_refl _) (by omega) true m.w)
    have hmax := k8.max
    simp only [Option.getD_some, Option.getD_none] at hrun
    refine Ran.val hI (v := .slice (if cap - off = len then some ⟨g, off * ob.esz, none⟩ else some ⟨g, off * ob.esz + len * td.size, none⟩) (len - len) (cap - off - len)) (by simp [execOp, ho, q0, hrun, add_lit]) ?_
    rw [Nat.sub_self]
    exact .pure (.nil _ _ (by unfold maxLen at *; omega))
  · have hrun := run_slice ht hk he (ad := none) (sliceBounds_run (P := P) (len := 0) (cap := 0) hL hH (Nat.le_refl _) (Nat.le_refl _) (Nat.le_refl _) true m.w)
    refine Ran.val hI (v := .slice none 0 0) (by simp [execOp, ho, q0, hrun]) ?_
    exact .pure (.nil _ _ (by unfold maxLen; omega))
theorem m_slN {α : Type} {c : α → List DV} {xs : List α} {a : Int} {t e s len : Nat} {f : Bool} {x : Operand} {lo : Option Operand} {tt td : TyD} (h : a = xs.length) (ht : TyOk P t tt) (he : TyOk P e td)
    (hl : ∃ y k, lo = some y ∧ opd env y = .lit (.int k a))
    (ho : o.op = .slice t x lo none none) (hk : tt.k = .slice e) (hx : opd env x = .own s 0 len) (hs : sto.get s = some ⟨td.size, true, f, xs.map c⟩) (hlen : xs.length = len) :
    OpOK P o env sto nxt ⟨.sl (((xs.take (xs.length : Int).toNat).drop a.toNat).map c), [], [s], 0⟩ := by
  subst hlen
  subst h
  obtain ⟨y, k, rfl, hy⟩ := hl
  have := r_slN (P := P) (nxt := nxt) ho ht hk he hx hs (.some hy) .none rfl
  rw [List.drop_eq_nil_of_le (by rw [List.length_take]; omega)]
  exact this
/-- a part of an object, appended to nothing -/
theorem m_apW {α : Type} {c : α → List DV} (xs : List α) {a b : Int} {t e s0 : Nat} {f : Bool} {s x : Operand} {tt td : TyD} {B : Int} (h : 0 ≤ a ∧ a ≤ b ∧ b ≤ xs.length) (hb : (((xs.take b.toNat).drop a.toNat).length : Int) * B ≤ 140737488355328 ∧ (((xs.take b.toNat).drop a.toNat).length : Int) ≤ 9223372036854775807) (ht : TyOk P t tt) (he : TyOk P e td)
    (ho : o.op = .call ⟨.builtin .append, #[s, x], #[t, t]⟩) (hk : tt.k = .slice e) (hs : opd env s = .lit (.slice none 0 0)) (hx : opd env x = .own s0 a.toNat (b.toNat - a.toNat)) (hg : sto.get s0 = some ⟨td.size, true, f, xs.map c⟩)
    (hz : td.zero.length = td.size) (h0 : 0 < td.size) (hB : (td.bytes : Int) = B) (hc : ∀ a, (c a).length = td.size) :
    OpOK P o env sto nxt ⟨.own nxt 0 ((xs.take b.toNat).drop a.toNat).length, [(nxt, some ⟨td.size, true, false, ((xs.take b.toNat).drop a.toNat).map c⟩)], [s0], 1⟩ := by
  subst hB
  obtain ⟨h1, h2, h3⟩ := h
  have e : elsF sto (opd env x) = some (((xs.take b.toNat).drop a.toNat).map c, [s0]) := by
    rw [hx]
    unfold elsF
    simp only [hg]
    rw [if_pos ⟨trivial, by rw [List.length_map]; omega⟩, List.drop_take, List.map_take, List.map_drop]
  have := r_appN (P := P) (nxt := nxt) ho ht hk he hs e hz h0 (all_len hc _) (by rw [List.length_map]; exact nat_le (a := _ * _) hb.1) (by rw [List.length_map]; unfold maxLen; omega)
  rw [List.length_map] at this
  exact this
/-- to the first part of an object -/
theorem m_apV {α : Type} {c : α → List DV} (xs ys : List α) {b : Int} {t e k : Nat} {s x : Operand} {tt td : TyD} {rs : List Nat} {B : Int} (h : 0 ≤ b ∧ b ≤ xs.length) (hb : (((xs.take b.toNat).length : Int) + ys.length) * B ≤ 140737488355328 ∧ ((xs.take b.toNat).length : Int) + ys.length ≤ 9223372036854775807) (ht : TyOk P t tt) (he : TyOk P e td)
    (ho : o.op = .call ⟨.builtin .append, #[s, x], #[t, t]⟩) (hs : opd env s = .own k 0 (b.toNat - 0)) (hx : ElE env sto td.size x (ys.map c) rs) (hk : tt.k = .slice e)
    (hg : sto.get k = some ⟨td.size, true, false, xs.map c⟩) (hz : td.zero.length = td.size) (h0 : 0 < td.size) (hB : (td.bytes : Int) = B) :
    OpOK P o env sto nxt ⟨.own nxt 0 (xs.take b.toNat ++ ys).length, [(k, none), (nxt, some ⟨td.size, true, false, (xs.take b.toNat ++ ys).map c⟩)], k :: rs, 1⟩ := by
  subst hB
  obtain ⟨h1, h2⟩ := hx.ok
  rw [Nat.sub_zero] at hs
  have hl : (xs.take b.toNat).length = b.toNat := by rw [List.length_take]; omega
  rw [hl] at hb
  have := r_app (P := P) (nxt := nxt) ho ht hk he hs hg h1 rfl rfl (by rw [List.length_map]; omega) rfl hz h0 h2 (by rw [List.length_map]; exact nat_le (a := (_ + _) * _) hb.1) (by rw [List.length_map]; unfold maxLen; omega)
  dsimp only at this
  rw [List.length_map] at this
  rw [List.map_append, List.map_take, List.length_append, hl]
  exact this
end
end Go.Proofs.Ythpnlnjdmlbnaaa
/- Lifting, told shortly: what needs nothing is done by itself. No condition. -/
namespace Go.Proofs.Ythpnlnjdmlbnaaa
open Go.RowKit
set_option linter.unusedVariables false
set_option linter.unusedSimpArgs false

theorem nt {x : Bool} (h : x = true) : (!x) = false := by rw [h]; rfl
class MixP (P : Program) : Prop where
  ok : P.follows .mixedOrders = true
/-- a type's row, found by itself -/
class TyI (P : Program) (t : Nat) (d : outParam TyD) : Prop where
  ok : TyOk P t d
def ndp : DV → Bool
  | .dp _ _ => false
  | _ => true
/-- what a plain function says -/
structure Sm {α : Type} (x : Option α) (v : α) : Prop where
  h : x = some v
/-- an element, known -/
structure At {α : Type} (l : List α) (i : Int) (v : α) : Prop where
  h : at_ l i = some v
section plain
variable {α β ρ σ : Type}
theorem bd {x : Option α} {K : α → Option β} {r : β} (H : Sm (x.bind K) r) : ∃ v, Sm x v ∧ Sm (K v) r := by
  obtain ⟨v, h1, h2⟩ := bnd H.h
  exact ⟨v, ⟨h1⟩, ⟨h2⟩⟩
theorem ba {l : List α} {i : Int} {K : α → Option β} {r : β} (H : Sm ((at_ l i).bind K) r) : ∃ v, At l i v ∧ Sm (K v) r := by
  obtain ⟨v, h1, h2⟩ := bnd H.h
  exact ⟨v, ⟨h1⟩, ⟨h2⟩⟩
theorem cq {p : Prop} [Decidable p] {A : Option β} {r : β} (H : Sm (if p then A else none) r) : p ∧ Sm A r := by
  obtain ⟨h1, h2⟩ := ck H.h
  exact ⟨h1, ⟨h2⟩⟩
theorem fs {p : Prop} [Decidable p] {A B : Option β} {r : β} (H : Sm (if p then A else B) r) : (p ∧ Sm A r) ∨ (¬ p ∧ Sm B r) := by
  by_cases h : p
  · exact .inl ⟨h, ⟨iT h H.h⟩⟩
  · exact .inr ⟨h, ⟨iF h H.h⟩⟩
theorem se {a r : β} (H : Sm (some a) r) : a = r := som H.h
end plain
section
variable {P : Program} {env : Env} {sto : Sto} {nxt : Nat} {o : Oper} {ops : Array Oper} {l : List Oper} {K : Outs → DSt → Prop}
theorem m_quoA {t : Nat} {x y : Operand} {t' : Nat} {k : IntKind} {p q : Int} (ho : o.op = .binOp .quo t x y t' := by rfl) (hx : opd env x = .lit (.int k p) := by rfl) (hy : opd env y = .lit (.int k q) := by rfl) (h : ¬ q = 0 := by first | assumption | decide) : OpOK P o env sto nxt ⟨.lit (.int k (k.wrap (p.tdiv q))), [], [], 0⟩ := m_quo h ho hx hy
theorem m_remA {t : Nat} {x y : Operand} {t' : Nat} {k : IntKind} {p q : Int} (ho : o.op = .binOp .rem t x y t' := by rfl) (hx : opd env x = .lit (.int k p) := by rfl) (hy : opd env y = .lit (.int k q) := by rfl) (h : ¬ q = 0 := by first | assumption | decide) : OpOK P o env sto nxt ⟨.lit (.int k (p.tmod q)), [], [], 0⟩ := m_rem h ho hx hy
theorem m_shlA {t : Nat} {x y : Operand} {t' : Nat} {k j : IntKind} {p q : Int} (ho : o.op = .binOp .shl t x y t' := by rfl) (hx : opd env x = .lit (.int k p) := by rfl) (hy : opd env y = .lit (.int j q) := by rfl) (h : 0 ≤ q := by first | assumption | decide) : OpOK P o env sto nxt ⟨.lit (.int k (shlN k p q)), [], [], 0⟩ := m_shlE h ho hx hy
theorem m_shrA {t : Nat} {x y : Operand} {t' : Nat} {k j : IntKind} {p q : Int} (ho : o.op = .binOp .shr t x y t' := by rfl) (hx : opd env x = .lit (.int k p) := by rfl) (hy : opd env y = .lit (.int j q) := by rfl) (h : 0 ≤ q := by first | assumption | decide) : OpOK P o env sto nxt ⟨.lit (.int k (shrN k p q)), [], [], 0⟩ := m_shrE h ho hx hy
theorem m_iaSA {α : Type} {c : α → List DV} {xs : List α} {v : α} {n : Int} {t e : Nat} {x ix : Operand} {tt td : TyD} {k : IntKind} (ho : o.op = .indexAddr t x ix := by rfl) (ht : TyOk P t tt := by exact TyI.ok) (hk : tt.k = .slice e := by rfl) (he : TyOk P e td := by exact TyI.ok)
    (hx : opd env x = .sl (xs.map c) := by rfl) (hi : opd env ix = .lit (.int k n) := by rfl) (h : At xs n v := by assumption) (hl : (c v).length = td.size := by rfl) : OpOK P o env sto nxt ⟨.pp (c v), [], [], 0⟩ := m_iaS h.h ht he ho hk hx hi hl
theorem m_iaOA {α : Type} {c : α → List DV} {xs : List α} {v : α} {n : Int} {s len z : Nat} {f1 f2 : Bool} {t e : Nat} {x ix : Operand} {tt td : TyD} {k : IntKind} (ho : o.op = .indexAddr t x ix := by rfl) (hx : opd env x = .own s 0 len := by rfl) (ht : TyOk P t tt := by exact TyI.ok) (hk : tt.k = .slice e := by rfl) (he : TyOk P e td := by exact TyI.ok)
    (hi : opd env ix = .lit (.int k n) := by rfl) (hs : sto.get s = some ⟨z, f1, f2, xs.map c⟩ := by rfl) (hl : xs.length = len := by first | rfl | omega | (simp; done) | (simp; omega)) (h : At xs n v := by assumption) (hz : z = td.size := by rfl) : OpOK P o env sto nxt ⟨.ptr s n.toNat 0, [], [s], 0⟩ := m_iaO h.h ht he ho hx hl hk hi hs hz
theorem m_ldOA {α : Type} {c : α → List DV} {xs : List α} {v : α} {n : Int} {t : Nat} {p : Operand} {td : TyD} {s j z : Nat} {arr frz : Bool} {d : DV} (ho : o.op = .load t p := by rfl) (ht : TyOk P t td := by exact TyI.ok) (hp : opd env p = .ptr s n.toNat j := by rfl) (hs : sto.get s = some ⟨z, arr, frz, xs.map c⟩ := by rfl) (h : At xs n v := by assumption)
    (hd : ldD td ((c v).drop j) = some d := by rfl) (hn : ndp d = true := by rfl) : OpOK P o env sto nxt ⟨d, [], [s], 0⟩ := m_ldO h.h ht ho hp hs hd
theorem m_faA {t f : Nat} {p : Operand} {td : TyD} {fs : List (Nat × Nat)} {off size : Nat} {d : DV} {rs : List Nat} (ho : o.op = .fieldAddr t p f := by rfl) (ht : TyOk P t td := by exact TyI.ok) (hk : td.k = .struct fs := by rfl) (hf : fs[f]? = some (off, size) := by rfl) (h0 : size ≠ 0 := by decide)
    (hc : FaD env sto off p d rs := by first | exact .ptr rfl rfl | exact .pp rfl) : OpOK P o env sto nxt ⟨d, [], rs, 0⟩ := m_fa ht ho hk hf h0 hc
theorem m_allocA {t : Nat} {td : TyD} (ho : o.op = .alloc t := by rfl) (ht : TyOk P t td := by exact TyI.ok) (hz : td.zero.length = td.size := by rfl) (h0 : 0 < td.size := by decide) : OpOK P o env sto nxt ⟨.ptr nxt 0 0, [(nxt, some ⟨td.size, false, false, [td.zero]⟩)], [], 1⟩ := r_alloc ho ht hz h0
theorem m_boxA {t : Nat} {x : Operand} {td : TyD} {cs : List DV} {r : List Nat} (ho : o.op = .box t x := by rfl) (ht : TyOk P t td := by exact TyI.ok) (hc : cellsD td (opd env x) = some cs := by rfl) (hb : boxF sto cs = some r := by rfl) (h0 : 0 < td.size := by decide) :
    OpOK P o env sto nxt ⟨.ptr nxt 0 0, [(nxt, some ⟨td.size, false, false, [cs]⟩)], r, 1⟩ := r_box ho ht hc hb h0
theorem m_buildA {t : Nat} {parts : Array (Nat × Operand)} {l : List (Nat × Operand)} {td : TyD} {fs : List (Nat × Nat)} {cells : List DV} {r : List Nat} (ho : o.op = .build t parts := by rfl) (ht : TyOk P t td := by exact TyI.ok) (hp : parts = l.toArray := by rfl) (hk : td.k = .struct fs := by rfl)
    (h : fillD sto (fs[·]?) td.zero (l.map fun p => (p.1, opd env p.2)) = some (cells, r) := by rfl) : OpOK P o env sto nxt ⟨.agg cells, [], r, 0⟩ := r_build ho hp ht hk h
theorem m_cnvA {src dst : Nat} {x : Operand} {td td' : TyD} {k q : IntKind} {n : Int} (ho : o.op = .convert src dst x := by rfl) (hs : TyOk P src td := by exact TyI.ok) (hd : TyOk P dst td' := by exact TyI.ok) (hk : td'.k = .int k := by rfl) (hx : opd env x = .lit (.int q n) := by rfl) : OpOK P o env sto nxt ⟨.lit (.int k (k.wrap n)), [], [], 0⟩ := r_conv ho hs hd hk hx
theorem m_lenA {x : Operand} {t : Nat} {td : TyD} {e n : Nat} {rs : List Nat} (ho : o.op = .call ⟨.builtin .len, #[x], #[t]⟩ := by rfl) (ht : TyOk P t td := by exact TyI.ok) (hk : td.k = .slice e := by rfl)
    (hx : LenD env sto x n rs := by first | exact .map rfl | exact .own rfl rfl | exact .nil rfl | exact .sl rfl) : OpOK P o env sto nxt ⟨.lit (.int .i64 n), [], rs, 0⟩ := m_len ht ho hk hx
theorem m_eqBA {t : Nat} {x y : Operand} {t' : Nat} {p q : Bool} {td : TyD} (ho : o.op = .binOp .eql t x y t' := by rfl) (hx : opd env x = .lit (.bool p) := by rfl) (hy : opd env y = .lit (.bool q) := by rfl) (ht : TyOk P t td := by exact TyI.ok) (hk : td.k = .bool := by rfl) : OpOK P o env sto nxt ⟨.lit (.bool (p == q)), [], [], 0⟩ := r_eqB ho ht hk hx hy
theorem m_neBA {t : Nat} {x y : Operand} {t' : Nat} {p q : Bool} {td : TyD} (ho : o.op = .binOp .neq t x y t' := by rfl) (hx : opd env x = .lit (.bool p) := by rfl) (hy : opd env y = .lit (.bool q) := by rfl) (ht : TyOk P t td := by exact TyI.ok) (hk : td.k = .bool := by rfl) : OpOK P o env sto nxt ⟨.lit (.bool (p != q)), [], [], 0⟩ := r_neB ho ht hk hx hy
theorem m_loadA {t : Nat} {p : Operand} {td : TyD} {d : DV} {cs : List DV} {rs : List Nat} (ho : o.op = .load t p := by rfl) (ht : TyOk P t td := by exact TyI.ok) (hc : Cells env sto p cs rs := by first | exact .ptr rfl rfl rfl | exact .pp rfl) (hd : ldD td cs = some d := by rfl) (hn : ndp d = true := by rfl) : OpOK P o env sto nxt ⟨d, [], rs, 0⟩ := m_load ht ho hc hd
theorem m_storeB {t : Nat} {p x : Operand} {td : TyD} {us : List (Nat × Option Ob)} {rs : List Nat} (ho : o.op = .store t p x := by rfl) (ht : TyOk P t td := by exact TyI.ok)
    (hc : StD env sto td p x us rs := by exact .box rfl rfl rfl rfl rfl rfl rfl (by first | decide | exact Nat.le_of_ble_eq_true rfl)) : OpOK P o env sto nxt ⟨.any, us, rs, 0⟩ := m_store ht ho hc
theorem m_pickA {c x y : Operand} {t u : Bool} (ho : o.op = .pick c x y := by rfl) (hc : opd env c = .lit (.bool t) := by rfl) (e : t = u := by first | exact decide_eq_true (by assumption) | exact decide_eq_false (by assumption) | assumption | exact eq_false_of_ne_true (by assumption) | exact congrArg not (decide_eq_true (by assumption)) | exact congrArg not (decide_eq_false (by assumption)) | exact nt (by assumption) | exact congrArg not (eq_false_of_ne_true (by assumption)) | rfl) : OpOK P o env sto nxt ⟨cond u (opd env x) (opd env y), [], [], 0⟩ := m_pickE e ho hc
theorem gF {g t : Nat} {b c : Bool} (h1 : o.guard = some (g, b) := by rfl) (h2 : (ops[g]?).bind (·.dst) = some t := by rfl) (h3 : env.get t = .lit (.bool c) := by rfl) (e : c = b := by first | exact decide_eq_true (by assumption) | exact decide_eq_false (by assumption) | assumption | exact eq_false_of_ne_true (by assumption) | exact congrArg not (decide_eq_true (by assumption)) | exact congrArg not (decide_eq_false (by assumption)) | exact nt (by assumption) | exact congrArg not (eq_false_of_ne_true (by assumption)) | rfl) : Grd ops o env := gY e h1 h2 h3
/-- what is left, as it is seen from inside -/
structure Wr (G : Prop) : Prop where
  get : G
theorem goA {d : DV} {us : List (Nat × Option Ob)} {rs : List Nat} {n : Nat} (h : OpOK P o env sto nxt ⟨d, us, rs, n⟩)
    (k : Steps P ops l ⟨env.put o.dst d, sto.upd us, nxt + n⟩ fun outs => K ((⟨d, us, rs, n⟩, nxt) :: outs)) (hg : Grd ops o env := by first | exact .none rfl | exact gF) : Steps P ops (o :: l) ⟨env, sto, nxt⟩ K := go h k hg
theorem noA {g t : Nat} {b c : Bool} (k : Steps P ops l ⟨env.put o.dst (.tup []), sto, nxt⟩ fun outs => K ((⟨.tup [], [], [], 0⟩, nxt) :: outs))
    (h1 : o.guard = some (g, b) := by rfl) (h2 : (ops[g]?).bind (·.dst) = some t := by rfl) (h3 : env.get t = .lit (.bool c) := by rfl) (e : c = !b := by first | exact decide_eq_true (by assumption) | exact decide_eq_false (by assumption) | assumption | exact eq_false_of_ne_true (by assumption) | exact congrArg not (decide_eq_true (by assumption)) | exact congrArg not (decide_eq_false (by assumption)) | exact nt (by assumption) | exact congrArg not (eq_false_of_ne_true (by assumption)) | rfl) : Steps P ops (o :: l) ⟨env, sto, nxt⟩ K := noE e k h1 h2 h3
theorem noB {g t : Nat} {b : Bool} (k : Steps P ops l ⟨env.put o.dst (.tup []), sto, nxt⟩ fun outs => K ((⟨.tup [], [], [], 0⟩, nxt) :: outs))
    (h1 : o.guard = some (g, b) := by rfl) (h2 : (ops[g]?).bind (·.dst) = some t := by rfl) (h3 : env.get t = .tup [] := by rfl) : Steps P ops (o :: l) ⟨env, sto, nxt⟩ K := noU k h1 h2 h3
/-- all that needs nothing, or what is there -/
theorem rg {G : Prop} {st : DSt} (k : G) (h : Wr G → Steps P ops l st K := by
    intro hG
    repeat (first
      | refine noA ?_ | refine noB ?_
      | refine goA m_move ?_ | refine goA m_loadA ?_ | refine goA m_set ?_ | refine goA m_ext ?_ | refine goA m_faA ?_
      | refine goA m_add ?_ | refine goA m_sub ?_ | refine goA m_eql ?_ | refine goA m_neq ?_ | refine goA m_lss ?_ | refine goA m_leq ?_ | refine goA m_gtr ?_ | refine goA m_geq ?_ | refine goA m_mul ?_ | refine goA m_bits ?_
      | refine goA m_nil ?_ | refine goA m_lenA ?_ | refine goA m_pickA ?_ | refine goA m_not ?_ | refine goA m_storeB ?_ | refine goA m_boxA ?_ | refine goA m_allocA ?_ | refine goA m_buildA ?_ | refine goA m_cnvA ?_
      | refine goA m_shlA ?_ | refine goA m_shrA ?_ | refine goA m_quoA ?_ | refine goA m_remA ?_ | refine goA m_neg ?_ | refine goA m_xorE ?_ | refine goA m_func ?_
      | refine goA m_iaSA ?_ | refine goA m_iaOA ?_ | refine goA m_ldOA ?_ | refine goA m_eqBA ?_ | refine goA m_neBA ?_ | refine goA m_eqS ?_ | refine goA m_neS ?_)
    exact hG.get) : Steps P ops l st K := h ⟨k⟩
end
section
variable {P : Program} {nt n0 : Nat} {Q : Exit → DSt → Prop} {st : DSt} {id : Nat} {ops : Array Oper} {l : List Oper} {y : Code} {G : Prop}
theorem d_cutS {β ρ : Type} {x y : Code} {X : Option β} {K : β → Option ρ} {r : ρ} (I : β → DSt) (H : Sm (X.bind K) r)
    (hx : ∀ z, Sm X z → DWp P nt n0 x (thenD (fun s => Weak n0 s (I z)) Q) st) (hy : ∀ b, Sm (K b) r → DWp P nt n0 y Q (I b)) : DWp P nt n0 (.seq x y) Q st := d_cutF I H.h (fun z hz => hx z ⟨hz⟩) fun b hb => hy b ⟨hb⟩
theorem d_cutT {β ρ : Type} {x y : Code} {X : Option (β ⊕ ρ)} {K : β → Option ρ} {r : ρ} (I : β → DSt) (H : Sm (bndR X K) r)
    (hx : ∀ z, (∀ r', z = .inr r' → r' = r) → Sm X z → DWp P nt n0 x (thenD (fun s => ∃ b, z = .inl b ∧ Weak n0 s (I b)) Q) st) (hy : ∀ b, Sm (K b) r → DWp P nt n0 y Q (I b)) : DWp P nt n0 (.seq x y) Q st := d_cutR I H.h (fun z hz h => hx z h ⟨hz⟩) fun b hb => hy b ⟨hb⟩
theorem d_loopS {β σ : Type} {body : Code} {f : σ → Option (LS σ β)} {s0 : σ} {z : β} (I : σ → DSt) (H : Sm (loopO f s0) z) (h0 : Weak n0 st (I s0))
    (hs : ∀ s y, (∀ b, y = .out b → b = z) → Sm (f s) y → DWp P nt n0 body (thenD (fun s' => ∃ x', y = .go x' ∧ Weak n0 s' (I x')) Q) (I s)) : DWp P nt n0 (.loop body) Q st := d_loopF I H.h h0 fun s y hy h => hs s y h ⟨hy⟩
theorem d_condA {c : Operand} {x y : Code} {b : Bool} (h : DWp P nt n0 x Q st) (hc : opd st.env c = .lit (.bool b) := by rfl) (e : b = true := by first | exact decide_eq_true (by assumption) | exact decide_eq_false (by assumption) | assumption | exact eq_false_of_ne_true (by assumption) | exact congrArg not (decide_eq_true (by assumption)) | exact congrArg not (decide_eq_false (by assumption)) | exact nt (by assumption) | exact congrArg not (eq_false_of_ne_true (by assumption)) | rfl) : DWp P nt n0 (.cond c x y) Q st := d_condE hc e h
theorem d_condB {c : Operand} {x y : Code} {b : Bool} (h : DWp P nt n0 y Q st) (hc : opd st.env c = .lit (.bool b) := by rfl) (e : b = false := by first | exact decide_eq_true (by assumption) | exact decide_eq_false (by assumption) | assumption | exact eq_false_of_ne_true (by assumption) | exact congrArg not (decide_eq_true (by assumption)) | exact congrArg not (decide_eq_false (by assumption)) | exact nt (by assumption) | exact congrArg not (eq_false_of_ne_true (by assumption)) | rfl) : DWp P nt n0 (.cond c x y) Q st := d_condN hc e h
theorem d_rsA (k : G) (hl : ops = l.toArray := by rfl) (h : Wr G → Steps P l.toArray l st (fun outs s => seqB nt l outs = true ∧ DWp P nt n0 y Q s) := by
    intro hG
    repeat (first
      | refine noA ?_ | refine noB ?_
      | refine goA m_move ?_ | refine goA m_loadA ?_ | refine goA m_set ?_ | refine goA m_ext ?_ | refine goA m_faA ?_
      | refine goA m_add ?_ | refine goA m_sub ?_ | refine goA m_eql ?_ | refine goA m_neq ?_ | refine goA m_lss ?_ | refine goA m_leq ?_ | refine goA m_gtr ?_ | refine goA m_geq ?_ | refine goA m_mul ?_ | refine goA m_bits ?_
      | refine goA m_nil ?_ | refine goA m_lenA ?_ | refine goA m_pickA ?_ | refine goA m_not ?_ | refine goA m_storeB ?_ | refine goA m_boxA ?_ | refine goA m_allocA ?_ | refine goA m_buildA ?_ | refine goA m_cnvA ?_
      | refine goA m_shlA ?_ | refine goA m_shrA ?_ | refine goA m_quoA ?_ | refine goA m_remA ?_ | refine goA m_neg ?_ | refine goA m_xorE ?_ | refine goA m_func ?_
      | refine goA m_iaSA ?_ | refine goA m_iaOA ?_ | refine goA m_ldOA ?_ | refine goA m_eqBA ?_ | refine goA m_neBA ?_ | refine goA m_eqS ?_ | refine goA m_neS ?_)
    exact .nil ⟨by kernel_rfl, hG.get⟩) : DWp P nt n0 (.seq (.region id ops false) y) Q st := d_rs hl (h ⟨k⟩)
theorem d_regA (k : G) (hl : ops = l.toArray := by rfl) (h : Wr G → Steps P l.toArray l st (fun outs s => seqB nt l outs = true ∧ Q .normal s) := by
    intro hG
    repeat (first
      | refine noA ?_ | refine noB ?_
      | refine goA m_move ?_ | refine goA m_loadA ?_ | refine goA m_set ?_ | refine goA m_ext ?_ | refine goA m_faA ?_
      | refine goA m_add ?_ | refine goA m_sub ?_ | refine goA m_eql ?_ | refine goA m_neq ?_ | refine goA m_lss ?_ | refine goA m_leq ?_ | refine goA m_gtr ?_ | refine goA m_geq ?_ | refine goA m_mul ?_ | refine goA m_bits ?_
      | refine goA m_nil ?_ | refine goA m_lenA ?_ | refine goA m_pickA ?_ | refine goA m_not ?_ | refine goA m_storeB ?_ | refine goA m_boxA ?_ | refine goA m_allocA ?_ | refine goA m_buildA ?_ | refine goA m_cnvA ?_
      | refine goA m_shlA ?_ | refine goA m_shrA ?_ | refine goA m_quoA ?_ | refine goA m_remA ?_ | refine goA m_neg ?_ | refine goA m_xorE ?_ | refine goA m_func ?_
      | refine goA m_iaSA ?_ | refine goA m_iaOA ?_ | refine goA m_ldOA ?_ | refine goA m_eqBA ?_ | refine goA m_neBA ?_ | refine goA m_eqS ?_ | refine goA m_neS ?_)
    exact .nil ⟨by kernel_rfl, hG.get⟩) : DWp P nt n0 (.region id ops false) Q st := d_region hl (h ⟨k⟩)
theorem d_asA [MixP P] (k : G) (hl : ops = l.toArray := by rfl) (h : Wr G → Steps P l.toArray l st (fun outs s => (seqB nt l outs = true ∧ ordB l.toArray outs = true) ∧ DWp P nt n0 y Q s) := by
    intro hG
    repeat (first
      | refine noA ?_ | refine noB ?_
      | refine goA m_move ?_ | refine goA m_loadA ?_ | refine goA m_set ?_ | refine goA m_ext ?_ | refine goA m_faA ?_
      | refine goA m_add ?_ | refine goA m_sub ?_ | refine goA m_eql ?_ | refine goA m_neq ?_ | refine goA m_lss ?_ | refine goA m_leq ?_ | refine goA m_gtr ?_ | refine goA m_geq ?_ | refine goA m_mul ?_ | refine goA m_bits ?_
      | refine goA m_nil ?_ | refine goA m_lenA ?_ | refine goA m_pickA ?_ | refine goA m_not ?_ | refine goA m_storeB ?_ | refine goA m_boxA ?_ | refine goA m_allocA ?_ | refine goA m_buildA ?_ | refine goA m_cnvA ?_
      | refine goA m_shlA ?_ | refine goA m_shrA ?_ | refine goA m_quoA ?_ | refine goA m_remA ?_ | refine goA m_neg ?_ | refine goA m_xorE ?_ | refine goA m_func ?_
      | refine goA m_iaSA ?_ | refine goA m_iaOA ?_ | refine goA m_ldOA ?_ | refine goA m_eqBA ?_ | refine goA m_neBA ?_ | refine goA m_eqS ?_ | refine goA m_neS ?_)
    exact .nil ⟨⟨by kernel_rfl, by kernel_rfl⟩, hG.get⟩) (hk : backB l.toArray = true := by kernel_rfl) : DWp P nt n0 (.seq (.region id ops true) y) Q st := d_as MixP.ok hl hk (h ⟨k⟩)
theorem d_anyA [MixP P] (k : G) (hl : ops = l.toArray := by rfl) (h : Wr G → Steps P l.toArray l st (fun outs s => (seqB nt l outs = true ∧ ordB l.toArray outs = true) ∧ Q .normal s) := by
    intro hG
    repeat (first
      | refine noA ?_ | refine noB ?_
      | refine goA m_move ?_ | refine goA m_loadA ?_ | refine goA m_set ?_ | refine goA m_ext ?_ | refine goA m_faA ?_
      | refine goA m_add ?_ | refine goA m_sub ?_ | refine goA m_eql ?_ | refine goA m_neq ?_ | refine goA m_lss ?_ | refine goA m_leq ?_ | refine goA m_gtr ?_ | refine goA m_geq ?_ | refine goA m_mul ?_ | refine goA m_bits ?_
      | refine goA m_nil ?_ | refine goA m_lenA ?_ | refine goA m_pickA ?_ | refine goA m_not ?_ | refine goA m_storeB ?_ | refine goA m_boxA ?_ | refine goA m_allocA ?_ | refine goA m_buildA ?_ | refine goA m_cnvA ?_
      | refine goA m_shlA ?_ | refine goA m_shrA ?_ | refine goA m_quoA ?_ | refine goA m_remA ?_ | refine goA m_neg ?_ | refine goA m_xorE ?_ | refine goA m_func ?_
      | refine goA m_iaSA ?_ | refine goA m_iaOA ?_ | refine goA m_ldOA ?_ | refine goA m_eqBA ?_ | refine goA m_neBA ?_ | refine goA m_eqS ?_ | refine goA m_neS ?_)
    exact .nil ⟨⟨by kernel_rfl, by kernel_rfl⟩, hG.get⟩) (hk : backB l.toArray = true := by kernel_rfl) : DWp P nt n0 (.region id ops true) Q st := d_any MixP.ok hl hk (h ⟨k⟩)
end
end Go.Proofs.Ythpnlnjdmlbnaaa
