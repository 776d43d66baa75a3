/- Parts of the proof: D9, DA, DB, DC, DD, DE, DI. No condition. -/
import Derived.Test.YthpnlnjdmlbnaaaMW1
/- Regions on data: in any order that is left open. No condition. -/
namespace Go.Proofs.Ythpnlnjdmlbnaaa
open Go.RowKit
set_option linter.unusedSimpArgs false
set_option linter.unusedVariables false

def Env.put (env : Env) : Option Nat → DV → Env
  | none, _ => env
  | some k, d => (k, d) :: env
def Sto.drop : Sto → Nat → Sto
  | [], _ => []
  | (j, d) :: l, k => cond (Nat.beq j k) (Sto.drop l k) ((j, d) :: Sto.drop l k)
def Sto.upd (sto : Sto) : List (Nat × Option Ob) → Sto
  | [] => sto
  | (s, some ob) :: l => (s, ob) :: Sto.upd sto l
  | (s, none) :: l => (Sto.upd sto l).drop s
/-- what an update says of an object -/
def updGet : List (Nat × Option Ob) → Nat → Option (Option Ob)
  | [], _ => none
  | (j, x) :: l, s => cond (Nat.beq s j) (some x) (updGet l s)

theorem Env.put_get (env : Env) (k : Nat) (d : DV) (s : Nat) : (env.put (some k) d).get s = if s = k then d else env.get s := by
  exact Env.get_cons _ _ _ _
theorem Sto.drop_get (sto : Sto) (k s : Nat) : (sto.drop k).get s = if s = k then none else sto.get s := by
  induction sto with
  | nil => simp [Sto.drop, Sto.get_nil]
  | cons p l ih =>
    obtain ⟨j, d⟩ := p
    rw [Sto.drop, cond_beq]
    by_cases hj : j = k
    · rw [if_pos hj, ih]
      simp only [Sto.get_cons]
      by_cases hs : s = k
      · simp [hs]
      · rw [if_neg hs, if_neg hs, if_neg (by omega)]
    · rw [if_neg hj]
      simp only [Sto.get_cons, ih]
      by_cases hs : s = j
      · rw [if_pos hs, if_neg (by omega), if_pos hs]
      · rw [if_neg hs, if_neg hs]
theorem Sto.upd_get (sto : Sto) (us : List (Nat × Option Ob)) (s : Nat) : (sto.upd us).get s = (updGet us s).getD (sto.get s) := by
  induction us with
  | nil => rfl
  | cons p l ih =>
    obtain ⟨j, x⟩ := p
    cases x with
    | none =>
      simp only [Sto.upd, updGet, cond_beq, Sto.drop_get, ih]
      by_cases hs : s = j <;> simp [hs]
    | some ob =>
      simp only [Sto.upd, updGet, cond_beq, Sto.get_cons, ih]
      by_cases hs : s = j <;> simp [hs]
theorem updGet_none {us : List (Nat × Option Ob)} {s : Nat} (h : s ∉ us.map (·.1)) : updGet us s = none := by
  induction us with
  | nil => rfl
  | cons p l ih =>
    obtain ⟨j, x⟩ := p
    simp only [List.map_cons, List.mem_cons, not_or] at h
    simp only [updGet, cond_beq, if_neg h.1, ih h.2]
theorem updGet_some {us : List (Nat × Option Ob)} {s : Nat} {x : Option Ob} (h : updGet us s = some x) : (s, x) ∈ us := by
  induction us with
  | nil => cases h
  | cons p l ih =>
    obtain ⟨j, y⟩ := p
    simp only [updGet, cond_beq] at h
    split at h
    · rename_i hs
      injection h with h
      subst hs
      subst h
      simp
    · exact List.mem_cons_of_mem _ (ih h)
theorem updGet_in {us : List (Nat × Option Ob)} {s : Nat} (h : s ∈ us.map (·.1)) : ∃ x, updGet us s = some x := by
  induction us with
  | nil => cases h
  | cons p l ih =>
    obtain ⟨j, y⟩ := p
    simp only [updGet, cond_beq]
    by_cases hs : s = j
    · exact ⟨y, by rw [if_pos hs]⟩
    · rw [if_neg hs]
      exact ih (by simpa [hs] using h)

/-- what an operation leaves that is not done -/
def Off (out : Out) : Prop := out = ⟨.any, [], [], 0⟩ ∨ out = ⟨.tup [], [], [], 0⟩
theorem Off.rep {out : Out} (h : Off out) (m : Mem) : Rep m undef out.d := by
  rcases h with rfl | rfl
  · exact .any _
  · exact .tup (vs := []) rfl fun i v d hv => by simp at hv
theorem Off.us {out : Out} (h : Off out) : out.us = [] := by rcases h with rfl | rfl <;> rfl
/-- an operation's step: with its guard -/
def StepOK (P : Program) (ops : Array Oper) (o : Oper) (env : Env) (sto : Sto) (nxt : Nat) (out : Out) : Prop :=
  match o.guard with
  | none => OpOK P o env sto nxt out
  | some (g, b) => ∃ t, (ops[g]?).bind (·.dst) = some t ∧ ((env.get t = .lit (.bool b) ∧ OpOK P o env sto nxt out) ∨ ((env.get t = .lit (.bool (!b)) ∨ env.get t = .tup []) ∧ Off out) ∨ ∃ c : Bool, env.get t = .lit (.bool c) ∧ out.us = [] ∧ out.n = 0 ∧ (c = b → OpOK P o env sto nxt out) ∧ (c = (!b) → out.d = .any))

inductive Run (P : Program) (ops : Array Oper) : List Oper → Env → Sto → Nat → List (Out × Nat) → Env → Sto → Nat → Prop
  | nil {env : Env} {sto : Sto} {nxt : Nat} : Run P ops [] env sto nxt [] env sto nxt
  | cons {o : Oper} {rest : List Oper} {env : Env} {sto : Sto} {nxt : Nat} {out : Out} {outs : List (Out × Nat)} {env' : Env} {sto' : Sto} {nxt' : Nat} : StepOK P ops o env sto nxt out →
      Run P ops rest (env.put o.dst out.d) (sto.upd out.us) (nxt + out.n) outs env' sto' nxt' → Run P ops (o :: rest) env sto nxt ((out, nxt) :: outs) env' sto' nxt'

structure DSt where
  env : Env
  sto : Sto
  nxt : Nat

/-- the frame of a call on data: where it began, what is forbidden, how many slots it has -/
structure Cx where
  F : Fm
  M : Nat → Prop
  nt : Nat
  n0 : Nat
  σ0 : Nat → Option (Option Ent)

def EntExt (σ σ' : Nat → Option (Option Ent)) : Prop := ∀ s x, σ s = some x → ∃ x', σ' s = some x' ∧ ∀ e', x' = some e' → ∃ e, x = some e ∧ e'.esz = e.esz ∧ e'.blk = e.blk
theorem EntExt.trans {a b c : Nat → Option (Option Ent)} (h : EntExt a b) (k : EntExt b c) : EntExt a c := fun s x hx => by
  obtain ⟨x1, h1, h2⟩ := h s x hx
  obtain ⟨x2, k1, k2⟩ := k s x1 h1
  refine ⟨x2, k1, fun e' he' => ?_⟩
  obtain ⟨e1, y1, y2, y3⟩ := k2 e' he'
  obtain ⟨e0, z1, z2, z3⟩ := h2 e1 y1
  exact ⟨e0, z1, y2.trans z2, y3.trans z3⟩

structure SimM (C : Cx) (env : Nat → DV) (sto : Nat → Option Ob) (m : Mem) (a : Act) : Prop where
  inv : Inv C.F m
  M : m.M = C.M
  size : a.tmps.size = C.nt
  defers : a.defers = []
  org : EntExt C.σ0 m.σ
  lim0 : ∀ s, C.n0 ≤ s → C.σ0 s = none
  env : ∀ k, Rep m (a.tmps.getD k undef) (env k)
  sto : ∀ s ob, sto s = some ob → Holds m s ob

def Sim (C : Cx) (st : DSt) (a : Act) (w : World) : Prop := ∃ m : Mem, m.w = w ∧ SimM C st.env.get st.sto.get m a ∧ ∀ s, st.nxt ≤ s → m.σ s = none

section
variable {P : Program} {C : Cx}

theorem put_getD {a : Act} {d : Option Nat} {v : Value} {k : Nat} : (a.put d v).tmps.getD k undef = if d = some k ∧ k < a.tmps.size then v else a.tmps.getD k undef := by
  cases d with
  | none => simp [Act.put]
  | some j =>
    simp only [Act.put, Array.getD_eq_getD_getElem?, Array.getElem?_setIfInBounds, Option.some.injEq]
    by_cases hj : j = k
    · subst hj
      by_cases hl : j < a.tmps.size
      · simp [hl]
      · simp [hl]
    · simp [hj]

/-- one step -/
theorem SimM.step {ops : Array Oper} {o : Oper} {env : Env} {sto : Sto} {nxt : Nat} {out : Out} (hs : StepOK P ops o env sto nxt out) {E : Nat → DV} {S : Nat → Option Ob} {m : Mem} {a : Act} (hm : SimM C E S m a)
    (hE : ∀ x ∈ o.op.operands, ∀ t, x = .tmp t → E t = env.get t) (hG : ∀ g b t, o.guard = some (g, b) → (ops[g]?).bind (·.dst) = some t → E t = env.get t) (hS : ∀ s ∈ out.rs, S s = sto.get s) (hF : Fresh m nxt out.n) (hd : ∀ d, o.dst = some d → d < C.nt)
    {K : Act → World → Prop} {Q : Exit → Act → World → Prop}
    (hK : ∀ a' m', SimM C (fun k => if o.dst = some k then out.d else E k) (fun s => (updGet out.us s).getD (S s)) m' a' → Loc (out.us.map (·.1)) m m' → K a' m'.w) :
    if Region.wanted o (yielded ops a.tmps) = true then Oper.wp P o a m.w K Q else K (a.put o.dst undef) m.w := by
  have fin : OpOK P o env sto nxt out → Oper.wp P o a m.w K Q := fun ho => by
    refine ho C.F m a hm.inv (fun x hx => opd_rep fun t ht => ?_) (fun s hs ob hob => hm.sto s ob ((hS s hs).trans hob)) hF K Q fun v m' h1 h2 h3 h4 => hK (a.put o.dst v) m' ⟨h1, h2.M.trans hm.M, by rw [put_size]; exact hm.size, by rw [put_defers']; exact hm.defers, hm.org.trans h2.ent, hm.lim0, fun k => ?_, fun s ob hs => ?_⟩ h2
    · rw [← hE x hx t ht]; exact hm.env t
    · rw [put_getD]
      by_cases hk : o.dst = some k
      · have := hd k hk
        rw [if_pos ⟨hk, by rw [hm.size]; exact this⟩, if_pos hk]
        exact h3
      · rw [if_neg (fun h => hk h.1), if_neg hk]
        exact (hm.env k).ext h2.toExt
    · cases hu : updGet out.us s with
      | some x =>
        rw [hu] at hs
        have := h4 _ (updGet_some hu)
        simp only [Option.getD_some] at hs
        subst hs
        exact this
      | none =>
        rw [hu] at hs
        refine Holds.loc hm.inv h2 (fun hin => ?_) (hm.sto s ob hs)
        obtain ⟨x, hx⟩ := updGet_in hin
        rw [hu] at hx; cases hx
  unfold StepOK at hs
  cases hg : o.guard with
  | none =>
    rw [hg] at hs
    rw [if_pos (by unfold Region.wanted; rw [hg])]
    exact fin hs
  | some p =>
    obtain ⟨g, b⟩ := p
    rw [hg] at hs
    obtain ⟨t, ht, hs⟩ := hs
    have hy : ∀ c : Bool, env.get t = .lit (.bool c) → yielded ops a.tmps g = some c := fun c hc => by
      have hr := hm.env t
      rw [hG g b t hg ht, hc] at hr
      have hv := hr.lit_inv
      unfold yielded
      rw [ht, Option.bind_some]
      rw [Array.getD_eq_getD_getElem?] at hv
      cases hh : a.tmps[t]? with
      | none => rw [hh] at hv; simp [undef] at hv
      | some u => rw [hh] at hv; simp only [Option.getD_some] at hv; subst hv; rfl
    have hn : env.get t = .tup [] → yielded ops a.tmps g = none := fun hc => by
      have hr := hm.env t
      rw [hG g b t hg ht, hc] at hr
      obtain ⟨vs, hv, hl, _⟩ := hr.tup_inv
      unfold yielded
      rw [ht, Option.bind_some]
      rw [Array.getD_eq_getD_getElem?] at hv
      cases hh : a.tmps[t]? with
      | none => rfl
      | some u => rw [hh] at hv; simp only [Option.getD_some] at hv; subst hv; rfl
    rcases hs with ⟨h1, h2⟩ | ⟨h1, h2⟩ | ⟨c, h1, hu, hn, hy1, hy2⟩
    · rw [if_pos (by unfold Region.wanted; rw [hg]; dsimp only; rw [hy b h1]; simp)]
      exact fin h2
    · have hw : Region.wanted o (yielded ops a.tmps) = false := by
        unfold Region.wanted
        rw [hg]
        dsimp only
        rcases h1 with h1 | h1
        · rw [hy _ h1]; cases b <;> rfl
        · rw [hn h1]; rfl
      rw [if_neg (by rw [hw]; decide)]
      refine hK _ m ⟨hm.inv, hm.M, by rw [put_size]; exact hm.size, by rw [put_defers']; exact hm.defers, hm.org, hm.lim0, fun k => ?_, fun s ob hs => ?_⟩ (by rw [h2.us]; exact Loc.refl _ _)
      · rw [put_getD]
        by_cases hk : o.dst = some k
        · rw [if_pos hk]
          split
          · exact h2.rep m
          · rename_i hx
            exact absurd ⟨hk, by rw [hm.size]; exact hd k hk⟩ hx
        · rw [if_neg (fun h => hk h.1), if_neg hk]; exact hm.env k
      · rw [h2.us] at hs; exact hm.sto s ob hs
    · by_cases hcb : c = b
      · subst hcb
        rw [if_pos (by unfold Region.wanted; rw [hg]; dsimp only; rw [hy c h1]; simp)]
        exact fin (hy1 rfl)
      · have hcn : c = (!b) := by cases c <;> cases b <;> simp_all
        have hda := hy2 hcn
        subst hcn
        rw [if_neg (by unfold Region.wanted; rw [hg]; dsimp only; rw [hy _ h1]; cases b <;> simp)]
        obtain ⟨d, us, rs, n⟩ := out
        dsimp only at hu hda
        subst hu
        subst hda
        refine hK _ m ⟨hm.inv, hm.M, by rw [put_size]; exact hm.size, by rw [put_defers']; exact hm.defers, hm.org, hm.lim0, fun k => ?_, hm.sto⟩ (Loc.refl _ _)
        rw [put_getD]
        by_cases hk : o.dst = some k
        · rw [if_pos hk]; exact .any _
        · rw [if_neg (fun h => hk h.1), if_neg hk]; exact hm.env k

theorem SimM.eq {E E' : Nat → DV} {S S' : Nat → Option Ob} {m : Mem} {a : Act} (h : SimM C E S m a) (hE : ∀ k, E' k = E k) (hS : ∀ s, S' s = S s) : SimM C E' S' m a := by
  rw [funext hE, funext hS]; exact h

/-- what is checked of a region that runs in its order -/
def seqB (nt : Nat) : List Oper → List (Out × Nat) → Bool
  | o :: l, (out, nx) :: r => (match o.dst with | some d => decide (d < nt) | none => true) && (out.us.all fun p => decide (p.1 < nx + out.n)) && seqB nt l r
  | [], [] => true
  | _, _ => false

theorem run_seq {ops : Array Oper} {l : List Oper} {env env' : Env} {sto sto' : Sto} {nxt nxt' : Nat} {outs : List (Out × Nat)} (h : Run P ops l env sto nxt outs env' sto' nxt') (hb : seqB C.nt l outs = true) {Q : Exit → Act → World → Prop}
    (hQ : ∀ a w, Sim C ⟨env', sto', nxt'⟩ a w → Q .normal a w) : ∀ a w, Sim C ⟨env, sto, nxt⟩ a w → wpList P ops Q l a w := by
  induction h with
  | nil => exact hQ
  | @cons o rest env sto nxt out outs env' sto' nxt' hs _ ih =>
    simp only [seqB, Bool.and_eq_true] at hb
    obtain ⟨⟨b1, b2⟩, b3⟩ := hb
    intro a w ⟨m, hw, hm, hF⟩
    subst hw
    refine wpList_step fun K hK => hm.step hs (fun _ _ _ _ => rfl) (fun _ _ _ _ _ => rfl) (fun _ _ => rfl) (fun s h1 _ => hF s h1) (fun d hd => by rw [hd] at b1; simpa using b1) fun a' m' h1 h2 => hK a' m'.w (ih b3 hQ a' m'.w ⟨m', rfl, h1.eq (fun k => ?_) fun s => Sto.upd_get _ _ _, fun s hs => ?_⟩)
    · cases hd : o.dst with
      | none => simp [Env.put]
      | some d => simp only [Env.put_get, Option.some.injEq]; by_cases hk : d = k
                  · rw [if_pos hk, if_pos hk.symm]
                  · rw [if_neg hk, if_neg (Ne.symm hk)]
    · rw [h2.same s fun hin => ?_]
      · exact hF s (by dsimp only at hs ⊢; omega)
      · obtain ⟨p, hp, rfl⟩ := List.mem_map.1 hin
        have := List.all_eq_true.1 b2 p hp
        simp only [decide_eq_true_eq] at this
        dsimp only at hs
        omega

def opTmps (o : Oper) : List Nat := o.op.operands.toList.filterMap fun | .tmp t => some t | _ => none
def meets (x y : List Nat) : Bool := x.any fun k => y.contains k
/-- two operations that may not change places -/
def clash (ops : Array Oper) (o p : Oper) (x y : Out × Nat) : Bool :=
  let t := fun (o : Oper) => o.dst.toList
  let g := fun (o : Oper) => (match o.guard with | some (g, _) => ((ops[g]?).bind (·.dst)).toList | none => [])
  let W := fun (x : Out × Nat) => x.1.us.map (·.1) ++ List.range' x.2 x.1.n
  meets (t o) (opTmps p ++ g p ++ t p) || meets (t p) (opTmps o ++ g o) || meets (W x) (y.1.rs ++ W y) || meets (W y) x.1.rs
/-- transitive waiting, by steps -/
def reach (ops : Array Oper) : Nat → Nat → Nat → Bool
  | 0, _, _ => false
  | n + 1, j, i => (deps ops j).any fun d => d == i || (decide (i < d) && reach ops n d i)
def ordB (ops : Array Oper) (outs : List (Out × Nat)) : Bool :=
  (List.range ops.size).all fun j => (List.range j).all fun i => match ops[i]?, ops[j]?, outs[i]?, outs[j]? with
    | some o, some p, some x, some y => !clash ops o p x y || reach ops ops.size j i
    | _, _, _, _ => false
end
end Go.Proofs.Ythpnlnjdmlbnaaa
/- Regions on data: in any order that is left open. No condition. -/
namespace Go.Proofs.Ythpnlnjdmlbnaaa
open Go.RowKit
set_option linter.unusedSimpArgs false
set_option linter.unusedVariables false

abbrev Outs := List (Out × Nat)
def dstAt (l : List Oper) (i : Nat) : Option Nat := (l[i]?).bind (·.dst)
def dAt (outs : Outs) (i : Nat) : DV := match outs[i]? with | some x => x.1.d | none => .any
def usAt (outs : Outs) (i : Nat) : List (Nat × Option Ob) := match outs[i]? with | some x => x.1.us | none => []
/-- a slot, when the operations L have run -/
def lookE (l : List Oper) (outs : Outs) (E : Nat → DV) (L : Nat → Bool) (t : Nat) : Nat → DV
  | 0 => E t
  | i + 1 => if L i = true ∧ dstAt l i = some t then dAt outs i else lookE l outs E L t i
/-- an object, when the operations L have run -/
def lookS (outs : Outs) (S : Nat → Option Ob) (L : Nat → Bool) (s : Nat) : Nat → Option Ob
  | 0 => S s
  | i + 1 => if L i = true then (updGet (usAt outs i) s).getD (lookS outs S L s i) else lookS outs S L s i

theorem lookE_cons {o : Oper} {l : List Oper} {x : Out × Nat} {outs : Outs} {E : Nat → DV} {t i : Nat} :
    lookE (o :: l) (x :: outs) E (fun _ => true) t (i + 1) = lookE l outs (fun k => if o.dst = some k then x.1.d else E k) (fun _ => true) t i := by
  induction i with
  | zero => simp [lookE, dstAt, dAt]
  | succ i ih =>
    rw [lookE, ih]
    conv => rhs; rw [lookE]
    simp only [dstAt, dAt, List.getElem?_cons_succ]
theorem lookS_cons {x : Out × Nat} {outs : Outs} {S : Nat → Option Ob} {s i : Nat} :
    lookS (x :: outs) S (fun _ => true) s (i + 1) = lookS outs (fun k => (updGet x.1.us k).getD (S k)) (fun _ => true) s i := by
  induction i with
  | zero => simp [lookS, usAt]
  | succ i ih =>
    rw [lookS, ih]
    conv => rhs; rw [lookS]
    simp only [usAt, List.getElem?_cons_succ]

theorem lookE_agree {l : List Oper} {outs : Outs} {E : Nat → DV} {L : Nat → Bool} {t i n : Nat} (hin : i ≤ n) (h1 : ∀ j, j < i → dstAt l j = some t → L j = true) (h2 : ∀ j, i ≤ j → j < n → dstAt l j = some t → L j = false) :
    lookE l outs E L t n = lookE l outs E (fun _ => true) t i := by
  induction n with
  | zero => obtain rfl : i = 0 := by omega
            rfl
  | succ n ih =>
    by_cases hi : i = n + 1
    · subst hi
      clear ih h2
      have : ∀ k, k ≤ n + 1 → lookE l outs E L t k = lookE l outs E (fun _ => true) t k := by
        intro k
        induction k with
        | zero => intro _; rfl
        | succ k ih =>
          intro hk
          rw [lookE, lookE, ih (by omega)]
          by_cases hd : dstAt l k = some t
          · simp [hd, h1 k (by omega) hd]
          · simp [hd]
      exact this _ (Nat.le_refl _)
    · rw [lookE, ih (by omega) fun j h h' => h2 j h (by omega)]
      by_cases hd : dstAt l n = some t
      · simp [h2 n (by omega) (by omega) hd]
      · simp [hd]
theorem lookS_agree {outs : Outs} {S : Nat → Option Ob} {L : Nat → Bool} {s i n : Nat} (hin : i ≤ n) (h1 : ∀ j, j < i → s ∈ (usAt outs j).map (·.1) → L j = true) (h2 : ∀ j, i ≤ j → j < n → s ∈ (usAt outs j).map (·.1) → L j = false) :
    lookS outs S L s n = lookS outs S (fun _ => true) s i := by
  induction n with
  | zero => obtain rfl : i = 0 := by omega
            rfl
  | succ n ih =>
    by_cases hi : i = n + 1
    · subst hi
      clear ih h2
      have : ∀ k, k ≤ n + 1 → lookS outs S L s k = lookS outs S (fun _ => true) s k := by
        intro k
        induction k with
        | zero => intro _; rfl
        | succ k ih =>
          intro hk
          rw [lookS, lookS, ih (by omega)]
          by_cases hd : s ∈ (usAt outs k).map (·.1)
          · simp [h1 k (by omega) hd]
          · simp [updGet_none hd]
      exact this _ (Nat.le_refl _)
    · rw [lookS, ih (by omega) fun j h h' => h2 j h (by omega)]
      by_cases hd : s ∈ (usAt outs n).map (·.1)
      · simp [h2 n (by omega) (by omega) hd]
      · simp [updGet_none hd]
theorem lookE_congr {l : List Oper} {outs : Outs} {E : Nat → DV} {L L' : Nat → Bool} {t n : Nat} (h : ∀ j, j < n → dstAt l j = some t → L' j = L j) : lookE l outs E L' t n = lookE l outs E L t n := by
  induction n with
  | zero => rfl
  | succ n ih =>
    rw [lookE, lookE, ih fun j hj => h j (by omega)]
    by_cases hd : dstAt l n = some t
    · simp [hd, h n (by omega) hd]
    · simp [hd]
theorem lookS_congr {outs : Outs} {S : Nat → Option Ob} {L L' : Nat → Bool} {s n : Nat} (h : ∀ j, j < n → s ∈ (usAt outs j).map (·.1) → L' j = L j) : lookS outs S L' s n = lookS outs S L s n := by
  induction n with
  | zero => rfl
  | succ n ih =>
    rw [lookS, lookS, ih fun j hj => h j (by omega)]
    by_cases hd : s ∈ (usAt outs n).map (·.1)
    · simp [h n (by omega) hd]
    · simp [updGet_none hd]
theorem lookE_self {l : List Oper} {outs : Outs} {E : Nat → DV} {L : Nat → Bool} {t i n : Nat} (hin : i < n) (hi : L i = true) (hd : dstAt l i = some t) (h2 : ∀ j, i < j → j < n → dstAt l j = some t → L j = false) : lookE l outs E L t n = dAt outs i := by
  induction n with
  | zero => omega
  | succ n ih =>
    rw [lookE]
    by_cases hn : i = n
    · subst hn; rw [if_pos ⟨hi, hd⟩]
    · rw [if_neg (fun h => by rw [h2 n (by omega) (by omega) h.2] at h; cases h.1)]
      exact ih (by omega) fun j h h' => h2 j h (by omega)
theorem lookS_self {outs : Outs} {S : Nat → Option Ob} {L : Nat → Bool} {s i n : Nat} {x : Option Ob} (hin : i < n) (hi : L i = true) (hd : updGet (usAt outs i) s = some x) (h2 : ∀ j, i < j → j < n → s ∈ (usAt outs j).map (·.1) → L j = false) : lookS outs S L s n = x := by
  induction n with
  | zero => omega
  | succ n ih =>
    rw [lookS]
    by_cases hn : i = n
    · subst hn; rw [if_pos hi, hd]; rfl
    · have := ih (by omega) fun j h h' => h2 j h (by omega)
      by_cases hm : s ∈ (usAt outs n).map (·.1)
      · rw [if_neg (by rw [h2 n (by omega) (by omega) hm]; simp)]; exact this
      · rw [updGet_none hm]; simp [this]

section
variable {P : Program} {C : Cx} {ops : Array Oper}

theorem run_at {l : List Oper} {env env' : Env} {sto sto' : Sto} {nxt nxt' : Nat} {outs : Outs} (h : Run P ops l env sto nxt outs env' sto' nxt') (hb : seqB C.nt l outs = true) :
    outs.length = l.length ∧ nxt ≤ nxt' ∧ (∀ t, env'.get t = lookE l outs env.get (fun _ => true) t l.length) ∧ (∀ s, sto'.get s = lookS outs sto.get (fun _ => true) s l.length) ∧
    ∀ i o, l[i]? = some o → ∃ out nx ei si, outs[i]? = some (out, nx) ∧ StepOK P ops o ei si nx out ∧ (∀ t, ei.get t = lookE l outs env.get (fun _ => true) t i) ∧ (∀ s, si.get s = lookS outs sto.get (fun _ => true) s i) ∧ nxt ≤ nx ∧ nx + out.n ≤ nxt' ∧
      (∀ d, o.dst = some d → d < C.nt) ∧ (∀ p ∈ out.us, p.1 < nx + out.n) ∧ ∀ j out' nx', j < i → outs[j]? = some (out', nx') → nx' + out'.n ≤ nx := by
  induction h with
  | nil => exact ⟨rfl, Nat.le_refl _, fun _ => rfl, fun _ => rfl, fun i o h => by simp at h⟩
  | @cons o rest env sto nxt out outs env' sto' nxt' hs hr ih =>
    simp only [seqB, Bool.and_eq_true] at hb
    obtain ⟨⟨b1, b2⟩, b3⟩ := hb
    obtain ⟨i1, i2, i3, i4, i5⟩ := ih b3
    have hE : (fun k => if o.dst = some k then out.d else env.get k) = (env.put o.dst out.d).get := funext fun k => by
      cases hd : o.dst with
      | none => simp [Env.put]
      | some d =>
        simp only [Env.put_get, Option.some.injEq]
        by_cases hk : d = k
        · rw [if_pos hk, if_pos hk.symm]
        · rw [if_neg hk, if_neg (Ne.symm hk)]
    have hS : (fun k => (updGet out.us k).getD (sto.get k)) = (sto.upd out.us).get := funext fun k => (Sto.upd_get _ _ _).symm
    refine ⟨by simp [i1], by omega, fun t => ?_, fun s => ?_, fun i o' ho => ?_⟩
    · rw [i3, List.length_cons, lookE_cons, hE]
    · rw [i4, List.length_cons, lookS_cons, hS]
    · cases i with
      | zero =>
        simp only [List.getElem?_cons_zero, Option.some.injEq] at ho
        subst ho
        exact ⟨out, nxt, env, sto, rfl, hs, fun _ => rfl, fun _ => rfl, Nat.le_refl _, i2, fun d hd => by rw [hd] at b1; simpa using b1, fun p hp => by simpa using List.all_eq_true.1 b2 p hp, fun j _ _ hj => by omega⟩
      | succ i =>
        obtain ⟨out1, nx, ei, si, k1, k2, k3, k4, k5, k6, k7, k8, k9⟩ := i5 i o' (by simpa using ho)
        refine ⟨out1, nx, ei, si, by simpa using k1, k2, fun t => ?_, fun s => ?_, by omega, k6, k7, k8, fun j out' nx' hj hj' => ?_⟩
        · rw [k3, lookE_cons, hE]
        · rw [k4, lookS_cons, hS]
        · cases j with
          | zero =>
            simp only [List.getElem?_cons_zero, Option.some.injEq, Prod.mk.injEq] at hj'
            obtain ⟨rfl, rfl⟩ := hj'
            exact k5
          | succ j => exact k9 j out' nx' (by omega) (by simpa using hj')

theorem meets_iff {x y : List Nat} {k : Nat} (hx : k ∈ x) (hy : k ∈ y) : meets x y = true := List.any_eq_true.2 ⟨k, hx, by simpa using hy⟩

theorem reach_in {L : Nat → Bool} (hc : ∀ i, L i = true → ∀ d ∈ deps ops i, L d = true) {i : Nat} : ∀ (n j : Nat), (∀ d ∈ deps ops j, L d = true) → reach ops n j i = true → L i = true := by
  intro n
  induction n with
  | zero => intro j _ h; cases h
  | succ n ih =>
    intro j hd h
    simp only [reach, List.any_eq_true, Bool.or_eq_true, Bool.and_eq_true] at h
    obtain ⟨d, hd1, h⟩ := h
    rcases h with h | ⟨_, h⟩
    · have : d = i := by simpa using h
      exact this ▸ hd d hd1
    · exact ih d (hc d (hd d hd1)) h

theorem ordB_spec {outs : Outs} (h : ordB ops outs = true) {i j : Nat} (hij : i < j) {o p : Oper} {x y : Out × Nat} (ho : ops[i]? = some o) (hp : ops[j]? = some p) (hx : outs[i]? = some x) (hy : outs[j]? = some y) (hc : clash ops o p x y = true) : reach ops ops.size j i = true := by
  have hj : j < ops.size := by
    rcases Nat.lt_or_ge j ops.size with h' | h'
    · exact h'
    · rw [Array.getElem?_eq_none h'] at hp; cases hp
  unfold ordB at h
  rw [List.all_eq_true] at h
  have h1 := h j (List.mem_range.2 hj)
  rw [List.all_eq_true] at h1
  have h2 := h1 i (List.mem_range.2 hij)
  simp only [ho, hp, hx, hy, hc, Bool.not_true, Bool.false_or] at h2
  exact h2

theorem opTmps_mem {o : Oper} {t : Nat} (h : .tmp t ∈ o.op.operands) : t ∈ opTmps o := List.mem_filterMap.2 ⟨.tmp t, by simpa using h, rfl⟩

/-- the law of a region whose order is drawn -/
theorem run_any {env env' : Env} {sto sto' : Sto} {nxt nxt' : Nat} {outs : Outs} (h : Run P ops ops.toList env sto nxt outs env' sto' nxt') (hb : seqB C.nt ops.toList outs = true) (hk : backB ops = true) (hord : ordB ops outs = true) {Q : Exit → Act → World → Prop}
    (hQ : ∀ a w, Sim C ⟨env', sto', nxt'⟩ a w → Q .normal a w) : ∀ fuel (L : Array Bool) a w, L.size = ops.size → cnt L ≤ fuel → (∀ i, L.getD i false = true → ∀ d ∈ deps ops i, L.getD d false = true) →
      (∃ m : Mem, m.w = w ∧ SimM C (fun t => lookE ops.toList outs env.get (L.getD · false) t ops.size) (fun s => lookS outs sto.get (L.getD · false) s ops.size) m a ∧ ∀ s, nxt ≤ s → (∀ j, j < ops.size → L.getD j false = true → s ∉ (usAt outs j).map (·.1)) → m.σ s = none) →
      wpAny P .any ops Q fuel L a w := by
  have hlen : ops.toList.length = ops.size := Array.length_toList
  obtain ⟨r1, r2, r3, r4, r5⟩ := run_at (C := C) h hb
  rw [hlen] at r1 r3 r4
  have usAt_eq : ∀ {i out nx}, outs[i]? = some (out, nx) → usAt outs i = out.us := fun {i out nx} h => by unfold usAt; rw [h]
  have dst_eq : ∀ {i o}, ops[i]? = some o → dstAt ops.toList i = o.dst := fun {i o} h => by unfold dstAt; rw [Array.getElem?_toList, h]; rfl
  have get_o : ∀ {i}, i < ops.size → ∃ o, ops[i]? = some o := fun {i} h => ⟨ops[i], by simp [h]⟩
  have fin : ∀ L a w, L.size = ops.size → (∃ m : Mem, m.w = w ∧ SimM C (fun t => lookE ops.toList outs env.get (L.getD · false) t ops.size) (fun s => lookS outs sto.get (L.getD · false) s ops.size) m a ∧ ∀ s, nxt ≤ s → (∀ j, j < ops.size → L.getD j false = true → s ∉ (usAt outs j).map (·.1)) → m.σ s = none) →
      Region.ready .any ops L = [] → Q .normal a w := fun L a w hl ⟨m, hw, hm, hF⟩ hr => by
    have hall := ready_nil_all hk hl hr
    refine hQ a w ⟨m, hw, hm.eq (fun t => ?_) fun s => ?_, fun s hs => hF s (by dsimp only at hs; omega) fun j hj _ hin => ?_⟩
    · dsimp only
      rw [r3]
      exact (lookE_agree (Nat.le_refl _) (fun j hj _ => hall j hj) fun j h1 h2 => by omega).symm
    · dsimp only
      rw [r4]
      exact (lookS_agree (Nat.le_refl _) (fun j hj _ => hall j hj) fun j h1 h2 => by omega).symm
    · obtain ⟨o, ho⟩ := get_o hj
      obtain ⟨out, nx, ei, si, k1, _, _, _, _, k6, _, k8, _⟩ := r5 j o (by rw [Array.getElem?_toList]; exact ho)
      rw [usAt_eq k1] at hin
      obtain ⟨p, hp, rfl⟩ := List.mem_map.1 hin
      have := k8 p hp
      dsimp only at hs
      omega
  intro fuel
  induction fuel with
  | zero =>
    intro L a w hl hc hcl hm
    have hr : Region.ready .any ops L = [] := by
      rw [List.eq_nil_iff_forall_not_mem]
      intro i hi
      have := cnt_set (mem_ready.1 hi).1
      omega
    exact ⟨hr, fin L a w hl hm hr⟩
  | succ fuel ih =>
    intro L a w hl hc hcl hm
    refine ⟨fin L a w hl hm, fun i hi => ?_⟩
    obtain ⟨hun, o, ho, hdep⟩ := mem_ready.1 hi
    obtain ⟨m, hw, hm, hF⟩ := hm
    subst hw
    have hlt : i < ops.size := by
      rcases Nat.lt_or_ge i ops.size with h' | h'
      · exact h'
      · rw [Array.getElem?_eq_none h'] at ho; cases ho
    have hun' : L.getD i false = false := by
      have hi' : i < L.size := by omega
      simpa [Array.getD, hi'] using hun
    have hdi : ∀ d ∈ deps ops i, L.getD d false = true := fun d hd => by
      unfold deps at hd
      rw [ho] at hd
      simp only [Option.map_some, Option.getD_some, List.mem_map, List.mem_filter] at hd
      obtain ⟨e, ⟨he, hbn⟩, rfl⟩ := hd
      exact hdep e (by simpa using he) hbn
    obtain ⟨out, nx, ei, si, k1, k2, k3, k4, k5, k6, k7, k8, k9⟩ := r5 i o (by rw [Array.getElem?_toList]; exact ho)
    -- those that clash with i
    have early : ∀ j p y, j < i → ops[j]? = some p → outs[j]? = some y → clash ops p o y (out, nx) = true → L.getD j false = true := fun j p y hj hp hy hcl' =>
      reach_in (L := (L.getD · false)) hcl _ i hdi (ordB_spec hord hj hp ho hy k1 hcl')
    have late : ∀ j p y, i < j → ops[j]? = some p → outs[j]? = some y → clash ops o p (out, nx) y = true → L.getD j false = false := fun j p y hj hp hy hcl' => by
      cases hLj : L.getD j false with
      | false => rfl
      | true =>
        have := reach_in (L := (L.getD · false)) hcl _ j (hcl j hLj) (ordB_spec hord hj ho hp k1 hy hcl')
        rw [show L.getD i false = true from this] at hun'; cases hun'
    have get_x : ∀ {j}, j < ops.size → ∃ p y, ops[j]? = some p ∧ outs[j]? = some y := fun {j} hj => by
      obtain ⟨p, hp⟩ := get_o hj
      exact ⟨p, outs[j]'(by omega), hp, List.getElem?_eq_getElem (by omega)⟩
    have slot : ∀ t, t ∈ opTmps o ++ (match o.guard with | some (g, _) => ((ops[g]?).bind (·.dst)).toList | none => []) → lookE ops.toList outs env.get (L.getD · false) t ops.size = ei.get t := fun t ht => by
      rw [k3]
      refine lookE_agree (by omega) (fun j hj hd => ?_) fun j h1 h2 hd => ?_
      · obtain ⟨p, y, hp, hy⟩ := get_x (j := j) (by omega)
        rw [dst_eq hp] at hd
        refine early j p y hj hp hy ?_
        unfold clash
        simp only [hd, Option.toList_some, Bool.or_eq_true]
        exact .inl (.inl (.inl (meets_iff (List.mem_singleton.2 rfl) (List.mem_append_left _ ht))))
      · by_cases hji : j = i
        · subst hji; exact hun'
        · obtain ⟨p, y, hp, hy⟩ := get_x (j := j) h2
          rw [dst_eq hp] at hd
          refine late j p y (by omega) hp hy ?_
          unfold clash
          simp only [hd, Option.toList_some, Bool.or_eq_true]
          exact .inl (.inl (.inr (meets_iff (List.mem_singleton.2 rfl) ht)))
    have obj : ∀ s, s ∈ out.rs → lookS outs sto.get (L.getD · false) s ops.size = si.get s := fun s hs => by
      rw [k4]
      refine lookS_agree (by omega) (fun j hj hd => ?_) fun j h1 h2 hd => ?_
      · obtain ⟨p, y, hp, hy⟩ := get_x (j := j) (by omega)
        rw [usAt_eq hy] at hd
        refine early j p y hj hp hy ?_
        unfold clash
        simp only [Bool.or_eq_true]
        exact .inl (.inr (meets_iff (List.mem_append_left _ hd) (List.mem_append_left _ hs)))
      · by_cases hji : j = i
        · subst hji; exact hun'
        · obtain ⟨p, y, hp, hy⟩ := get_x (j := j) h2
          rw [usAt_eq hy] at hd
          refine late j p y (by omega) hp hy ?_
          unfold clash
          simp only [Bool.or_eq_true]
          exact .inr (meets_iff (List.mem_append_left _ hd) hs)
    have fresh : Fresh m nx out.n := fun s h1 h2 => hF s (by omega) fun j hj hLj hin => by
      obtain ⟨p, y, hp, hy⟩ := get_x hj
      rw [usAt_eq hy] at hin
      by_cases hji : j < i
      · obtain ⟨o', nx'⟩ := y
        obtain ⟨out2, nx2, _, _, q1, _, _, _, _, _, _, q8, _⟩ := r5 j p (by rw [Array.getElem?_toList]; exact hp)
        rw [hy] at q1
        injection q1 with q1
        injection q1 with q1 q2
        subst q1
        subst q2
        obtain ⟨pp, hpp, rfl⟩ := List.mem_map.1 hin
        have a1 := q8 pp hpp
        have a2 := k9 j _ _ hji hy
        omega
      · by_cases hje : j = i
        · subst hje; rw [hun'] at hLj; cases hLj
        · have := late j p y (by omega) hp hy (by
            unfold clash
            simp only [Bool.or_eq_true]
            exact .inl (.inr (meets_iff (k := s) (List.mem_append_right _ (by rw [List.mem_range']; exact ⟨s - nx, by omega, by omega⟩)) (List.mem_append_right _ (List.mem_append_left _ hin)))))
          rw [this] at hLj; cases hLj
    refine wpOp_step ho fun K hK => hm.step k2 (fun x hx t ht => slot t (List.mem_append_left _ (opTmps_mem (ht ▸ hx)))) (fun g b t hg hgt => slot t (List.mem_append_right _ (by rw [hg]; dsimp only; rw [hgt]; simp))) obj fresh k7 fun a' m' h1 h2 => ?_
    refine hK a' m'.w (ih _ _ _ (by simpa using hl) (by have := cnt_set hun; omega) (fun j hj d hd => ?_) ⟨m', rfl, h1.eq (fun t => ?_) (fun s => ?_), fun s hs hj => ?_⟩)
    · by_cases hji : i = j
      · subst hji
        by_cases hdi' : i = d
        · subst hdi'; exact hj
        · rw [getD_set_ne false hdi']; exact hdi d hd
      · rw [getD_set_ne false hji] at hj
        by_cases hdi' : i = d
        · subst hdi'
          have := hcl j hj i hd
          rw [hun'] at this; cases this
        · rw [getD_set_ne false hdi']; exact hcl j hj d hd
    · have hset : (L.setIfInBounds i true).getD i false = true := by
        have : i < L.size := by omega
        simp [Array.getD, this]
      by_cases ht : o.dst = some t
      · rw [if_pos ht]
        have := lookE_self (l := ops.toList) (outs := outs) (E := env.get) (L := ((L.setIfInBounds i true).getD · false)) (t := t) (n := ops.size) hlt hset (by rw [dst_eq ho]; exact ht) fun j h1 h2 hd => by
          obtain ⟨p, y, hp, hy⟩ := get_x (j := j) h2
          rw [dst_eq hp] at hd
          rw [getD_set_ne false (by omega)]
          refine late j p y h1 hp hy ?_
          unfold clash
          simp only [ht, hd, Option.toList_some, Bool.or_eq_true]
          exact .inl (.inl (.inl (meets_iff (List.mem_singleton.2 rfl) (List.mem_append_right _ (List.mem_singleton.2 rfl)))))
        rw [this]
        unfold dAt
        rw [k1]
      · rw [if_neg ht]
        refine lookE_congr fun j hj hd => ?_
        by_cases hji : i = j
        · subst hji; rw [dst_eq ho] at hd; exact absurd hd ht
        · exact getD_set_ne false hji
    · have hset : (L.setIfInBounds i true).getD i false = true := by
        have : i < L.size := by omega
        simp [Array.getD, this]
      cases hu : updGet out.us s with
      | some x =>
        simp only [Option.getD_some]
        refine lookS_self (L := ((L.setIfInBounds i true).getD · false)) hlt hset (by rw [usAt_eq k1]; exact hu) fun j h1 h2 hd => ?_
        obtain ⟨p, y, hp, hy⟩ := get_x (j := j) h2
        rw [usAt_eq hy] at hd
        rw [getD_set_ne false (by omega)]
        refine late j p y h1 hp hy ?_
        unfold clash
        simp only [Bool.or_eq_true]
        exact .inl (.inr (meets_iff (List.mem_append_left _ (List.mem_map_of_mem (f := (·.1)) (updGet_some hu))) (List.mem_append_right _ (List.mem_append_left _ hd))))
      | none =>
        simp only [Option.getD_none]
        refine lookS_congr fun j hj hd => ?_
        by_cases hji : i = j
        · subst hji
          rw [usAt_eq k1] at hd
          obtain ⟨x, hx⟩ := updGet_in hd
          rw [hu] at hx; cases hx
        · exact getD_set_ne false hji
    · have hset : (L.setIfInBounds i true).getD i false = true := by
        have : i < L.size := by omega
        simp [Array.getD, this]
      rw [h2.same s fun hin => ?_]
      · refine hF s hs fun j hjs hLj => ?_
        by_cases hji : i = j
        · subst hji; rw [hun'] at hLj; cases hLj
        · exact hj j hjs (by rw [getD_set_ne false hji]; exact hLj)
      · exact hj i hlt hset (by rw [usAt_eq k1]; exact hin)
end
end Go.Proofs.Ythpnlnjdmlbnaaa
/- Code on data. No condition. -/
namespace Go.Proofs.Ythpnlnjdmlbnaaa
open Go.RowKit
set_option linter.unusedSimpArgs false
set_option linter.unusedVariables false

/-- code on data: for a frame of nt slots, with n0 objects handed in -/
def DWp (P : Program) (nt n0 : Nat) (c : Code) (Q : Exit → DSt → Prop) (st : DSt) : Prop :=
  ∀ C : Cx, C.nt = nt → C.n0 = n0 → ∀ a w, Sim C st a w → Code.wp P c (fun e a w => ∃ st', Q e st' ∧ Sim C st' a w) a w

section
variable {P : Program} {nt n0 : Nat} {Q : Exit → DSt → Prop} {st : DSt}

theorem DWp.mono {c : Code} {Q' : Exit → DSt → Prop} (h : DWp P nt n0 c Q st) (hq : ∀ e s, Q e s → Q' e s) : DWp P nt n0 c Q' st :=
  fun C h1 h2 a w hs => wp_mono (h C h1 h2 a w hs) fun e a w ⟨s, k1, k2⟩ => ⟨s, hq e s k1, k2⟩
theorem d_skip (h : Q .normal st) : DWp P nt n0 .skip Q st := fun C _ _ a w hs => wp_skip ⟨st, h, hs⟩
theorem d_exit {id : Nat} (h : Q (.exit id) st) : DWp P nt n0 (.exit id) Q st := fun C _ _ a w hs => wp_exit ⟨st, h, hs⟩
theorem d_ret (h : Q .ret st) : DWp P nt n0 .ret Q st := fun C _ _ a w hs => wp_ret ⟨st, h, hs⟩
theorem d_label {l : Nat} (h : Q .normal st) : DWp P nt n0 (.label l) Q st := fun C _ _ a w hs => wp_label ⟨st, h, hs⟩
def thenD (K : DSt → Prop) (Q : Exit → DSt → Prop) : Exit → DSt → Prop
  | .normal, s => K s
  | e, s => Q e s
theorem d_seq {x y : Code} (h : ∀ K : DSt → Prop, (∀ s, DWp P nt n0 y Q s → K s) → DWp P nt n0 x (thenD K Q) st) : DWp P nt n0 (.seq x y) Q st := fun C h1 h2 a w hs => by
  refine wp_seq (wp_mono (h (DWp P nt n0 y Q) (fun _ h => h) C h1 h2 a w hs) fun e a w ⟨s, k1, k2⟩ => ?_)
  cases e with
  | normal => exact k1 C h1 h2 a w k2
  | _ => exact ⟨s, k1, k2⟩
theorem d_cond {c : Operand} {x y : Code} {t : Bool} (hc : opd st.env c = .lit (.bool t)) (h : DWp P nt n0 (if t then x else y) Q st) : DWp P nt n0 (.cond c x y) Q st := fun C h1 h2 a w hs => by
  have : a.eval c = .bool t := by
    obtain ⟨m, _, hm, _⟩ := hs
    have := opd_rep (m := m) (a := a) (env := st.env) (x := c) fun t _ => hm.env t
    rw [hc] at this
    exact this.lit_inv
  exact wp_cond this (h C h1 h2 a w hs)
theorem d_condT {c : Operand} {x y : Code} (hc : opd st.env c = .lit (.bool true)) (h : DWp P nt n0 x Q st) : DWp P nt n0 (.cond c x y) Q st := d_cond hc h
theorem d_condF {c : Operand} {x y : Code} (hc : opd st.env c = .lit (.bool false)) (h : DWp P nt n0 y Q st) : DWp P nt n0 (.cond c x y) Q st := d_cond hc h
theorem d_split {c : Operand} {x y : Code} {t : Bool} (hc : opd st.env c = .lit (.bool t)) (h1 : t = true → DWp P nt n0 x Q st) (h2 : t = false → DWp P nt n0 y Q st) : DWp P nt n0 (.cond c x y) Q st := by
  cases t with
  | true => exact d_condT hc (h1 rfl)
  | false => exact d_condF hc (h2 rfl)
/-- both ways -/
theorem d_if {c : Operand} {x y : Code} {p : Prop} [Decidable p] (hc : opd st.env c = .lit (.bool (decide p))) (h1 : p → DWp P nt n0 x Q st) (h2 : ¬ p → DWp P nt n0 y Q st) : DWp P nt n0 (.cond c x y) Q st := by
  by_cases hp : p
  · exact d_condT (by rw [hc, decide_eq_true hp]) (h1 hp)
  · exact d_condF (by rw [hc, decide_eq_false hp]) (h2 hp)
def blockD (id : Nat) (Q : Exit → DSt → Prop) : Exit → DSt → Prop
  | .exit id', s => if id' = id then Q .normal s else Q (.exit id') s
  | e, s => Q e s
theorem d_block {id : Nat} {c : Code} (h : DWp P nt n0 c (blockD id Q) st) : DWp P nt n0 (.block id c) Q st := fun C h1 h2 a w hs => by
  refine wp_block (wp_mono (h C h1 h2 a w hs) fun e a w ⟨s, k1, k2⟩ => ?_)
  cases e with
  | exit id' =>
    simp only [blockD, Exit.inBlock] at k1 ⊢
    split
    · rename_i hi
      rw [if_pos hi] at k1
      exact ⟨s, k1, k2⟩
    · rename_i hi
      rw [if_neg hi] at k1
      exact ⟨s, k1, k2⟩
  | _ => exact ⟨s, k1, k2⟩

/-- the operations of a region, one after the other -/
def Steps (P : Program) (ops : Array Oper) (l : List Oper) (st : DSt) (K : Outs → DSt → Prop) : Prop :=
  ∃ outs env' sto' nxt', Run P ops l st.env st.sto st.nxt outs env' sto' nxt' ∧ K outs ⟨env', sto', nxt'⟩
theorem Steps.nil {ops : Array Oper} {st : DSt} {K : Outs → DSt → Prop} (h : K [] st) : Steps P ops [] st K := ⟨[], st.env, st.sto, st.nxt, .nil, h⟩
theorem Steps.cons' {ops : Array Oper} {o : Oper} {l : List Oper} {st : DSt} {K : Outs → DSt → Prop} {out : Out} (h : StepOK P ops o st.env st.sto st.nxt out) (k : Steps P ops l ⟨st.env.put o.dst out.d, st.sto.upd out.us, st.nxt + out.n⟩ fun outs => K ((out, st.nxt) :: outs)) : Steps P ops (o :: l) st K := by
  obtain ⟨outs, env', sto', nxt', h1, h2⟩ := k
  exact ⟨_, env', sto', nxt', .cons h h1, h2⟩
/-- an operation without a guard -/
theorem Steps.op {ops : Array Oper} {dst : Option Nat} {op : Op} {ty : Nat} {pos : String} {after : Array Edge} {l : List Oper} {env : Env} {sto : Sto} {nxt : Nat} {K : Outs → DSt → Prop} {d : DV} {us : List (Nat × Option Ob)} {rs : List Nat} {n : Nat}
    (h : OpOK P ⟨dst, op, ty, pos, after, none⟩ env sto nxt ⟨d, us, rs, n⟩) (k : Steps P ops l ⟨env.put dst d, sto.upd us, nxt + n⟩ fun outs => K ((⟨d, us, rs, n⟩, nxt) :: outs)) : Steps P ops (⟨dst, op, ty, pos, after, none⟩ :: l) ⟨env, sto, nxt⟩ K := Steps.cons' h k
/-- an operation whose guard holds -/
theorem Steps.opG {ops : Array Oper} {dst : Option Nat} {op : Op} {ty : Nat} {pos : String} {after : Array Edge} {l : List Oper} {env : Env} {sto : Sto} {nxt : Nat} {K : Outs → DSt → Prop} {d : DV} {us : List (Nat × Option Ob)} {rs : List Nat} {n g t : Nat} {b : Bool}
    (hg : (ops[g]?).bind (·.dst) = some t) (hb : env.get t = .lit (.bool b))
    (h : OpOK P ⟨dst, op, ty, pos, after, some (g, b)⟩ env sto nxt ⟨d, us, rs, n⟩) (k : Steps P ops l ⟨env.put dst d, sto.upd us, nxt + n⟩ fun outs => K ((⟨d, us, rs, n⟩, nxt) :: outs)) : Steps P ops (⟨dst, op, ty, pos, after, some (g, b)⟩ :: l) ⟨env, sto, nxt⟩ K :=
  Steps.cons' (show StepOK P ops _ env sto nxt _ from ⟨t, hg, .inl ⟨hb, h⟩⟩) k
/-- an operation whose guard does not hold -/
theorem Steps.opN {ops : Array Oper} {dst : Option Nat} {op : Op} {ty : Nat} {pos : String} {after : Array Edge} {l : List Oper} {env : Env} {sto : Sto} {nxt : Nat} {K : Outs → DSt → Prop} {g t : Nat} {b : Bool}
    (hg : (ops[g]?).bind (·.dst) = some t) (hb : env.get t = .lit (.bool (!b)))
    (k : Steps P ops l ⟨env.put dst .any, sto, nxt⟩ fun outs => K ((⟨.any, [], [], 0⟩, nxt) :: outs)) : Steps P ops (⟨dst, op, ty, pos, after, some (g, b)⟩ :: l) ⟨env, sto, nxt⟩ K :=
  Steps.cons' (out := ⟨.any, [], [], 0⟩) (show StepOK P ops _ env sto nxt _ from ⟨t, hg, .inr (.inl ⟨.inl hb, .inl rfl⟩)⟩) k

theorem d_region {id : Nat} {ops : Array Oper} {l : List Oper} (hl : ops = l.toArray) (h : Steps P l.toArray l st fun outs s => seqB nt l outs = true ∧ Q .normal s) : DWp P nt n0 (.region id ops false) Q st := fun C h1 h2 a w hs => by
  subst hl
  obtain ⟨outs, env', sto', nxt', k1, k2, k3⟩ := h
  subst h1
  exact wp_region_lit (run_seq k1 k2 (fun a w hs => ⟨_, k3, hs⟩) a w hs)

theorem Sim.drew {C : Cx} {st : DSt} {a : Act} {w : World} (h : Sim C st a w) : Sim C st a { w with drawn := w.drawn + 1 } := by
  obtain ⟨m, rfl, hm, hF⟩ := h
  have he : Ext m ⟨{ m.w with drawn := m.w.drawn + 1 }, m.M, m.σ⟩ := ⟨Nat.le_refl _, rfl, fun _ _ h => ⟨rfl, h⟩, fun _ x h => ⟨x, h, fun e' h => ⟨e', h, rfl, rfl⟩⟩⟩
  have hl : Loc [] m ⟨{ m.w with drawn := m.w.drawn + 1 }, m.M, m.σ⟩ := ⟨he, fun _ _ => rfl, fun _ _ _ => rfl⟩
  exact ⟨⟨{ m.w with drawn := m.w.drawn + 1 }, m.M, m.σ⟩, rfl, ⟨⟨hm.inv.os, hm.inv.tape, hm.inv.output, hm.inv.size, hm.inv.old, hm.inv.inj, hm.inv.at_, hm.inv.lt, hm.inv.wf⟩, hm.M, hm.size, hm.defers, hm.org, hm.lim0, fun k => (hm.env k).ext he, fun s ob hs => Holds.loc hm.inv hl (by simp) (hm.sto s ob hs)⟩, hF⟩
theorem d_any {id : Nat} {ops : Array Oper} {l : List Oper} (hm : P.follows .mixedOrders = true) (hl : ops = l.toArray) (hk : backB l.toArray = true) (h : Steps P l.toArray l st fun outs s => (seqB nt l outs = true ∧ ordB l.toArray outs = true) ∧ Q .normal s) : DWp P nt n0 (.region id ops true) Q st := fun C h1 h2 a w hs => by
  subst hl
  obtain ⟨outs, env', sto', nxt', k1, ⟨k2, k3⟩, k4⟩ := h
  subst h1
  refine wp_region_any hm (run_any (ops := l.toArray) k1 k2 hk k3 (fun a w hs => ⟨_, k4, hs⟩) l.toArray.size (Array.replicate l.toArray.size false) a _ (by simp) (by simp [cnt]) (fun i hi => by simp [Array.getD] at hi) ?_)
  obtain ⟨m, hw, hm', hF⟩ := hs.drew
  have all : ∀ j, (Array.replicate l.toArray.size false).getD j false = false := fun j => by simp [Array.getD]
  refine ⟨m, hw, hm'.eq (fun t => ?_) (fun s => ?_), fun s hs _ => hF s hs⟩
  · exact lookE_agree (i := 0) (Nat.zero_le _) (fun j hj => by omega) fun j _ _ _ => all j
  · exact lookS_agree (i := 0) (Nat.zero_le _) (fun j hj => by omega) fun j _ _ _ => all j

/-- formal and actual numbers of objects -/
abbrev Ren := List (Nat × Nat)
def Ren.get : Ren → Nat → Option Nat
  | [], _ => none
  | (k, s) :: l, j => cond (Nat.beq j k) (some s) (Ren.get l j)

mutual
/-- actual data serve as formal data; the objects that have to be frozen -/
inductive Cv (sto : Sto) (ρ : Ren) : DV → DV → List Nat → Prop
  | any {d : DV} : Cv sto ρ d .any []
  | lit {v : Value} : Cv sto ρ (.lit v) (.lit v) []
  | sl {xs : List (List DV)} : Cv sto ρ (.sl xs) (.sl xs) []
  | nil : Cv sto ρ (.lit (.slice none 0 0)) (.sl []) []
  | frz {s off len : Nat} {ob : Ob} {xs : List (List DV)} : sto.get s = some ob → ob.arr = true → off + len ≤ ob.els.length → (ob.els.drop off).take len = xs → Cv sto ρ (.own s off len) (.sl xs) [s]
  | own {s s' off len : Nat} : ρ.get s' = some s → Cv sto ρ (.own s off len) (.own s' off len) []
  | ptr {s s' i j : Nat} : ρ.get s' = some s → Cv sto ρ (.ptr s i j) (.ptr s' i j) []
  | pp {xs : List DV} : Cv sto ρ (.pp xs) (.pp xs) []
  | dp {z : Nat} {xs : List (List DV)} : Cv sto ρ (.dp z xs) (.dp z xs) []
  | dfz {s len : Nat} {ob : Ob} {xs : List (List DV)} : sto.get s = some ob → ob.arr = false → (∀ x ∈ ob.els, ∀ d ∈ x, dpB d = true) → len = ob.els.length → ob.els.map (·.map undp) = xs → Cv sto ρ (.own s 0 len) (.sl xs) [s]
  | agg {xs ys : List DV} {r : List Nat} : CvL sto ρ xs ys r → Cv sto ρ (.agg xs) (.agg ys) r
  | tup {xs ys : List DV} {r : List Nat} : CvL sto ρ xs ys r → Cv sto ρ (.tup xs) (.tup ys) r
  | fn {f : FuncId} {xs ys : List DV} {r : List Nat} : CvL sto ρ xs ys r → Cv sto ρ (.fn f xs) (.fn f ys) r
inductive CvL (sto : Sto) (ρ : Ren) : List DV → List DV → List Nat → Prop
  | nil : CvL sto ρ [] [] []
  | cons {x y : DV} {xs ys : List DV} {r r' : List Nat} : Cv sto ρ x y r → CvL sto ρ xs ys r' → CvL sto ρ (x :: xs) (y :: ys) (r ++ r')
end

/-- entries of memory under other numbers -/
def EntIs (σ σ' : Nat → Option (Option Ent)) (ρ : Ren) : Prop := ∀ s' s, ρ.get s' = some s → (σ s = some none → σ' s' = some none) ∧ ∀ e, σ s = some (some e) → σ' s' = some none ∨ ∃ e', σ' s' = some (some e') ∧ e'.esz = e.esz ∧ e'.blk = e.blk

/-- the objects are there, frozen or not -/
def HoldsF (m : Mem) (sto : Sto) (rs : List Nat) : Prop := ∀ s ∈ rs, ∀ ob, sto.get s = some ob → ∃ z, Holds m s { ob with frz := z }
theorem HoldsAll.f {m : Mem} {sto : Sto} {rs : List Nat} (h : HoldsAll m sto rs) : HoldsF m sto rs := fun s hs ob hob => ⟨ob.frz, h s hs ob hob⟩

theorem Cv.rep {sto : Sto} {ρ : Ren} {m m' : Mem} (hw : m'.w = m.w) (hno : ∀ k, m'.no k → m.no k) (hσ : EntIs m.σ m'.σ ρ) {F : Fm} (hI : Inv F m) {d d' : DV} {fr : List Nat} (h : Cv sto ρ d d' fr)
    (hH : HoldsF m sto fr) (hfr : ∀ s ∈ fr, ∀ e g, m.σ s = some (some e) → e.has g → ¬ m'.no g) {v : Value} (hr : Rep m v d) : Rep m' v d' := by
  have hp : ∀ {v d}, PRep m.w m.no v d → PRep m'.w m'.no v d := fun h => PRep.ext (by rw [hw]; exact Nat.le_refl _) (fun k _ hk => ⟨by rw [hw], fun h => hk (hno k h)⟩) h
  refine Cv.rec (motive_1 := fun d d' fr _ => HoldsF m sto fr → (∀ s ∈ fr, ∀ e g, m.σ s = some (some e) → e.has g → ¬ m'.no g) → ∀ v, Rep m v d → Rep m' v d')
    (motive_2 := fun xs ys fr _ => HoldsF m sto fr → (∀ s ∈ fr, ∀ e g, m.σ s = some (some e) → e.has g → ¬ m'.no g) → xs.length = ys.length ∧ ∀ (i : Nat) x y, xs[i]? = some x → ys[i]? = some y → ∀ v, Rep m v x → Rep m' v y)
    ?_ ?_ ?_ ?_ ?_ ?_ ?_ ?_ ?_ ?_ ?_ ?_ ?_ ?_ ?_ h hH hfr v hr
  · intro d _ _ v _; exact .any v
  · intro u _ _ v hr; rw [hr.lit_inv]; exact .pure (.lit u hr.lit_one)
  · intro xs _ _ v hr; exact .pure (hp hr.sl_inv)
  · intro _ _ v hr; rw [hr.lit_inv]; exact .pure (.nil _ _ (Nat.zero_le _))
  · intro s off len ob xs h1 h2 h3 h4 hH hfr v hr
    subst h4
    obtain ⟨z, hz⟩ := hH s (by simp) ob h1
    obtain ⟨e, k1, k2, k3, k6⟩ := own_get hr hz
    rcases k6 with ⟨g, cap, k6, rfl, k7, k8⟩ | ⟨k6, rfl, rfl, rfl, k7, k8⟩
    · have := prep_of_row (no := m'.no) k8 h2 (hfr s (by simp) e g k1 (Ent.has_blk k6)) hno h3
      rw [← hw] at this
      exact .pure this
    · rw [show ob.els = [] from k7]; exact .pure (.nil _ _ (Nat.zero_le _))
  · intro s s' off len hρ _ _ v hr
    obtain ⟨q1, q2⟩ := hσ s' s hρ
    cases hr with
    | pure h => cases h
    | @own _ e g cap _ _ k1 k2 k3 k4 =>
      rcases q2 e k1 with h | ⟨e', h1, h2, h3⟩
      · exact .ownOld h
      · rw [← h2]; exact .own h1 (h3.trans k2) k3 k4
    | @ownNil _ e k1 k2 =>
      rcases q2 e k1 with h | ⟨e', h1, h2, h3⟩
      · exact .ownOld h
      · exact .ownNil h1 (h3.trans k2)
    | ownOld k1 => exact .ownOld (q1 k1)
  · intro s s' i j hρ _ _ v hr
    obtain ⟨q1, q2⟩ := hσ s' s hρ
    cases hr with
    | pure h => cases h
    | @ptr _ e g cap _ _ k1 k2 =>
      rcases q2 e k1 with h | ⟨e', h1, h2, h3⟩
      · exact .ptrOld h
      · rw [← h2]; exact .ptr h1 (h3.trans k2)
    | ptrOld k1 => exact .ptrOld (q1 k1)
  · intro xs _ _ v hr
    obtain ⟨b, off, f, rfl, h1, h2, h3, h4⟩ := hr.pp_inv
    exact .pp f (fun h => h1 (hno b h)) (by rw [hw]; exact h2) (fun j d hd => by rw [hw]; exact h3 j d hd) (fun j d hd => hp (h4 j d hd))
  · intro z xs _ _ v hr; exact .dp v
  · intro s len ob xs h1 h2 h3 h4 h5 hH hfr v hr
    subst h4
    subst h5
    obtain ⟨z, hz⟩ := hH s (by simp) ob h1
    obtain ⟨e, k1, k2, k3, k6⟩ := own_get hr hz
    rcases k6 with ⟨g, cap, k6, rfl, k7, k8⟩ | ⟨k6, rfl, _, _, k7, k8⟩
    · have := prep_of_deep (no := m'.no) k8 (deep_get hz k1 k6) h2 (hfr s (by simp) e g k1 (Ent.has_blk k6)) (fun b hb => hfr s (by simp) e b k1 (.inr hb)) hno h3
      rw [← hw] at this
      rw [Nat.zero_mul, Nat.sub_zero]
      exact .pure this
    · rw [show ob.els = [] from k7]; exact .pure (.nil _ _ (Nat.zero_le _))
  · intro xs ys r _ ih hH hfr v hr
    obtain ⟨q1, q2⟩ := ih hH hfr
    obtain ⟨vs, rfl, k1, k2⟩ := hr.agg_inv
    refine .agg (by omega) fun i u y hu hy => ?_
    have hlt : i < xs.length := by
      rcases Nat.lt_or_ge i ys.length with h' | h'
      · omega
      · rw [List.getElem?_eq_none h'] at hy; cases hy
    exact q2 i _ y (List.getElem?_eq_getElem hlt) hy u (k2 i u _ hu (List.getElem?_eq_getElem hlt))
  · intro xs ys r _ ih hH hfr v hr
    obtain ⟨q1, q2⟩ := ih hH hfr
    obtain ⟨vs, rfl, k1, k2⟩ := hr.tup_inv
    refine .tup (by omega) fun i u y hu hy => ?_
    have hlt : i < xs.length := by
      rcases Nat.lt_or_ge i ys.length with h' | h'
      · omega
      · rw [List.getElem?_eq_none h'] at hy; cases hy
    exact q2 i _ y (List.getElem?_eq_getElem hlt) hy u (k2 i u _ hu (List.getElem?_eq_getElem hlt))
  · intro f xs ys r _ ih hH hfr v hr
    obtain ⟨q1, q2⟩ := ih hH hfr
    obtain ⟨vs, rfl, k1, k2⟩ := hr.fn_inv
    refine .fn (by omega) fun i u y hu hy => ?_
    have hlt : i < xs.length := by
      rcases Nat.lt_or_ge i ys.length with h' | h'
      · omega
      · rw [List.getElem?_eq_none h'] at hy; cases hy
    exact q2 i _ y (List.getElem?_eq_getElem hlt) hy u (k2 i u _ hu (List.getElem?_eq_getElem hlt))
  · intro _ _; exact ⟨rfl, fun i x y hx => by simp at hx⟩
  · intro x y xs ys r r' _ _ ih1 ih2 hH hfr
    obtain ⟨q1, q2⟩ := ih2 (fun s hs => hH s (List.mem_append_right _ hs)) (fun s hs => hfr s (List.mem_append_right _ hs))
    refine ⟨by simp [q1], fun i x' y' hx hy v hr => ?_⟩
    cases i with
    | zero =>
      simp only [List.getElem?_cons_zero, Option.some.injEq] at hx hy
      subst hx
      subst hy
      exact ih1 (fun s hs => hH s (List.mem_append_left _ hs)) (fun s hs => hfr s (List.mem_append_left _ hs)) v hr
    | succ i => exact q2 i x' y' (by simpa using hx) (by simpa using hy) v hr
end
end Go.Proofs.Ythpnlnjdmlbnaaa
/- Code on data: loops, calls' beginnings and ends. No condition. -/
namespace Go.Proofs.Ythpnlnjdmlbnaaa
open Go.RowKit
set_option linter.unusedSimpArgs false
set_option linter.unusedVariables false

inductive CvO (sto : Sto) (ρ : Ren) : Ob → Ob → List Nat → Prop
  | arr {ob : Ob} : ob.arr = true → CvO sto ρ ob ob []
  | rows {z : Nat} {fz : Bool} {xs ys : List (List DV)} {fr : List Nat} : xs.length = ys.length → (∀ (i : Nat) x y, xs[i]? = some x → ys[i]? = some y → ∃ r, CvL sto ρ x y r ∧ ∀ s ∈ r, s ∈ fr) → (∀ s ∈ fr, (sto.get s).isSome = true) → CvO sto ρ ⟨z, false, fz, xs⟩ ⟨z, false, fz, ys⟩ fr
inductive CvS (sto : Sto) (ρ : Ren) : Sto → List Nat → Prop
  | nil : CvS sto ρ [] []
  | cons {s' s : Nat} {ob ob' : Ob} {l : Sto} {r r' : List Nat} : ρ.get s' = some s → sto.get s = some ob → CvO sto ρ ob ob' r → CvS sto ρ l r' → CvS sto ρ ((s', ob') :: l) (r ++ r')
inductive CvE (sto : Sto) (ρ : Ren) (env : Env) : Env → List Nat → Prop
  | nil : CvE sto ρ env [] []
  | cons {k : Nat} {d : DV} {l : Env} {r r' : List Nat} : Cv sto ρ (env.get k) d r → CvE sto ρ env l r' → CvE sto ρ env ((k, d) :: l) (r ++ r')

def nodupB : List Nat → Bool
  | [] => true
  | x :: l => !l.contains x && nodupB l
def okR (ρ : Ren) (fr : List Nat) (n0 nxt : Nat) : Bool :=
  nodupB (ρ.map (·.2)) && (ρ.all fun p => decide (p.1 < nxt) && (!decide (p.1 < n0) || p.1 == p.2) && !fr.contains p.2) && decide (n0 ≤ nxt)

theorem Ren.get_mem {ρ : Ren} {s' s : Nat} (h : ρ.get s' = some s) : (s', s) ∈ ρ := by
  induction ρ with
  | nil => cases h
  | cons p l ih =>
    obtain ⟨k, x⟩ := p
    simp only [Ren.get, cond_beq] at h
    split at h
    · rename_i hk
      injection h with h
      subst hk
      subst h
      simp
    · exact List.mem_cons_of_mem _ (ih h)
theorem nodupB_inj : ∀ {ρ : Ren}, nodupB (ρ.map (·.2)) = true → ∀ {a b s : Nat}, (a, s) ∈ ρ → (b, s) ∈ ρ → a = b
  | [], _, _, _, _, h, _ => by cases h
  | (k, x) :: l, hn, a, b, s, ha, hb => by
    simp only [List.map_cons, nodupB, Bool.and_eq_true, Bool.not_eq_true'] at hn
    obtain ⟨n1, n2⟩ := hn
    have notin : ∀ c, (c, x) ∈ l → False := fun c hc => by
      have : (l.map (·.2)).contains x = true := by
        rw [List.contains_iff_mem]
        exact List.mem_map.2 ⟨(c, x), hc, rfl⟩
      rw [n1] at this; cases this
    rcases List.mem_cons.1 ha with h1 | h1 <;> rcases List.mem_cons.1 hb with h2 | h2
    · injection h1 with h1 _; injection h2 with h2 _; rw [h1, h2]
    · injection h1 with h1 h3; subst h3; exact (notin _ h2).elim
    · injection h2 with h1 h3; subst h3; exact (notin _ ‹_›).elim
    · exact nodupB_inj n2 h1 h2

theorem CvL.known {sto : Sto} {ρ : Ren} {xs ys : List DV} {r : List Nat} (h : CvL sto ρ xs ys r) : ∀ s ∈ r, (sto.get s).isSome = true := by
  refine CvL.rec (motive_1 := fun d d' r _ => ∀ s ∈ r, (sto.get s).isSome = true) (motive_2 := fun xs ys r _ => ∀ s ∈ r, (sto.get s).isSome = true) ?_ ?_ ?_ ?_ ?_ ?_ ?_ ?_ ?_ ?_ ?_ ?_ ?_ ?_ ?_ h
  · intro d s hs; cases hs
  · intro v s hs; cases hs
  · intro xs s hs; cases hs
  · intro s hs; cases hs
  · intro s off len ob xs h1 _ _ _ t ht
    obtain rfl := List.mem_singleton.1 ht
    rw [h1]; rfl
  · intro _ _ _ _ _ s hs; cases hs
  · intro _ _ _ _ _ s hs; cases hs
  · intro _ s hs; cases hs
  · intro _ _ s hs; cases hs
  · intro s len ob xs h1 _ _ _ _ t ht
    obtain rfl := List.mem_singleton.1 ht
    rw [h1]; rfl
  · intro _ _ _ _ ih; exact ih
  · intro _ _ _ _ ih; exact ih
  · intro _ _ _ _ _ ih; exact ih
  · intro s hs; cases hs
  · intro _ _ _ _ _ _ _ _ ih1 ih2 s hs
    rcases List.mem_append.1 hs with h | h
    · exact ih1 s h
    · exact ih2 s h
theorem CvO.box {sto : Sto} {ρ : Ren} {z : Nat} {fz : Bool} {cs cs' : List DV} {r : List Nat} (h : CvL sto ρ cs cs' r) : CvO sto ρ ⟨z, false, fz, [cs]⟩ ⟨z, false, fz, [cs']⟩ r :=
  .rows rfl (fun i x y hx hy => by
    cases i with
    | zero =>
      simp only [List.getElem?_cons_zero, Option.some.injEq] at hx hy
      subst hx
      subst hy
      exact ⟨r, h, fun s hs => hs⟩
    | succ i => simp at hx) h.known
/-- rows of numbers, and slices inside -/
theorem CvO.same {sto : Sto} {ρ : Ren} {z : Nat} {fz : Bool} {xs : List (List DV)} (h : ∀ x ∈ xs, ∀ d ∈ x, dpB d = true) : CvO sto ρ ⟨z, false, fz, xs⟩ ⟨z, false, fz, xs⟩ [] :=
  .rows rfl (fun i x y hx hy => by
    rw [hx] at hy
    injection hy with hy
    subst hy
    have hq := h x (List.mem_of_getElem? hx)
    refine ⟨[], ?_, fun s hs => by cases hs⟩
    clear h hx
    induction x with
    | nil => exact .nil
    | cons d l ih =>
      have h1 := hq d (List.mem_cons_self ..)
      have h2 := ih fun d hd => hq d (List.mem_cons_of_mem _ hd)
      have h3 : Cv sto ρ d d [] := by
        cases d with
        | lit v => exact .lit
        | sl xs => exact .sl
        | dp z l => exact .dp
        | _ => cases h1
      exact .cons h3 h2) (fun s hs => by cases hs)
theorem Cv.to_dp {sto : Sto} {ρ : Ren} {d : DV} {z : Nat} {l : List (List DV)} {r : List Nat} (h : Cv sto ρ d (.dp z l) r) : d = .dp z l := by cases h; rfl
theorem CvL.to_dp {sto : Sto} {ρ : Ren} : ∀ {xs ys : List DV} {r : List Nat}, CvL sto ρ xs ys r → ∀ (j : Nat) z l, ys[j]? = some (.dp z l) → xs[j]? = some (.dp z l)
  | _, _, _, .nil, j, z, l, h => by simp at h
  | _, _, _, .cons h1 h2, j, z, l, h => by
    cases j with
    | zero => simp only [List.getElem?_cons_zero, Option.some.injEq] at h ⊢; subst h; exact h1.to_dp
    | succ j => simpa using CvL.to_dp h2 j z l (by simpa using h)
/-- slices inside stay where they are -/
theorem Deep.conv {m m' : Mem} {inn : Nat → Prop} {z g : Nat} {fz : Bool} {xs ys : List (List DV)} (d : Deep m inn ⟨z, false, fz, xs⟩ g) (hw : m'.w = m.w) (hr : ∀ {ob b cap}, ob.arr = true → Row m ob b cap → Row m' ob b cap)
    (h : ∀ (i : Nat) y (j : Nat) z l, ys[i]? = some y → y[j]? = some (.dp z l) → ∃ x, xs[i]? = some x ∧ x[j]? = some (.dp z l)) : Deep m' inn ⟨z, false, fz, ys⟩ g := by
  obtain ⟨B, d1, d2⟩ := d
  refine ⟨B, fun i y j z l h1 h2 => ?_, d2⟩
  obtain ⟨x, k1, k2⟩ := h i y j z l h1 h2
  obtain ⟨u, q1, q2⟩ := d1 i x j z l k1 k2
  refine ⟨u, by rw [hw]; exact q1, ?_⟩
  cases hB : B i j with
  | none => rw [hB] at q2; exact q2
  | some b =>
    rw [hB] at q2
    obtain ⟨p1, cp, p2, p3⟩ := q2
    exact ⟨p1, cp, p2, hr rfl p3⟩

section
variable {P : Program} {nt n0 : Nat} {Q : Exit → DSt → Prop} {st : DSt}

/-- memory under other numbers -/
def renσ (σ : Nat → Option (Option Ent)) (ρ : Ren) (fr : List Nat) (n0 : Nat) : Nat → Option (Option Ent) := fun s' => match ρ.get s' with
  | some s => if s ∈ fr then (σ s).map (fun x => x.map fun e => { e with mu := false }) else σ s
  | none => if s' < n0 then some none else none

theorem weak_mem {F : Fm} {m : Mem} (hI : Inv F m) {sto : Sto} (hs : ∀ s ob, sto.get s = some ob → Holds m s ob) {ρ : Ren} {fr : List Nat} {nxt' : Nat} (hok : okR ρ fr n0 nxt' = true) {S : Sto} {fr' : List Nat} (hS : CvS sto ρ S fr') (hsub : ∀ s ∈ fr', s ∈ fr)
    {σ0 : Nat → Option (Option Ent)} (horg : EntExt σ0 m.σ) (hlim : ∀ s, n0 ≤ s → σ0 s = none) :
    ∃ m' : Mem, m'.w = m.w ∧ m'.M = m.M ∧ Inv F m' ∧ (∀ d d' r v, Cv sto ρ d d' r → (∀ s ∈ r, s ∈ fr) → Rep m v d → Rep m' v d') ∧ (∀ s ob, S.get s = some ob → Holds m' s ob) ∧ EntExt σ0 m'.σ ∧ ∀ s, nxt' ≤ s → m'.σ s = none := by
  simp only [okR, Bool.and_eq_true, List.all_eq_true, decide_eq_true_eq, Bool.not_eq_true'] at hok
  obtain ⟨⟨o1, o2⟩, o3⟩ := hok
  have key : ∀ {s' s}, ρ.get s' = some s → s' < nxt' ∧ (s' < n0 → s' = s) ∧ s ∉ fr := fun {s' s} h => by
    obtain ⟨⟨q1, q2⟩, q3⟩ := o2 _ (Ren.get_mem h)
    dsimp only at q1 q2 q3
    refine ⟨q1, fun hn => ?_, fun hin => ?_⟩
    · simpa [hn] using q2
    · rw [List.contains_iff_mem.2 hin] at q3; cases q3
  let m' : Mem := ⟨m.w, m.M, renσ m.σ ρ fr n0⟩
  have ent : ∀ {s' e}, m'.σ s' = some (some e) → ∃ s, ρ.get s' = some s ∧ m.σ s = some (some e) := fun {s' e} h => by
    change renσ m.σ ρ fr n0 s' = _ at h
    unfold renσ at h
    split at h
    · rename_i s hr
      rw [if_neg (key hr).2.2] at h
      exact ⟨s, hr, h⟩
    · split at h <;> simp at h
  have at' : ∀ {s' s}, ρ.get s' = some s → m'.σ s' = m.σ s := fun {s' s} hr => by
    show renσ m.σ ρ fr n0 s' = _
    unfold renσ
    rw [hr]
    dsimp only
    rw [if_neg (key hr).2.2]
  have hno : ∀ k, m'.no k → m.no k := fun k h => by
    rcases h with h | ⟨s', e, h1, h2, h3⟩
    · exact .inl h
    · obtain ⟨s, _, k2⟩ := ent h1
      exact .inr ⟨s, e, k2, h2, h3⟩
  have hσ : EntIs m.σ m'.σ ρ := fun s' s hr => by
    rw [at' hr]
    exact ⟨id, fun e he => .inr ⟨e, he, rfl, rfl⟩⟩
  have hfr : ∀ s ∈ fr, ∀ e g, m.σ s = some (some e) → e.has g → ¬ m'.no g := fun s hs' e g h1 h2 h => by
    rcases h with h | ⟨t', e', k1, k2, k3⟩
    · exact (hI.at_ s e g h1 h2).2.1 h
    · obtain ⟨t, j1, j2⟩ := ent k1
      have := hI.inj s t e e' g h1 j2 h2 k3
      subst this
      exact (key j1).2.2 hs'
  have rep : ∀ d d' r v, Cv sto ρ d d' r → (∀ s ∈ r, s ∈ fr) → Rep m v d → Rep m' v d' := fun d d' r v hc hr hv =>
    hc.rep (m := m) (m' := m') rfl hno hσ hI (fun s hs' ob hob => ⟨ob.frz, hs s ob hob⟩) (fun s hs' => hfr s (hr s hs')) hv
  have hp : ∀ {v d}, PRep m.w m.no v d → PRep m'.w m'.no v d := fun h => PRep.ext (Nat.le_refl _) (fun k _ hk => ⟨rfl, fun h => hk (hno k h)⟩) h
  refine ⟨m', rfl, rfl, ⟨hI.os, hI.tape, hI.output, hI.size, hI.old, ?_, ?_, hI.lt, fun s e g c h1 h2 => by obtain ⟨t, _, j2⟩ := ent h1; exact hI.wf t e g c j2 h2⟩, rep, ?_, ?_, ?_⟩
  · intro s1 s2 e e' g h1 h2 h3 h4
    obtain ⟨t1, j1, j2⟩ := ent h1
    obtain ⟨t2, k1, k2⟩ := ent h2
    have := hI.inj t1 t2 e e' g j2 k2 h3 h4
    subst this
    exact nodupB_inj o1 (Ren.get_mem j1) (Ren.get_mem k1)
  · intro s e g h1 h2
    obtain ⟨t, j1, j2⟩ := ent h1
    exact hI.at_ t e g j2 h2
  · induction hS with
    | nil => intro s ob h; cases h
    | @cons s' s ob ob' l r r' h1 h2 h3 _ ih =>
      intro t ob1 ht
      rw [Sto.get_cons] at ht
      split at ht
      · rename_i hts
        injection ht with ht
        subst hts
        subst ht
        obtain ⟨e, q1, q2, q3, q4⟩ := hs s ob h2
        have rows : ∀ {ob b cap}, ob.arr = true → Row m ob b cap → Row m' ob b cap := fun {ob b cap} ha q4 => by
          obtain ⟨cur, T, c1, c2, c3⟩ := q4.cells
          refine ⟨⟨cur, T, c1, c2, fun i x j d hx hd => ?_⟩, q4.len, q4.max, q4.pos, q4.sz⟩
          obtain ⟨u, hu, hr1, hr2⟩ := c3 i x j d hx hd
          rw [ha] at hr2
          exact ⟨u, hu, hr1, by rw [ha]; exact hp hr2⟩
        cases h3 with
        | arr ha =>
          refine ⟨e, by rw [at' h1]; exact q1, q2, q3, ?_⟩
          cases hb : e.blk with
          | none => rw [hb] at q4; exact q4
          | some p =>
            obtain ⟨g, cap⟩ := p
            rw [hb] at q4
            have := rows ha q4.1
            exact ⟨this, this.deep ha _⟩
        | @rows z fz xs ys frr hlen hcv _ =>
          refine ⟨e, by rw [at' h1]; exact q1, q2, q3, ?_⟩
          have at_ : ∀ {i : Nat} {y}, ys[i]? = some y → ∃ x, xs[i]? = some x := fun {i y} hy => by
            rcases Nat.lt_or_ge i xs.length with h' | h'
            · exact ⟨_, List.getElem?_eq_getElem h'⟩
            · rw [List.getElem?_eq_none (by omega)] at hy; cases hy
          cases hb : e.blk with
          | none =>
            rw [hb] at q4
            obtain ⟨q4, q5⟩ := q4
            refine ⟨?_, q5⟩
            have : xs = [] := q4
            subst this
            exact List.length_eq_zero_iff.1 hlen.symm
          | some p =>
            obtain ⟨g, cap⟩ := p
            rw [hb] at q4
            obtain ⟨q4, q5⟩ := q4
            obtain ⟨cur, T, c1, c2, c3⟩ := q4.cells
            have cells : ∀ {xs ys : List DV} {r : List Nat}, CvL sto ρ xs ys r → (∀ s ∈ r, s ∈ fr) → xs.length = ys.length ∧ ∀ (i : Nat) x y, xs[i]? = some x → ys[i]? = some y → ∀ v, Rep m v x → Rep m' v y := by
              intro xs
              induction xs with
              | nil => intro ys r h _; cases h; exact ⟨rfl, fun i x y hx => by simp at hx⟩
              | cons x xs ihx =>
                intro ys r h hr
                cases h with
                | @cons _ y _ ys r1 r2 hc hl =>
                  obtain ⟨z1, z2⟩ := ihx hl fun s h => hr s (List.mem_append_right _ h)
                  refine ⟨by simp [z1], fun i x' y' hx hy v hv => ?_⟩
                  cases i with
                  | zero =>
                    simp only [List.getElem?_cons_zero, Option.some.injEq] at hx hy
                    subst hx
                    subst hy
                    exact rep _ _ _ v hc (fun s h => hr s (List.mem_append_left _ h)) hv
                  | succ i => exact z2 i x' y' (by simpa using hx) (by simpa using hy) v hv
            refine ⟨⟨⟨cur, T, c1, c2, fun i y j d hy hd => ?_⟩, by have := q4.len; dsimp only at this ⊢; omega, q4.max, q4.pos, fun i y hy => ?_⟩, q5.conv rfl rows fun i y j z l hy hd => ?_⟩
            · dsimp only at hy ⊢
              obtain ⟨x, hx⟩ := at_ hy
              obtain ⟨r, k1, k2⟩ := hcv i x y hx hy
              obtain ⟨z1, z2⟩ := cells k1 fun s h => hsub s (List.mem_append_left _ (k2 s h))
              have hlt : j < x.length := by
                rcases Nat.lt_or_ge j y.length with h' | h'
                · omega
                · rw [List.getElem?_eq_none h'] at hd; cases hd
              obtain ⟨u, hu, hr1, hr2⟩ := c3 i x j x[j] hx (List.getElem?_eq_getElem hlt)
              exact ⟨u, hu, hr1, z2 j _ d (List.getElem?_eq_getElem hlt) hd u hr2⟩
            · dsimp only at hy ⊢
              obtain ⟨x, hx⟩ := at_ hy
              obtain ⟨r, k1, k2⟩ := hcv i x y hx hy
              obtain ⟨z1, z2⟩ := cells k1 fun s h => hsub s (List.mem_append_left _ (k2 s h))
              have := q4.sz i x hx
              dsimp only at this
              omega
            · obtain ⟨x, hx⟩ := at_ hy
              obtain ⟨r, k1, k2⟩ := hcv i x y hx hy
              exact ⟨x, hx, k1.to_dp j z l hd⟩
      · exact ih (fun s h => hsub s (List.mem_append_right _ h)) t ob1 ht
  · intro s x0 hx0
    have hn : s < n0 := by
      rcases Nat.lt_or_ge s n0 with h | h
      · exact h
      · rw [hlim s h] at hx0; cases hx0
    cases hr : ρ.get s with
    | none => exact ⟨none, by show renσ m.σ ρ fr n0 s = _; unfold renσ; rw [hr]; simp [hn], fun e h => by cases h⟩
    | some t =>
      have : s = t := (key hr).2.1 hn
      subst this
      rw [at' hr]
      exact horg s x0 hx0
  · intro s hs'
    show renσ m.σ ρ fr n0 s = none
    unfold renσ
    cases hr : ρ.get s with
    | none => dsimp only; rw [if_neg (by omega)]
    | some t => have := (key hr).1; omega

/-- less is known -/
def WeakE (n0 : Nat) (st st' : DSt) : Prop := ∃ ρ fr1 fr2, CvE st.sto ρ st.env st'.env fr1 ∧ CvS st.sto ρ st'.sto fr2 ∧ okR ρ (fr1 ++ fr2) n0 st'.nxt = true

theorem CvE.get {sto : Sto} {ρ : Ren} {env env' : Env} {fr : List Nat} (h : CvE sto ρ env env' fr) (k : Nat) : ∃ r, Cv sto ρ (env.get k) (env'.get k) r ∧ ∀ s ∈ r, s ∈ fr := by
  induction h with
  | nil => exact ⟨[], .any, fun s hs => by cases hs⟩
  | @cons j d l r r' h1 _ ih =>
    rw [Env.get_cons]
    by_cases hk : k = j
    · rw [if_pos hk]
      subst hk
      exact ⟨r, h1, fun s hs => List.mem_append_left _ hs⟩
    · rw [if_neg hk]
      obtain ⟨r1, q1, q2⟩ := ih
      exact ⟨r1, q1, fun s hs => List.mem_append_right _ (q2 s hs)⟩

theorem WeakE.sim {C : Cx} {st st' : DSt} (h : WeakE C.n0 st st') {a : Act} {w : World} (hs : Sim C st a w) : Sim C st' a w := by
  obtain ⟨ρ, fr1, fr2, h1, h2, h3⟩ := h
  obtain ⟨m, rfl, hm, hF⟩ := hs
  obtain ⟨m', k1, k2, k3, k4, k5, k6, k7⟩ := weak_mem hm.inv hm.sto h3 h2 (fun s hs => List.mem_append_right _ hs) hm.org hm.lim0
  refine ⟨m', k1, ⟨k3, k2.trans hm.M, hm.size, hm.defers, k6, hm.lim0, fun k => ?_, k5⟩, k7⟩
  obtain ⟨r, q1, q2⟩ := h1.get k
  exact k4 _ _ r _ q1 (fun s hs => List.mem_append_left _ (q2 s hs)) (hm.env k)

def Weak (n0 : Nat) (st st' : DSt) : Prop := ∀ C : Cx, C.n0 = n0 → ∀ a w, Sim C st a w → Sim C st' a w
theorem WeakE.weak {st st' : DSt} (h : WeakE n0 st st') : Weak n0 st st' := fun C hC a w hs => WeakE.sim (hC ▸ h) hs
theorem Weak.sim {C : Cx} {st st' : DSt} (h : Weak C.n0 st st') {a : Act} {w : World} (hs : Sim C st a w) : Sim C st' a w := h C rfl a w hs
theorem Weak.trans {st st' st'' : DSt} (h : Weak n0 st st') (k : Weak n0 st' st'') : Weak n0 st st'' := fun C hC a w hs => k C hC a w (h C hC a w hs)
theorem d_weak {c : Code} {st' : DSt} (hw : Weak n0 st st') (h : DWp P nt n0 c Q st') : DWp P nt n0 c Q st := fun C h1 h2 a w hs => h C h1 h2 a w (Weak.sim (h2 ▸ hw) hs)

/-- a nil slice as an object -/
theorem d_nil {c : Code} {env : Env} {sto : Sto} {nxt : Nat} (k z : Nat) (hz : 0 < z) (hk : env.get k = .lit (.slice none 0 0)) (h : DWp P nt n0 c Q ⟨env.put (some k) (.own nxt 0 0), (nxt, ⟨z, true, false, []⟩) :: sto.drop nxt, nxt + 1⟩) : DWp P nt n0 c Q ⟨env, sto, nxt⟩ := fun C h1 h2 a w hs => by
  refine h C h1 h2 a w ?_
  obtain ⟨m, rfl, hm, hF⟩ := hs
  have hn : m.σ nxt = none := hF nxt (Nat.le_refl _)
  obtain ⟨t1, t2⟩ := turn_new hm.inv hn m.w ⟨z, none, true, noI⟩ rfl rfl rfl (Nat.le_refl _) (fun _ _ => rfl) (fun g c h => by cases h)
  refine ⟨⟨m.w, m.M, setE m.σ nxt (some ⟨z, none, true, noI⟩)⟩, rfl, ⟨t1, hm.M, hm.size, hm.defers, hm.org.trans t2.ent, hm.lim0, fun j => ?_, fun s ob hs => ?_⟩, fun s hs => ?_⟩
  · rw [Env.put_get]
    by_cases hj : j = k
    · subst hj
      rw [if_pos rfl]
      have hv := hm.env j
      rw [show env.get j = DV.lit (.slice none 0 0) from hk] at hv
      rw [hv.lit_inv]
      exact .ownNil (setE_same _ _ _) rfl
    · rw [if_neg hj]; exact (hm.env j).ext t2.toExt
  · simp only [Sto.get_cons, Sto.drop_get] at hs
    by_cases hs' : s = nxt
    · subst hs'
      rw [if_pos rfl] at hs
      injection hs with hs
      subst hs
      exact ⟨_, setE_same _ _ _, rfl, rfl, rfl, hz⟩
    · rw [if_neg hs', if_neg hs'] at hs
      exact Holds.loc hm.inv t2 (by simpa using hs') (hm.sto s ob hs)
  · dsimp only at hs ⊢
    rw [setE_ne _ _ (by omega)]
    exact hF s (by dsimp only; omega)

theorem least_nat {p : Nat → Prop} : ∀ (n : Nat), p n → ∃ k, p k ∧ ∀ j, p j → k ≤ j := by
  intro n
  induction n using Nat.strongRecOn with
  | _ n ih =>
    intro h
    by_cases hx : ∃ j, j < n ∧ p j
    · obtain ⟨j, hj, hp⟩ := hx
      exact ih j hj hp
    · exact ⟨n, h, fun j hj => by
        rcases Nat.lt_or_ge j n with h' | h'
        · exact absurd ⟨j, h', hj⟩ hx
        · exact h'⟩

/-- a loop, with a family of states -/
theorem d_loop {α : Type} {body : Code} (I : α → DSt) (p : α → Prop) (μ : α → Nat) (x0 : α) (hp : p x0) (h0 : Weak n0 st (I x0))
    (hs : ∀ x, p x → DWp P nt n0 body (thenD (fun s => ∃ x', p x' ∧ μ x' < μ x ∧ Weak n0 s (I x')) Q) (I x)) : DWp P nt n0 (.loop body) Q st := fun C h1 h2 a w hw => by
  subst h2
  let J : Act → World → Nat → Prop := fun a w n => ∃ x, p x ∧ Sim C (I x) a w ∧ μ x = n
  have ex : ∀ a w, (∃ x, p x ∧ Sim C (I x) a w) → ∃ k, J a w k ∧ ∀ j, J a w j → k ≤ j := fun a w ⟨x, q1, q2⟩ => least_nat (p := J a w) (μ x) ⟨x, q1, q2, rfl⟩
  refine wp_loop (fun a w => ∃ x, p x ∧ Sim C (I x) a w) (fun a w => open Classical in if h : ∃ x, p x ∧ Sim C (I x) a w then Classical.choose (ex a w h) else 0) ⟨x0, hp, h0.sim hw⟩ fun a w hI => ?_
  obtain ⟨⟨x, q1, q2, q3⟩, q4⟩ := Classical.choose_spec (ex a w hI)
  refine wp_mono (hs x q1 C h1 rfl a w q2) fun e a' w' ⟨s, k1, k2⟩ => ?_
  cases e with
  | normal =>
    obtain ⟨x', j1, j2, j3⟩ := k1
    have hs' := j3.sim k2
    have hI' : ∃ x, p x ∧ Sim C (I x) a' w' := ⟨x', j1, hs'⟩
    refine ⟨hI', ?_⟩
    rw [dif_pos hI, dif_pos hI']
    have := (Classical.choose_spec (ex a' w' hI')).2 (μ x') ⟨x', j1, hs', rfl⟩
    omega
  | _ => exact ⟨s, k1, k2⟩

/-- what follows is proved once for a family of states -/
theorem d_cut {α : Type} {x y : Code} (I : α → DSt) (p : α → Prop) (hx : DWp P nt n0 x (thenD (fun s => ∃ b, p b ∧ Weak n0 s (I b)) Q) st) (hy : ∀ b, p b → DWp P nt n0 y Q (I b)) : DWp P nt n0 (.seq x y) Q st :=
  d_seq fun K hK => hx.mono fun e s h => by
    cases e with
    | normal => obtain ⟨b, h1, h2⟩ := h; exact hK _ (d_weak h2 (hy b h1))
    | _ => exact h

inductive ResL (P : Program) (st : DSt) : List ResultVar → List DV → Prop
  | nil : ResL P st [] []
  | tmp {t : Nat} {l : List ResultVar} {ds : List DV} : ResL P st l ds → ResL P st (.tmp t :: l) (st.env.get t :: ds)
  | cell {t ty : Nat} {td : TyD} {k i j : Nat} {ob : Ob} {x : List DV} {d : DV} {l : List ResultVar} {ds : List DV} : TyOk P ty td → st.env.get t = .ptr k i j → st.sto.get k = some ob → ob.els[i]? = some x → ldD td (x.drop j) = some d → ResL P st l ds → ResL P st (.cell t ty :: l) (d :: ds)
def resV : List DV → DV
  | [d] => d
  | ds => .tup ds

def resVal (a : Act) : ResultVar → Sem Value
  | .tmp t => pure (a.tmps.getD t undef)
  | .cell x t => do loadVar t (← asAddr (a.tmps.getD x undef))
theorem res_run {m : Mem} {a : Act} (he : ∀ k, Rep m (a.tmps.getD k undef) (st.env.get k)) (hs : ∀ s ob, st.sto.get s = some ob → Holds m s ob) {l : List ResultVar} {ds : List DV} (h : ResL P st l ds) :
    ∃ vs : List Value, (l.mapM (resVal a)).run P m.w = .ok vs m.w ∧ Reps m vs ds := by
  induction h with
  | nil => exact ⟨[], by simp, rfl, fun i v d hv => by simp at hv⟩
  | @tmp t l ds _ ih =>
    obtain ⟨vs, h1, h2, h3⟩ := ih
    refine ⟨a.tmps.getD t undef :: vs, ?_, by simp [h2], fun i v d hv hd => ?_⟩
    · rw [List.mapM_cons]
      simp only [resVal, Sem.run_bind, Sem.run_pure, Result.andThen_ok, h1]
    · cases i with
      | zero => simp only [List.getElem?_cons_zero, Option.some.injEq] at hv hd; subst hv; subst hd; exact he t
      | succ i => exact h3 i v d (by simpa using hv) (by simpa using hd)
  | @cell t ty td k i j ob x d l ds ht h1 h2 h4 h5 _ ih =>
    obtain ⟨vs, q1, q2, q3⟩ := ih
    have hr := he t
    rw [h1] at hr
    obtain ⟨e, g, cap, _, _, _, _, p1, p2⟩ := ptr_get hr (hs k ob h2)
    obtain ⟨v, l1, l2⟩ := load_ok (P := P) ht ((p2.cellsAt h4).drop (k := j)) h5
    refine ⟨v :: vs, ?_, by simp [q2], fun n u e hu he' => ?_⟩
    · rw [List.mapM_cons]
      have : (loadVar ty ⟨g, i * ob.esz + j, none⟩).run P m.w = .ok v m.w := by simpa [Instr.loadAt, Instr.sureAddr] using l1
      have hv : (resVal a (.cell t ty)).run P m.w = .ok v m.w := by simp [resVal, p1, asAddr, this]
      simp only [Sem.run_bind, Sem.run_pure, Result.andThen_ok, q1, hv]
    · cases n with
      | zero => simp only [List.getElem?_cons_zero, Option.some.injEq] at hu he'; subst hu; subst he'; exact l2
      | succ n => exact q3 n u e (by simpa using hu) (by simpa using he')

def Xof (σ : Nat → Option (Option Ent)) (k : Nat) : Prop := ∃ s e, σ s = some (some e) ∧ e.mu = true ∧ e.has k
def Yof (σ : Nat → Option (Option Ent)) (k : Nat) : Prop := ∃ s e, σ s = some (some e) ∧ e.has k
def idb (S : Sto) (n : Nat) : Nat := S.foldr (fun p k => max (p.1 + 1) k) n

/-- the contract of a function, on data: arguments ds, objects S handed in (numbers 0, 1, ..), result r, objects S' behind it -/
def DCall (P : Program) (f : FuncId) (ds : List DV) (S : Sto) (r : DV) (S' : Sto) : Prop :=
  (∀ args w, (callFunc f args).run P w = .ok (.enter f args) w) ∧
  ∀ (w : World) (M : Nat → Prop) (σ : Nat → Option (Option Ent)) (vs : List Value), Inv ⟨w, Xof σ, Yof σ⟩ ⟨w, M, σ⟩ → (∀ s ob, S.get s = some ob → Holds ⟨w, M, σ⟩ s ob) → (∀ s, S.length ≤ s → σ s = none) → Reps ⟨w, M, σ⟩ vs ds →
    Calls P f vs.toArray w fun e w' => ∃ v σ', e = .returned v ∧ Inv ⟨w, Xof σ, Yof σ⟩ ⟨w', M, σ'⟩ ∧ EntExt σ σ' ∧ Rep ⟨w', M, σ'⟩ v r ∧ (∀ s ob, S'.get s = some ob → Holds ⟨w', M, σ'⟩ s ob) ∧ ∀ s, idb S' S.length ≤ s → σ' s = none

def envOf : Nat → List DV → Env
  | _, [] => []
  | k, d :: l => (k, d) :: envOf (k + 1) l
theorem envOf_get (ds : List DV) (k i : Nat) : (envOf k ds).get i = if k ≤ i then (ds[i - k]?).getD .any else .any := by
  induction ds generalizing k with
  | nil => simp [envOf, Env.get_nil]
  | cons d l ih =>
    simp only [envOf, Env.get_cons, ih]
    by_cases h1 : i = k
    · subst h1; simp
    · rw [if_neg h1]
      by_cases h2 : k ≤ i
      · rw [if_pos (by omega), if_pos h2, show i - k = (i - (k + 1)) + 1 by omega, List.getElem?_cons_succ]
      · rw [if_neg (by omega), if_neg h2]

/-- the end of a call -/
def RetD (P : Program) (fn : Func) (n0 : Nat) (r : DV) (S' : Sto) (e : Exit) (st : DSt) : Prop :=
  (e = .normal ∨ e = .ret) ∧ ∃ ds ρ fr1 fr2, ResL P st fn.results.toList ds ∧ Cv st.sto ρ (resV ds) r fr1 ∧ CvS st.sto ρ S' fr2 ∧ okR ρ (fr1 ++ fr2) n0 (idb S' n0) = true

theorem DCall.mk {f : FuncId} {fn : Func} {c : Code} {ds : List DV} {S : Sto} {r : DV} {S' : Sto} (hf : P.funcs[f]? = some fn) (hname : (fn.name == "runtime.NumGoroutine") = false) (hb : fn.body = some c)
    (h : DWp P (ds.length + (fn.ntmps - ds.length)) S.length c (RetD P fn S.length r S') ⟨envOf 0 ds, S, S.length⟩) : DCall P f ds S r S' := ⟨fun args w => by
    have hn : ¬ fn.name = "runtime.NumGoroutine" := by simpa using hname
    simp [callFunc, hf, hn, hb], fun w M σ vs hI hS hσ hR => by
  have hlen : vs.length = ds.length := hR.1
  refine calls_of_wp hf hb ?_
  let C : Cx := ⟨⟨w, Xof σ, Yof σ⟩, M, ds.length + (fn.ntmps - ds.length), S.length, σ⟩
  have hsim : Sim C ⟨envOf 0 ds, S, S.length⟩ { tmps := vs.toArray ++ Array.replicate (fn.ntmps - vs.toArray.size) undef, defers := [] } w := by
    refine ⟨⟨w, M, σ⟩, rfl, ⟨hI, rfl, by simp [C, hlen], rfl, fun s x h => ⟨x, h, fun e' h => ⟨e', h, rfl, rfl⟩⟩, hσ, fun k => ?_, hS⟩, hσ⟩
    dsimp only
    rw [envOf_get, if_pos (Nat.zero_le _), Nat.sub_zero]
    by_cases hk : k < ds.length
    · rw [List.getElem?_eq_getElem hk, Option.getD_some, Array.getD_eq_getD_getElem?, Array.getElem?_append_left (by simp; omega)]
      have hk' : k < vs.length := by omega
      have := hR.2 k vs[k] ds[k] (List.getElem?_eq_getElem hk') (List.getElem?_eq_getElem hk)
      simpa [hk'] using this
    · rw [List.getElem?_eq_none (by omega)]; exact .any _
  refine wp_mono (h C rfl rfl _ w hsim) fun e a w' ⟨st, ⟨he, ds', ρ, fr1, fr2, q1, q2, q3, q4⟩, hs⟩ => ?_
  obtain ⟨m, rfl, hm, hF⟩ := hs
  obtain ⟨m', k1, k2, k3, k4, k5, k6, k7⟩ := weak_mem hm.inv hm.sto q4 q3 (fun s hs => List.mem_append_right _ hs) hm.org hm.lim0
  obtain ⟨us, u1, u2, u3⟩ := res_run (P := P) hm.env hm.sto q1
  have hres : (results fn a.tmps).run P m.w = .ok (if h : us.toArray.size = 1 then us.toArray[0] else .tuple us.toArray) m.w := by
    have hfun : results fn a.tmps = (do let vs ← fn.results.mapM (resVal a); pure (if h : vs.size = 1 then vs[0] else .tuple vs)) := by
      unfold results
      congr 1
    rw [hfun, Array.mapM_eq_mapM_toList]
    simp only [Sem.run_bind, Sem.run_map, u1, Result.andThen_ok, Sem.run_pure]
  have hrep : Rep m (if h : us.toArray.size = 1 then us.toArray[0] else .tuple us.toArray) (resV ds') := by
    by_cases h1 : us.toArray.size = 1
    · rw [dif_pos h1]
      match us, ds', u2, u3, h1 with
      | [u], [d], _, u3, _ => exact u3 0 u d rfl rfl
    · rw [dif_neg h1]
      have : resV ds' = .tup ds' := by
        match ds', us, u2, h1 with
        | [], _, _, _ => rfl
        | [d], [u], _, h1 => exact absurd rfl h1
        | _ :: _ :: _, _, _, _ => rfl
      rw [this]
      exact .tup u2 u3
  have hfin : ∃ v, (results fn a.tmps).run P m.w = .ok v m.w ∧ ∃ v' σ', Ending.returned v = .returned v' ∧ Inv ⟨w, Xof σ, Yof σ⟩ ⟨m.w, M, σ'⟩ ∧ EntExt σ σ' ∧ Rep ⟨m.w, M, σ'⟩ v' r ∧ (∀ s ob, S'.get s = some ob → Holds ⟨m.w, M, σ'⟩ s ob) ∧ ∀ s, idb S' S.length ≤ s → σ' s = none := by
    have hMe : m'.M = M := k2.trans hm.M
    have hm' : m' = ⟨m.w, M, m'.σ⟩ := by
      rw [← k1, ← hMe]
    have := k4 _ _ fr1 _ q2 (fun s hs => List.mem_append_left _ hs) hrep
    rw [hm'] at k3 this k5
    exact ⟨_, hres, _, m'.σ, rfl, k3, k6, this, k5, k7⟩
  obtain ⟨v, v1, v2⟩ := hfin
  rcases he with rfl | rfl
  · exact ⟨hm.defers, v, v1, v2⟩
  · exact ⟨hm.defers, v, v1, v2⟩⟩
end
end Go.Proofs.Ythpnlnjdmlbnaaa
/- Calls on data. No condition. -/
namespace Go.Proofs.Ythpnlnjdmlbnaaa
open Go.RowKit
set_option linter.unusedSimpArgs false
set_option linter.unusedVariables false

mutual
def ren (φ : Nat → Nat) : DV → DV
  | .own s off len => .own (φ s) off len
  | .ptr s i j => .ptr (φ s) i j
  | .agg xs => .agg (renL φ xs)
  | .tup xs => .tup (renL φ xs)
  | .fn f xs => .fn f (renL φ xs)
  | .any => .any
  | .lit v => .lit v
  | .sl xs => .sl xs
  | .pp xs => .pp xs
  | .dp z xs => .dp z xs
def renL (φ : Nat → Nat) : List DV → List DV
  | [] => []
  | d :: l => ren φ d :: renL φ l
end
theorem renL_map (φ : Nat → Nat) : ∀ l, renL φ l = l.map (ren φ)
  | [] => by unfold renL; rfl
  | d :: l => by unfold renL; rw [renL_map φ l]; rfl
def renO (φ : Nat → Nat) (ob : Ob) : Ob := if ob.arr then ob else { ob with els := ob.els.map (renL φ) }

inductive Sc : DV → Prop
  | any : Sc .any
  | lit {v : Value} : Sc (.lit v)
  | own {s off len : Nat} : Sc (.own s off len)
  | ptr {s i j : Nat} : Sc (.ptr s i j)
  | agg {xs : List DV} : (∀ d ∈ xs, Sc d) → Sc (.agg xs)
  | tup {xs : List DV} : (∀ d ∈ xs, Sc d) → Sc (.tup xs)
  | fn {f : FuncId} {xs : List DV} : (∀ d ∈ xs, Sc d) → Sc (.fn f xs)
def ScS (S : Sto) : Prop := ∀ s ob, S.get s = some ob → ∀ y ∈ ob.els, ∀ d ∈ y, Sc d

/-- entries under new numbers; what was plain stays plain, if there is any -/
theorem ren_rep {m1 m2 : Mem} {φ : Nat → Nat} (hσ : ∀ s x, m1.σ s = some x → m2.σ (φ s) = some x ∨ m2.σ (φ s) = some none) {v : Value} {d : DV} (h : Rep m1 v d)
    (ht : Sc d ∨ (m1.w = m2.w ∧ ∀ k, m2.no k → m1.no k)) : Rep m2 v (ren φ d) := by
  have hp : (m1.w = m2.w ∧ ∀ k, m2.no k → m1.no k) → ∀ {v d}, PRep m1.w m1.no v d → PRep m2.w m2.no v d := fun ⟨hw, hn⟩ {v d} h => PRep.ext (by rw [hw]; exact Nat.le_refl _) (fun k _ hk => ⟨by rw [hw], fun h => hk (hn k h)⟩) h
  induction h with
  | any v => unfold ren; exact .any v
  | dp v => unfold ren; exact .dp v
  | @pure v d p =>
    cases p with
    | lit v h => unfold ren; exact .pure (.lit v h)
    | nil a c h =>
      unfold ren
      exact .pure (.nil a c h)
    | sl b off cap sz xs f h1 h2 h3 h4 h5 h6 h7 h8 h9 =>
      unfold ren
      rcases ht with h | h
      · cases h
      · exact .pure (hp h (.sl b off cap sz xs f h1 h2 h3 h4 h5 h6 h7 h8 h9))
  | own h1 h2 h3 h4 =>
    unfold ren
    rcases hσ _ _ h1 with h | h
    · exact .own h h2 h3 h4
    · exact .ownOld h
  | ownNil h1 h2 =>
    unfold ren
    rcases hσ _ _ h1 with h | h
    · exact .ownNil h h2
    · exact .ownOld h
  | ownOld h1 =>
    unfold ren
    rcases hσ _ _ h1 with h | h <;> exact .ownOld h
  | ptr h1 h2 =>
    unfold ren
    rcases hσ _ _ h1 with h | h
    · exact .ptr h h2
    · exact .ptrOld h
  | ptrOld h1 =>
    unfold ren
    rcases hσ _ _ h1 with h | h <;> exact .ptrOld h
  | pp f h1 h2 h3 h4 =>
    unfold ren
    rcases ht with h | h
    · cases h
    · obtain ⟨hw, hn⟩ := h
      exact .pp f (fun h => h1 (hn _ h)) (by rw [← hw]; exact h2) (fun j d hd => by rw [← hw]; exact h3 j d hd) (fun j d hd => hp ⟨hw, hn⟩ (h4 j d hd))
  | @agg vs xs h1 h2 ih =>
    unfold ren
    rw [renL_map]
    refine .agg (by simpa using h1) fun i v d hv hd => ?_
    rw [List.getElem?_map] at hd
    cases hx : xs[i]? with
    | none => rw [hx] at hd; cases hd
    | some x =>
      rw [hx] at hd
      injection hd with hd
      subst hd
      refine ih i v x hv hx (ht.imp (fun h => ?_) id)
      cases h with | agg h => exact h x (List.mem_of_getElem? hx)
  | @tup vs xs h1 h2 ih =>
    unfold ren
    rw [renL_map]
    refine .tup (by simpa using h1) fun i v d hv hd => ?_
    rw [List.getElem?_map] at hd
    cases hx : xs[i]? with
    | none => rw [hx] at hd; cases hd
    | some x =>
      rw [hx] at hd
      injection hd with hd
      subst hd
      refine ih i v x hv hx (ht.imp (fun h => ?_) id)
      cases h with | tup h => exact h x (List.mem_of_getElem? hx)
  | @fn f vs xs h1 h2 ih =>
    unfold ren
    rw [renL_map]
    refine .fn (by simpa using h1) fun i v d hv hd => ?_
    rw [List.getElem?_map] at hd
    cases hx : xs[i]? with
    | none => rw [hx] at hd; cases hd
    | some x =>
      rw [hx] at hd
      injection hd with hd
      subst hd
      refine ih i v x hv hx (ht.imp (fun h => ?_) id)
      cases h with | fn h => exact h x (List.mem_of_getElem? hx)

theorem ren_dp {φ : Nat → Nat} {d : DV} {z : Nat} {l : List (List DV)} (h : ren φ d = .dp z l) : d = .dp z l := by
  cases d <;> unfold ren at h <;> first | (cases h; done) | exact h
theorem ren_holds {m1 m2 : Mem} {φ : Nat → Nat} (hσ : ∀ s x, m1.σ s = some x → m2.σ (φ s) = some x ∨ m2.σ (φ s) = some none) {s : Nat} {ob : Ob} (h : Holds m1 s ob) (hs : m2.σ (φ s) = m1.σ s) (hw : m1.w = m2.w)
    (ht : (∀ y ∈ ob.els, ∀ d ∈ y, Sc d) ∨ ∀ k, m2.no k → m1.no k) : Holds m2 (φ s) (renO φ ob) := by
  obtain ⟨e, h1, h2, h3, h4⟩ := h
  have e1 : (renO φ ob).esz = ob.esz := by unfold renO; split <;> rfl
  have e2 : (renO φ ob).frz = ob.frz := by unfold renO; split <;> rfl
  refine ⟨e, hs.trans h1, by rw [e1]; exact h2, by rw [e2]; exact h3, ?_⟩
  cases hb : e.blk with
  | none =>
    rw [hb] at h4
    obtain ⟨q1, q2⟩ := h4
    exact ⟨by unfold renO; split <;> simp [q1], by rw [e1]; exact q2⟩
  | some p =>
    obtain ⟨g, cap⟩ := p
    rw [hb] at h4
    obtain ⟨h4, h5⟩ := h4
    obtain ⟨cur, T, c1, c2, c3⟩ := h4.cells
    unfold renO
    by_cases ha : ob.arr = true
    · rw [if_pos ha]
      suffices row : Row m2 ob g cap from ⟨row, row.deep ha _⟩
      refine ⟨⟨cur, T, by rw [← hw]; exact c1, c2, fun i x j d hx hd => ?_⟩, h4.len, h4.max, h4.pos, h4.sz⟩
      obtain ⟨u, hu, hr1, hr2⟩ := c3 i x j d hx hd
      refine ⟨u, hu, hr1, ?_⟩
      rw [ha] at hr2 ⊢
      rcases ht with h | h
      · have hsc := h x (List.mem_of_getElem? hx) d (List.mem_of_getElem? hd)
        change PRep _ _ _ _ at hr2
        show PRep _ _ _ _
        cases hsc <;> first | (cases hr2; done) | (cases hr2 with | lit _ h => exact .lit _ h)
      · exact PRep.ext (by rw [hw]; exact Nat.le_refl _) (fun k _ hk => ⟨by rw [hw], fun h' => hk (h k h')⟩) hr2
    · rw [if_neg ha]
      have inside : ∀ (i : Nat) y (j : Nat) z l, (ob.els.map (renL φ))[i]? = some y → y[j]? = some (.dp z l) → ∃ x, ob.els[i]? = some x ∧ x[j]? = some (.dp z l) := fun i y j z l hy hd => by
        rw [List.getElem?_map] at hy
        cases hx : ob.els[i]? with
        | none => rw [hx] at hy; cases hy
        | some x =>
          rw [hx] at hy
          injection hy with hy
          subst hy
          rw [renL_map, List.getElem?_map] at hd
          cases hq : x[j]? with
          | none => rw [hq] at hd; cases hd
          | some d =>
            rw [hq] at hd
            injection hd with hd
            exact ⟨x, rfl, by rw [hq, ren_dp hd]⟩
      have deep : Deep m2 e.inn { ob with els := ob.els.map (renL φ) } g := by
        rcases ht with h | h
        · refine Deep.flat fun i y j z l hy hd => ?_
          obtain ⟨x, k1, k2⟩ := inside i y j z l hy hd
          have := h x (List.mem_of_getElem? k1) _ (List.mem_of_getElem? k2)
          cases this
        · obtain ⟨B, d1, d2⟩ := h5
          refine ⟨B, fun i y j z l hy hd => ?_, d2⟩
          obtain ⟨x, k1, k2⟩ := inside i y j z l hy hd
          obtain ⟨u, q1, q2⟩ := d1 i x j z l k1 k2
          refine ⟨u, by rw [← hw]; exact q1, ?_⟩
          cases hB : B i j with
          | none => rw [hB] at q2; exact q2
          | some b =>
            rw [hB] at q2
            obtain ⟨p1, cp, p2, p3⟩ := q2
            obtain ⟨cur, T, c1, c2, c3⟩ := p3.cells
            refine ⟨p1, cp, p2, ⟨⟨cur, T, by rw [← hw]; exact c1, c2, fun i x j d hx hd => ?_⟩, p3.len, p3.max, p3.pos, p3.sz⟩⟩
            obtain ⟨u, hu, hr1, hr2⟩ := c3 i x j d hx hd
            exact ⟨u, hu, hr1, PRep.ext (by rw [hw]; exact Nat.le_refl _) (fun k _ hk => ⟨by rw [hw], fun h' => hk (h k h')⟩) hr2⟩
      suffices row : Row m2 { ob with els := ob.els.map (renL φ) } g cap from ⟨row, deep⟩
      refine ⟨⟨cur, T, by rw [← hw]; exact c1, c2, fun i x j d hx hd => ?_⟩, by simpa using h4.len, h4.max, h4.pos, fun i x hx => ?_⟩
      · dsimp only at hx
        rw [List.getElem?_map] at hx
        cases hy : ob.els[i]? with
        | none => rw [hy] at hx; cases hx
        | some y =>
          rw [hy] at hx
          injection hx with hx
          subst hx
          rw [renL_map, List.getElem?_map] at hd
          cases hz : y[j]? with
          | none => rw [hz] at hd; cases hd
          | some z =>
            rw [hz] at hd
            injection hd with hd
            subst hd
            obtain ⟨u, hu, hr1, hr2⟩ := c3 i y j z hy hz
            refine ⟨u, hu, hr1, ?_⟩
            simp only [ha] at hr2 ⊢
            exact ren_rep hσ hr2 (ht.imp (fun h => h y (List.mem_of_getElem? hy) z (List.mem_of_getElem? hz)) fun h => ⟨hw, h⟩)
      · dsimp only at hx
        rw [List.getElem?_map] at hx
        cases hy : ob.els[i]? with
        | none => rw [hy] at hx; cases hx
        | some y =>
          rw [hy] at hx
          injection hx with hx
          subst hx
          rw [renL_map, List.length_map]
          exact h4.sz i y hy

def Ren.inv : Ren → Nat → Option Nat
  | [], _ => none
  | (k, s) :: l, j => cond (Nat.beq j s) (some k) (Ren.inv l j)
theorem Ren.inv_some {ρ : Ren} {s s' : Nat} (h : ρ.inv s = some s') : (s', s) ∈ ρ := by
  induction ρ with
  | nil => cases h
  | cons p l ih =>
    obtain ⟨k, x⟩ := p
    simp only [Ren.inv, cond_beq] at h
    split at h
    · rename_i hk
      injection h with h
      subst hk
      subst h
      simp
    · exact List.mem_cons_of_mem _ (ih h)
theorem Ren.inv_in {ρ : Ren} {s s' : Nat} (h : (s', s) ∈ ρ) : ∃ t, ρ.inv s = some t := by
  induction ρ with
  | nil => cases h
  | cons p l ih =>
    obtain ⟨k, x⟩ := p
    simp only [Ren.inv, cond_beq]
    by_cases hk : s = x
    · exact ⟨k, by rw [if_pos hk]⟩
    · rw [if_neg hk]
      rcases List.mem_cons.1 h with h | h
      · injection h with _ h; exact absurd h hk
      · exact ih h

def phi (ρ : Ren) (n0 nxt : Nat) (s' : Nat) : Nat := match ρ.get s' with | some s => s | none => nxt + (s' - n0)
/-- what is checked of a call: each object handed in has one place, none of them is frozen for it -/
def okC (ρ : Ren) (fr : List Nat) (n0 : Nat) : Bool :=
  nodupB (ρ.map (·.2)) && nodupB (ρ.map (·.1)) && (ρ.all fun p => decide (p.1 < n0) && !fr.contains p.2) && ((List.range n0).all fun i => (ρ.get i).isSome)
/-- what turns in a call -/
def callU (ρ : Ren) (n0 nxt : Nat) (S' : Sto) : List (Nat × Option Ob) :=
  (ρ.map fun p => (p.2, (S'.get p.1).map (renO (phi ρ n0 nxt)))) ++ (List.range (idb S' n0 - n0)).map fun i => (nxt + i, (S'.get (n0 + i)).map (renO (phi ρ n0 nxt)))

theorem nodupB_get : ∀ {ρ : Ren}, nodupB (ρ.map (·.1)) = true → ∀ {a s : Nat}, (a, s) ∈ ρ → ρ.get a = some s
  | [], _, _, _, h => by cases h
  | (k, x) :: l, hn, a, s, h => by
    simp only [List.map_cons, nodupB, Bool.and_eq_true, Bool.not_eq_true'] at hn
    simp only [Ren.get, cond_beq]
    rcases List.mem_cons.1 h with h1 | h1
    · injection h1 with h1 h2; subst h1; subst h2; rw [if_pos rfl]
    · rw [if_neg fun hk => ?_]
      · exact nodupB_get hn.2 h1
      · subst hk
        have : (l.map (·.1)).contains a = true := List.contains_iff_mem.2 (List.mem_map.2 ⟨_, h1, rfl⟩)
        rw [hn.1] at this; cases this

section
variable {P : Program} {F : Fm} {sto : Sto}

theorem CvL.reps {m m' : Mem} {ρ : Ren} {fr : List Nat} (rep : ∀ d d' r v, Cv sto ρ d d' r → (∀ s ∈ r, s ∈ fr) → Rep m v d → Rep m' v d') {xs ys : List DV} {r : List Nat} (h : CvL sto ρ xs ys r) (hr : ∀ s ∈ r, s ∈ fr) {vs : List Value} (hv : Reps m vs xs) : Reps m' vs ys := by
  have key : ∀ {xs ys : List DV} {r : List Nat}, CvL sto ρ xs ys r → (∀ s ∈ r, s ∈ fr) → xs.length = ys.length ∧ ∀ (i : Nat) x y, xs[i]? = some x → ys[i]? = some y → ∀ v, Rep m v x → Rep m' v y := by
    intro xs
    induction xs with
    | nil => intro ys r h _; cases h; exact ⟨rfl, fun i x y hx => by simp at hx⟩
    | cons x xs ihx =>
      intro ys r h hr
      cases h with
      | @cons _ y _ ys r1 r2 hc hl =>
        obtain ⟨z1, z2⟩ := ihx hl fun s h => hr s (List.mem_append_right _ h)
        refine ⟨by simp [z1], fun i x' y' hx hy v hv => ?_⟩
        cases i with
        | zero =>
          simp only [List.getElem?_cons_zero, Option.some.injEq] at hx hy
          subst hx
          subst hy
          exact rep _ _ _ v hc (fun s h => hr s (List.mem_append_left _ h)) hv
        | succ i => exact z2 i x' y' (by simpa using hx) (by simpa using hy) v hv
  obtain ⟨z1, z2⟩ := key h hr
  refine ⟨by rw [hv.1, z1], fun i v d hv' hd => ?_⟩
  have hlt : i < xs.length := by
    rcases Nat.lt_or_ge i ys.length with h' | h'
    · omega
    · rw [List.getElem?_eq_none h'] at hd; cases hd
  exact z2 i _ d (List.getElem?_eq_getElem hlt) hd v (hv.2 i v _ hv' (List.getElem?_eq_getElem hlt))

theorem CvS.holds {m m' : Mem} {ρ : Ren} {fr : List Nat} (hw : m'.w = m.w) (hp : ∀ {v d}, PRep m.w m.no v d → PRep m'.w m'.no v d) (rep : ∀ d d' r v, Cv sto ρ d d' r → (∀ s ∈ r, s ∈ fr) → Rep m v d → Rep m' v d') (at' : ∀ {s' s}, ρ.get s' = some s → m'.σ s' = m.σ s)
    {S : Sto} {fr' : List Nat} (hS : CvS sto ρ S fr') (hsub : ∀ s ∈ fr', s ∈ fr) (hs : ∀ s' s ob, ρ.get s' = some s → sto.get s = some ob → Holds m s ob) : ∀ s ob, S.get s = some ob → Holds m' s ob := by
  induction hS with
  | nil => intro s ob h; cases h
  | @cons s' s ob ob' l r r' h1 h2 h3 _ ih =>
    intro t ob1 ht
    rw [Sto.get_cons] at ht
    split at ht
    · rename_i hts
      injection ht with ht
      subst hts
      subst ht
      obtain ⟨e, q1, q2, q3, q4⟩ := hs _ s ob h1 h2
      have rows : ∀ {ob b cap}, ob.arr = true → Row m ob b cap → Row m' ob b cap := fun {ob b cap} ha q4 => by
        obtain ⟨cur, T, c1, c2, c3⟩ := q4.cells
        refine ⟨⟨cur, T, by rw [hw]; exact c1, c2, fun i x j d hx hd => ?_⟩, q4.len, q4.max, q4.pos, q4.sz⟩
        obtain ⟨u, hu, hr1, hr2⟩ := c3 i x j d hx hd
        rw [ha] at hr2
        exact ⟨u, hu, hr1, by rw [ha]; exact hp hr2⟩
      cases h3 with
      | arr ha =>
        refine ⟨e, by rw [at' h1]; exact q1, q2, q3, ?_⟩
        cases hb : e.blk with
        | none => rw [hb] at q4; exact q4
        | some p =>
          obtain ⟨g, cap⟩ := p
          rw [hb] at q4
          have := rows ha q4.1
          exact ⟨this, this.deep ha _⟩
      | @rows z fz xs ys frr hlen hcv _ =>
        refine ⟨e, by rw [at' h1]; exact q1, q2, q3, ?_⟩
        have at_ : ∀ {i : Nat} {y}, ys[i]? = some y → ∃ x, xs[i]? = some x := fun {i y} hy => by
          rcases Nat.lt_or_ge i xs.length with h' | h'
          · exact ⟨_, List.getElem?_eq_getElem h'⟩
          · rw [List.getElem?_eq_none (by omega)] at hy; cases hy
        cases hb : e.blk with
        | none =>
          rw [hb] at q4
          obtain ⟨q4, q5⟩ := q4
          refine ⟨?_, q5⟩
          have : xs = [] := q4
          subst this
          exact List.length_eq_zero_iff.1 hlen.symm
        | some p =>
          obtain ⟨g, cap⟩ := p
          rw [hb] at q4
          obtain ⟨q4, q5⟩ := q4
          obtain ⟨cur, T, c1, c2, c3⟩ := q4.cells
          have cell : ∀ (i : Nat) x y, xs[i]? = some x → ys[i]? = some y → x.length = y.length ∧ ∀ j d, y[j]? = some d → ∃ u, cur[i * z + j]? = some u ∧ u.oneCell' = true ∧ Rep m' u d := fun i x y hx hy => by
            obtain ⟨r, k1, k2⟩ := hcv i x y hx hy
            have hcs : ∀ j (hj : j < x.length), ∃ u, cur[i * z + j]? = some u ∧ u.oneCell' = true ∧ Rep m u x[j] := fun j hj => by
              obtain ⟨u, hu, hr1, hr2⟩ := c3 i x j x[j] hx (List.getElem?_eq_getElem hj)
              exact ⟨u, hu, hr1, hr2⟩
            let us := (List.range x.length).map fun j => if hj : j < x.length then Classical.choose (hcs j hj) else undef
            have hus : Reps m us x := ⟨by simp [us], fun i v d hv hd => by
              have hlt : i < x.length := by
                rcases Nat.lt_or_ge i x.length with h' | h'
                · exact h'
                · rw [List.getElem?_eq_none h'] at hd; cases hd
              rw [List.getElem?_eq_getElem hlt] at hd
              injection hd with hd
              subst hd
              simp only [us, List.getElem?_map, List.getElem?_range hlt, Option.map_some, Option.some.injEq] at hv
              rw [dif_pos hlt] at hv
              subst hv
              exact (Classical.choose_spec (hcs i hlt)).2.2⟩
            obtain ⟨z1, z2⟩ := CvL.reps rep k1 (fun s h => hsub s (List.mem_append_left _ (k2 s h))) hus
            have z1' : x.length = y.length := by simpa [us] using z1
            refine ⟨z1', fun j d hd => ?_⟩
            have hlt : j < x.length := by
              rcases Nat.lt_or_ge j y.length with h' | h'
              · omega
              · rw [List.getElem?_eq_none h'] at hd; cases hd
            obtain ⟨k3, k4, _⟩ := Classical.choose_spec (hcs j hlt)
            refine ⟨_, k3, k4, z2 j _ d ?_ hd⟩
            simp only [us, List.getElem?_map, List.getElem?_range hlt, Option.map_some]
            rw [dif_pos hlt]
          refine ⟨⟨⟨cur, T, by rw [hw]; exact c1, c2, fun i y j d hy hd => ?_⟩, by have := q4.len; dsimp only at this ⊢; omega, q4.max, q4.pos, fun i y hy => ?_⟩, q5.conv hw rows fun i y j z l hy hd => ?_⟩
          · dsimp only at hy ⊢
            obtain ⟨x, hx⟩ := at_ hy
            exact (cell i x y hx hy).2 j d hd
          · dsimp only at hy ⊢
            obtain ⟨x, hx⟩ := at_ hy
            have h1 := (cell i x y hx hy).1
            have := q4.sz i x hx
            dsimp only at this
            omega
          · obtain ⟨x, hx⟩ := at_ hy
            obtain ⟨r, k1, k2⟩ := hcv i x y hx hy
            exact ⟨x, hx, k1.to_dp j z l hd⟩
    · exact ih (fun s h => hsub s (List.mem_append_right _ h)) t ob1 ht

/-- the core of a call: blocks Bk may be read by the callee although the caller writes them later; then nothing plain comes back -/
theorem call_core {m : Mem} (hI : Inv F m) {f : FuncId} {ds : List DV} {S : Sto} {r : DV} {S' : Sto} (hc : DCall P f ds S r S') {ρ : Ren} {fr fr1 fr2 : List Nat} {nxt : Nat} (hok : okC ρ fr S.length = true)
    (hr1 : ∀ s ∈ fr1, s ∈ fr) (hr2 : ∀ s ∈ fr2, s ∈ fr) (hHf : HoldsF m sto fr) (hHr : ∀ s' s ob, ρ.get s' = some s → sto.get s = some ob → Holds m s ob) (hS : CvS sto ρ S fr2)
    {args : List DV} {vs : List Value} (hA : CvL sto ρ args ds fr1) (hR : Reps m vs args) (hF : Fresh m nxt (idb S' S.length - S.length)) (hlive : ∀ s' s, ρ.get s' = some s → ∃ e, m.σ s = some (some e))
    (Bk : Nat → Prop) (hBk : ∀ s ∈ fr, ∀ e g, m.σ s = some (some e) → e.has g → ¬ m.no g ∨ Bk g) (hsc : (Sc r ∧ ScS S') ∨ ∀ k, ¬ Bk k) :
    Calls P f vs.toArray m.w fun e w' => ∃ v, e = .returned v ∧ ∃ m' : Mem, m'.w = w' ∧ Inv F m' ∧ Loc ((callU ρ S.length nxt S').map (·.1)) m m' ∧ Rep m' v (ren (phi ρ S.length nxt) r) ∧ ∀ p ∈ callU ρ S.length nxt S', Upd m' p := by
  simp only [okC, Bool.and_eq_true, List.all_eq_true, decide_eq_true_eq, Bool.not_eq_true'] at hok
  obtain ⟨⟨⟨o1, o2⟩, o3⟩, o4⟩ := hok
  have key : ∀ {s' s}, ρ.get s' = some s → s' < S.length ∧ s ∉ fr := fun {s' s} h => by
    obtain ⟨q1, q3⟩ := o3 _ (Ren.get_mem h)
    exact ⟨q1, fun hin => by rw [List.contains_iff_mem.2 hin] at q3; cases q3⟩
  let σ0 : Nat → Option (Option Ent) := fun s' => match ρ.get s' with | some s => m.σ s | none => none
  have ent0 : ∀ {s' e}, σ0 s' = some (some e) → ∃ s, ρ.get s' = some s ∧ m.σ s = some (some e) := fun {s' e} h => by
    simp only [σ0] at h
    split at h
    · rename_i s hr; exact ⟨s, hr, h⟩
    · cases h
  have at0 : ∀ {s' s}, ρ.get s' = some s → σ0 s' = m.σ s := fun {s' s} hr => by simp only [σ0, hr]
  let M0 : Nat → Prop := fun k => m.no k ∧ ¬ Xof σ0 k ∧ ¬ Bk k
  let m0 : Mem := ⟨m.w, M0, σ0⟩
  have X0 : ∀ {k}, Xof σ0 k → ∃ s' s e, ρ.get s' = some s ∧ m.σ s = some (some e) ∧ e.mu = true ∧ e.has k := fun {k} ⟨s', e, h1, h2, h3⟩ => by
    obtain ⟨s, k1, k2⟩ := ent0 h1
    exact ⟨s', s, e, k1, k2, h2, h3⟩
  have Y0 : ∀ {k}, Yof σ0 k → ∃ s' s e, ρ.get s' = some s ∧ m.σ s = some (some e) ∧ e.has k := fun {k} ⟨s', e, h1, h3⟩ => by
    obtain ⟨s, k1, k2⟩ := ent0 h1
    exact ⟨s', s, e, k1, k2, h3⟩
  have nolt : ∀ {k}, m.no k → k < m.w.heap.size := fun {k} h => by
    rcases h with h | ⟨s, e, h1, _, h3⟩
    · exact Nat.lt_of_lt_of_le (hI.lt k h).1 hI.size
    · exact (hI.at_ s e k h1 h3).1
  have hI0 : Inv ⟨m.w, Xof σ0, Yof σ0⟩ m0 := by
    refine ⟨rfl, rfl, rfl, Nat.le_refl _, fun _ _ _ => rfl, ?_, ?_, fun k h => ⟨nolt h.1, h.2.1⟩, fun s e g c h1 h2 => by obtain ⟨t, _, j2⟩ := ent0 h1; exact hI.wf t e g c j2 h2⟩
    · intro s1 s2 e e' g h1 h2 h3 h4
      obtain ⟨t1, j1, j2⟩ := ent0 h1
      obtain ⟨t2, k1, k2⟩ := ent0 h2
      have := hI.inj t1 t2 e e' g j2 k2 h3 h4
      subst this
      exact nodupB_inj o1 (Ren.get_mem j1) (Ren.get_mem k1)
    · intro s e g h1 h2
      obtain ⟨t, j1, j2⟩ := ent0 h1
      refine ⟨(hI.at_ t e g j2 h2).1, fun ⟨q1, q2, _⟩ => ?_, fun hm => .inr ⟨s, e, h1, hm, h2⟩, .inr ⟨s, e, h1, h2⟩⟩
      rcases q1 with q | ⟨t', e', p1, p2, p3⟩
      · exact (hI.at_ t e g j2 h2).2.1 q
      · have := hI.inj t t' e e' g j2 p1 h2 p3
        subst this
        rw [j2] at p1
        injection p1 with p1
        injection p1 with p1
        subst p1
        exact q2 ⟨s, e, h1, p2, h2⟩
  have hno : ∀ k, m0.no k → m.no k := fun k h => by
    rcases h with h | ⟨s', e, h1, h2, h3⟩
    · exact h.1
    · obtain ⟨s, _, k2⟩ := ent0 h1
      exact .inr ⟨s, e, k2, h2, h3⟩
  have hσ0 : EntIs m.σ m0.σ ρ := fun s' s hr => by
    show _ ∧ _
    rw [show m0.σ s' = m.σ s from at0 hr]
    exact ⟨id, fun e he => .inr ⟨e, he, rfl, rfl⟩⟩
  have hfr : ∀ s ∈ fr, ∀ e g, m.σ s = some (some e) → e.has g → ¬ m0.no g := fun s hs' e g h1 h2 h => by
    rcases h with ⟨q1, _, q3⟩ | ⟨t', e', k1, k2, k3⟩
    · rcases hBk s hs' e g h1 h2 with h | h
      · exact h q1
      · exact q3 h
    · obtain ⟨t, j1, j2⟩ := ent0 k1
      have := hI.inj s t e e' g h1 j2 h2 k3
      subst this
      exact (key j1).2 hs'
  have rep0 : ∀ d d' r v, Cv sto ρ d d' r → (∀ s ∈ r, s ∈ fr) → Rep m v d → Rep m0 v d' := fun d d' r v hc hr hv =>
    hc.rep (m := m) (m' := m0) rfl hno hσ0 hI (fun s hs' ob hob => hHf s (hr s hs') ob hob) (fun s hs' => hfr s (hr s hs')) hv
  have hp0 : ∀ {v d}, PRep m.w m.no v d → PRep m0.w m0.no v d := fun h => PRep.ext (Nat.le_refl _) (fun k _ hk => ⟨rfl, fun h => hk (hno k h)⟩) h
  have hS0 := CvS.holds (m := m) (m' := m0) rfl hp0 rep0 at0 hS hr2 hHr
  have hR0 := CvL.reps rep0 hA hr1 hR
  have hlim0 : ∀ s, S.length ≤ s → σ0 s = none := fun s hs => by
    cases hr : ρ.get s with
    | none => simp only [σ0, hr]
    | some t => have := (key hr).1; omega
  refine (hc.2 m.w M0 σ0 vs hI0 hS0 hlim0 hR0).mono fun e w' ⟨v, σ1, he, hI1, hE1, hrep1, hS1, hlim1⟩ => ⟨v, he, ?_⟩
  let n := idb S' S.length - S.length
  let σ2 : Nat → Option (Option Ent) := fun s => if nxt ≤ s ∧ s < nxt + n then (if (S'.get (S.length + (s - nxt))).isSome then σ1 (S.length + (s - nxt)) else some none) else
    match ρ.inv s with
    | some s' => if (S'.get s').isSome then σ1 s' else some none
    | none => m.σ s
  let m1 : Mem := ⟨w', M0, σ1⟩
  let m2 : Mem := ⟨w', m.M, σ2⟩
  have invget : ∀ {s s'}, ρ.inv s = some s' ↔ ρ.get s' = some s := fun {s s'} => by
    constructor
    · intro h; exact nodupB_get o2 (Ren.inv_some h)
    · intro h
      obtain ⟨t, ht⟩ := Ren.inv_in (Ren.get_mem h)
      rw [ht, nodupB_inj o1 (Ren.inv_some ht) (Ren.get_mem h)]
  have notnew : ∀ {s' s}, ρ.get s' = some s → ¬ (nxt ≤ s ∧ s < nxt + n) := fun {s' s} h hn => by
    obtain ⟨e, he⟩ := hlive s' s h
    rw [hF s hn.1 hn.2] at he; cases he
  -- entries of m2
  have ent2 : ∀ {s e}, σ2 s = some (some e) → (∃ s', σ1 s' = some (some e) ∧ (S'.get s').isSome = true ∧ (ρ.get s' = some s ∨ (S.length ≤ s' ∧ s = nxt + (s' - S.length) ∧ nxt ≤ s ∧ s < nxt + n))) ∨ (m.σ s = some (some e) ∧ ρ.inv s = none ∧ ¬ (nxt ≤ s ∧ s < nxt + n)) := fun {s e} h => by
    simp only [σ2] at h
    split at h
    · rename_i hn
      split at h
      · rename_i hx
        exact .inl ⟨_, h, hx, .inr ⟨by omega, by omega, hn⟩⟩
      · cases h
    · rename_i hn
      split at h
      · rename_i s' hr
        split at h
        · rename_i hx
          exact .inl ⟨s', h, hx, .inl (invget.1 hr)⟩
        · cases h
      · rename_i hr
        exact .inr ⟨h, hr, hn⟩
  have cal : ∀ {s' e g}, σ1 s' = some (some e) → e.has g → g < w'.heap.size ∧ (m.w.heap.size ≤ g ∨ Yof σ0 g) ∧ (e.mu = true → m.w.heap.size ≤ g ∨ Xof σ0 g) := fun {s' e g} h1 h2 => by
    obtain ⟨q1, _, q3, q4⟩ := hI1.at_ s' e g h1 h2
    exact ⟨q1, q4, q3⟩
  have hsz : m.w.heap.size ≤ w'.heap.size := hI1.size
  have notX : ∀ {k}, k < F.w0.heap.size → ¬ F.X k → ¬ Xof σ0 k := fun {k} hk hX h => by
    obtain ⟨s', s, e, q1, q2, q3, q4⟩ := X0 h
    rcases (hI.at_ s e k q2 q4).2.2.1 q3 with h | h
    · omega
    · exact hX h
  have mixed : ∀ {s' e g s t}, σ1 s' = some (some e) → e.has g → m.σ s = some (some t) → ρ.inv s = none → t.has g → False := fun {s' e g s t} h1 h2 h3 h4 h5 => by
    rcases (cal h1 h2).2.1 with h | h
    · have := (hI.at_ s t g h3 h5).1; omega
    · obtain ⟨t', t2, e0, q1, q2, q3⟩ := Y0 h
      have := hI.inj s t2 t e0 g h3 q2 h5 q3
      subst this
      rw [invget.2 q1] at h4; cases h4
  have hI2 : Inv F m2 := by
    refine ⟨hI1.os.trans hI.os, hI1.tape.trans hI.tape, hI1.output.trans hI.output, Nat.le_trans hI.size hsz, fun k hk hX => ?_, ?_, ?_, hI.lt, fun s e g c h1 h2 => by
      rcases ent2 h1 with ⟨t, j1, _⟩ | ⟨j1, _⟩
      · exact hI1.wf t e g c j1 h2
      · exact hI.wf s e g c j1 h2⟩
    · rw [← hI.old k hk hX]
      exact hI1.old k (Nat.lt_of_lt_of_le hk hI.size) (notX hk hX)
    · intro s1 s2 e e' g h1 h2 h3 h4
      rcases ent2 h1 with ⟨t1, j1, jx, j2⟩ | ⟨j1, j2, j3⟩ <;> rcases ent2 h2 with ⟨t2, k1, kx, k2⟩ | ⟨k1, k2, k3⟩
      · have := hI1.inj t1 t2 e e' g j1 k1 h3 h4
        subst this
        rcases j2 with j2 | ⟨j2, j3, j4, j5⟩ <;> rcases k2 with k2 | ⟨k2, k3, k4, k5⟩
        · rw [j2] at k2; injection k2
        · have := (key j2).1; omega
        · have := (key k2).1; omega
        · omega
      · exact (mixed j1 h3 k1 k2 h4).elim
      · exact (mixed k1 h4 j1 j2 h3).elim
      · exact hI.inj s1 s2 e e' g j1 k1 h3 h4
    · intro s e g h1 h2
      rcases ent2 h1 with ⟨t, j1, jx, j2⟩ | ⟨j1, j2, j3⟩
      · obtain ⟨q1, q2, q3⟩ := cal j1 h2
        refine ⟨q1, fun hM => ?_, fun hm => ?_, ?_⟩
        · have hlt := Nat.lt_of_lt_of_le (hI.lt g hM).1 hI.size
          rcases q2 with q | q
          · omega
          · obtain ⟨_, s0, e0, _, p2, p3⟩ := Y0 q
            exact (hI.at_ s0 e0 g p2 p3).2.1 hM
        · rcases q3 hm with q | q
          · exact .inl (Nat.le_trans hI.size q)
          · obtain ⟨_, s0, e0, _, p2, p3, p4⟩ := X0 q
            exact (hI.at_ s0 e0 g p2 p4).2.2.1 p3
        · rcases q2 with q | q
          · exact .inl (Nat.le_trans hI.size q)
          · obtain ⟨_, s0, e0, _, p2, p3⟩ := Y0 q
            exact (hI.at_ s0 e0 g p2 p3).2.2.2
      · obtain ⟨q1, q2⟩ := hI.at_ s e g j1 h2
        exact ⟨Nat.lt_of_lt_of_le q1 hsz, q2⟩
  have inU : ∀ {s' s}, ρ.get s' = some s → s ∈ (callU ρ S.length nxt S').map (·.1) := fun {s' s} h => by
    unfold callU
    rw [List.map_append, List.mem_append, List.map_map]
    exact .inl (List.mem_map.2 ⟨(s', s), Ren.get_mem h, rfl⟩)
  have inU2 : ∀ {s}, nxt ≤ s → s < nxt + n → s ∈ (callU ρ S.length nxt S').map (·.1) := fun {s} h1 h2 => by
    unfold callU
    rw [List.map_append, List.mem_append]
    refine .inr ?_
    rw [List.map_map]
    exact List.mem_map.2 ⟨s - nxt, List.mem_range.2 (by simp only [n] at h2; omega), by show nxt + (s - nxt) = s; omega⟩
  have hL2 : Loc ((callU ρ S.length nxt S').map (·.1)) m m2 := by
    refine ⟨⟨hsz, rfl, fun k hk hn => ⟨?_, fun h => ?_⟩, fun s x hx => ?_⟩, fun s hs => ?_, fun k hk h => ?_⟩
    · refine hI1.old k hk fun h => hn ?_
      obtain ⟨_, s0, e0, _, p2, p3, p4⟩ := X0 h
      exact .inr ⟨s0, e0, p2, p3, p4⟩
    · rcases h with h | ⟨s, e, h1, h2, h3⟩
      · exact hn (.inl h)
      · rcases ent2 h1 with ⟨t, j1, jx, j2⟩ | ⟨j1, j2, j3⟩
        · rcases (cal j1 h3).2.2 h2 with q | q
          · omega
          · obtain ⟨_, s0, e0, _, p2, p3, p4⟩ := X0 q
            exact hn (.inr ⟨s0, e0, p2, p3, p4⟩)
        · exact hn (.inr ⟨s, e, j1, h2, h3⟩)
    · show ∃ x', σ2 s = some x' ∧ _
      simp only [σ2]
      rw [if_neg (fun hn => by rw [hF s hn.1 hn.2] at hx; cases hx)]
      split
      · rename_i s' hr
        split
        · have := at0 (invget.1 hr)
          exact hE1 s' x (by rw [this]; exact hx)
        · exact ⟨none, rfl, fun e h => by cases h⟩
      · exact ⟨x, hx, fun e h => ⟨e, h, rfl, rfl⟩⟩
    · show σ2 s = m.σ s
      simp only [σ2]
      rw [if_neg fun hn => hs (inU2 hn.1 hn.2)]
      split
      · rename_i s' hr; exact absurd (inU (invget.1 hr)) hs
      · rfl
    · refine hI1.old k hk fun hX => ?_
      obtain ⟨s', s0, e0, p1, p2, p3, p4⟩ := X0 hX
      exact h s0 e0 p2 p4 (inU p1)
  have phiσ : ∀ s x, m1.σ s = some x → m2.σ (phi ρ S.length nxt s) = some x ∨ m2.σ (phi ρ S.length nxt s) = some none := fun s x hx => by
    have hlt : s < idb S' S.length := by
      rcases Nat.lt_or_ge s (idb S' S.length) with h | h
      · exact h
      · rw [show m1.σ s = none from hlim1 s h] at hx; cases hx
    show σ2 _ = _ ∨ σ2 _ = _
    unfold phi
    cases hr : ρ.get s with
    | some t =>
      simp only [σ2]
      rw [if_neg (notnew hr), invget.2 hr]
      dsimp only
      split
      · exact .inl hx
      · exact .inr rfl
    | none =>
      have hge : S.length ≤ s := by
        rcases Nat.lt_or_ge s S.length with h | h
        · have := o4 s (List.mem_range.2 h)
          rw [hr] at this; cases this
        · exact h
      simp only [σ2]
      rw [if_pos (by simp only [n]; omega), show S.length + (nxt + (s - S.length) - nxt) = s by omega]
      split
      · exact .inl hx
      · exact .inr rfl
  have hno2 : (∀ k, ¬ Bk k) → ∀ k, m2.no k → m1.no k := fun hB k h => by
    rcases h with h | ⟨s, e, h1, h2, h3⟩
    · refine .inl ⟨.inl h, fun hX => ?_, hB k⟩
      obtain ⟨_, s0, e0, _, p2, p3, p4⟩ := X0 hX
      exact (hI.at_ s0 e0 k p2 p4).2.1 h
    · rcases ent2 h1 with ⟨t, j1, jx, j2⟩ | ⟨j1, j2, j3⟩
      · exact .inr ⟨t, e, j1, h2, h3⟩
      · refine .inl ⟨.inr ⟨s, e, j1, h2, h3⟩, fun hX => ?_, hB k⟩
        obtain ⟨s', s0, e0, p1, p2, p3, p4⟩ := X0 hX
        have := hI.inj s s0 e e0 k j1 p2 h3 p4
        subst this
        rw [invget.2 p1] at j2; cases j2
  refine ⟨m2, rfl, hI2, hL2, ren_rep (m1 := m1) phiσ hrep1 (hsc.imp (·.1) fun h => ⟨rfl, hno2 h⟩), fun p hp => ?_⟩
  have hold : ∀ s' ob, S'.get s' = some ob → m2.σ (phi ρ S.length nxt s') = m1.σ s' → Holds m2 (phi ρ S.length nxt s') (renO (phi ρ S.length nxt) ob) := fun s' ob h1 h2 =>
    ren_holds (m1 := m1) phiσ (hS1 s' ob h1) h2 rfl (hsc.imp (fun h => h.2 s' ob h1) fun h => hno2 h)
  unfold callU at hp
  rcases List.mem_append.1 hp with hp | hp
  · obtain ⟨⟨s', s⟩, hq, rfl⟩ := List.mem_map.1 hp
    have hr := nodupB_get o2 hq
    have hphi : phi ρ S.length nxt s' = s := by unfold phi; rw [hr]
    have hσ2 : σ2 s = if (S'.get s').isSome then σ1 s' else some none := by
      simp only [σ2]
      rw [if_neg (notnew hr), invget.2 hr]
    unfold Upd
    dsimp only
    cases hx : S'.get s' with
    | none => rw [hx] at hσ2; exact hσ2
    | some ob =>
      rw [hx] at hσ2
      have := hold s' ob hx (by rw [hphi]; exact hσ2)
      rw [hphi] at this
      exact this
  · obtain ⟨i, hi, rfl⟩ := List.mem_map.1 hp
    have hi' : i < n := List.mem_range.1 hi
    have hr : ρ.get (S.length + i) = none := by
      cases hr : ρ.get (S.length + i) with
      | none => rfl
      | some t => have := (key hr).1; omega
    have hphi : phi ρ S.length nxt (S.length + i) = nxt + i := by unfold phi; rw [hr]; dsimp only; omega
    have hσ2 : σ2 (nxt + i) = if (S'.get (S.length + i)).isSome then σ1 (S.length + i) else some none := by
      simp only [σ2]
      rw [if_pos (by omega), show nxt + i - nxt = i by omega]
    unfold Upd
    dsimp only
    cases hx : S'.get (S.length + i) with
    | none => rw [hx] at hσ2; exact hσ2
    | some ob =>
      rw [hx] at hσ2
      have := hold _ ob hx (by rw [hphi]; exact hσ2)
      rw [hphi] at this
      exact this
end
end Go.Proofs.Ythpnlnjdmlbnaaa
/- Calls as operations on data. No condition. -/
namespace Go.Proofs.Ythpnlnjdmlbnaaa
open Go.RowKit
set_option linter.unusedSimpArgs false
set_option linter.unusedVariables false

section
variable {P : Program} {env : Env} {sto : Sto} {nxt : Nat} {o : Oper}

/-- what is called: a function, or a closure with what it has caught -/
inductive CalleeD (env : Env) : Operand → Nat → List DV → Prop
  | func {f : Nat} : CalleeD env (.func f) f []
  | tmp {t f : Nat} : env.get t = .lit (.func (.func f) #[] #[]) → CalleeD env (.tmp t) f []
  | clo {t f : Nat} {cap : List DV} : env.get t = .fn f cap → CalleeD env (.tmp t) f cap

theorem exec_call {m : Mem} {a : Act} {c : Operand} {l : List Operand} {ty : Array TypeId} {f : Nat} {cap : List DV} (ho : o.op = .call ⟨.value c, l.toArray, ty⟩) (hE : OpsRep m a env o) (hc : CalleeD env c f cap) (hf : ∀ args w, (callFunc f args).run P w = .ok (.enter f args) w) :
    ∃ vs : List Value, (execOp a.eval o).run P m.w = .ok (.enter f vs.toArray) m.w ∧ Reps m vs (l.map (opd env) ++ cap) := by
  have hargs : Reps m (l.map a.eval) (l.map (opd env)) := ⟨by simp, evals_rep fun x hx => hE x (by simp [ho, Op.operands, Call.operands, hx])⟩
  have app : ∀ {us : List Value} {cap : List DV}, Reps m us cap → Reps m (l.map a.eval ++ us) (l.map (opd env) ++ cap) := fun {us cap} h => by
    refine ⟨by simp [h.1], fun i v d hv hd => ?_⟩
    by_cases hi : i < l.length
    · rw [List.getElem?_append_left (by simpa using hi)] at hv hd
      exact hargs.2 i v d hv hd
    · rw [List.getElem?_append_right (by simp; omega)] at hv hd
      simp only [List.length_map] at hv hd
      exact h.2 _ v d hv hd
  have hcv := hE c (by simp [ho, Op.operands, Call.operands])
  cases hc with
  | func =>
    refine ⟨l.map a.eval ++ [], ?_, app ⟨rfl, fun i v d hv => by simp at hv⟩⟩
    simp [execOp, ho, resolve, Act.eval, Deferred.ofValue, invoke, hf]
  | @tmp t _ h =>
    have : a.eval (.tmp t) = .func (.func f) #[] #[] := by
      have h2 := hcv
      rw [show opd env (.tmp t) = _ from h] at h2
      exact h2.lit_inv
    refine ⟨l.map a.eval ++ [], ?_, app ⟨rfl, fun i v d hv => by simp at hv⟩⟩
    simp [execOp, ho, resolve, this, Deferred.ofValue, invoke, hf]
  | @clo t _ cap h =>
    have h2 := hcv
    rw [show opd env (.tmp t) = _ from h] at h2
    obtain ⟨us, h3, h4, h5⟩ := h2.fn_inv
    refine ⟨l.map a.eval ++ us, ?_, app ⟨h4, h5⟩⟩
    simp [execOp, ho, resolve, h3, Deferred.ofValue, invoke, hf]

theorem CvS.keys {ρ : Ren} {S : Sto} {fr : List Nat} (h : CvS sto ρ S fr) : ∀ s ob, S.get s = some ob → ∃ t ob', ρ.get s = some t ∧ sto.get t = some ob' := by
  induction h with
  | nil => intro s ob h; cases h
  | @cons s' s ob ob' l r r' h1 h2 _ _ ih =>
    intro t ob1 ht
    rw [Sto.get_cons] at ht
    split at ht
    · rename_i h; subst h; exact ⟨s, ob, h1, h2⟩
    · exact ih t ob1 ht

def outOf (ρ : Ren) (n0 nxt : Nat) (r : DV) (S' : Sto) (us : List (Nat × Option Ob)) (fr : List Nat) : Out :=
  ⟨ren (phi ρ n0 nxt) r, callU ρ n0 nxt S' ++ us, ρ.map (·.2) ++ fr, idb S' n0 - n0⟩

/-- objects of the renaming are known -/
def knownB (sto : Sto) (ρ : Ren) : Bool := ρ.all fun p => (sto.get p.2).isSome
theorem known_live {m : Mem} {ρ : Ren} (hk : knownB sto ρ = true) (hH : HoldsAll m sto (ρ.map (·.2))) : ∀ s' s, ρ.get s' = some s → ∃ e, m.σ s = some (some e) := fun s' s h => by
  have := List.all_eq_true.1 hk _ (Ren.get_mem h)
  obtain ⟨ob, hob⟩ := Option.isSome_iff_exists.1 this
  obtain ⟨e, he, _⟩ := hH s (List.mem_map.2 ⟨_, Ren.get_mem h, rfl⟩) ob hob
  exact ⟨e, he⟩

/-- a call; what is handed in as plain data is frozen -/
theorem r_callF {c : Operand} {args : Array Operand} {l : List Operand} {ty : Array TypeId} {f : Nat} {cap ds : List DV} {S : Sto} {r : DV} {S' : Sto} {ρ : Ren} {fr1 fr2 : List Nat} (ho : o.op = .call ⟨.value c, args, ty⟩) (hl : args = l.toArray) (hcl : CalleeD env c f cap) (hc : DCall P f ds S r S')
    (hA : CvL sto ρ (l.map (opd env) ++ cap) ds fr1) (hS : CvS sto ρ S fr2) (hok : okC ρ (fr1 ++ fr2) S.length = true) (hkn : knownB sto ρ = true) :
    OpOK P o env sto nxt (outOf ρ S.length nxt r S' (frzU sto (fr1 ++ fr2)) (fr1 ++ fr2)) := fun F m a hI hE hH hF K Q hK => by
  subst hl
  obtain ⟨vs, h1, h2⟩ := exec_call (P := P) ho hE hcl hc.1
  have hHr : HoldsAll m sto (ρ.map (·.2)) := fun s hs => hH s (List.mem_append_left _ hs)
  have hHf : HoldsAll m sto (fr1 ++ fr2) := fun s hs => hH s (List.mem_append_right _ hs)
  obtain ⟨hIf, hLf⟩ := frz_ok hI (fr1 ++ fr2)
  have hdis : ∀ s' s, ρ.get s' = some s → s ∉ fr1 ++ fr2 := fun s' s h hin => by
    simp only [okC, Bool.and_eq_true, List.all_eq_true, Bool.not_eq_true'] at hok
    have := (hok.1.2 _ (Ren.get_mem h)).2
    rw [List.contains_iff_mem.2 hin] at this; cases this
  have hfz : ∀ s ∈ fr1 ++ fr2, ∀ e g, (frz m (fr1 ++ fr2)).σ s = some (some e) → e.has g → ¬ (frz m (fr1 ++ fr2)).no g := fun s hs e g h1 h2 => by
    refine not_no_has hIf h1 h2 ?_
    obtain ⟨e0, q1, _⟩ := frz_some h1
    rw [frz_in hs q1] at h1
    simp only [Option.map_some, Option.some.injEq] at h1
    rw [← h1]
  have core := call_core (m := frz m (fr1 ++ fr2)) (nxt := nxt) hIf hc hok (fun s hs => List.mem_append_left _ hs) (fun s hs => List.mem_append_right _ hs)
    (fun s hs ob hob => ⟨true, frz_holds hI hs (hHf s hs ob hob)⟩) (fun s' s ob hr hob => frz_keeps hI (hHr s (List.mem_map.2 ⟨_, Ren.get_mem hr, rfl⟩) ob hob) (hdis s' s hr)) hS hA
    (show Reps (frz m (fr1 ++ fr2)) vs _ from ⟨h2.1, fun i v d hv hd => (h2.2 i v d hv hd).ext hLf.toExt⟩)
    (fun s q1 q2 => by
      have := hF s q1 q2
      show (if s ∈ fr1 ++ fr2 then _ else _) = _
      split
      · rw [this]; rfl
      · exact this)
    (fun s' s hr => by
      obtain ⟨e, he⟩ := known_live hkn hHr s' s hr
      refine ⟨e, ?_⟩
      show (if s ∈ fr1 ++ fr2 then _ else _) = _
      rw [if_neg (hdis s' s hr)]; exact he)
    (fun _ => False) (fun s hs e g q1 q2 => .inl (hfz s hs e g q1 q2)) (.inr fun k h => h)
  unfold Oper.wp
  rw [h1]
  refine Calls.mono core fun e w' ⟨v, he, m', hw, hI', hL', hr', hU'⟩ => ?_
  subst he
  subst hw
  show K (a.put o.dst v) m'.w
  have hL := Loc.trans hLf hL' fun s e g he hb hg hs => by
    obtain ⟨e0, k1, k2, k3, _, k5⟩ := frz_some he
    exact ⟨s, e0, k1, Ent.has_eq k3 k5 hb, hs⟩
  have mem_fr : ∀ s ∈ fr1 ++ fr2, (sto.get s).isSome = true → s ∈ (frzU sto (fr1 ++ fr2)).map (·.1) := fun s hs hx => by
    generalize fr1 ++ fr2 = L at hs
    induction L with
    | nil => cases hs
    | cons x L ih =>
      unfold frzU
      rcases List.mem_cons.1 hs with rfl | h
      · obtain ⟨ob, hob⟩ := Option.isSome_iff_exists.1 hx
        rw [hob]; simp
      · split
        · exact List.mem_cons_of_mem _ (ih h)
        · exact ih h
  have known : ∀ {xs ys : List DV} {r : List Nat}, CvL sto ρ xs ys r → ∀ s ∈ r, (sto.get s).isSome = true := fun h => h.known
  have knownS : ∀ {S : Sto} {r : List Nat}, CvS sto ρ S r → ∀ s ∈ r, (sto.get s).isSome = true := by
    intro S r h
    induction h with
    | nil => intro s hs; cases hs
    | cons h1 h2 h3 _ ih =>
      intro s hs
      rcases List.mem_append.1 hs with h | h
      · cases h3 with
        | arr => cases h
        | rows _ _ hk => exact hk s h
      · exact ih s h
  have fr_in : ∀ s ∈ fr1 ++ fr2, s ∈ (frzU sto (fr1 ++ fr2)).map (·.1) := fun s hs => mem_fr s hs (by
    rcases List.mem_append.1 hs with h | h
    · exact known hA s h
    · exact knownS hS s h)
  refine hK v m' hI' ⟨hL.toExt, fun s hs => hL.same s fun h => hs ?_, fun k hk hn => hL.blk k hk fun s e he hb h => hn s e he hb ?_⟩ hr' fun p hp => ?_
  · show s ∈ (callU ρ S.length nxt S' ++ frzU sto (fr1 ++ fr2)).map (·.1)
    rw [List.map_append, List.mem_append]
    rcases List.mem_append.1 h with h | h
    · exact .inr (fr_in s h)
    · exact .inl h
  · show s ∈ (callU ρ S.length nxt S' ++ frzU sto (fr1 ++ fr2)).map (·.1)
    rw [List.map_append, List.mem_append]
    rcases List.mem_append.1 h with h | h
    · exact .inr (fr_in s h)
    · exact .inl h
  · rcases List.mem_append.1 (show p ∈ callU ρ S.length nxt S' ++ frzU sto (fr1 ++ fr2) from hp) with hp | hp
    · exact hU' p hp
    · have hu := frzU_upd hI (fun _ h => h) hHf p hp
      have hpin : p.1 ∈ fr1 ++ fr2 := by
        have key : ∀ L : List Nat, p ∈ frzU sto L → p.1 ∈ L := by
          intro L
          induction L with
          | nil => intro h; cases h
          | cons x L ih =>
            intro h
            unfold frzU at h
            split at h
            · rcases List.mem_cons.1 h with rfl | h
              · simp
              · exact List.mem_cons_of_mem _ (ih h)
            · exact List.mem_cons_of_mem _ (ih h)
        exact key _ hp
      have hne : p.1 ∉ (callU ρ S.length nxt S').map (·.1) := fun h => by
        unfold callU at h
        rw [List.map_append, List.mem_append, List.map_map, List.map_map] at h
        rcases h with h | h
        · obtain ⟨q, hq, hqe⟩ := List.mem_map.1 h
          simp only [okC, Bool.and_eq_true, List.all_eq_true, Bool.not_eq_true'] at hok
          have := (hok.1.2 _ hq).2
          rw [List.contains_iff_mem.2 (show q.2 ∈ fr1 ++ fr2 from (show p.1 = q.2 from hqe.symm) ▸ hpin)] at this; cases this
        · obtain ⟨i, hi, hie⟩ := List.mem_map.1 h
          have h0 := hF (nxt + i) (by omega) (by show nxt + i < nxt + (idb S' S.length - S.length); have := List.mem_range.1 hi; omega)
          have hx : (sto.get p.1).isSome = true := by
            rcases List.mem_append.1 hpin with h | h
            · exact known hA _ h
            · exact knownS hS _ h
          obtain ⟨ob, hob⟩ := Option.isSome_iff_exists.1 hx
          obtain ⟨e, he, _⟩ := hHf p.1 hpin ob hob
          rw [show p.1 = nxt + i from hie.symm, h0] at he; cases he
      unfold Upd at hu ⊢
      cases hq : p.2 with
      | some ob => rw [hq] at hu; exact Holds.loc hIf hL' hne hu
      | none => rw [hq] at hu; dsimp only at hu ⊢; rw [hL'.same p.1 hne]; exact hu

/-- a call; nothing plain comes back, so nothing has to be frozen -/
theorem r_callB {c : Operand} {args : Array Operand} {l : List Operand} {ty : Array TypeId} {f : Nat} {cap ds : List DV} {S : Sto} {r : DV} {S' : Sto} {ρ : Ren} {fr1 fr2 : List Nat} (ho : o.op = .call ⟨.value c, args, ty⟩) (hl : args = l.toArray) (hcl : CalleeD env c f cap) (hc : DCall P f ds S r S')
    (hr : Sc r) (hsS : ScS S') (hA : CvL sto ρ (l.map (opd env) ++ cap) ds fr1) (hS : CvS sto ρ S fr2) (hok : okC ρ (fr1 ++ fr2) S.length = true) (hkn : knownB sto ρ = true) :
    OpOK P o env sto nxt (outOf ρ S.length nxt r S' [] (fr1 ++ fr2)) := fun F m a hI hE hH hF K Q hK => by
  subst hl
  obtain ⟨vs, h1, h2⟩ := exec_call (P := P) ho hE hcl hc.1
  have hHr : HoldsAll m sto (ρ.map (·.2)) := fun s hs => hH s (List.mem_append_left _ hs)
  have hHf : HoldsAll m sto (fr1 ++ fr2) := fun s hs => hH s (List.mem_append_right _ hs)
  have core := call_core (nxt := nxt) hI hc hok (fun s hs => List.mem_append_left _ hs) (fun s hs => List.mem_append_right _ hs) hHf.f
    (fun s' s ob hr hob => hHr s (List.mem_map.2 ⟨_, Ren.get_mem hr, rfl⟩) ob hob) hS hA h2 hF (known_live hkn hHr)
    (fun k => ∃ s ∈ fr1 ++ fr2, ∃ e, m.σ s = some (some e) ∧ e.has k) (fun s hs e g q1 q2 => .inr ⟨s, hs, e, q1, q2⟩) (.inl ⟨hr, hsS⟩)
  unfold Oper.wp
  rw [h1]
  refine Calls.mono core fun e w' ⟨v, he, m', hw, hI', hL', hr', hU'⟩ => ?_
  subst he
  subst hw
  refine hK v m' hI' ?_ hr' fun p hp => hU' p ?_
  · simpa only [outOf, List.append_nil] using hL'
  · have : p ∈ callU ρ S.length nxt S' ++ [] := hp
    rwa [List.append_nil] at this
end
end Go.Proofs.Ythpnlnjdmlbnaaa
/- Slices inside of objects: they become objects of their own, and go back. No condition. -/
namespace Go.Proofs.Ythpnlnjdmlbnaaa
open Go.RowKit
set_option linter.unusedSimpArgs false
set_option linter.unusedVariables false

theorem get_lt {α : Type} {l : List α} {i : Nat} {a : α} (h : l[i]? = some a) : i < l.length := by
  rcases Nat.lt_or_ge i l.length with h' | h'
  · exact h'
  · rw [List.getElem?_eq_none h'] at h; cases h
/-- a cell of a row is another one -/
def setC (els : List (List DV)) (i j : Nat) (d : DV) : List (List DV) := els.set i ((els.getD i []).set j d)
theorem setC_get {els : List (List DV)} {i j : Nat} {x : List DV} {d0 d : DV} (hx : els[i]? = some x) (hj : x[j]? = some d0) {i' j' : Nat} {x' : List DV} {d' : DV} (h1 : (setC els i j d)[i']? = some x') (h2 : x'[j']? = some d') :
    (i' = i ∧ j' = j ∧ d' = d) ∨ (¬ (i' = i ∧ j' = j) ∧ ∃ x0, els[i']? = some x0 ∧ x0[j']? = some d') := by
  have hi := get_lt hx
  have hjl := get_lt hj
  unfold setC at h1
  have e : els.getD i [] = x := by rw [List.getD_eq_getElem?_getD, hx]; rfl
  rw [e] at h1
  by_cases hii : i' = i
  · subst hii
    rw [List.getElem?_set_self hi] at h1
    injection h1 with h1
    subst h1
    by_cases hjj : j' = j
    · subst hjj
      rw [List.getElem?_set_self hjl] at h2
      injection h2 with h2
      exact .inl ⟨rfl, rfl, h2.symm⟩
    · rw [List.getElem?_set_ne (fun h => hjj h.symm)] at h2
      exact .inr ⟨fun h => hjj h.2, x, hx, h2⟩
  · rw [List.getElem?_set_ne (fun h => hii h.symm)] at h1
    exact .inr ⟨fun h => hii h.1, x', h1, h2⟩
theorem setC_sz {els : List (List DV)} {i j : Nat} {x : List DV} {d : DV} (hx : els[i]? = some x) {z : Nat} (h : ∀ (i : Nat) x, els[i]? = some x → x.length = z) {i' : Nat} {x' : List DV} (h1 : (setC els i j d)[i']? = some x') : x'.length = z := by
  have e : els.getD i [] = x := by rw [List.getD_eq_getElem?_getD, hx]; rfl
  unfold setC at h1
  rw [e] at h1
  by_cases hii : i' = i
  · subst hii
    rw [List.getElem?_set_self (get_lt hx)] at h1
    injection h1 with h1
    subst h1
    rw [List.length_set]
    exact h _ _ hx
  · rw [List.getElem?_set_ne (fun h => hii h.symm)] at h1
    exact h _ _ h1
theorem setC_len {els : List (List DV)} {i j : Nat} {d : DV} : (setC els i j d).length = els.length := by simp [setC]

section
variable {F : Fm} {m : Mem}
theorem row_cell {ob : Ob} {g cap : Nat} (r : Row m ob g cap) {i j : Nat} {x : List DV} {d : DV} (hx : ob.els[i]? = some x) (hj : x[j]? = some d) : ∃ u, m.w.cell? ⟨g, i * ob.esz + j, none⟩ = some u ∧ CRep m ob.arr u d := by
  obtain ⟨cur, T, c1, c2, c3⟩ := r.cells
  obtain ⟨u, hu, h⟩ := c3 i x j d hx hj
  exact ⟨u, by rw [cell_of_row m.w g _ cur T (0, 0) c1]; exact hu, h⟩
/-- another world, other cells: a row's -/
theorem row_turn {m' : Mem} {ob ob' : Ob} {g cap : Nat} (r : Row m ob g cap) (hw : m'.w = m.w) (hz : ob'.esz = ob.esz) (hl : ob'.els.length = ob.els.length) (hs : ∀ (i : Nat) x, ob'.els[i]? = some x → x.length = ob.esz)
    (h : ∀ (i : Nat) x (j : Nat) d u, ob'.els[i]? = some x → x[j]? = some d → m.w.cell? ⟨g, i * ob.esz + j, none⟩ = some u → CRep m' ob'.arr u d) : Row m' ob' g cap := by
  obtain ⟨cur, T, c1, c2, c3⟩ := r.cells
  refine ⟨⟨cur, T, by rw [hw]; exact c1, by rw [hz]; exact c2, fun i x j d hx hd => ?_⟩, by rw [hl]; exact r.len, r.max, by rw [hz]; exact r.pos, fun i x hx => by rw [hz]; exact hs i x hx⟩
  have h1 := get_lt hx
  rw [hl] at h1
  have hlen := r.sz i _ (List.getElem?_eq_getElem h1)
  have h2 := hs i x hx
  have h3 := get_lt hd
  obtain ⟨u, hu, _⟩ := c3 i _ j _ (List.getElem?_eq_getElem h1) (List.getElem?_eq_getElem (show j < ob.els[i].length by omega))
  rw [hz]
  exact ⟨u, hu, h i x j d u hx hd (by rw [cell_of_row m.w g _ cur T (0, 0) c1]; exact hu)⟩

/-- a slice inside becomes an object -/
theorem deep_split (hI : Inv F m) {s t : Nat} {ob : Ob} (hs : Holds m s ob) (ha : ob.arr = false) (ht : m.σ t = none) {i j z : Nat} {x : List DV} {l : List (List DV)} (hx : ob.els[i]? = some x) (hj : x[j]? = some (.dp z l)) :
    ∃ m' e g cap u, m'.w = m.w ∧ m'.M = m.M ∧ Inv F m' ∧ Loc [s, t] m m' ∧ m.σ s = some (some e) ∧ e.blk = some (g, cap) ∧ m.w.cell? ⟨g, i * ob.esz + j, none⟩ = some u ∧ Rep m' u (.own t 0 l.length) ∧
      Holds m' s { ob with els := setC ob.els i j (.own t 0 l.length) } ∧ Holds m' t ⟨z, true, ob.frz, l⟩ := by
  obtain ⟨e, h1, h2, h3, h4⟩ := hs
  have hst : s ≠ t := fun h => by subst h; rw [h1] at ht; cases ht
  cases hb : e.blk with
  | none =>
    rw [hb] at h4
    rw [h4.1] at hx
    simp at hx
  | some p =>
    obtain ⟨g, cap⟩ := p
    rw [hb] at h4
    obtain ⟨r, B, d1, d2⟩ := h4
    obtain ⟨u, u1, u2⟩ := d1 i x j z l hx hj
    -- the entries
    let e' : Ent := { e with inn := fun k => e.inn k ∧ B i j ≠ some k }
    have key : ∃ et : Ent, et.esz = z ∧ et.mu = e.mu ∧ et.inn = noI ∧ (∀ k, et.has k → B i j = some k ∧ e.inn k) ∧ (∀ m' : Mem, m'.w = m.w → Ext m m' → m'.σ t = some (some et) → Rep m' u (.own t 0 l.length) ∧ Holds m' t ⟨z, true, ob.frz, l⟩) := by
      cases hB : B i j with
      | none =>
        rw [hB] at u2
        obtain ⟨rfl, rfl, hz⟩ := u2
        exact ⟨⟨z, none, e.mu, noI⟩, rfl, rfl, rfl, fun k h => by rcases h with ⟨c, h⟩ | h; cases h; exact h.elim, fun m' hw he hσ => ⟨.ownNil hσ rfl, ⟨_, hσ, rfl, h3, rfl, hz⟩⟩⟩
      | some b =>
        rw [hB] at u2
        obtain ⟨q1, cp, rfl, q3⟩ := u2
        refine ⟨⟨z, some (b, cp), e.mu, noI⟩, rfl, rfl, rfl, fun k h => ?_, fun m' hw he hσ => ⟨?_, ⟨_, hσ, rfl, h3, ?_⟩⟩⟩
        · rcases h with ⟨c, h⟩ | h
          · injection h with h
            injection h with h _
            subst h
            exact ⟨rfl, q1⟩
          · exact h.elim
        · have := Rep.own (m := m') (off := 0) (len := l.length) hσ rfl (by have := q3.len; dsimp only at this ⊢; omega) q3.max
          simpa using this
        · have row : Row m' ⟨z, true, ob.frz, l⟩ b cp := row_turn q3 hw rfl rfl q3.sz (fun i x j d u hx hd hu => by
            obtain ⟨u', k1, k2⟩ := row_cell q3 hx hd
            rw [show i * (⟨z, true, false, l⟩ : Ob).esz + j = i * z + j from rfl] at k1 hu
            rw [k1] at hu
            injection hu with hu
            subst hu
            exact k2.ext he)
          exact ⟨row, row.deep rfl _⟩
    obtain ⟨et, t1, t2, t3, t4, t5⟩ := key
    have one : ∀ s1 ∈ [s, t], ∀ e1, setE (setE m.σ s (some e')) t (some et) s1 = some (some e1) → (s1 = s ∧ e1 = e') ∨ (s1 = t ∧ e1 = et) := fun s1 hs1 e1 h => by
      rcases List.mem_cons.1 hs1 with rfl | hs1
      · rw [setE_ne _ _ hst, setE_same] at h
        injection h with h
        injection h with h
        exact .inl ⟨rfl, h.symm⟩
      · obtain rfl : s1 = t := by simpa using hs1
        rw [setE_same] at h
        injection h with h
        injection h with h
        exact .inr ⟨rfl, h.symm⟩
    have sub : ∀ k, e'.has k → e.has k ∧ B i j ≠ some k := fun k h => by
      rcases h with ⟨c, h⟩ | h
      · refine ⟨.inl ⟨c, h⟩, fun hB => ?_⟩
        have h : e.blk = some (k, c) := h
        rw [hb] at h
        injection h with h
        injection h with h _
        subst h
        rw [hB] at u2
        exact hI.wf s e _ cap h1 hb u2.1
      · exact ⟨.inr h.1, h.2⟩
    have hT := turn hI [s, t] m.w (setE (setE m.σ s (some e')) t (some et)) rfl rfl rfl (Nat.le_refl _) (fun _ _ _ => rfl)
      (fun k hk => by rw [setE_ne _ _ (fun h => hk (by simp [h])), setE_ne _ _ (fun h => hk (by simp [h]))])
      (fun s1 hs1 x0 hx0 => by
        rcases List.mem_cons.1 hs1 with rfl | hs1
        · rw [h1] at hx0
          injection hx0 with hx0
          subst hx0
          exact ⟨_, by rw [setE_ne _ _ hst, setE_same], fun e1 h => by injection h with h; subst h; exact ⟨e, rfl, rfl, rfl⟩⟩
        · obtain rfl : s1 = t := by simpa using hs1
          rw [ht] at hx0; cases hx0)
      (fun s1 hs1 e1 k g1 g2 => by
        refine .inl ⟨s, by simp, e, h1, ?_⟩
        rcases one s1 hs1 e1 g1 with ⟨rfl, rfl⟩ | ⟨rfl, rfl⟩
        · obtain ⟨p1, p2⟩ := sub k g2
          refine ⟨p1, fun h => h, fun s2 hs2 e2 q1 q2 => ?_⟩
          rcases one s2 hs2 e2 q1 with ⟨rfl, _⟩ | ⟨rfl, rfl⟩
          · rfl
          · exact absurd (t4 k q2).1 p2
        · obtain ⟨p1, p2⟩ := t4 k g2
          refine ⟨.inr p2, fun h => by rw [← t2]; exact h, fun s2 hs2 e2 q1 q2 => ?_⟩
          rcases one s2 hs2 e2 q1 with ⟨rfl, rfl⟩ | ⟨rfl, _⟩
          · exact absurd p1 (sub k q2).2
          · rfl)
      (fun s1 hs1 e1 g0 c0 g1 g2 => by
        rcases one s1 hs1 e1 g1 with ⟨rfl, rfl⟩ | ⟨rfl, rfl⟩
        · exact fun h => hI.wf s1 e g0 c0 h1 g2 h.1
        · rw [t3]; exact id)
    have hσs : (setE (setE m.σ s (some e')) t (some et)) s = some (some e') := by rw [setE_ne _ _ hst, setE_same]
    obtain ⟨v1, v2⟩ := t5 ⟨m.w, m.M, setE (setE m.σ s (some e')) t (some et)⟩ rfl hT.2.toExt (setE_same _ _ _)
    refine ⟨⟨m.w, m.M, setE (setE m.σ s (some e')) t (some et)⟩, e, g, cap, u, rfl, rfl, hT.1, hT.2, h1, hb, u1, v1, ⟨e', hσs, h2, h3, ?_⟩, v2⟩
    show match e.blk with | none => _ | some (g, cap) => _
    rw [hb]
    refine ⟨row_turn (ob' := { ob with els := setC ob.els i j (.own t 0 l.length) }) r rfl rfl setC_len (fun i' x' h => setC_sz hx r.sz h) (fun i' x' j' d' u' q1 q2 q3 => ?_), B, fun i' x' j' z' l' q1 q2 => ?_, fun i1 j1 i2 j2 b hb => d2 i1 j1 i2 j2 b hb.1⟩
    · dsimp only at q1 ⊢
      rcases setC_get hx hj q1 q2 with ⟨rfl, rfl, rfl⟩ | ⟨_, x0, k1, k2⟩
      · rw [u1] at q3
        injection q3 with q3
        subst q3
        obtain ⟨u0, w1, w2⟩ := row_cell r hx hj
        rw [u1] at w1
        injection w1 with w1
        subst w1
        refine ⟨w2.1, ?_⟩
        rw [ha]
        exact v1
      · obtain ⟨u0, w1, w2⟩ := row_cell r k1 k2
        rw [q3] at w1
        injection w1 with w1
        subst w1
        exact w2.ext hT.2.toExt
    · dsimp only at q1 ⊢
      rcases setC_get hx hj q1 q2 with ⟨_, _, h⟩ | ⟨hne, x0, k1, k2⟩
      · cases h
      · obtain ⟨u0, w1, w2⟩ := d1 i' x0 j' z' l' k1 k2
        refine ⟨u0, w1, ?_⟩
        cases hB : B i' j' with
        | none => rw [hB] at w2; exact w2
        | some b =>
          rw [hB] at w2
          obtain ⟨p1, cp, p2, p3⟩ := w2
          exact ⟨⟨p1, fun h => hne (d2 i' j' i j b p1 hB h)⟩, cp, p2, p3.ext hT.2.toExt rfl⟩
/-- an object goes back inside -/
theorem deep_join (hI : Inv F m) {s t : Nat} {ob : Ob} {z : Nat} {l : List (List DV)} (hs : Holds m s ob) (ha : ob.arr = false) (hf : ob.frz = false) (hh : Holds m t ⟨z, true, false, l⟩) (hst : s ≠ t) {i j : Nat} {x : List DV} (hx : ob.els[i]? = some x) (hj : x[j]? = some (.own t 0 l.length)) :
    ∃ m', m'.w = m.w ∧ m'.M = m.M ∧ Inv F m' ∧ Loc [s, t] m m' ∧ Holds m' s { ob with els := setC ob.els i j (.dp z l) } ∧ m'.σ t = some none := by
  obtain ⟨e, h1, h2, h3, h4⟩ := hs
  cases hb : e.blk with
  | none =>
    rw [hb] at h4
    rw [h4.1] at hx
    simp at hx
  | some p =>
    obtain ⟨g, cap⟩ := p
    rw [hb] at h4
    obtain ⟨r, B, d1, d2⟩ := h4
    obtain ⟨u, u1, u2⟩ := row_cell r hx hj
    have u3 : Rep m u (.own t 0 l.length) := by have := u2.2; rw [ha] at this; exact this
    obtain ⟨et, t1, t2, t3, t4⟩ := own_get u3 hh
    let e' : Ent := { e with inn := fun k => e.inn k ∨ ∃ c, et.blk = some (k, c) }
    have hne : ∀ k, e.has k → ∀ c, et.blk ≠ some (k, c) := fun k hk c h => hst (hI.inj s t e et k h1 t1 hk (Ent.has_blk h))
    have one : ∀ s1 ∈ [s, t], ∀ e1, setE (setE m.σ t none) s (some e') s1 = some (some e1) → s1 = s ∧ e1 = e' := fun s1 hs1 e1 h => by
      rcases List.mem_cons.1 hs1 with rfl | hs1
      · rw [setE_same] at h
        injection h with h
        injection h with h
        exact ⟨rfl, h.symm⟩
      · obtain rfl : s1 = t := by simpa using hs1
        rw [setE_ne _ _ (fun h => hst h.symm), setE_same] at h
        cases h
    have hT := turn hI [s, t] m.w (setE (setE m.σ t none) s (some e')) rfl rfl rfl (Nat.le_refl _) (fun _ _ _ => rfl)
      (fun k hk => by rw [setE_ne _ _ (fun h => hk (by simp [h])), setE_ne _ _ (fun h => hk (by simp [h]))])
      (fun s1 hs1 x0 hx0 => by
        rcases List.mem_cons.1 hs1 with rfl | hs1
        · rw [h1] at hx0
          injection hx0 with hx0
          subst hx0
          exact ⟨_, setE_same _ _ _, fun e1 h => by injection h with h; subst h; exact ⟨e, rfl, rfl, rfl⟩⟩
        · obtain rfl : s1 = t := by simpa using hs1
          exact ⟨none, by rw [setE_ne _ _ (fun h => hst h.symm), setE_same], fun e1 h => by cases h⟩)
      (fun s1 hs1 e1 k g1 g2 => by
        obtain ⟨rfl, rfl⟩ := one s1 hs1 e1 g1
        have un : ∀ s2 ∈ [s1, t], ∀ e2, setE (setE m.σ t none) s1 (some e') s2 = some (some e2) → e2.has k → s2 = s1 := fun s2 hs2 e2 q1 _ => (one s2 hs2 e2 q1).1
        rcases g2 with g2 | g2 | g2
        · exact .inl ⟨s1, by simp, e, h1, .inl g2, fun h => h, un⟩
        · exact .inl ⟨s1, by simp, e, h1, .inr g2, fun h => h, un⟩
        · exact .inl ⟨t, by simp, et, t1, .inl g2, fun _ => by rw [t3]; rfl, un⟩)
      (fun s1 hs1 e1 g0 c0 g1 g2 => by
        obtain ⟨rfl, rfl⟩ := one s1 hs1 e1 g1
        rintro (h | ⟨c, h⟩)
        · exact hI.wf s1 e g0 c0 h1 g2 h
        · exact hne g0 (Ent.has_blk g2) c h)
    have hcell : DpV ⟨m.w, m.M, setE (setE m.σ t none) s (some e')⟩ e'.inn u z l (et.blk.map (·.1)) := by
      rcases t4 with ⟨g', cap', k4, rfl, k5, k6⟩ | ⟨k4, rfl, _, k5, k6, k7⟩
      · rw [k4]
        refine ⟨.inr ⟨cap', k4⟩, cap', by simp, k6.ext hT.2.toExt rfl⟩
      · rw [k4]
        exact ⟨rfl, k6, k7⟩
    refine ⟨⟨m.w, m.M, setE (setE m.σ t none) s (some e')⟩, rfl, rfl, hT.1, hT.2, ⟨e', setE_same _ _ _, h2, h3, ?_⟩, by show setE _ _ _ t = _; rw [setE_ne _ _ (fun h => hst h.symm), setE_same]⟩
    show match e.blk with | none => _ | some (g, cap) => _
    rw [hb]
    classical
    refine ⟨row_turn (ob' := { ob with els := setC ob.els i j (.dp z l) }) r rfl rfl setC_len (fun i' x' h => setC_sz hx r.sz h) (fun i' x' j' d' u' q1 q2 q3 => ?_),
      fun i' j' => if i' = i ∧ j' = j then et.blk.map (·.1) else if (B i' j').isSome ∧ B i' j' = et.blk.map (·.1) then none else B i' j', fun i' x' j' z' l' q1 q2 => ?_, fun i1 j1 i2 j2 b hbb q1 q2 => ?_⟩
    · dsimp only at q1 ⊢
      rcases setC_get hx hj q1 q2 with ⟨rfl, rfl, rfl⟩ | ⟨_, x0, k1, k2⟩
      · rw [u1] at q3
        injection q3 with q3
        subst q3
        refine ⟨u2.1, ?_⟩
        rw [ha]
        exact .dp u
      · obtain ⟨u0, w1, w2⟩ := row_cell r k1 k2
        rw [q3] at w1
        injection w1 with w1
        subst w1
        exact w2.ext hT.2.toExt
    · dsimp only at q1 ⊢
      rcases setC_get hx hj q1 q2 with ⟨rfl, rfl, hd⟩ | ⟨hne', x0, k1, k2⟩
      · injection hd with hd1 hd2
        subst hd1
        subst hd2
        exact ⟨u, u1, by rw [if_pos ⟨rfl, rfl⟩]; exact hcell⟩
      · obtain ⟨u0, w1, w2⟩ := d1 i' x0 j' z' l' k1 k2
        refine ⟨u0, w1, ?_⟩
        rw [if_neg hne']
        cases hB : B i' j' with
        | none => rw [hB] at w2; rw [if_neg (fun h => by simp at h)]; exact w2
        | some b =>
          rw [hB] at w2
          obtain ⟨p1, cp, p2, p3⟩ := w2
          rw [if_neg (fun h => by
            cases hbt : et.blk with
            | none => rw [hbt] at h; simp at h
            | some q =>
              obtain ⟨b', c'⟩ := q
              rw [hbt] at h
              have := h.2
              simp only [Option.map_some, Option.some.injEq] at this
              subst this
              exact hne b (.inr p1) c' hbt)]
          exact ⟨.inl p1, cp, p2, p3.ext hT.2.toExt rfl⟩
    · dsimp only at q1 q2
      have other : ∀ {i' j' b}, ¬ (i' = i ∧ j' = j) → (if (B i' j').isSome ∧ B i' j' = et.blk.map (·.1) then none else B i' j') = some b → B i' j' = some b ∧ et.blk.map (·.1) ≠ some b := fun {i' j' b} _ h => by
        split at h
        · cases h
        · rename_i hq
          exact ⟨h, fun h' => hq ⟨by rw [h]; rfl, by rw [h, h']⟩⟩
      by_cases e1 : i1 = i ∧ j1 = j
      · rw [if_pos e1] at q1
        by_cases e2 : i2 = i ∧ j2 = j
        · exact ⟨e1.1.trans e2.1.symm, e1.2.trans e2.2.symm⟩
        · rw [if_neg e2] at q2
          exact absurd q1 (other e2 q2).2
      · rw [if_neg e1] at q1
        obtain ⟨k1, k2⟩ := other e1 q1
        by_cases e2 : i2 = i ∧ j2 = j
        · rw [if_pos e2] at q2
          exact absurd q2 k2
        · rw [if_neg e2] at q2
          obtain ⟨k3, _⟩ := other e2 q2
          have hin : e.inn b := by
            rcases hbb with h | ⟨c, h⟩
            · exact h
            · rw [h] at k2; exact absurd rfl k2
          exact d2 i1 j1 i2 j2 b hin k1 k3
/-- a nil slice inside -/
theorem deep_nil {s : Nat} {ob : Ob} {z : Nat} (hz : 0 < z) (hs : Holds m s ob) (ha : ob.arr = false) {i j : Nat} {x : List DV} (hx : ob.els[i]? = some x) (hj : x[j]? = some (.lit (.slice none 0 0))) : Holds m s { ob with els := setC ob.els i j (.dp z []) } := by
  obtain ⟨e, h1, h2, h3, h4⟩ := hs
  refine ⟨e, h1, h2, h3, ?_⟩
  cases hb : e.blk with
  | none =>
    rw [hb] at h4
    rw [h4.1] at hx
    simp at hx
  | some p =>
    obtain ⟨g, cap⟩ := p
    rw [hb] at h4
    obtain ⟨r, B, d1, d2⟩ := h4
    obtain ⟨u, u1, u2⟩ := row_cell r hx hj
    have u3 : Rep m u (.lit (.slice none 0 0)) := by have := u2.2; rw [ha] at this; exact this
    have u4 := u3.lit_inv
    classical
    refine ⟨row_turn (ob' := { ob with els := setC ob.els i j (.dp z []) }) r rfl rfl setC_len (fun i' x' h => setC_sz hx r.sz h) (fun i' x' j' d' u' q1 q2 q3 => ?_),
      fun i' j' => if i' = i ∧ j' = j then none else B i' j', fun i' x' j' z' l' q1 q2 => ?_, fun i1 j1 i2 j2 b hbb q1 q2 => ?_⟩
    · dsimp only at q1 ⊢
      rcases setC_get hx hj q1 q2 with ⟨rfl, rfl, rfl⟩ | ⟨_, x0, k1, k2⟩
      · rw [u1] at q3
        injection q3 with q3
        subst q3
        refine ⟨u2.1, ?_⟩
        rw [ha]
        exact .dp u
      · obtain ⟨u0, w1, w2⟩ := row_cell r k1 k2
        rw [q3] at w1
        injection w1 with w1
        subst w1
        exact w2
    · dsimp only at q1 ⊢
      rcases setC_get hx hj q1 q2 with ⟨rfl, rfl, hd⟩ | ⟨hne, x0, k1, k2⟩
      · injection hd with hd1 hd2
        subst hd1
        subst hd2
        exact ⟨u, u1, by rw [if_pos ⟨rfl, rfl⟩]; exact ⟨u4, rfl, hz⟩⟩
      · obtain ⟨u0, w1, w2⟩ := d1 i' x0 j' z' l' k1 k2
        exact ⟨u0, w1, by rw [if_neg hne]; exact w2⟩
    · dsimp only at q1 q2
      split at q1
      · cases q1
      · split at q2
        · cases q2
        · exact d2 i1 j1 i2 j2 b hbb q1 q2
theorem holds_unarr {s z : Nat} {f : Bool} {els : List (List DV)} (hs : Holds m s ⟨z, true, f, els⟩) : Holds m s ⟨z, false, f, els⟩ := by
  obtain ⟨e, h1, h2, h3, h4⟩ := hs
  refine ⟨e, h1, h2, h3, ?_⟩
  cases hb : e.blk with
  | none => rw [hb] at h4; exact h4
  | some p =>
    obtain ⟨g, cap⟩ := p
    rw [hb] at h4
    obtain ⟨r, _⟩ := h4
    refine ⟨row_turn r rfl rfl rfl r.sz fun i x j d u hx hd hu => ?_, Deep.flat fun i x j z' xs hx hd => ?_⟩
    · obtain ⟨u0, w1, w2⟩ := row_cell r hx hd
      dsimp only at hu w1
      rw [hu] at w1
      injection w1 with w1
      subst w1
      exact ⟨w2.1, .pure w2.2⟩
    · obtain ⟨u0, w1, w2⟩ := row_cell r hx hd
      cases w2.2
end
section
variable {P : Program} {nt n0 : Nat} {env : Env} {sto : Sto} {nxt : Nat}
/-- an object goes back inside -/
theorem Weak.att {s t z z0 i j : Nat} {x : List DV} {els els' : List (List DV)} {l : List (List DV)} (hs : sto.get s = some ⟨z0, false, false, els⟩) (ht : sto.get t = some ⟨z, true, false, l⟩) (hst : Nat.beq s t = false) (hx : els[i]? = some x) (hj : x[j]? = some (.own t 0 l.length)) (he : setC els i j (.dp z l) = els') :
    Weak n0 ⟨env, sto, nxt⟩ ⟨env, (s, ⟨z0, false, false, els'⟩) :: sto.drop t, nxt⟩ := fun C _ a w hS => by
  subst he
  have hst' : s ≠ t := Nat.ne_of_beq_eq_false hst
  obtain ⟨m, rfl, hm, hF⟩ := hS
  obtain ⟨m', k1, k2, k3, k4, k5, k6⟩ := deep_join hm.inv (hm.sto s _ hs) rfl rfl (hm.sto t _ ht) hst' hx hj
  refine ⟨m', k1, ⟨k3, k2.trans hm.M, hm.size, hm.defers, hm.org.trans k4.ent, hm.lim0, fun k => (hm.env k).ext k4.toExt, fun s' ob hs' => ?_⟩, fun s' hs' => ?_⟩
  · simp only [Sto.get_cons, Sto.drop_get] at hs'
    split at hs'
    · rename_i h
      subst h
      injection hs' with hs'
      subst hs'
      exact k5
    · rename_i h
      split at hs'
      · cases hs'
      · rename_i h2
        exact Holds.loc hm.inv k4 (by simp [h, h2]) (hm.sto s' ob hs')
  · have h1 := hF s' hs'
    have e1 : s' ≠ s := fun h => by subst h; obtain ⟨e, he, _⟩ := hm.sto s' _ hs; rw [h1] at he; cases he
    have e2 : s' ≠ t := fun h => by subst h; obtain ⟨e, he, _⟩ := hm.sto s' _ ht; rw [h1] at he; cases he
    rw [k4.same s' (by simp [e1, e2])]
    exact h1
/-- what is known of one object is told in other words -/
theorem Weak.tell {s : Nat} {ob ob' : Ob} (hs : sto.get s = some ob) (h : ∀ m : Mem, Holds m s ob → Holds m s ob') : Weak n0 ⟨env, sto, nxt⟩ ⟨env, (s, ob') :: sto, nxt⟩ := fun C _ a w hS => by
  obtain ⟨m, rfl, hm, hF⟩ := hS
  refine ⟨m, rfl, ⟨hm.inv, hm.M, hm.size, hm.defers, hm.org, hm.lim0, hm.env, fun s' ob1 hs' => ?_⟩, hF⟩
  simp only [Sto.get_cons] at hs'
  split at hs'
  · rename_i h1
    subst h1
    injection hs' with hs'
    subst hs'
    exact h m (hm.sto _ _ hs)
  · exact hm.sto s' ob1 hs'
theorem Weak.attN {s z z0 i j : Nat} {x : List DV} {els els' : List (List DV)} (hz : 0 < z) (hs : sto.get s = some ⟨z0, false, false, els⟩) (hx : els[i]? = some x) (hj : x[j]? = some (.lit (.slice none 0 0))) (he : setC els i j (.dp z []) = els') :
    Weak n0 ⟨env, sto, nxt⟩ ⟨env, (s, ⟨z0, false, false, els'⟩) :: sto, nxt⟩ := Weak.tell hs fun m h => by subst he; exact deep_nil hz h rfl hx hj
theorem Weak.unarr {s z0 : Nat} {els : List (List DV)} (hs : sto.get s = some ⟨z0, true, false, els⟩) : Weak n0 ⟨env, sto, nxt⟩ ⟨env, (s, ⟨z0, false, false, els⟩) :: sto, nxt⟩ := Weak.tell hs fun m h => holds_unarr h
end

section
variable {P : Program} {F : Fm} {m : Mem} {a : Act} {env : Env} {sto : Sto} {nxt : Nat} {o : Oper}
/-- a slice inside is read: it becomes an object -/
theorem r_ldD {t : Nat} {p : Operand} {td : TyD} {s i j z : Nat} {ob : Ob} {x : List DV} {l : List (List DV)} (ho : o.op = .load t p) (ht : TyOk P t td) (hag : td.agg = false) (hsz : td.size = 1) (hp : opd env p = .ptr s i j) (hs : sto.get s = some ob) (ha : ob.arr = false) (hx : ob.els[i]? = some x) (hj : x[j]? = some (.dp z l)) :
    OpOK P o env sto nxt ⟨.own nxt 0 l.length, [(s, some { ob with els := setC ob.els i j (.own nxt 0 l.length) }), (nxt, some ⟨z, true, ob.frz, l⟩)], [s], 1⟩ := .ran fun F m a hI hE hH hF => by
  have h1 := hE p (by simp [ho, Op.operands])
  rw [hp] at h1
  have hS := hH s (by simp) ob hs
  have hn := hF nxt (Nat.le_refl _) (by show nxt < nxt + 1; omega)
  obtain ⟨m', e, g, cap, u, k1, k2, k3, k4, k5, k6, k7, k8, k9, k10⟩ := deep_split hI hS ha hn hx hj
  obtain ⟨e2, g2, cap2, q1, _, _, q2, q3, q4⟩ := ptr_get h1 hS
  rw [k5] at q1
  injection q1 with q1
  injection q1 with q1
  subst q1
  rw [k6] at q2
  injection q2 with q2
  injection q2 with q2 q2'
  subst q2
  have hca : CellsAt m' g (i * ob.esz + j) [.own nxt 0 l.length] := fun j' d hd => by
    cases j' with
    | zero =>
      simp only [List.getElem?_cons_zero, Option.some.injEq] at hd
      subst hd
      exact ⟨u, by rw [k1]; exact k7, k8⟩
    | succ j' => simp at hd
  obtain ⟨v, v1, v2⟩ := load_ok (P := P) ht hca (y := .own nxt 0 l.length) (by unfold ldD; rw [hag, hsz]; rfl)
  rw [k1] at v1
  refine ⟨v, m', .inl (by rw [k1]; simp [execOp, ho, q3, v1]), k3, k4, v2, fun p hp => ?_⟩
  rcases List.mem_cons.1 hp with rfl | hp
  · exact k9
  · obtain rfl := List.mem_singleton.1 hp
    exact k10
/-- a row whose elements hold objects -/
theorem r_litR {t e len : Nat} {parts : Array (Nat × Operand)} {l : List (Nat × Operand)} {tt td : TyD} {cells : List DV} {r r2 : List Nat} (ho : o.op = .buildSlice t len parts) (hp : parts = l.toArray) (ht : TyOk P t tt) (hk : tt.k = .slice e) (he : TyOk P e td)
    (hz : td.zero.length = td.size) (h0 : 0 < td.size) (h1 : 0 < len) (hm : len * td.size ≤ 16777216)
    (h : fillD sto (fun i => some (i * td.size, td.size)) (zeros td len) (l.map fun p => (p.1, opd env p.2)) = some (cells, r)) (hb : boxF sto cells = some r2) :
    OpOK P o env sto nxt ⟨.own nxt 0 len, [(nxt, some ⟨td.size, false, false, chunks len td.size cells⟩)], r ++ r2, 1⟩ := .ran fun F m a hI hE hH hF => by
  subst hp
  obtain ⟨i, z, z1, z2, z3, z4, z5, z6, _⟩ := ty_info he
  have hu := ht.kind
  rw [hk] at hu
  have hsz : z.cells.size = td.size := by rw [← hz, ← z5]; simp
  have hHr : HoldsAll m sto r := fun s hs => hH s (List.mem_append_left _ hs)
  have hHu : HoldsAll m sto r2 := fun s hs => hH s (List.mem_append_right _ hs)
  have hzr : Reps m (madeCells z.cells (len * td.size)).toList (zeros td len) := by
    refine ⟨by rw [Array.length_toList, size_madeCells]; simp [zeros], fun j v d hv hd => ?_⟩
    have hj : j < len * td.size := by
      rcases Nat.lt_or_ge j (len * td.size) with h' | h'
      · exact h'
      · rw [List.getElem?_eq_none (by simpa [zeros] using h')] at hd; cases hd
    have hv' : (madeCells z.cells (len * td.size))[j]? = some v := by simpa using hv
    rw [madeCells_get (by omega) hj, hsz] at hv'
    unfold zeros at hd
    rw [List.getElem?_map, List.getElem?_range hj] at hd
    injection hd with hd
    have hv2 : z.cells.toList[j % td.size]? = some v := by simpa using hv'
    rw [← hd]
    dsimp only
    rw [← z5, List.getD_eq_getElem?_getD, List.getElem?_map, hv2]
    exact .pure (.lit v (z6 v (by simpa using List.mem_of_getElem? hv2)))
  obtain ⟨vs, k1, k2⟩ := fill_run (parts := l) (fun p hp => hE p.2 (by simp only [ho, Op.operands]; simp; exact ⟨p.1, hp⟩)) hzr h hHr
  rw [Array.toArray_toList] at k1
  have hcl : cells.length = len * td.size := by rw [fillD_len h]; simp [zeros]
  have hrun := run_buildSlice (P := P) m.w t e len (l.map fun p => (p.1, a.eval p.2)).toArray vs.toArray i z hu z1 z4 (by rw [z2]; omega) (by rw [z2]; have := Nat.mul_pos h1 h0; omega) (by
    rw [z2]
    have : (Array.range (len * td.size)).map (fun x => z.cells[x % z.cells.size]!) = madeCells z.cells (len * td.size) := rfl
    rw [this]
    simpa using k1)
  have hmx : len ≤ maxLen := by
    have : len ≤ len * td.size := Nat.le_mul_of_pos_right _ h0
    unfold maxLen
    omega
  refine Ran.new hI (hF nxt (Nat.le_refl _) (by show nxt < nxt + 1; omega)) (cur := vs.toArray) (T := e) (v := .slice (some ⟨m.w.heap.size, 0, none⟩) len len) (cap := len) ?_ (fun m' h => ?_) rfl (fun m' he' hg => ?_) (.inr fun i x j z' xs q1 q2 => ?_)
  · simp only [execOp, ho]
    rw [show (l.toArray.map fun (x : Nat × Operand) => match x with | (i, x) => (i, a.eval x)) = (l.map fun p => (p.1, a.eval p.2)).toArray from by simp]
    rw [Sem.run_bind]
    show ((Instr.buildSlice t len _).run P m.w).andThen _ = _
    rw [hrun]
    rfl
  · have := Rep.own (m := m') (off := 0) (len := len) h rfl (by omega) hmx
    simpa using this
  · refine row_of_flat he' (ds := cells) (arr := false) k2.1 (fun j v d hv hd => ⟨box_one (boxF_ok hb) hHu j d v hd (k2.2 j v d hv hd), k2.2 j v d hv hd⟩) hg (by rw [hcl]) h0 hmx (by simp [chunks]) (fun j x hx => ?_)
    have hj : j < len := by
      rcases Nat.lt_or_ge j len with h' | h'
      · exact h'
      · rw [List.getElem?_eq_none (by simpa [chunks] using h')] at hx; cases hx
    unfold chunks at hx
    rw [List.getElem?_map, List.getElem?_range hj] at hx
    injection hx with hx
    subst hx
    have hle : (j + 1) * td.size ≤ len * td.size := Nat.mul_le_mul_right _ hj
    rw [Nat.succ_mul] at hle
    refine ⟨by rw [List.length_take, List.length_drop, hcl]; omega, fun q d hd => ?_⟩
    rw [List.getElem?_take] at hd
    split at hd
    · rwa [List.getElem?_drop] at hd
    · cases hd
  · dsimp only at q1
    have hi : i < len := by
      rcases Nat.lt_or_ge i len with h' | h'
      · exact h'
      · rw [List.getElem?_eq_none (by simpa [chunks] using h')] at q1; cases q1
    unfold chunks at q1
    rw [List.getElem?_map, List.getElem?_range hi] at q1
    injection q1 with q1
    subst q1
    rw [List.getElem?_take] at q2
    split at q2
    · rw [List.getElem?_drop] at q2
      exact (boxF_ok hb).nodp _ _ _ q2
    · cases q2
/-- slices inside are written no more: plain rows -/
theorem deep_flat (hI : Inv F m) {s z : Nat} {f : Bool} {els : List (List DV)} (hs : Holds m s ⟨z, false, f, els⟩) (hd : ∀ x ∈ els, ∀ d ∈ x, dpB d = true) :
    ∃ m', m'.w = m.w ∧ m'.M = m.M ∧ Inv F m' ∧ Loc [s] m m' ∧ Holds m' s ⟨z, true, f, els.map (·.map undp)⟩ := by
  obtain ⟨e, h1, h2, h3, h4⟩ := hs
  obtain ⟨e', he'⟩ : ∃ e' : Ent, e' = { e with inn := noI } := ⟨_, rfl⟩
  have f1 : e'.esz = e.esz := by rw [he']
  have f2 : e'.blk = e.blk := by rw [he']
  have f3 : e'.mu = e.mu := by rw [he']
  have f4 : e'.inn = noI := by rw [he']
  clear he'
  have one : ∀ s1 ∈ [s], ∀ e1, setE m.σ s (some e') s1 = some (some e1) → s1 = s ∧ e1 = e' := fun s1 hs1 e1 h => by
    obtain rfl : s1 = s := by simpa using hs1
    rw [setE_same] at h
    injection h with h
    injection h with h
    exact ⟨rfl, h.symm⟩
  have hT := turn hI [s] m.w (setE m.σ s (some e')) rfl rfl rfl (Nat.le_refl _) (fun _ _ _ => rfl) (fun k hk => setE_ne _ _ (by simpa using hk))
    (fun s1 hs1 x hx => by
      obtain rfl : s1 = s := by simpa using hs1
      rw [h1] at hx
      injection hx with hx
      subst hx
      exact ⟨_, setE_same _ _ _, fun e1 h => by injection h with h; subst h; exact ⟨e, rfl, f1, f2⟩⟩)
    (fun s1 hs1 e1 k g1 g2 => by
      obtain ⟨rfl, rfl⟩ := one s1 hs1 e1 g1
      refine .inl ⟨s1, by simp, e, h1, ?_, fun h => by rw [← f3]; exact h, fun s2 hs2 e2 q _ => (one s2 hs2 e2 q).1⟩
      rcases g2 with ⟨c, g2⟩ | g2
      · exact .inl ⟨c, by rw [← f2]; exact g2⟩
      · rw [f4] at g2; exact g2.elim)
    (fun s1 hs1 e1 k c g1 _ => by
      obtain ⟨rfl, rfl⟩ := one s1 hs1 e1 g1
      rw [f4]; exact id)
  refine ⟨⟨m.w, m.M, setE m.σ s (some e')⟩, rfl, rfl, hT.1, hT.2, ⟨_, setE_same _ _ _, by rw [f1]; exact h2, by rw [f3]; exact h3, ?_⟩⟩
  rw [f2]
  cases hb : e.blk with
  | none => rw [hb] at h4; exact ⟨by rw [show els = [] from h4.1]; rfl, h4.2⟩
  | some p =>
    obtain ⟨g, cap⟩ := p
    rw [hb] at h4
    obtain ⟨r, B, d1, d2⟩ := h4
    have hno : ∀ k, (⟨m.w, m.M, setE m.σ s (some e')⟩ : Mem).no k → m.no k := fun k h => by
      rcases h with h | ⟨s', e', q1, q2, q3⟩
      · exact .inl h
      · dsimp only at q1
        by_cases hss : s' = s
        · subst hss
          rw [setE_same] at q1
          injection q1 with q1
          injection q1 with q1
          subst q1
          refine .inr ⟨s', e, h1, by rw [← f3]; exact q2, ?_⟩
          rcases q3 with ⟨c, q3⟩ | q3
          · exact .inl ⟨c, by rw [← f2]; exact q3⟩
          · rw [f4] at q3; exact q3.elim
        · rw [setE_ne _ _ hss] at q1
          exact .inr ⟨s', e', q1, q2, q3⟩
    have hin : ∀ b, e.inn b → ¬ (⟨m.w, m.M, setE m.σ s (some e')⟩ : Mem).no b := fun b hbi h => by
      rcases h with h | ⟨s', e', q1, q2, q3⟩
      · exact (hI.at_ s e b h1 (.inr hbi)).2.1 h
      · dsimp only at q1
        by_cases hss : s' = s
        · subst hss
          rw [setE_same] at q1
          injection q1 with q1
          injection q1 with q1
          subst q1
          rcases q3 with ⟨c, q3⟩ | q3
          · exact hI.wf s' e b c h1 (by rw [← f2]; exact q3) hbi
          · rw [f4] at q3; exact q3
        · rw [setE_ne _ _ hss] at q1
          exact hss (hI.inj s s' e e' b h1 q1 (.inr hbi) q3).symm
    have row : Row ⟨m.w, m.M, setE m.σ s (some e')⟩ ⟨z, true, f, els.map (·.map undp)⟩ g cap := row_turn r rfl rfl (by simp) (fun i x hx => ?_) (fun i x j d u hx hdd hu => ?_)
    · exact ⟨row, row.deep rfl _⟩
    · rw [List.getElem?_map] at hx
      cases hq : els[i]? with
      | none => rw [hq] at hx; cases hx
      | some x0 =>
        rw [hq] at hx
        injection hx with hx
        subst hx
        rw [List.length_map]
        exact r.sz i x0 hq
    · rw [List.getElem?_map] at hx
      cases hq : els[i]? with
      | none => rw [hq] at hx; cases hx
      | some x0 =>
        rw [hq] at hx
        injection hx with hx
        subst hx
        rw [List.getElem?_map] at hdd
        cases hq2 : x0[j]? with
        | none => rw [hq2] at hdd; cases hdd
        | some d0 =>
          rw [hq2] at hdd
          injection hdd with hdd
          subst hdd
          obtain ⟨u', w1, w2⟩ := row_cell r hq hq2
          rw [hu] at w1
          injection w1 with w1
          subst w1
          refine ⟨w2.1, ?_⟩
          have hr2 : Rep m u d0 := w2.2
          have hp : ∀ {v d}, PRep m.w m.no v d → PRep m.w (⟨m.w, m.M, setE m.σ s (some e')⟩ : Mem).no v d := fun h => PRep.ext (Nat.le_refl _) (fun k _ hk => ⟨rfl, fun h => hk (hno k h)⟩) h
          have hb := hd x0 (List.mem_of_getElem? hq) d0 (List.mem_of_getElem? hq2)
          show PRep m.w _ u (undp d0)
          cases d0 with
          | lit v => rw [hr2.lit_inv]; exact .lit v hr2.lit_one
          | sl xs => exact hp hr2.sl_inv
          | dp z' l =>
            obtain ⟨u', k1, k2⟩ := d1 i x0 j z' l hq hq2
            rw [hu] at k1
            injection k1 with k1
            subst k1
            cases hB : B i j with
            | none =>
              rw [hB] at k2
              obtain ⟨rfl, rfl, _⟩ := k2
              exact .nil _ _ (Nat.zero_le _)
            | some b =>
              rw [hB] at k2
              obtain ⟨q1, cp, rfl, q3⟩ := k2
              have := prep_of_row (off := 0) (len := l.length) q3 rfl (hin b q1) hno (by simp)
              simpa [undp] using this
          | _ => cases hb
/-- the cells of an object's slice, as they lie -/
theorem news_mk {ob : Ob} {g cap len : Nat} (r : Row m ob g cap) (hl : len ≤ ob.els.length) : ∃ news : List Value, news.length = len * ob.esz ∧ (∀ j u, news[j]? = some u → m.w.cell? ((⟨g, 0, none⟩ : Addr).add j) = some u) ∧ (∀ u ∈ news, u.oneCell' = true) ∧
    ∀ (i : Nat) y (j : Nat) d, (ob.els.take len)[i]? = some y → y[j]? = some d → ∃ u, news[i * ob.esz + j]? = some u ∧ CRep m ob.arr u d := by
  obtain ⟨cur, T, c1, c2, c3⟩ := r.cells
  have hpos := r.pos
  have hfit : len * ob.esz ≤ cur.size := by rw [c2]; exact Nat.mul_le_mul_right _ (Nat.le_trans hl r.len)
  refine ⟨cur.toList.take (len * ob.esz), by rw [List.length_take, Array.length_toList]; omega, fun j u hu => ?_, fun u hu => ?_, fun i y j d hy hd => ?_⟩
  · rw [List.getElem?_take] at hu
    split at hu
    · rw [add_lit, Nat.zero_add, cell_of_row m.w g j cur T (0, 0) c1]; simpa using hu
    · cases hu
  · obtain ⟨p, hp⟩ := List.mem_iff_getElem?.1 hu
    rw [List.getElem?_take] at hp
    split at hp
    · rename_i hlt
      have h1 : p / ob.esz < len := Nat.div_lt_of_lt_mul (by rw [Nat.mul_comm]; exact hlt)
      have h2 : p % ob.esz < ob.esz := Nat.mod_lt _ hpos
      have hx := List.getElem?_eq_getElem (show p / ob.esz < ob.els.length by omega)
      have hsz := r.sz _ _ hx
      obtain ⟨u', k1, k2⟩ := c3 _ _ _ _ hx (List.getElem?_eq_getElem (show p % ob.esz < (ob.els[p / ob.esz]).length by omega))
      rw [Nat.div_add_mod' p ob.esz] at k1
      have : cur[p]? = some u := by simpa using hp
      rw [k1] at this
      injection this with this
      subst this
      exact k2.1
    · cases hp
  · rw [List.getElem?_take] at hy
    split at hy
    · rename_i hi
      obtain ⟨u, hu, hr⟩ := c3 i y j d hy hd
      have hsz := r.sz i y hy
      have hj := get_lt hd
      have hle : (i + 1) * ob.esz ≤ len * ob.esz := Nat.mul_le_mul_right _ hi
      rw [Nat.succ_mul] at hle
      exact ⟨u, by rw [List.getElem?_take_of_lt (by omega)]; simpa using hu, hr⟩
    · cases hy
def noDpB (els : List (List DV)) : Bool := els.all fun x => x.all fun d => match d with | .dp _ _ => false | _ => true
theorem noDpB_ok {els : List (List DV)} (h : noDpB els = true) : ∀ (i : Nat) x (j : Nat) z l, els[i]? = some x → x[j]? = some (.dp z l) → False := fun i x j z l hx hd => by
  unfold noDpB at h
  have := List.all_eq_true.1 h x (List.mem_of_getElem? hx)
  have := List.all_eq_true.1 this _ (List.mem_of_getElem? hd)
  cases this
/-- append onto an object with slices inside -/
theorem r_appR {t e : Nat} {s x : Operand} {tt td : TyD} {k k2 len len2 : Nat} {ob ob2 : Ob} (ho : o.op = .call ⟨.builtin .append, #[s, x], #[t, t]⟩) (ht : TyOk P t tt) (hk : tt.k = .slice e) (he : TyOk P e td) (hs : opd env s = .own k 0 len) (hg : sto.get k = some ob) (hx : opd env x = .own k2 0 len2) (hg2 : sto.get k2 = some ob2)
    (hf : ob.frz = false) (ha : ob.arr = false) (hl : len ≤ ob.els.length) (hl2 : len2 ≤ ob2.els.length) (hez : ob.esz = td.size) (hez2 : ob2.esz = td.size) (hnd : noDpB (ob2.els.take len2) = true) (hz : td.zero.length = td.size) (h0 : 0 < td.size) (hb : (len + len2) * td.bytes ≤ 140737488355328) (h63 : len + len2 ≤ maxLen) :
    OpOK P o env sto nxt ⟨.own nxt 0 (len + len2), [(k, none), (nxt, some ⟨td.size, false, false, ob.els.take len ++ ob2.els.take len2⟩)], [k, k2], 1⟩ := .ran fun F m a hI hE hH hF => by
  have h1 := hE s (by simp [ho, Op.operands, Call.operands])
  have h2 := hE x (by simp [ho, Op.operands, Call.operands])
  rw [hs] at h1
  rw [hx] at h2
  have hnew := hF nxt (Nat.le_refl _) (by show nxt < nxt + 1; omega)
  have hHk := hH k (by simp) ob hg
  obtain ⟨en, k1, kz, k3, k4⟩ := own_get h1 hHk
  obtain ⟨en2, _, _, _, j4⟩ := own_get h2 (hH k2 (by simp) ob2 hg2)
  have hmu : en.mu = true := by rw [k3, hf]; rfl
  have hne : k ≠ nxt := fun h => by subst h; rw [hnew] at k1; cases k1
  have hsv : (∃ g cap, en.blk = some (g, cap) ∧ a.eval s = .slice (some ⟨g, 0, none⟩) len cap ∧ len ≤ cap ∧ cap ≤ maxLen ∧ ∃ cur T, m.w.heap[g]? = some (.cells cur T (0, 0)) ∧ cur.size = cap * td.size) ∨ (en.blk = none ∧ a.eval s = .slice none 0 0 ∧ len = 0) := by
    rcases k4 with ⟨g, cap, k4, hsv, k5, k6⟩ | ⟨k4, hsv, _, h, _⟩
    · rw [Nat.zero_mul, Nat.sub_zero] at hsv
      obtain ⟨cur, T, c1, c2, _⟩ := k6.cells
      rw [hez] at c2
      exact .inl ⟨g, cap, k4, hsv, by omega, k6.max, cur, T, c1, c2⟩
    · exact .inr ⟨k4, hsv, h⟩
  have hvn : ∃ ad c, ∃ news : List Value, a.eval x = .slice ad len2 c ∧ (len2 = 0 ∨ ∃ b off, ad = some ⟨b, off, none⟩ ∧ news.length = len2 * td.size ∧ (∀ j u, news[j]? = some u → m.w.cell? ((⟨b, off, none⟩ : Addr).add j) = some u) ∧ ∀ u ∈ news, u.oneCell' = true) ∧
      ∀ (i : Nat) y (j : Nat) d, (ob2.els.take len2)[i]? = some y → y[j]? = some d → ∃ u, news[i * td.size + j]? = some u ∧ u.oneCell' = true ∧ Rep m u d := by
    rcases j4 with ⟨g, cap, _, hv, _, r⟩ | ⟨_, hv, _, h, h', _⟩
    · rw [Nat.zero_mul] at hv
      obtain ⟨news, n1, n2, n3, n4⟩ := news_mk r hl2
      rw [hez2] at n1 n4
      refine ⟨_, _, news, hv, .inr ⟨g, 0, rfl, n1, n2, n3⟩, fun i y j d hy hd => ?_⟩
      obtain ⟨u, hu, hr⟩ := n4 i y j d hy hd
      refine ⟨u, hu, hr.1, ?_⟩
      have := hr.2
      split at this
      · exact .pure this
      · exact this
    · subst h
      exact ⟨_, _, [], hv, .inl rfl, fun i y j d hy => by simp at hy⟩
  obtain ⟨ad, c, news, hv, hn, n4⟩ := hvn
  obtain ⟨v, w', hrun, w1, w2, w3, w4, w5, w6⟩ := app_raw ho ht hk he hsv hv hn hz h0 hb h63
  have hlt' : (ob.els.take len).length = len := by rw [List.length_take]; omega
  have hlt2 : (ob2.els.take len2).length = len2 := by rw [List.length_take]; omega
  have upd : ∀ {e' : Ent}, Holds ⟨w', m.M, setE (setE m.σ k none) nxt (some e')⟩ nxt ⟨td.size, false, false, ob.els.take len ++ ob2.els.take len2⟩ → ∀ p ∈ [(k, none), (nxt, some (⟨td.size, false, false, ob.els.take len ++ ob2.els.take len2⟩ : Ob))], Upd ⟨w', m.M, setE (setE m.σ k none) nxt (some e')⟩ p := fun q p hp => by
    rcases List.mem_cons.1 hp with rfl | hp
    · show setE (setE m.σ k none) nxt _ k = some none
      rw [setE_ne _ _ hne, setE_same]
    · obtain rfl := List.mem_singleton.1 hp
      exact q
  rcases w6 with ⟨rfl, h6, h7⟩ | ⟨g', cap', cur', T', rfl, q1, q2, q3, q4, q5, q6, q7⟩
  · have hT := turn_move hI k1 hmu hnew w' ⟨td.size, none, true, noI⟩ w1 w2 w3 w4 w5 (fun g' c' h => by cases h)
    refine ⟨_, ⟨w', m.M, setE (setE m.σ k none) nxt (some ⟨td.size, none, true, noI⟩)⟩, .inl hrun, hT.1, hT.2, ?_, upd ⟨_, setE_same _ _ _, rfl, rfl, ?_⟩⟩
    · rw [h6, h7]; exact .ownNil (setE_same _ _ _) rfl
    · rw [h6, h7]; exact ⟨by simp, h0⟩
  · have hbi : ∀ b, en.inn b → b ≠ g' := fun b hb h => by
      subst h
      rcases q1 with ⟨c', h⟩ | ⟨h, _⟩
      · exact hI.wf k en b c' k1 h hb
      · have := (hI.at_ k en b k1 (.inr hb)).1; omega
    have hT := turn_moveD hI k1 hmu hnew w' ⟨td.size, some (g', cap'), true, en.inn⟩ w1 w2 w3 w4 (fun j hj h => w5 j hj fun c hc => h (.inl ⟨c, hc⟩)) (fun g1 h => by
      rcases h with ⟨c', h⟩ | h
      · injection h with h
        injection h with h1 h2
        subst h1
        rcases q1 with ⟨c', h⟩ | h
        · exact .inl (.inl ⟨c', h⟩)
        · exact .inr h
      · exact .inl (.inr h)) (fun g1 c' h hi => by
      injection h with h
      injection h with h1 h2
      exact hbi g1 hi h1.symm)
    have old : ∀ (i : Nat) x, (ob.els.take len)[i]? = some x → x.length = td.size ∧ ob.els[i]? = some x ∧ ∀ (j : Nat) d, x[j]? = some d → ∃ g cap u, en.blk = some (g, cap) ∧ Row m ob g cap ∧ cur'[i * td.size + j]? = some u ∧ m.w.cell? ⟨g, i * ob.esz + j, none⟩ = some u ∧ CRep m false u d := fun i x hx => by
      rw [List.getElem?_take] at hx
      split at hx
      · rename_i hi
        rcases k4 with ⟨g, cap, k4, _, k5, k6⟩ | ⟨_, _, _, h, _⟩
        · have hl := k6.sz i x hx
          rw [hez] at hl
          refine ⟨hl, hx, fun j d hd => ?_⟩
          obtain ⟨cur, T, c1, c2, c3⟩ := k6.cells
          obtain ⟨u, hu, hr⟩ := c3 i x j d hx hd
          have hj := get_lt hd
          have hle : (i + 1) * td.size ≤ len * td.size := Nat.mul_le_mul_right _ hi
          rw [Nat.succ_mul] at hle
          rw [ha] at hr
          refine ⟨g, cap, u, k4, k6, ?_, by rw [cell_of_row m.w g _ cur T (0, 0) c1]; exact hu, hr⟩
          rw [hez] at hu
          rw [q6 _ g cap cur T k4 c1 (by omega)]; exact hu
        · omega
      · cases hx
    have row : Row ⟨w', m.M, setE (setE m.σ k none) nxt (some ⟨td.size, some (g', cap'), true, en.inn⟩)⟩ ⟨td.size, false, false, ob.els.take len ++ ob2.els.take len2⟩ g' cap' := row_twoR q4 q5 q3 h0 (by rw [hlt', hlt2]; exact q2) (fun i x hx => ?_) (fun i y hy => ⟨?_, fun j d hd => ?_⟩)
    · refine ⟨_, _, .inl hrun, hT.1, hT.2, own_mem (setE_same _ _ _) rfl q2 q3, upd (Holds.of (setE_same _ _ _) rfl rfl rfl row ?_)⟩
      cases hbk : en.blk with
      | none =>
        refine Deep.flat fun i x j z l hx hd => ?_
        by_cases hi : i < (ob.els.take len).length
        · dsimp only at hx
          rw [List.getElem?_append_left hi] at hx
          obtain ⟨_, _, k⟩ := old i x hx
          obtain ⟨_, _, _, h, _⟩ := k j _ hd
          rw [hbk] at h; cases h
        · dsimp only at hx
          rw [List.getElem?_append_right (by omega)] at hx
          exact noDpB_ok hnd _ _ _ _ _ hx hd
      | some p =>
        obtain ⟨g, cap⟩ := p
        obtain ⟨B, d1, d2⟩ := deep_get hHk k1 hbk
        refine ⟨B, fun i x j z l hx hd => ?_, d2⟩
        dsimp only at hx ⊢
        by_cases hi : i < (ob.els.take len).length
        · rw [List.getElem?_append_left hi] at hx
          obtain ⟨_, o1, kk⟩ := old i x hx
          obtain ⟨g2, cap2, u, o2, _, o3, o4, _⟩ := kk j _ hd
          rw [hbk] at o2
          injection o2 with o2
          injection o2 with o2 _
          subst o2
          obtain ⟨u', e1, e2⟩ := d1 i x j z l o1 hd
          rw [o4] at e1
          injection e1 with e1
          subst e1
          refine ⟨u, by rw [cell_of_row w' g' _ cur' T' (0, 0) q4]; exact o3, ?_⟩
          cases hB : B i j with
          | none => rw [hB] at e2; exact e2
          | some b =>
            rw [hB] at e2
            obtain ⟨p1, cp, p2, p3⟩ := e2
            refine ⟨p1, cp, p2, p3.ext hT.2.toExt ?_⟩
            exact w5 b (hI.at_ k en b k1 (.inr p1)).1 fun c' hc => hI.wf k en b c' k1 hc p1
        · rw [List.getElem?_append_right (by omega)] at hx
          exact (noDpB_ok hnd _ _ _ _ _ hx hd).elim
    · obtain ⟨o1, _, k⟩ := old i x hx
      exact ⟨o1, fun j d hd => by
        obtain ⟨_, _, u, _, _, o3, _, o5⟩ := k j d hd
        exact ⟨u, o3, o5.ext hT.2.toExt⟩⟩
    · rw [List.getElem?_take] at hy
      split at hy
      · rcases j4 with ⟨g, cap, _, _, _, r⟩ | ⟨_, _, _, _, h, _⟩
        · rw [← hez2]; exact r.sz i y hy
        · rw [h] at hy; simp at hy
      · cases hy
    · obtain ⟨u, hu, hp1, hp2⟩ := n4 i y j d hy hd
      have hlt : i * td.size + j < news.length := get_lt hu
      have hpos : 0 < len2 := by have := get_lt hy; omega
      refine ⟨u, ?_, hp1, hp2.ext hT.2.toExt⟩
      rw [hlt', Nat.add_mul, Nat.add_assoc, q7 hpos _ hlt]
      exact hu
end
theorem dpM {α : Type} {cd : α → List DV} {l : List α} (h : ∀ a, (cd a).all dpB = true) : ∀ x ∈ l.map cd, ∀ d ∈ x, dpB d = true := fun x hx d hd => by
  obtain ⟨a, _, rfl⟩ := List.mem_map.1 hx
  exact List.all_eq_true.1 (h a) d hd
theorem CvL.same {sto : Sto} {ρ : Ren} : ∀ {l : List DV}, (∀ d ∈ l, dpB d = true) → CvL sto ρ l l []
  | [], _ => .nil
  | d :: l, h => by
    have h1 := h d (List.mem_cons_self ..)
    have h3 : Cv sto ρ d d [] := by
      cases d with
      | lit v => exact .lit
      | sl xs => exact .sl
      | dp z l => exact .dp
      | _ => cases h1
    exact .cons h3 (CvL.same fun d hd => h d (List.mem_cons_of_mem _ hd))
/-- a row that is told apart -/
theorem CvO.rowAt {α : Type} {cd : α → List DV} {l : List α} {i : Nat} {row row' : List DV} {sto : Sto} {ρ : Ren} {z : Nat} {fz : Bool} {r : List Nat} (h : ∀ a, (cd a).all dpB = true) (hr : CvL sto ρ row row' r) : CvO sto ρ ⟨z, false, fz, (l.map cd).set i row⟩ ⟨z, false, fz, (l.map cd).set i row'⟩ r :=
  .rows (by simp) (fun j x y hx hy => by
    by_cases hj : i = j
    · subst hj
      have hlt := get_lt hx
      rw [List.length_set] at hlt
      rw [List.getElem?_set_self hlt] at hx hy
      injection hx with hx
      injection hy with hy
      subst hx
      subst hy
      exact ⟨r, hr, fun s hs => hs⟩
    · rw [List.getElem?_set_ne hj] at hx hy
      rw [hx] at hy
      injection hy with hy
      subst hy
      exact ⟨[], CvL.same (dpM h x (List.mem_of_getElem? hx)), fun s hs => by cases hs⟩) hr.known
theorem Cv.dfzM {α : Type} {cd c : α → List DV} {l : List α} {sto : Sto} {ρ : Ren} {s len z : Nat} {fz : Bool} (h : sto.get s = some ⟨z, false, fz, l.map cd⟩) (h1 : ∀ a, (cd a).map undp = c a) (h2 : ∀ a, (cd a).all dpB = true) (hl : len = l.length) : Cv sto ρ (.own s 0 len) (.sl (l.map c)) [s] :=
  .dfz h rfl (dpM h2) (by rw [hl]; simp) (by
    show (l.map cd).map _ = _
    rw [List.map_map]
    exact List.map_congr_left fun a _ => h1 a)
theorem Weak.flat {α : Type} {cd c : α → List DV} {l : List α} {n0 : Nat} {env : Env} {sto : Sto} {nxt s z : Nat} (hs : sto.get s = some ⟨z, false, false, l.map cd⟩) (h1 : ∀ a, (cd a).map undp = c a) (h2 : ∀ a, (cd a).all dpB = true) : Weak n0 ⟨env, sto, nxt⟩ ⟨env, (s, ⟨z, true, false, l.map c⟩) :: sto, nxt⟩ := fun C _ a w hS => by
  obtain ⟨m, rfl, hm, hF⟩ := hS
  obtain ⟨m', k1, k2, k3, k4, k5⟩ := deep_flat hm.inv (hm.sto s _ hs) (dpM h2)
  have e : (l.map cd).map (·.map undp) = l.map c := by rw [List.map_map]; exact List.map_congr_left fun a _ => h1 a
  rw [e] at k5
  refine ⟨m', k1, ⟨k3, k2.trans hm.M, hm.size, hm.defers, hm.org.trans k4.ent, hm.lim0, fun k => (hm.env k).ext k4.toExt, fun s' ob hs' => ?_⟩, fun s' hs' => ?_⟩
  · simp only [Sto.get_cons] at hs'
    split at hs'
    · rename_i h
      subst h
      injection hs' with hs'
      subst hs'
      exact k5
    · rename_i h
      exact Holds.loc hm.inv k4 (by simpa using h) (hm.sto s' ob hs')
  · have h1 := hF s' hs'
    have e1 : s' ≠ s := fun h => by subst h; obtain ⟨e, he, _⟩ := hm.sto s' _ hs; rw [h1] at he; cases he
    rw [k4.same s' (by simpa using e1)]
    exact h1
end Go.Proofs.Ythpnlnjdmlbnaaa
