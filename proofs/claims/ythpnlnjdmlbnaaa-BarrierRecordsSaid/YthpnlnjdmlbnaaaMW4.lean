/- Parts of the proof: L5, In3, InD, Ty, InC. No condition. -/
import Derived.Test.YthpnlnjdmlbnaaaMW3
import Derived.Test.YthpnlnjdmlbnaaaRows
import Derived.Maps.AppendAt
import Derived.Deep.QuietTactic
import Derived.BigQuiet
import Derived.Shelf.Spec.SlicesInsertGrow
import Derived.Laws.AppendOwn
import Derived.Laws.CopyRow
import Derived.Test.YthpnlnjdmlbnaaaChecked
import Derived.KernelRfl
/- Lifting: rows with slices of their own inside. No condition. -/
namespace Go.Proofs.Ythpnlnjdmlbnaaa
open Go.RowKit
set_option linter.unusedVariables false
set_option linter.unusedSimpArgs false

section
variable {P : Program} {o : Oper} {env : Env} {sto : Sto} {nxt : Nat}
theorem At.lt {α : Type} {xs : List α} {n : Int} {v : α} (h : At xs n v) : n.toNat < xs.length := (at_lt h.h).2
theorem At.get {α : Type} {xs : List α} {n : Int} {v : α} (h : At xs n v) {c : α → List DV} : (xs.map c)[n.toNat]? = some (c v) := by rw [List.getElem?_map, (at_get h.h).2]; rfl
theorem OpOK.us {d : DV} {us us' : List (Nat × Option Ob)} {rs : List Nat} {n : Nat} (h : OpOK P o env sto nxt ⟨d, us, rs, n⟩) (e : us = us') : OpOK P o env sto nxt ⟨d, us', rs, n⟩ := e ▸ h
theorem OpOK.rs {d : DV} {us : List (Nat × Option Ob)} {rs rs' : List Nat} {n : Nat} (h : OpOK P o env sto nxt ⟨d, us, rs, n⟩) (e : ∀ s ∈ rs, s ∈ rs') : OpOK P o env sto nxt ⟨d, us, rs', n⟩ := fun F m a h1 h2 h3 h4 => h F m a h1 h2 (fun s hs => h3 s (e s hs)) h4
theorem renO_deep {α : Type} {cd : α → List DV} {φ : Nat → Nat} {z : Nat} {f : Bool} {xs : List α} (h : ∀ a, (cd a).all dpB = true) : renO φ ⟨z, false, f, xs.map cd⟩ = ⟨z, false, f, xs.map cd⟩ := by
  unfold renO
  dsimp only
  rw [if_neg (by decide)]
  congr 1
  rw [List.map_map]
  refine List.map_congr_left fun a _ => ?_
  show renL φ (cd a) = cd a
  rw [renL_map]
  have := List.all_eq_true.1 (h a)
  conv => rhs; rw [← List.map_id (cd a)]
  refine List.map_congr_left fun d hd => ?_
  have := this d hd
  cases d with
  | lit v => unfold ren; rfl
  | sl xs => unfold ren; rfl
  | dp z l => unfold ren; rfl
  | _ => cases this
/-- a slice inside becomes an object -/
theorem m_ldD {α β : Type} {cd : α → List DV} {c : β → List DV} {xs : List α} {ys : List β} {n : Int} {v : α} {t : Nat} {p : Operand} {td : TyD} {s j z zz : Nat} (h : At xs n v) (row : List DV) (ht : TyOk P t td) (hj : (cd v)[j]? = some (.dp z (ys.map c))) (hr : (cd v).set j (.own nxt 0 ys.length) = row) (ho : o.op = .load t p := by rfl) (hag : td.agg = false := by rfl) (hsz : td.size = 1 := by rfl) (hp : opd env p = .ptr s n.toNat j := by rfl)
    (hs : sto.get s = some ⟨zz, false, false, xs.map cd⟩ := by rfl) : OpOK P o env sto nxt ⟨.own nxt 0 ys.length, [(s, some ⟨zz, false, false, (xs.map cd).set n.toNat row⟩), (nxt, some ⟨z, true, false, ys.map c⟩)], [s], 1⟩ := by
  have := r_ldD (P := P) (nxt := nxt) ho ht hag hsz hp hs rfl h.get hj
  rw [List.length_map] at this
  dsimp only at this
  have e : setC (xs.map cd) n.toNat j (.own nxt 0 ys.length) = (xs.map cd).set n.toNat row := by
    unfold setC
    rw [List.getD_eq_getElem?_getD, h.get, Option.getD_some, hr]
  rw [e] at this
  exact this
/-- a cell of a row that is told apart -/
theorem m_ldR {α : Type} {cd : α → List DV} {xs : List α} {n : Int} {v : α} {t : Nat} {p : Operand} {td : TyD} {s j zz : Nat} {row : List DV} {d : DV} (h : At xs n v) (ht : TyOk P t td) (ho : o.op = .load t p := by rfl) (hp : opd env p = .ptr s n.toNat j := by rfl)
    (hs : sto.get s = some ⟨zz, false, false, (xs.map cd).set n.toNat row⟩ := by rfl) (hd : ldD td (row.drop j) = some d := by rfl) : OpOK P o env sto nxt ⟨d, [], [s], 0⟩ :=
  r_load ho ht hp hs (by show ((xs.map cd).set n.toNat row)[n.toNat]? = _; rw [List.getElem?_set_self (by rw [List.length_map]; exact h.lt)]) hd
/-- a cell of a row is written -/
theorem m_stR {α : Type} {cd : α → List DV} {xs : List α} {n : Int} {v : α} {t : Nat} {p x : Operand} {td : TyD} {s j zz : Nat} {els : List (List DV)} {row0 cs : List DV} {r : List Nat} (h : At xs n v) (row : List DV) (he : (els = xs.map cd ∧ row0 = cd v) ∨ els = (xs.map cd).set n.toNat row0) (ht : TyOk P t td) (ho : o.op = .store t p x := by rfl) (hp : opd env p = .ptr s n.toNat j := by rfl)
    (hs : sto.get s = some ⟨zz, false, false, els⟩ := by rfl) (hc : cellsD td (opd env x) = some cs := by rfl) (hb : boxF sto cs = some r := by rfl) (hr : setCells row0 j cs = row := by rfl) (hj : j + cs.length ≤ row0.length := by exact Nat.le_of_ble_eq_true rfl) : OpOK P o env sto nxt ⟨.any, [(s, some ⟨zz, false, false, (xs.map cd).set n.toNat row⟩)], s :: r, 0⟩ := by
  have hy : els[n.toNat]? = some row0 := by
    rcases he with ⟨rfl, rfl⟩ | rfl
    · exact h.get
    · rw [List.getElem?_set_self (by rw [List.length_map]; exact h.lt)]
  have := r_store (P := P) (nxt := nxt) ho ht hp hs rfl rfl hc hb hy hj
  dsimp only at this
  have e : els.set n.toNat (setCells row0 j cs) = (xs.map cd).set n.toNat row := by
    rw [hr]
    rcases he with ⟨rfl, _⟩ | rfl
    · rfl
    · rw [List.set_set]
  rw [e] at this
  exact this
/-- a row of elements that hold objects -/
theorem m_litD {t e len : Nat} {parts : Array (Nat × Operand)} {l : List (Nat × Operand)} {tt td : TyD} {cells : List DV} {r r2 : List Nat} (rows : List (List DV)) (ht : TyOk P t tt) (he : TyOk P e td) (ho : o.op = .buildSlice t len parts := by rfl) (hp : parts = l.toArray := by rfl) (hk : tt.k = .slice e := by rfl)
    (hz : td.zero.length = td.size := by rfl) (h0 : 0 < td.size := by decide) (h1 : 0 < len := by decide) (hm : len * td.size ≤ 16777216 := by decide)
    (h : fillD sto (fun i => some (i * td.size, td.size)) (zeros td len) (l.map fun p => (p.1, opd env p.2)) = some (cells, r) := by rfl) (hb : boxF sto cells = some r2 := by rfl) (hx : chunks len td.size cells = rows := by rfl) (hl : len = rows.length := by rfl) :
    OpOK P o env sto nxt ⟨.own nxt 0 rows.length, [(nxt, some ⟨td.size, false, false, rows⟩)], r ++ r2, 1⟩ := by
  have := r_litR (P := P) (nxt := nxt) ho hp ht hk he hz h0 h1 hm h hb
  rw [hx, hl] at this
  exact this
/-- a part that is cut out -/
theorem m_del {α : Type} {c : α → List DV} (xs : List α) {a b : Int} {t e k la zz : Nat} {s x : Operand} {tt td : TyD} {rs : List Nat} (h : 0 ≤ a ∧ a ≤ b ∧ b ≤ xs.length) (ht : TyOk P t tt) (he : TyOk P e td) (ho : o.op = .call ⟨.builtin .append, #[s, x], #[t, t]⟩) (hs : opd env s = .own k 0 la) (hla : la = a.toNat) (hg : sto.get k = some ⟨zz, true, false, xs.map c⟩)
    (hx : elsF sto (opd env x) = some (((xs.take (xs.length : Int).toNat).drop b.toNat).map c, rs)) (hb : (xs.length : Int) * td.bytes ≤ 140737488355328 ∧ (xs.length : Int) ≤ 9223372036854775807) (hk : tt.k = .slice e := by rfl) (hz : td.zero.length = td.size := by rfl) (h0 : 0 < td.size := by decide) (hez : zz = td.size := by rfl) (hc : ∀ v, (c v).length = td.size := by exact fun _ => rfl) :
    OpOK P o env sto nxt ⟨.own nxt 0 (xs.take a.toNat ++ (xs.take (xs.length : Int).toNat).drop b.toNat).length, [(k, none), (nxt, some ⟨td.size, true, false, (xs.take a.toNat ++ (xs.take (xs.length : Int).toNat).drop b.toNat).map c⟩)], k :: rs, 1⟩ := by
  subst hla
  have hd : ((xs.take (xs.length : Int).toNat).drop b.toNat).length = xs.length - b.toNat := by rw [List.length_drop, List.length_take]; omega
  have := r_app (P := P) (nxt := nxt) ho ht hk he hs hg hx rfl rfl (by rw [List.length_map]; omega) hez hz h0 (fun y hy => by obtain ⟨v, _, rfl⟩ := List.mem_map.1 hy; exact hc v) (by
    rw [List.length_map, hd]
    have h1 : a.toNat + (xs.length - b.toNat) ≤ xs.length := by omega
    exact Nat.le_trans (Nat.mul_le_mul_right _ h1) (nat_le (a := _ * _) hb.1)) (by rw [List.length_map, hd]; unfold maxLen; omega)
  dsimp only at this
  rw [← List.map_take, ← List.map_append, List.length_map, hd, show a.toNat + (xs.length - b.toNat) = (xs.take a.toNat ++ (xs.take (xs.length : Int).toNat).drop b.toNat).length by rw [List.length_append, List.length_take, hd]; omega] at this
  exact this
/-- an element of an array of cells -/
theorem m_iaX {α : Type} {xs : List α} {v : α} {n : Int} {N t e s : Nat} {x ix : Operand} {tt td : TyD} {k : IntKind} {ob : Ob} (h : At xs n v) (hN : n < (N : Int)) (ht : TyOk P t tt) (he : TyOk P e td) (ho : o.op = .indexAddr t x ix := by rfl) (hk : tt.k = .array N e := by rfl) (hx : opd env x = .ptr s 0 0 := by rfl) (hi : opd env ix = .lit (.int k n) := by rfl) (hs : sto.get s = some ob := by rfl) (hz : td.size = 1 := by rfl) : OpOK P o env sto nxt ⟨.ptr s 0 n.toNat, [], [s], 0⟩ := by
  have h0 := (at_lt h.h).1
  have := r_iaA (P := P) (nxt := nxt) ho ht hk he hx (i := n.toNat) (by rw [Int.toNat_of_nonneg h0]; exact hi) hs (by omega)
  rw [hz, Nat.zero_add, Nat.mul_one] at this
  exact this
theorem cellX {α : Type} {c1 : α → DV} {xs : List α} {n : Int} {v : α} (h : At xs n v) : ∃ l, (xs.map c1).drop n.toNat = c1 v :: l := by
  refine ⟨(xs.map c1).drop (n.toNat + 1), ?_⟩
  have h1 := (at_get h.h).2
  obtain ⟨h2, h3⟩ := List.getElem?_eq_some_iff.1 h1
  rw [List.drop_eq_getElem_cons (by rw [List.length_map]; exact h2), List.getElem_map, h3]
theorem m_ldX {α : Type} {c1 : α → DV} {xs : List α} {v : α} {n : Int} {t s z : Nat} {p : Operand} {td : TyD} {f : Bool} (h : At xs n v) (ht : TyOk P t td) (hs : sto.get s = some ⟨z, false, f, [xs.map c1]⟩) (ho : o.op = .load t p := by rfl) (hp : opd env p = .ptr s 0 n.toNat := by rfl) (hg : td.agg = false := by rfl) (hsz : td.size = 1 := by rfl) (hl : ∀ l, ldD td (c1 v :: l) = some (c1 v) := by exact fun _ => rfl) : OpOK P o env sto nxt ⟨c1 v, [], [s], 0⟩ := by
  obtain ⟨l, hl'⟩ := cellX (c1 := c1) h
  exact r_load ho ht hp hs rfl (by rw [hl']; exact hl l)
theorem m_stX {α : Type} {c1 : α → DV} {xs : List α} {v : α} {n : Int} {t s z : Nat} {p x : Operand} {td : TyD} {r : List Nat} (h : At xs n v) (a : α) (ht : TyOk P t td) (hs : sto.get s = some ⟨z, false, false, [xs.map c1]⟩) (ho : o.op = .store t p x := by rfl) (hp : opd env p = .ptr s 0 n.toNat := by rfl) (hc : cellsD td (opd env x) = some [c1 a] := by rfl) (hb : boxF sto [c1 a] = some r := by rfl) : OpOK P o env sto nxt ⟨.any, [(s, some ⟨z, false, false, [(xs.set n.toNat a).map c1]⟩)], s :: r, 0⟩ := by
  have := r_store (P := P) (nxt := nxt) ho ht hp hs rfl rfl hc hb (y := xs.map c1) rfl (by rw [List.length_map]; exact h.lt)
  rw [show (xs.set n.toNat a).map c1 = setCells (xs.map c1) n.toNat [c1 a] by rw [List.map_set]; rfl]
  exact this
theorem delV {α : Type} {c : α → List DV} {xs : List α} {b : Int} {k lb lc zz : Nat} {x : Operand} {f : Bool} (hx : opd env x = .own k lb lc) (hlb : lb = b.toNat) (hlc : lc = (xs.length : Int).toNat - b.toNat) (hb : 0 ≤ b ∧ b ≤ xs.length) (hg : sto.get k = some ⟨zz, true, f, xs.map c⟩) : elsF sto (opd env x) = some (((xs.take (xs.length : Int).toNat).drop b.toNat).map c, [k]) := by
  subst hlb hlc
  rw [hx]
  show (match sto.get k with | some ob => if ob.arr = true ∧ b.toNat + ((xs.length : Int).toNat - b.toNat) ≤ ob.els.length then some ((ob.els.drop b.toNat).take ((xs.length : Int).toNat - b.toNat), [k]) else none | none => none) = _
  rw [hg]
  dsimp only
  rw [if_pos ⟨rfl, by rw [List.length_map]; omega⟩, ← List.map_drop, List.take_of_length_le (by rw [List.length_map, List.length_drop]; omega), List.take_of_length_le (by omega)]
/-- append rows -/
theorem m_apD {α : Type} {cd : α → List DV} (xs : List α) (row : List DV) {t e k k2 len zz z2 : Nat} {s x : Operand} {tt td : TyD} {B : Int} (hb : ((xs.length : Int) + 1) * B ≤ 140737488355328 ∧ (xs.length : Int) + 1 ≤ 9223372036854775807) (ht : TyOk P t tt) (he : TyOk P e td) (ho : o.op = .call ⟨.builtin .append, #[s, x], #[t, t]⟩) (hs : opd env s = .own k 0 len) (hl : len = xs.length) (hg : sto.get k = some ⟨zz, false, false, xs.map cd⟩) (hx : opd env x = .own k2 0 1) (hg2 : sto.get k2 = some ⟨z2, false, false, [row]⟩)
    (hk : tt.k = .slice e := by rfl) (hz : td.zero.length = td.size := by rfl) (h0 : 0 < td.size := by decide) (hez : zz = td.size := by rfl) (hez2 : z2 = td.size := by rfl) (hnd : noDpB [row] = true := by rfl) (hB : (td.bytes : Int) = B := by rfl) :
    OpOK P o env sto nxt ⟨.own nxt 0 (xs.length + 1), [(k, none), (nxt, some ⟨td.size, false, false, xs.map cd ++ [row]⟩)], [k, k2], 1⟩ := by
  subst hl
  have := r_appR (P := P) (nxt := nxt) ho ht hk he hs hg hx hg2 rfl rfl (by show xs.length ≤ (xs.map cd).length; rw [List.length_map]; exact Nat.le_refl _) (Nat.le_refl 1) hez hez2 hnd hz h0 (by subst hB; exact nat_le (a := (_ + 1) * _) hb.1) (by have := hb.2; unfold maxLen; omega)
  rw [show (⟨zz, false, false, xs.map cd⟩ : Ob).els.take xs.length = xs.map cd from List.take_of_length_le (by simp), show (⟨z2, false, false, [row]⟩ : Ob).els.take 1 = [row] from rfl] at this
  exact this
end
section
variable {n0 : Nat} {env : Env} {sto : Sto} {nxt : Nat} {α β : Type} {cd : α → List DV} {c : β → List DV} {xs : List α} {ys : List β} {n : Int} {v : α}
/-- objects of a row go back inside -/
theorem attR {s t z zz j m : Nat} {row : List DV} (h : At xs n v) (row' : List DV) (hst : Nat.beq s t = false) (hs : sto.get s = some ⟨zz, false, false, (xs.map cd).set n.toNat row⟩) (ht : sto.get t = some ⟨z, true, false, ys.map c⟩) (hm : m = ys.length) (hj : row[j]? = some (.own t 0 m)) (hr : row.set j (.dp z (ys.map c)) = row') :
    Weak n0 ⟨env, sto, nxt⟩ ⟨env, (s, ⟨zz, false, false, (xs.map cd).set n.toNat row'⟩) :: sto.drop t, nxt⟩ :=
  Weak.att hs ht hst (x := row) (by rw [List.getElem?_set_self (by rw [List.length_map]; exact h.lt)]) (by rw [hj, hm, List.length_map]) (by
    unfold setC
    rw [List.getD_eq_getElem?_getD, List.getElem?_set_self (by rw [List.length_map]; exact h.lt), Option.getD_some, hr, List.set_set])
theorem tellR {s zz : Nat} {row : List DV} (v' : α) (hs : sto.get s = some ⟨zz, false, false, (xs.map cd).set n.toNat row⟩) (hr : row = cd v') : Weak n0 ⟨env, sto, nxt⟩ ⟨env, (s, ⟨zz, false, false, (xs.set n.toNat v').map cd⟩) :: sto, nxt⟩ :=
  Weak.tell hs fun m h => by rw [hr] at h; rw [List.map_set]; exact h
theorem attL {s t z zz j m : Nat} {row : List DV} (row' : List DV) (hst : Nat.beq s t = false) (hs : sto.get s = some ⟨zz, false, false, xs.map cd ++ [row]⟩) (ht : sto.get t = some ⟨z, true, false, ys.map c⟩) (hm : m = ys.length) (hj : row[j]? = some (.own t 0 m)) (hr : row.set j (.dp z (ys.map c)) = row') :
    Weak n0 ⟨env, sto, nxt⟩ ⟨env, (s, ⟨zz, false, false, xs.map cd ++ [row']⟩) :: sto.drop t, nxt⟩ :=
  Weak.att hs ht hst (i := xs.length) (x := row) (by rw [List.getElem?_append_right (by simp)]; simp) (by rw [hj, hm, List.length_map]) (by
    unfold setC
    rw [List.getD_eq_getElem?_getD, List.getElem?_append_right (by simp)]
    simp [hr])
theorem attLN {s z zz j : Nat} {row : List DV} (row' : List DV) (hz : 0 < z) (hs : sto.get s = some ⟨zz, false, false, xs.map cd ++ [row]⟩) (hj : row[j]? = some (.lit (.slice none 0 0))) (hr : row.set j (.dp z []) = row') :
    Weak n0 ⟨env, sto, nxt⟩ ⟨env, (s, ⟨zz, false, false, xs.map cd ++ [row']⟩) :: sto, nxt⟩ :=
  Weak.attN hz hs (i := xs.length) (x := row) (by rw [List.getElem?_append_right (by simp)]; simp) hj (by
    unfold setC
    rw [List.getD_eq_getElem?_getD, List.getElem?_append_right (by simp)]
    simp [hr])
theorem tellL {s zz : Nat} {row : List DV} (v' : α) (hs : sto.get s = some ⟨zz, false, false, xs.map cd ++ [row]⟩) (hr : row = cd v') : Weak n0 ⟨env, sto, nxt⟩ ⟨env, (s, ⟨zz, false, false, (xs ++ [v']).map cd⟩) :: sto, nxt⟩ :=
  Weak.tell hs fun m h => by rw [hr] at h; simpa using h
theorem tellS {s zz : Nat} {row : List DV} (h : At xs n v) (hs : sto.get s = some ⟨zz, false, false, (xs.map cd).set n.toNat row⟩) (hr : row = cd v) : Weak n0 ⟨env, sto, nxt⟩ ⟨env, (s, ⟨zz, false, false, xs.map cd⟩) :: sto, nxt⟩ :=
  Weak.tell hs fun m h' => by
    rw [hr] at h'
    have e : (xs.map cd).set n.toNat (cd v) = xs.map cd := by
      rw [← List.map_set]
      congr 1
      obtain ⟨h1, rfl⟩ := at_elem h.h
      exact List.set_getElem_self h1
    rw [e] at h'
    exact h'
theorem unarrN {s z0 : Nat} (hs : sto.get s = some ⟨z0, true, false, []⟩) : Weak n0 ⟨env, sto, nxt⟩ ⟨env, (s, ⟨z0, false, false, ([] : List α).map cd⟩) :: sto, nxt⟩ := Weak.unarr hs
theorem tellC {s z : Nat} {φ : Nat → Nat} {f : Bool} (hs : sto.get s = some (renO φ ⟨z, false, f, xs.map cd⟩)) (h : ∀ a, (cd a).all dpB = true) : Weak n0 ⟨env, sto, nxt⟩ ⟨env, (s, ⟨z, false, f, xs.map cd⟩) :: sto, nxt⟩ := Weak.tell hs fun m h' => by rw [renO_deep h] at h'; exact h'
def lD (z : Nat) (c : β → List DV) (q : List β) : List DV := [.dp z (q.map c)]
end
end Go.Proofs.Ythpnlnjdmlbnaaa
/- slices.Insert at []int and at []api.Set, each way through it. Condition: what is inserted lies in a block of its own. -/
namespace Go.Proofs.Ythpnlnjdmlbnaaa
open Go.RowKit Go.Lib Go.Shelf
set_option linter.unusedVariables false
set_option linter.unusedSimpArgs false

theorem run_copy_cellsK {P : Program} (w : World) (dT sT ty elem : TypeId) (k : Nat) (b o dLen dCap : Nat) (a : Addr) (sLen sCap : Nat) (cs : List Value)
    (hu : P.underlying dT = some (.slice elem)) (hs : (P.info? elem).map (·.size) = some k) (hn : cs.length = Nat.min sLen dLen * k)
    (hsrc : ∀ j v, cs[j]? = some v → w.cell? (a.add j) = some v) (hc : ∀ j, j < cs.length → (w.cell? ⟨b, o + j, none⟩).isSome = true) (hf : ∀ j, j < cs.length → w.frozen? ⟨b, o + j, none⟩ = false) (h1 : ∀ v ∈ cs, v.oneCell' = true) :
    (Builtin.copy_ #[dT, sT] ty #[.slice (some ⟨b, o, none⟩) dLen dCap, .slice (some a) sLen sCap]).run P w = .ok (goInt (Nat.min sLen dLen : Nat)) (w.setCells b o cs) := by
  have hl := run_loadCells_list (P := P) w a cs hsrc
  have hst := run_storeCells_cells (P := P) b o cs 0 w (by simpa using hc) (by simpa using hf) h1
  cases hq : P.info? elem with
  | none => simp [hq] at hs
  | some i =>
    have hi : i.size = k := by simpa [hq] using hs
    simp [Builtin.copy_, run_underlying hu, Builtin.lenOf, Builtin.firstCells, sizeOf, typeInfo, hq, hi, ← hn, hl, hst]

set_option maxHeartbeats 4000000 in
set_option maxRecDepth 100000 in
theorem insS_shift (b off n c i vb voff m vc : Nat) (cs vs : List Value) (w : World) (hi : i < n) (hm : 0 < m) (hroom : n + m ≤ c) (hc63 : c ≤ 9223372036854775807) (hvb : vb ≠ b)
    (hcl : cs.length = n * 3) (hvl : vs.length = m * 3)
    (hcs : ∀ j v, cs[j]? = some v → w.cell? ⟨b, off + j, none⟩ = some v) (hsp : ∀ j, j < (n + m) * 3 → (w.cell? ⟨b, off + j, none⟩).isSome = true) (hfz : ∀ j, j < (n + m) * 3 → w.frozen? ⟨b, off + j, none⟩ = false)
    (hvs : ∀ j v, vs[j]? = some v → w.cell? ⟨vb, voff + j, none⟩ = some v) (h1c : ∀ v ∈ cs, v.oneCell' = true) (h1v : ∀ v ∈ vs, v.oneCell' = true)
    (tA tB : TypeId) (kA kB : Nat) (hsa : w.shape? vb = some (tA, kA)) (hsb : w.shape? b = some (tB, kB)) (hkB : kB ≠ 0) (hfa : w.frozen? ⟨vb, voff, none⟩ = false) (hfe : w.frozen? ⟨vb, kA, none⟩ = false) :
    Calls Try.prog 49 #[.slice (some ⟨b, off, none⟩) n c, .int .i64 i, .slice (some ⟨vb, voff, none⟩) m vc] w fun e w' =>
      e = .returned (.slice (some ⟨b, off, none⟩) (n + m) c) ∧ w' = (w.drew.setCells b (off + (i + m) * 3) (cs.drop (i * 3))).setCells b (off + i * 3) vs := by
  have hz1 : ¬ ((m : Int) = 0) := by omega
  have mixed : Try.prog.follows .mixedOrders = true := by kernel_rfl
  have hz2 : ¬ ((i : Int) = (n : Int)) := by omega
  have hsz : (Try.prog.info? 57).map (·.size) = some 3 := by kernel_rfl
  have hov : ∀ lb cb, (callFunc 59 #[.slice (some ⟨vb, voff, none⟩) m vc, .slice (some ⟨b, off + (i + m) * 3, none⟩) lb cb]).run Try.prog w = .ok (.value (.bool false)) w := fun lb cb => by
    rw [run_callFunc_extern Try.func59 (by kernel_rfl) (by kernel_rfl) (by kernel_rfl) (e := Extern.SlicesOverlaps.overlaps #[26, 26] #[4]) (by kernel_rfl),
      Lib.run_overlaps_apart w 26 4 57 Try.underlying26 3 Try.sizeOf57 ⟨vb, voff, none⟩ ⟨b, off + (i + m) * 3, none⟩ m vc lb cb hvb tA tB kA kB hsa hsb hkB hfa hfe]
    rfl
  have hdl : (cs.drop (i * 3)).length = (n - i) * 3 := by rw [List.length_drop, hcl]; omega
  have hw1 : IntKind.i64.wrap ((i : Int) + (m : Int)) = (i : Int) + (m : Int) := by rw [IntKind.wrap_i64]; omega
  have hb1 : (0 : Int) ≤ (i : Int) + (m : Int) := by omega
  have hin : i ≤ n := by omega
  have htn : ((i : Int) + (m : Int)).toNat = i + m := by omega
  have hb2 : ¬ (c = i + m) := by omega
  have hb3 : (i : Int) ≤ (n : Int) + (m : Int) := by omega
  have hb4 : ¬ (c = i) := by omega
  have hmn1 : Nat.min (n + m - i) (n + m - (i + m)) = n - i := by simp only [Nat.min_def]; split <;> omega
  have hmn2 : Nat.min m (n + m - i) = m := by simp only [Nat.min_def]; split <;> omega
  have hcp1 : ∀ ty dc sc, (Builtin.copy_ #[26, 26] ty #[.slice (some ⟨b, off + (i + m) * 3, none⟩) (n + m - (i + m)) dc, .slice (some ⟨b, off + i * 3, none⟩) (n + m - i) sc]).run Try.prog w.drew = .ok (goInt (n - i : Nat)) (w.drew.setCells b (off + (i + m) * 3) (cs.drop (i * 3))) := fun ty dc sc => by
    rw [← hmn1]
    exact run_copy_cellsK w.drew _ _ ty 57 3 b (off + (i + m) * 3) (n + m - (i + m)) dc ⟨b, off + i * 3, none⟩ (n + m - i) sc (cs.drop (i * 3)) Try.underlying26 hsz (by rw [hdl, hmn1])
      (fun j v hj => by rw [Addr.add_lit, Nat.add_assoc]; exact hcs (i * 3 + j) v (by rwa [List.getElem?_drop] at hj))
      (fun j hj => by rw [Nat.add_assoc]; exact hsp _ (by omega)) (fun j hj => by rw [Nat.add_assoc]; exact hfz _ (by omega)) (fun v hv => h1c v (List.mem_of_mem_drop hv))
  obtain ⟨W1, hW1⟩ : ∃ W1, W1 = w.drew.setCells b (off + (i + m) * 3) (cs.drop (i * 3)) := ⟨_, rfl⟩
  have hsp1 : ∀ k, k < (n + m) * 3 → (W1.cell? ⟨b, off + k, none⟩).isSome = true := fun k hk => by
    rw [hW1]
    exact isSome_setCells b _ _ _ (fun j hj => by rw [Nat.add_assoc]; exact hsp _ (by omega)) _ (hsp k hk)
  have hcp2 : ∀ (W : World), (∀ x, W.cell? x = W1.cell? x) → (∀ x, W.frozen? x = W1.frozen? x) → ∀ ty dc, (Builtin.copy_ #[26, 26] ty #[.slice (some ⟨b, off + i * 3, none⟩) (n + m - i) dc, .slice (some ⟨vb, voff, none⟩) m vc]).run Try.prog W = .ok (goInt (m : Nat)) (W.setCells b (off + i * 3) vs) := fun W hWc hWf ty dc => by
    have h := run_copy_cellsK (P := Try.prog) W 26 26 ty 57 3 b (off + i * 3) (n + m - i) dc ⟨vb, voff, none⟩ m vc vs Try.underlying26 hsz (by rw [hvl, hmn2])
      (fun j v hj => by
        rw [Addr.add_lit, hWc, hW1, World.cell?_setCells_out b _ _ _ _ (fun h _ => absurd h hvb)]
        exact hvs j v hj)
      (fun j hj => by rw [hWc, Nat.add_assoc]; exact hsp1 _ (by omega)) (fun j hj => by rw [hWf, hW1, World.frozen?_setCells, Nat.add_assoc]; exact hfz _ (by omega)) h1v
    rwa [hmn2] at h
  rw [← hW1] at hcp1
  go_enter Try.func49, Try.ntmps49
  go_wp2_with (simp only [hov])
  go_region_law_o (refine step_copy_runI rfl _ _ 26 26 rfl _ _ (by simp [Act.eval, Act.put]) (by simp [Act.eval, Act.put]) (hcp1 _ _ _) ?_)
  go_wp2_with (at_builtin; refine wpList_copy_runI _ rfl _ _ 26 26 rfl _ _ rfl rfl (hcp2 _ (fun _ => rfl) (fun _ => rfl) _ _) ?_)
  go_ret
  first | exact ⟨rfl, rfl⟩ | exact ⟨rfl, by rw [hW1]⟩

set_option maxHeartbeats 4000000 in
set_option maxRecDepth 100000 in
theorem insS_end_room (b off n c vb voff m vc : Nat) (vs : List Value) (w : World) (hm : 0 < m) (hroom : n + m ≤ c) (hc63 : c ≤ 9223372036854775807)
    (hvl : vs.length = m * 3) (hsp : ∀ j, j < m * 3 → (w.cell? ⟨b, off + n * 3 + j, none⟩).isSome = true) (hfz : ∀ j, j < m * 3 → w.frozen? ⟨b, off + n * 3 + j, none⟩ = false)
    (hvs : ∀ j v, vs[j]? = some v → w.cell? ⟨vb, voff + j, none⟩ = some v) (h1v : ∀ v ∈ vs, v.oneCell' = true) :
    Calls Try.prog 49 #[.slice (some ⟨b, off, none⟩) n c, .int .i64 n, .slice (some ⟨vb, voff, none⟩) m vc] w fun e w' =>
      e = .returned (.slice (some ⟨b, off, none⟩) (n + m) c) ∧ w' = w.setCells b (off + n * 3) vs := by
  have hz1 : ¬ ((m : Int) = 0) := by omega
  have mixed : Try.prog.follows .mixedOrders = true := by kernel_rfl
  have hsz : (Try.prog.info? 57).map (·.size) = some 3 := by kernel_rfl
  obtain ⟨i0, hi0, hz0, hzs, hzb⟩ := info_parts (show (Try.prog.info? 57).map (fun i => (i.zero, i.size, i.bytes)) = some (some (Value.agg #[.int .i64 0, .int .i64 0, .slice none 0 0]), 3, 40) from by kernel_rfl)
  have hsrc : Src Try.prog i0.size 26 (.slice (some ⟨vb, voff, none⟩) m vc) m vs w := by
    rw [hzs]
    exact Src.ofSlice w Try.underlying26 ⟨vb, voff, none⟩ m vc vs hvl (fun j u hj => by rw [Addr.add_lit]; exact hvs j u hj) h1v
  have hrun : ∀ ty, (Builtin.append_ #[26, 26] ty #[.slice (some ⟨b, off, none⟩) n c, .slice (some ⟨vb, voff, none⟩) m vc]).run Try.prog w = .ok (.slice (some ⟨b, off, none⟩) (n + m) c) (w.setCells b (off + n * 3) vs) := fun ty => by
    have h := run_append_room_src (P := Try.prog) (w := w) 26 26 ty 57 i0 Try.underlying26 hi0 b off n c _ m vs hsrc hroom (by rw [hvl, hzs]; exact hsp) (by rw [hvl, hzs]; exact hfz)
    rw [hzs] at h
    exact h
  go_enter Try.func49, Try.ntmps49
  go_wp2_with (at_builtin; refine Lib.wpList_append_run _ rfl _ _ _ _ rfl _ _ rfl rfl _ _ (hrun _) ?_)
  go_ret
  exact ⟨rfl, rfl⟩

set_option maxHeartbeats 4000000 in
set_option maxRecDepth 100000 in
theorem insS_end_grow (base : Option Addr) (n c vb voff m vc : Nat) (cs vs : List Value) (w : World) (hm : 0 < m) (hnc : n ≤ c) (hroom : c < n + m) (hbig : (n + m) * 40 ≤ 140737488355328)
    (hcl : cs.length = n * 3) (hvl : vs.length = m * 3) (hnil : base = none → n = 0)
    (hcs : ∀ a, base = some a → ∀ j v, cs[j]? = some v → w.cell? (a.add j) = some v)
    (hvs : ∀ j v, vs[j]? = some v → w.cell? ⟨vb, voff + j, none⟩ = some v) (h1v : ∀ v ∈ vs, v.oneCell' = true) :
    Calls Try.prog 49 #[.slice base n c, .int .i64 n, .slice (some ⟨vb, voff, none⟩) m vc] w fun e w' =>
      e = .returned (.slice (some ⟨w.heap.size, 0, none⟩) (n + m) (grownCap w (n + m) c 57)) ∧
      w' = w.drew.alloc (.cells ((cs ++ vs).toArray ++ Builtin.zeroCells (Value.agg #[.int .i64 0, .int .i64 0, .slice none 0 0]).cells (grownCap w (n + m) c 57 - (n + m))) 57) := by
  obtain ⟨i0, hi0, hz0, hzs, hzb⟩ := info_parts (show (Try.prog.info? 57).map (fun i => (i.zero, i.size, i.bytes)) = some (some (Value.agg #[.int .i64 0, .int .i64 0, .slice none 0 0]), 3, 40) from by kernel_rfl)
  have hz1 : ¬ ((m : Int) = 0) := by omega
  have mixed : Try.prog.follows .mixedOrders = true := by kernel_rfl
  have hsrc : Src Try.prog i0.size 26 (.slice (some ⟨vb, voff, none⟩) m vc) m vs w := by
    rw [hzs]
    exact Src.ofSlice w Try.underlying26 ⟨vb, voff, none⟩ m vc vs hvl (fun j u hj => by rw [Addr.add_lit]; exact hvs j u hj) h1v
  have hold : (Builtin.firstCells i0.size n (.slice base n c)).run Try.prog w.drew = .ok cs.toArray w.drew := by
    rw [hzs]
    cases base with
    | none =>
      have h0 := hnil rfl
      subst h0
      rw [List.length_eq_zero_iff.1 (by omega : cs.length = 0)]
      exact run_firstCells_none w.drew 3 0 0 c
    | some a => exact run_firstCells_some w.drew 3 n a n c cs hcl (fun j v hj => hcs a rfl j v hj)
  have hrun : ∀ ty, (Builtin.append_ #[26, 26] ty #[.slice base n c, .slice (some ⟨vb, voff, none⟩) m vc]).run Try.prog w = _ := fun ty =>
    run_append_grow_src w 26 26 ty 57 i0 _ Try.underlying26 hi0 hz0 base n c cs hold _ m vs hsrc hroom (by omega) (by rw [hzb]; exact growslice_fits hroom hbig)
  go_enter Try.func49, Try.ntmps49
  cases base with
  | none =>
    have h0 := hnil rfl
    subst h0
    go_wp2_with (at_builtin; refine Lib.wpList_append_run _ rfl _ _ _ _ rfl _ _ rfl rfl _ _ (hrun _) ?_)
    go_ret
    exact ⟨rfl, rfl⟩
  | some a =>
    obtain ⟨ab, ao, asp⟩ := a
    go_wp2_with (at_builtin; refine Lib.wpList_append_run _ rfl _ _ _ _ rfl _ _ rfl rfl _ _ (hrun _) ?_)
    all_goals (go_ret; exact ⟨rfl, rfl⟩)

set_option maxHeartbeats 4000000 in
set_option maxRecDepth 100000 in
theorem insS_grow (b off n c i vb voff m vc : Nat) (cs vs : List Value) (w : World) (hi : i < n) (hm : 0 < m) (hnc : n ≤ c) (hroom : c < n + m) (hbig : (n + m) * 40 ≤ 140737488355328)
    (hcl : cs.length = n * 3) (hvl : vs.length = m * 3)
    (hcs : ∀ j v, cs[j]? = some v → w.cell? ⟨b, off + j, none⟩ = some v)
    (hvs : ∀ j v, vs[j]? = some v → w.cell? ⟨vb, voff + j, none⟩ = some v) (h1c : ∀ v ∈ cs, v.oneCell' = true) (h1v : ∀ v ∈ vs, v.oneCell' = true) :
    Calls Try.prog 49 #[.slice (some ⟨b, off, none⟩) n c, .int .i64 i, .slice (some ⟨vb, voff, none⟩) m vc] w fun e w' =>
      e = .returned (.slice (some ⟨w.heap.size, 0, none⟩) (n + m) (grownCap w (n + m) c 57)) ∧
      w' = (((w.alloc (.cells ((cs.take (i * 3)).toArray ++ Builtin.zeroCells (Value.agg #[.int .i64 0, .int .i64 0, .slice none 0 0]).cells (n + m - i) ++ Builtin.zeroCells (Value.agg #[.int .i64 0, .int .i64 0, .slice none 0 0]).cells (grownCap w (n + m) c 57 - (n + m))) 57)).drew.setCells w.heap.size (i * 3) vs).drew).setCells w.heap.size ((i + m) * 3) (cs.drop (i * 3)) := by
  obtain ⟨i0, hi0, hz0, hzs, hzb⟩ := info_parts (show (Try.prog.info? 57).map (fun i => (i.zero, i.size, i.bytes)) = some (some (Value.agg #[.int .i64 0, .int .i64 0, .slice none 0 0]), 3, 40) from by kernel_rfl)
  have hz1 : ¬ ((m : Int) = 0) := by omega
  have mixed : Try.prog.follows .mixedOrders = true := by kernel_rfl
  have hz2 : ¬ ((i : Int) = (n : Int)) := by omega
  have hz3 : (c : Int) < (n : Int) + (m : Int) := by omega
  have hsz : (Try.prog.info? 57).map (·.size) = some 3 := by kernel_rfl
  have hbw : b < w.heap.size := block_lt_of_cell (hcs 0 _ (List.getElem?_eq_getElem (by omega)))
  have hvw : vb < w.heap.size := block_lt_of_cell (hvs 0 _ (List.getElem?_eq_getElem (by omega)))
  have hkk : (n : Int) + (m : Int) - (i : Int) = ((n + m - i : Nat) : Int) := by omega
  have hik : i + (n + m - i) = n + m := by omega
  have hmn1 : Nat.min (n - i) (n + m - (i + m)) = n - i := by simp only [Nat.min_def]; split <;> omega
  have hmn2 : Nat.min m (n + m - i) = m := by simp only [Nat.min_def]; split <;> omega
  have hold : (Builtin.firstCells i0.size i (.slice (some ⟨b, off, none⟩) i c)).run Try.prog w.drew = .ok (cs.take (i * 3)).toArray w.drew := by
    rw [hzs]
    exact run_firstCells_some w.drew 3 i ⟨b, off, none⟩ i c (cs.take (i * 3)) (by rw [List.length_take, hcl]; omega) (fun j v hj => by
      rw [Addr.add_lit]
      rw [List.getElem?_take] at hj
      split at hj
      · exact hcs j v hj
      · cases hj)
  have hrz : ∀ ty, (Builtin.append_ #[26, 3] ty #[.slice (some ⟨b, off, none⟩) i c, .int .i64 ((n : Int) + (m : Int) - (i : Int))]).run Try.prog w =
      .ok (.slice (some ⟨w.heap.size, 0, none⟩) (n + m) (grownCap w (n + m) c 57)) (w.drew.alloc (.cells ((cs.take (i * 3)).toArray ++ Builtin.zeroCells (Value.agg #[.int .i64 0, .int .i64 0, .slice none 0 0]).cells (n + m - i) ++ Builtin.zeroCells (Value.agg #[.int .i64 0, .int .i64 0, .slice none 0 0]).cells (grownCap w (n + m) c 57 - (n + m))) 57)) := fun ty => by
    have h := Lib.run_append_grow_zeros w 26 3 ty 57 i0 _ .i64 .i64 Try.underlying26 Try.underlying3 hi0 hz0 (some ⟨b, off, none⟩) i c (cs.take (i * 3)) hold (n + m - i) (by omega) (by omega) (by omega) (by omega) (by rw [hzb]; omega) (by rw [hzb, hik]; exact growslice_fits hroom hbig)
    rw [hik] at h
    rw [hkk]
    exact h
  obtain ⟨G, hG⟩ : ∃ G, G = grownCap w (n + m) c 57 := ⟨_, rfl⟩
  obtain ⟨ROW, hROW⟩ : ∃ ROW : Array Value, ROW = (cs.take (i * 3)).toArray ++ Builtin.zeroCells (Value.agg #[.int .i64 0, .int .i64 0, .slice none 0 0]).cells (n + m - i) ++ Builtin.zeroCells (Value.agg #[.int .i64 0, .int .i64 0, .slice none 0 0]).cells (G - (n + m)) := ⟨_, rfl⟩
  rw [← hG] at hrz ⊢
  rw [← hROW] at hrz ⊢
  have hRl : (n + m) * 3 ≤ ROW.size := by
    rw [hROW]
    simp [Builtin.zeroCells, Value.cells, List.length_flatten, hcl]
    omega
  obtain ⟨W1, hW1⟩ : ∃ W1, W1 = w.drew.alloc (.cells ROW 57) := ⟨_, rfl⟩
  rw [← hW1] at hrz
  have hN : ∀ j, j < (n + m) * 3 → (W1.cell? ⟨w.heap.size, j, none⟩).isSome = true := fun j hj => by
    rw [hW1, World.cell?_alloc_at (w := w.drew) ROW _ w.heap.size j rfl, Array.getElem?_eq_getElem (by omega)]; rfl
  have hNf : ∀ j, W1.frozen? ⟨w.heap.size, j, none⟩ = false := fun j => by rw [hW1]; exact World.frozen?_alloc_at (w := w.drew) ROW _ w.heap.size j rfl
  have hOb : ∀ j v, w.cell? ⟨b, j, none⟩ = some v → W1.cell? ⟨b, j, none⟩ = some v := fun j v h => by rw [hW1, World.cell?_alloc_past (w := w.drew) _ b j hbw]; exact h
  have hOv : ∀ j v, w.cell? ⟨vb, j, none⟩ = some v → W1.cell? ⟨vb, j, none⟩ = some v := fun j v h => by rw [hW1, World.cell?_alloc_past (w := w.drew) _ vb j hvw]; exact h
  have hcpA : ∀ (W : World), (∀ x, W.cell? x = W1.cell? x) → (∀ x, W.frozen? x = W1.frozen? x) → ∀ ty dc, (Builtin.copy_ #[26, 26] ty #[.slice (some ⟨w.heap.size, i * 3, none⟩) (n + m - i) dc, .slice (some ⟨vb, voff, none⟩) m vc]).run Try.prog W = .ok (goInt (m : Nat)) (W.setCells w.heap.size (i * 3) vs) := fun W hWc hWf ty dc => by
    have h := run_copy_cellsK (P := Try.prog) W 26 26 ty 57 3 w.heap.size (i * 3) (n + m - i) dc ⟨vb, voff, none⟩ m vc vs Try.underlying26 hsz (by rw [hvl, hmn2])
      (fun j v hj => by rw [Addr.add_lit, hWc]; exact hOv _ v (hvs j v hj))
      (fun j hj => by rw [hWc]; exact hN _ (by omega)) (fun j hj => by rw [hWf]; exact hNf _) h1v
    rwa [hmn2] at h
  have hGn : n + m ≤ G := by rw [hG]; exact grownCap_ge w _ _ _
  have hG63 : G ≤ 9223372036854775807 := by
    have := grownCap_le_maxLen w (n + m) c 57 (by unfold maxLen; omega)
    rw [← hG] at this
    unfold maxLen at this
    omega
  have hGi : ¬ (G = i) := by omega
  have hGim : ¬ (G = i + m) := by omega
  have hci : ¬ (c = i) := by omega
  have hbN : b ≠ w.heap.size := by omega
  have hdl : (cs.drop (i * 3)).length = (n - i) * 3 := by rw [List.length_drop, hcl]; omega
  have hcpB : ∀ (W : World), (∀ x, W.cell? x = (W1.setCells w.heap.size (i * 3) vs).cell? x) → (∀ x, W.frozen? x = (W1.setCells w.heap.size (i * 3) vs).frozen? x) → ∀ ty dc sc, (Builtin.copy_ #[26, 26] ty #[.slice (some ⟨w.heap.size, (i + m) * 3, none⟩) (n + m - (i + m)) dc, .slice (some ⟨b, off + i * 3, none⟩) (n - i) sc]).run Try.prog W = .ok (goInt (n - i : Nat)) (W.setCells w.heap.size ((i + m) * 3) (cs.drop (i * 3))) := fun W hWc hWf ty dc sc => by
    have h := run_copy_cellsK (P := Try.prog) W 26 26 ty 57 3 w.heap.size ((i + m) * 3) (n + m - (i + m)) dc ⟨b, off + i * 3, none⟩ (n - i) sc (cs.drop (i * 3)) Try.underlying26 hsz (by rw [hdl, hmn1])
      (fun j v hj => by
        rw [Addr.add_lit, hWc, World.cell?_setCells_out _ _ _ _ _ (fun h _ => absurd h hbN), Nat.add_assoc]
        exact hOb _ v (hcs (i * 3 + j) v (by rwa [List.getElem?_drop] at hj)))
      (fun j hj => by rw [hWc]; exact isSome_setCells _ _ _ _ (fun t ht => hN _ (by omega)) _ (hN _ (by omega)))
      (fun j hj => by rw [hWf, World.frozen?_setCells]; exact hNf _) (fun v hv => h1c v (List.mem_of_mem_drop hv))
    rwa [hmn1] at h
  subst hW1
  have hE1 : ∀ x, ((w.alloc (.cells ROW 57)).drew).cell? x = (w.drew.alloc (.cells ROW 57)).cell? x := fun x => rfl
  have hE2 : ∀ x, ((w.alloc (.cells ROW 57)).drew).frozen? x = (w.drew.alloc (.cells ROW 57)).frozen? x := fun x => rfl
  have hF1 : ∀ x, (((w.alloc (.cells ROW 57)).drew.setCells w.heap.size (i * 3) vs).drew).cell? x = ((w.drew.alloc (.cells ROW 57)).setCells w.heap.size (i * 3) vs).cell? x := fun x => rfl
  have hF2 : ∀ x, (((w.alloc (.cells ROW 57)).drew.setCells w.heap.size (i * 3) vs).drew).frozen? x = ((w.drew.alloc (.cells ROW 57)).setCells w.heap.size (i * 3) vs).frozen? x := fun x => rfl
  have hw1 : IntKind.i64.wrap ((i : Int) + (m : Int)) = (i : Int) + (m : Int) := by rw [IntKind.wrap_i64]; omega
  have hb1 : (0 : Int) ≤ (i : Int) + (m : Int) := by omega
  have hin : i ≤ n := by omega
  have htn : ((i : Int) + (m : Int)).toNat = i + m := by omega
  have hb3 : (i : Int) ≤ (n : Int) := by omega
  clear hkk hik hold hROW hG hRl
  go_enter Try.func49, Try.ntmps49
  go_wp2_with (first
    | (at_builtin; refine Lib.wpList_append_run _ rfl _ _ _ _ rfl _ _ rfl rfl _ _ (hrz _) ?_)
    | (at_builtin; refine wpList_copy_runI _ rfl _ _ 26 26 rfl _ _ rfl rfl (hcpA _ hE1 hE2 _ _) ?_)
    | (at_builtin; refine wpList_copy_runI _ rfl _ _ 26 26 rfl _ _ rfl rfl (hcpB _ (fun _ => rfl) (fun _ => rfl) _ _ _) ?_))
  go_region_law_o (refine step_copy_runI rfl _ _ 26 26 rfl (.slice (some ⟨w.heap.size, (i + m) * 3, none⟩) (n + m - (i + m)) (G - (i + m))) (.slice (some ⟨b, off + i * 3, none⟩) (n - i) (c - i)) (by simp [Act.eval, Act.put]) (by simp [Act.eval, Act.put]) (hcpB _ hF1 hF2 3 (G - (i + m)) (c - i)) ?_)
  go_wp2
  go_ret
  exact ⟨rfl, rfl⟩

set_option maxHeartbeats 4000000 in
set_option maxRecDepth 100000 in
theorem insI_shift (b off n c i vb voff m vc : Nat) (cs vs : List Value) (w : World) (hi : i < n) (hm : 0 < m) (hroom : n + m ≤ c) (hc63 : c ≤ 9223372036854775807) (hvb : vb ≠ b)
    (hcl : cs.length = n * 1) (hvl : vs.length = m * 1)
    (hcs : ∀ j v, cs[j]? = some v → w.cell? ⟨b, off + j, none⟩ = some v) (hsp : ∀ j, j < (n + m) * 1 → (w.cell? ⟨b, off + j, none⟩).isSome = true) (hfz : ∀ j, j < (n + m) * 1 → w.frozen? ⟨b, off + j, none⟩ = false)
    (hvs : ∀ j v, vs[j]? = some v → w.cell? ⟨vb, voff + j, none⟩ = some v) (h1c : ∀ v ∈ cs, v.oneCell' = true) (h1v : ∀ v ∈ vs, v.oneCell' = true)
    (tA tB : TypeId) (kA kB : Nat) (hsa : w.shape? vb = some (tA, kA)) (hsb : w.shape? b = some (tB, kB)) (hkB : kB ≠ 0) (hfa : w.frozen? ⟨vb, voff, none⟩ = false) (hfe : w.frozen? ⟨vb, kA, none⟩ = false) :
    Calls Try.prog 51 #[.slice (some ⟨b, off, none⟩) n c, .int .i64 i, .slice (some ⟨vb, voff, none⟩) m vc] w fun e w' =>
      e = .returned (.slice (some ⟨b, off, none⟩) (n + m) c) ∧ w' = (w.drew.setCells b (off + (i + m)) (cs.drop (i))).setCells b (off + i) vs := by
  have hz1 : ¬ ((m : Int) = 0) := by omega
  have mixed : Try.prog.follows .mixedOrders = true := by kernel_rfl
  have hz2 : ¬ ((i : Int) = (n : Int)) := by omega
  have hsz : (Try.prog.info? 3).map (·.size) = some 1 := by kernel_rfl
  have hov : ∀ lb cb, (callFunc 63 #[.slice (some ⟨vb, voff, none⟩) m vc, .slice (some ⟨b, off + (i + m), none⟩) lb cb]).run Try.prog w = .ok (.value (.bool false)) w := fun lb cb => by
    rw [run_callFunc_extern Try.func63 (by kernel_rfl) (by kernel_rfl) (by kernel_rfl) (e := Extern.SlicesOverlaps.overlaps #[27, 27] #[4]) (by kernel_rfl),
      Lib.run_overlaps_apart w 27 4 3 Try.underlying27 1 Try.sizeOf3 ⟨vb, voff, none⟩ ⟨b, off + (i + m), none⟩ m vc lb cb hvb tA tB kA kB hsa hsb hkB hfa hfe]
    rfl
  have hdl : (cs.drop (i)).length = (n - i) * 1 := by rw [List.length_drop, hcl]; omega
  have hw1 : IntKind.i64.wrap ((i : Int) + (m : Int)) = (i : Int) + (m : Int) := by rw [IntKind.wrap_i64]; omega
  have hb1 : (0 : Int) ≤ (i : Int) + (m : Int) := by omega
  have hin : i ≤ n := by omega
  have htn : ((i : Int) + (m : Int)).toNat = i + m := by omega
  have hb2 : ¬ (c = i + m) := by omega
  have hb3 : (i : Int) ≤ (n : Int) + (m : Int) := by omega
  have hb4 : ¬ (c = i) := by omega
  have hmn1 : Nat.min (n + m - i) (n + m - (i + m)) = n - i := by simp only [Nat.min_def]; split <;> omega
  have hmn2 : Nat.min m (n + m - i) = m := by simp only [Nat.min_def]; split <;> omega
  have hcp1 : ∀ ty dc sc, (Builtin.copy_ #[27, 27] ty #[.slice (some ⟨b, off + (i + m), none⟩) (n + m - (i + m)) dc, .slice (some ⟨b, off + i, none⟩) (n + m - i) sc]).run Try.prog w.drew = .ok (goInt (n - i : Nat)) (w.drew.setCells b (off + (i + m)) (cs.drop (i))) := fun ty dc sc => by
    rw [← hmn1]
    exact run_copy_cellsK w.drew _ _ ty 3 1 b (off + (i + m)) (n + m - (i + m)) dc ⟨b, off + i, none⟩ (n + m - i) sc (cs.drop (i)) Try.underlying27 hsz (by rw [hdl, hmn1])
      (fun j v hj => by rw [Addr.add_lit, Nat.add_assoc]; exact hcs (i + j) v (by rwa [List.getElem?_drop] at hj))
      (fun j hj => by rw [Nat.add_assoc]; exact hsp _ (by omega)) (fun j hj => by rw [Nat.add_assoc]; exact hfz _ (by omega)) (fun v hv => h1c v (List.mem_of_mem_drop hv))
  obtain ⟨W1, hW1⟩ : ∃ W1, W1 = w.drew.setCells b (off + (i + m)) (cs.drop (i)) := ⟨_, rfl⟩
  have hsp1 : ∀ k, k < (n + m) * 1 → (W1.cell? ⟨b, off + k, none⟩).isSome = true := fun k hk => by
    rw [hW1]
    exact isSome_setCells b _ _ _ (fun j hj => by rw [Nat.add_assoc]; exact hsp _ (by omega)) _ (hsp k hk)
  have hcp2 : ∀ (W : World), (∀ x, W.cell? x = W1.cell? x) → (∀ x, W.frozen? x = W1.frozen? x) → ∀ ty dc, (Builtin.copy_ #[27, 27] ty #[.slice (some ⟨b, off + i, none⟩) (n + m - i) dc, .slice (some ⟨vb, voff, none⟩) m vc]).run Try.prog W = .ok (goInt (m : Nat)) (W.setCells b (off + i) vs) := fun W hWc hWf ty dc => by
    have h := run_copy_cellsK (P := Try.prog) W 27 27 ty 3 1 b (off + i) (n + m - i) dc ⟨vb, voff, none⟩ m vc vs Try.underlying27 hsz (by rw [hvl, hmn2])
      (fun j v hj => by
        rw [Addr.add_lit, hWc, hW1, World.cell?_setCells_out b _ _ _ _ (fun h _ => absurd h hvb)]
        exact hvs j v hj)
      (fun j hj => by rw [hWc, Nat.add_assoc]; exact hsp1 _ (by omega)) (fun j hj => by rw [hWf, hW1, World.frozen?_setCells, Nat.add_assoc]; exact hfz _ (by omega)) h1v
    rwa [hmn2] at h
  rw [← hW1] at hcp1
  go_enter Try.func51, Try.ntmps51
  go_wp2_with (simp only [hov])
  go_region_law_o (refine step_copy_runI rfl _ _ 27 27 rfl _ _ (by simp [Act.eval, Act.put]) (by simp [Act.eval, Act.put]) (hcp1 _ _ _) ?_)
  go_wp2_with (at_builtin; refine wpList_copy_runI _ rfl _ _ 27 27 rfl _ _ rfl rfl (hcp2 _ (fun _ => rfl) (fun _ => rfl) _ _) ?_)
  go_ret
  first | exact ⟨rfl, rfl⟩ | exact ⟨rfl, by rw [hW1]⟩

set_option maxHeartbeats 4000000 in
set_option maxRecDepth 100000 in
theorem insI_end_room (b off n c vb voff m vc : Nat) (vs : List Value) (w : World) (hm : 0 < m) (hroom : n + m ≤ c) (hc63 : c ≤ 9223372036854775807)
    (hvl : vs.length = m * 1) (hsp : ∀ j, j < m * 1 → (w.cell? ⟨b, off + n + j, none⟩).isSome = true) (hfz : ∀ j, j < m * 1 → w.frozen? ⟨b, off + n + j, none⟩ = false)
    (hvs : ∀ j v, vs[j]? = some v → w.cell? ⟨vb, voff + j, none⟩ = some v) (h1v : ∀ v ∈ vs, v.oneCell' = true) :
    Calls Try.prog 51 #[.slice (some ⟨b, off, none⟩) n c, .int .i64 n, .slice (some ⟨vb, voff, none⟩) m vc] w fun e w' =>
      e = .returned (.slice (some ⟨b, off, none⟩) (n + m) c) ∧ w' = w.setCells b (off + n) vs := by
  have hz1 : ¬ ((m : Int) = 0) := by omega
  have mixed : Try.prog.follows .mixedOrders = true := by kernel_rfl
  have hsz : (Try.prog.info? 3).map (·.size) = some 1 := by kernel_rfl
  obtain ⟨i0, hi0, hz0, hzs, hzb⟩ := info_parts (show (Try.prog.info? 3).map (fun i => (i.zero, i.size, i.bytes)) = some (some (Value.int .i64 0), 1, 8) from by kernel_rfl)
  have hsrc : Src Try.prog i0.size 27 (.slice (some ⟨vb, voff, none⟩) m vc) m vs w := by
    rw [hzs]
    exact Src.ofSlice w Try.underlying27 ⟨vb, voff, none⟩ m vc vs hvl (fun j u hj => by rw [Addr.add_lit]; exact hvs j u hj) h1v
  have hrun : ∀ ty, (Builtin.append_ #[27, 27] ty #[.slice (some ⟨b, off, none⟩) n c, .slice (some ⟨vb, voff, none⟩) m vc]).run Try.prog w = .ok (.slice (some ⟨b, off, none⟩) (n + m) c) (w.setCells b (off + n) vs) := fun ty => by
    have h := run_append_room_src (P := Try.prog) (w := w) 27 27 ty 3 i0 Try.underlying27 hi0 b off n c _ m vs hsrc hroom (by rw [hvl, hzs]; simpa using hsp) (by rw [hvl, hzs]; simpa using hfz)
    rw [hzs, Nat.mul_one] at h
    exact h
  go_enter Try.func51, Try.ntmps51
  go_wp2_with (at_builtin; refine Lib.wpList_append_run _ rfl _ _ _ _ rfl _ _ rfl rfl _ _ (hrun _) ?_)
  go_ret
  exact ⟨rfl, rfl⟩

set_option maxHeartbeats 4000000 in
set_option maxRecDepth 100000 in
theorem insI_end_grow (base : Option Addr) (n c vb voff m vc : Nat) (cs vs : List Value) (w : World) (hm : 0 < m) (hnc : n ≤ c) (hroom : c < n + m) (hbig : (n + m) * 8 ≤ 140737488355328)
    (hcl : cs.length = n * 1) (hvl : vs.length = m * 1) (hnil : base = none → n = 0)
    (hcs : ∀ a, base = some a → ∀ j v, cs[j]? = some v → w.cell? (a.add j) = some v)
    (hvs : ∀ j v, vs[j]? = some v → w.cell? ⟨vb, voff + j, none⟩ = some v) (h1v : ∀ v ∈ vs, v.oneCell' = true) :
    Calls Try.prog 51 #[.slice base n c, .int .i64 n, .slice (some ⟨vb, voff, none⟩) m vc] w fun e w' =>
      e = .returned (.slice (some ⟨w.heap.size, 0, none⟩) (n + m) (grownCap w (n + m) c 3)) ∧
      w' = w.drew.alloc (.cells ((cs ++ vs).toArray ++ Builtin.zeroCells (Value.int .i64 0).cells (grownCap w (n + m) c 3 - (n + m))) 3) := by
  obtain ⟨i0, hi0, hz0, hzs, hzb⟩ := info_parts (show (Try.prog.info? 3).map (fun i => (i.zero, i.size, i.bytes)) = some (some (Value.int .i64 0), 1, 8) from by kernel_rfl)
  have hz1 : ¬ ((m : Int) = 0) := by omega
  have mixed : Try.prog.follows .mixedOrders = true := by kernel_rfl
  have hsrc : Src Try.prog i0.size 27 (.slice (some ⟨vb, voff, none⟩) m vc) m vs w := by
    rw [hzs]
    exact Src.ofSlice w Try.underlying27 ⟨vb, voff, none⟩ m vc vs hvl (fun j u hj => by rw [Addr.add_lit]; exact hvs j u hj) h1v
  have hold : (Builtin.firstCells i0.size n (.slice base n c)).run Try.prog w.drew = .ok cs.toArray w.drew := by
    rw [hzs]
    cases base with
    | none =>
      have h0 := hnil rfl
      subst h0
      rw [List.length_eq_zero_iff.1 (by omega : cs.length = 0)]
      exact run_firstCells_none w.drew 1 0 0 c
    | some a => exact run_firstCells_some w.drew 1 n a n c cs hcl (fun j v hj => hcs a rfl j v hj)
  have hrun : ∀ ty, (Builtin.append_ #[27, 27] ty #[.slice base n c, .slice (some ⟨vb, voff, none⟩) m vc]).run Try.prog w = _ := fun ty =>
    run_append_grow_src w 27 27 ty 3 i0 _ Try.underlying27 hi0 hz0 base n c cs hold _ m vs hsrc hroom (by omega) (by rw [hzb]; exact growslice_fits hroom hbig)
  go_enter Try.func51, Try.ntmps51
  cases base with
  | none =>
    have h0 := hnil rfl
    subst h0
    go_wp2_with (at_builtin; refine Lib.wpList_append_run _ rfl _ _ _ _ rfl _ _ rfl rfl _ _ (hrun _) ?_)
    go_ret
    exact ⟨rfl, rfl⟩
  | some a =>
    obtain ⟨ab, ao, asp⟩ := a
    go_wp2_with (at_builtin; refine Lib.wpList_append_run _ rfl _ _ _ _ rfl _ _ rfl rfl _ _ (hrun _) ?_)
    all_goals (go_ret; exact ⟨rfl, rfl⟩)

set_option maxHeartbeats 4000000 in
set_option maxRecDepth 100000 in
theorem insI_grow (b off n c i vb voff m vc : Nat) (cs vs : List Value) (w : World) (hi : i < n) (hm : 0 < m) (hnc : n ≤ c) (hroom : c < n + m) (hbig : (n + m) * 8 ≤ 140737488355328)
    (hcl : cs.length = n * 1) (hvl : vs.length = m * 1)
    (hcs : ∀ j v, cs[j]? = some v → w.cell? ⟨b, off + j, none⟩ = some v)
    (hvs : ∀ j v, vs[j]? = some v → w.cell? ⟨vb, voff + j, none⟩ = some v) (h1c : ∀ v ∈ cs, v.oneCell' = true) (h1v : ∀ v ∈ vs, v.oneCell' = true) :
    Calls Try.prog 51 #[.slice (some ⟨b, off, none⟩) n c, .int .i64 i, .slice (some ⟨vb, voff, none⟩) m vc] w fun e w' =>
      e = .returned (.slice (some ⟨w.heap.size, 0, none⟩) (n + m) (grownCap w (n + m) c 3)) ∧
      w' = (((w.alloc (.cells ((cs.take (i)).toArray ++ Builtin.zeroCells (Value.int .i64 0).cells (n + m - i) ++ Builtin.zeroCells (Value.int .i64 0).cells (grownCap w (n + m) c 3 - (n + m))) 3)).drew.setCells w.heap.size (i) vs).drew).setCells w.heap.size ((i + m)) (cs.drop (i)) := by
  obtain ⟨i0, hi0, hz0, hzs, hzb⟩ := info_parts (show (Try.prog.info? 3).map (fun i => (i.zero, i.size, i.bytes)) = some (some (Value.int .i64 0), 1, 8) from by kernel_rfl)
  have hz1 : ¬ ((m : Int) = 0) := by omega
  have mixed : Try.prog.follows .mixedOrders = true := by kernel_rfl
  have hz2 : ¬ ((i : Int) = (n : Int)) := by omega
  have hz3 : (c : Int) < (n : Int) + (m : Int) := by omega
  have hsz : (Try.prog.info? 3).map (·.size) = some 1 := by kernel_rfl
  have hbw : b < w.heap.size := block_lt_of_cell (hcs 0 _ (List.getElem?_eq_getElem (by omega)))
  have hvw : vb < w.heap.size := block_lt_of_cell (hvs 0 _ (List.getElem?_eq_getElem (by omega)))
  have hkk : (n : Int) + (m : Int) - (i : Int) = ((n + m - i : Nat) : Int) := by omega
  have hik : i + (n + m - i) = n + m := by omega
  have hmn1 : Nat.min (n - i) (n + m - (i + m)) = n - i := by simp only [Nat.min_def]; split <;> omega
  have hmn2 : Nat.min m (n + m - i) = m := by simp only [Nat.min_def]; split <;> omega
  have hold : (Builtin.firstCells i0.size i (.slice (some ⟨b, off, none⟩) i c)).run Try.prog w.drew = .ok (cs.take (i)).toArray w.drew := by
    rw [hzs]
    exact run_firstCells_some w.drew 1 i ⟨b, off, none⟩ i c (cs.take (i)) (by rw [List.length_take, hcl]; omega) (fun j v hj => by
      rw [Addr.add_lit]
      rw [List.getElem?_take] at hj
      split at hj
      · exact hcs j v hj
      · cases hj)
  have hrz : ∀ ty, (Builtin.append_ #[27, 3] ty #[.slice (some ⟨b, off, none⟩) i c, .int .i64 ((n : Int) + (m : Int) - (i : Int))]).run Try.prog w =
      .ok (.slice (some ⟨w.heap.size, 0, none⟩) (n + m) (grownCap w (n + m) c 3)) (w.drew.alloc (.cells ((cs.take (i)).toArray ++ Builtin.zeroCells (Value.int .i64 0).cells (n + m - i) ++ Builtin.zeroCells (Value.int .i64 0).cells (grownCap w (n + m) c 3 - (n + m))) 3)) := fun ty => by
    have h := Lib.run_append_grow_zeros w 27 3 ty 3 i0 _ .i64 .i64 Try.underlying27 Try.underlying3 hi0 hz0 (some ⟨b, off, none⟩) i c (cs.take (i)) hold (n + m - i) (by omega) (by omega) (by omega) (by omega) (by rw [hzb]; omega) (by rw [hzb, hik]; exact growslice_fits hroom hbig)
    rw [hik] at h
    rw [hkk]
    exact h
  obtain ⟨G, hG⟩ : ∃ G, G = grownCap w (n + m) c 3 := ⟨_, rfl⟩
  obtain ⟨ROW, hROW⟩ : ∃ ROW : Array Value, ROW = (cs.take (i)).toArray ++ Builtin.zeroCells (Value.int .i64 0).cells (n + m - i) ++ Builtin.zeroCells (Value.int .i64 0).cells (G - (n + m)) := ⟨_, rfl⟩
  rw [← hG] at hrz ⊢
  rw [← hROW] at hrz ⊢
  have hRl : (n + m) * 1 ≤ ROW.size := by
    rw [hROW]
    simp [Builtin.zeroCells, Value.cells, List.length_flatten, hcl]
    omega
  obtain ⟨W1, hW1⟩ : ∃ W1, W1 = w.drew.alloc (.cells ROW 3) := ⟨_, rfl⟩
  rw [← hW1] at hrz
  have hN : ∀ j, j < (n + m) * 1 → (W1.cell? ⟨w.heap.size, j, none⟩).isSome = true := fun j hj => by
    rw [hW1, World.cell?_alloc_at (w := w.drew) ROW _ w.heap.size j rfl, Array.getElem?_eq_getElem (by omega)]; rfl
  have hNf : ∀ j, W1.frozen? ⟨w.heap.size, j, none⟩ = false := fun j => by rw [hW1]; exact World.frozen?_alloc_at (w := w.drew) ROW _ w.heap.size j rfl
  have hOb : ∀ j v, w.cell? ⟨b, j, none⟩ = some v → W1.cell? ⟨b, j, none⟩ = some v := fun j v h => by rw [hW1, World.cell?_alloc_past (w := w.drew) _ b j hbw]; exact h
  have hOv : ∀ j v, w.cell? ⟨vb, j, none⟩ = some v → W1.cell? ⟨vb, j, none⟩ = some v := fun j v h => by rw [hW1, World.cell?_alloc_past (w := w.drew) _ vb j hvw]; exact h
  have hcpA : ∀ (W : World), (∀ x, W.cell? x = W1.cell? x) → (∀ x, W.frozen? x = W1.frozen? x) → ∀ ty dc, (Builtin.copy_ #[27, 27] ty #[.slice (some ⟨w.heap.size, i, none⟩) (n + m - i) dc, .slice (some ⟨vb, voff, none⟩) m vc]).run Try.prog W = .ok (goInt (m : Nat)) (W.setCells w.heap.size (i) vs) := fun W hWc hWf ty dc => by
    have h := run_copy_cellsK (P := Try.prog) W 27 27 ty 3 1 w.heap.size (i) (n + m - i) dc ⟨vb, voff, none⟩ m vc vs Try.underlying27 hsz (by rw [hvl, hmn2])
      (fun j v hj => by rw [Addr.add_lit, hWc]; exact hOv _ v (hvs j v hj))
      (fun j hj => by rw [hWc]; exact hN _ (by omega)) (fun j hj => by rw [hWf]; exact hNf _) h1v
    rwa [hmn2] at h
  have hGn : n + m ≤ G := by rw [hG]; exact grownCap_ge w _ _ _
  have hG63 : G ≤ 9223372036854775807 := by
    have := grownCap_le_maxLen w (n + m) c 3 (by unfold maxLen; omega)
    rw [← hG] at this
    unfold maxLen at this
    omega
  have hGi : ¬ (G = i) := by omega
  have hGim : ¬ (G = i + m) := by omega
  have hci : ¬ (c = i) := by omega
  have hbN : b ≠ w.heap.size := by omega
  have hdl : (cs.drop (i)).length = (n - i) * 1 := by rw [List.length_drop, hcl]; omega
  have hcpB : ∀ (W : World), (∀ x, W.cell? x = (W1.setCells w.heap.size (i) vs).cell? x) → (∀ x, W.frozen? x = (W1.setCells w.heap.size (i) vs).frozen? x) → ∀ ty dc sc, (Builtin.copy_ #[27, 27] ty #[.slice (some ⟨w.heap.size, (i + m), none⟩) (n + m - (i + m)) dc, .slice (some ⟨b, off + i, none⟩) (n - i) sc]).run Try.prog W = .ok (goInt (n - i : Nat)) (W.setCells w.heap.size ((i + m)) (cs.drop (i))) := fun W hWc hWf ty dc sc => by
    have h := run_copy_cellsK (P := Try.prog) W 27 27 ty 3 1 w.heap.size ((i + m)) (n + m - (i + m)) dc ⟨b, off + i, none⟩ (n - i) sc (cs.drop (i)) Try.underlying27 hsz (by rw [hdl, hmn1])
      (fun j v hj => by
        rw [Addr.add_lit, hWc, World.cell?_setCells_out _ _ _ _ _ (fun h _ => absurd h hbN), Nat.add_assoc]
        exact hOb _ v (hcs (i + j) v (by rwa [List.getElem?_drop] at hj)))
      (fun j hj => by rw [hWc]; exact isSome_setCells _ _ _ _ (fun t ht => hN _ (by omega)) _ (hN _ (by omega)))
      (fun j hj => by rw [hWf, World.frozen?_setCells]; exact hNf _) (fun v hv => h1c v (List.mem_of_mem_drop hv))
    rwa [hmn1] at h
  subst hW1
  have hE1 : ∀ x, ((w.alloc (.cells ROW 3)).drew).cell? x = (w.drew.alloc (.cells ROW 3)).cell? x := fun x => rfl
  have hE2 : ∀ x, ((w.alloc (.cells ROW 3)).drew).frozen? x = (w.drew.alloc (.cells ROW 3)).frozen? x := fun x => rfl
  have hF1 : ∀ x, (((w.alloc (.cells ROW 3)).drew.setCells w.heap.size (i) vs).drew).cell? x = ((w.drew.alloc (.cells ROW 3)).setCells w.heap.size (i) vs).cell? x := fun x => rfl
  have hF2 : ∀ x, (((w.alloc (.cells ROW 3)).drew.setCells w.heap.size (i) vs).drew).frozen? x = ((w.drew.alloc (.cells ROW 3)).setCells w.heap.size (i) vs).frozen? x := fun x => rfl
  have hw1 : IntKind.i64.wrap ((i : Int) + (m : Int)) = (i : Int) + (m : Int) := by rw [IntKind.wrap_i64]; omega
  have hb1 : (0 : Int) ≤ (i : Int) + (m : Int) := by omega
  have hin : i ≤ n := by omega
  have htn : ((i : Int) + (m : Int)).toNat = i + m := by omega
  have hb3 : (i : Int) ≤ (n : Int) := by omega
  clear hkk hik hold hROW hG hRl
  go_enter Try.func51, Try.ntmps51
  go_wp2_with (first
    | (at_builtin; refine Lib.wpList_append_run _ rfl _ _ _ _ rfl _ _ rfl rfl _ _ (hrz _) ?_)
    | (at_builtin; refine wpList_copy_runI _ rfl _ _ 27 27 rfl _ _ rfl rfl (hcpA _ hE1 hE2 _ _) ?_)
    | (at_builtin; refine wpList_copy_runI _ rfl _ _ 27 27 rfl _ _ rfl rfl (hcpB _ (fun _ => rfl) (fun _ => rfl) _ _ _) ?_))
  go_region_law_o (refine step_copy_runI rfl _ _ 27 27 rfl (.slice (some ⟨w.heap.size, (i + m), none⟩) (n + m - (i + m)) (G - (i + m))) (.slice (some ⟨b, off + i, none⟩) (n - i) (c - i)) (by simp [Act.eval, Act.put]) (by simp [Act.eval, Act.put]) (hcpB _ hF1 hF2 3 (G - (i + m)) (c - i)) ?_)
  go_wp2
  go_ret
  exact ⟨rfl, rfl⟩
end Go.Proofs.Ythpnlnjdmlbnaaa
/- slices.Insert of one element, on data. No condition. -/
namespace Go.Proofs.Ythpnlnjdmlbnaaa
open Go.RowKit Go.Shelf
set_option linter.unusedVariables false
set_option linter.unusedSimpArgs false
theorem cell_block {w : World} {g o : Nat} {cs : Array Value} {T : TypeId} (h : w.heap[g]? = some (.cells cs T (0, 0))) : w.cell? ⟨g, o, none⟩ = cs[o]? := cell_of_row w g o cs T (0, 0) h
theorem frozen_block {w : World} {g o : Nat} {cs : Array Value} {T : TypeId} (h : w.heap[g]? = some (.cells cs T (0, 0))) : w.frozen? ⟨g, o, none⟩ = false := by
  unfold World.frozen?
  rw [show w.heap[(⟨g, o, none⟩ : Addr).block]? = some (.cells cs T (0, 0)) from h]
  simp
theorem setCell_block {w : World} {g o : Nat} {cs : Array Value} {T : TypeId} (h : w.heap[g]? = some (.cells cs T (0, 0))) (v : Value) : (w.setCell ⟨g, o, none⟩ v).heap[g]? = some (.cells (cs.setIfInBounds o v) T (0, 0)) := by
  unfold World.setCell
  simp only [Array.getElem?_modify, if_true, h, Option.map_some]
  rfl
theorem grown_refl (w : World) (row : Option Nat) : w.grownBy w row := ⟨rfl, rfl, rfl, Nat.le_refl _, fun _ _ _ => rfl⟩
theorem grown_trans {a b c : World} {row : Option Nat} (h : a.grownBy b row) (k : b.grownBy c row) : a.grownBy c row :=
  ⟨k.os.trans h.os, k.tape.trans h.tape, k.output.trans h.output, Nat.le_trans h.size k.size, fun i hi hn => (k.block i (Nat.lt_of_lt_of_le hi h.size) hn).trans (h.block i hi hn)⟩
theorem grow_drew {row : Option Nat} (W : World) : W.grownBy W.drew row := ⟨rfl, rfl, rfl, Nat.le_refl _, fun _ _ _ => rfl⟩

theorem grown_setCell' (w : World) (a : Addr) (u : Value) : w.grownBy (w.setCell a u) (some a.block) :=
  ⟨rfl, rfl, rfl, by simp [World.setCell], fun k _ hk => by
    unfold World.setCell
    rw [Array.getElem?_modify]
    rw [if_neg (fun e => hk (by rw [e]))]⟩
theorem grown_setCells (g : Nat) : ∀ (vs : List Value) (o : Nat) (w : World), w.grownBy (w.setCells g o vs) (some g)
  | [], _, w => grown_refl w _
  | v :: r, o, w => grown_trans (grown_setCell' w ⟨g, o, none⟩ v) (grown_setCells g r (o + 1) _)
theorem setCells_at {g T : Nat} : ∀ (vs : List Value) (o : Nat) (w : World) (cur : Array Value), w.heap[g]? = some (.cells cur T (0, 0)) → o + vs.length ≤ cur.size →
    ∃ cur', (w.setCells g o vs).heap[g]? = some (.cells cur' T (0, 0)) ∧ cur'.toList = cur.toList.take o ++ vs ++ cur.toList.drop (o + vs.length)
  | [], o, w, cur, h, _ => ⟨cur, h, by simp⟩
  | v :: r, o, w, cur, h, hl => by
    obtain ⟨cur', h1, h2⟩ := setCells_at r (o + 1) (w.setCell ⟨g, o, none⟩ v) (cur.setIfInBounds o v) (setCell_block h v) (by simp at hl ⊢; omega)
    refine ⟨cur', h1, ?_⟩
    rw [h2, Array.toList_setIfInBounds]
    exact list_seg_step cur.toList o v r (by simp at hl ⊢; omega)

theorem splice2 {L C vs D : List Value} {a k m : Nat} (hC : L.take m = C) (ha : a ≤ m) (hm : m + k ≤ L.length) (hv : vs.length = k) (hD : D = C.drop a) :
    (((L.take (a + k) ++ D ++ L.drop (a + k + D.length)).take a ++ vs ++ (L.take (a + k) ++ D ++ L.drop (a + k + D.length)).drop (a + vs.length))).take (m + k) = C.take a ++ vs ++ C.drop a := by
  subst hC hD
  have h1 : (L.take (a + k) ++ (L.take m).drop a ++ L.drop (a + k + ((L.take m).drop a).length)).take a = L.take a := by
    rw [List.append_assoc, List.take_append_of_le_length (by rw [List.length_take]; omega), List.take_take, Nat.min_eq_left (by omega)]
  have h2 : (L.take (a + k) ++ (L.take m).drop a ++ L.drop (a + k + ((L.take m).drop a).length)).drop (a + vs.length) = (L.take m).drop a ++ L.drop (a + k + ((L.take m).drop a).length) := by
    rw [hv, List.append_assoc, List.drop_append_of_le_length (by rw [List.length_take]; omega), List.drop_eq_nil_of_le (by rw [List.length_take]; omega), List.nil_append]
  rw [h1, h2, List.take_take, Nat.min_eq_left ha, ← List.append_assoc]
  rw [List.take_append_of_le_length (by simp; omega), List.take_of_length_le (by simp; omega)]

theorem splice3 {L A vs D : List Value} {a k m : Nat} (hA : L.take a = A) (ha : a ≤ m) (hm : m + k ≤ L.length) (hv : vs.length = k) (hD : D.length = m - a) :
    (((L.take a ++ vs ++ L.drop (a + vs.length)).take (a + k) ++ D ++ (L.take a ++ vs ++ L.drop (a + vs.length)).drop (a + k + D.length))).take (m + k) = A ++ vs ++ D := by
  subst hA
  have h1 : (L.take a ++ vs ++ L.drop (a + vs.length)).take (a + k) = L.take a ++ vs := by
    rw [List.take_append_of_le_length (by simp; omega), List.take_of_length_le (by simp; omega)]
  rw [h1, List.take_append_of_le_length (by simp; omega), List.take_of_length_le (by simp; omega)]

theorem le_of_eq_len {a b c : Nat} (h : b = c) (k : a ≤ c) : a ≤ b := by omega
theorem zeroCells_length (cs : Array Value) (n : Nat) : (Builtin.zeroCells cs n).size = n * cs.size := by
  simp [Builtin.zeroCells]
theorem grown_new {w : World} {row : Option Nat} {o : Obj} : w.grownBy (w.alloc o) row :=
  ⟨rfl, rfl, rfl, by simp, fun k hk _ => by
    change (w.heap.push o)[k]? = _
    rw [Array.getElem?_push, if_neg (Nat.ne_of_lt hk)]⟩


set_option maxHeartbeats 2000000 in
theorem insI_raw {w : World} {n i : Nat} {v vv : Value} {g0 : Option (Nat × Nat)} {C vs : List Value}
    (hs : (∃ g cap cur T, g0 = some (g, cap) ∧ v = .slice (some ⟨g, 0, none⟩) n cap ∧ n ≤ cap ∧ cap ≤ maxLen ∧ w.heap[g]? = some (.cells cur T (0, 0)) ∧ cur.size = cap * 1 ∧ C = cur.toList.take (n * 1)) ∨ (g0 = none ∧ v = .slice none 0 0 ∧ n = 0 ∧ C = []))
    (hv : ∃ vb vc cv Tv, vv = .slice (some ⟨vb, 0, none⟩) 1 vc ∧ w.heap[vb]? = some (.cells cv Tv (0, 0)) ∧ cv.size = vc * 1 ∧ 1 ≤ vc ∧ vs = cv.toList.take 1 ∧ ∀ c, g0 ≠ some (vb, c))
    (h1c : ∀ u ∈ C, u.oneCell' = true) (h1v : ∀ u ∈ vs, u.oneCell' = true) (hi : i ≤ n) (hb : (n + 1) * 8 ≤ 140737488355328) :
    Calls Try.prog 51 #[v, .int .i64 i, vv] w fun e w' => ∃ g' cap' cur' T', e = .returned (.slice (some ⟨g', 0, none⟩) (n + 1) cap') ∧ w'.os = w.os ∧ w'.tape = w.tape ∧ w'.output = w.output ∧ w.heap.size ≤ w'.heap.size ∧
      (∀ j, j < w.heap.size → (∀ c, g0 ≠ some (j, c)) → w'.heap[j]? = w.heap[j]?) ∧ ((∃ c', g0 = some (g', c')) ∨ (w.heap.size ≤ g' ∧ g' < w'.heap.size)) ∧ n + 1 ≤ cap' ∧ cap' ≤ maxLen ∧ w'.heap[g']? = some (.cells cur' T' (0, 0)) ∧ cur'.size = cap' * 1 ∧ cur'.toList.take ((n + 1) * 1) = C.take (i * 1) ++ vs ++ C.drop (i * 1) := by
  obtain ⟨vb, vc, cv, Tv, rfl, hvb, hvs0, hvc, rfl, hne⟩ := hv
  have hvl : (cv.toList.take 1).length = 1 * 1 := by rw [List.length_take, Array.length_toList, hvs0]; omega
  generalize hVS : cv.toList.take 1 = vs at *
  have hvs : ∀ j u, vs[j]? = some u → w.cell? ⟨vb, 0 + j, none⟩ = some u := fun j u h => by
    rw [Nat.zero_add, cell_block hvb]
    rw [← hVS, List.getElem?_take] at h
    split at h
    · simpa using h
    · cases h
  rcases hs with ⟨g, cap, cur, T, rfl, rfl, hc, hm, hh, hs, ht⟩ | ⟨rfl, rfl, rfl, rfl⟩
  · have hl : C.length = n * 1 := by rw [ht, List.length_take, Array.length_toList, hs]; have := Nat.mul_le_mul_right 1 hc; omega
    have ht := ht.symm
    have hlL : C.length ≤ cur.toList.length := by rw [← ht, List.length_take]; omega
    have hne' : vb ≠ g := fun e => hne cap (by rw [e])
    have hgl : g < w.heap.size := (Array.getElem?_eq_some_iff.1 hh).1
    have hcs : ∀ j u, C[j]? = some u → w.cell? ⟨g, 0 + j, none⟩ = some u := fun j u h => by
      rw [Nat.zero_add, cell_block hh]
      rw [← ht, List.getElem?_take] at h
      split at h
      · simpa using h
      · cases h
    have hcap63 : cap ≤ 9223372036854775807 := by unfold maxLen at hm; omega
    have hsp : ∀ j, j < (n + 1) * 1 → n + 1 ≤ cap → (w.cell? ⟨g, 0 + j, none⟩).isSome = true := fun j hj hr => by
      rw [Nat.zero_add, cell_block hh, Array.getElem?_eq_getElem (by omega)]; rfl
    have hfz : ∀ j, w.frozen? ⟨g, j, none⟩ = false := fun j => frozen_block hh
    have hblk : ∀ {w' : World}, w.grownBy w' (some g) → ∀ j, j < w.heap.size → (∀ c, some (g, cap) ≠ some (j, c)) → w'.heap[j]? = w.heap[j]? := fun h j hj hn => h.block j hj (fun e => by injection e with e; exact hn cap (by rw [e]))
    by_cases hin : i = n
    · subst hin
      by_cases hroom : i + 1 ≤ cap
      · refine (insI_end_room g 0 i cap vb 0 1 vc vs w (by omega) hroom hcap63 hvl (fun j hj => by rw [Nat.add_assoc]; exact hsp _ (by omega) hroom) (fun j hj => hfz _) hvs h1v).mono ?_
        rintro e w' ⟨rfl, rfl⟩
        obtain ⟨cur', k1, k2⟩ := setCells_at (T := T) vs (0 + i) w cur hh (by rw [hvl]; omega)
        have hg := grown_setCells g vs (0 + i) w
        have hsz' : cur'.size = cap * 1 := by
          have := congrArg List.length k2
          simp only [Array.length_toList, List.length_append, List.length_take, List.length_drop] at this
          omega
        refine ⟨g, cap, cur', T, rfl, hg.os, hg.tape, hg.output, hg.size, hblk hg, .inl ⟨_, rfl⟩, hroom, hm, k1, hsz', ?_⟩
        have ht' : cur.toList.take (i) = C := by simpa using ht
        have e1 : C.drop (i) = [] := List.drop_eq_nil_of_le (by omega)
        have e2 : C.take (i) = C := List.take_of_length_le (by omega)
        rw [k2, Nat.zero_add, show (i + 1) * 1 = i + 1 by omega, show i * 1 = i by omega, ht', e2, e1, List.append_nil]
        rw [List.take_append_of_le_length (by rw [List.length_append, hvl]; omega), List.take_of_length_le (by rw [List.length_append, hvl]; omega)]
      · refine (insI_end_grow (some ⟨g, 0, none⟩) i cap vb 0 1 vc C vs w (by omega) hc (by omega) hb hl hvl (fun e => by cases e) (fun a e j u h => by
          injection e with e
          subst e
          rw [Addr.add_lit]
          exact hcs j u h) hvs h1v).mono ?_
        rintro e w' ⟨rfl, rfl⟩
        have hge := grownCap_ge w (i + 1) cap 3
        have hg := grown_trans (grow_drew w) (grown_new (w := w.drew) (row := some g) (o := .cells ((C ++ vs).toArray ++ Builtin.zeroCells (Value.int .i64 0).cells (grownCap w (i + 1) cap 3 - (i + 1))) 3))
        refine ⟨w.heap.size, _, _, _, rfl, rfl, rfl, rfl, hg.size, hblk hg, .inr ⟨Nat.le_refl _, by simp⟩, hge, grownCap_le_maxLen w _ _ _ (by unfold maxLen; omega), heap_alloc_new _ _, ?_, ?_⟩
        · rw [Array.size_append, zeroCells_length, show (Value.int .i64 0).cells.size = 1 from rfl]
          simp only [List.size_toArray, List.length_append, hvl, hl]
          omega
        · rw [Array.toList_append, List.take_append_of_le_length (by simp only [List.length_append, hvl, hl]; omega)]
          simp only []
          rw [List.take_of_length_le (by simp only [List.length_append, hvl, hl]; omega), List.take_of_length_le (by omega), List.drop_eq_nil_of_le (by omega), List.append_nil]
    · have hin' : i < n := by omega
      by_cases hroom : n + 1 ≤ cap
      · have hkB : cur.size ≠ 0 := by omega
        refine (insI_shift g 0 n cap i vb 0 1 vc C vs w hin' (by omega) hroom hcap63 hne' hl hvl hcs (fun j hj => hsp j hj hroom) (fun j hj => hfz _) hvs h1c h1v Tv T cv.size cur.size (by simp [World.shape?, hvb]) (by simp [World.shape?, hh]) hkB (frozen_block hvb) (frozen_block hvb)).mono ?_
        rintro e w' ⟨rfl, rfl⟩
        obtain ⟨cur1, k1, k2⟩ := setCells_at (T := T) (C.drop (i)) (0 + (i + 1)) w.drew cur hh (by rw [List.length_drop]; omega)
        have hs1 : cur1.size = cap * 1 := by
          have := congrArg List.length k2
          simp only [Array.length_toList, List.length_append, List.length_take, List.length_drop] at this
          omega
        obtain ⟨cur2, j1, j2⟩ := setCells_at (T := T) vs (0 + i) _ cur1 k1 (by rw [hvl]; omega)
        have hs2 : cur2.size = cap * 1 := by
          have := congrArg List.length j2
          simp only [Array.length_toList, List.length_append, List.length_take, List.length_drop] at this
          omega
        have hg : w.grownBy ((w.drew.setCells g (0 + (i + 1)) (C.drop (i))).setCells g (0 + i) vs) (some g) := grown_trans (grow_drew w) (grown_trans (grown_setCells g _ _ w.drew) (grown_setCells g _ _ _))
        refine ⟨g, cap, cur2, T, rfl, hg.os, hg.tape, hg.output, hg.size, hblk hg, .inl ⟨_, rfl⟩, hroom, hm, j1, hs2, ?_⟩
        have := splice2 (L := cur.toList) (C := C) (vs := vs) (D := C.drop (i)) (a := i) (k := 1) (m := n) (by simpa using ht) (by omega) (le_of_eq_len (Array.length_toList (xs := cur)) (by omega)) (hvl.trans rfl) rfl
        rw [j2, k2, Nat.zero_add, Nat.zero_add, show (n + 1) * 1 = n + 1 by omega, show i * 1 = i by omega]
        exact this
      · refine (insI_grow g 0 n cap i vb 0 1 vc C vs w hin' (by omega) hc (by omega) hb hl hvl hcs hvs h1c h1v).mono ?_
        rintro e w' ⟨rfl, rfl⟩
        have hge := grownCap_ge w (n + 1) cap 3
        generalize hG : grownCap w (n + 1) cap 3 = G at hge ⊢
        have hGm : G ≤ maxLen := by rw [← hG]; exact grownCap_le_maxLen w _ _ _ (by unfold maxLen; omega)
        generalize hR : ((C.take (i)).toArray ++ Builtin.zeroCells (Value.int .i64 0).cells (n + 1 - i) ++ Builtin.zeroCells (Value.int .i64 0).cells (G - (n + 1))) = R
        have hRs : R.size = G * 1 := by
          rw [← hR]
          simp only [Array.size_append, zeroCells_length, List.size_toArray, List.length_take, show (Value.int .i64 0).cells.size = 1 from rfl]
          omega
        have hRt : R.toList.take (i) = C.take (i) := by
          rw [← hR, Array.toList_append, Array.toList_append, List.append_assoc]
          simp only []
          rw [List.take_append_of_le_length (by rw [List.length_take]; omega), List.take_take, Nat.min_self]
        obtain ⟨cur1, k1, k2⟩ := setCells_at (T := 3) vs (i) (w.alloc (.cells R 3)).drew R (heap_alloc_new w _) (by rw [hvl]; omega)
        have hs1 : cur1.size = G * 1 := by
          have := congrArg List.length k2
          simp only [Array.length_toList, List.length_append, List.length_take, List.length_drop] at this
          omega
        obtain ⟨cur2, j1, j2⟩ := setCells_at (T := 3) (C.drop (i)) ((i + 1)) (((w.alloc (.cells R 3)).drew.setCells w.heap.size (i) vs).drew) cur1 k1 (by rw [List.length_drop]; omega)
        have hs2 : cur2.size = G * 1 := by
          have := congrArg List.length j2
          simp only [Array.length_toList, List.length_append, List.length_take, List.length_drop] at this
          omega
        have hnew : ∀ k, k < w.heap.size → ((((w.alloc (.cells R 3)).drew.setCells w.heap.size (i) vs).drew).setCells w.heap.size ((i + 1)) (C.drop (i))).heap[k]? = w.heap[k]? := fun k hk => by
          have g1 : w.grownBy (w.alloc (.cells R 3)) none := grown_new
          have g2 := grown_setCells w.heap.size vs (i) (w.alloc (.cells R 3)).drew
          have g3 := grown_setCells w.heap.size (C.drop (i)) ((i + 1)) (((w.alloc (.cells R 3)).drew.setCells w.heap.size (i) vs).drew)
          have s1 : k < (w.alloc (.cells R 3)).drew.heap.size := Nat.lt_of_lt_of_le hk g1.size
          have s2 : k < (((w.alloc (.cells R 3)).drew.setCells w.heap.size (i) vs).drew).heap.size := Nat.lt_of_lt_of_le s1 g2.size
          exact (g3.block k s2 (fun e => by injection e; omega)).trans ((g2.block k s1 (fun e => by injection e; omega)).trans (g1.block k hk (by simp)))
        have hg0 : w.grownBy ((((w.alloc (.cells R 3)).drew.setCells w.heap.size (i) vs).drew).setCells w.heap.size ((i + 1)) (C.drop (i))) (some w.heap.size) :=
          grown_trans grown_new (grown_trans (grow_drew _) (grown_trans (grown_setCells _ _ _ _) (grown_trans (grow_drew _) (grown_setCells _ _ _ _))))
        refine ⟨w.heap.size, G, cur2, _, rfl, hg0.os, hg0.tape, hg0.output, hg0.size, fun j hj _ => hnew j hj, .inr ⟨Nat.le_refl _, (Array.getElem?_eq_some_iff.1 j1).1⟩, hge, hGm, j1, hs2, ?_⟩
        have := splice3 (L := R.toList) (A := C.take (i)) (vs := vs) (D := C.drop (i)) (a := i) (k := 1) (m := n) hRt (by omega) (le_of_eq_len (Array.length_toList (xs := R)) (by omega)) (hvl.trans rfl) (by rw [List.length_drop]; omega)
        rw [j2, k2, show (n + 1) * 1 = n + 1 by omega, show i * 1 = i by omega]
        exact this
  · obtain rfl : i = 0 := by omega
    refine (insI_end_grow none 0 0 vb 0 1 vc [] vs w (by omega) (by omega) (by omega) (by omega) (by simp) hvl (fun _ => rfl) (by simp) hvs h1v).mono ?_
    rintro e w' ⟨rfl, rfl⟩
    have hg := grown_trans (grow_drew w) (grown_new (w := w.drew) (row := none) (o := .cells (([] ++ vs).toArray ++ Builtin.zeroCells (Value.int .i64 0).cells (grownCap w (0 + 1) 0 3 - (0 + 1))) 3))
    have hge := grownCap_ge w (0 + 1) 0 3
    refine ⟨w.heap.size, _, _, _, rfl, rfl, rfl, rfl, hg.size, fun j hj _ => hg.block j hj (by simp), .inr ⟨Nat.le_refl _, by simp⟩, hge, grownCap_le_maxLen w _ _ _ (by unfold maxLen; omega), heap_alloc_new _ _, ?_, ?_⟩
    · simp only [List.nil_append, Array.size_append, zeroCells_length, List.size_toArray]
      rw [hvl, show (Value.int .i64 0).cells.size = 1 from rfl]
      omega
    · simp only [List.nil_append, Array.toList_append, Nat.zero_add, Nat.one_mul, List.take_nil, List.drop_nil, List.append_nil]
      rw [List.take_append_of_le_length (by omega), List.take_of_length_le (by omega)]

set_option maxHeartbeats 2000000 in
theorem insS_raw {w : World} {n i : Nat} {v vv : Value} {g0 : Option (Nat × Nat)} {C vs : List Value}
    (hs : (∃ g cap cur T, g0 = some (g, cap) ∧ v = .slice (some ⟨g, 0, none⟩) n cap ∧ n ≤ cap ∧ cap ≤ maxLen ∧ w.heap[g]? = some (.cells cur T (0, 0)) ∧ cur.size = cap * 3 ∧ C = cur.toList.take (n * 3)) ∨ (g0 = none ∧ v = .slice none 0 0 ∧ n = 0 ∧ C = []))
    (hv : ∃ vb vc cv Tv, vv = .slice (some ⟨vb, 0, none⟩) 1 vc ∧ w.heap[vb]? = some (.cells cv Tv (0, 0)) ∧ cv.size = vc * 3 ∧ 1 ≤ vc ∧ vs = cv.toList.take 3 ∧ ∀ c, g0 ≠ some (vb, c))
    (h1c : ∀ u ∈ C, u.oneCell' = true) (h1v : ∀ u ∈ vs, u.oneCell' = true) (hi : i ≤ n) (hb : (n + 1) * 40 ≤ 140737488355328) :
    Calls Try.prog 49 #[v, .int .i64 i, vv] w fun e w' => ∃ g' cap' cur' T', e = .returned (.slice (some ⟨g', 0, none⟩) (n + 1) cap') ∧ w'.os = w.os ∧ w'.tape = w.tape ∧ w'.output = w.output ∧ w.heap.size ≤ w'.heap.size ∧
      (∀ j, j < w.heap.size → (∀ c, g0 ≠ some (j, c)) → w'.heap[j]? = w.heap[j]?) ∧ ((∃ c', g0 = some (g', c')) ∨ (w.heap.size ≤ g' ∧ g' < w'.heap.size)) ∧ n + 1 ≤ cap' ∧ cap' ≤ maxLen ∧ w'.heap[g']? = some (.cells cur' T' (0, 0)) ∧ cur'.size = cap' * 3 ∧ cur'.toList.take ((n + 1) * 3) = C.take (i * 3) ++ vs ++ C.drop (i * 3) := by
  obtain ⟨vb, vc, cv, Tv, rfl, hvb, hvs0, hvc, rfl, hne⟩ := hv
  have hvl : (cv.toList.take 3).length = 1 * 3 := by rw [List.length_take, Array.length_toList, hvs0]; omega
  generalize hVS : cv.toList.take 3 = vs at *
  have hvs : ∀ j u, vs[j]? = some u → w.cell? ⟨vb, 0 + j, none⟩ = some u := fun j u h => by
    rw [Nat.zero_add, cell_block hvb]
    rw [← hVS, List.getElem?_take] at h
    split at h
    · simpa using h
    · cases h
  rcases hs with ⟨g, cap, cur, T, rfl, rfl, hc, hm, hh, hs, ht⟩ | ⟨rfl, rfl, rfl, rfl⟩
  · have hl : C.length = n * 3 := by rw [ht, List.length_take, Array.length_toList, hs]; have := Nat.mul_le_mul_right 3 hc; omega
    have ht := ht.symm
    have hlL : C.length ≤ cur.toList.length := by rw [← ht, List.length_take]; omega
    have hne' : vb ≠ g := fun e => hne cap (by rw [e])
    have hgl : g < w.heap.size := (Array.getElem?_eq_some_iff.1 hh).1
    have hcs : ∀ j u, C[j]? = some u → w.cell? ⟨g, 0 + j, none⟩ = some u := fun j u h => by
      rw [Nat.zero_add, cell_block hh]
      rw [← ht, List.getElem?_take] at h
      split at h
      · simpa using h
      · cases h
    have hcap63 : cap ≤ 9223372036854775807 := by unfold maxLen at hm; omega
    have hsp : ∀ j, j < (n + 1) * 3 → n + 1 ≤ cap → (w.cell? ⟨g, 0 + j, none⟩).isSome = true := fun j hj hr => by
      rw [Nat.zero_add, cell_block hh, Array.getElem?_eq_getElem (by omega)]; rfl
    have hfz : ∀ j, w.frozen? ⟨g, j, none⟩ = false := fun j => frozen_block hh
    have hblk : ∀ {w' : World}, w.grownBy w' (some g) → ∀ j, j < w.heap.size → (∀ c, some (g, cap) ≠ some (j, c)) → w'.heap[j]? = w.heap[j]? := fun h j hj hn => h.block j hj (fun e => by injection e with e; exact hn cap (by rw [e]))
    by_cases hin : i = n
    · subst hin
      by_cases hroom : i + 1 ≤ cap
      · refine (insS_end_room g 0 i cap vb 0 1 vc vs w (by omega) hroom hcap63 hvl (fun j hj => by rw [Nat.add_assoc]; exact hsp _ (by omega) hroom) (fun j hj => hfz _) hvs h1v).mono ?_
        rintro e w' ⟨rfl, rfl⟩
        obtain ⟨cur', k1, k2⟩ := setCells_at (T := T) vs (0 + i * 3) w cur hh (by rw [hvl]; omega)
        have hg := grown_setCells g vs (0 + i * 3) w
        have hsz' : cur'.size = cap * 3 := by
          have := congrArg List.length k2
          simp only [Array.length_toList, List.length_append, List.length_take, List.length_drop] at this
          omega
        refine ⟨g, cap, cur', T, rfl, hg.os, hg.tape, hg.output, hg.size, hblk hg, .inl ⟨_, rfl⟩, hroom, hm, k1, hsz', ?_⟩
        have ht' : cur.toList.take (i * 3) = C := by simpa using ht
        have e1 : C.drop (i * 3) = [] := List.drop_eq_nil_of_le (by omega)
        have e2 : C.take (i * 3) = C := List.take_of_length_le (by omega)
        rw [k2, Nat.zero_add, show (i + 1) * 3 = i * 3 + 3 by omega, ht', e2, e1, List.append_nil]
        rw [List.take_append_of_le_length (by rw [List.length_append, hvl]; omega), List.take_of_length_le (by rw [List.length_append, hvl]; omega)]
      · refine (insS_end_grow (some ⟨g, 0, none⟩) i cap vb 0 1 vc C vs w (by omega) hc (by omega) hb hl hvl (fun e => by cases e) (fun a e j u h => by
          injection e with e
          subst e
          rw [Addr.add_lit]
          exact hcs j u h) hvs h1v).mono ?_
        rintro e w' ⟨rfl, rfl⟩
        have hge := grownCap_ge w (i + 1) cap 57
        have hg := grown_trans (grow_drew w) (grown_new (w := w.drew) (row := some g) (o := .cells ((C ++ vs).toArray ++ Builtin.zeroCells (Value.agg #[.int .i64 0, .int .i64 0, .slice none 0 0]).cells (grownCap w (i + 1) cap 57 - (i + 1))) 57))
        refine ⟨w.heap.size, _, _, _, rfl, rfl, rfl, rfl, hg.size, hblk hg, .inr ⟨Nat.le_refl _, by simp⟩, hge, grownCap_le_maxLen w _ _ _ (by unfold maxLen; omega), heap_alloc_new _ _, ?_, ?_⟩
        · rw [Array.size_append, zeroCells_length, show (Value.agg #[.int .i64 0, .int .i64 0, .slice none 0 0]).cells.size = 3 from rfl]
          simp only [List.size_toArray, List.length_append, hvl, hl]
          omega
        · rw [Array.toList_append, List.take_append_of_le_length (by simp only [List.length_append, hvl, hl]; omega)]
          simp only []
          rw [List.take_of_length_le (by simp only [List.length_append, hvl, hl]; omega), List.take_of_length_le (by omega), List.drop_eq_nil_of_le (by omega), List.append_nil]
    · have hin' : i < n := by omega
      by_cases hroom : n + 1 ≤ cap
      · have hkB : cur.size ≠ 0 := by omega
        refine (insS_shift g 0 n cap i vb 0 1 vc C vs w hin' (by omega) hroom hcap63 hne' hl hvl hcs (fun j hj => hsp j hj hroom) (fun j hj => hfz _) hvs h1c h1v Tv T cv.size cur.size (by simp [World.shape?, hvb]) (by simp [World.shape?, hh]) hkB (frozen_block hvb) (frozen_block hvb)).mono ?_
        rintro e w' ⟨rfl, rfl⟩
        obtain ⟨cur1, k1, k2⟩ := setCells_at (T := T) (C.drop (i * 3)) (0 + (i + 1) * 3) w.drew cur hh (by rw [List.length_drop]; omega)
        have hs1 : cur1.size = cap * 3 := by
          have := congrArg List.length k2
          simp only [Array.length_toList, List.length_append, List.length_take, List.length_drop] at this
          omega
        obtain ⟨cur2, j1, j2⟩ := setCells_at (T := T) vs (0 + i * 3) _ cur1 k1 (by rw [hvl]; omega)
        have hs2 : cur2.size = cap * 3 := by
          have := congrArg List.length j2
          simp only [Array.length_toList, List.length_append, List.length_take, List.length_drop] at this
          omega
        have hg : w.grownBy ((w.drew.setCells g (0 + (i + 1) * 3) (C.drop (i * 3))).setCells g (0 + i * 3) vs) (some g) := grown_trans (grow_drew w) (grown_trans (grown_setCells g _ _ w.drew) (grown_setCells g _ _ _))
        refine ⟨g, cap, cur2, T, rfl, hg.os, hg.tape, hg.output, hg.size, hblk hg, .inl ⟨_, rfl⟩, hroom, hm, j1, hs2, ?_⟩
        have := splice2 (L := cur.toList) (C := C) (vs := vs) (D := C.drop (i * 3)) (a := i * 3) (k := 3) (m := n * 3) (by simpa using ht) (by omega) (le_of_eq_len (Array.length_toList (xs := cur)) (by omega)) (hvl.trans rfl) rfl
        rw [j2, k2, Nat.zero_add, Nat.zero_add, show (i + 1) * 3 = i * 3 + 3 by omega, show (n + 1) * 3 = n * 3 + 3 by omega]
        exact this
      · refine (insS_grow g 0 n cap i vb 0 1 vc C vs w hin' (by omega) hc (by omega) hb hl hvl hcs hvs h1c h1v).mono ?_
        rintro e w' ⟨rfl, rfl⟩
        have hge := grownCap_ge w (n + 1) cap 57
        generalize hG : grownCap w (n + 1) cap 57 = G at hge ⊢
        have hGm : G ≤ maxLen := by rw [← hG]; exact grownCap_le_maxLen w _ _ _ (by unfold maxLen; omega)
        generalize hR : ((C.take (i * 3)).toArray ++ Builtin.zeroCells (Value.agg #[.int .i64 0, .int .i64 0, .slice none 0 0]).cells (n + 1 - i) ++ Builtin.zeroCells (Value.agg #[.int .i64 0, .int .i64 0, .slice none 0 0]).cells (G - (n + 1))) = R
        have hRs : R.size = G * 3 := by
          rw [← hR]
          simp only [Array.size_append, zeroCells_length, List.size_toArray, List.length_take, show (Value.agg #[.int .i64 0, .int .i64 0, .slice none 0 0]).cells.size = 3 from rfl]
          omega
        have hRt : R.toList.take (i * 3) = C.take (i * 3) := by
          rw [← hR, Array.toList_append, Array.toList_append, List.append_assoc]
          simp only []
          rw [List.take_append_of_le_length (by rw [List.length_take]; omega), List.take_take, Nat.min_self]
        obtain ⟨cur1, k1, k2⟩ := setCells_at (T := 57) vs (i * 3) (w.alloc (.cells R 57)).drew R (heap_alloc_new w _) (by rw [hvl]; omega)
        have hs1 : cur1.size = G * 3 := by
          have := congrArg List.length k2
          simp only [Array.length_toList, List.length_append, List.length_take, List.length_drop] at this
          omega
        obtain ⟨cur2, j1, j2⟩ := setCells_at (T := 57) (C.drop (i * 3)) ((i + 1) * 3) (((w.alloc (.cells R 57)).drew.setCells w.heap.size (i * 3) vs).drew) cur1 k1 (by rw [List.length_drop]; omega)
        have hs2 : cur2.size = G * 3 := by
          have := congrArg List.length j2
          simp only [Array.length_toList, List.length_append, List.length_take, List.length_drop] at this
          omega
        have hnew : ∀ k, k < w.heap.size → ((((w.alloc (.cells R 57)).drew.setCells w.heap.size (i * 3) vs).drew).setCells w.heap.size ((i + 1) * 3) (C.drop (i * 3))).heap[k]? = w.heap[k]? := fun k hk => by
          have g1 : w.grownBy (w.alloc (.cells R 57)) none := grown_new
          have g2 := grown_setCells w.heap.size vs (i * 3) (w.alloc (.cells R 57)).drew
          have g3 := grown_setCells w.heap.size (C.drop (i * 3)) ((i + 1) * 3) (((w.alloc (.cells R 57)).drew.setCells w.heap.size (i * 3) vs).drew)
          have s1 : k < (w.alloc (.cells R 57)).drew.heap.size := Nat.lt_of_lt_of_le hk g1.size
          have s2 : k < (((w.alloc (.cells R 57)).drew.setCells w.heap.size (i * 3) vs).drew).heap.size := Nat.lt_of_lt_of_le s1 g2.size
          exact (g3.block k s2 (fun e => by injection e; omega)).trans ((g2.block k s1 (fun e => by injection e; omega)).trans (g1.block k hk (by simp)))
        have hg0 : w.grownBy ((((w.alloc (.cells R 57)).drew.setCells w.heap.size (i * 3) vs).drew).setCells w.heap.size ((i + 1) * 3) (C.drop (i * 3))) (some w.heap.size) :=
          grown_trans grown_new (grown_trans (grow_drew _) (grown_trans (grown_setCells _ _ _ _) (grown_trans (grow_drew _) (grown_setCells _ _ _ _))))
        refine ⟨w.heap.size, G, cur2, _, rfl, hg0.os, hg0.tape, hg0.output, hg0.size, fun j hj _ => hnew j hj, .inr ⟨Nat.le_refl _, (Array.getElem?_eq_some_iff.1 j1).1⟩, hge, hGm, j1, hs2, ?_⟩
        have := splice3 (L := R.toList) (A := C.take (i * 3)) (vs := vs) (D := C.drop (i * 3)) (a := i * 3) (k := 3) (m := n * 3) hRt (by omega) (le_of_eq_len (Array.length_toList (xs := R)) (by omega)) (hvl.trans rfl) (by rw [List.length_drop]; omega)
        rw [j2, k2, show (i + 1) * 3 = i * 3 + 3 by omega, show (n + 1) * 3 = n * 3 + 3 by omega]
        exact this
  · obtain rfl : i = 0 := by omega
    refine (insS_end_grow none 0 0 vb 0 1 vc [] vs w (by omega) (by omega) (by omega) (by omega) (by simp) hvl (fun _ => rfl) (by simp) hvs h1v).mono ?_
    rintro e w' ⟨rfl, rfl⟩
    have hg := grown_trans (grow_drew w) (grown_new (w := w.drew) (row := none) (o := .cells (([] ++ vs).toArray ++ Builtin.zeroCells (Value.agg #[.int .i64 0, .int .i64 0, .slice none 0 0]).cells (grownCap w (0 + 1) 0 57 - (0 + 1))) 57))
    have hge := grownCap_ge w (0 + 1) 0 57
    refine ⟨w.heap.size, _, _, _, rfl, rfl, rfl, rfl, hg.size, fun j hj _ => hg.block j hj (by simp), .inr ⟨Nat.le_refl _, by simp⟩, hge, grownCap_le_maxLen w _ _ _ (by unfold maxLen; omega), heap_alloc_new _ _, ?_, ?_⟩
    · simp only [List.nil_append, Array.size_append, zeroCells_length, List.size_toArray]
      rw [hvl, show (Value.agg #[.int .i64 0, .int .i64 0, .slice none 0 0]).cells.size = 3 from rfl]
      omega
    · simp only [List.nil_append, Array.toList_append, Nat.zero_add, Nat.one_mul, List.take_nil, List.drop_nil, List.append_nil]
      rw [List.take_append_of_le_length (by omega), List.take_of_length_le (by omega)]
end Go.Proofs.Ythpnlnjdmlbnaaa
/- The rows of the program's types. No condition. -/
namespace Go.Proofs.Ythpnlnjdmlbnaaa
open Go.RowKit

/-- int64 -/
instance i2 : TyI Try.prog 2 ⟨.int .i64, 1, 8, [.lit (Value.int IntKind.i64 0)]⟩ := ⟨⟨Try.underlying2, by kernel_rfl, ⟨Value.int IntKind.i64 0, by kernel_rfl, by kernel_rfl, by kernel_rfl, rfl⟩⟩⟩
/-- int -/
instance i3 : TyI Try.prog 3 ⟨.int .i64, 1, 8, [.lit (Value.int IntKind.i64 0)]⟩ := ⟨⟨Try.underlying3, by kernel_rfl, ⟨Value.int IntKind.i64 0, by kernel_rfl, by kernel_rfl, by kernel_rfl, rfl⟩⟩⟩
/-- bool -/
instance i4 : TyI Try.prog 4 ⟨.bool, 1, 1, [.lit (Value.bool false)]⟩ := ⟨⟨Try.underlying4, by kernel_rfl, ⟨Value.bool false, by kernel_rfl, by kernel_rfl, by kernel_rfl, rfl⟩⟩⟩
/-- uint8 -/
instance i5 : TyI Try.prog 5 ⟨.int .u8, 1, 1, [.lit (Value.int IntKind.u8 0)]⟩ := ⟨⟨Try.underlying5, by kernel_rfl, ⟨Value.int IntKind.u8 0, by kernel_rfl, by kernel_rfl, by kernel_rfl, rfl⟩⟩⟩
/-- abi.BoundsErrorCode = internal/abi.BoundsErrorCode -/
instance i6 : TyI Try.prog 6 ⟨.int .u8, 1, 1, [.lit (Value.int IntKind.u8 0)]⟩ := ⟨⟨Try.underlying6, by kernel_rfl, ⟨Value.int IntKind.u8 0, by kernel_rfl, by kernel_rfl, by kernel_rfl, rfl⟩⟩⟩
/-- struct ( x int64; y int; signed bool; code abi.BoundsErrorCode ) -/
instance i7 : TyI Try.prog 7 ⟨.struct [(0, 1), (1, 1), (2, 1), (3, 1)], 4, 24, [.lit (Value.int IntKind.i64 0), .lit (Value.int IntKind.i64 0), .lit (Value.bool false), .lit (Value.int IntKind.u8 0)]⟩ := ⟨⟨⟨_, Try.underlying7, by kernel_rfl, by kernel_rfl⟩, by kernel_rfl, ⟨Value.agg #[Value.int IntKind.i64 0, Value.int IntKind.i64 0, Value.bool false, Value.int IntKind.u8 0], by kernel_rfl, by kernel_rfl, by kernel_rfl, ⟨_, rfl⟩⟩⟩⟩
/-- runtime.boundsError -/
instance i8 : TyI Try.prog 8 ⟨.struct [(0, 1), (1, 1), (2, 1), (3, 1)], 4, 24, [.lit (Value.int IntKind.i64 0), .lit (Value.int IntKind.i64 0), .lit (Value.bool false), .lit (Value.int IntKind.u8 0)]⟩ := ⟨⟨⟨_, Try.underlying8, by kernel_rfl, by kernel_rfl⟩, by kernel_rfl, ⟨Value.agg #[Value.int IntKind.i64 0, Value.int IntKind.i64 0, Value.bool false, Value.int IntKind.u8 0], by kernel_rfl, by kernel_rfl, by kernel_rfl, ⟨_, rfl⟩⟩⟩⟩
/-- string -/
instance i9 : TyI Try.prog 9 ⟨.str, 1, 16, [.lit (Value.string { data := #[] })]⟩ := ⟨⟨Try.underlying9, by kernel_rfl, ⟨Value.string { data := #[] }, by kernel_rfl, by kernel_rfl, by kernel_rfl, rfl⟩⟩⟩
/-- runtime.errorString -/
instance i10 : TyI Try.prog 10 ⟨.str, 1, 16, [.lit (Value.string { data := #[] })]⟩ := ⟨⟨Try.underlying10, by kernel_rfl, ⟨Value.string { data := #[] }, by kernel_rfl, by kernel_rfl, by kernel_rfl, rfl⟩⟩⟩
/-- runtime.plainError -/
instance i11 : TyI Try.prog 11 ⟨.str, 1, 16, [.lit (Value.string { data := #[] })]⟩ := ⟨⟨Try.underlying11, by kernel_rfl, ⟨Value.string { data := #[] }, by kernel_rfl, by kernel_rfl, by kernel_rfl, rfl⟩⟩⟩
/-- uintptr -/
instance i12 : TyI Try.prog 12 ⟨.int .u64, 1, 8, [.lit (Value.int IntKind.u64 0)]⟩ := ⟨⟨Try.underlying12, by kernel_rfl, ⟨Value.int IntKind.u64 0, by kernel_rfl, by kernel_rfl, by kernel_rfl, rfl⟩⟩⟩
/-- struct ( msg string; addr uintptr ) -/
instance i13 : TyI Try.prog 13 ⟨.struct [(0, 1), (1, 1)], 2, 24, [.lit (Value.string { data := #[] }), .lit (Value.int IntKind.u64 0)]⟩ := ⟨⟨⟨_, Try.underlying13, by kernel_rfl, by kernel_rfl⟩, by kernel_rfl, ⟨Value.agg #[Value.string { data := #[] }, Value.int IntKind.u64 0], by kernel_rfl, by kernel_rfl, by kernel_rfl, ⟨_, rfl⟩⟩⟩⟩
/-- runtime.errorAddressString -/
instance i14 : TyI Try.prog 14 ⟨.struct [(0, 1), (1, 1)], 2, 24, [.lit (Value.string { data := #[] }), .lit (Value.int IntKind.u64 0)]⟩ := ⟨⟨⟨_, Try.underlying14, by kernel_rfl, by kernel_rfl⟩, by kernel_rfl, ⟨Value.agg #[Value.string { data := #[] }, Value.int IntKind.u64 0], by kernel_rfl, by kernel_rfl, by kernel_rfl, ⟨_, rfl⟩⟩⟩⟩
/-- *runtime.TypeAssertionError -/
instance i15 : TyI Try.prog 15 ⟨.ptr 112, 1, 8, [.lit (Value.pointer none)]⟩ := ⟨⟨Try.underlying15, by kernel_rfl, ⟨Value.pointer none, by kernel_rfl, by kernel_rfl, by kernel_rfl, rfl⟩⟩⟩
/-- *runtime.PanicNilError -/
instance i16 : TyI Try.prog 16 ⟨.ptr 115, 1, 8, [.lit (Value.pointer none)]⟩ := ⟨⟨Try.underlying16, by kernel_rfl, ⟨Value.pointer none, by kernel_rfl, by kernel_rfl, by kernel_rfl, rfl⟩⟩⟩
/-- *abi.Type -/
instance i17 : TyI Try.prog 17 ⟨.ptr 125, 1, 8, [.lit (Value.pointer none)]⟩ := ⟨⟨Try.underlying17, by kernel_rfl, ⟨Value.pointer none, by kernel_rfl, by kernel_rfl, by kernel_rfl, rfl⟩⟩⟩
/-- struct ( typ *abi.Type ) -/
instance i18 : TyI Try.prog 18 ⟨.struct [(0, 1)], 1, 8, [.lit (Value.pointer none)]⟩ := ⟨⟨⟨_, Try.underlying18, by kernel_rfl, by kernel_rfl⟩, by kernel_rfl, ⟨Value.agg #[Value.pointer none], by kernel_rfl, by kernel_rfl, by kernel_rfl, ⟨_, rfl⟩⟩⟩⟩
/-- maps.unhashableTypeError = internal/runtime/maps.unhashableTypeError -/
instance i19 : TyI Try.prog 19 ⟨.struct [(0, 1)], 1, 8, [.lit (Value.pointer none)]⟩ := ⟨⟨⟨_, Try.underlying19, by kernel_rfl, by kernel_rfl⟩, by kernel_rfl, ⟨Value.agg #[Value.pointer none], by kernel_rfl, by kernel_rfl, by kernel_rfl, ⟨_, rfl⟩⟩⟩⟩
/-- int32 -/
instance i21 : TyI Try.prog 21 ⟨.int .i32, 1, 4, [.lit (Value.int IntKind.i32 0)]⟩ := ⟨⟨Try.underlying21, by kernel_rfl, ⟨Value.int IntKind.i32 0, by kernel_rfl, by kernel_rfl, by kernel_rfl, rfl⟩⟩⟩
/-- []uint64 -/
instance i22 : TyI Try.prog 22 ⟨.slice 28, 1, 24, [.lit (Value.slice none 0 0)]⟩ := ⟨⟨Try.underlying22, by kernel_rfl, ⟨Value.slice none 0 0, by kernel_rfl, by kernel_rfl, by kernel_rfl, rfl⟩⟩⟩
/-- []api.Frame -/
instance i23 : TyI Try.prog 23 ⟨.slice 61, 1, 24, [.lit (Value.slice none 0 0)]⟩ := ⟨⟨Try.underlying23, by kernel_rfl, ⟨Value.slice none 0 0, by kernel_rfl, by kernel_rfl, by kernel_rfl, rfl⟩⟩⟩
/-- struct ( Shift int; Words []uint64; Frames []api.Frame ) -/
instance i24 : TyI Try.prog 24 ⟨.struct [(0, 1), (1, 1), (2, 1)], 3, 56, [.lit (Value.int IntKind.i64 0), .lit (Value.slice none 0 0), .lit (Value.slice none 0 0)]⟩ := ⟨⟨⟨_, Try.underlying24, by kernel_rfl, by kernel_rfl⟩, by kernel_rfl, ⟨Value.agg #[Value.int IntKind.i64 0, Value.slice none 0 0, Value.slice none 0 0], by kernel_rfl, by kernel_rfl, by kernel_rfl, ⟨_, rfl⟩⟩⟩⟩
/-- api.Space = beltway/api.Space -/
instance i25 : TyI Try.prog 25 ⟨.struct [(0, 1), (1, 1), (2, 1)], 3, 56, [.lit (Value.int IntKind.i64 0), .lit (Value.slice none 0 0), .lit (Value.slice none 0 0)]⟩ := ⟨⟨⟨_, Try.underlying25, by kernel_rfl, by kernel_rfl⟩, by kernel_rfl, ⟨Value.agg #[Value.int IntKind.i64 0, Value.slice none 0 0, Value.slice none 0 0], by kernel_rfl, by kernel_rfl, by kernel_rfl, ⟨_, rfl⟩⟩⟩⟩
/-- []api.Set -/
instance i26 : TyI Try.prog 26 ⟨.slice 57, 1, 24, [.lit (Value.slice none 0 0)]⟩ := ⟨⟨Try.underlying26, by kernel_rfl, ⟨Value.slice none 0 0, by kernel_rfl, by kernel_rfl, by kernel_rfl, rfl⟩⟩⟩
/-- []int -/
instance i27 : TyI Try.prog 27 ⟨.slice 3, 1, 24, [.lit (Value.slice none 0 0)]⟩ := ⟨⟨Try.underlying27, by kernel_rfl, ⟨Value.slice none 0 0, by kernel_rfl, by kernel_rfl, by kernel_rfl, rfl⟩⟩⟩
/-- uint64 -/
instance i28 : TyI Try.prog 28 ⟨.int .u64, 1, 8, [.lit (Value.int IntKind.u64 0)]⟩ := ⟨⟨Try.underlying28, by kernel_rfl, ⟨Value.int IntKind.u64 0, by kernel_rfl, by kernel_rfl, by kernel_rfl, rfl⟩⟩⟩
/-- *beltwaymake.Deck -/
instance i32 : TyI Try.prog 32 ⟨.ptr 63, 1, 8, [.lit (Value.pointer none)]⟩ := ⟨⟨Try.underlying32, by kernel_rfl, ⟨Value.pointer none, by kernel_rfl, by kernel_rfl, by kernel_rfl, rfl⟩⟩⟩
/-- []api.Increment -/
instance i34 : TyI Try.prog 34 ⟨.slice 51, 1, 24, [.lit (Value.slice none 0 0)]⟩ := ⟨⟨Try.underlying34, by kernel_rfl, ⟨Value.slice none 0 0, by kernel_rfl, by kernel_rfl, by kernel_rfl, rfl⟩⟩⟩
/-- uint -/
instance i38 : TyI Try.prog 38 ⟨.int .u64, 1, 8, [.lit (Value.int IntKind.u64 0)]⟩ := ⟨⟨Try.underlying38, by kernel_rfl, ⟨Value.int IntKind.u64 0, by kernel_rfl, by kernel_rfl, by kernel_rfl, rfl⟩⟩⟩
/-- [][]int -/
instance i40 : TyI Try.prog 40 ⟨.slice 27, 1, 24, [.lit (Value.slice none 0 0)]⟩ := ⟨⟨Try.underlying40, by kernel_rfl, ⟨Value.slice none 0 0, by kernel_rfl, by kernel_rfl, by kernel_rfl, rfl⟩⟩⟩
/-- []api.Space -/
instance i43 : TyI Try.prog 43 ⟨.slice 25, 1, 24, [.lit (Value.slice none 0 0)]⟩ := ⟨⟨Try.underlying43, by kernel_rfl, ⟨Value.slice none 0 0, by kernel_rfl, by kernel_rfl, by kernel_rfl, rfl⟩⟩⟩
/-- [][]api.Set -/
instance i44 : TyI Try.prog 44 ⟨.slice 26, 1, 24, [.lit (Value.slice none 0 0)]⟩ := ⟨⟨Try.underlying44, by kernel_rfl, ⟨Value.slice none 0 0, by kernel_rfl, by kernel_rfl, by kernel_rfl, rfl⟩⟩⟩
/-- api.Errno = beltway/api.Errno -/
instance i45 : TyI Try.prog 45 ⟨.int .i64, 1, 8, [.lit (Value.int IntKind.i64 0)]⟩ := ⟨⟨Try.underlying45, by kernel_rfl, ⟨Value.int IntKind.i64 0, by kernel_rfl, by kernel_rfl, by kernel_rfl, rfl⟩⟩⟩
/-- struct ( Seq int; Belt int; First int; Last int; Words int ) -/
instance i50 : TyI Try.prog 50 ⟨.struct [(0, 1), (1, 1), (2, 1), (3, 1), (4, 1)], 5, 40, [.lit (Value.int IntKind.i64 0), .lit (Value.int IntKind.i64 0), .lit (Value.int IntKind.i64 0), .lit (Value.int IntKind.i64 0), .lit (Value.int IntKind.i64 0)]⟩ := ⟨⟨⟨_, Try.underlying50, by kernel_rfl, by kernel_rfl⟩, by kernel_rfl, ⟨Value.agg #[Value.int IntKind.i64 0, Value.int IntKind.i64 0, Value.int IntKind.i64 0, Value.int IntKind.i64 0, Value.int IntKind.i64 0], by kernel_rfl, by kernel_rfl, by kernel_rfl, ⟨_, rfl⟩⟩⟩⟩
/-- api.Increment = beltway/api.Increment -/
instance i51 : TyI Try.prog 51 ⟨.struct [(0, 1), (1, 1), (2, 1), (3, 1), (4, 1)], 5, 40, [.lit (Value.int IntKind.i64 0), .lit (Value.int IntKind.i64 0), .lit (Value.int IntKind.i64 0), .lit (Value.int IntKind.i64 0), .lit (Value.int IntKind.i64 0)]⟩ := ⟨⟨⟨_, Try.underlying51, by kernel_rfl, by kernel_rfl⟩, by kernel_rfl, ⟨Value.agg #[Value.int IntKind.i64 0, Value.int IntKind.i64 0, Value.int IntKind.i64 0, Value.int IntKind.i64 0, Value.int IntKind.i64 0], by kernel_rfl, by kernel_rfl, by kernel_rfl, ⟨_, rfl⟩⟩⟩⟩
/-- struct ( From int; To int; Slots []int ) -/
instance i56 : TyI Try.prog 56 ⟨.struct [(0, 1), (1, 1), (2, 1)], 3, 40, [.lit (Value.int IntKind.i64 0), .lit (Value.int IntKind.i64 0), .lit (Value.slice none 0 0)]⟩ := ⟨⟨⟨_, Try.underlying56, by kernel_rfl, by kernel_rfl⟩, by kernel_rfl, ⟨Value.agg #[Value.int IntKind.i64 0, Value.int IntKind.i64 0, Value.slice none 0 0], by kernel_rfl, by kernel_rfl, by kernel_rfl, ⟨_, rfl⟩⟩⟩⟩
/-- api.Set = beltway/api.Set -/
instance i57 : TyI Try.prog 57 ⟨.struct [(0, 1), (1, 1), (2, 1)], 3, 40, [.lit (Value.int IntKind.i64 0), .lit (Value.int IntKind.i64 0), .lit (Value.slice none 0 0)]⟩ := ⟨⟨⟨_, Try.underlying57, by kernel_rfl, by kernel_rfl⟩, by kernel_rfl, ⟨Value.agg #[Value.int IntKind.i64 0, Value.int IntKind.i64 0, Value.slice none 0 0], by kernel_rfl, by kernel_rfl, by kernel_rfl, ⟨_, rfl⟩⟩⟩⟩
/-- struct ( Owner int; Stamp int; Next int ) -/
instance i60 : TyI Try.prog 60 ⟨.struct [(0, 1), (1, 1), (2, 1)], 3, 24, [.lit (Value.int IntKind.i64 0), .lit (Value.int IntKind.i64 0), .lit (Value.int IntKind.i64 0)]⟩ := ⟨⟨⟨_, Try.underlying60, by kernel_rfl, by kernel_rfl⟩, by kernel_rfl, ⟨Value.agg #[Value.int IntKind.i64 0, Value.int IntKind.i64 0, Value.int IntKind.i64 0], by kernel_rfl, by kernel_rfl, by kernel_rfl, ⟨_, rfl⟩⟩⟩⟩
/-- api.Frame = beltway/api.Frame -/
instance i61 : TyI Try.prog 61 ⟨.struct [(0, 1), (1, 1), (2, 1)], 3, 24, [.lit (Value.int IntKind.i64 0), .lit (Value.int IntKind.i64 0), .lit (Value.int IntKind.i64 0)]⟩ := ⟨⟨⟨_, Try.underlying61, by kernel_rfl, by kernel_rfl⟩, by kernel_rfl, ⟨Value.agg #[Value.int IntKind.i64 0, Value.int IntKind.i64 0, Value.int IntKind.i64 0], by kernel_rfl, by kernel_rfl, by kernel_rfl, ⟨_, rfl⟩⟩⟩⟩
/-- struct ( L []int; At int ) -/
instance i62 : TyI Try.prog 62 ⟨.struct [(0, 1), (1, 1)], 2, 32, [.lit (Value.slice none 0 0), .lit (Value.int IntKind.i64 0)]⟩ := ⟨⟨⟨_, Try.underlying62, by kernel_rfl, by kernel_rfl⟩, by kernel_rfl, ⟨Value.agg #[Value.slice none 0 0, Value.int IntKind.i64 0], by kernel_rfl, by kernel_rfl, by kernel_rfl, ⟨_, rfl⟩⟩⟩⟩
/-- beltwaymake.Deck = beltway/beltwaymake.Deck -/
instance i63 : TyI Try.prog 63 ⟨.struct [(0, 1), (1, 1)], 2, 32, [.lit (Value.slice none 0 0), .lit (Value.int IntKind.i64 0)]⟩ := ⟨⟨⟨_, Try.underlying63, by kernel_rfl, by kernel_rfl⟩, by kernel_rfl, ⟨Value.agg #[Value.slice none 0 0, Value.int IntKind.i64 0], by kernel_rfl, by kernel_rfl, by kernel_rfl, ⟨_, rfl⟩⟩⟩⟩
/-- [64]int -/
instance i90 : TyI Try.prog 90 ⟨.array 64 3, 64, 512, List.replicate 64 (.lit (Value.int IntKind.i64 0))⟩ := ⟨⟨Try.underlying90, by kernel_rfl, ⟨Value.agg #[Value.int IntKind.i64 0, Value.int IntKind.i64 0, Value.int IntKind.i64 0, Value.int IntKind.i64 0, Value.int IntKind.i64 0, Value.int IntKind.i64 0, Value.int IntKind.i64 0, Value.int IntKind.i64 0, Value.int IntKind.i64 0, Value.int IntKind.i64 0, Value.int IntKind.i64 0, Value.int IntKind.i64 0, Value.int IntKind.i64 0, Value.int IntKind.i64 0, Value.int IntKind.i64 0, Value.int IntKind.i64 0, Value.int IntKind.i64 0, Value.int IntKind.i64 0, Value.int IntKind.i64 0, Value.int IntKind.i64 0, Value.int IntKind.i64 0, Value.int IntKind.i64 0, Value.int IntKind.i64 0, Value.int IntKind.i64 0, Value.int IntKind.i64 0, Value.int IntKind.i64 0, Value.int IntKind.i64 0, Value.int IntKind.i64 0, Value.int IntKind.i64 0, Value.int IntKind.i64 0, Value.int IntKind.i64 0, Value.int IntKind.i64 0, Value.int IntKind.i64 0, Value.int IntKind.i64 0, Value.int IntKind.i64 0, Value.int IntKind.i64 0, Value.int IntKind.i64 0, Value.int IntKind.i64 0, Value.int IntKind.i64 0, Value.int IntKind.i64 0, Value.int IntKind.i64 0, Value.int IntKind.i64 0, Value.int IntKind.i64 0, Value.int IntKind.i64 0, Value.int IntKind.i64 0, Value.int IntKind.i64 0, Value.int IntKind.i64 0, Value.int IntKind.i64 0, Value.int IntKind.i64 0, Value.int IntKind.i64 0, Value.int IntKind.i64 0, Value.int IntKind.i64 0, Value.int IntKind.i64 0, Value.int IntKind.i64 0, Value.int IntKind.i64 0, Value.int IntKind.i64 0, Value.int IntKind.i64 0, Value.int IntKind.i64 0, Value.int IntKind.i64 0, Value.int IntKind.i64 0, Value.int IntKind.i64 0, Value.int IntKind.i64 0, Value.int IntKind.i64 0, Value.int IntKind.i64 0], by kernel_rfl, by kernel_rfl, by kernel_rfl, ⟨_, rfl⟩⟩⟩⟩
/-- struct ( _interface *abi.Type; concrete *abi.Type; asserted *abi.Type; missingMethod string ) -/
instance i111 : TyI Try.prog 111 ⟨.struct [(0, 1), (1, 1), (2, 1), (3, 1)], 4, 40, [.lit (Value.pointer none), .lit (Value.pointer none), .lit (Value.pointer none), .lit (Value.string { data := #[] })]⟩ := ⟨⟨⟨_, Try.underlying111, by kernel_rfl, by kernel_rfl⟩, by kernel_rfl, ⟨Value.agg #[Value.pointer none, Value.pointer none, Value.pointer none, Value.string { data := #[] }], by kernel_rfl, by kernel_rfl, by kernel_rfl, ⟨_, rfl⟩⟩⟩⟩
/-- runtime.TypeAssertionError -/
instance i112 : TyI Try.prog 112 ⟨.struct [(0, 1), (1, 1), (2, 1), (3, 1)], 4, 40, [.lit (Value.pointer none), .lit (Value.pointer none), .lit (Value.pointer none), .lit (Value.string { data := #[] })]⟩ := ⟨⟨⟨_, Try.underlying112, by kernel_rfl, by kernel_rfl⟩, by kernel_rfl, ⟨Value.agg #[Value.pointer none, Value.pointer none, Value.pointer none, Value.string { data := #[] }], by kernel_rfl, by kernel_rfl, by kernel_rfl, ⟨_, rfl⟩⟩⟩⟩
/-- [0]*runtime.PanicNilError -/
instance i113 : TyI Try.prog 113 ⟨.array 0 16, 0, 0, []⟩ := ⟨⟨Try.underlying113, by kernel_rfl, ⟨Value.agg #[], by kernel_rfl, by kernel_rfl, by kernel_rfl, ⟨_, rfl⟩⟩⟩⟩
/-- struct ( _ [0]*runtime.PanicNilError ) -/
instance i114 : TyI Try.prog 114 ⟨.struct [(0, 0)], 0, 0, []⟩ := ⟨⟨⟨_, Try.underlying114, by kernel_rfl, by kernel_rfl⟩, by kernel_rfl, ⟨Value.agg #[], by kernel_rfl, by kernel_rfl, by kernel_rfl, ⟨_, rfl⟩⟩⟩⟩
/-- runtime.PanicNilError -/
instance i115 : TyI Try.prog 115 ⟨.struct [(0, 0)], 0, 0, []⟩ := ⟨⟨⟨_, Try.underlying115, by kernel_rfl, by kernel_rfl⟩, by kernel_rfl, ⟨Value.agg #[], by kernel_rfl, by kernel_rfl, by kernel_rfl, ⟨_, rfl⟩⟩⟩⟩
/-- uint32 -/
instance i117 : TyI Try.prog 117 ⟨.int .u32, 1, 4, [.lit (Value.int IntKind.u32 0)]⟩ := ⟨⟨Try.underlying117, by kernel_rfl, ⟨Value.int IntKind.u32 0, by kernel_rfl, by kernel_rfl, by kernel_rfl, rfl⟩⟩⟩
/-- abi.TFlag = internal/abi.TFlag -/
instance i118 : TyI Try.prog 118 ⟨.int .u8, 1, 1, [.lit (Value.int IntKind.u8 0)]⟩ := ⟨⟨Try.underlying118, by kernel_rfl, ⟨Value.int IntKind.u8 0, by kernel_rfl, by kernel_rfl, by kernel_rfl, rfl⟩⟩⟩
/-- abi.Kind = internal/abi.Kind -/
instance i119 : TyI Try.prog 119 ⟨.int .u8, 1, 1, [.lit (Value.int IntKind.u8 0)]⟩ := ⟨⟨Try.underlying119, by kernel_rfl, ⟨Value.int IntKind.u8 0, by kernel_rfl, by kernel_rfl, by kernel_rfl, rfl⟩⟩⟩
/-- *uint8 -/
instance i121 : TyI Try.prog 121 ⟨.ptr 5, 1, 8, [.lit (Value.pointer none)]⟩ := ⟨⟨Try.underlying121, by kernel_rfl, ⟨Value.pointer none, by kernel_rfl, by kernel_rfl, by kernel_rfl, rfl⟩⟩⟩
/-- abi.NameOff = internal/abi.NameOff -/
instance i122 : TyI Try.prog 122 ⟨.int .i32, 1, 4, [.lit (Value.int IntKind.i32 0)]⟩ := ⟨⟨Try.underlying122, by kernel_rfl, ⟨Value.int IntKind.i32 0, by kernel_rfl, by kernel_rfl, by kernel_rfl, rfl⟩⟩⟩
/-- abi.TypeOff = internal/abi.TypeOff -/
instance i123 : TyI Try.prog 123 ⟨.int .i32, 1, 4, [.lit (Value.int IntKind.i32 0)]⟩ := ⟨⟨Try.underlying123, by kernel_rfl, ⟨Value.int IntKind.i32 0, by kernel_rfl, by kernel_rfl, by kernel_rfl, rfl⟩⟩⟩
/-- struct ( Size_ uintptr; PtrBytes uintptr; Hash uint32; TFlag abi.TFlag; Align_ uint8; FieldAlign_ uint8; Kind_ abi.Kind; Equal func(unsafe.Pointer, unsafe.Pointer) bool; GCData *uint8; Str abi.NameOff; PtrToThis abi.TypeOff ) -/
instance i124 : TyI Try.prog 124 ⟨.struct [(0, 1), (1, 1), (2, 1), (3, 1), (4, 1), (5, 1), (6, 1), (7, 1), (8, 1), (9, 1), (10, 1)], 11, 48, [.lit (Value.int IntKind.u64 0), .lit (Value.int IntKind.u64 0), .lit (Value.int IntKind.u32 0), .lit (Value.int IntKind.u8 0), .lit (Value.int IntKind.u8 0), .lit (Value.int IntKind.u8 0), .lit (Value.int IntKind.u8 0), .lit (Value.nilFunc), .lit (Value.pointer none), .lit (Value.int IntKind.i32 0), .lit (Value.int IntKind.i32 0)]⟩ := ⟨⟨⟨_, Try.underlying124, by kernel_rfl, by kernel_rfl⟩, by kernel_rfl, ⟨Value.agg #[Value.int IntKind.u64 0, Value.int IntKind.u64 0, Value.int IntKind.u32 0, Value.int IntKind.u8 0, Value.int IntKind.u8 0, Value.int IntKind.u8 0, Value.int IntKind.u8 0, Value.nilFunc, Value.pointer none, Value.int IntKind.i32 0, Value.int IntKind.i32 0], by kernel_rfl, by kernel_rfl, by kernel_rfl, ⟨_, rfl⟩⟩⟩⟩
/-- abi.Type = internal/abi.Type -/
instance i125 : TyI Try.prog 125 ⟨.struct [(0, 1), (1, 1), (2, 1), (3, 1), (4, 1), (5, 1), (6, 1), (7, 1), (8, 1), (9, 1), (10, 1)], 11, 48, [.lit (Value.int IntKind.u64 0), .lit (Value.int IntKind.u64 0), .lit (Value.int IntKind.u32 0), .lit (Value.int IntKind.u8 0), .lit (Value.int IntKind.u8 0), .lit (Value.int IntKind.u8 0), .lit (Value.int IntKind.u8 0), .lit (Value.nilFunc), .lit (Value.pointer none), .lit (Value.int IntKind.i32 0), .lit (Value.int IntKind.i32 0)]⟩ := ⟨⟨⟨_, Try.underlying125, by kernel_rfl, by kernel_rfl⟩, by kernel_rfl, ⟨Value.agg #[Value.int IntKind.u64 0, Value.int IntKind.u64 0, Value.int IntKind.u32 0, Value.int IntKind.u8 0, Value.int IntKind.u8 0, Value.int IntKind.u8 0, Value.int IntKind.u8 0, Value.nilFunc, Value.pointer none, Value.int IntKind.i32 0, Value.int IntKind.i32 0], by kernel_rfl, by kernel_rfl, by kernel_rfl, ⟨_, rfl⟩⟩⟩⟩
theorem mixedP : Try.prog.follows .mixedOrders = true := by kernel_rfl
instance : MixP Try.prog := ⟨mixedP⟩
end Go.Proofs.Ythpnlnjdmlbnaaa
/- slices.Insert of one element: its contract on data. No condition. -/
namespace Go.Proofs.Ythpnlnjdmlbnaaa
open Go.RowKit
set_option linter.unusedVariables false

theorem ins_get {C vs : List Value} {z i j q : Nat} (hi : i * z ≤ C.length) (hv : vs.length = z) (hq : q < z) :
    (C.take (i * z) ++ vs ++ C.drop (i * z))[j * z + q]? = if j < i then C[j * z + q]? else if j = i then vs[q]? else C[(j - 1) * z + q]? := by
  have ht : (C.take (i * z)).length = i * z := by rw [List.length_take]; omega
  by_cases h1 : j < i
  · have hle : j * z + z ≤ i * z := by
      have := Nat.mul_le_mul_right z (show j + 1 ≤ i by omega)
      rwa [Nat.succ_mul] at this
    rw [if_pos h1, List.append_assoc, List.getElem?_append_left (by omega), List.getElem?_take, if_pos (by omega)]
  · rw [if_neg h1]
    by_cases h2 : j = i
    · subst h2
      rw [if_pos rfl, List.getElem?_append_left (by rw [List.length_append]; omega), List.getElem?_append_right (by omega), ht, Nat.add_sub_cancel_left]
    · rw [if_neg h2]
      obtain ⟨d, rfl⟩ : ∃ d, j = i + 1 + d := ⟨j - i - 1, by omega⟩
      have e1 : (i + 1 + d) * z = i * z + z + d * z := by rw [Nat.add_mul, Nat.add_mul, Nat.one_mul]
      have e2 : (i + 1 + d - 1) * z = i * z + d * z := by rw [show i + 1 + d - 1 = i + d by omega, Nat.add_mul]
      rw [List.getElem?_append_right (by rw [List.length_append]; omega), List.getElem?_drop, List.length_append, ht, hv, e1, e2]
      congr 1
      omega

/-- what is known of Insert in memory -/
def InsRaw (P : Program) (f z B : Nat) : Prop := ∀ {w : World} {n i : Nat} {v vv : Value} {g0 : Option (Nat × Nat)} {C vs : List Value}
    (hs : (∃ g cap cur T, g0 = some (g, cap) ∧ v = .slice (some ⟨g, 0, none⟩) n cap ∧ n ≤ cap ∧ cap ≤ maxLen ∧ w.heap[g]? = some (.cells cur T (0, 0)) ∧ cur.size = cap * z ∧ C = cur.toList.take (n * z)) ∨ (g0 = none ∧ v = .slice none 0 0 ∧ n = 0 ∧ C = []))
    (hv : ∃ vb vc cv Tv, vv = .slice (some ⟨vb, 0, none⟩) 1 vc ∧ w.heap[vb]? = some (.cells cv Tv (0, 0)) ∧ cv.size = vc * z ∧ 1 ≤ vc ∧ vs = cv.toList.take z ∧ ∀ c, g0 ≠ some (vb, c))
    (h1c : ∀ u ∈ C, u.oneCell' = true) (h1v : ∀ u ∈ vs, u.oneCell' = true) (hi : i ≤ n) (hb : (n + 1) * B ≤ 140737488355328),
    Calls P f #[v, .int .i64 i, vv] w fun e w' => ∃ g' cap' cur' T', e = .returned (.slice (some ⟨g', 0, none⟩) (n + 1) cap') ∧ w'.os = w.os ∧ w'.tape = w.tape ∧ w'.output = w.output ∧ w.heap.size ≤ w'.heap.size ∧
      (∀ j, j < w.heap.size → (∀ c, g0 ≠ some (j, c)) → w'.heap[j]? = w.heap[j]?) ∧ ((∃ c', g0 = some (g', c')) ∨ (w.heap.size ≤ g' ∧ g' < w'.heap.size)) ∧ n + 1 ≤ cap' ∧ cap' ≤ maxLen ∧ w'.heap[g']? = some (.cells cur' T' (0, 0)) ∧ cur'.size = cap' * z ∧ cur'.toList.take ((n + 1) * z) = C.take (i * z) ++ vs ++ C.drop (i * z)

/-- a row's cells, as a list -/
theorem row_cells {m : Mem} {z g cap : Nat} {f : Bool} {xs : List (List DV)} (r : Row m ⟨z, true, f, xs⟩ g cap) : ∃ cur T C, m.w.heap[g]? = some (.cells cur T (0, 0)) ∧ cur.size = cap * z ∧ C = cur.toList.take (xs.length * z) ∧ C.length = xs.length * z ∧
    (∀ (i : Nat) x (j : Nat) d, xs[i]? = some x → x[j]? = some d → ∃ u, C[i * z + j]? = some u ∧ CRep m true u d) ∧ ∀ u ∈ C, u.oneCell' = true := by
  obtain ⟨cur, T, c1, c2, c3⟩ := r.cells
  have h0 : 0 < z := r.pos
  have hle : xs.length * z ≤ cap * z := Nat.mul_le_mul_right z (show xs.length ≤ cap from r.len)
  have c2 : cur.size = cap * z := c2
  have hsz : ∀ (i : Nat) x, xs[i]? = some x → x.length = z := r.sz
  have key : ∀ (i : Nat) x (j : Nat) d, xs[i]? = some x → x[j]? = some d → ∃ u, (cur.toList.take (xs.length * z))[i * z + j]? = some u ∧ CRep m true u d := fun i x j d hx hd => by
    obtain ⟨u, hu, hr⟩ := c3 i x j d hx hd
    have hj : j < z := by
      have := hsz i x hx
      rcases Nat.lt_or_ge j x.length with h' | h'
      · omega
      · rw [List.getElem?_eq_none h'] at hd; cases hd
    have hi : i < xs.length := by
      rcases Nat.lt_or_ge i xs.length with h' | h'
      · exact h'
      · rw [List.getElem?_eq_none h'] at hx; cases hx
    have := Nat.mul_le_mul_right z (show i + 1 ≤ xs.length by omega)
    rw [Nat.succ_mul] at this
    exact ⟨u, by rw [List.getElem?_take, if_pos (by omega)]; simpa using hu, hr⟩
  refine ⟨cur, T, _, c1, c2, rfl, by rw [List.length_take, show cur.toList.length = cap * z by simpa using c2]; omega, key, fun u hu => ?_⟩
  obtain ⟨p, hp⟩ := List.mem_iff_getElem?.1 hu
  have hpl : p < xs.length * z := by
    rcases Nat.lt_or_ge p (xs.length * z) with h' | h'
    · exact h'
    · rw [List.getElem?_take, if_neg (by omega)] at hp; cases hp
  have hq : p / z < xs.length := by
    refine (Nat.div_lt_iff_lt_mul h0).2 hpl
  have hr : p % z < z := Nat.mod_lt _ h0
  obtain ⟨x, hx⟩ : ∃ x, xs[p / z]? = some x := ⟨_, List.getElem?_eq_getElem hq⟩
  obtain ⟨d, hd⟩ : ∃ d, x[p % z]? = some d := ⟨_, List.getElem?_eq_getElem (by rw [hsz _ _ hx]; exact hr)⟩
  obtain ⟨u', hu', h1, _⟩ := key _ x _ d hx hd
  rw [show p / z * z + p % z = p by rw [Nat.mul_comm]; exact Nat.div_add_mod p z, hp] at hu'
  injection hu' with hu'
  rw [hu']
  exact h1

theorem ins_dcall {α : Type} {c : α → List DV} {P : Program} {f z B : Nat} (hraw : InsRaw P f z B) {fn : Func} {cd : Code} (hf : P.funcs[f]? = some fn) (hname : (fn.name == "runtime.NumGoroutine") = false) (hb : fn.body = some cd) (hc : ∀ a, (c a).length = z)
    (xs : List α) (x : α) (i : Int) (h : 0 ≤ i ∧ i ≤ xs.length ∧ ((xs.length : Int) + 1) * B ≤ 140737488355328) :
    DCall P f [.own 0 0 xs.length, DI i, .own 1 0 1] [(0, ⟨z, true, false, xs.map c⟩), (1, ⟨z, true, false, [x].map c⟩)] (.own 2 0 (xs.insertIdx i.toNat x).length) [(2, ⟨z, true, false, (xs.insertIdx i.toNat x).map c⟩)] := by
  obtain ⟨h1, h2, h3⟩ := h
  refine ⟨fun args w => by
    have hn : ¬ fn.name = "runtime.NumGoroutine" := by simpa using hname
    simp [callFunc, hf, hn, hb], fun w M σ vs hI hS hσ hR => ?_⟩
  have H0 := hS 0 ⟨z, true, false, xs.map c⟩ rfl
  have H1 := hS 1 ⟨z, true, false, [x].map c⟩ rfl
  match vs, hR with
  | [a0, a1, a2], hR =>
  have r0 : Rep ⟨w, M, σ⟩ a0 (.own 0 0 xs.length) := hR.2 0 a0 _ rfl rfl
  have r1 : Rep ⟨w, M, σ⟩ a1 (DI i) := hR.2 1 a1 _ rfl rfl
  have r2 : Rep ⟨w, M, σ⟩ a2 (.own 1 0 1) := hR.2 2 a2 _ rfl rfl
  obtain ⟨en, k1, k2, k3, k4⟩ := own_get r0 H0
  obtain ⟨e1, q1, q2, q3, q4⟩ := own_get r2 H1
  have hi := r1.lit_inv
  subst hi
  obtain ⟨vb, vc, p1, p2, p3, p4⟩ : ∃ g cap, e1.blk = some (g, cap) ∧ a2 = .slice (some ⟨g, 0, none⟩) 1 cap ∧ 1 ≤ cap ∧ Row ⟨w, M, σ⟩ ⟨z, true, false, [x].map c⟩ g cap := by
    rcases q4 with ⟨g, cap, q4, hsv, q5, q6⟩ | ⟨_, _, _, h, _⟩
    · rw [Nat.zero_mul, Nat.sub_zero] at hsv
      exact ⟨g, cap, q4, hsv, by omega, q6⟩
    · cases h
  obtain ⟨cv, Tv, V, v1, v2, v3, v4, v5, v6⟩ := row_cells p4
  have hz0 : 0 < z := p4.pos
  have v3' : V = cv.toList.take z := by rw [v3]; simp
  have v4' : V.length = z := by rw [v4]; simp
  obtain ⟨C, hC, hCl, hCr, hC1⟩ : ∃ C, ((∃ g cap cur T, en.blk = some (g, cap) ∧ a0 = .slice (some ⟨g, 0, none⟩) xs.length cap ∧ xs.length ≤ cap ∧ cap ≤ maxLen ∧ w.heap[g]? = some (.cells cur T (0, 0)) ∧ cur.size = cap * z ∧ C = cur.toList.take (xs.length * z)) ∨ (en.blk = none ∧ a0 = .slice none 0 0 ∧ xs.length = 0 ∧ C = [])) ∧ C.length = xs.length * z ∧
      (∀ (i : Nat) y (j : Nat) d, (xs.map c)[i]? = some y → y[j]? = some d → ∃ u, C[i * z + j]? = some u ∧ CRep ⟨w, M, σ⟩ true u d) ∧ ∀ u ∈ C, u.oneCell' = true := by
    rcases k4 with ⟨g, cap, k4, hsv, k5, k6⟩ | ⟨k4, hsv, _, h, he, _⟩
    · rw [Nat.zero_mul, Nat.sub_zero] at hsv
      obtain ⟨cur, T, C, c1, c2, c3, c4, c5, c6⟩ := row_cells k6
      rw [List.length_map] at c3 c4
      exact ⟨C, .inl ⟨g, cap, cur, T, k4, hsv, by omega, k6.max, c1, c2, c3⟩, c4, c5, c6⟩
    · refine ⟨[], .inr ⟨k4, hsv, h, rfl⟩, by simp [h], fun i y j d hy => ?_, fun u hu => by cases hu⟩
      rw [show xs.map c = [] from he] at hy
      simp at hy
  have hne : ∀ c', en.blk ≠ some (vb, c') := fun c' hc' => by
    have := hI.inj 0 1 en e1 vb k1 q1 (Ent.has_blk hc') (Ent.has_blk p1)
    cases this
  have hin : i.toNat ≤ xs.length := by omega
  have hiz : i.toNat * z ≤ C.length := by rw [hCl]; exact Nat.mul_le_mul_right z hin
  have hcall := hraw (w := w) (n := xs.length) (i := i.toNat) (v := a0) (vv := a2) (g0 := en.blk) (C := C) (vs := V) hC ⟨vb, vc, cv, Tv, p2, v1, v2, p3, v3', hne⟩ hC1 v6 hin (by
    have : (((xs.length + 1) * B : Nat) : Int) ≤ 140737488355328 := by push_cast; exact h3
    omega)
  rw [Int.toNat_of_nonneg h1] at hcall
  refine Calls.mono hcall fun e w' ⟨g', cap', cur', T', he, w1, w2, w3, w4, w5, w6, w7, w8, w9, wa, wb⟩ => ?_
  have hlen : (xs.insertIdx i.toNat x).length = xs.length + 1 := by rw [List.length_insertIdx, if_pos hin]
  have hT := turn_move hI k1 (by rw [k3]; rfl) (hσ 2 (Nat.le_refl _)) w' ⟨z, some (g', cap'), true, noI⟩ w1 w2 w3 w4 w5 (fun g1 c' h => by
    injection h with h
    injection h with h1 h2
    subst h1
    exact w6)
  refine ⟨_, setE (setE σ 0 none) 2 (some ⟨z, some (g', cap'), true, noI⟩), he, hT.1, hT.2.ent, ?_, fun s ob hob => ?_, fun s hs => ?_⟩
  · rw [hlen]
    exact own_mem (setE_same _ _ _) rfl w7 w8
  · obtain ⟨rfl, rfl⟩ : s = 2 ∧ ob = ⟨z, true, false, (xs.insertIdx i.toNat x).map c⟩ := by
      rw [Sto.get_cons] at hob
      split at hob
      · rename_i h; injection hob with hob; exact ⟨h, hob.symm⟩
      · cases hob
    have row : Row ⟨w', M, setE (setE σ 0 none) 2 (some ⟨z, some (g', cap'), true, noI⟩)⟩ ⟨z, true, false, (xs.insertIdx i.toNat x).map c⟩ g' cap' := by
      refine ⟨⟨cur', T', w9, wa, fun j y q d hy hd => ?_⟩, by rw [List.length_map, hlen]; exact w7, w8, hz0, fun j y hy => by
        obtain ⟨a, _, rfl⟩ := List.mem_map.1 (List.mem_of_getElem? hy)
        exact hc a⟩
      have hyl : y.length = z := by
        obtain ⟨a, _, rfl⟩ := List.mem_map.1 (List.mem_of_getElem? hy)
        exact hc a
      have hq : q < z := by
        rcases Nat.lt_or_ge q y.length with h' | h'
        · omega
        · rw [List.getElem?_eq_none h'] at hd; cases hd
      have hj : j < xs.length + 1 := by
        rcases Nat.lt_or_ge j (xs.length + 1) with h' | h'
        · exact h'
        · rw [List.getElem?_eq_none (by rw [List.length_map, hlen]; exact h')] at hy; cases hy
      have hjz := Nat.mul_le_mul_right z (show j + 1 ≤ xs.length + 1 from hj)
      rw [Nat.succ_mul] at hjz
      have hg := ins_get (C := C) (vs := V) (z := z) (i := i.toNat) (j := j) (q := q) hiz v4' hq
      rw [← wb, List.getElem?_take, if_pos (by omega)] at hg
      rw [List.getElem?_map, List.getElem?_insertIdx] at hy
      have done : ∀ u, cur'.toList[j * z + q]? = some u → CRep ⟨w, M, σ⟩ true u d → ∃ u, cur'[j * z + q]? = some u ∧ CRep ⟨w', M, setE (setE σ 0 none) 2 (some ⟨z, some (g', cap'), true, noI⟩)⟩ true u d := fun u h1 h2 => ⟨u, by simpa using h1, h2.ext hT.2.toExt⟩
      by_cases h4 : j < i.toNat
      · rw [if_pos h4] at hg hy
        obtain ⟨u, hu, hr⟩ := hCr j y q d (by rw [List.getElem?_map]; exact hy) hd
        exact done u (hg.trans hu) hr
      · rw [if_neg h4] at hg hy
        by_cases h5 : j = i.toNat
        · rw [if_pos h5] at hg hy
          rw [if_pos (by omega)] at hy
          obtain ⟨u, hu, hr⟩ := v5 0 y q d (by simpa using hy) hd
          rw [Nat.zero_mul, Nat.zero_add] at hu
          exact done u (hg.trans hu) hr
        · rw [if_neg h5] at hg hy
          obtain ⟨u, hu, hr⟩ := hCr (j - 1) y q d (by rw [List.getElem?_map]; exact hy) hd
          exact done u (hg.trans hu) hr
    exact Holds.of (e := ⟨z, some (g', cap'), true, noI⟩) (by dsimp only; exact setE_same _ _ _) rfl rfl rfl row (row.deep rfl _)
  · have hs : 3 ≤ s := hs
    rw [setE_ne _ _ (by omega), setE_ne _ _ (by omega)]
    exact hσ s (by show 2 ≤ s; omega)

/-- Insert of one element, in plain words -/
noncomputable def insF {α : Type} (B : Int) (xs : List α) (i : Int) (ys : List α) : Option (List α) := match ys with
  | [x] => if 0 ≤ i ∧ i ≤ xs.length ∧ ((xs.length : Int) + 1) * B ≤ 140737488355328 then some (xs.insertIdx i.toNat x) else none
  | _ => none
theorem insF_ok {α : Type} {c : α → List DV} {P : Program} {f z : Nat} {B : Nat} (hraw : InsRaw P f z B) {fn : Func} {cd : Code} (hf : P.funcs[f]? = some fn) (hname : (fn.name == "runtime.NumGoroutine") = false) (hb : fn.body = some cd) (hc : ∀ a, (c a).length = z)
    {xs ys r : List α} {i : Int} (H : Sm (insF B xs i ys) r) : DCall P f [.own 0 0 xs.length, DI i, .own 1 0 ys.length] [(0, ⟨z, true, false, xs.map c⟩), (1, ⟨z, true, false, ys.map c⟩)] (.own 2 0 r.length) [(2, ⟨z, true, false, r.map c⟩)] := by
  match ys, H with
  | [], H => cases H.h
  | _ :: _ :: _, H => cases H.h
  | [x], H =>
    obtain ⟨h1, h2⟩ := cq H
    have e := se h2
    subst e
    exact ins_dcall hraw hf hname hb hc xs x i h1
noncomputable def F_slices_Insert_I (xs : List Int) (i : Int) (ys : List Int) : Option (List Int) := insF 8 xs i ys
theorem F_slices_Insert_I_ok {xs ys r : List Int} {i : Int} (H : Sm (F_slices_Insert_I xs i ys) r) : DCall Try.prog 51 [.own 0 0 xs.length, DI i, .own 1 0 ys.length] [(0, ⟨1, true, false, xs.map iC⟩), (1, ⟨1, true, false, ys.map iC⟩)] (.own 2 0 r.length) [(2, ⟨1, true, false, r.map iC⟩)] :=
  insF_ok (B := 8) insI_raw Try.func51 rfl rfl (fun _ => rfl) H
theorem F_slices_Insert_S_ok {α : Type} {c : α → List DV} (hc : ∀ a, (c a).length = 3) {xs ys r : List α} {i : Int} (H : Sm (insF 40 xs i ys) r) : DCall Try.prog 49 [.own 0 0 xs.length, DI i, .own 1 0 ys.length] [(0, ⟨3, true, false, xs.map c⟩), (1, ⟨3, true, false, ys.map c⟩)] (.own 2 0 r.length) [(2, ⟨3, true, false, r.map c⟩)] :=
  insF_ok (B := 40) insS_raw Try.func49 rfl rfl hc H
end Go.Proofs.Ythpnlnjdmlbnaaa
