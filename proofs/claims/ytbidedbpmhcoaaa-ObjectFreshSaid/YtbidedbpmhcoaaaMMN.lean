/- The laws ObjectApart and ObjectFresh as plain functions, and their contracts. No condition. -/
import Derived.Test.YtbidedbpmhcoaaaMM5
/- The law ObjectApart as a plain function: it answers true. No program. -/
namespace Go.Proofs.Ytbidedbpmhcoaaa
open Go.RowKit
set_option linter.unusedVariables false
set_option linter.unusedSimpArgs false

theorem apart_true {l : List Int} {a i b w : Int} (hl : ∀ x ∈ l, I64 x) (hll : l.length ≤ 9223372036854775807) (ha : I64 a) (hi : I64 i) (hb : I64 b) (hw : U64 w) : F_law08_ObjectApart l a i b w = some true := by
  unfold F_law08_ObjectApart
  obtain ⟨dk, hd, hdk⟩ := deck_new hl hll
  obtain ⟨s, L, d', hsp, hI, hL, hL4, _⟩ := space_spec hdk
  have hsm := hI.ok.shp.small
  rw [hd, Option.bind_some, hsp, Option.bind_some]
  dsimp only
  rw [objects_spec hI hL4, Option.bind_some]
  have hal := allA_len hI hI.each
  by_cases h0 : ((allA s L).length : Int) < 2
  · rw [if_pos h0]
    exact bind_ok awake08 rfl
  rw [if_neg h0]
  obtain ⟨m1, m2, m3⟩ := mod_spec (n := ((allA s L).length : Int)) ha (by omega)
  obtain ⟨n1, n2, n3⟩ := mod_spec (n := ((allA s L).length : Int)) hb (by omega)
  obtain ⟨v, hv, hvm⟩ := at_ex (l := allA s L) m2 m3
  obtain ⟨u, hu, hum⟩ := at_ex (l := allA s L) n2 n3
  obtain ⟨x, hx, hax⟩ := allA_mem hvm
  obtain ⟨y, hy, hay⟩ := allA_mem hum
  obtain ⟨p, r, d, rfl, ho⟩ := adrs_mem hI.ok.shp (hI.each x hx) hax
  obtain ⟨p', r', d', rfl, ho'⟩ := adrs_mem hI.ok.shp (hI.each y hy) hay
  have hII := (hI.each x hx).inc
  have hIJ := (hI.each y hy).inc
  have hS := shape_at hI hx ho
  have hS' := shape_at hI hy ho'
  have hr15 := ho.r15
  have hd32 := ho.d32
  have hr15' := ho'.r15
  have hd32' := ho'.d32
  rw [m1, Option.bind_some, hv, Option.bind_some, n1, Option.bind_some, hu, Option.bind_some, objShape hI hx ho, Option.bind_some]
  dsimp only
  rw [if_pos rfl]
  by_cases he : ((adr (szS s) x.fr p : Nat) : Int) = ((adr (szS s) y.fr p' : Nat) : Int)
  · rw [if_pos he]
    exact bind_ok awake08 rfl
  rw [if_neg he]
  have e0 : w64 ((r : Int) + (d : Int)) = ((r + d : Nat) : Int) := by rw [w64_in (by omega)]; push_cast; rfl
  rw [e0]
  by_cases hn : ((r + d : Nat) : Int) = 0
  · rw [if_pos hn]
    exact bind_ok awake08 rfl
  rw [if_neg hn]
  obtain ⟨k1, k2, k3⟩ := mod_spec (n := ((r + d : Nat) : Int)) hi (by omega)
  rw [k1, Option.bind_some]
  obtain ⟨k, hk⟩ : ∃ k : Nat, i % ((r + d : Nat) : Int) = k := ⟨_, (Int.toNat_of_nonneg k2).symm⟩
  have hkl : k < r + d := by omega
  rw [hk]
  have hA := adI hI hx ho
  have hA' := adI hI hy ho'
  obtain ⟨t1, t2⟩ := set_sp hI hx ho (k := 1 + k) (by omega) hw
  have hST := set_shape hI hx ho (k := 1 + k) (by omega) (by omega) hw hy ho'
  have f1 : F_object_SetRef s ((adr (szS s) x.fr p : Nat) : Int) (k : Int) w = some (SetR s ((adr (szS s) x.fr p : Nat) : Int) k true w) := by unfold F_object_SetRef; rw [if_pos ⟨hI.w, hA, spl hI⟩]
  have f2 : ∀ j : Int, F_object_SetData s ((adr (szS s) x.fr p : Nat) : Int) j w = some (SetR s ((adr (szS s) x.fr p : Nat) : Int) j false w) := fun j => by unfold F_object_SetData; rw [if_pos ⟨hI.w, hA, spl hI⟩]
  have e1 : (if (r : Int) ≤ (k : Int) then ((F_object_SetData s ((adr (szS s) x.fr p : Nat) : Int) (w64 ((k : Int) - (r : Int))) w).bind fun v24 => some ((v24.2, v24.1))) else some (((SetR s ((adr (szS s) x.fr p : Nat) : Int) k true w).2, (SetR s ((adr (szS s) x.fr p : Nat) : Int) k true w).1))) = some ((0 : Int), setS s ((adr (szS s) x.fr (p + (1 + k)) : Nat) : Int) w) := by
    by_cases hkr : r ≤ k
    · have e3 : w64 ((k : Int) - (r : Int)) = ((k - r : Nat) : Int) := by rw [w64_in (by omega)]; omega
      rw [if_pos (by omega), e3, f2, Option.bind_some]
      have hp := place_at hI.ok hII.ch hII.own ho.room hS (ref := false) (i := k - r) (by simp only [Bool.false_eq_true, if_false]; omega)
      have e4 : p + fpos r false (k - r) = p + (1 + k) := by unfold fpos; simp only [Bool.false_eq_true, if_false]; omega
      rw [e4] at hp
      unfold SetR
      rw [hp, if_pos rfl]
    · rw [if_neg (by omega)]
      have hp := place_at hI.ok hII.ch hII.own ho.room hS (ref := true) (i := k) (by simp only [if_true]; omega)
      have e4 : p + fpos r true k = p + (1 + k) := by unfold fpos; simp only [if_true]
      rw [e4] at hp
      unfold SetR
      rw [hp, if_pos rfl]
  rw [f1, Option.bind_some, e1, Option.bind_some]
  dsimp only
  have hg : ∀ (ref : Bool) (n : Nat), n < (if ref then r' else d') → ∃ z : Int, GetR s ((adr (szS s) y.fr p' : Nat) : Int) n ref = (z, 0) ∧ GetR (setS s ((adr (szS s) x.fr (p + (1 + k)) : Nat) : Int) w) ((adr (szS s) y.fr p' : Nat) : Int) n ref = (z, 0) := fun ref n hnn => by
    have a1 := get_at hI.ok hIJ.ch hIJ.own ho'.room hS' hnn
    have a2 := get_at (s := setS s ((adr (szS s) x.fr (p + (1 + k)) : Nat) : Int) w) (x := y) t1 hIJ.ch hIJ.own (p := p') (r := r') (d := d') ho'.room hST hnn
    rw [show szS (setS s ((adr (szS s) x.fr (p + (1 + k)) : Nat) : Int) w) = szS s from rfl] at a2
    obtain ⟨z1, z2⟩ := fpos_le hnn
    have hne := obj_sep hI hx hy ho ho' (fun e => he (by rw [e])) (k := 1 + k) (k' := fpos r' ref n) (by omega) z2
    rw [wAt_eq (set_ws hne) (setS_len ..)] at a2
    exact ⟨_, a1, a2⟩
  generalize hT : setS s ((adr (szS s) x.fr (p + (1 + k)) : Nat) : Int) w = T at *
  have q1 : ∀ n : Int, F_object_Ref s ((adr (szS s) y.fr p' : Nat) : Int) n = some (GetR s ((adr (szS s) y.fr p' : Nat) : Int) n true) := fun n => by unfold F_object_Ref; rw [if_pos ⟨hI.w, hA'⟩]
  have q2 : ∀ n : Int, F_object_Ref T ((adr (szS s) y.fr p' : Nat) : Int) n = some (GetR T ((adr (szS s) y.fr p' : Nat) : Int) n true) := fun n => by unfold F_object_Ref; rw [if_pos ⟨t2, hA'⟩]
  have q3 : ∀ n : Int, F_object_Data s ((adr (szS s) y.fr p' : Nat) : Int) n = some (GetR s ((adr (szS s) y.fr p' : Nat) : Int) n false) := fun n => by unfold F_object_Data; rw [if_pos ⟨hI.w, hA'⟩]
  have q4 : ∀ n : Int, F_object_Data T ((adr (szS s) y.fr p' : Nat) : Int) n = some (GetR T ((adr (szS s) y.fr p' : Nat) : Int) n false) := fun n => by unfold F_object_Data; rw [if_pos ⟨t2, hA'⟩]
  rw [if_pos rfl, objShape hI hy ho', Option.bind_some]
  dsimp only
  rw [if_pos rfl]
  refine (bndR_eq (b := ()) (loop_to (fun st => ∃ j : Nat, st = (j : Int) ∧ j ≤ r') (fun st => r' - st.toNat) ⟨0, rfl, by omega⟩ ?_)).trans ?_
  · rintro st ⟨j, rfl, hj⟩
    by_cases hj0 : j < r'
    · refine .inl ?_
      obtain ⟨z, g1, g2⟩ := hg true j (by simp only [if_true]; exact hj0)
      rw [if_pos (by omega), q1, Option.bind_some, q2, Option.bind_some, g1, g2, if_pos rfl, if_pos rfl, if_pos rfl, w64_succ (by omega)]
      exact ⟨_, rfl, ⟨j + 1, rfl, by omega⟩, by omega⟩
    · refine .inr ?_
      rw [if_neg (by omega)]
  refine (bndR_eq (b := ()) (loop_to (fun st => ∃ j : Nat, st = (j : Int) ∧ j ≤ d') (fun st => d' - st.toNat) ⟨0, rfl, by omega⟩ ?_)).trans (bind_ok awake08 rfl)
  rintro st ⟨j, rfl, hj⟩
  by_cases hj0 : j < d'
  · refine .inl ?_
    obtain ⟨z, g1, g2⟩ := hg false j (by simp only [Bool.false_eq_true, if_false]; exact hj0)
    rw [if_pos (by omega), q3, Option.bind_some, q4, Option.bind_some, g1, g2, if_pos rfl, if_pos rfl, if_pos rfl, w64_succ (by omega)]
    exact ⟨_, rfl, ⟨j + 1, rfl, by omega⟩, by omega⟩
  · refine .inr ?_
    rw [if_neg (by omega)]
end Go.Proofs.Ytbidedbpmhcoaaa
/- The law ObjectFresh as a plain function: it answers true. No program. -/
namespace Go.Proofs.Ytbidedbpmhcoaaa
open Go.RowKit
set_option linter.unusedVariables false
set_option linter.unusedSimpArgs false

theorem fresh_true {l : List Int} {a b : Int} (hl : ∀ x ∈ l, I64 x) (hll : l.length ≤ 9223372036854775807) (ha : I64 a) (hb : I64 b) : F_law08_ObjectFresh l a b = some true := by
  unfold F_law08_ObjectFresh
  obtain ⟨dk, hd, hdk⟩ := deck_new hl hll
  obtain ⟨s, L, d', hsp, hI, hL, hL4, _⟩ := space_spec hdk
  have hsm := hI.ok.shp.small
  obtain ⟨m1, m2, m3⟩ := mod_spec (n := 16) ha (by omega)
  obtain ⟨n1, n2, n3⟩ := mod_spec (n := 33) hb (by omega)
  rw [hd, Option.bind_some, hsp, Option.bind_some]
  dsimp only
  rw [m1, Option.bind_some, n1, Option.bind_some]
  obtain ⟨r, hr⟩ : ∃ r : Nat, a % 16 = r := ⟨_, (Int.toNat_of_nonneg m2).symm⟩
  obtain ⟨g, hg⟩ : ∃ g : Nat, b % 33 = g := ⟨_, (Int.toNat_of_nonneg n2).symm⟩
  rw [hr, hg]
  have hr15 : r ≤ 15 := by omega
  have hd32 : g ≤ 32 := by omega
  have ew : w64 (w64 (1 + (r : Int)) + (g : Int)) = ((1 + r + g : Nat) : Int) := by rw [w64_in (n := 1 + (r : Int)) (by omega), w64_in (by omega)]; push_cast; rfl
  have hadd := hI.add (q := 80) (b := 3) (by omega) (by omega) (fun x hx => by have := (hL x hx).2.1; omega)
  have hx := hadd.each ⟨⟨80, 3, -1, -1, 0⟩, [], []⟩ (by simp)
  have hxi : IncOk s ⟨80, 3, -1, -1, 0⟩ [] := hx.inc
  have hn : 1 ≤ ((1 + r + g : Nat) : Int) ∧ ((1 + r + g : Nat) : Int) ≤ 48 := by omega
  rw [ew, alloc_spec hI.ok hI.w hxi hn, Option.bind_some]
  by_cases hf : ¬ exN s ⟨80, 3, -1, -1, 0⟩ ((1 + r + g : Nat) : Int) ≤ (freeL s.fs).length
  · rw [if_neg hf, if_neg (by show ¬ (4 : Int) = 0; omega)]
    exact bind_ok awake08 rfl
  have hf := Classical.not_not.1 hf
  rw [if_pos hf]
  dsimp only
  rw [if_pos rfl]
  obtain ⟨c1, c2, c3, c4, c5⟩ := hI.ok.shp.z
  have gk := grw_ok hI.ok hxi hn hf
  obtain ⟨o1, o2, o3⟩ := alo_own hI.ok hI.w hx hr15 hd32 hf
  obtain ⟨w1, w2, w3⟩ := grow_words hI.ok.shp hxi hn
  have hWg : SpW ⟨s.sh, s.ws, grwF s ⟨80, 3, -1, -1, 0⟩ ((1 + r + g : Nat) : Int)⟩ := ⟨hI.w.1, o2.2⟩
  have hlen : (([] : List Nat) ++ (freeL s.fs).take (exN s ⟨80, 3, -1, -1, 0⟩ ((1 + r + g : Nat) : Int))).length = 0 + exN s ⟨80, 3, -1, -1, 0⟩ ((1 + r + g : Nat) : Int) := by
    rw [List.length_append, List.length_take, Nat.min_eq_left hf]
    rfl
  have hroom : ((0 : Int)).toNat + r + g < (([] : List Nat) ++ (freeL s.fs).take (exN s ⟨80, 3, -1, -1, 0⟩ ((1 + r + g : Nat) : Int))).length * szS s := by
    rw [hlen]
    show 0 + r + g < _
    have w4 : (0 : Int) + ((1 + r + g : Nat) : Int) ≤ (((0 + exN s ⟨80, 3, -1, -1, 0⟩ ((1 + r + g : Nat) : Int)) * szS s : Nat) : Int) := w1
    omega
  have hini := (ini_spec gk.sp hWg gk.inc.ch gk.inc.nd gk.inc.own (p := ((0 : Int)).toNat) hroom hr15 hd32).2
  rw [show szS ⟨s.sh, s.ws, grwF s ⟨80, 3, -1, -1, 0⟩ ((1 + r + g : Nat) : Int)⟩ = szS s from rfl] at hini
  have hz := fun k h1 h2 => iniW_0 (k := k) gk.sp.shp gk.inc.ch gk.inc.nd gk.inc.own (p := ((0 : Int)).toNat) (r := r) (d := g) hroom h1 h2
  have hhd := iniW_hd gk.sp.shp gk.inc.ch gk.inc.nd gk.inc.own (p := ((0 : Int)).toNat) (r := r) (d := g) hroom
  obtain ⟨j1, j2⟩ := ini_sp gk.sp hWg gk.inc.ch gk.inc.nd gk.inc.own (p := ((0 : Int)).toNat) hroom hr15 hd32
  have hch := gk.inc.ch
  have hnd := gk.inc.nd
  have hown := gk.inc.own
  rw [show szS ⟨s.sh, s.ws, grwF s ⟨80, 3, -1, -1, 0⟩ ((1 + r + g : Nat) : Int)⟩ = szS s from rfl] at hz hhd j1 j2
  rw [hini, Option.bind_some]
  dsimp only
  generalize ([] : List Nat) ++ (freeL s.fs).take (exN s ⟨80, 3, -1, -1, 0⟩ ((1 + r + g : Nat) : Int)) = fr at *
  generalize iniW ⟨s.sh, s.ws, grwF s ⟨80, 3, -1, -1, 0⟩ ((1 + r + g : Nat) : Int)⟩ (adr (szS s) fr ((0 : Int)).toNat) r g = ws at *
  generalize grwF s ⟨80, 3, -1, -1, 0⟩ ((1 + r + g : Nat) : Int) = fs at *
  have j1 : SpOk ⟨s.sh, ws, fs⟩ := j1
  have j2 : SpW ⟨s.sh, ws, fs⟩ := j2
  have hz0 : ((0 : Int)).toNat = 0 := rfl
  rw [hz0] at hz hhd hroom hini ⊢
  obtain ⟨T, hT⟩ : ∃ T : Sp, T = ⟨s.sh, ws, fs⟩ := ⟨_, rfl⟩
  have hTz : szS s = szS T := by rw [hT]; rfl
  have hTw : ws = T.ws := by rw [hT]
  have hTf : fs = T.fs := by rw [hT]
  rw [← hT] at j1 j2 ⊢
  rw [hTz] at hz hhd hroom hini ⊢
  rw [hTw] at hz hhd
  dsimp only at hch hown
  rw [hTf] at hch hown
  have hwl := j1.shp.small
  have hS := (look_at j1 hch hown (p := 0) (r := r) (d := g) (by omega) hr15 hd32 hhd).2
  have hAl := adr_lt j1.shp hch.lt (show 0 < fr.length * szS T by omega)
  have hA : I64 ((adr (szS T) fr 0 : Nat) : Int) := by unfold I64; omega
  have q1 : F_object_Shape T ((adr (szS T) fr 0 : Nat) : Int) = some ((r : Int), (g : Int), 0) := by unfold F_object_Shape; rw [if_pos ⟨j2, hA⟩, hS]
  have q2 : F_object_Slots T ((adr (szS T) fr 0 : Nat) : Int) = some (fldL T ((adr (szS T) fr 0 : Nat) : Int) r, 0) := by
    unfold F_object_Slots
    rw [if_pos ⟨j2, hA, trivial⟩]
    unfold SlR
    rw [hS]
    rfl
  have q3 : ∀ n : Int, F_object_Ref T ((adr (szS T) fr 0 : Nat) : Int) n = some (GetR T ((adr (szS T) fr 0 : Nat) : Int) n true) := fun n => by unfold F_object_Ref; rw [if_pos ⟨j2, hA⟩]
  have q4 : ∀ n : Int, F_object_Data T ((adr (szS T) fr 0 : Nat) : Int) n = some (GetR T ((adr (szS T) fr 0 : Nat) : Int) n false) := fun n => by unfold F_object_Data; rw [if_pos ⟨j2, hA⟩]
  have hget : ∀ (ref : Bool) (n : Nat), n < (if ref then r else g) → GetR T ((adr (szS T) fr 0 : Nat) : Int) n ref = (0, 0) := fun ref n hnn => by
    have a1 := get_at (x := ⟨⟨0, 0, 0, 0, 0⟩, fr, []⟩) j1 hch hown (p := 0) (r := r) (d := g) (by show 0 + r + g < _; omega) hS hnn
    obtain ⟨z1, z2⟩ := fpos_le hnn
    have a2 := hz (fpos r ref n) z1 z2
    have a1 : GetR T ((adr (szS T) fr 0 : Nat) : Int) n ref = (wAt T ((adr (szS T) fr (0 + fpos r ref n) : Nat) : Int), 0) := a1
    rw [a1, wAt_get a2]
  have hfl : ∀ j : Nat, j < r → at_ (fldL T ((adr (szS T) fr 0 : Nat) : Int) r) (j : Int) = some ((adr (szS T) fr (1 + j) : Nat) : Int) := fun j hj => by
    rw [at_nat (by rw [fldL_len]; exact hj)]
    congr 1
    unfold fldL
    rw [List.getElem_map, List.getElem_range]
    have := go_k j1.shp hch hown (p := 0) (k := 1 + j) (by omega)
    rw [Nat.zero_add] at this
    rw [show (1 : Int) + ((j : Nat) : Int) = ((1 + j : Nat) : Int) by push_cast; rfl, this]
  rw [q1, Option.bind_some, q2, Option.bind_some]
  dsimp only
  rw [if_pos rfl, if_pos rfl, if_pos rfl, if_pos rfl, if_pos rfl, if_pos (by rw [fldL_len])]
  refine (bndR_eq (b := T) (loop_to (fun st => ∃ j : Nat, st = (j : Int) ∧ j ≤ r) (fun st => r - st.toNat) ⟨0, rfl, by omega⟩ ?_)).trans ?_
  · rintro st ⟨j, rfl, hj⟩
    by_cases hj0 : j < r
    · refine .inl ?_
      rw [if_pos (by rw [fldL_len]; omega), q3, Option.bind_some, hget true j (by simp only [if_true]; exact hj0), if_pos rfl, if_pos rfl, w64_succ (by omega)]
      by_cases hp : (0 : Int) < (j : Int)
      · obtain ⟨k, rfl⟩ : ∃ k, j = k + 1 := ⟨j - 1, by omega⟩
        have e3 : w64 (((k + 1 : Nat) : Int) - 1) = ((k : Nat) : Int) := by rw [w64_in (by omega)]; omega
        rw [if_pos hp, e3, hfl k (by omega), Option.bind_some, hfl (k + 1) (by omega), Option.bind_some, if_neg]
        · exact ⟨_, rfl, ⟨k + 1 + 1, rfl, by omega⟩, by omega⟩
        · intro e
          have := adr_inj (show 0 < szS T by omega) hnd (show 1 + k < fr.length * szS T by omega) (show 1 + (k + 1) < fr.length * szS T by omega) (Int.ofNat.inj e)
          omega
      · rw [if_neg hp]
        exact ⟨_, rfl, ⟨j + 1, rfl, by omega⟩, by omega⟩
    · refine .inr ?_
      rw [if_neg (by rw [fldL_len]; omega)]
  refine (bndR_eq (b := ()) (loop_to (fun st => ∃ j : Nat, st = (j : Int) ∧ j ≤ g) (fun st => g - st.toNat) ⟨0, rfl, by omega⟩ ?_)).trans (bind_ok awake08 rfl)
  rintro st ⟨j, rfl, hj⟩
  by_cases hj0 : j < g
  · refine .inl ?_
    rw [if_pos (by omega), q4, Option.bind_some, hget false j (by simp only [Bool.false_eq_true, if_false]; exact hj0), if_pos rfl, if_pos rfl, w64_succ (by omega)]
    exact ⟨_, rfl, ⟨j + 1, rfl, by omega⟩, by omega⟩
  · refine .inr ?_
    rw [if_neg (by omega)]
end Go.Proofs.Ytbidedbpmhcoaaa
/- The contracts of ObjectApart and ObjectFresh. No condition. -/
namespace Go.Proofs.Ytbidedbpmhcoaaa
open Go.RowKit
theorem objectApart_dc (l : List Int) (a i b w : Int) (hl : (∀ x ∈ l, I64 x) ∧ l.length ≤ 9223372036854775807) (h1 : I64 a) (h2 : I64 i) (h3 : I64 b) (hw : U64 w) :
    DCall Try.prog 8 [.sl (l.map iC), DI a, DI i, DI b, DU w] [] (DB true) [] := F_law08_ObjectApart_ok (apart_true hl.1 hl.2 h1 h2 h3 hw)
theorem objectFresh_dc (l : List Int) (refs data : Int) (hl : (∀ x ∈ l, I64 x) ∧ l.length ≤ 9223372036854775807) (h1 : I64 refs) (h2 : I64 data) :
    DCall Try.prog 6 [.sl (l.map iC), DI refs, DI data] [] (DB true) [] := F_law08_ObjectFresh_ok (fresh_true hl.1 hl.2 h1 h2)
end Go.Proofs.Ytbidedbpmhcoaaa
