/- Parts of the proof: E13, E14, E15, E16, E17, E18, E19, E20, E21, O1, K1, S3, S4. No condition. -/
import Derived.Test.YtbidedbpmhcoaaaMM3
/- Addresses of fields: the reference. No condition. -/
namespace Go.Proofs.Ytbidedbpmhcoaaa
open Go.RowKit
set_option linter.unusedSimpArgs false
set_option linter.unusedVariables false
theorem sc_sl {r : Nat} : Sc (.tup [.own 0 0 r, DI 0]) := .tup fun d hd => by
 simp only [List.mem_cons, List.not_mem_nil, or_false] at hd
 rcases hd with rfl | rfl
 ·exact .own
 ·exact .lit

set_option maxRecDepth 20000 in
set_option maxHeartbeats 4000000 in
theorem rfields_bad (s : Sp) (a e : Int) (hW : SpW s) (ha : I64 a) (h : ShapeR s a = ⟨0, 0, e⟩) (he : ¬ e = 0) (hs : SpOk s) : DCall Try.prog 60 [spD s, DI a] [] (.tup [DN, DI e]) [] := by
 refine DCall.mk Try.func60 rfl rfl ?_
 have hlk : DCall Try.prog 59 [spD s, DI a] [] (tup3 ⟨0, 0, e⟩) [] := by have h1 := look_d s a hs hW ha; rw [← ShapeR_t hs, h] at h1; exact h1
 refine d_seq fun K1 k1 => ?_
 refine d_region rfl ?_
 refine go (m_box ty_25) ?_
 refine go (m_set) ?_
 refine go (m_set) ?_
 refine .nil ⟨by kernel_rfl, ?_⟩
 refine k1 _ ?_
 refine d_seq fun K2 k2 => ?_
 refine d_region rfl ?_
 refine go (m_load ty_25) ?_
 refine go (m_move) ?_
 refine go (m_callT (vs := [.int .i64 0, .int .i64 0, .int .i64 e]) hlk) ?_
 refine go (m_move) ?_
 refine go (m_ext) ?_
 refine go (m_ext) ?_
 refine go (m_ext) ?_
 refine go (m_set) ?_
 refine go (m_set) ?_
 refine go (m_set) ?_
 refine .nil ⟨by kernel_rfl, ?_⟩
 refine k2 _ ?_
 refine d_seq fun K3 k3 => ?_
 refine d_seq fun K4 k4 => ?_
 refine d_region rfl ?_
 refine go (m_move) ?_
 refine go (m_bin) ?_
 refine .nil ⟨by kernel_rfl, ?_⟩
 refine k4 _ ?_
 refine d_condT rfl ?_
 refine d_seq fun K5 k5 => ?_
 refine d_region rfl ?_
 refine go (m_move) ?_
 refine go (m_set) ?_
 refine go (m_set) ?_
 refine .nil ⟨by kernel_rfl, ?_⟩
 refine k5 _ ?_
 refine d_ret ?_
 change RetD _ _ _ _ _ _ _
 exact fin [] (.tmp (.tmp (.nil)))

set_option maxRecDepth 20000 in
set_option maxHeartbeats 4000000 in
theorem rfields_0 (s : Sp) (a d : Int) (hW : SpW s) (ha : I64 a) (h : ShapeR s a = ⟨0, d, 0⟩) (hs : SpOk s) : DCall Try.prog 60 [spD s, DI a] [] (.tup [DN, DI 0]) [] := by
 refine DCall.mk Try.func60 rfl rfl ?_
 obtain ⟨_, hL, q1, q2, q3, q4, q5⟩ := ShapeR_ok hW h
 have q8 := q3
 unfold HdOk at q8
 have hlk : DCall Try.prog 59 [spD s, DI a] [] (tup3 ⟨0, d, 0⟩) [] := by have h1 := look_d s a hs hW ha; rw [← ShapeR_t hs, h] at h1; exact h1
 refine d_seq fun K1 k1 => ?_
 refine d_region rfl ?_
 refine go (m_box ty_25) ?_
 refine go (m_set) ?_
 refine go (m_set) ?_
 refine .nil ⟨by kernel_rfl, ?_⟩
 refine k1 _ ?_
 refine d_seq fun K2 k2 => ?_
 refine d_region rfl ?_
 refine go (m_load ty_25) ?_
 refine go (m_move) ?_
 refine go (m_callT (vs := [.int .i64 0, .int .i64 d, .int .i64 0]) hlk) ?_
 refine go (m_move) ?_
 refine go (m_ext) ?_
 refine go (m_ext) ?_
 refine go (m_ext) ?_
 refine go (m_set) ?_
 refine go (m_set) ?_
 refine go (m_set) ?_
 refine .nil ⟨by kernel_rfl, ?_⟩
 refine k2 _ ?_
 refine d_seq fun K3 k3 => ?_
 refine d_seq fun K4 k4 => ?_
 refine d_region rfl ?_
 refine go (m_move) ?_
 refine go (m_bin) ?_
 refine .nil ⟨by kernel_rfl, ?_⟩
 refine k4 _ ?_
 refine d_condF rfl ?_
 refine d_skip ?_
 refine k3 _ ?_
 refine d_seq fun K5 k5 => ?_
 refine d_region rfl ?_
 refine go (m_set) ?_
 refine .nil ⟨by kernel_rfl, ?_⟩
 refine k5 _ ?_
 refine d_seq fun K6 k6 => ?_
 refine d_seq fun K7 k7 => ?_
 refine d_region rfl ?_
 refine go (m_set) ?_
 refine .nil ⟨by kernel_rfl, ?_⟩
 refine k7 _ ?_
 refine d_block ?_
 refine d_loop (α := Unit) (fun _ => ⟨[(6, DI 0), (9, DN), (10, DI 0)], [], 0⟩) (fun _ => True) (fun _ => 0) () trivial (wk []) (fun _ _ => ?_)
 refine d_seq fun K8 k8 => ?_
 refine d_seq fun K9 k9 => ?_
 refine d_region rfl ?_
 refine go (m_move) ?_
 refine go (m_move) ?_
 refine go (m_bin) ?_
 refine .nil ⟨by kernel_rfl, ?_⟩
 refine k9 _ ?_
 refine d_condF rfl ?_
 refine d_exit ?_
 refine k6 _ ?_
 refine d_seq fun K10 k10 => ?_
 refine d_region rfl ?_
 refine go (m_move) ?_
 refine go (m_set) ?_
 refine go (m_set) ?_
 refine .nil ⟨by kernel_rfl, ?_⟩
 refine k10 _ ?_
 refine d_ret ?_
 change RetD _ _ _ _ _ _ _
 exact fin [] (.tmp (.tmp (.nil)))

set_option maxRecDepth 20000 in
set_option maxHeartbeats 4000000 in
theorem rfields_n (s : Sp) (a d : Int) (r : Nat) (hW : SpW s) (ha : I64 a) (h : ShapeR s a = ⟨r, d, 0⟩) (hr : 0 < r) (hs : SpOk s) : DCall Try.prog 60 [spD s, DI a] [] (.tup [.own 0 0 r, DI 0]) [(0, iO (fldL s a r))] := by
 refine DCall.mk Try.func60 rfl rfl ?_
 obtain ⟨_, hL, q1, q2, q3, q4, q5⟩ := ShapeR_ok hW h
 have q8 := q3
 unfold HdOk at q8
 have hlk : DCall Try.prog 59 [spD s, DI a] [] (tup3 ⟨r, d, 0⟩) [] := by have h1 := look_d s a hs hW ha; rw [← ShapeR_t hs, h] at h1; exact h1
 refine d_seq fun K1 k1 => ?_
 refine d_region rfl ?_
 refine go (m_box ty_25) ?_
 refine go (m_set) ?_
 refine go (m_set) ?_
 refine .nil ⟨by kernel_rfl, ?_⟩
 refine k1 _ ?_
 refine d_seq fun K2 k2 => ?_
 refine d_region rfl ?_
 refine go (m_load ty_25) ?_
 refine go (m_move) ?_
 refine go (m_callT (vs := [.int .i64 r, .int .i64 d, .int .i64 0]) hlk) ?_
 refine go (m_move) ?_
 refine go (m_ext) ?_
 refine go (m_ext) ?_
 refine go (m_ext) ?_
 refine go (m_set) ?_
 refine go (m_set) ?_
 refine go (m_set) ?_
 refine .nil ⟨by kernel_rfl, ?_⟩
 refine k2 _ ?_
 refine d_seq fun K3 k3 => ?_
 refine d_seq fun K4 k4 => ?_
 refine d_region rfl ?_
 refine go (m_move) ?_
 refine go (m_bin) ?_
 refine .nil ⟨by kernel_rfl, ?_⟩
 refine k4 _ ?_
 refine d_condF rfl ?_
 refine d_skip ?_
 refine k3 _ ?_
 refine d_seq fun K5 k5 => ?_
 refine d_region rfl ?_
 refine go (m_set) ?_
 refine .nil ⟨by kernel_rfl, ?_⟩
 refine k5 _ ?_
 refine d_seq fun K6 k6 => ?_
 refine d_seq fun K7 k7 => ?_
 refine d_region rfl ?_
 refine go (m_set) ?_
 refine .nil ⟨by kernel_rfl, ?_⟩
 refine k7 _ ?_
 refine d_block ?_
 refine d_loop1 (α := Nat) (fun k => ⟨[(1, DI a), (2, .ptr 0 0 0), (6, DI r), (9, .own 1 0 k), (10, DI k)], [(0, ⟨3, false, false, [spC s]⟩), (1, iO (fldL s a k))], 2⟩) (fun k => 1 ≤ k ∧ k ≤ r) (fun k => r - k) (r) ?_ (fun k ⟨hk1, hk2⟩ => ?_)
 ·
  refine d_seq fun K8 k8 => ?_
  refine d_seq fun K9 k9 => ?_
  refine d_region rfl ?_
  refine go (m_move) ?_
  refine go (m_move) ?_
  refine go (m_bin) ?_
  refine .nil ⟨by kernel_rfl, ?_⟩
  refine k9 _ ?_
  refine d_condT rfl ?_
  refine d_skip ?_
  refine k8 _ ?_
  refine d_seq fun K10 k10 => ?_
  refine d_block ?_
  refine d_seq fun K11 k11 => ?_
  refine d_region rfl ?_
  refine go (m_load ty_25) ?_
  refine go (m_move) ?_
  refine go (m_move) ?_
  refine go (m_bin) ?_
  refine go (m_callT (vs := [.int .i64 (GoR s a (1 + 0)).1, .int .i64 (GoR s a (1 + 0)).2]) (go_d s a (1 + 0) hs.shp hs.nxIn ha (by unfold I64; omega))) ?_
  refine go (m_move) ?_
  refine go (m_ext) ?_
  refine go (m_ext) ?_
  refine go (m_set) ?_
  refine go (m_set) ?_
  refine .nil ⟨by kernel_rfl, ?_⟩
  refine k11 _ ?_
  refine d_region rfl ?_
  refine go (m_move) ?_
  refine go (m_move) ?_
  refine go (m_lit ty_26 ty_3) ?_
  refine go (m_app ty_26 ty_3) ?_
  refine go (m_set) ?_
  refine .nil ⟨by kernel_rfl, ?_⟩
  refine k10 _ ?_
  refine d_region rfl ?_
  refine go (m_move) ?_
  refine go (m_bin) ?_
  refine go (m_set) ?_
  refine .nil ⟨by kernel_rfl, ?_⟩
  have hx : [[DI (GoR s a (1 + 0)).1]] = (fldL s a 1).map iC := rfl
  exact ⟨1, ⟨by omega, by omega⟩, by omega, wk [(0, 0), (1, 2)]⟩
 ·
  have hfl := fldL_len s a k
  by_cases hlt : k < r
  ·
   refine d_seq fun K12 k12 => ?_
   refine d_seq fun K13 k13 => ?_
   refine d_region rfl ?_
   refine go (m_move) ?_
   refine go (m_move) ?_
   refine go (m_bin) ?_
   refine .nil ⟨by kernel_rfl, ?_⟩
   refine k13 _ ?_
   refine d_condT rfl ?_
   refine d_skip ?_
   refine k12 _ ?_
   refine d_seq fun K14 k14 => ?_
   refine d_block ?_
   refine d_seq fun K15 k15 => ?_
   refine d_region rfl ?_
   refine go (m_load ty_25) ?_
   refine go (m_move) ?_
   refine go (m_move) ?_
   refine go (m_bin) ?_
   refine go (m_callT (vs := [.int .i64 (GoR s a (1 + k)).1, .int .i64 (GoR s a (1 + k)).2]) (go_d s a (1 + k) hs.shp hs.nxIn ha (by unfold I64; omega))) ?_
   refine go (m_move) ?_
   refine go (m_ext) ?_
   refine go (m_ext) ?_
   refine go (m_set) ?_
   refine go (m_set) ?_
   refine .nil ⟨by kernel_rfl, ?_⟩
   refine k15 _ ?_
   refine d_region rfl ?_
   refine go (m_move) ?_
   refine go (m_move) ?_
   refine go (m_lit ty_26 ty_3) ?_
   refine go (m_app ty_26 ty_3) ?_
   refine go (m_set) ?_
   refine .nil ⟨by kernel_rfl, ?_⟩
   refine k14 _ ?_
   refine d_region rfl ?_
   refine go (m_move) ?_
   refine go (m_bin) ?_
   refine go (m_set) ?_
   refine .nil ⟨by kernel_rfl, ?_⟩
   have hx : (fldL s a k).map iC ++ [[DI (GoR s a (1 + (k : Int))).1]] = (fldL s a (k + 1)).map iC := by rw [fldL_succ]
   exact ⟨k + 1, ⟨by omega, by omega⟩, by omega, wk [(0, 0), (1, 3)]⟩
  ·
   refine d_seq fun K16 k16 => ?_
   refine d_seq fun K17 k17 => ?_
   refine d_region rfl ?_
   refine go (m_move) ?_
   refine go (m_move) ?_
   refine go (m_bin) ?_
   refine .nil ⟨by kernel_rfl, ?_⟩
   refine k17 _ ?_
   refine d_condF rfl ?_
   refine d_exit ?_
   refine k6 _ ?_
   refine d_seq fun K18 k18 => ?_
   have hkr : k = r := by omega
   subst hkr
   refine d_region rfl ?_
   refine go (m_move) ?_
   refine go (m_set) ?_
   refine go (m_set) ?_
   refine .nil ⟨by kernel_rfl, ?_⟩
   refine k18 _ ?_
   refine d_ret ?_
   change RetD _ _ _ _ _ _ _
   exact fin [(0, 1)] (.tmp (.tmp (.nil)))

set_option maxRecDepth 20000 in
set_option maxHeartbeats 4000000 in
theorem rslots_bad (s : Sp) (a e : Int) (hW : SpW s) (ha : I64 a) (h : ShapeR s a = ⟨0, 0, e⟩) (he : ¬ e = 0) : DCall Try.prog 24 [spD s, DI a] [] (.tup [DN, DI e]) [] := by
 refine DCall.mk Try.func24 rfl rfl ?_
 by_cases hs : SpOk s
 ·
  refine d_seq fun K1 k1 => ?_
  refine d_region rfl ?_
  refine go (m_box ty_25) ?_
  refine go (m_set) ?_
  refine go (m_set) ?_
  refine .nil ⟨by kernel_rfl, ?_⟩
  refine k1 _ ?_
  refine d_seq fun K2 k2 => ?_
  refine d_seq fun K3 k3 => ?_
  refine d_region rfl ?_
  refine go (m_load ty_25) ?_
  refine go (m_call ((rvalid_d s hW).t hs)) ?_
  refine go (m_not) ?_
  refine .nil ⟨by kernel_rfl, ?_⟩
  refine k3 _ ?_
  refine d_condF rfl ?_
  refine d_skip ?_
  refine k2 _ ?_
  refine d_seq fun K4 k4 => ?_
  refine d_region rfl ?_
  refine go (m_load ty_25) ?_
  refine go (m_move) ?_
  refine go (m_callT (vs := [.slice none 0 0, .int .i64 e]) (rfields_bad s a e hW ha h he hs)) ?_
  refine go (m_ext) ?_
  refine go (m_ext) ?_
  refine go (m_set) ?_
  refine go (m_set) ?_
  refine .nil ⟨by kernel_rfl, ?_⟩
  refine k4 _ ?_
  refine d_ret ?_
  change RetD _ _ _ _ _ _ _
  exact fin [] (.tmp (.tmp (.nil)))
 ·
  refine d_seq fun K5 k5 => ?_
  refine d_region rfl ?_
  refine go (m_box ty_25) ?_
  refine go (m_set) ?_
  refine go (m_set) ?_
  refine .nil ⟨by kernel_rfl, ?_⟩
  refine k5 _ ?_
  refine d_seq fun K6 k6 => ?_
  refine d_seq fun K7 k7 => ?_
  refine d_region rfl ?_
  refine go (m_load ty_25) ?_
  refine go (m_call ((rvalid_d s hW).f hs)) ?_
  refine go (m_not) ?_
  refine .nil ⟨by kernel_rfl, ?_⟩
  refine k7 _ ?_
  refine d_condT rfl ?_
  refine d_seq fun K8 k8 => ?_
  have h9 : (1 : Int) = e := by rw [ShapeR_f hs] at h; injection h
  subst h9
  refine d_region rfl ?_
  refine go (m_set) ?_
  refine go (m_set) ?_
  refine .nil ⟨by kernel_rfl, ?_⟩
  refine k8 _ ?_
  refine d_ret ?_
  change RetD _ _ _ _ _ _ _
  exact fin [] (.tmp (.tmp (.nil)))

set_option maxRecDepth 20000 in
set_option maxHeartbeats 4000000 in
theorem rslots_0 (s : Sp) (a d : Int) (hW : SpW s) (ha : I64 a) (h : ShapeR s a = ⟨0, d, 0⟩) : DCall Try.prog 24 [spD s, DI a] [] (.tup [DN, DI 0]) [] := by
 refine DCall.mk Try.func24 rfl rfl ?_
 obtain ⟨hs, _⟩ := ShapeR_ok hW h
 refine d_seq fun K1 k1 => ?_
 refine d_region rfl ?_
 refine go (m_box ty_25) ?_
 refine go (m_set) ?_
 refine go (m_set) ?_
 refine .nil ⟨by kernel_rfl, ?_⟩
 refine k1 _ ?_
 refine d_seq fun K2 k2 => ?_
 refine d_seq fun K3 k3 => ?_
 refine d_region rfl ?_
 refine go (m_load ty_25) ?_
 refine go (m_call ((rvalid_d s hW).t hs)) ?_
 refine go (m_not) ?_
 refine .nil ⟨by kernel_rfl, ?_⟩
 refine k3 _ ?_
 refine d_condF rfl ?_
 refine d_skip ?_
 refine k2 _ ?_
 refine d_seq fun K4 k4 => ?_
 refine d_region rfl ?_
 refine go (m_load ty_25) ?_
 refine go (m_move) ?_
 refine go (m_callT (vs := [.slice none 0 0, .int .i64 0]) (rfields_0 s a d hW ha h hs)) ?_
 refine go (m_ext) ?_
 refine go (m_ext) ?_
 refine go (m_set) ?_
 refine go (m_set) ?_
 refine .nil ⟨by kernel_rfl, ?_⟩
 refine k4 _ ?_
 refine d_ret ?_
 change RetD _ _ _ _ _ _ _
 exact fin [] (.tmp (.tmp (.nil)))

set_option maxRecDepth 20000 in
set_option maxHeartbeats 4000000 in
theorem rslots_n (s : Sp) (a d : Int) (r : Nat) (hW : SpW s) (ha : I64 a) (h : ShapeR s a = ⟨r, d, 0⟩) (hr : 0 < r) : DCall Try.prog 24 [spD s, DI a] [] (.tup [.own 0 0 r, DI 0]) [(0, iO (fldL s a r))] := by
 refine DCall.mk Try.func24 rfl rfl ?_
 obtain ⟨hs, _⟩ := ShapeR_ok hW h
 refine d_seq fun K1 k1 => ?_
 refine d_region rfl ?_
 refine go (m_box ty_25) ?_
 refine go (m_set) ?_
 refine go (m_set) ?_
 refine .nil ⟨by kernel_rfl, ?_⟩
 refine k1 _ ?_
 refine d_seq fun K2 k2 => ?_
 refine d_seq fun K3 k3 => ?_
 refine d_region rfl ?_
 refine go (m_load ty_25) ?_
 refine go (m_call ((rvalid_d s hW).t hs)) ?_
 refine go (m_not) ?_
 refine .nil ⟨by kernel_rfl, ?_⟩
 refine k3 _ ?_
 refine d_condF rfl ?_
 refine d_skip ?_
 refine k2 _ ?_
 refine d_seq fun K4 k4 => ?_
 refine d_region rfl ?_
 refine go (m_load ty_25) ?_
 refine go (m_move) ?_
 refine go (m_callS [] (rfields_n s a d r hW ha h hr hs) sc_sl (ScS.one sc_i)) ?_
 refine go (m_ext) ?_
 refine go (m_ext) ?_
 refine go (m_set) ?_
 refine go (m_set) ?_
 refine .nil ⟨by kernel_rfl, ?_⟩
 refine k4 _ ?_
 refine d_ret ?_
 change RetD _ _ _ _ _ _ _
 exact fin [(0, 1)] (.tmp (.tmp (.nil)))

end Go.Proofs.Ytbidedbpmhcoaaa
/- Objects are made: the reference. No condition. -/
namespace Go.Proofs.Ytbidedbpmhcoaaa
open Go.RowKit
set_option linter.unusedSimpArgs false
set_option linter.unusedVariables false
theorem setS_go {s : Sp} {l : List Int} (hs : ShpS s) (hn : NxIn s.fs) (hl : l.length = s.ws.length) {a k : Int} (ha : I64 a) (hk : I64 k) : DCall Try.prog 44 [spD ⟨s.sh, l, s.fs⟩, DI a, DI k] [] (tup2 (GoR s a k)) [] := by
 have h1 := go_d ⟨s.sh, l, s.fs⟩ a k ⟨hs.sh, hs.lo, hs.hi, by rw [hl]; exact hs.wl⟩ hn ha hk
 rw [GoR_ws (ws := s.ws) hl] at h1
 exact h1
/-- why no object can be made -/
def MkE (s : Sp) (a r d : Int) : Int := if HdOk r d then (GoR s a (r + d)).2 else 13
theorem MkE_0 {s : Sp} {a r d : Int} (h : MkE s a r d = 0) : HdOk r d ∧ (GoR s a (r + d)).2 = 0 := by
 unfold MkE at h
 by_cases h1 : HdOk r d
 ·rw [if_pos h1] at h; exact ⟨h1, h⟩
 ·rw [if_neg h1] at h; cases h

set_option maxRecDepth 20000 in
set_option maxHeartbeats 4000000 in
theorem make_bad (s : Sp) (a r d : Int) (hs : ShpS s) (hn : NxIn s.fs) (ha : I64 a) (e : Int) (h : MkE s a r d = e) (he : ¬ e = 0) : DCall Try.prog 56 [.agg (spO 0 1 s), DI a, DI r, DI d] [(0, wO s.ws), (1, fO s.fs)] (DI e) [(0, wO s.ws), (1, fO s.fs)] := by
 refine DCall.mk Try.func56 rfl rfl ?_
 by_cases hh : HdOk r d
 ·
  have hlv : DCall Try.prog 90 [DI r, DI d] [] (tupU (hdW r d, 0)) [] := by have h1 := rlive_d r d; rw [show LiveR r d = (hdW r d, 0) from if_pos hh] at h1; exact h1
  have hh2 := hh
  unfold HdOk at hh2
  refine d_seq fun K1 k1 => ?_
  refine d_region rfl ?_
  refine go (m_box ty_25) ?_
  refine go (m_set) ?_
  refine .nil ⟨by kernel_rfl, ?_⟩
  refine k1 _ ?_
  refine d_seq fun K2 k2 => ?_
  refine d_region rfl ?_
  refine go (m_move) ?_
  refine go (m_move) ?_
  refine go (m_callT (vs := [.int .u64 (hdW r d), .int .i64 0]) hlv) ?_
  refine go (m_move) ?_
  refine go (m_ext) ?_
  refine go (m_ext) ?_
  refine go (m_set) ?_
  refine go (m_set) ?_
  refine .nil ⟨by kernel_rfl, ?_⟩
  refine k2 _ ?_
  refine d_seq fun K3 k3 => ?_
  refine d_seq fun K4 k4 => ?_
  refine d_region rfl ?_
  refine go (m_move) ?_
  refine go (m_bin) ?_
  refine .nil ⟨by kernel_rfl, ?_⟩
  refine k4 _ ?_
  refine d_condF rfl ?_
  refine d_skip ?_
  refine k3 _ ?_
  refine d_seq fun K5 k5 => ?_
  refine d_seq fun K6 k6 => ?_
  have hg : (GoR s a (r + d)).2 = e := by unfold MkE at h; rw [if_pos hh] at h; exact h
  refine d_region rfl ?_
  refine go (m_load ty_25) ?_
  refine go (m_move) ?_
  refine go (m_move) ?_
  refine go (m_move) ?_
  refine go (m_bin) ?_
  refine go (m_callT (vs := [.int .i64 (GoR s a (r + d)).1, .int .i64 (GoR s a (r + d)).2]) (setS_go (l := s.ws) hs hn (by simp) ha (by unfold I64; omega))) ?_
  refine go (m_move) ?_
  refine go (m_ext) ?_
  refine go (m_ext) ?_
  refine go (m_set) ?_
  refine go (m_set) ?_
  refine .nil ⟨by kernel_rfl, ?_⟩
  refine k6 _ ?_
  refine d_seq fun K7 k7 => ?_
  refine d_region rfl ?_
  refine go (m_move) ?_
  refine go (m_bin) ?_
  refine .nil ⟨by kernel_rfl, ?_⟩
  refine k7 _ ?_
  refine d_condT rfl ?_
  refine d_seq fun K8 k8 => ?_
  refine d_region rfl ?_
  refine go (m_move) ?_
  refine go (m_set) ?_
  refine .nil ⟨by kernel_rfl, ?_⟩
  refine k8 _ ?_
  refine d_ret ?_
  change RetD _ _ _ _ _ _ _
  exact fin [(0, 0), (1, 1)] (.tmp (.nil)) (h1 := .litE (congrArg (Value.int _) hg))
 ·
  have hlv : DCall Try.prog 90 [DI r, DI d] [] (tupU (0, 13)) [] := by have h1 := rlive_d r d; rw [show LiveR r d = (0, 13) from if_neg hh] at h1; exact h1
  refine d_seq fun K9 k9 => ?_
  refine d_region rfl ?_
  refine go (m_box ty_25) ?_
  refine go (m_set) ?_
  refine .nil ⟨by kernel_rfl, ?_⟩
  refine k9 _ ?_
  refine d_seq fun K10 k10 => ?_
  refine d_region rfl ?_
  refine go (m_move) ?_
  refine go (m_move) ?_
  refine go (m_callT (vs := [.int .u64 0, .int .i64 13]) hlv) ?_
  refine go (m_move) ?_
  refine go (m_ext) ?_
  refine go (m_ext) ?_
  refine go (m_set) ?_
  refine go (m_set) ?_
  refine .nil ⟨by kernel_rfl, ?_⟩
  refine k10 _ ?_
  refine d_seq fun K11 k11 => ?_
  refine d_seq fun K12 k12 => ?_
  refine d_region rfl ?_
  refine go (m_move) ?_
  refine go (m_bin) ?_
  refine .nil ⟨by kernel_rfl, ?_⟩
  refine k12 _ ?_
  refine d_condT rfl ?_
  refine d_seq fun K13 k13 => ?_
  refine d_region rfl ?_
  refine go (m_move) ?_
  refine go (m_set) ?_
  refine .nil ⟨by kernel_rfl, ?_⟩
  refine k13 _ ?_
  refine d_ret ?_
  change RetD _ _ _ _ _ _ _
  exact fin [(0, 0), (1, 1)] (.tmp (.nil)) (h1 := .litE (congrArg (Value.int _) (by unfold MkE at h; rw [if_neg hh] at h; exact h)))

set_option maxRecDepth 20000 in
set_option maxHeartbeats 4000000 in
theorem make_ok (s : Sp) (a r d : Int) (hs : ShpS s) (hn : NxIn s.fs) (ha : I64 a) (h : MkE s a r d = 0) : DCall Try.prog 56 [.agg (spO 0 1 s), DI a, DI r, DI d] [(0, wO s.ws), (1, fO s.fs)] (DI 0) [(0, wO (clrL s a (r + d).toNat (s.ws.set a.toNat (hdW r d)))), (1, fO s.fs)] := by
 refine DCall.mk Try.func56 rfl rfl ?_
 obtain ⟨hh, hg⟩ := MkE_0 h
 have hh2 := hh
 unfold HdOk at hh2
 have hlv : DCall Try.prog 90 [DI r, DI d] [] (tupU (hdW r d, 0)) [] := by have h1 := rlive_d r d; rw [show LiveR r d = (hdW r d, 0) from if_pos hh] at h1; exact h1
 have hgo : DCall Try.prog 44 [spD s, DI a, DI (r + d)] [] (tup2 ((GoR s a (r + d)).1, 0)) [] := by have h1 := go_d s a (r + d) hs hn ha (by unfold I64; omega); rw [show GoR s a (r + d) = ((GoR s a (r + d)).1, 0) from Prod.ext rfl hg] at h1; exact h1
 obtain ⟨a1, a2, _⟩ := GoR_e hg
 refine d_seq fun K1 k1 => ?_
 refine d_region rfl ?_
 refine go (m_box ty_25) ?_
 refine go (m_set) ?_
 refine .nil ⟨by kernel_rfl, ?_⟩
 refine k1 _ ?_
 refine d_seq fun K2 k2 => ?_
 refine d_region rfl ?_
 refine go (m_move) ?_
 refine go (m_move) ?_
 refine go (m_callT (vs := [.int .u64 (hdW r d), .int .i64 0]) hlv) ?_
 refine go (m_move) ?_
 refine go (m_ext) ?_
 refine go (m_ext) ?_
 refine go (m_set) ?_
 refine go (m_set) ?_
 refine .nil ⟨by kernel_rfl, ?_⟩
 refine k2 _ ?_
 refine d_seq fun K3 k3 => ?_
 refine d_seq fun K4 k4 => ?_
 refine d_region rfl ?_
 refine go (m_move) ?_
 refine go (m_bin) ?_
 refine .nil ⟨by kernel_rfl, ?_⟩
 refine k4 _ ?_
 refine d_condF rfl ?_
 refine d_skip ?_
 refine k3 _ ?_
 refine d_seq fun K5 k5 => ?_
 refine d_seq fun K6 k6 => ?_
 refine d_region rfl ?_
 refine go (m_load ty_25) ?_
 refine go (m_move) ?_
 refine go (m_move) ?_
 refine go (m_move) ?_
 refine go (m_bin) ?_
 refine go (m_callT (vs := [.int .i64 (GoR s a (r + d)).1, .int .i64 0]) hgo) ?_
 refine go (m_move) ?_
 refine go (m_ext) ?_
 refine go (m_ext) ?_
 refine go (m_set) ?_
 refine go (m_set) ?_
 refine .nil ⟨by kernel_rfl, ?_⟩
 refine k6 _ ?_
 refine d_seq fun K7 k7 => ?_
 refine d_region rfl ?_
 refine go (m_move) ?_
 refine go (m_bin) ?_
 refine .nil ⟨by kernel_rfl, ?_⟩
 refine k7 _ ?_
 refine d_condF rfl ?_
 refine d_skip ?_
 refine k5 _ ?_
 refine d_seq fun K8 k8 => ?_
 refine d_region rfl ?_
 refine go (m_fa ty_25) ?_
 refine go (m_load ty_22) ?_
 refine go (m_move) ?_
 refine go (m_move) ?_
 refine go (m_ia ty_22 ty_50) ?_
 refine go (m_store ty_50) ?_
 refine .nil ⟨by kernel_rfl, ?_⟩
 refine k8 _ ?_
 refine d_seq fun K9 k9 => ?_
 refine d_seq fun K10 k10 => ?_
 refine d_region rfl ?_
 refine go (m_set) ?_
 refine .nil ⟨by kernel_rfl, ?_⟩
 refine k10 _ ?_
 refine d_block ?_
 refine d_loop (α := Nat) (fun j => ⟨[(1, DI a), (2, DI r), (3, DI d), (4, .ptr 2 0 0), (13, DI ((j : Int) + 1))], [(0, wO (clrL s a j (s.ws.set a.toNat (hdW r d)))), (1, fO s.fs), (2, ⟨3, false, false, [spO 0 1 s]⟩)], 3⟩) (fun j => j ≤ (r + d).toNat) (fun j => (r + d).toNat - j) 0 (by omega) (wk [(0, 0), (1, 1), (2, 2)] (h2 := by repeat' (first | exact CvS.nil | apply CvS.cons rfl rfl | exact .arr rfl | exact .arrE (set_map (by simp) rfl) | apply CvO.box | exact CvL.nil | apply CvL.cons | exact .lit | exact .own rfl))) (fun j hj => ?_)
 by_cases hlt : j < (r + d).toNat
 ·
  have hgj : (GoR s a ((j : Int) + 1)).2 = 0 := GoR_mono hs hn hg (by omega) (by omega)
  have hr := GoR_rng hs hn hgj
  have hcl : (clrL s a j (s.ws.set a.toNat (hdW r d))).length = s.ws.length := by simp
  refine d_seq fun K11 k11 => ?_
  refine d_seq fun K12 k12 => ?_
  refine d_region rfl ?_
  refine go (m_move) ?_
  refine go (m_move) ?_
  refine go (m_move) ?_
  refine go (m_bin) ?_
  refine go (m_bin) ?_
  refine .nil ⟨by kernel_rfl, ?_⟩
  refine k12 _ ?_
  refine d_condT rfl ?_
  refine d_skip ?_
  refine k11 _ ?_
  refine d_seq fun K13 k13 => ?_
  refine d_block ?_
  refine d_seq fun K14 k14 => ?_
  refine d_region rfl ?_
  refine go (m_load ty_25) ?_
  refine go (m_move) ?_
  refine go (m_move) ?_
  refine go (m_callT (vs := [.int .i64 (GoR s a ((j : Int) + 1)).1, .int .i64 (GoR s a ((j : Int) + 1)).2]) (setS_go (l := (clrL s a j (s.ws.set a.toNat (hdW r d)))) hs hn (by simp) ha (by unfold I64; omega))) ?_
  refine go (m_move) ?_
  refine go (m_ext) ?_
  refine go (m_ext) ?_
  refine go (m_set) ?_
  refine go (m_set) ?_
  refine .nil ⟨by kernel_rfl, ?_⟩
  refine k14 _ ?_
  refine d_region rfl ?_
  refine go (m_fa ty_25) ?_
  refine go (m_load ty_22) ?_
  refine go (m_move) ?_
  refine go (m_ia ty_22 ty_50) ?_
  refine go (m_store ty_50) ?_
  refine .nil ⟨by kernel_rfl, ?_⟩
  refine k13 _ ?_
  refine d_region rfl ?_
  refine go (m_move) ?_
  refine go (m_bin) ?_
  refine go (m_set) ?_
  refine .nil ⟨by kernel_rfl, ?_⟩
  exact ⟨j + 1, by omega, by omega, wk [(0, 0), (1, 1), (2, 2)] (h2 := by repeat' (first | exact CvS.nil | apply CvS.cons rfl rfl | exact .arr rfl | exact .arrE (set_map (by simp) rfl) | apply CvO.box | exact CvL.nil | apply CvL.cons | exact .lit | exact .own rfl))⟩
 ·
  refine d_seq fun K15 k15 => ?_
  refine d_seq fun K16 k16 => ?_
  refine d_region rfl ?_
  refine go (m_move) ?_
  refine go (m_move) ?_
  refine go (m_move) ?_
  refine go (m_bin) ?_
  refine go (m_bin) ?_
  refine .nil ⟨by kernel_rfl, ?_⟩
  refine k16 _ ?_
  refine d_condF rfl ?_
  refine d_exit ?_
  refine k9 _ ?_
  refine d_seq fun K17 k17 => ?_
  have hjn : j = (r + d).toNat := by omega
  subst hjn
  refine d_region rfl ?_
  refine go (m_set) ?_
  refine .nil ⟨by kernel_rfl, ?_⟩
  refine k17 _ ?_
  refine d_ret ?_
  change RetD _ _ _ _ _ _ _
  exact fin [(0, 0), (1, 1)] (.tmp (.nil))

end Go.Proofs.Ytbidedbpmhcoaaa
/- Objects are begun: the program and the reference. No condition. -/
namespace Go.Proofs.Ytbidedbpmhcoaaa
open Go.RowKit
set_option linter.unusedSimpArgs false
set_option linter.unusedVariables false
open Classical in
/-- why no object is begun -/
noncomputable def IniE (s : Sp) (a r d : Int) : Int := if SpOk s then MkE s a r d else 1
theorem IniE_t {s : Sp} {a r d : Int} (h : SpOk s) : IniE s a r d = MkE s a r d := if_pos h
theorem IniE_f {s : Sp} {a r d : Int} (h : ¬ SpOk s) : IniE s a r d = 1 := if_neg h
theorem IniE_0 {s : Sp} {a r d : Int} (h : IniE s a r d = 0) : SpOk s ∧ MkE s a r d = 0 := by
 by_cases hs : SpOk s
 ·rw [IniE_t hs] at h; exact ⟨hs, h⟩
 ·rw [IniE_f hs] at h; cases h
theorem sc_own {a b : Nat} {l : List Int} {m : List Fe} : ScS [(a, wO l), (b, fO m)] := ScS.cons sc_u (ScS.one sc_fr)

set_option maxRecDepth 20000 in
set_option maxHeartbeats 4000000 in
theorem rinit_bad (s : Sp) (a r d : Int) (hW : SpW s) (ha : I64 a) (hl : SpLen s) (e : Int) (h : IniE s a r d = e) (he : ¬ e = 0) : DCall Try.prog 19 [spD s, DI a, DI r, DI d] [] (.tup [.agg [DI 0, DN, DN], DI e]) [] := by
 refine DCall.mk Try.func19 rfl rfl ?_
 by_cases hs : SpOk s
 ·
  rw [IniE_t hs] at h
  refine d_seq fun K1 k1 => ?_
  refine d_region rfl ?_
  refine go (m_box ty_25) ?_
  refine go (m_alloc ty_25) ?_
  refine go (m_set) ?_
  refine .nil ⟨by kernel_rfl, ?_⟩
  refine k1 _ ?_
  refine d_seq fun K2 k2 => ?_
  refine d_seq fun K3 k3 => ?_
  refine d_region rfl ?_
  refine go (m_load ty_25) ?_
  refine go (m_call ((rvalid_d s hW).t hs)) ?_
  refine go (m_not) ?_
  refine .nil ⟨by kernel_rfl, ?_⟩
  refine k3 _ ?_
  refine d_condF rfl ?_
  refine d_skip ?_
  refine k2 _ ?_
  refine d_seq fun K4 k4 => ?_
  refine d_region rfl ?_
  refine go (m_load ty_25) ?_
  refine go (m_callS [] (rcopy_d s hl) sc_spO (ScS.cons sc_u (ScS.one sc_fr))) ?_
  refine go (m_alloc ty_25) ?_
  refine go (m_store ty_25) ?_
  refine .nil ⟨by kernel_rfl, ?_⟩
  refine k4 _ ?_
  refine d_seq fun K5 k5 => ?_
  refine d_seq fun K6 k6 => ?_
  refine d_region rfl ?_
  refine go (m_load ty_25) ?_
  refine go (m_move) ?_
  refine go (m_move) ?_
  refine go (m_move) ?_
  refine go (m_callS [(0, 2), (1, 3)] (make_bad s a r d hs.shp hs.nxIn ha e h he) .lit sc_own) ?_
  refine go (m_set) ?_
  refine .nil ⟨by kernel_rfl, ?_⟩
  refine k6 _ ?_
  refine d_seq fun K7 k7 => ?_
  refine d_region rfl ?_
  refine go (m_move) ?_
  refine go (m_bin) ?_
  refine .nil ⟨by kernel_rfl, ?_⟩
  refine k7 _ ?_
  refine d_condT rfl ?_
  refine d_seq fun K8 k8 => ?_
  refine d_region rfl ?_
  refine go (m_build ty_25) ?_
  refine go (m_move) ?_
  refine go (m_store ty_25) ?_
  refine go (m_set) ?_
  refine .nil ⟨by kernel_rfl, ?_⟩
  refine k8 _ ?_
  refine d_ret ?_
  change RetD _ _ _ _ _ _ _
  exact fin [] (.cell ty_25 rfl rfl rfl rfl (.tmp (.nil)))
 ·
  have h9 : (1 : Int) = e := by rw [IniE_f hs] at h; exact h
  subst h9
  refine d_seq fun K9 k9 => ?_
  refine d_region rfl ?_
  refine go (m_box ty_25) ?_
  refine go (m_alloc ty_25) ?_
  refine go (m_set) ?_
  refine .nil ⟨by kernel_rfl, ?_⟩
  refine k9 _ ?_
  refine d_seq fun K10 k10 => ?_
  refine d_seq fun K11 k11 => ?_
  refine d_region rfl ?_
  refine go (m_load ty_25) ?_
  refine go (m_call ((rvalid_d s hW).f hs)) ?_
  refine go (m_not) ?_
  refine .nil ⟨by kernel_rfl, ?_⟩
  refine k11 _ ?_
  refine d_condT rfl ?_
  refine d_seq fun K12 k12 => ?_
  refine d_region rfl ?_
  refine go (m_build ty_25) ?_
  refine go (m_store ty_25) ?_
  refine go (m_set) ?_
  refine .nil ⟨by kernel_rfl, ?_⟩
  refine k12 _ ?_
  refine d_ret ?_
  change RetD _ _ _ _ _ _ _
  exact fin [] (.cell ty_25 rfl rfl rfl rfl (.tmp (.nil)))

set_option maxRecDepth 20000 in
set_option maxHeartbeats 4000000 in
theorem rinit_ok (s : Sp) (a r d : Int) (hW : SpW s) (ha : I64 a) (hl : SpLen s) (h : IniE s a r d = 0) : DCall Try.prog 19 [spD s, DI a, DI r, DI d] [] (.tup [.agg (spO 0 1 s), DI 0]) [(0, wO (clrL s a (r + d).toNat (s.ws.set a.toNat (hdW r d)))), (1, fO s.fs)] := by
 refine DCall.mk Try.func19 rfl rfl ?_
 obtain ⟨hs, h2⟩ := IniE_0 h
 refine d_seq fun K1 k1 => ?_
 refine d_region rfl ?_
 refine go (m_box ty_25) ?_
 refine go (m_alloc ty_25) ?_
 refine go (m_set) ?_
 refine .nil ⟨by kernel_rfl, ?_⟩
 refine k1 _ ?_
 refine d_seq fun K2 k2 => ?_
 refine d_seq fun K3 k3 => ?_
 refine d_region rfl ?_
 refine go (m_load ty_25) ?_
 refine go (m_call ((rvalid_d s hW).t hs)) ?_
 refine go (m_not) ?_
 refine .nil ⟨by kernel_rfl, ?_⟩
 refine k3 _ ?_
 refine d_condF rfl ?_
 refine d_skip ?_
 refine k2 _ ?_
 refine d_seq fun K4 k4 => ?_
 refine d_region rfl ?_
 refine go (m_load ty_25) ?_
 refine go (m_callS [] (rcopy_d s hl) sc_spO (ScS.cons sc_u (ScS.one sc_fr))) ?_
 refine go (m_alloc ty_25) ?_
 refine go (m_store ty_25) ?_
 refine .nil ⟨by kernel_rfl, ?_⟩
 refine k4 _ ?_
 refine d_seq fun K5 k5 => ?_
 refine d_seq fun K6 k6 => ?_
 refine d_region rfl ?_
 refine go (m_load ty_25) ?_
 refine go (m_move) ?_
 refine go (m_move) ?_
 refine go (m_move) ?_
 refine go (m_callS [(0, 2), (1, 3)] (make_ok s a r d hs.shp hs.nxIn ha h2) .lit sc_own) ?_
 refine go (m_set) ?_
 refine .nil ⟨by kernel_rfl, ?_⟩
 refine k6 _ ?_
 refine d_seq fun K7 k7 => ?_
 refine d_region rfl ?_
 refine go (m_move) ?_
 refine go (m_bin) ?_
 refine .nil ⟨by kernel_rfl, ?_⟩
 refine k7 _ ?_
 refine d_condF rfl ?_
 refine d_skip ?_
 refine k5 _ ?_
 refine d_seq fun K8 k8 => ?_
 refine d_region rfl ?_
 refine go (m_load ty_25) ?_
 refine go (m_store ty_25) ?_
 refine go (m_set) ?_
 refine .nil ⟨by kernel_rfl, ?_⟩
 refine k8 _ ?_
 refine d_ret ?_
 change RetD _ _ _ _ _ _ _
 exact fin [(0, 2), (1, 3)] (.cell ty_25 rfl rfl rfl rfl (.tmp (.nil)))

set_option maxRecDepth 20000 in
set_option maxHeartbeats 4000000 in
theorem oinit_bad (s : Sp) (a r d : Int) (hW : SpW s) (ha : I64 a) (hl : SpLen s) (e : Int) (h : IniE s a r d = e) (he : ¬ e = 0) : DCall Try.prog 18 [spD s, DI a, DI r, DI d] [] (.tup [.agg [DI 0, DN, DN], DI e]) [] := by
 refine DCall.mk Try.func18 rfl rfl ?_
 by_cases hs : SpOk s
 ·
  rw [IniE_t hs] at h
  by_cases hh : HdOk r d
  ·
   have hlv : DCall Try.prog 51 [DI r, DI d] [] (tupU (hdW r d, 0)) [] := by have h1 := live_d r d; rw [show LiveR r d = (hdW r d, 0) from if_pos hh] at h1; exact h1
   have hh2 := hh
   unfold HdOk at hh2
   have hg : (GoR s a (r + d)).2 = e := by unfold MkE at h; rw [if_pos hh] at h; exact h
   have hst : DCall Try.prog 52 [spD s, DI a, DI (r + d)] [] (tup2 ((GoR s a (r + d)).1, e)) [] := by have h1 := step_d s a (r + d) hW ha (by unfold I64; omega); rw [StepR_t hs, show GoR s a (r + d) = ((GoR s a (r + d)).1, e) from Prod.ext rfl hg] at h1; exact h1
   refine d_seq fun K1 k1 => ?_
   refine d_region rfl ?_
   refine go (m_box ty_25) ?_
   refine go (m_alloc ty_25) ?_
   refine go (m_set) ?_
   refine .nil ⟨by kernel_rfl, ?_⟩
   refine k1 _ ?_
   refine d_seq fun K2 k2 => ?_
   refine d_seq fun K3 k3 => ?_
   refine d_region rfl ?_
   refine go (m_load ty_25) ?_
   refine go (m_call ((valid_d s hW).t hs)) ?_
   refine go (m_not) ?_
   refine .nil ⟨by kernel_rfl, ?_⟩
   refine k3 _ ?_
   refine d_condF rfl ?_
   refine d_skip ?_
   refine k2 _ ?_
   refine d_seq fun K4 k4 => ?_
   refine d_region rfl ?_
   refine go (m_move) ?_
   refine go (m_move) ?_
   refine go (m_callT (vs := [.int .u64 (hdW r d), .int .i64 0]) hlv) ?_
   refine go (m_move) ?_
   refine go (m_ext) ?_
   refine go (m_ext) ?_
   refine go (m_set) ?_
   refine go (m_set) ?_
   refine .nil ⟨by kernel_rfl, ?_⟩
   refine k4 _ ?_
   refine d_seq fun K5 k5 => ?_
   refine d_seq fun K6 k6 => ?_
   refine d_region rfl ?_
   refine go (m_move) ?_
   refine go (m_bin) ?_
   refine .nil ⟨by kernel_rfl, ?_⟩
   refine k6 _ ?_
   refine d_condF rfl ?_
   refine d_skip ?_
   refine k5 _ ?_
   refine d_seq fun K7 k7 => ?_
   refine d_seq fun K8 k8 => ?_
   refine d_region rfl ?_
   refine go (m_load ty_25) ?_
   refine go (m_move) ?_
   refine go (m_move) ?_
   refine go (m_move) ?_
   refine go (m_bin) ?_
   refine go (m_callT (vs := [.int .i64 (GoR s a (r + d)).1, .int .i64 e]) hst) ?_
   refine go (m_move) ?_
   refine go (m_ext) ?_
   refine go (m_ext) ?_
   refine go (m_set) ?_
   refine go (m_set) ?_
   refine .nil ⟨by kernel_rfl, ?_⟩
   refine k8 _ ?_
   refine d_seq fun K9 k9 => ?_
   refine d_region rfl ?_
   refine go (m_move) ?_
   refine go (m_bin) ?_
   refine .nil ⟨by kernel_rfl, ?_⟩
   refine k9 _ ?_
   refine d_condT rfl ?_
   refine d_seq fun K10 k10 => ?_
   refine d_region rfl ?_
   refine go (m_build ty_25) ?_
   refine go (m_move) ?_
   refine go (m_store ty_25) ?_
   refine go (m_set) ?_
   refine .nil ⟨by kernel_rfl, ?_⟩
   refine k10 _ ?_
   refine d_ret ?_
   change RetD _ _ _ _ _ _ _
   exact fin [] (.cell ty_25 rfl rfl rfl rfl (.tmp (.nil)))
  ·
   have hlv : DCall Try.prog 51 [DI r, DI d] [] (tupU (0, 13)) [] := by have h1 := live_d r d; rw [show LiveR r d = (0, 13) from if_neg hh] at h1; exact h1
   have h9 : (13 : Int) = e := by unfold MkE at h; rw [if_neg hh] at h; exact h
   subst h9
   refine d_seq fun K11 k11 => ?_
   refine d_region rfl ?_
   refine go (m_box ty_25) ?_
   refine go (m_alloc ty_25) ?_
   refine go (m_set) ?_
   refine .nil ⟨by kernel_rfl, ?_⟩
   refine k11 _ ?_
   refine d_seq fun K12 k12 => ?_
   refine d_seq fun K13 k13 => ?_
   refine d_region rfl ?_
   refine go (m_load ty_25) ?_
   refine go (m_call ((valid_d s hW).t hs)) ?_
   refine go (m_not) ?_
   refine .nil ⟨by kernel_rfl, ?_⟩
   refine k13 _ ?_
   refine d_condF rfl ?_
   refine d_skip ?_
   refine k12 _ ?_
   refine d_seq fun K14 k14 => ?_
   refine d_region rfl ?_
   refine go (m_move) ?_
   refine go (m_move) ?_
   refine go (m_callT (vs := [.int .u64 0, .int .i64 13]) hlv) ?_
   refine go (m_move) ?_
   refine go (m_ext) ?_
   refine go (m_ext) ?_
   refine go (m_set) ?_
   refine go (m_set) ?_
   refine .nil ⟨by kernel_rfl, ?_⟩
   refine k14 _ ?_
   refine d_seq fun K15 k15 => ?_
   refine d_seq fun K16 k16 => ?_
   refine d_region rfl ?_
   refine go (m_move) ?_
   refine go (m_bin) ?_
   refine .nil ⟨by kernel_rfl, ?_⟩
   refine k16 _ ?_
   refine d_condT rfl ?_
   refine d_seq fun K17 k17 => ?_
   refine d_region rfl ?_
   refine go (m_build ty_25) ?_
   refine go (m_move) ?_
   refine go (m_store ty_25) ?_
   refine go (m_set) ?_
   refine .nil ⟨by kernel_rfl, ?_⟩
   refine k17 _ ?_
   refine d_ret ?_
   change RetD _ _ _ _ _ _ _
   exact fin [] (.cell ty_25 rfl rfl rfl rfl (.tmp (.nil)))
 ·
  have h9 : (1 : Int) = e := by rw [IniE_f hs] at h; exact h
  subst h9
  refine d_seq fun K18 k18 => ?_
  refine d_region rfl ?_
  refine go (m_box ty_25) ?_
  refine go (m_alloc ty_25) ?_
  refine go (m_set) ?_
  refine .nil ⟨by kernel_rfl, ?_⟩
  refine k18 _ ?_
  refine d_seq fun K19 k19 => ?_
  refine d_seq fun K20 k20 => ?_
  refine d_region rfl ?_
  refine go (m_load ty_25) ?_
  refine go (m_call ((valid_d s hW).f hs)) ?_
  refine go (m_not) ?_
  refine .nil ⟨by kernel_rfl, ?_⟩
  refine k20 _ ?_
  refine d_condT rfl ?_
  refine d_seq fun K21 k21 => ?_
  refine d_region rfl ?_
  refine go (m_build ty_25) ?_
  refine go (m_store ty_25) ?_
  refine go (m_set) ?_
  refine .nil ⟨by kernel_rfl, ?_⟩
  refine k21 _ ?_
  refine d_ret ?_
  change RetD _ _ _ _ _ _ _
  exact fin [] (.cell ty_25 rfl rfl rfl rfl (.tmp (.nil)))

set_option maxRecDepth 20000 in
set_option maxHeartbeats 4000000 in
theorem oinit_ok (s : Sp) (a r d : Int) (hW : SpW s) (ha : I64 a) (hl : SpLen s) (h : IniE s a r d = 0) : DCall Try.prog 18 [spD s, DI a, DI r, DI d] [] (.tup [.agg (spO 0 1 s), DI 0]) [(0, wO (clrL s a (r + d).toNat (s.ws.set a.toNat (hdW r d)))), (1, fO s.fs)] := by
 refine DCall.mk Try.func18 rfl rfl ?_
 obtain ⟨hs, h2⟩ := IniE_0 h
 obtain ⟨hh, hg⟩ := MkE_0 h2
 have hh2 := hh
 unfold HdOk at hh2
 have hlv : DCall Try.prog 51 [DI r, DI d] [] (tupU (hdW r d, 0)) [] := by have h1 := live_d r d; rw [show LiveR r d = (hdW r d, 0) from if_pos hh] at h1; exact h1
 have hst : DCall Try.prog 52 [spD s, DI a, DI (r + d)] [] (tup2 ((GoR s a (r + d)).1, 0)) [] := by have h1 := step_d s a (r + d) hW ha (by unfold I64; omega); rw [StepR_t hs, show GoR s a (r + d) = ((GoR s a (r + d)).1, 0) from Prod.ext rfl hg] at h1; exact h1
 obtain ⟨a1, a2, _⟩ := GoR_e hg
 have hq0 : (GoR s a 0).2 = 0 := GoR_mono hs.shp hs.nxIn hg (by omega) (by omega)
 have hcomm : (clrL s a (r + d).toNat s.ws).set a.toNat (hdW r d) = clrL s a (r + d).toNat (s.ws.set a.toNat (hdW r d)) := clrL_comm _ _ fun k h1 h3 e => by
  have hk : (GoR s a (k : Int)).2 = 0 := GoR_mono hs.shp hs.nxIn hg (by omega) (by omega)
  have hr := GoR_rng hs.shp hs.nxIn hk
  refine GoR_inj hs hq0 hk (by omega) ?_
  rw [GoR_0 hs.shp hq0]
  show a = _
  omega
 refine d_seq fun K1 k1 => ?_
 refine d_region rfl ?_
 refine go (m_box ty_25) ?_
 refine go (m_alloc ty_25) ?_
 refine go (m_set) ?_
 refine .nil ⟨by kernel_rfl, ?_⟩
 refine k1 _ ?_
 refine d_seq fun K2 k2 => ?_
 refine d_seq fun K3 k3 => ?_
 refine d_region rfl ?_
 refine go (m_load ty_25) ?_
 refine go (m_call ((valid_d s hW).t hs)) ?_
 refine go (m_not) ?_
 refine .nil ⟨by kernel_rfl, ?_⟩
 refine k3 _ ?_
 refine d_condF rfl ?_
 refine d_skip ?_
 refine k2 _ ?_
 refine d_seq fun K4 k4 => ?_
 refine d_region rfl ?_
 refine go (m_move) ?_
 refine go (m_move) ?_
 refine go (m_callT (vs := [.int .u64 (hdW r d), .int .i64 0]) hlv) ?_
 refine go (m_move) ?_
 refine go (m_ext) ?_
 refine go (m_ext) ?_
 refine go (m_set) ?_
 refine go (m_set) ?_
 refine .nil ⟨by kernel_rfl, ?_⟩
 refine k4 _ ?_
 refine d_seq fun K5 k5 => ?_
 refine d_seq fun K6 k6 => ?_
 refine d_region rfl ?_
 refine go (m_move) ?_
 refine go (m_bin) ?_
 refine .nil ⟨by kernel_rfl, ?_⟩
 refine k6 _ ?_
 refine d_condF rfl ?_
 refine d_skip ?_
 refine k5 _ ?_
 refine d_seq fun K7 k7 => ?_
 refine d_seq fun K8 k8 => ?_
 refine d_region rfl ?_
 refine go (m_load ty_25) ?_
 refine go (m_move) ?_
 refine go (m_move) ?_
 refine go (m_move) ?_
 refine go (m_bin) ?_
 refine go (m_callT (vs := [.int .i64 (GoR s a (r + d)).1, .int .i64 0]) hst) ?_
 refine go (m_move) ?_
 refine go (m_ext) ?_
 refine go (m_ext) ?_
 refine go (m_set) ?_
 refine go (m_set) ?_
 refine .nil ⟨by kernel_rfl, ?_⟩
 refine k8 _ ?_
 refine d_seq fun K9 k9 => ?_
 refine d_region rfl ?_
 refine go (m_move) ?_
 refine go (m_bin) ?_
 refine .nil ⟨by kernel_rfl, ?_⟩
 refine k9 _ ?_
 refine d_condF rfl ?_
 refine d_skip ?_
 refine k7 _ ?_
 refine d_seq fun K10 k10 => ?_
 refine d_region rfl ?_
 refine go (m_load ty_25) ?_
 refine go (m_callS [] (cspace_d s hl) sc_spO (ScS.cons sc_u (ScS.one sc_fr))) ?_
 refine go (m_alloc ty_25) ?_
 refine go (m_store ty_25) ?_
 refine .nil ⟨by kernel_rfl, ?_⟩
 refine k10 _ ?_
 refine d_seq fun K11 k11 => ?_
 refine d_region rfl ?_
 refine go (m_load ty_25) ?_
 refine go (m_move) ?_
 refine go (m_move) ?_
 refine go (m_move) ?_
 refine go (m_build ty_88) ?_
 refine go (m_alloc ty_88) ?_
 refine go (m_store ty_88) ?_
 refine .nil ⟨by kernel_rfl, ?_⟩
 refine k11 _ ?_
 refine d_seq fun K12 k12 => ?_
 refine d_seq fun K13 k13 => ?_
 refine d_region rfl ?_
 refine go (m_set) ?_
 refine .nil ⟨by kernel_rfl, ?_⟩
 refine k13 _ ?_
 refine d_block ?_
 refine d_loop (α := Nat) (fun j => ⟨[(1, DI a), (2, DI r), (3, DI d), (8, .ptr 0 0 0), (10, DU (hdW r d)), (14, .ptr 3 0 0), (15, .ptr 4 0 0), (16, DI ((j : Int) + 1))], [(0, ⟨3, false, false, [[DI 0, DN, DN]]⟩), (1, wO (clrL s a j s.ws)), (2, fO s.fs), (3, ⟨3, false, false, [spO 1 2 s]⟩), (4, ⟨6, false, false, [decC s a r d]⟩)], 5⟩) (fun j => j ≤ (r + d).toNat) (fun j => (r + d).toNat - j) 0 (by omega) (wk [(0, 1), (1, 2), (2, 3), (3, 4), (4, 5)] (h2 := by repeat' (first | exact CvS.nil | apply CvS.cons rfl rfl | exact .arr rfl | exact .arrE (set_map (by simp) rfl) | apply CvO.box | exact CvL.nil | apply CvL.cons | exact .lit | exact .sl | exact .nil | exact .own rfl))) (fun j hj => ?_)
 have hcl : (clrL s a j s.ws).length = s.ws.length := by simp
 by_cases hlt : j < (r + d).toNat
 ·
  have hgj : (GoR s a ((j : Int) + 1)).2 = 0 := GoR_mono hs.shp hs.nxIn hg (by omega) (by omega)
  have hr := GoR_rng hs.shp hs.nxIn hgj
  have hwd : DCall Try.prog 54 [.agg (decC s a r d), DI ((j : Int) + 1)] [] (DI (GoR s a ((j : Int) + 1)).1) [] := by have h1 := word_d s a r d ((j : Int) + 1) hW ha (by unfold I64; omega); rw [StepR_t hs] at h1; exact h1
  refine d_seq fun K14 k14 => ?_
  refine d_seq fun K15 k15 => ?_
  refine d_region rfl ?_
  refine go (m_move) ?_
  refine go (m_move) ?_
  refine go (m_move) ?_
  refine go (m_bin) ?_
  refine go (m_bin) ?_
  refine .nil ⟨by kernel_rfl, ?_⟩
  refine k15 _ ?_
  refine d_condT rfl ?_
  refine d_skip ?_
  refine k14 _ ?_
  refine d_seq fun K16 k16 => ?_
  refine d_block ?_
  refine d_any mixedP rfl (by kernel_rfl) ?_
  refine go (m_fa ty_25) ?_
  refine go (m_load ty_22) ?_
  refine go (m_load ty_88) ?_
  refine go (m_move) ?_
  refine go (m_call hwd) ?_
  refine go (m_ia ty_22 ty_50) ?_
  refine go (m_store ty_50) ?_
  refine .nil ⟨⟨by kernel_rfl, by kernel_rfl⟩, ?_⟩
  refine k16 _ ?_
  refine d_region rfl ?_
  refine go (m_move) ?_
  refine go (m_bin) ?_
  refine go (m_set) ?_
  refine .nil ⟨by kernel_rfl, ?_⟩
  exact ⟨j + 1, by omega, by omega, wk [(0, 0), (1, 1), (2, 2), (3, 3), (4, 4)] (h2 := by repeat' (first | exact CvS.nil | apply CvS.cons rfl rfl | exact .arr rfl | exact .arrE (set_map (by simp) rfl) | apply CvO.box | exact CvL.nil | apply CvL.cons | exact .lit | exact .sl | exact .nil | exact .own rfl))⟩
 ·
  refine d_seq fun K17 k17 => ?_
  refine d_seq fun K18 k18 => ?_
  refine d_region rfl ?_
  refine go (m_move) ?_
  refine go (m_move) ?_
  refine go (m_move) ?_
  refine go (m_bin) ?_
  refine go (m_bin) ?_
  refine .nil ⟨by kernel_rfl, ?_⟩
  refine k18 _ ?_
  refine d_condF rfl ?_
  refine d_exit ?_
  refine k12 _ ?_
  refine d_seq fun K19 k19 => ?_
  have hjn : j = (r + d).toNat := by omega
  subst hjn
  refine d_region rfl ?_
  refine go (m_fa ty_25) ?_
  refine go (m_load ty_22) ?_
  refine go (m_move) ?_
  refine go (m_move) ?_
  refine go (m_ia ty_22 ty_50) ?_
  refine go (m_store ty_50) ?_
  refine .nil ⟨by kernel_rfl, ?_⟩
  refine k19 _ ?_
  refine d_seq fun K20 k20 => ?_
  refine d_region rfl ?_
  refine go (m_load ty_25) ?_
  refine go (m_store ty_25) ?_
  refine go (m_set) ?_
  refine .nil ⟨by kernel_rfl, ?_⟩
  refine k20 _ ?_
  refine d_ret ?_
  change RetD _ _ _ _ _ _ _
  exact fin [(0, 1), (1, 2)] (.cell ty_25 rfl rfl rfl rfl (.tmp (.nil))) (h2 := by apply CvS.cons rfl rfl; exact .arrE ((set_map (by simp) rfl).trans (congrArg (List.map uC) hcomm)); apply CvS.cons rfl rfl; exact .arr rfl; exact .nil)

end Go.Proofs.Ytbidedbpmhcoaaa
/- Frames: some small functions of the reference. No condition. -/
namespace Go.Proofs.Ytbidedbpmhcoaaa
open Go.RowKit
set_option linter.unusedSimpArgs false
set_option linter.unusedVariables false
theorem rem_neg {v n : Int} (hv : v < 0) (hn : 1 ≤ n) : intBin .rem .i64 v n = some (.int .i64 (-((-v) % n))) := by
 have e : Int.tmod v n = -((-v) % n) := by
  rw [← Int.tmod_eq_emod_of_nonneg (by omega : 0 ≤ -v), Int.neg_tmod, Int.neg_neg]
 simp only [intBin]
 rw [if_neg (by omega), e]
theorem mod_neg {v n : Int} (hn : 1 ≤ n) (h : -((-v) % n) < 0) : -((-v) % n) + n = v % n := by
 have h1 := Int.mul_ediv_add_emod (-v) n
 have h2 := Int.emod_nonneg (-v) (by omega : n ≠ 0)
 have h3 := Int.emod_lt_of_pos (-v) (by omega : 0 < n)
 generalize (-v) % n = m at *
 generalize (-v) / n = p at *
 have h4 : v = (n - m) + n * (-p - 1) := by rw [Int.mul_sub, Int.mul_neg, Int.mul_one]; omega
 rw [h4, Int.add_mul_emod_self_left, Int.emod_eq_of_lt (by omega) (by omega)]
 omega
theorem mod_zero {v n : Int} (hn : 1 ≤ n) (h : ¬ -((-v) % n) < 0) : -((-v) % n) = v % n := by
 have h2 := Int.emod_nonneg (-v) (by omega : n ≠ 0)
 have h3 : (-v) % n = 0 := by omega
 have h4 : v % n = 0 := Int.emod_eq_zero_of_dvd (Int.dvd_neg.1 (Int.dvd_of_emod_eq_zero h3))
 omega

set_option maxRecDepth 20000 in
set_option maxHeartbeats 4000000 in
theorem mod_d (v n : Int) (hv : I64 v) (hn : 1 ≤ n ∧ n ≤ 9223372036854775807) : DCall Try.prog 17 [DI v, DI n] [] (DI (v % n)) [] := by
 refine DCall.mk Try.func17 rfl rfl ?_
 unfold I64 at hv
 have hm0 := Int.emod_nonneg v (by omega : n ≠ 0)
 have hm1 := Int.emod_lt_of_pos v (by omega : 0 < n)
 have hm2 := Int.emod_nonneg (-v) (by omega : n ≠ 0)
 have hm3 := Int.emod_lt_of_pos (-v) (by omega : 0 < n)
 by_cases h0 : 0 ≤ v
 ·
  refine d_seq fun K1 k1 => ?_
  refine d_region rfl ?_
  refine go (m_set) ?_
  refine .nil ⟨by kernel_rfl, ?_⟩
  refine k1 _ ?_
  refine d_seq fun K2 k2 => ?_
  refine d_region rfl ?_
  refine go (m_move) ?_
  refine go (m_move) ?_
  refine go (m_bin) ?_
  refine go (m_set) ?_
  refine .nil ⟨by kernel_rfl, ?_⟩
  refine k2 _ ?_
  refine d_seq fun K3 k3 => ?_
  refine d_seq fun K4 k4 => ?_
  refine d_region rfl ?_
  refine go (m_move) ?_
  refine go (m_bin) ?_
  refine .nil ⟨by kernel_rfl, ?_⟩
  refine k4 _ ?_
  refine d_condF rfl ?_
  refine d_skip ?_
  refine k3 _ ?_
  refine d_seq fun K5 k5 => ?_
  refine d_region rfl ?_
  refine go (m_move) ?_
  refine go (m_set) ?_
  refine .nil ⟨by kernel_rfl, ?_⟩
  refine k5 _ ?_
  refine d_ret ?_
  change RetD _ _ _ _ _ _ _
  exact fin [] (.tmp (.nil))
 ·
  by_cases h1 : -((-v) % n) < 0
  ·
   refine d_seq fun K6 k6 => ?_
   refine d_region rfl ?_
   refine go (m_set) ?_
   refine .nil ⟨by kernel_rfl, ?_⟩
   refine k6 _ ?_
   refine d_seq fun K7 k7 => ?_
   refine d_region rfl ?_
   refine go (m_move) ?_
   refine go (m_move) ?_
   refine go (m_bin (hr := .raw (rem_neg (by omega) hn.1))) ?_
   refine go (m_set) ?_
   refine .nil ⟨by kernel_rfl, ?_⟩
   refine k7 _ ?_
   refine d_seq fun K8 k8 => ?_
   refine d_seq fun K9 k9 => ?_
   refine d_region rfl ?_
   refine go (m_move) ?_
   refine go (m_bin) ?_
   refine .nil ⟨by kernel_rfl, ?_⟩
   refine k9 _ ?_
   refine d_condT rfl ?_
   refine d_region rfl ?_
   refine go (m_move) ?_
   refine go (m_move) ?_
   refine go (m_bin) ?_
   refine go (m_set) ?_
   refine .nil ⟨by kernel_rfl, ?_⟩
   refine k8 _ ?_
   refine d_seq fun K10 k10 => ?_
   refine d_region rfl ?_
   refine go (m_move) ?_
   refine go (m_set) ?_
   refine .nil ⟨by kernel_rfl, ?_⟩
   refine k10 _ ?_
   refine d_ret ?_
   change RetD _ _ _ _ _ _ _
   exact fin [] (.tmp (.nil)) (h1 := .litE (congrArg (Value.int _) (mod_neg hn.1 h1)))
  ·
   refine d_seq fun K11 k11 => ?_
   refine d_region rfl ?_
   refine go (m_set) ?_
   refine .nil ⟨by kernel_rfl, ?_⟩
   refine k11 _ ?_
   refine d_seq fun K12 k12 => ?_
   refine d_region rfl ?_
   refine go (m_move) ?_
   refine go (m_move) ?_
   refine go (m_bin (hr := .raw (rem_neg (by omega) hn.1))) ?_
   refine go (m_set) ?_
   refine .nil ⟨by kernel_rfl, ?_⟩
   refine k12 _ ?_
   refine d_seq fun K13 k13 => ?_
   refine d_seq fun K14 k14 => ?_
   refine d_region rfl ?_
   refine go (m_move) ?_
   refine go (m_bin) ?_
   refine .nil ⟨by kernel_rfl, ?_⟩
   refine k14 _ ?_
   refine d_condF rfl ?_
   refine d_skip ?_
   refine k13 _ ?_
   refine d_seq fun K15 k15 => ?_
   refine d_region rfl ?_
   refine go (m_move) ?_
   refine go (m_set) ?_
   refine .nil ⟨by kernel_rfl, ?_⟩
   refine k15 _ ?_
   refine d_ret ?_
   change RetD _ _ _ _ _ _ _
   exact fin [] (.tmp (.nil)) (h1 := .litE (congrArg (Value.int _) (mod_zero hn.1 h1)))

set_option maxRecDepth 20000 in
set_option maxHeartbeats 4000000 in
theorem small_d (s : Sp) : DCall Try.prog 11 [spD s] [] (DB (bP (s.ws.length ≤ 3000 ∧ s.fs.length ≤ 80))) [] := by
 refine DCall.mk Try.func11 rfl rfl ?_
 refine d_seq fun K1 k1 => ?_
 refine d_region rfl ?_
 refine go (m_box ty_25) ?_
 refine go (m_set) ?_
 refine .nil ⟨by kernel_rfl, ?_⟩
 refine k1 _ ?_
 refine d_seq fun K2 k2 => ?_
 by_cases h1 : s.ws.length ≤ 3000
 ·
  by_cases h2 : s.fs.length ≤ 80
  ·
   refine d_region rfl ?_
   refine go (m_fa ty_25) ?_
   refine go (m_load ty_22) ?_
   refine go (m_len ty_22) ?_
   refine go (m_bin) ?_
   refine go (m_move) ?_
   first | refine no ?_ | refine go (m_fa ty_25) ?_
   first | refine no ?_ | refine go (m_load ty_23) ?_
   first | refine no ?_ | refine go (m_len ty_23) ?_
   first | refine no ?_ | refine go (m_bin) ?_
   refine go (m_pick) ?_
   refine go (m_set) ?_
   refine .nil ⟨by kernel_rfl, ?_⟩
   refine k2 _ ?_
   refine d_ret ?_
   change RetD _ _ _ _ _ _ _
   exact fin [] (.tmp (.nil)) (h1 := .t ⟨h1, h2⟩)
  ·
   refine d_region rfl ?_
   refine go (m_fa ty_25) ?_
   refine go (m_load ty_22) ?_
   refine go (m_len ty_22) ?_
   refine go (m_bin) ?_
   refine go (m_move) ?_
   first | refine no ?_ | refine go (m_fa ty_25) ?_
   first | refine no ?_ | refine go (m_load ty_23) ?_
   first | refine no ?_ | refine go (m_len ty_23) ?_
   first | refine no ?_ | refine go (m_bin) ?_
   refine go (m_pick) ?_
   refine go (m_set) ?_
   refine .nil ⟨by kernel_rfl, ?_⟩
   refine k2 _ ?_
   refine d_ret ?_
   change RetD _ _ _ _ _ _ _
   exact fin [] (.tmp (.nil)) (h1 := .f fun h => h2 h.2)
 ·
  refine d_region rfl ?_
  refine go (m_fa ty_25) ?_
  refine go (m_load ty_22) ?_
  refine go (m_len ty_22) ?_
  refine go (m_bin) ?_
  refine go (m_move) ?_
  first | refine no ?_ | refine go (m_fa ty_25) ?_
  first | refine no ?_ | refine go (m_load ty_23) ?_
  first | refine no ?_ | refine go (m_len ty_23) ?_
  first | refine no ?_ | refine go (m_bin) ?_
  refine go (m_pick) ?_
  refine go (m_set) ?_
  refine .nil ⟨by kernel_rfl, ?_⟩
  refine k2 _ ?_
  refine d_ret ?_
  change RetD _ _ _ _ _ _ _
  exact fin [] (.tmp (.nil)) (h1 := .f fun h => h1 h.1)

/-- frames for words -/
def clN (s : Sp) (n : Int) : Int := if n < 0 ∨ 1099511627776 < n then 0 else (n + szS s - 1) / szS s

set_option maxRecDepth 20000 in
set_option maxHeartbeats 4000000 in
theorem ceil_d (s : Sp) (n : Int) (hs : ShOk s.sh) : DCall Try.prog 115 [DI n, DI s.sh] [] (DI (clN s n)) [] := by
 refine DCall.mk Try.func115 rfl rfl ?_
 obtain ⟨g1, g2, g3, g4, g5⟩ := sz_get hs
 by_cases h0 : 0 ≤ n
 ·
  by_cases h1 : n ≤ 1099511627776
  ·
   refine d_seq fun K1 k1 => ?_
   refine d_region rfl ?_
   refine go (m_set) ?_
   refine .nil ⟨by kernel_rfl, ?_⟩
   refine k1 _ ?_
   refine d_seq fun K2 k2 => ?_
   refine d_seq fun K3 k3 => ?_
   refine d_region rfl ?_
   refine go (m_move) ?_
   refine go (m_bin) ?_
   refine go (m_move) ?_
   first | refine no ?_ | refine go (m_move) ?_
   first | refine no ?_ | refine go (m_bin) ?_
   refine go (m_pick) ?_
   refine go (m_move) ?_
   first | refine no ?_ | refine go (m_move) ?_
   first | refine no ?_ | refine go (m_bin) ?_
   refine go (m_pick) ?_
   refine go (m_move) ?_
   first | refine no ?_ | refine go (m_move) ?_
   first | refine no ?_ | refine go (m_bin) ?_
   refine go (m_pick) ?_
   refine .nil ⟨by kernel_rfl, ?_⟩
   refine k3 _ ?_
   refine d_condF rfl ?_
   refine d_skip ?_
   refine k2 _ ?_
   refine d_seq fun K4 k4 => ?_
   refine d_region rfl ?_
   refine go (m_move) ?_
   refine go (m_move) ?_
   refine go (m_conv ty_3 ty_66) ?_
   refine go (m_shA (hr := sh_1 hs)) ?_
   refine go (m_bin) ?_
   refine go (m_bin) ?_
   refine go (m_move) ?_
   refine go (m_conv ty_3 ty_66) ?_
   refine go (m_shA (hr := ShI.to (.shrZ ⟨g1, by show _ ≤ 64; omega⟩) (by rw [g5]))) ?_
   refine go (m_set) ?_
   refine .nil ⟨by kernel_rfl, ?_⟩
   refine k4 _ ?_
   refine d_ret ?_
   change RetD _ _ _ _ _ _ _
   exact fin [] (.tmp (.nil)) (h1 := .litE (congrArg (Value.int _) (if_neg (by omega)).symm))
  ·
   refine d_seq fun K5 k5 => ?_
   refine d_region rfl ?_
   refine go (m_set) ?_
   refine .nil ⟨by kernel_rfl, ?_⟩
   refine k5 _ ?_
   refine d_seq fun K6 k6 => ?_
   refine d_seq fun K7 k7 => ?_
   refine d_region rfl ?_
   refine go (m_move) ?_
   refine go (m_bin) ?_
   refine go (m_move) ?_
   first | refine no ?_ | refine go (m_move) ?_
   first | refine no ?_ | refine go (m_bin) ?_
   refine go (m_pick) ?_
   refine go (m_move) ?_
   first | refine no ?_ | refine go (m_move) ?_
   first | refine no ?_ | refine go (m_bin) ?_
   refine go (m_pick) ?_
   refine go (m_move) ?_
   first | refine no ?_ | refine go (m_move) ?_
   first | refine no ?_ | refine go (m_bin) ?_
   refine go (m_pick) ?_
   refine .nil ⟨by kernel_rfl, ?_⟩
   refine k7 _ ?_
   refine d_condT rfl ?_
   refine d_seq fun K8 k8 => ?_
   refine d_region rfl ?_
   refine go (m_set) ?_
   refine .nil ⟨by kernel_rfl, ?_⟩
   refine k8 _ ?_
   refine d_ret ?_
   change RetD _ _ _ _ _ _ _
   exact fin [] (.tmp (.nil)) (h1 := .litE (congrArg (Value.int _) (if_pos (by omega)).symm))
 ·
  refine d_seq fun K9 k9 => ?_
  refine d_region rfl ?_
  refine go (m_set) ?_
  refine .nil ⟨by kernel_rfl, ?_⟩
  refine k9 _ ?_
  refine d_seq fun K10 k10 => ?_
  refine d_seq fun K11 k11 => ?_
  refine d_region rfl ?_
  refine go (m_move) ?_
  refine go (m_bin) ?_
  refine go (m_move) ?_
  first | refine no ?_ | refine go (m_move) ?_
  first | refine no ?_ | refine go (m_bin) ?_
  refine go (m_pick) ?_
  refine go (m_move) ?_
  first | refine no ?_ | refine go (m_move) ?_
  first | refine no ?_ | refine go (m_bin) ?_
  refine go (m_pick) ?_
  refine go (m_move) ?_
  first | refine no ?_ | refine go (m_move) ?_
  first | refine no ?_ | refine go (m_bin) ?_
  refine go (m_pick) ?_
  refine .nil ⟨by kernel_rfl, ?_⟩
  refine k11 _ ?_
  refine d_condT rfl ?_
  refine d_seq fun K12 k12 => ?_
  refine d_region rfl ?_
  refine go (m_set) ?_
  refine .nil ⟨by kernel_rfl, ?_⟩
  refine k12 _ ?_
  refine d_ret ?_
  change RetD _ _ _ _ _ _ _
  exact fin [] (.tmp (.nil)) (h1 := .litE (congrArg (Value.int _) (if_pos (by omega)).symm))

set_option maxRecDepth 20000 in
set_option maxHeartbeats 4000000 in
theorem owns_d (s : Sp) (q : Int) : DCall Try.prog 68 [spD s, DI q] [] (DB (bP (∃ f ∈ s.fs, f.ow = q))) [] := by
 refine DCall.mk Try.func68 rfl rfl ?_
 refine d_lenA 0 2 fun hL => ?_
 refine d_seq fun K1 k1 => ?_
 refine d_region rfl ?_
 refine go (m_box ty_25) ?_
 refine go (m_set) ?_
 refine .nil ⟨by kernel_rfl, ?_⟩
 refine k1 _ ?_
 refine d_seq fun K2 k2 => ?_
 refine d_seq fun K3 k3 => ?_
 refine d_region rfl ?_
 refine go (m_fa ty_25) ?_
 refine go (m_load ty_23) ?_
 refine go (m_len ty_23) ?_
 refine go (m_move) ?_
 refine .nil ⟨by kernel_rfl, ?_⟩
 refine k3 _ ?_
 refine d_block ?_
 refine d_loop (α := Nat) (fun k => ⟨[(1, DI q), (8, .sl (s.fs.map frC)), (9, DI s.fs.length), (10, DI k)], [], 0⟩) (fun k => k ≤ s.fs.length ∧ ∀ j (h : j < s.fs.length), j < k → ¬ s.fs[j].ow = q) (fun k => s.fs.length - k) 0 ⟨by omega, fun j _ h => by omega⟩ (wk []) (fun k ⟨hk, hz⟩ => ?_)
 by_cases hlt : k < s.fs.length
 ·
  refine d_seq fun K4 k4 => ?_
  refine d_region rfl ?_
  refine go (m_bin) ?_
  refine .nil ⟨by kernel_rfl, ?_⟩
  refine k4 _ ?_
  refine d_seq fun K5 k5 => ?_
  refine d_condT rfl ?_
  refine d_skip ?_
  refine k5 _ ?_
  refine d_seq fun K6 k6 => ?_
  refine d_block ?_
  refine d_seq fun K7 k7 => ?_
  refine d_region rfl ?_
  refine go (m_ia ty_23 ty_79) ?_
  refine go (m_load ty_79) ?_
  refine go (m_alloc ty_79) ?_
  refine go (m_store ty_79) ?_
  refine .nil ⟨by kernel_rfl, ?_⟩
  refine k7 _ ?_
  refine d_seq fun K8 k8 => ?_
  by_cases h4 : s.fs[k].ow = q
  ·
   refine d_region rfl ?_
   refine go (m_fa ty_79) ?_
   refine go (m_load ty_3) ?_
   refine go (m_move) ?_
   refine go (m_bin) ?_
   refine .nil ⟨by kernel_rfl, ?_⟩
   refine k8 _ ?_
   refine d_condT rfl ?_
   refine d_seq fun K9 k9 => ?_
   refine d_region rfl ?_
   refine go (m_set) ?_
   refine .nil ⟨by kernel_rfl, ?_⟩
   refine k9 _ ?_
   refine d_ret ?_
   change RetD _ _ _ _ _ _ _
   exact fin [] (.tmp (.nil)) (h1 := .t ⟨_, List.getElem_mem hlt, h4⟩)
  ·
   refine d_region rfl ?_
   refine go (m_fa ty_79) ?_
   refine go (m_load ty_3) ?_
   refine go (m_move) ?_
   refine go (m_bin) ?_
   refine .nil ⟨by kernel_rfl, ?_⟩
   refine k8 _ ?_
   refine d_condF rfl ?_
   refine d_skip ?_
   refine k6 _ ?_
   refine d_region rfl ?_
   refine go (m_bin) ?_
   refine go (m_move) ?_
   refine .nil ⟨by kernel_rfl, ?_⟩
   exact ⟨k + 1, ⟨by omega, fun j h hj => by by_cases h3 : j = k; (subst h3; exact h4); exact hz j h (by omega)⟩, by omega, wk []⟩
 ·
  refine d_seq fun K10 k10 => ?_
  refine d_region rfl ?_
  refine go (m_bin) ?_
  refine .nil ⟨by kernel_rfl, ?_⟩
  refine k10 _ ?_
  refine d_seq fun K11 k11 => ?_
  refine d_condF rfl ?_
  refine d_exit ?_
  refine k2 _ ?_
  refine d_seq fun K12 k12 => ?_
  refine d_region rfl ?_
  refine go (m_set) ?_
  refine .nil ⟨by kernel_rfl, ?_⟩
  refine k12 _ ?_
  refine d_ret ?_
  change RetD _ _ _ _ _ _ _
  exact fin [] (.tmp (.nil)) (h1 := .f fun ⟨f, hf, e⟩ => by obtain ⟨j, hj, rfl⟩ := List.mem_iff_getElem.1 hf; exact hz j hj (by omega) e)

set_option maxRecDepth 20000 in
set_option maxHeartbeats 4000000 in
theorem lift_ok (s : Sp) (q b : Int) (i : Nat) (hi : i < s.fs.length) (h0 : s.fs[i].ow = -1) (hf : ∀ j (h : j < s.fs.length), j < i → ¬ s.fs[j].ow = -1) (hl : s.fs.length ≤ 64) (hq : 0 ≤ q ∧ q ≤ 4294967295) (hb : 0 ≤ b ∧ b ≤ 3) : DCall Try.prog 98 [.agg (spO 0 1 s), DI q, DI b] [(0, wO s.ws), (1, fO s.fs)] (DI i) [(0, wO s.ws), (1, fO (s.fs.set i ⟨q, b * 4294967296 + q, -1⟩))] := by
 refine DCall.mk Try.func98 rfl rfl ?_
 refine d_seq fun K1 k1 => ?_
 refine d_region rfl ?_
 refine go (m_box ty_25) ?_
 refine go (m_set) ?_
 refine .nil ⟨by kernel_rfl, ?_⟩
 refine k1 _ ?_
 refine d_seq fun K2 k2 => ?_
 refine d_seq fun K3 k3 => ?_
 refine d_region rfl ?_
 refine go (m_fa ty_25) ?_
 refine go (m_load ty_23) ?_
 refine go (m_len ty_23) ?_
 refine go (m_move) ?_
 refine .nil ⟨by kernel_rfl, ?_⟩
 refine k3 _ ?_
 refine d_block ?_
 refine d_loop (α := Nat) (fun k => ⟨[(1, DI q), (2, DI b), (3, .ptr 2 0 0), (10, .own 1 0 s.fs.length), (11, DI s.fs.length), (12, DI k)], [(0, wO s.ws), (1, fO s.fs), (2, ⟨3, false, false, [spO 0 1 s]⟩)], 3⟩) (fun k => k ≤ i) (fun k => s.fs.length - k) 0 (by omega) (wk [(0, 0), (1, 1), (2, 2)]) (fun k hk => ?_)
 have hlt : k < s.fs.length := by omega
 refine d_seq fun K4 k4 => ?_
 refine d_region rfl ?_
 refine go (m_bin) ?_
 refine .nil ⟨by kernel_rfl, ?_⟩
 refine k4 _ ?_
 refine d_seq fun K5 k5 => ?_
 refine d_condT rfl ?_
 refine d_skip ?_
 refine k5 _ ?_
 refine d_seq fun K6 k6 => ?_
 refine d_block ?_
 refine d_seq fun K7 k7 => ?_
 refine d_region rfl ?_
 refine go (m_move) ?_
 refine go (m_ia ty_23 ty_79) ?_
 refine go (m_load ty_79) ?_
 refine go (m_alloc ty_79) ?_
 refine go (m_set) ?_
 refine go (m_store ty_79) ?_
 refine .nil ⟨by kernel_rfl, ?_⟩
 refine k7 _ ?_
 refine d_seq fun K8 k8 => ?_
 by_cases h4 : s.fs[k].ow = -1
 ·
  obtain rfl : k = i := by have h5 := hf k hlt; omega
  refine d_region rfl ?_
  refine go (m_fa ty_79) ?_
  refine go (m_load ty_3) ?_
  refine go (m_bin) ?_
  refine .nil ⟨by kernel_rfl, ?_⟩
  refine k8 _ ?_
  refine d_condT rfl ?_
  refine d_seq fun K9 k9 => ?_
  refine d_region rfl ?_
  refine go (m_fa ty_25) ?_
  refine go (m_load ty_23) ?_
  refine go (m_move) ?_
  refine go (m_move) ?_
  refine go (m_move) ?_
  refine go (m_bin) ?_
  refine go (m_move) ?_
  refine go (m_bin) ?_
  refine go (m_build ty_79) ?_
  refine go (m_ia ty_23 ty_79) ?_
  refine go (m_store ty_79) ?_
  refine .nil ⟨by kernel_rfl, ?_⟩
  refine k9 _ ?_
  refine d_seq fun K10 k10 => ?_
  refine d_region rfl ?_
  refine go (m_move) ?_
  refine go (m_set) ?_
  refine .nil ⟨by kernel_rfl, ?_⟩
  refine k10 _ ?_
  refine d_ret ?_
  change RetD _ _ _ _ _ _ _
  exact fin [(0, 0), (1, 1)] (.tmp (.nil)) (h2 := by apply CvS.cons rfl rfl; exact .arr rfl; apply CvS.cons rfl rfl; exact .arrE (set_map (by simp) rfl); exact .nil)
 ·
  have hne : k ≠ i := fun e => by subst e; exact h4 h0
  refine d_region rfl ?_
  refine go (m_fa ty_79) ?_
  refine go (m_load ty_3) ?_
  refine go (m_bin) ?_
  refine .nil ⟨by kernel_rfl, ?_⟩
  refine k8 _ ?_
  refine d_condF rfl ?_
  refine d_skip ?_
  refine k6 _ ?_
  refine d_region rfl ?_
  refine go (m_bin) ?_
  refine go (m_move) ?_
  refine .nil ⟨by kernel_rfl, ?_⟩
  exact ⟨k + 1, by omega, by omega, wk [(0, 0), (1, 1), (2, 2)]⟩

end Go.Proofs.Ytbidedbpmhcoaaa
/- Frames: new spaces. No condition. -/
namespace Go.Proofs.Ytbidedbpmhcoaaa
open Go.RowKit
set_option linter.unusedSimpArgs false
set_option linter.unusedVariables false
abbrev feF : Fe := ⟨-1, -1, -1⟩
abbrev feZ : Fe := ⟨0, 0, 0⟩
/-- the first frames are free, the others not yet -/
def frsL (n j : Nat) : List Fe := (List.range n).map fun i => if i < j then feF else feZ
@[simp] theorem frsL_len (n j : Nat) : (frsL n j).length = n := by unfold frsL; simp
theorem frsL_0 (n : Nat) : frsL n 0 = List.replicate n feZ := by
 unfold frsL
 refine List.ext_getElem (by simp) fun i h1 h2 => ?_
 simp
theorem frsL_n (n : Nat) : frsL n n = List.replicate n feF := by
 unfold frsL
 refine List.ext_getElem (by simp) fun i h1 h2 => ?_
 simp at h1 ⊢
 omega
theorem frsL_set (n j : Nat) : (frsL n j).set j feF = frsL n (j + 1) := by
 unfold frsL
 refine List.ext_getElem (by simp) fun i h1 h2 => ?_
 rw [List.getElem_set, List.getElem_map, List.getElem_map, List.getElem_range]
 by_cases h : j = i
 ·subst h
  rw [if_pos rfl, if_pos (by omega)]
 ·rw [if_neg h]
  by_cases h3 : i < j
  ·rw [if_pos h3, if_pos (by omega)]
  ·rw [if_neg h3, if_neg (by omega)]
/-- a new space -/
def newS (k : Int) (n : Nat) : Sp := ⟨k, List.replicate (n * 2 ^ k.toNat) 0, List.replicate n feF⟩

set_option maxRecDepth 20000 in
set_option maxHeartbeats 4000000 in
theorem new_ok (k : Int) (n : Nat) (hk : ShOk k) (hn : 2 ≤ n ∧ n ≤ 64) : DCall Try.prog 46 [DI k, DI n] [] (.tup [.agg [DI k, .own 0 0 (n * 2 ^ k.toNat), .own 1 0 n], DI 0]) [(0, wO (newS k n).ws), (1, fO (newS k n).fs)] := by
 refine DCall.mk Try.func46 rfl rfl ?_
 obtain ⟨g1, g2, g3, g4, g5⟩ := sz_get (s := ⟨k, [], []⟩) hk
 simp only [] at g1 g2 g5
 have hp : n * szS ⟨k, [], []⟩ ≤ 64 * 256 := Nat.mul_le_mul hn.2 g4
 refine d_seq fun K1 k1 => ?_
 refine d_region rfl ?_
 refine go (m_alloc ty_25) ?_
 refine go (m_set) ?_
 refine .nil ⟨by kernel_rfl, ?_⟩
 refine k1 _ ?_
 refine d_seq fun K2 k2 => ?_
 refine d_seq fun K3 k3 => ?_
 refine d_region rfl ?_
 refine go (m_move) ?_
 refine go (m_call ((rshift_d _).t hk)) ?_
 refine go (m_not) ?_
 refine go (m_move) ?_
 first | refine no ?_ | refine go (m_move) ?_
 first | refine no ?_ | refine go (m_bin) ?_
 refine go (m_pick) ?_
 refine go (m_move) ?_
 first | refine no ?_ | refine go (m_move) ?_
 first | refine no ?_ | refine go (m_bin) ?_
 refine go (m_pick) ?_
 refine .nil ⟨by kernel_rfl, ?_⟩
 refine k3 _ ?_
 refine d_condF rfl ?_
 refine d_skip ?_
 refine k2 _ ?_
 refine d_seq fun K4 k4 => ?_
 refine d_any mixedP rfl (by kernel_rfl) ?_
 refine go (m_move) ?_
 refine go (m_move) ?_
 refine go (m_move) ?_
 refine go (m_conv ty_3 ty_66) ?_
 refine go (m_shA (hr := sh_k (s := ⟨k, [], []⟩) hk n rfl (by omega))) ?_
 refine go (m_make ty_22 ty_50) ?_
 refine go (m_move) ?_
 refine go (m_make ty_23 ty_79) ?_
 refine go (m_build ty_25) ?_
 refine go (m_alloc ty_25) ?_
 refine go (m_store ty_25) ?_
 refine .nil ⟨⟨by kernel_rfl, by kernel_rfl⟩, ?_⟩
 refine k4 _ ?_
 refine d_seq fun K5 k5 => ?_
 refine d_seq fun K6 k6 => ?_
 refine d_region rfl ?_
 refine go (m_fa ty_25) ?_
 refine go (m_load ty_23) ?_
 refine go (m_len ty_23) ?_
 refine go (m_move) ?_
 refine .nil ⟨by kernel_rfl, ?_⟩
 refine k6 _ ?_
 refine d_block ?_
 refine d_loop (α := Nat) (fun j => ⟨[(4, .ptr 0 0 0), (6, .ptr 3 0 0), (31, DI n), (32, DI j)], [(0, ⟨3, false, false, [[DI 0, DN, DN]]⟩), (1, wO (newS k n).ws), (2, fO (frsL n j)), (3, ⟨3, false, false, [[DI k, .own 1 0 (n * 2 ^ k.toNat), .own 2 0 n]]⟩)], 4⟩) (fun j => j ≤ n) (fun j => n - j) 0 (by omega) (wk [(0, 0), (1, 1), (2, 2), (3, 3)] (h2 := by repeat' (first | exact CvS.nil | apply CvS.cons rfl rfl | exact .arr rfl | exact .arrE (by simp [newS, frsL_0, szS]; exact .inr rfl) | apply CvO.box | exact CvL.nil | apply CvL.cons | exact .lit | exact .nil | exact .own rfl))) (fun j hj => ?_)
 by_cases hlt : j < n
 ·
  have hfl : (frsL n j).length = n := by simp
  refine d_seq fun K7 k7 => ?_
  refine d_region rfl ?_
  refine go (m_bin) ?_
  refine .nil ⟨by kernel_rfl, ?_⟩
  refine k7 _ ?_
  refine d_seq fun K8 k8 => ?_
  refine d_condT rfl ?_
  refine d_skip ?_
  refine k8 _ ?_
  refine d_seq fun K9 k9 => ?_
  refine d_block ?_
  refine d_seq fun K10 k10 => ?_
  refine d_region rfl ?_
  refine go (m_move) ?_
  refine go (m_set) ?_
  refine .nil ⟨by kernel_rfl, ?_⟩
  refine k10 _ ?_
  refine d_region rfl ?_
  refine go (m_fa ty_25) ?_
  refine go (m_load ty_23) ?_
  refine go (m_move) ?_
  refine go (m_build ty_79) ?_
  refine go (m_ia ty_23 ty_79) ?_
  refine go (m_store ty_79) ?_
  refine .nil ⟨by kernel_rfl, ?_⟩
  refine k9 _ ?_
  refine d_region rfl ?_
  refine go (m_bin) ?_
  refine go (m_move) ?_
  refine .nil ⟨by kernel_rfl, ?_⟩
  exact ⟨j + 1, by omega, by omega, wk [(0, 0), (1, 1), (2, 2), (3, 3)] (h2 := by repeat' (first | exact CvS.nil | apply CvS.cons rfl rfl | exact .arr rfl | exact .arrE ((set_map (x := feF) (by simp) rfl).trans (congrArg (List.map frC) (frsL_set n j))) | apply CvO.box | exact CvL.nil | apply CvL.cons | exact .lit | exact .nil | exact .own rfl))⟩
 ·
  refine d_seq fun K11 k11 => ?_
  refine d_region rfl ?_
  refine go (m_bin) ?_
  refine .nil ⟨by kernel_rfl, ?_⟩
  refine k11 _ ?_
  refine d_seq fun K12 k12 => ?_
  refine d_condF rfl ?_
  refine d_exit ?_
  refine k5 _ ?_
  refine d_seq fun K13 k13 => ?_
  have hjn : j = n := by omega
  subst hjn
  refine d_region rfl ?_
  refine go (m_load ty_25) ?_
  refine go (m_store ty_25) ?_
  refine go (m_set) ?_
  refine .nil ⟨by kernel_rfl, ?_⟩
  refine k13 _ ?_
  refine d_ret ?_
  change RetD _ _ _ _ _ _ _
  exact fin [(0, 1), (1, 2)] (.cell ty_25 rfl rfl rfl rfl (.tmp (.nil))) (h2 := by apply CvS.cons rfl rfl; exact .arr rfl; apply CvS.cons rfl rfl; exact .arrE (congrArg (List.map frC) (frsL_n _)); exact .nil)

set_option maxRecDepth 20000 in
set_option maxHeartbeats 4000000 in
theorem frames_d (s : Sp) (q b f l n : Int) (hs : ShOk s.sh) : DCall Try.prog 114 [spD s, .agg [DI q, DI b, DI f, DI l, DI n]] [] (DI (clN s n)) [] := by
 refine DCall.mk Try.func114 rfl rfl ?_
 refine d_seq fun K1 k1 => ?_
 refine d_region rfl ?_
 refine go (m_box ty_25) ?_
 refine go (m_box ty_56) ?_
 refine go (m_set) ?_
 refine .nil ⟨by kernel_rfl, ?_⟩
 refine k1 _ ?_
 refine d_seq fun K2 k2 => ?_
 refine d_region rfl ?_
 refine go (m_fa ty_56) ?_
 refine go (m_load ty_3) ?_
 refine go (m_fa ty_25) ?_
 refine go (m_load ty_3) ?_
 refine go (m_call (ceil_d s n hs)) ?_
 refine go (m_set) ?_
 refine .nil ⟨by kernel_rfl, ?_⟩
 refine k2 _ ?_
 refine d_ret ?_
 change RetD _ _ _ _ _ _ _
 exact fin [] (.tmp (.nil))

end Go.Proofs.Ytbidedbpmhcoaaa
/- Frames that follow each other. No condition. -/
namespace Go.Proofs.Ytbidedbpmhcoaaa
open Go.RowKit
set_option linter.unusedSimpArgs false
set_option linter.unusedVariables false
/-- an increment's cells -/
abbrev incC (q b f l n : Int) : List DV := [DI q, DI b, DI f, DI l, DI n]
theorem clN_rng {s : Sp} (hs : ShOk s.sh) (n : Int) : 0 ≤ clN s n ∧ clN s n ≤ 1099511627776 := by
 obtain ⟨g1, g2, g3, g4, g5⟩ := sz_get hs
 unfold clN
 split
 ·omega
 ·rename_i h
  refine ⟨Int.ediv_nonneg (by omega) (by omega), ?_⟩
  have h1 : (n + szS s - 1) / szS s ≤ n := by
   rcases Int.lt_or_le n 1 with h2 | h2
   ·have : n = 0 := by omega
    subst this
    rw [Int.ediv_eq_zero_of_lt (by omega) (by omega)]
    omega
   ·refine Int.le_of_lt_add_one (Int.ediv_lt_of_lt_mul (by omega) ?_)
    have h3 : n * 1 ≤ n * szS s := Int.mul_le_mul_of_nonneg_left (by omega) (by omega)
    rw [Int.add_mul, Int.one_mul]
    omega
  omega
/-- the frames from one on -/
def itL (s : Sp) (F : Int) (m : Nat) : List Int := (List.range m).map fun j => itF s.fs j F
@[simp] theorem itL_len (s : Sp) (F : Int) (m : Nat) : (itL s F m).length = m := by unfold itL; simp
theorem itL_succ (s : Sp) (F : Int) (m : Nat) : (itL s F (m + 1)).map iC = (itL s F m).map iC ++ [[DI (itF s.fs m F)]] := by
 unfold itL
 rw [List.range_succ, List.map_append, List.map_append]
 rfl

set_option maxRecDepth 20000 in
set_option maxHeartbeats 4000000 in
theorem extra_d (s : Sp) (q b f l m n : Int) (hs : ShOk s.sh) (h : I64 (m + n)) : DCall Try.prog 96 [spD s, .agg (incC q b f l m), DI n] [] (DI (clN s (m + n) - clN s m)) [] := by
 refine DCall.mk Try.func96 rfl rfl ?_
 unfold I64 at h
 have c1 := clN_rng hs (m + n)
 have c2 := clN_rng hs m
 refine d_seq fun K1 k1 => ?_
 refine d_region rfl ?_
 refine go (m_box ty_25) ?_
 refine go (m_box ty_56) ?_
 refine go (m_set) ?_
 refine .nil ⟨by kernel_rfl, ?_⟩
 refine k1 _ ?_
 refine d_seq fun K2 k2 => ?_
 refine d_any mixedP rfl (by kernel_rfl) ?_
 refine go (m_fa ty_56) ?_
 refine go (m_load ty_3) ?_
 refine go (m_move) ?_
 refine go (m_bin) ?_
 refine go (m_fa ty_25) ?_
 refine go (m_load ty_3) ?_
 refine go (m_call (ceil_d s (m + n) hs)) ?_
 refine go (m_load ty_25) ?_
 refine go (m_load ty_56) ?_
 refine go (m_call (frames_d s q b f l m hs)) ?_
 refine go (m_bin) ?_
 refine go (m_set) ?_
 refine .nil ⟨⟨by kernel_rfl, by kernel_rfl⟩, ?_⟩
 refine k2 _ ?_
 refine d_ret ?_
 change RetD _ _ _ _ _ _ _
 exact fin [] (.tmp (.nil))

set_option maxRecDepth 20000 in
set_option maxHeartbeats 4000000 in
theorem chain_d (s : Sp) (F : Int) (m : Nat) (hn : NxIn s.fs) (h1 : 1 ≤ m) (hm : itF s.fs m F = -1) (hj : ∀ j, j < m → 0 ≤ itF s.fs j F ∧ itF s.fs j F < s.fs.length) (hb : m ≤ 4294967296) : DCall Try.prog 113 [spD s, DI F] [] (.own 0 0 m) [(0, iO (itL s F m))] := by
 refine DCall.mk Try.func113 rfl rfl ?_
 have hj0 : 0 ≤ F ∧ F < s.fs.length := hj 0 (by omega)
 refine d_seq fun K1 k1 => ?_
 refine d_region rfl ?_
 refine go (m_box ty_25) ?_
 refine go (m_set) ?_
 refine .nil ⟨by kernel_rfl, ?_⟩
 refine k1 _ ?_
 refine d_seq fun K2 k2 => ?_
 refine d_region rfl ?_
 refine go (m_set) ?_
 refine .nil ⟨by kernel_rfl, ?_⟩
 refine k2 _ ?_
 refine d_seq fun K3 k3 => ?_
 refine d_seq fun K4 k4 => ?_
 refine d_region rfl ?_
 refine go (m_move) ?_
 refine go (m_set) ?_
 refine .nil ⟨by kernel_rfl, ?_⟩
 refine k4 _ ?_
 refine d_block ?_
 refine d_loop1 (α := Nat) (fun k => ⟨[(2, .ptr 0 0 0), (5, .own 1 0 k), (6, DI (itF s.fs k F))], [(0, ⟨3, false, false, [spC s]⟩), (1, iO (itL s F k))], 2⟩) (fun k => 1 ≤ k ∧ k ≤ m) (fun k => m - k) (m) ?_ (fun k ⟨hk1, hk2⟩ => ?_)
 ·
  refine d_seq fun K5 k5 => ?_
  refine d_seq fun K6 k6 => ?_
  refine d_region rfl ?_
  refine go (m_move) ?_
  refine go (m_bin) ?_
  refine .nil ⟨by kernel_rfl, ?_⟩
  refine k6 _ ?_
  refine d_condT rfl ?_
  refine d_skip ?_
  refine k5 _ ?_
  refine d_seq fun K7 k7 => ?_
  refine d_block ?_
  refine d_region rfl ?_
  refine go (m_move) ?_
  refine go (m_move) ?_
  refine go (m_lit ty_26 ty_3) ?_
  refine go (m_app ty_26 ty_3) ?_
  refine go (m_set) ?_
  refine .nil ⟨by kernel_rfl, ?_⟩
  refine k7 _ ?_
  refine d_region rfl ?_
  refine go (m_fa ty_25) ?_
  refine go (m_load ty_23) ?_
  refine go (m_move) ?_
  refine go (m_ia ty_23 ty_79) ?_
  refine go (m_fa ty_79) ?_
  refine go (m_load ty_3) ?_
  refine go (m_set) ?_
  refine .nil ⟨by kernel_rfl, ?_⟩
  have hx : [[DI F]] = (itL s F 1).map iC := rfl
  have he : Value.int .i64 s.fs[F.toNat].nx = Value.int .i64 (itF s.fs 1 F) := congrArg _ (nxF_z hj0.1 (by omega)).symm
  exact ⟨1, ⟨by omega, by omega⟩, by omega, wk [(0, 0), (1, 2)]⟩
 ·
  by_cases hlt : k < m
  ·
   have hjk := hj k hlt
   refine d_seq fun K8 k8 => ?_
   refine d_seq fun K9 k9 => ?_
   refine d_region rfl ?_
   refine go (m_move) ?_
   refine go (m_bin) ?_
   refine .nil ⟨by kernel_rfl, ?_⟩
   refine k9 _ ?_
   refine d_condT rfl ?_
   refine d_skip ?_
   refine k8 _ ?_
   refine d_seq fun K10 k10 => ?_
   refine d_block ?_
   refine d_region rfl ?_
   refine go (m_move) ?_
   refine go (m_move) ?_
   refine go (m_lit ty_26 ty_3) ?_
   refine go (m_app ty_26 ty_3) ?_
   refine go (m_set) ?_
   refine .nil ⟨by kernel_rfl, ?_⟩
   refine k10 _ ?_
   refine d_region rfl ?_
   refine go (m_fa ty_25) ?_
   refine go (m_load ty_23) ?_
   refine go (m_move) ?_
   refine go (m_ia ty_23 ty_79) ?_
   refine go (m_fa ty_79) ?_
   refine go (m_load ty_3) ?_
   refine go (m_set) ?_
   refine .nil ⟨by kernel_rfl, ?_⟩
   have hx : (itL s F k).map iC ++ [[DI (itF s.fs k F)]] = (itL s F (k + 1)).map iC := by rw [itL_succ]
   have he : Value.int .i64 s.fs[(itF s.fs k F).toNat].nx = Value.int .i64 (itF s.fs (k + 1) F) := congrArg _ (by rw [itF_succ]; exact (nxF_z hjk.1 (by omega)).symm)
   exact ⟨k + 1, ⟨by omega, by omega⟩, by omega, wk [(0, 0), (1, 3)]⟩
  ·
   have hkm : k = m := by omega
   subst hkm
   refine d_seq fun K11 k11 => ?_
   refine d_seq fun K12 k12 => ?_
   refine d_region rfl ?_
   refine go (m_move) ?_
   refine go (m_bin) ?_
   refine .nil ⟨by kernel_rfl, ?_⟩
   refine k12 _ ?_
   refine d_condF rfl ?_
   refine d_exit ?_
   refine k3 _ ?_
   refine d_seq fun K13 k13 => ?_
   refine d_region rfl ?_
   refine go (m_move) ?_
   refine go (m_set) ?_
   refine .nil ⟨by kernel_rfl, ?_⟩
   refine k13 _ ?_
   refine d_ret ?_
   change RetD _ _ _ _ _ _ _
   exact fin [(0, 1)] (.tmp (.nil))

end Go.Proofs.Ytbidedbpmhcoaaa
/- The deck. No condition. -/
namespace Go.Proofs.Ytbidedbpmhcoaaa
open Go.RowKit
set_option linter.unusedSimpArgs false
set_option linter.unusedVariables false
/-- a deck: its numbers, and how many are taken -/
abbrev dkO (l : List Int) (t : Nat) : Ob := ⟨2, false, false, [[.sl (l.map iC), DI t]]⟩
def dkV (l : List Int) (t : Nat) (n : Int) : Int := if h : t < l.length then l[t] % n else 0
def dkT (l : List Int) (t : Nat) : Nat := if t < l.length then t + 1 else t
theorem dkV_t {l : List Int} {t : Nat} (n : Int) (h : t < l.length) : l[t] % n = dkV l t n := by unfold dkV; rw [dif_pos h]
theorem dkV_f {l : List Int} {t : Nat} (n : Int) (h : ¬ t < l.length) : 0 = dkV l t n := by unfold dkV; rw [dif_neg h]
theorem dkV_rng (l : List Int) (t : Nat) {n : Int} (hn : 1 ≤ n) : 0 ≤ dkV l t n ∧ dkV l t n < n := by
 unfold dkV
 split
 ·exact ⟨Int.emod_nonneg _ (by omega), Int.emod_lt_of_pos _ (by omega)⟩
 ·omega

set_option maxRecDepth 20000 in
set_option maxHeartbeats 4000000 in
theorem next_d (l : List Int) (t : Nat) (n : Int) (hl : ∀ x ∈ l, I64 x) (hb : l.length ≤ 9223372036854775807) (hn : 1 ≤ n ∧ n ≤ 9223372036854775807) : DCall Try.prog 47 [.ptr 0 0 0, DI n] [(0, dkO l t)] (DI (dkV l t n)) [(0, dkO l (dkT l t))] := by
 refine DCall.mk Try.func47 rfl rfl ?_
 by_cases h : t < l.length
 ·
  have hi := hl _ (List.getElem_mem h)
  have hv := dkV_t n h
  have ht : Value.int .i64 ((t : Int) + 1) = Value.int .i64 ((dkT l t : Nat) : Int) := congrArg _ (by unfold dkT; rw [if_pos h]; push_cast; rfl)
  refine d_seq fun K1 k1 => ?_
  refine d_region rfl ?_
  refine go (m_set) ?_
  refine .nil ⟨by kernel_rfl, ?_⟩
  refine k1 _ ?_
  refine d_seq fun K2 k2 => ?_
  refine d_seq fun K3 k3 => ?_
  refine d_any mixedP rfl (by kernel_rfl) ?_
  refine go (m_move) ?_
  refine go (m_nil) ?_
  refine go (m_fa ty_84) ?_
  refine go (m_load ty_3) ?_
  refine go (m_move) ?_
  refine go (m_nil) ?_
  refine go (m_fa ty_84) ?_
  refine go (m_load ty_26) ?_
  refine go (m_len ty_26) ?_
  refine go (m_bin) ?_
  refine .nil ⟨⟨by kernel_rfl, by kernel_rfl⟩, ?_⟩
  refine k3 _ ?_
  refine d_condF rfl ?_
  refine d_skip ?_
  refine k2 _ ?_
  refine d_seq fun K4 k4 => ?_
  refine d_region rfl ?_
  refine go (m_move) ?_
  refine go (m_nil) ?_
  refine go (m_fa ty_84) ?_
  refine go (m_load ty_3) ?_
  refine go (m_bin) ?_
  refine go (m_nil) ?_
  refine go (m_fa ty_84) ?_
  refine go (m_store ty_3) ?_
  refine .nil ⟨by kernel_rfl, ?_⟩
  refine k4 _ ?_
  refine d_seq fun K5 k5 => ?_
  refine d_any mixedP rfl (by kernel_rfl) ?_
  refine go (m_move) ?_
  refine go (m_nil) ?_
  refine go (m_fa ty_84) ?_
  refine go (m_load ty_26) ?_
  refine go (m_move) ?_
  refine go (m_nil) ?_
  refine go (m_fa ty_84) ?_
  refine go (m_load ty_3) ?_
  refine go (m_bin (hr := BinI.to (.sub (by omega)) (show (t : Int) + 1 - 1 = (t : Int) by omega))) ?_
  refine go (m_ia ty_26 ty_3) ?_
  refine go (m_load ty_3) ?_
  refine go (m_move) ?_
  refine go (m_call (mod_d l[t] n hi hn)) ?_
  refine go (m_set) ?_
  refine .nil ⟨⟨by kernel_rfl, by kernel_rfl⟩, ?_⟩
  refine k5 _ ?_
  refine d_ret ?_
  change RetD _ _ _ _ _ _ _
  exact fin [(0, 0)] (.tmp (.nil)) (h1 := .litE (congrArg (Value.int _) hv))
 ·
  have ht : Value.int .i64 (t : Int) = Value.int .i64 ((dkT l t : Nat) : Int) := congrArg _ (by unfold dkT; rw [if_neg h])
  refine d_seq fun K6 k6 => ?_
  refine d_region rfl ?_
  refine go (m_set) ?_
  refine .nil ⟨by kernel_rfl, ?_⟩
  refine k6 _ ?_
  refine d_seq fun K7 k7 => ?_
  refine d_seq fun K8 k8 => ?_
  refine d_any mixedP rfl (by kernel_rfl) ?_
  refine go (m_move) ?_
  refine go (m_nil) ?_
  refine go (m_fa ty_84) ?_
  refine go (m_load ty_3) ?_
  refine go (m_move) ?_
  refine go (m_nil) ?_
  refine go (m_fa ty_84) ?_
  refine go (m_load ty_26) ?_
  refine go (m_len ty_26) ?_
  refine go (m_bin) ?_
  refine .nil ⟨⟨by kernel_rfl, by kernel_rfl⟩, ?_⟩
  refine k8 _ ?_
  refine d_condT rfl ?_
  refine d_seq fun K9 k9 => ?_
  refine d_region rfl ?_
  refine go (m_set) ?_
  refine .nil ⟨by kernel_rfl, ?_⟩
  refine k9 _ ?_
  refine d_ret ?_
  change RetD _ _ _ _ _ _ _
  exact fin [(0, 0)] (.tmp (.nil)) (h1 := .litE (congrArg (Value.int _) (dkV_f n h)))

end Go.Proofs.Ytbidedbpmhcoaaa
/- Increments that fit. No condition. -/
namespace Go.Proofs.Ytbidedbpmhcoaaa
open Go.RowKit
set_option linter.unusedSimpArgs false
set_option linter.unusedVariables false
theorem chain_len {s : Sp} (h : SpOk s) {F : Int} (h0 : 0 ≤ F) (hF : F < s.fs.length) : ∃ m : Nat, 1 ≤ m ∧ m ≤ s.fs.length ∧ itF s.fs m F = -1 ∧ ∀ j, j < m → 0 ≤ itF s.fs j F ∧ itF s.fs j F < s.fs.length := by
 have hnx := nxin_of h.fm
 have hend : itF s.fs s.fs.length F = -1 := by
  have := end_len h (F := F.toNat) (by omega)
  rwa [Int.toNat_of_nonneg h0] at this
 have key : ∀ n : Nat, itF s.fs n F = -1 → ∃ m : Nat, m ≤ n ∧ itF s.fs m F = -1 ∧ ∀ j, j < m → ¬ itF s.fs j F = -1 := by
  intro n
  induction n with
  | zero => intro hn; exact ⟨0, Nat.le_refl _, hn, fun j hj => by omega⟩
  | succ n ih =>
   intro hn
   by_cases hp : itF s.fs n F = -1
   ·obtain ⟨m, h1, h2⟩ := ih hp; exact ⟨m, by omega, h2⟩
   ·refine ⟨n + 1, Nat.le_refl _, hn, fun j hj e => ?_⟩
    rcases Nat.lt_succ_iff_lt_or_eq.1 hj with h3 | h3
    ·apply hp
     rw [show n = j + (n - j) by omega, itF_add]
     exact itF_neg _ e
    ·subst h3; exact hp e
 obtain ⟨m, h1, h2, h3⟩ := key _ hend
 refine ⟨m, ?_, h1, h2, fun j hj => ?_⟩
 ·rcases Nat.eq_zero_or_pos m with h4 | h4
  ·subst h4
   have : F = -1 := h2
   omega
  ·exact h4
 ·have h5 := hnx.it j F (by omega)
  have h6 := h3 j hj
  omega
/-- how many of the first frames have an owner -/
def cnO (fs : List Fe) (q : Int) (k : Nat) : Nat := (fs.take k).countP fun f => decide (f.ow = q)
theorem cnO_t {fs : List Fe} {q : Int} {k : Nat} (hk : k < fs.length) (h : fs[k].ow = q) : cnO fs q (k + 1) = cnO fs q k + 1 := by
 unfold cnO
 rw [List.take_succ_eq_append_getElem hk, List.countP_append, List.countP_singleton]
 simp [h]
theorem cnO_f {fs : List Fe} {q : Int} {k : Nat} (hk : k < fs.length) (h : ¬ fs[k].ow = q) : cnO fs q (k + 1) = cnO fs q k := by
 unfold cnO
 rw [List.take_succ_eq_append_getElem hk, List.countP_append, List.countP_singleton]
 simp [h]
theorem cnO_le (fs : List Fe) (q : Int) (k : Nat) : cnO fs q k ≤ k := by
 unfold cnO
 exact Nat.le_trans (List.countP_le_length ..) (by rw [List.length_take]; omega)
/-- an increment fits a space -/
structure FitC (s : Sp) (q b f l n : Int) (m : Nat) : Prop where
 lo : 0 ≤ f
 hi : f.toNat < s.fs.length
 ow : (s.fs[f.toNat]'hi).ow = q
 st : (s.fs[f.toNat]'hi).st = b * 4294967296 + q
 len : (m : Int) = clN s n
 cnt : m = cnO s.fs q s.fs.length
 last : itF s.fs (m - 1) f = l
def IsLen (s : Sp) (f : Int) (m : Nat) : Prop := 1 ≤ m ∧ m ≤ s.fs.length ∧ itF s.fs m f = -1 ∧ ∀ j, j < m → 0 ≤ itF s.fs j f ∧ itF s.fs j f < s.fs.length
def FitP (s : Sp) (q b f l n : Int) : Prop := (0 ≤ q ∧ q ≤ 4294967295) ∧ (0 ≤ b ∧ b < 4) ∧ (0 ≤ n ∧ n ≤ s.ws.length) ∧ (n = 0 → f = -1 ∧ l = -1) ∧ (n ≠ 0 → ∃ m, IsLen s f m ∧ FitC s q b f l n m)
theorem IsLen.uniq {s : Sp} {f : Int} {m k : Nat} (h1 : IsLen s f m) (h2 : IsLen s f k) : m = k := by
 rcases Nat.lt_trichotomy m k with h | h | h
 ·have := h2.2.2.2 m h; have := h1.2.2.1; omega
 ·exact h
 ·have := h1.2.2.2 k h; have := h2.2.2.1; omega

set_option maxRecDepth 20000 in
set_option maxHeartbeats 4000000 in
theorem fits09_d (s : Sp) (q b f l n : Int) (hs : SpOk s) : DCall Try.prog 95 [spD s, .agg (incC q b f l n)] [] (DB (bP (FitP s q b f l n))) [] := by
 refine DCall.mk Try.func95 rfl rfl ?_
 refine d_lenA 0 1 fun hLw => ?_
 have hh := hs.shp.hi
 refine d_seq fun K1 k1 => ?_
 refine d_region rfl ?_
 refine go (m_box ty_25) ?_
 refine go (m_box ty_56) ?_
 refine go (m_set) ?_
 refine .nil ⟨by kernel_rfl, ?_⟩
 refine k1 _ ?_
 refine d_seq fun K2 k2 => ?_
 refine d_seq fun K3 k3 => ?_
 by_cases c1 : 0 ≤ q
 ·
  by_cases c2 : q ≤ 4294967295
  ·
   by_cases c3 : 0 ≤ b
   ·
    by_cases c4 : b < 4
    ·
     by_cases c5 : 0 ≤ n
     ·
      by_cases c6 : n ≤ s.ws.length
      ·
       refine d_region rfl ?_
       refine go (m_fa ty_56) ?_
       refine go (m_load ty_3) ?_
       refine go (m_bin) ?_
       refine go (m_move) ?_
       first | refine no ?_ | refine go (m_fa ty_56) ?_
       first | refine no ?_ | refine go (m_load ty_3) ?_
       first | refine no ?_ | refine go (m_bin) ?_
       refine go (m_pick) ?_
       refine go (m_move) ?_
       first | refine no ?_ | refine go (m_fa ty_56) ?_
       first | refine no ?_ | refine go (m_load ty_3) ?_
       first | refine no ?_ | refine go (m_bin) ?_
       refine go (m_pick) ?_
       refine go (m_move) ?_
       first | refine no ?_ | refine go (m_fa ty_56) ?_
       first | refine no ?_ | refine go (m_load ty_3) ?_
       first | refine no ?_ | refine go (m_bin) ?_
       refine go (m_pick) ?_
       refine go (m_move) ?_
       first | refine no ?_ | refine go (m_fa ty_56) ?_
       first | refine no ?_ | refine go (m_load ty_3) ?_
       first | refine no ?_ | refine go (m_bin) ?_
       refine go (m_pick) ?_
       refine go (m_move) ?_
       first | refine no ?_ | refine go (m_fa ty_56) ?_
       first | refine no ?_ | refine go (m_load ty_3) ?_
       first | refine no ?_ | refine go (m_fa ty_25) ?_
       first | refine no ?_ | refine go (m_load ty_22) ?_
       first | refine no ?_ | refine go (m_len ty_22) ?_
       first | refine no ?_ | refine go (m_bin) ?_
       refine go (m_pick) ?_
       refine .nil ⟨by kernel_rfl, ?_⟩
       refine k3 _ ?_
       refine d_condF rfl ?_
       refine d_skip ?_
       refine k2 _ ?_
       refine d_seq fun K4 k4 => ?_
       refine d_seq fun K5 k5 => ?_
       by_cases z : n = 0
       ·
        refine d_region rfl ?_
        refine go (m_fa ty_56) ?_
        refine go (m_load ty_3) ?_
        refine go (m_bin) ?_
        refine .nil ⟨by kernel_rfl, ?_⟩
        refine k5 _ ?_
        refine d_condT rfl ?_
        refine d_seq fun K6 k6 => ?_
        by_cases f1 : f = -1
        ·
         by_cases f2 : l = -1
         ·
          refine d_region rfl ?_
          refine go (m_fa ty_56) ?_
          refine go (m_load ty_3) ?_
          refine go (m_bin) ?_
          refine go (m_move) ?_
          first | refine no ?_ | refine go (m_fa ty_56) ?_
          first | refine no ?_ | refine go (m_load ty_3) ?_
          first | refine no ?_ | refine go (m_bin) ?_
          refine go (m_pick) ?_
          refine go (m_set) ?_
          refine .nil ⟨by kernel_rfl, ?_⟩
          refine k6 _ ?_
          refine d_ret ?_
          change RetD _ _ _ _ _ _ _
          exact fin [] (.tmp (.nil)) (h1 := .t ⟨⟨c1, c2⟩, ⟨c3, c4⟩, ⟨c5, c6⟩, fun _ => ⟨f1, f2⟩, fun h => absurd z h⟩)
         ·
          refine d_region rfl ?_
          refine go (m_fa ty_56) ?_
          refine go (m_load ty_3) ?_
          refine go (m_bin) ?_
          refine go (m_move) ?_
          first | refine no ?_ | refine go (m_fa ty_56) ?_
          first | refine no ?_ | refine go (m_load ty_3) ?_
          first | refine no ?_ | refine go (m_bin) ?_
          refine go (m_pick) ?_
          refine go (m_set) ?_
          refine .nil ⟨by kernel_rfl, ?_⟩
          refine k6 _ ?_
          refine d_ret ?_
          change RetD _ _ _ _ _ _ _
          exact fin [] (.tmp (.nil)) (h1 := .f fun h => by have h1 := h.2.2.2.1 z; omega)
        ·
         refine d_region rfl ?_
         refine go (m_fa ty_56) ?_
         refine go (m_load ty_3) ?_
         refine go (m_bin) ?_
         refine go (m_move) ?_
         first | refine no ?_ | refine go (m_fa ty_56) ?_
         first | refine no ?_ | refine go (m_load ty_3) ?_
         first | refine no ?_ | refine go (m_bin) ?_
         refine go (m_pick) ?_
         refine go (m_set) ?_
         refine .nil ⟨by kernel_rfl, ?_⟩
         refine k6 _ ?_
         refine d_ret ?_
         change RetD _ _ _ _ _ _ _
         exact fin [] (.tmp (.nil)) (h1 := .f fun h => by have h1 := h.2.2.2.1 z; omega)
       ·
        refine d_region rfl ?_
        refine go (m_fa ty_56) ?_
        refine go (m_load ty_3) ?_
        refine go (m_bin) ?_
        refine .nil ⟨by kernel_rfl, ?_⟩
        refine k5 _ ?_
        refine d_condF rfl ?_
        refine d_skip ?_
        refine k4 _ ?_
        refine d_seq fun K7 k7 => ?_
        refine d_seq fun K8 k8 => ?_
        by_cases d1 : 0 ≤ f
        ·
         by_cases d2 : f < s.fs.length
         ·
          refine d_region rfl ?_
          refine go (m_fa ty_56) ?_
          refine go (m_load ty_3) ?_
          refine go (m_bin) ?_
          refine go (m_move) ?_
          first | refine no ?_ | refine go (m_fa ty_56) ?_
          first | refine no ?_ | refine go (m_load ty_3) ?_
          first | refine no ?_ | refine go (m_fa ty_25) ?_
          first | refine no ?_ | refine go (m_load ty_23) ?_
          first | refine no ?_ | refine go (m_len ty_23) ?_
          first | refine no ?_ | refine go (m_bin) ?_
          refine go (m_pick) ?_
          refine .nil ⟨by kernel_rfl, ?_⟩
          refine k8 _ ?_
          refine d_condF rfl ?_
          refine d_skip ?_
          refine k7 _ ?_
          refine d_seq fun K9 k9 => ?_
          refine d_region rfl ?_
          refine go (m_fa ty_25) ?_
          refine go (m_load ty_23) ?_
          refine go (m_fa ty_56) ?_
          refine go (m_load ty_3) ?_
          refine go (m_ia ty_23 ty_79) ?_
          refine go (m_load ty_79) ?_
          refine go (m_alloc ty_79) ?_
          refine go (m_store ty_79) ?_
          refine .nil ⟨by kernel_rfl, ?_⟩
          refine k9 _ ?_
          refine d_seq fun K10 k10 => ?_
          refine d_seq fun K11 k11 => ?_
          by_cases o1 : s.fs[f.toNat].ow = q
          ·
           by_cases o2 : s.fs[f.toNat].st = b * 4294967296 + q
           ·
            refine d_region rfl ?_
            refine go (m_fa ty_79) ?_
            refine go (m_load ty_3) ?_
            refine go (m_fa ty_56) ?_
            refine go (m_load ty_3) ?_
            refine go (m_bin) ?_
            refine go (m_move) ?_
            first | refine no ?_ | refine go (m_fa ty_79) ?_
            first | refine no ?_ | refine go (m_load ty_3) ?_
            first | refine no ?_ | refine go (m_fa ty_56) ?_
            first | refine no ?_ | refine go (m_load ty_3) ?_
            first | refine no ?_ | refine go (m_bin) ?_
            first | refine no ?_ | refine go (m_fa ty_56) ?_
            first | refine no ?_ | refine go (m_load ty_3) ?_
            first | refine no ?_ | refine go (m_bin) ?_
            first | refine no ?_ | refine go (m_bin) ?_
            refine go (m_pick) ?_
            refine .nil ⟨by kernel_rfl, ?_⟩
            refine k11 _ ?_
            refine d_condF rfl ?_
            refine d_skip ?_
            refine k10 _ ?_
            refine d_seq fun K12 k12 => ?_
            obtain ⟨m, hil⟩ := chain_len hs d1 d2
            obtain ⟨hm1, hm2, hm3, hm4⟩ := id hil
            refine d_region rfl ?_
            refine go (m_load ty_25) ?_
            refine go (m_fa ty_56) ?_
            refine go (m_load ty_3) ?_
            refine go (m_callS [] (chain_d s f m hs.nxIn hm1 hm3 hm4 (by omega)) .own (ScS.one sc_i)) ?_
            refine go (m_set) ?_
            refine .nil ⟨by kernel_rfl, ?_⟩
            refine k12 _ ?_
            refine d_seq fun K13 k13 => ?_
            refine d_region rfl ?_
            refine go (m_set) ?_
            refine .nil ⟨by kernel_rfl, ?_⟩
            refine k13 _ ?_
            refine d_seq fun K14 k14 => ?_
            refine d_seq fun K15 k15 => ?_
            refine d_region rfl ?_
            refine go (m_fa ty_25) ?_
            refine go (m_load ty_23) ?_
            refine go (m_len ty_23) ?_
            refine go (m_move) ?_
            refine .nil ⟨by kernel_rfl, ?_⟩
            refine k15 _ ?_
            refine d_block ?_
            refine d_loop (α := Nat) (fun k => ⟨[(2, .ptr 0 0 0), (3, .ptr 1 0 0), (6, .own 2 0 m), (7, DI (cnO s.fs q k)), (90, .sl (s.fs.map frC)), (91, DI s.fs.length), (92, DI k)], [(0, ⟨3, false, false, [spC s]⟩), (1, ⟨5, false, false, [incC q b f l n]⟩), (2, iO (itL s f m))], 3⟩) (fun k => k ≤ s.fs.length) (fun k => s.fs.length - k) 0 (by omega) (wk [(0, 0), (1, 1), (2, 3)]) (fun k hk => ?_)
            have hck := cnO_le s.fs q k
            by_cases hlt : k < s.fs.length
            ·
             refine d_seq fun K16 k16 => ?_
             refine d_region rfl ?_
             refine go (m_bin) ?_
             refine .nil ⟨by kernel_rfl, ?_⟩
             refine k16 _ ?_
             refine d_seq fun K17 k17 => ?_
             refine d_condT rfl ?_
             refine d_skip ?_
             refine k17 _ ?_
             refine d_seq fun K18 k18 => ?_
             refine d_block ?_
             refine d_seq fun K19 k19 => ?_
             refine d_region rfl ?_
             refine go (m_ia ty_23 ty_79) ?_
             refine go (m_load ty_79) ?_
             refine go (m_alloc ty_79) ?_
             refine go (m_store ty_79) ?_
             refine .nil ⟨by kernel_rfl, ?_⟩
             refine k19 _ ?_
             refine d_seq fun K20 k20 => ?_
             by_cases h4 : s.fs[k].ow = q
             ·
              have hc : Value.int .i64 ((cnO s.fs q k : Nat) + 1 : Int) = Value.int .i64 ((cnO s.fs q (k + 1) : Nat) : Int) := congrArg _ (by rw [cnO_t hlt h4]; push_cast; rfl)
              refine d_region rfl ?_
              refine go (m_fa ty_79) ?_
              refine go (m_load ty_3) ?_
              refine go (m_fa ty_56) ?_
              refine go (m_load ty_3) ?_
              refine go (m_bin) ?_
              refine .nil ⟨by kernel_rfl, ?_⟩
              refine k20 _ ?_
              refine d_condT rfl ?_
              refine d_region rfl ?_
              refine go (m_move) ?_
              refine go (m_bin) ?_
              refine go (m_set) ?_
              refine .nil ⟨by kernel_rfl, ?_⟩
              refine k18 _ ?_
              refine d_region rfl ?_
              refine go (m_bin) ?_
              refine go (m_move) ?_
              refine .nil ⟨by kernel_rfl, ?_⟩
              exact ⟨k + 1, by omega, by omega, wk [(0, 0), (1, 1), (2, 2)]⟩
             ·
              have hc : Value.int .i64 ((cnO s.fs q k : Nat) : Int) = Value.int .i64 ((cnO s.fs q (k + 1) : Nat) : Int) := congrArg _ (by rw [cnO_f hlt h4])
              refine d_region rfl ?_
              refine go (m_fa ty_79) ?_
              refine go (m_load ty_3) ?_
              refine go (m_fa ty_56) ?_
              refine go (m_load ty_3) ?_
              refine go (m_bin) ?_
              refine .nil ⟨by kernel_rfl, ?_⟩
              refine k20 _ ?_
              refine d_condF rfl ?_
              refine d_skip ?_
              refine k18 _ ?_
              refine d_region rfl ?_
              refine go (m_bin) ?_
              refine go (m_move) ?_
              refine .nil ⟨by kernel_rfl, ?_⟩
              exact ⟨k + 1, by omega, by omega, wk [(0, 0), (1, 1), (2, 2)]⟩
            ·
             refine d_seq fun K21 k21 => ?_
             refine d_region rfl ?_
             refine go (m_bin) ?_
             refine .nil ⟨by kernel_rfl, ?_⟩
             refine k21 _ ?_
             refine d_seq fun K22 k22 => ?_
             refine d_condF rfl ?_
             refine d_exit ?_
             refine k14 _ ?_
             refine d_seq fun K23 k23 => ?_
             have hkm : k = s.fs.length := by omega
             subst hkm
             by_cases e1 : (m : Int) = clN s n
             ·
              by_cases e2 : m = cnO s.fs q s.fs.length
              ·
               have hla : ∀ h, (itL s f m)[((m : Int) - 1).toNat]'h = itF s.fs (m - 1) f := fun h => by simp only [itL, List.getElem_map, List.getElem_range]; congr 1; omega
               by_cases e3 : itF s.fs (m - 1) f = l
               ·
                refine d_any mixedP rfl (by kernel_rfl) ?_
                refine go (m_move) ?_
                refine go (m_len ty_26) ?_
                refine go (m_load ty_25) ?_
                refine go (m_load ty_56) ?_
                refine go (m_call (frames_d s q b f l n hs.shp.sh)) ?_
                refine go (m_bin) ?_
                refine go (m_move) ?_
                first | refine no ?_ | refine go (m_move) ?_
                first | refine no ?_ | refine go (m_len ty_26) ?_
                first | refine no ?_ | refine go (m_move) ?_
                first | refine no ?_ | refine go (m_bin) ?_
                refine go (m_pick) ?_
                refine go (m_move) ?_
                first | refine no ?_ | refine go (m_move) ?_
                first | refine no ?_ | refine go (m_move) ?_
                first | refine no ?_ | refine go (m_len ty_26) ?_
                first | refine no ?_ | refine go (m_bin) ?_
                first | refine no ?_ | refine go (m_ia ty_26 ty_3 (hc := .own0Z (n := (m : Int) - 1) rfl rfl rfl rfl (by omega) (by omega))) ?_
                first | refine no ?_ | refine go (m_load ty_3 (hc := .ptrM rfl rfl (by rw [itL_len]; omega)) (hd := by exact congrArg (fun z => some (DI z)) (hla _))) ?_
                first | refine no ?_ | refine go (m_fa ty_56) ?_
                first | refine no ?_ | refine go (m_load ty_3) ?_
                first | refine no ?_ | refine go (m_bin) ?_
                refine go (m_pick) ?_
                refine go (m_set) ?_
                refine .nil ⟨⟨by kernel_rfl, by kernel_rfl⟩, ?_⟩
                refine k23 _ ?_
                refine d_ret ?_
                change RetD _ _ _ _ _ _ _
                exact fin [] (.tmp (.nil)) (h1 := .t ⟨⟨c1, c2⟩, ⟨c3, c4⟩, ⟨c5, c6⟩, fun h => absurd h z, fun _ => ⟨m, hil, ⟨d1, by omega, o1, o2, e1, e2, e3⟩⟩⟩)
               ·
                refine d_any mixedP rfl (by kernel_rfl) ?_
                refine go (m_move) ?_
                refine go (m_len ty_26) ?_
                refine go (m_load ty_25) ?_
                refine go (m_load ty_56) ?_
                refine go (m_call (frames_d s q b f l n hs.shp.sh)) ?_
                refine go (m_bin) ?_
                refine go (m_move) ?_
                first | refine no ?_ | refine go (m_move) ?_
                first | refine no ?_ | refine go (m_len ty_26) ?_
                first | refine no ?_ | refine go (m_move) ?_
                first | refine no ?_ | refine go (m_bin) ?_
                refine go (m_pick) ?_
                refine go (m_move) ?_
                first | refine no ?_ | refine go (m_move) ?_
                first | refine no ?_ | refine go (m_move) ?_
                first | refine no ?_ | refine go (m_len ty_26) ?_
                first | refine no ?_ | refine go (m_bin) ?_
                first | refine no ?_ | refine go (m_ia ty_26 ty_3 (hc := .own0Z (n := (m : Int) - 1) rfl rfl rfl rfl (by omega) (by omega))) ?_
                first | refine no ?_ | refine go (m_load ty_3 (hc := .ptrM rfl rfl (by rw [itL_len]; omega)) (hd := by exact congrArg (fun z => some (DI z)) (hla _))) ?_
                first | refine no ?_ | refine go (m_fa ty_56) ?_
                first | refine no ?_ | refine go (m_load ty_3) ?_
                first | refine no ?_ | refine go (m_bin) ?_
                refine go (m_pick) ?_
                refine go (m_set) ?_
                refine .nil ⟨⟨by kernel_rfl, by kernel_rfl⟩, ?_⟩
                refine k23 _ ?_
                refine d_ret ?_
                change RetD _ _ _ _ _ _ _
                exact fin [] (.tmp (.nil)) (h1 := .f fun h => by obtain ⟨k, h0, h1⟩ := h.2.2.2.2 z; have h2 := h0.uniq hil; subst h2; exact e3 h1.last)
              ·
               refine d_any mixedP rfl (by kernel_rfl) ?_
               refine go (m_move) ?_
               refine go (m_len ty_26) ?_
               refine go (m_load ty_25) ?_
               refine go (m_load ty_56) ?_
               refine go (m_call (frames_d s q b f l n hs.shp.sh)) ?_
               refine go (m_bin) ?_
               refine go (m_move) ?_
               first | refine no ?_ | refine go (m_move) ?_
               first | refine no ?_ | refine go (m_len ty_26) ?_
               first | refine no ?_ | refine go (m_move) ?_
               first | refine no ?_ | refine go (m_bin) ?_
               refine go (m_pick) ?_
               refine go (m_move) ?_
               first | refine no ?_ | refine go (m_move) ?_
               first | refine no ?_ | refine go (m_move) ?_
               first | refine no ?_ | refine go (m_len ty_26) ?_
               first | refine no ?_ | refine go (m_bin) ?_
               first | refine no ?_ | refine go (m_ia ty_26 ty_3 (hc := .own0Z (n := (m : Int) - 1) rfl rfl rfl rfl (by omega) (by omega))) ?_
               first | refine no ?_ | refine go (m_load ty_3 (hc := .ptrM rfl rfl (by rw [itL_len]; omega)) (hd := by exact congrArg (fun z => some (DI z)) (hla _))) ?_
               first | refine no ?_ | refine go (m_fa ty_56) ?_
               first | refine no ?_ | refine go (m_load ty_3) ?_
               first | refine no ?_ | refine go (m_bin) ?_
               refine go (m_pick) ?_
               refine go (m_set) ?_
               refine .nil ⟨⟨by kernel_rfl, by kernel_rfl⟩, ?_⟩
               refine k23 _ ?_
               refine d_ret ?_
               change RetD _ _ _ _ _ _ _
               exact fin [] (.tmp (.nil)) (h1 := .f fun h => by obtain ⟨k, h0, h1⟩ := h.2.2.2.2 z; have h2 := h0.uniq hil; subst h2; exact e2 h1.cnt)
             ·
              refine d_any mixedP rfl (by kernel_rfl) ?_
              refine go (m_move) ?_
              refine go (m_len ty_26) ?_
              refine go (m_load ty_25) ?_
              refine go (m_load ty_56) ?_
              refine go (m_call (frames_d s q b f l n hs.shp.sh)) ?_
              refine go (m_bin) ?_
              refine go (m_move) ?_
              first | refine no ?_ | refine go (m_move) ?_
              first | refine no ?_ | refine go (m_len ty_26) ?_
              first | refine no ?_ | refine go (m_move) ?_
              first | refine no ?_ | refine go (m_bin) ?_
              refine go (m_pick) ?_
              refine go (m_move) ?_
              first | refine no ?_ | refine go (m_move) ?_
              first | refine no ?_ | refine go (m_move) ?_
              first | refine no ?_ | refine go (m_len ty_26) ?_
              first | refine no ?_ | refine go (m_bin) ?_
              first | refine no ?_ | refine go (m_ia ty_26 ty_3 (hc := .own0Z (n := (m : Int) - 1) rfl rfl rfl rfl (by omega) (by omega))) ?_
              first | refine no ?_ | refine go (m_load ty_3 (hc := .ptrM rfl rfl (by rw [itL_len]; omega)) (hd := by exact congrArg (fun z => some (DI z)) (hla _))) ?_
              first | refine no ?_ | refine go (m_fa ty_56) ?_
              first | refine no ?_ | refine go (m_load ty_3) ?_
              first | refine no ?_ | refine go (m_bin) ?_
              refine go (m_pick) ?_
              refine go (m_set) ?_
              refine .nil ⟨⟨by kernel_rfl, by kernel_rfl⟩, ?_⟩
              refine k23 _ ?_
              refine d_ret ?_
              change RetD _ _ _ _ _ _ _
              exact fin [] (.tmp (.nil)) (h1 := .f fun h => by obtain ⟨k, h0, h1⟩ := h.2.2.2.2 z; have h2 := h0.uniq hil; subst h2; exact e1 h1.len)
           ·
            refine d_region rfl ?_
            refine go (m_fa ty_79) ?_
            refine go (m_load ty_3) ?_
            refine go (m_fa ty_56) ?_
            refine go (m_load ty_3) ?_
            refine go (m_bin) ?_
            refine go (m_move) ?_
            first | refine no ?_ | refine go (m_fa ty_79) ?_
            first | refine no ?_ | refine go (m_load ty_3) ?_
            first | refine no ?_ | refine go (m_fa ty_56) ?_
            first | refine no ?_ | refine go (m_load ty_3) ?_
            first | refine no ?_ | refine go (m_bin) ?_
            first | refine no ?_ | refine go (m_fa ty_56) ?_
            first | refine no ?_ | refine go (m_load ty_3) ?_
            first | refine no ?_ | refine go (m_bin) ?_
            first | refine no ?_ | refine go (m_bin) ?_
            refine go (m_pick) ?_
            refine .nil ⟨by kernel_rfl, ?_⟩
            refine k11 _ ?_
            refine d_condT rfl ?_
            refine d_seq fun K24 k24 => ?_
            refine d_region rfl ?_
            refine go (m_set) ?_
            refine .nil ⟨by kernel_rfl, ?_⟩
            refine k24 _ ?_
            refine d_ret ?_
            change RetD _ _ _ _ _ _ _
            exact fin [] (.tmp (.nil)) (h1 := .f fun h => by obtain ⟨k, _, h1⟩ := h.2.2.2.2 z; exact o2 h1.st)
          ·
           refine d_region rfl ?_
           refine go (m_fa ty_79) ?_
           refine go (m_load ty_3) ?_
           refine go (m_fa ty_56) ?_
           refine go (m_load ty_3) ?_
           refine go (m_bin) ?_
           refine go (m_move) ?_
           first | refine no ?_ | refine go (m_fa ty_79) ?_
           first | refine no ?_ | refine go (m_load ty_3) ?_
           first | refine no ?_ | refine go (m_fa ty_56) ?_
           first | refine no ?_ | refine go (m_load ty_3) ?_
           first | refine no ?_ | refine go (m_bin) ?_
           first | refine no ?_ | refine go (m_fa ty_56) ?_
           first | refine no ?_ | refine go (m_load ty_3) ?_
           first | refine no ?_ | refine go (m_bin) ?_
           first | refine no ?_ | refine go (m_bin) ?_
           refine go (m_pick) ?_
           refine .nil ⟨by kernel_rfl, ?_⟩
           refine k11 _ ?_
           refine d_condT rfl ?_
           refine d_seq fun K25 k25 => ?_
           refine d_region rfl ?_
           refine go (m_set) ?_
           refine .nil ⟨by kernel_rfl, ?_⟩
           refine k25 _ ?_
           refine d_ret ?_
           change RetD _ _ _ _ _ _ _
           exact fin [] (.tmp (.nil)) (h1 := .f fun h => by obtain ⟨k, _, h1⟩ := h.2.2.2.2 z; exact o1 h1.ow)
         ·
          refine d_region rfl ?_
          refine go (m_fa ty_56) ?_
          refine go (m_load ty_3) ?_
          refine go (m_bin) ?_
          refine go (m_move) ?_
          first | refine no ?_ | refine go (m_fa ty_56) ?_
          first | refine no ?_ | refine go (m_load ty_3) ?_
          first | refine no ?_ | refine go (m_fa ty_25) ?_
          first | refine no ?_ | refine go (m_load ty_23) ?_
          first | refine no ?_ | refine go (m_len ty_23) ?_
          first | refine no ?_ | refine go (m_bin) ?_
          refine go (m_pick) ?_
          refine .nil ⟨by kernel_rfl, ?_⟩
          refine k8 _ ?_
          refine d_condT rfl ?_
          refine d_seq fun K26 k26 => ?_
          refine d_region rfl ?_
          refine go (m_set) ?_
          refine .nil ⟨by kernel_rfl, ?_⟩
          refine k26 _ ?_
          refine d_ret ?_
          change RetD _ _ _ _ _ _ _
          exact fin [] (.tmp (.nil)) (h1 := .f fun h => by obtain ⟨k, _, h1⟩ := h.2.2.2.2 z; have h2 := h1.lo; have h3 := h1.hi; omega)
        ·
         refine d_region rfl ?_
         refine go (m_fa ty_56) ?_
         refine go (m_load ty_3) ?_
         refine go (m_bin) ?_
         refine go (m_move) ?_
         first | refine no ?_ | refine go (m_fa ty_56) ?_
         first | refine no ?_ | refine go (m_load ty_3) ?_
         first | refine no ?_ | refine go (m_fa ty_25) ?_
         first | refine no ?_ | refine go (m_load ty_23) ?_
         first | refine no ?_ | refine go (m_len ty_23) ?_
         first | refine no ?_ | refine go (m_bin) ?_
         refine go (m_pick) ?_
         refine .nil ⟨by kernel_rfl, ?_⟩
         refine k8 _ ?_
         refine d_condT rfl ?_
         refine d_seq fun K27 k27 => ?_
         refine d_region rfl ?_
         refine go (m_set) ?_
         refine .nil ⟨by kernel_rfl, ?_⟩
         refine k27 _ ?_
         refine d_ret ?_
         change RetD _ _ _ _ _ _ _
         exact fin [] (.tmp (.nil)) (h1 := .f fun h => by obtain ⟨k, _, h1⟩ := h.2.2.2.2 z; have h2 := h1.lo; have h3 := h1.hi; omega)
      ·
       refine d_region rfl ?_
       refine go (m_fa ty_56) ?_
       refine go (m_load ty_3) ?_
       refine go (m_bin) ?_
       refine go (m_move) ?_
       first | refine no ?_ | refine go (m_fa ty_56) ?_
       first | refine no ?_ | refine go (m_load ty_3) ?_
       first | refine no ?_ | refine go (m_bin) ?_
       refine go (m_pick) ?_
       refine go (m_move) ?_
       first | refine no ?_ | refine go (m_fa ty_56) ?_
       first | refine no ?_ | refine go (m_load ty_3) ?_
       first | refine no ?_ | refine go (m_bin) ?_
       refine go (m_pick) ?_
       refine go (m_move) ?_
       first | refine no ?_ | refine go (m_fa ty_56) ?_
       first | refine no ?_ | refine go (m_load ty_3) ?_
       first | refine no ?_ | refine go (m_bin) ?_
       refine go (m_pick) ?_
       refine go (m_move) ?_
       first | refine no ?_ | refine go (m_fa ty_56) ?_
       first | refine no ?_ | refine go (m_load ty_3) ?_
       first | refine no ?_ | refine go (m_bin) ?_
       refine go (m_pick) ?_
       refine go (m_move) ?_
       first | refine no ?_ | refine go (m_fa ty_56) ?_
       first | refine no ?_ | refine go (m_load ty_3) ?_
       first | refine no ?_ | refine go (m_fa ty_25) ?_
       first | refine no ?_ | refine go (m_load ty_22) ?_
       first | refine no ?_ | refine go (m_len ty_22) ?_
       first | refine no ?_ | refine go (m_bin) ?_
       refine go (m_pick) ?_
       refine .nil ⟨by kernel_rfl, ?_⟩
       refine k3 _ ?_
       refine d_condT rfl ?_
       refine d_seq fun K28 k28 => ?_
       refine d_region rfl ?_
       refine go (m_set) ?_
       refine .nil ⟨by kernel_rfl, ?_⟩
       refine k28 _ ?_
       refine d_ret ?_
       change RetD _ _ _ _ _ _ _
       exact fin [] (.tmp (.nil)) (h1 := .f fun h => by have h1 := h.1; have h2 := h.2.1; have h3 := h.2.2.1; omega)
     ·
      refine d_region rfl ?_
      refine go (m_fa ty_56) ?_
      refine go (m_load ty_3) ?_
      refine go (m_bin) ?_
      refine go (m_move) ?_
      first | refine no ?_ | refine go (m_fa ty_56) ?_
      first | refine no ?_ | refine go (m_load ty_3) ?_
      first | refine no ?_ | refine go (m_bin) ?_
      refine go (m_pick) ?_
      refine go (m_move) ?_
      first | refine no ?_ | refine go (m_fa ty_56) ?_
      first | refine no ?_ | refine go (m_load ty_3) ?_
      first | refine no ?_ | refine go (m_bin) ?_
      refine go (m_pick) ?_
      refine go (m_move) ?_
      first | refine no ?_ | refine go (m_fa ty_56) ?_
      first | refine no ?_ | refine go (m_load ty_3) ?_
      first | refine no ?_ | refine go (m_bin) ?_
      refine go (m_pick) ?_
      refine go (m_move) ?_
      first | refine no ?_ | refine go (m_fa ty_56) ?_
      first | refine no ?_ | refine go (m_load ty_3) ?_
      first | refine no ?_ | refine go (m_bin) ?_
      refine go (m_pick) ?_
      refine go (m_move) ?_
      first | refine no ?_ | refine go (m_fa ty_56) ?_
      first | refine no ?_ | refine go (m_load ty_3) ?_
      first | refine no ?_ | refine go (m_fa ty_25) ?_
      first | refine no ?_ | refine go (m_load ty_22) ?_
      first | refine no ?_ | refine go (m_len ty_22) ?_
      first | refine no ?_ | refine go (m_bin) ?_
      refine go (m_pick) ?_
      refine .nil ⟨by kernel_rfl, ?_⟩
      refine k3 _ ?_
      refine d_condT rfl ?_
      refine d_seq fun K29 k29 => ?_
      refine d_region rfl ?_
      refine go (m_set) ?_
      refine .nil ⟨by kernel_rfl, ?_⟩
      refine k29 _ ?_
      refine d_ret ?_
      change RetD _ _ _ _ _ _ _
      exact fin [] (.tmp (.nil)) (h1 := .f fun h => by have h1 := h.1; have h2 := h.2.1; have h3 := h.2.2.1; omega)
    ·
     refine d_region rfl ?_
     refine go (m_fa ty_56) ?_
     refine go (m_load ty_3) ?_
     refine go (m_bin) ?_
     refine go (m_move) ?_
     first | refine no ?_ | refine go (m_fa ty_56) ?_
     first | refine no ?_ | refine go (m_load ty_3) ?_
     first | refine no ?_ | refine go (m_bin) ?_
     refine go (m_pick) ?_
     refine go (m_move) ?_
     first | refine no ?_ | refine go (m_fa ty_56) ?_
     first | refine no ?_ | refine go (m_load ty_3) ?_
     first | refine no ?_ | refine go (m_bin) ?_
     refine go (m_pick) ?_
     refine go (m_move) ?_
     first | refine no ?_ | refine go (m_fa ty_56) ?_
     first | refine no ?_ | refine go (m_load ty_3) ?_
     first | refine no ?_ | refine go (m_bin) ?_
     refine go (m_pick) ?_
     refine go (m_move) ?_
     first | refine no ?_ | refine go (m_fa ty_56) ?_
     first | refine no ?_ | refine go (m_load ty_3) ?_
     first | refine no ?_ | refine go (m_bin) ?_
     refine go (m_pick) ?_
     refine go (m_move) ?_
     first | refine no ?_ | refine go (m_fa ty_56) ?_
     first | refine no ?_ | refine go (m_load ty_3) ?_
     first | refine no ?_ | refine go (m_fa ty_25) ?_
     first | refine no ?_ | refine go (m_load ty_22) ?_
     first | refine no ?_ | refine go (m_len ty_22) ?_
     first | refine no ?_ | refine go (m_bin) ?_
     refine go (m_pick) ?_
     refine .nil ⟨by kernel_rfl, ?_⟩
     refine k3 _ ?_
     refine d_condT rfl ?_
     refine d_seq fun K30 k30 => ?_
     refine d_region rfl ?_
     refine go (m_set) ?_
     refine .nil ⟨by kernel_rfl, ?_⟩
     refine k30 _ ?_
     refine d_ret ?_
     change RetD _ _ _ _ _ _ _
     exact fin [] (.tmp (.nil)) (h1 := .f fun h => by have h1 := h.1; have h2 := h.2.1; have h3 := h.2.2.1; omega)
   ·
    refine d_region rfl ?_
    refine go (m_fa ty_56) ?_
    refine go (m_load ty_3) ?_
    refine go (m_bin) ?_
    refine go (m_move) ?_
    first | refine no ?_ | refine go (m_fa ty_56) ?_
    first | refine no ?_ | refine go (m_load ty_3) ?_
    first | refine no ?_ | refine go (m_bin) ?_
    refine go (m_pick) ?_
    refine go (m_move) ?_
    first | refine no ?_ | refine go (m_fa ty_56) ?_
    first | refine no ?_ | refine go (m_load ty_3) ?_
    first | refine no ?_ | refine go (m_bin) ?_
    refine go (m_pick) ?_
    refine go (m_move) ?_
    first | refine no ?_ | refine go (m_fa ty_56) ?_
    first | refine no ?_ | refine go (m_load ty_3) ?_
    first | refine no ?_ | refine go (m_bin) ?_
    refine go (m_pick) ?_
    refine go (m_move) ?_
    first | refine no ?_ | refine go (m_fa ty_56) ?_
    first | refine no ?_ | refine go (m_load ty_3) ?_
    first | refine no ?_ | refine go (m_bin) ?_
    refine go (m_pick) ?_
    refine go (m_move) ?_
    first | refine no ?_ | refine go (m_fa ty_56) ?_
    first | refine no ?_ | refine go (m_load ty_3) ?_
    first | refine no ?_ | refine go (m_fa ty_25) ?_
    first | refine no ?_ | refine go (m_load ty_22) ?_
    first | refine no ?_ | refine go (m_len ty_22) ?_
    first | refine no ?_ | refine go (m_bin) ?_
    refine go (m_pick) ?_
    refine .nil ⟨by kernel_rfl, ?_⟩
    refine k3 _ ?_
    refine d_condT rfl ?_
    refine d_seq fun K31 k31 => ?_
    refine d_region rfl ?_
    refine go (m_set) ?_
    refine .nil ⟨by kernel_rfl, ?_⟩
    refine k31 _ ?_
    refine d_ret ?_
    change RetD _ _ _ _ _ _ _
    exact fin [] (.tmp (.nil)) (h1 := .f fun h => by have h1 := h.1; have h2 := h.2.1; have h3 := h.2.2.1; omega)
  ·
   refine d_region rfl ?_
   refine go (m_fa ty_56) ?_
   refine go (m_load ty_3) ?_
   refine go (m_bin) ?_
   refine go (m_move) ?_
   first | refine no ?_ | refine go (m_fa ty_56) ?_
   first | refine no ?_ | refine go (m_load ty_3) ?_
   first | refine no ?_ | refine go (m_bin) ?_
   refine go (m_pick) ?_
   refine go (m_move) ?_
   first | refine no ?_ | refine go (m_fa ty_56) ?_
   first | refine no ?_ | refine go (m_load ty_3) ?_
   first | refine no ?_ | refine go (m_bin) ?_
   refine go (m_pick) ?_
   refine go (m_move) ?_
   first | refine no ?_ | refine go (m_fa ty_56) ?_
   first | refine no ?_ | refine go (m_load ty_3) ?_
   first | refine no ?_ | refine go (m_bin) ?_
   refine go (m_pick) ?_
   refine go (m_move) ?_
   first | refine no ?_ | refine go (m_fa ty_56) ?_
   first | refine no ?_ | refine go (m_load ty_3) ?_
   first | refine no ?_ | refine go (m_bin) ?_
   refine go (m_pick) ?_
   refine go (m_move) ?_
   first | refine no ?_ | refine go (m_fa ty_56) ?_
   first | refine no ?_ | refine go (m_load ty_3) ?_
   first | refine no ?_ | refine go (m_fa ty_25) ?_
   first | refine no ?_ | refine go (m_load ty_22) ?_
   first | refine no ?_ | refine go (m_len ty_22) ?_
   first | refine no ?_ | refine go (m_bin) ?_
   refine go (m_pick) ?_
   refine .nil ⟨by kernel_rfl, ?_⟩
   refine k3 _ ?_
   refine d_condT rfl ?_
   refine d_seq fun K32 k32 => ?_
   refine d_region rfl ?_
   refine go (m_set) ?_
   refine .nil ⟨by kernel_rfl, ?_⟩
   refine k32 _ ?_
   refine d_ret ?_
   change RetD _ _ _ _ _ _ _
   exact fin [] (.tmp (.nil)) (h1 := .f fun h => by have h1 := h.1; have h2 := h.2.1; have h3 := h.2.2.1; omega)
 ·
  refine d_region rfl ?_
  refine go (m_fa ty_56) ?_
  refine go (m_load ty_3) ?_
  refine go (m_bin) ?_
  refine go (m_move) ?_
  first | refine no ?_ | refine go (m_fa ty_56) ?_
  first | refine no ?_ | refine go (m_load ty_3) ?_
  first | refine no ?_ | refine go (m_bin) ?_
  refine go (m_pick) ?_
  refine go (m_move) ?_
  first | refine no ?_ | refine go (m_fa ty_56) ?_
  first | refine no ?_ | refine go (m_load ty_3) ?_
  first | refine no ?_ | refine go (m_bin) ?_
  refine go (m_pick) ?_
  refine go (m_move) ?_
  first | refine no ?_ | refine go (m_fa ty_56) ?_
  first | refine no ?_ | refine go (m_load ty_3) ?_
  first | refine no ?_ | refine go (m_bin) ?_
  refine go (m_pick) ?_
  refine go (m_move) ?_
  first | refine no ?_ | refine go (m_fa ty_56) ?_
  first | refine no ?_ | refine go (m_load ty_3) ?_
  first | refine no ?_ | refine go (m_bin) ?_
  refine go (m_pick) ?_
  refine go (m_move) ?_
  first | refine no ?_ | refine go (m_fa ty_56) ?_
  first | refine no ?_ | refine go (m_load ty_3) ?_
  first | refine no ?_ | refine go (m_fa ty_25) ?_
  first | refine no ?_ | refine go (m_load ty_22) ?_
  first | refine no ?_ | refine go (m_len ty_22) ?_
  first | refine no ?_ | refine go (m_bin) ?_
  refine go (m_pick) ?_
  refine .nil ⟨by kernel_rfl, ?_⟩
  refine k3 _ ?_
  refine d_condT rfl ?_
  refine d_seq fun K33 k33 => ?_
  refine d_region rfl ?_
  refine go (m_set) ?_
  refine .nil ⟨by kernel_rfl, ?_⟩
  refine k33 _ ?_
  refine d_ret ?_
  change RetD _ _ _ _ _ _ _
  exact fin [] (.tmp (.nil)) (h1 := .f fun h => by have h1 := h.1; have h2 := h.2.1; have h3 := h.2.2.1; omega)

end Go.Proofs.Ytbidedbpmhcoaaa
/- Increments are valid. No condition. -/
namespace Go.Proofs.Ytbidedbpmhcoaaa
open Go.RowKit
set_option linter.unusedSimpArgs false
set_option linter.unusedVariables false
set_option maxRecDepth 20000 in
set_option maxHeartbeats 4000000 in
theorem valid09_d (s : Sp) (q b f l n : Int) (hW : SpW s) : DCall Try.prog 67 [spD s, .agg (incC q b f l n)] [] (DB (bP (SpOk s ∧ FitP s q b f l n))) [] := by
 refine DCall.mk Try.func67 rfl rfl ?_
 by_cases hs : SpOk s
 ·
  by_cases hf : FitP s q b f l n
  ·
   refine d_seq fun K1 k1 => ?_
   refine d_region rfl ?_
   refine go (m_box ty_25) ?_
   refine go (m_box ty_56) ?_
   refine go (m_set) ?_
   refine .nil ⟨by kernel_rfl, ?_⟩
   refine k1 _ ?_
   refine d_seq fun K2 k2 => ?_
   refine d_region rfl ?_
   refine go (m_load ty_25) ?_
   refine go (m_call ((rvalid_d s hW).t hs)) ?_
   refine go (m_move) ?_
   first | refine no ?_ | refine go (m_load ty_25) ?_
   first | refine no ?_ | refine go (m_load ty_56) ?_
   first | refine no ?_ | refine go (m_call ((fits09_d s q b f l n hs).t hf)) ?_
   refine go (m_pick) ?_
   refine go (m_set) ?_
   refine .nil ⟨by kernel_rfl, ?_⟩
   refine k2 _ ?_
   refine d_ret ?_
   change RetD _ _ _ _ _ _ _
   exact fin [] (.tmp (.nil)) (h1 := .t ⟨hs, hf⟩)
  ·
   refine d_seq fun K3 k3 => ?_
   refine d_region rfl ?_
   refine go (m_box ty_25) ?_
   refine go (m_box ty_56) ?_
   refine go (m_set) ?_
   refine .nil ⟨by kernel_rfl, ?_⟩
   refine k3 _ ?_
   refine d_seq fun K4 k4 => ?_
   refine d_region rfl ?_
   refine go (m_load ty_25) ?_
   refine go (m_call ((rvalid_d s hW).t hs)) ?_
   refine go (m_move) ?_
   first | refine no ?_ | refine go (m_load ty_25) ?_
   first | refine no ?_ | refine go (m_load ty_56) ?_
   first | refine no ?_ | refine go (m_call ((fits09_d s q b f l n hs).f hf)) ?_
   refine go (m_pick) ?_
   refine go (m_set) ?_
   refine .nil ⟨by kernel_rfl, ?_⟩
   refine k4 _ ?_
   refine d_ret ?_
   change RetD _ _ _ _ _ _ _
   exact fin [] (.tmp (.nil)) (h1 := .f fun h => hf h.2)
 ·
  refine d_seq fun K5 k5 => ?_
  refine d_region rfl ?_
  refine go (m_box ty_25) ?_
  refine go (m_box ty_56) ?_
  refine go (m_set) ?_
  refine .nil ⟨by kernel_rfl, ?_⟩
  refine k5 _ ?_
  refine d_seq fun K6 k6 => ?_
  refine d_region rfl ?_
  refine go (m_load ty_25) ?_
  refine go (m_call ((rvalid_d s hW).f hs)) ?_
  refine go (m_move) ?_
  first | refine no ?_ | refine go (m_load ty_25) ?_
  first | refine no ?_ | refine go (m_load ty_56) ?_
  first | refine no ?_ | refine go (m_call ((fits09_d s q b f l n hs).f hf)) ?_
  refine go (m_pick) ?_
  refine go (m_set) ?_
  refine .nil ⟨by kernel_rfl, ?_⟩
  refine k6 _ ?_
  refine d_ret ?_
  change RetD _ _ _ _ _ _ _
  exact fin [] (.tmp (.nil)) (h1 := .f fun h => hs h.1)

end Go.Proofs.Ytbidedbpmhcoaaa
/- Functions whose answers are known, as plain functions. No condition. -/
namespace Go.Proofs.Ytbidedbpmhcoaaa
open Go.RowKit
set_option linter.unusedSimpArgs false
set_option linter.unusedVariables false
/-- a field written: the space, and the error -/
noncomputable def SetR (s : Sp) (a i : Int) (ref : Bool) (w : Int) : Sp × Int := if (PlaceR s a i ref).2 = 0 then (setS s (PlaceR s a i ref).1 w, 0) else (⟨0, [], []⟩, (PlaceR s a i ref).2)
/-- the slots of an object, and the error -/
noncomputable def SlR (s : Sp) (a : Int) : List Int × Int := if (ShapeR s a).e = 0 then (fldL s a (ShapeR s a).r.toNat, 0) else ([], (ShapeR s a).e)
/-- an object begun: the space, and the error -/
noncomputable def IniR (s : Sp) (a r d : Int) : Sp × Int := if IniE s a r d = 0 then (⟨s.sh, clrL s a (r + d).toNat (s.ws.set a.toNat (hdW r d)), s.fs⟩, 0) else (⟨0, [], []⟩, IniE s a r d)
theorem PlaceR_bad {s : Sp} {a i : Int} {ref : Bool} (h : ¬ (PlaceR s a i ref).2 = 0) : PlaceR s a i ref = (0, (PlaceR s a i ref).2) := by
  unfold PlaceR at h ⊢
  split
  · rfl
  · split
    · rfl
    · rename_i h1 h2
      rw [if_neg h1, if_neg h2] at h
      exact absurd rfl h
theorem ckc {β : Type} {p : Prop} {inst : Decidable p} {A : Option β} {r : β} (H : @ite _ p inst A none = some r) : p ∧ A = some r := by
  by_cases h : p
  · rw [if_pos h] at H; exact ⟨h, H⟩
  · rw [if_neg h] at H; cases H
theorem Cv.frzW {sto : Sto} {ρ : Ren} {s n z : Nat} {fz : Bool} {α : Type} {c : α → List DV} {l : List α} (h : sto.get s = some ⟨z, true, fz, l.map c⟩) (hn : n = l.length) : Cv sto ρ (.own s 0 n) (.sl (l.map c)) [s] := Cv.frzM h hn

structure Inc where
  seq : Int
  belt : Int
  first : Int
  last : Int
  words : Int
def Inc.c (x : Inc) : List DV := [DI x.seq, DI x.belt, DI x.first, DI x.last, DI x.words]

noncomputable def F_frame_Valid (p0 : Sp) : Option Bool := open Classical in if SpW p0 then some (bP (SpOk p0)) else none
theorem F_frame_Valid_ok {p0 : Sp} {r : Bool} (H : F_frame_Valid p0 = some r) : DCall Try.prog 50 [.agg [DI p0.sh, .sl (p0.ws.map uC), .sl (p0.fs.map frC)]] [] (DB r) [] := by
  unfold F_frame_Valid at H
  replace H := ckc H
  obtain ⟨h, H⟩ := H
  have e := som H; subst e
  exact valid_d p0 h

noncomputable def F_ref03_Valid (p0 : Sp) : Option Bool := open Classical in if SpW p0 then some (bP (SpOk p0)) else none
theorem F_ref03_Valid_ok {p0 : Sp} {r : Bool} (H : F_ref03_Valid p0 = some r) : DCall Try.prog 55 [.agg [DI p0.sh, .sl (p0.ws.map uC), .sl (p0.fs.map frC)]] [] (DB r) [] := by
  unfold F_ref03_Valid at H
  replace H := ckc H
  obtain ⟨h, H⟩ := H
  have e := som H; subst e
  exact rvalid_d p0 h

noncomputable def F_ref03_Same (p0 : Sp) (p1 : Sp) : Option Bool := open Classical in if True then some (bP (SpEq p0 p1)) else none
theorem F_ref03_Same_ok {p0 : Sp} {p1 : Sp} {r : Bool} (H : F_ref03_Same p0 p1 = some r) : DCall Try.prog 20 [.agg [DI p0.sh, .sl (p0.ws.map uC), .sl (p0.fs.map frC)], .agg [DI p1.sh, .sl (p1.ws.map uC), .sl (p1.fs.map frC)]] [] (DB r) [] := by
  unfold F_ref03_Same at H
  replace H := ckc H
  obtain ⟨h, H⟩ := H
  have e := som H; subst e
  exact rsame_d p0 p1

noncomputable def F_chain_Step (p0 : Sp) (p1 : Int) (p2 : Int) : Option (Int × Int) := open Classical in if SpW p0 ∧ I64 p1 ∧ I64 p2 then some (StepR p0 p1 p2) else none
theorem F_chain_Step_ok {p0 : Sp} {p1 : Int} {p2 : Int} {r : Int × Int} (H : F_chain_Step p0 p1 p2 = some r) : DCall Try.prog 52 [.agg [DI p0.sh, .sl (p0.ws.map uC), .sl (p0.fs.map frC)], DI p1, DI p2] [] (.tup [DI r.1, DI r.2]) [] := by
  unfold F_chain_Step at H
  replace H := ckc H
  obtain ⟨h, H⟩ := H
  have e := som H; subst e
  exact step_d p0 p1 p2 h.1 h.2.1 h.2.2

noncomputable def F_ref05_Go (p0 : Sp) (p1 : Int) (p2 : Int) : Option (Int × Int) := open Classical in if ShpS p0 ∧ NxIn p0.fs ∧ I64 p1 ∧ I64 p2 then some (GoR p0 p1 p2) else none
theorem F_ref05_Go_ok {p0 : Sp} {p1 : Int} {p2 : Int} {r : Int × Int} (H : F_ref05_Go p0 p1 p2 = some r) : DCall Try.prog 44 [.agg [DI p0.sh, .sl (p0.ws.map uC), .sl (p0.fs.map frC)], DI p1, DI p2] [] (.tup [DI r.1, DI r.2]) [] := by
  unfold F_ref05_Go at H
  replace H := ckc H
  obtain ⟨h, H⟩ := H
  have e := som H; subst e
  exact go_d p0 p1 p2 h.1 h.2.1 h.2.2.1 h.2.2.2

noncomputable def F_header_Live (p0 : Int) (p1 : Int) : Option (Int × Int) := open Classical in if True then some (LiveR p0 p1) else none
theorem F_header_Live_ok {p0 : Int} {p1 : Int} {r : Int × Int} (H : F_header_Live p0 p1 = some r) : DCall Try.prog 51 [DI p0, DI p1] [] (.tup [DU r.1, DI r.2]) [] := by
  unfold F_header_Live at H
  replace H := ckc H
  obtain ⟨h, H⟩ := H
  have e := som H; subst e
  exact live_d p0 p1

noncomputable def F_ref07_Live (p0 : Int) (p1 : Int) : Option (Int × Int) := open Classical in if True then some (LiveR p0 p1) else none
theorem F_ref07_Live_ok {p0 : Int} {p1 : Int} {r : Int × Int} (H : F_ref07_Live p0 p1 = some r) : DCall Try.prog 90 [DI p0, DI p1] [] (.tup [DU r.1, DI r.2]) [] := by
  unfold F_ref07_Live at H
  replace H := ckc H
  obtain ⟨h, H⟩ := H
  have e := som H; subst e
  exact rlive_d p0 p1

noncomputable def F_header_Decode (p0 : Int) : Option (Int × Int × Int × Bool × Int) := open Classical in if U64 p0 then some ((DecR p0).r, (DecR p0).d, (DecR p0).a, (DecR p0).mv, (DecR p0).e) else none
theorem F_header_Decode_ok {p0 : Int} {r : Int × Int × Int × Bool × Int} (H : F_header_Decode p0 = some r) : DCall Try.prog 91 [DU p0] [] (.tup [DI r.1, DI r.2.1, DI r.2.2.1, DB r.2.2.2.1, DI r.2.2.2.2]) [] := by
  unfold F_header_Decode at H
  replace H := ckc H
  obtain ⟨h, H⟩ := H
  have e := som H; subst e
  unfold U64 at h
  obtain ⟨n, rfl⟩ : ∃ n : Nat, p0 = n := ⟨p0.toNat, by omega⟩
  exact dec_d n (by omega)

noncomputable def F_ref07_Decode (p0 : Int) : Option (Int × Int × Int × Bool × Int) := open Classical in if U64 p0 then some ((DecR p0).r, (DecR p0).d, (DecR p0).a, (DecR p0).mv, (DecR p0).e) else none
theorem F_ref07_Decode_ok {p0 : Int} {r : Int × Int × Int × Bool × Int} (H : F_ref07_Decode p0 = some r) : DCall Try.prog 92 [DU p0] [] (.tup [DI r.1, DI r.2.1, DI r.2.2.1, DB r.2.2.2.1, DI r.2.2.2.2]) [] := by
  unfold F_ref07_Decode at H
  replace H := ckc H
  obtain ⟨h, H⟩ := H
  have e := som H; subst e
  unfold U64 at h
  obtain ⟨n, rfl⟩ : ∃ n : Nat, p0 = n := ⟨p0.toNat, by omega⟩
  exact rdec_d n (by omega)

noncomputable def F_object_Shape (p0 : Sp) (p1 : Int) : Option (Int × Int × Int) := open Classical in if SpW p0 ∧ I64 p1 then some ((ShapeR p0 p1).r, (ShapeR p0 p1).d, (ShapeR p0 p1).e) else none
theorem F_object_Shape_ok {p0 : Sp} {p1 : Int} {r : Int × Int × Int} (H : F_object_Shape p0 p1 = some r) : DCall Try.prog 21 [.agg [DI p0.sh, .sl (p0.ws.map uC), .sl (p0.fs.map frC)], DI p1] [] (.tup [DI r.1, DI r.2.1, DI r.2.2]) [] := by
  unfold F_object_Shape at H
  replace H := ckc H
  obtain ⟨h, H⟩ := H
  have e := som H; subst e
  exact shape_d p0 p1 h.1 h.2

noncomputable def F_ref08_Shape (p0 : Sp) (p1 : Int) : Option (Int × Int × Int) := open Classical in if SpW p0 ∧ I64 p1 then some ((ShapeR p0 p1).r, (ShapeR p0 p1).d, (ShapeR p0 p1).e) else none
theorem F_ref08_Shape_ok {p0 : Sp} {p1 : Int} {r : Int × Int × Int} (H : F_ref08_Shape p0 p1 = some r) : DCall Try.prog 22 [.agg [DI p0.sh, .sl (p0.ws.map uC), .sl (p0.fs.map frC)], DI p1] [] (.tup [DI r.1, DI r.2.1, DI r.2.2]) [] := by
  unfold F_ref08_Shape at H
  replace H := ckc H
  obtain ⟨h, H⟩ := H
  have e := som H; subst e
  exact rshape_d p0 p1 h.1 h.2

noncomputable def F_object_Ref (p0 : Sp) (p1 : Int) (p2 : Int) : Option (Int × Int) := open Classical in if SpW p0 ∧ I64 p1 then some (GetR p0 p1 p2 true) else none
theorem F_object_Ref_ok {p0 : Sp} {p1 : Int} {p2 : Int} {r : Int × Int} (H : F_object_Ref p0 p1 p2 = some r) : DCall Try.prog 26 [.agg [DI p0.sh, .sl (p0.ws.map uC), .sl (p0.fs.map frC)], DI p1, DI p2] [] (.tup [DU r.1, DI r.2]) [] := by
  unfold F_object_Ref at H
  replace H := ckc H
  obtain ⟨h, H⟩ := H
  have e := som H; subst e
  exact oRef_d p0 p1 p2 h.1 h.2

noncomputable def F_object_SetRef (p0 : Sp) (p1 : Int) (p2 : Int) (p3 : Int) : Option (Sp × Int) := open Classical in if SpW p0 ∧ I64 p1 ∧ SpLen p0 then some (SetR p0 p1 p2 true p3) else none
theorem F_object_SetRef_ok {p0 : Sp} {p1 : Int} {p2 : Int} {p3 : Int} {r : Sp × Int} (H : F_object_SetRef p0 p1 p2 p3 = some r) : DCall Try.prog 28 [.agg [DI p0.sh, .sl (p0.ws.map uC), .sl (p0.fs.map frC)], DI p1, DI p2, DU p3] [] (.tup [.agg [DI r.1.sh, .sl (r.1.ws.map uC), .sl (r.1.fs.map frC)], DI r.2]) [] := by
  unfold F_object_SetRef at H
  replace H := ckc H
  obtain ⟨h, H⟩ := H
  have e := som H; subst e
  by_cases hp : (PlaceR p0 p1 p2 true).2 = 0
  · have hv : SetR p0 p1 p2 true p3 = (setS p0 (PlaceR p0 p1 p2 true).1 p3, 0) := if_pos hp
    rw [hv]
    exact (osetRef_ok p0 p1 p2 p3 h.1 h.2.1 _ (Prod.ext rfl hp) h.2.2).conv [] (.tup (.cons (.agg (.cons .lit (.cons (.frzW rfl (setS_len _ _ _).symm) (.cons (.frzW rfl rfl) .nil)))) (.cons .lit .nil))) .nil rfl
  · have hv : SetR p0 p1 p2 true p3 = (⟨0, [], []⟩, (PlaceR p0 p1 p2 true).2) := if_neg hp
    rw [hv]
    exact (osetRef_bad p0 p1 p2 p3 h.1 h.2.1 _ (PlaceR_bad hp) hp h.2.2).conv [] (.tup (.cons (.agg (.cons .lit (.cons .nil (.cons .nil .nil)))) (.cons .lit .nil))) .nil rfl

noncomputable def F_object_Data (p0 : Sp) (p1 : Int) (p2 : Int) : Option (Int × Int) := open Classical in if SpW p0 ∧ I64 p1 then some (GetR p0 p1 p2 false) else none
theorem F_object_Data_ok {p0 : Sp} {p1 : Int} {p2 : Int} {r : Int × Int} (H : F_object_Data p0 p1 p2 = some r) : DCall Try.prog 30 [.agg [DI p0.sh, .sl (p0.ws.map uC), .sl (p0.fs.map frC)], DI p1, DI p2] [] (.tup [DU r.1, DI r.2]) [] := by
  unfold F_object_Data at H
  replace H := ckc H
  obtain ⟨h, H⟩ := H
  have e := som H; subst e
  exact oData_d p0 p1 p2 h.1 h.2

noncomputable def F_object_SetData (p0 : Sp) (p1 : Int) (p2 : Int) (p3 : Int) : Option (Sp × Int) := open Classical in if SpW p0 ∧ I64 p1 ∧ SpLen p0 then some (SetR p0 p1 p2 false p3) else none
theorem F_object_SetData_ok {p0 : Sp} {p1 : Int} {p2 : Int} {p3 : Int} {r : Sp × Int} (H : F_object_SetData p0 p1 p2 p3 = some r) : DCall Try.prog 32 [.agg [DI p0.sh, .sl (p0.ws.map uC), .sl (p0.fs.map frC)], DI p1, DI p2, DU p3] [] (.tup [.agg [DI r.1.sh, .sl (r.1.ws.map uC), .sl (r.1.fs.map frC)], DI r.2]) [] := by
  unfold F_object_SetData at H
  replace H := ckc H
  obtain ⟨h, H⟩ := H
  have e := som H; subst e
  by_cases hp : (PlaceR p0 p1 p2 false).2 = 0
  · have hv : SetR p0 p1 p2 false p3 = (setS p0 (PlaceR p0 p1 p2 false).1 p3, 0) := if_pos hp
    rw [hv]
    exact (osetData_ok p0 p1 p2 p3 h.1 h.2.1 _ (Prod.ext rfl hp) h.2.2).conv [] (.tup (.cons (.agg (.cons .lit (.cons (.frzW rfl (setS_len _ _ _).symm) (.cons (.frzW rfl rfl) .nil)))) (.cons .lit .nil))) .nil rfl
  · have hv : SetR p0 p1 p2 false p3 = (⟨0, [], []⟩, (PlaceR p0 p1 p2 false).2) := if_neg hp
    rw [hv]
    exact (osetData_bad p0 p1 p2 p3 h.1 h.2.1 _ (PlaceR_bad hp) hp h.2.2).conv [] (.tup (.cons (.agg (.cons .lit (.cons .nil (.cons .nil .nil)))) (.cons .lit .nil))) .nil rfl

noncomputable def F_ref08_Ref (p0 : Sp) (p1 : Int) (p2 : Int) : Option (Int × Int) := open Classical in if SpW p0 ∧ I64 p1 then some (GetR p0 p1 p2 true) else none
theorem F_ref08_Ref_ok {p0 : Sp} {p1 : Int} {p2 : Int} {r : Int × Int} (H : F_ref08_Ref p0 p1 p2 = some r) : DCall Try.prog 27 [.agg [DI p0.sh, .sl (p0.ws.map uC), .sl (p0.fs.map frC)], DI p1, DI p2] [] (.tup [DU r.1, DI r.2]) [] := by
  unfold F_ref08_Ref at H
  replace H := ckc H
  obtain ⟨h, H⟩ := H
  have e := som H; subst e
  exact rRef_d p0 p1 p2 h.1 h.2

noncomputable def F_ref08_SetRef (p0 : Sp) (p1 : Int) (p2 : Int) (p3 : Int) : Option (Sp × Int) := open Classical in if SpW p0 ∧ I64 p1 ∧ SpLen p0 then some (SetR p0 p1 p2 true p3) else none
theorem F_ref08_SetRef_ok {p0 : Sp} {p1 : Int} {p2 : Int} {p3 : Int} {r : Sp × Int} (H : F_ref08_SetRef p0 p1 p2 p3 = some r) : DCall Try.prog 29 [.agg [DI p0.sh, .sl (p0.ws.map uC), .sl (p0.fs.map frC)], DI p1, DI p2, DU p3] [] (.tup [.agg [DI r.1.sh, .sl (r.1.ws.map uC), .sl (r.1.fs.map frC)], DI r.2]) [] := by
  unfold F_ref08_SetRef at H
  replace H := ckc H
  obtain ⟨h, H⟩ := H
  have e := som H; subst e
  by_cases hp : (PlaceR p0 p1 p2 true).2 = 0
  · have hv : SetR p0 p1 p2 true p3 = (setS p0 (PlaceR p0 p1 p2 true).1 p3, 0) := if_pos hp
    rw [hv]
    exact (rsetRef_ok p0 p1 p2 p3 h.1 h.2.1 _ (Prod.ext rfl hp) h.2.2).conv [] (.tup (.cons (.agg (.cons .lit (.cons (.frzW rfl (setS_len _ _ _).symm) (.cons (.frzW rfl rfl) .nil)))) (.cons .lit .nil))) .nil rfl
  · have hv : SetR p0 p1 p2 true p3 = (⟨0, [], []⟩, (PlaceR p0 p1 p2 true).2) := if_neg hp
    rw [hv]
    exact (rsetRef_bad p0 p1 p2 p3 h.1 h.2.1 _ (PlaceR_bad hp) hp h.2.2).conv [] (.tup (.cons (.agg (.cons .lit (.cons .nil (.cons .nil .nil)))) (.cons .lit .nil))) .nil rfl

noncomputable def F_ref08_Data (p0 : Sp) (p1 : Int) (p2 : Int) : Option (Int × Int) := open Classical in if SpW p0 ∧ I64 p1 then some (GetR p0 p1 p2 false) else none
theorem F_ref08_Data_ok {p0 : Sp} {p1 : Int} {p2 : Int} {r : Int × Int} (H : F_ref08_Data p0 p1 p2 = some r) : DCall Try.prog 31 [.agg [DI p0.sh, .sl (p0.ws.map uC), .sl (p0.fs.map frC)], DI p1, DI p2] [] (.tup [DU r.1, DI r.2]) [] := by
  unfold F_ref08_Data at H
  replace H := ckc H
  obtain ⟨h, H⟩ := H
  have e := som H; subst e
  exact rData_d p0 p1 p2 h.1 h.2

noncomputable def F_ref08_SetData (p0 : Sp) (p1 : Int) (p2 : Int) (p3 : Int) : Option (Sp × Int) := open Classical in if SpW p0 ∧ I64 p1 ∧ SpLen p0 then some (SetR p0 p1 p2 false p3) else none
theorem F_ref08_SetData_ok {p0 : Sp} {p1 : Int} {p2 : Int} {p3 : Int} {r : Sp × Int} (H : F_ref08_SetData p0 p1 p2 p3 = some r) : DCall Try.prog 33 [.agg [DI p0.sh, .sl (p0.ws.map uC), .sl (p0.fs.map frC)], DI p1, DI p2, DU p3] [] (.tup [.agg [DI r.1.sh, .sl (r.1.ws.map uC), .sl (r.1.fs.map frC)], DI r.2]) [] := by
  unfold F_ref08_SetData at H
  replace H := ckc H
  obtain ⟨h, H⟩ := H
  have e := som H; subst e
  by_cases hp : (PlaceR p0 p1 p2 false).2 = 0
  · have hv : SetR p0 p1 p2 false p3 = (setS p0 (PlaceR p0 p1 p2 false).1 p3, 0) := if_pos hp
    rw [hv]
    exact (rsetData_ok p0 p1 p2 p3 h.1 h.2.1 _ (Prod.ext rfl hp) h.2.2).conv [] (.tup (.cons (.agg (.cons .lit (.cons (.frzW rfl (setS_len _ _ _).symm) (.cons (.frzW rfl rfl) .nil)))) (.cons .lit .nil))) .nil rfl
  · have hv : SetR p0 p1 p2 false p3 = (⟨0, [], []⟩, (PlaceR p0 p1 p2 false).2) := if_neg hp
    rw [hv]
    exact (rsetData_bad p0 p1 p2 p3 h.1 h.2.1 _ (PlaceR_bad hp) hp h.2.2).conv [] (.tup (.cons (.agg (.cons .lit (.cons .nil (.cons .nil .nil)))) (.cons .lit .nil))) .nil rfl

noncomputable def F_object_Slots (p0 : Sp) (p1 : Int) : Option (List Int × Int) := open Classical in if SpW p0 ∧ I64 p1 ∧ True then some (SlR p0 p1) else none
theorem F_object_Slots_ok {p0 : Sp} {p1 : Int} {r : List Int × Int} (H : F_object_Slots p0 p1 = some r) : DCall Try.prog 23 [.agg [DI p0.sh, .sl (p0.ws.map uC), .sl (p0.fs.map frC)], DI p1] [] (.tup [.sl (r.1.map iC), DI r.2]) [] := by
  unfold F_object_Slots at H
  replace H := ckc H
  obtain ⟨h, H⟩ := H
  have e := som H; subst e
  obtain ⟨r, d, e, he, hc⟩ := ShapeR_cases p0 p1
  by_cases h0 : e = 0
  · subst h0
    obtain ⟨_, _, _, _, hk, _, _⟩ := ShapeR_ok h.1 he
    have hr : 0 ≤ r := hk.1
    have hv : SlR p0 p1 = (fldL p0 p1 r.toNat, 0) := by unfold SlR; rw [he]; rfl
    rw [hv]
    obtain ⟨n, rfl⟩ : ∃ n : Nat, r = n := ⟨r.toNat, by omega⟩
    rw [Int.toNat_natCast]
    by_cases hn : n = 0
    · subst hn
      exact (oslots_0 p0 p1 d h.1 h.2.1 he).conv [] (.tup (.cons .nil (.cons .lit .nil))) .nil rfl
    · exact (oslots_n p0 p1 d n h.1 h.2.1 he (by omega)).conv [] (.tup (.cons (.frzW rfl (by unfold fldL; simp)) (.cons .lit .nil))) .nil rfl
  · have hv : SlR p0 p1 = ([], e) := by unfold SlR; rw [he]; exact if_neg h0
    rw [hv]
    have hz : r = 0 ∧ d = 0 := by rcases hc with hc | hc; exact absurd hc h0; exact hc.2
    obtain ⟨rfl, rfl⟩ := hz
    exact (oslots_bad p0 p1 e h.1 h.2.1 he h0).conv [] (.tup (.cons .nil (.cons .lit .nil))) .nil rfl

noncomputable def F_ref08_Slots (p0 : Sp) (p1 : Int) : Option (List Int × Int) := open Classical in if SpW p0 ∧ I64 p1 ∧ True then some (SlR p0 p1) else none
theorem F_ref08_Slots_ok {p0 : Sp} {p1 : Int} {r : List Int × Int} (H : F_ref08_Slots p0 p1 = some r) : DCall Try.prog 24 [.agg [DI p0.sh, .sl (p0.ws.map uC), .sl (p0.fs.map frC)], DI p1] [] (.tup [.sl (r.1.map iC), DI r.2]) [] := by
  unfold F_ref08_Slots at H
  replace H := ckc H
  obtain ⟨h, H⟩ := H
  have e := som H; subst e
  obtain ⟨r, d, e, he, hc⟩ := ShapeR_cases p0 p1
  by_cases h0 : e = 0
  · subst h0
    obtain ⟨_, _, _, _, hk, _, _⟩ := ShapeR_ok h.1 he
    have hr : 0 ≤ r := hk.1
    have hv : SlR p0 p1 = (fldL p0 p1 r.toNat, 0) := by unfold SlR; rw [he]; rfl
    rw [hv]
    obtain ⟨n, rfl⟩ : ∃ n : Nat, r = n := ⟨r.toNat, by omega⟩
    rw [Int.toNat_natCast]
    by_cases hn : n = 0
    · subst hn
      exact (rslots_0 p0 p1 d h.1 h.2.1 he).conv [] (.tup (.cons .nil (.cons .lit .nil))) .nil rfl
    · exact (rslots_n p0 p1 d n h.1 h.2.1 he (by omega)).conv [] (.tup (.cons (.frzW rfl (by unfold fldL; simp)) (.cons .lit .nil))) .nil rfl
  · have hv : SlR p0 p1 = ([], e) := by unfold SlR; rw [he]; exact if_neg h0
    rw [hv]
    have hz : r = 0 ∧ d = 0 := by rcases hc with hc | hc; exact absurd hc h0; exact hc.2
    obtain ⟨rfl, rfl⟩ := hz
    exact (rslots_bad p0 p1 e h.1 h.2.1 he h0).conv [] (.tup (.cons .nil (.cons .lit .nil))) .nil rfl

noncomputable def F_ref08_Fields (p0 : Sp) (p1 : Int) : Option (List Int × Int) := open Classical in if SpW p0 ∧ I64 p1 ∧ SpOk p0 then some (SlR p0 p1) else none
theorem F_ref08_Fields_ok {p0 : Sp} {p1 : Int} {r : List Int × Int} (H : F_ref08_Fields p0 p1 = some r) : DCall Try.prog 60 [.agg [DI p0.sh, .sl (p0.ws.map uC), .sl (p0.fs.map frC)], DI p1] [] (.tup [.sl (r.1.map iC), DI r.2]) [] := by
  unfold F_ref08_Fields at H
  replace H := ckc H
  obtain ⟨h, H⟩ := H
  have e := som H; subst e
  obtain ⟨r, d, e, he, hc⟩ := ShapeR_cases p0 p1
  by_cases h0 : e = 0
  · subst h0
    obtain ⟨_, _, _, _, hk, _, _⟩ := ShapeR_ok h.1 he
    have hr : 0 ≤ r := hk.1
    have hv : SlR p0 p1 = (fldL p0 p1 r.toNat, 0) := by unfold SlR; rw [he]; rfl
    rw [hv]
    obtain ⟨n, rfl⟩ : ∃ n : Nat, r = n := ⟨r.toNat, by omega⟩
    rw [Int.toNat_natCast]
    by_cases hn : n = 0
    · subst hn
      exact (rfields_0 p0 p1 d h.1 h.2.1 he h.2.2).conv [] (.tup (.cons .nil (.cons .lit .nil))) .nil rfl
    · exact (rfields_n p0 p1 d n h.1 h.2.1 he (by omega) h.2.2).conv [] (.tup (.cons (.frzW rfl (by unfold fldL; simp)) (.cons .lit .nil))) .nil rfl
  · have hv : SlR p0 p1 = ([], e) := by unfold SlR; rw [he]; exact if_neg h0
    rw [hv]
    have hz : r = 0 ∧ d = 0 := by rcases hc with hc | hc; exact absurd hc h0; exact hc.2
    obtain ⟨rfl, rfl⟩ := hz
    exact (rfields_bad p0 p1 e h.1 h.2.1 he h0 h.2.2).conv [] (.tup (.cons .nil (.cons .lit .nil))) .nil rfl

noncomputable def F_object_Init (p0 : Sp) (p1 : Int) (p2 : Int) (p3 : Int) : Option (Sp × Int) := open Classical in if SpW p0 ∧ I64 p1 ∧ SpLen p0 then some (IniR p0 p1 p2 p3) else none
theorem F_object_Init_ok {p0 : Sp} {p1 : Int} {p2 : Int} {p3 : Int} {r : Sp × Int} (H : F_object_Init p0 p1 p2 p3 = some r) : DCall Try.prog 18 [.agg [DI p0.sh, .sl (p0.ws.map uC), .sl (p0.fs.map frC)], DI p1, DI p2, DI p3] [] (.tup [.agg [DI r.1.sh, .sl (r.1.ws.map uC), .sl (r.1.fs.map frC)], DI r.2]) [] := by
  unfold F_object_Init at H
  replace H := ckc H
  obtain ⟨h, H⟩ := H
  have e := som H; subst e
  by_cases hp : IniE p0 p1 p2 p3 = 0
  · have hv : IniR p0 p1 p2 p3 = (⟨p0.sh, clrL p0 p1 (p2 + p3).toNat (p0.ws.set p1.toNat (hdW p2 p3)), p0.fs⟩, 0) := if_pos hp
    rw [hv]
    exact (oinit_ok p0 p1 p2 p3 h.1 h.2.1 h.2.2 hp).conv [] (.tup (.cons (.agg (.cons .lit (.cons (.frzW rfl (by rw [clrL_len, List.length_set])) (.cons (.frzW rfl rfl) .nil)))) (.cons .lit .nil))) .nil rfl
  · have hv : IniR p0 p1 p2 p3 = (⟨0, [], []⟩, IniE p0 p1 p2 p3) := if_neg hp
    rw [hv]
    exact (oinit_bad p0 p1 p2 p3 h.1 h.2.1 h.2.2 _ rfl hp).conv [] (.tup (.cons (.agg (.cons .lit (.cons .nil (.cons .nil .nil)))) (.cons .lit .nil))) .nil rfl

noncomputable def F_ref08_Init (p0 : Sp) (p1 : Int) (p2 : Int) (p3 : Int) : Option (Sp × Int) := open Classical in if SpW p0 ∧ I64 p1 ∧ SpLen p0 then some (IniR p0 p1 p2 p3) else none
theorem F_ref08_Init_ok {p0 : Sp} {p1 : Int} {p2 : Int} {p3 : Int} {r : Sp × Int} (H : F_ref08_Init p0 p1 p2 p3 = some r) : DCall Try.prog 19 [.agg [DI p0.sh, .sl (p0.ws.map uC), .sl (p0.fs.map frC)], DI p1, DI p2, DI p3] [] (.tup [.agg [DI r.1.sh, .sl (r.1.ws.map uC), .sl (r.1.fs.map frC)], DI r.2]) [] := by
  unfold F_ref08_Init at H
  replace H := ckc H
  obtain ⟨h, H⟩ := H
  have e := som H; subst e
  by_cases hp : IniE p0 p1 p2 p3 = 0
  · have hv : IniR p0 p1 p2 p3 = (⟨p0.sh, clrL p0 p1 (p2 + p3).toNat (p0.ws.set p1.toNat (hdW p2 p3)), p0.fs⟩, 0) := if_pos hp
    rw [hv]
    exact (rinit_ok p0 p1 p2 p3 h.1 h.2.1 h.2.2 hp).conv [] (.tup (.cons (.agg (.cons .lit (.cons (.frzW rfl (by rw [clrL_len, List.length_set])) (.cons (.frzW rfl rfl) .nil)))) (.cons .lit .nil))) .nil rfl
  · have hv : IniR p0 p1 p2 p3 = (⟨0, [], []⟩, IniE p0 p1 p2 p3) := if_neg hp
    rw [hv]
    exact (rinit_bad p0 p1 p2 p3 h.1 h.2.1 h.2.2 _ rfl hp).conv [] (.tup (.cons (.agg (.cons .lit (.cons .nil (.cons .nil .nil)))) (.cons .lit .nil))) .nil rfl

noncomputable def F_ref08_Look (p0 : Sp) (p1 : Int) : Option (Int × Int × Int) := open Classical in if SpOk p0 ∧ SpW p0 ∧ I64 p1 then some ((LookR p0 p1).r, (LookR p0 p1).d, (LookR p0 p1).e) else none
theorem F_ref08_Look_ok {p0 : Sp} {p1 : Int} {r : Int × Int × Int} (H : F_ref08_Look p0 p1 = some r) : DCall Try.prog 59 [.agg [DI p0.sh, .sl (p0.ws.map uC), .sl (p0.fs.map frC)], DI p1] [] (.tup [DI r.1, DI r.2.1, DI r.2.2]) [] := by
  unfold F_ref08_Look at H
  replace H := ckc H
  obtain ⟨h, H⟩ := H
  have e := som H; subst e
  exact look_d p0 p1 h.1 h.2.1 h.2.2

noncomputable def F_ref09_Valid (p0 : Sp) (p1 : Inc) : Option Bool := open Classical in if SpW p0 then some (bP (SpOk p0 ∧ FitP p0 p1.seq p1.belt p1.first p1.last p1.words)) else none
theorem F_ref09_Valid_ok {p0 : Sp} {p1 : Inc} {r : Bool} (H : F_ref09_Valid p0 p1 = some r) : DCall Try.prog 67 [.agg [DI p0.sh, .sl (p0.ws.map uC), .sl (p0.fs.map frC)], .agg [DI p1.seq, DI p1.belt, DI p1.first, DI p1.last, DI p1.words]] [] (DB r) [] := by
  unfold F_ref09_Valid at H
  replace H := ckc H
  obtain ⟨h, H⟩ := H
  have e := som H; subst e
  exact valid09_d p0 p1.seq p1.belt p1.first p1.last p1.words h

noncomputable def F_ref09_Fits (p0 : Sp) (p1 : Inc) : Option Bool := open Classical in if SpOk p0 then some (bP (FitP p0 p1.seq p1.belt p1.first p1.last p1.words)) else none
theorem F_ref09_Fits_ok {p0 : Sp} {p1 : Inc} {r : Bool} (H : F_ref09_Fits p0 p1 = some r) : DCall Try.prog 95 [.agg [DI p0.sh, .sl (p0.ws.map uC), .sl (p0.fs.map frC)], .agg [DI p1.seq, DI p1.belt, DI p1.first, DI p1.last, DI p1.words]] [] (DB r) [] := by
  unfold F_ref09_Fits at H
  replace H := ckc H
  obtain ⟨h, H⟩ := H
  have e := som H; subst e
  exact fits09_d p0 p1.seq p1.belt p1.first p1.last p1.words h

noncomputable def F_ref09_Frames (p0 : Sp) (p1 : Inc) : Option Int := open Classical in if ShOk p0.sh then some (clN p0 p1.words) else none
theorem F_ref09_Frames_ok {p0 : Sp} {p1 : Inc} {r : Int} (H : F_ref09_Frames p0 p1 = some r) : DCall Try.prog 114 [.agg [DI p0.sh, .sl (p0.ws.map uC), .sl (p0.fs.map frC)], .agg [DI p1.seq, DI p1.belt, DI p1.first, DI p1.last, DI p1.words]] [] (DI r) [] := by
  unfold F_ref09_Frames at H
  replace H := ckc H
  obtain ⟨h, H⟩ := H
  have e := som H; subst e
  exact frames_d p0 p1.seq p1.belt p1.first p1.last p1.words h

noncomputable def F_ref09_Extra (p0 : Sp) (p1 : Inc) (p2 : Int) : Option Int := open Classical in if ShOk p0.sh ∧ I64 (p1.words + p2) then some (clN p0 (p1.words + p2) - clN p0 p1.words) else none
theorem F_ref09_Extra_ok {p0 : Sp} {p1 : Inc} {p2 : Int} {r : Int} (H : F_ref09_Extra p0 p1 p2 = some r) : DCall Try.prog 96 [.agg [DI p0.sh, .sl (p0.ws.map uC), .sl (p0.fs.map frC)], .agg [DI p1.seq, DI p1.belt, DI p1.first, DI p1.last, DI p1.words], DI p2] [] (DI r) [] := by
  unfold F_ref09_Extra at H
  replace H := ckc H
  obtain ⟨h, H⟩ := H
  have e := som H; subst e
  exact extra_d p0 p1.seq p1.belt p1.first p1.last p1.words p2 h.1 h.2

noncomputable def F_ref09_Owns (p0 : Sp) (p1 : Int) : Option Bool := open Classical in if True then some (bP (∃ f ∈ p0.fs, f.ow = p1)) else none
theorem F_ref09_Owns_ok {p0 : Sp} {p1 : Int} {r : Bool} (H : F_ref09_Owns p0 p1 = some r) : DCall Try.prog 68 [.agg [DI p0.sh, .sl (p0.ws.map uC), .sl (p0.fs.map frC)], DI p1] [] (DB r) [] := by
  unfold F_ref09_Owns at H
  replace H := ckc H
  obtain ⟨h, H⟩ := H
  have e := som H; subst e
  exact owns_d p0 p1

noncomputable def F_make_Small (p0 : Sp) : Option Bool := open Classical in if True then some (bP (p0.ws.length ≤ 3000 ∧ p0.fs.length ≤ 80)) else none
theorem F_make_Small_ok {p0 : Sp} {r : Bool} (H : F_make_Small p0 = some r) : DCall Try.prog 11 [.agg [DI p0.sh, .sl (p0.ws.map uC), .sl (p0.fs.map frC)]] [] (DB r) [] := by
  unfold F_make_Small at H
  replace H := ckc H
  obtain ⟨h, H⟩ := H
  have e := som H; subst e
  exact small_d p0

noncomputable def F_make_Mod (p0 : Int) (p1 : Int) : Option Int := open Classical in if I64 p0 ∧ 1 ≤ p1 ∧ p1 ≤ 9223372036854775807 then some (p0 % p1) else none
theorem F_make_Mod_ok {p0 : Int} {p1 : Int} {r : Int} (H : F_make_Mod p0 p1 = some r) : DCall Try.prog 17 [DI p0, DI p1] [] (DI r) [] := by
  unfold F_make_Mod at H
  replace H := ckc H
  obtain ⟨h, H⟩ := H
  have e := som H; subst e
  exact mod_d p0 p1 h.1 h.2

end Go.Proofs.Ytbidedbpmhcoaaa
/- Trial. -/
namespace Go.Proofs.Ytbidedbpmhcoaaa
open Go.RowKit
set_option linter.unusedSimpArgs false
set_option linter.unusedVariables false
noncomputable def F_ref03_shift (p0 : Int) : Option Bool :=
 if 3 ≤ p0 then
 (some (decide (p0 ≤ 8)))
 else
 some (false)

set_option maxRecDepth 20000 in
set_option maxHeartbeats 4000000 in
theorem F_ref03_shift_ok {p0 : Int} {r : Bool} (H : F_ref03_shift p0 = some r) : DCall Try.prog 80 [DI p0] [] (DB r) [] := by
 unfold F_ref03_shift at H
 refine DCall.mk Try.func80 rfl rfl ?_
 refine d_rs rfl ?_
 refine go (m_set) ?_
 refine .nil ⟨by kernel_rfl, ?_⟩
 by_cases h1 : 3 ≤ p0
 ·
  replace H := iT h1 H
  refine d_rs rfl ?_
  refine go (m_move) ?_
  refine go (m_geq) ?_
  refine go (m_move) ?_
  refine go (m_move) ?_ (gY (decide_eq_true h1))
  refine go (m_leq) ?_ (gY (decide_eq_true h1))
  refine go (m_pickE (decide_eq_true h1)) ?_
  refine go (m_set) ?_
  refine .nil ⟨by kernel_rfl, ?_⟩
  refine d_ret ?_
  change RetD _ _ _ _ _ _ _
  have e := som H; subst e
  exact finE [] (.tmp (.nil))
 replace H := iF h1 H
 refine d_rs rfl ?_
 refine go (m_move) ?_
 refine go (m_geq) ?_
 refine go (m_move) ?_
 refine noE (decide_eq_false h1) ?_
 refine noE (decide_eq_false h1) ?_
 refine go (m_pickE (decide_eq_false h1)) ?_
 refine go (m_set) ?_
 refine .nil ⟨by kernel_rfl, ?_⟩
 refine d_ret ?_
 change RetD _ _ _ _ _ _ _
 have e := som H; subst e
 exact finE [] (.tmp (.nil))

noncomputable def F_ref03_New (p0 : Int) (p1 : Int) : Option (Sp × Int) :=
 (F_ref03_shift p0).bind fun v2 =>
 if v2 = true then
 (if p1 < 2 then
 (some ((Sp.mk 0 ([] : List Int) ([] : List Fe), 1)))
 else
 if 64 < p1 then
 (some ((Sp.mk 0 ([] : List Int) ([] : List Fe), 1)))
 else
 if 0 ≤ wu p0 then
 if 0 ≤ shlN .i64 p1 (wu p0) ∧ (shlN .i64 p1 (wu p0)) * 8 ≤ 281474976710656 ∧ shlN .i64 p1 (wu p0) ≤ 9223372036854775807 then
 if 0 ≤ p1 ∧ p1 * 24 ≤ 281474976710656 ∧ p1 ≤ 9223372036854775807 then
 (loopO (fun (s12 : List Fe × Int) =>
 if s12.2 < ((List.replicate (Int.toNat p1) (Fe.mk 0 0 0)).length : Int) then
 ((at_ s12.1 s12.2).bind fun v17 =>
 some (.go ((s12.1.set (Int.toNat s12.2) (Fe.mk (-1) (-1) (-1)), w64 (s12.2 + 1)))))
 else
 some (.out ((p0, List.replicate (Int.toNat (shlN .i64 p1 (wu p0))) 0, s12.1)))) (List.replicate (Int.toNat p1) (Fe.mk 0 0 0), 0)).bind fun (b9 : Int × List Int × List Fe) =>
 some ((Sp.mk b9.1 b9.2.1 b9.2.2, 0))
 else none
 else none
 else none)
 else
 some ((Sp.mk 0 ([] : List Int) ([] : List Fe), 1))

set_option maxRecDepth 20000 in
set_option maxHeartbeats 4000000 in
theorem F_ref03_New_ok {p0 : Int} {p1 : Int} {r : Sp × Int} (H : F_ref03_New p0 p1 = some r) : DCall Try.prog 46 [DI p0, DI p1] [] (.tup [.agg [DI r.1.sh, .own 0 0 r.1.ws.length, .own 1 0 r.1.fs.length], DI r.2]) [(0, ⟨1, true, false, r.1.ws.map uC⟩), (1, ⟨3, true, false, r.1.fs.map frC⟩)] := by
 unfold F_ref03_New at H
 refine DCall.mk Try.func46 rfl rfl ?_
 refine d_rs rfl ?_
 refine go (m_alloc ty_25) ?_
 refine go (m_set) ?_
 refine .nil ⟨by kernel_rfl, ?_⟩
 refine d_seq fun K k1 => ?_
 replace H := bnd H
 obtain ⟨v2, hv2, H⟩ := H
 by_cases h3 : v2 = true
 ·
  replace H := iT h3 H
  by_cases h4 : p1 < 2
  ·
   replace H := iT h4 H
   refine d_rs rfl ?_
   refine go (m_move) ?_
   refine go (m_cS [] (F_ref03_shift_ok hv2) rfl ScS.nil) ?_
   refine go (m_not) ?_
   refine go (m_move) ?_
   refine go (m_move) ?_ (gY (congrArg not h3))
   refine go (m_lss) ?_ (gY (congrArg not h3))
   refine go (m_pickE (congrArg not h3)) ?_
   refine go (m_move) ?_
   refine noE (decide_eq_true h4) ?_
   refine noE (decide_eq_true h4) ?_
   refine go (m_pickE (decide_eq_true h4)) ?_
   refine .nil ⟨by kernel_rfl, ?_⟩
   refine d_condE rfl rfl ?_
   refine d_rs rfl ?_
   refine go (m_build ty_25) ?_
   refine go (m_store ty_25) ?_
   refine go (m_set) ?_
   refine .nil ⟨by kernel_rfl, ?_⟩
   refine d_nilB 0 1 1 (by decide) rfl rfl ?_
   refine d_nilB 0 2 3 (by decide) rfl rfl ?_
   refine d_ret ?_
   change RetD _ _ _ _ _ _ _
   have e := som H; subst e
   exact finE [(0, 1), (1, 2)] (.cell ty_25 rfl rfl rfl rfl (.tmp (.nil)))
  replace H := iF h4 H
  refine d_rs rfl ?_
  refine go (m_move) ?_
  refine go (m_cS [] (F_ref03_shift_ok hv2) rfl ScS.nil) ?_
  refine go (m_not) ?_
  refine go (m_move) ?_
  refine go (m_move) ?_ (gY (congrArg not h3))
  refine go (m_lss) ?_ (gY (congrArg not h3))
  refine go (m_pickE (congrArg not h3)) ?_
  refine go (m_move) ?_
  refine go (m_move) ?_ (gY (decide_eq_false h4))
  refine go (m_gtr) ?_ (gY (decide_eq_false h4))
  refine go (m_pickE (decide_eq_false h4)) ?_
  refine .nil ⟨by kernel_rfl, ?_⟩
  by_cases h5 : 64 < p1
  ·
   replace H := iT h5 H
   refine d_condE rfl (decide_eq_true h5) ?_
   refine d_rs rfl ?_
   refine go (m_build ty_25) ?_
   refine go (m_store ty_25) ?_
   refine go (m_set) ?_
   refine .nil ⟨by kernel_rfl, ?_⟩
   refine d_nilB 0 1 1 (by decide) rfl rfl ?_
   refine d_nilB 0 2 3 (by decide) rfl rfl ?_
   refine d_ret ?_
   change RetD _ _ _ _ _ _ _
   have e := som H; subst e
   exact finE [(0, 1), (1, 2)] (.cell ty_25 rfl rfl rfl rfl (.tmp (.nil)))
  replace H := iF h5 H
  refine d_condN rfl (decide_eq_false h5) ?_
  refine d_skip ?_
  refine k1 _ ?_
  replace H := ck H
  obtain ⟨h6, H⟩ := H
  replace H := ck H
  obtain ⟨h7, H⟩ := H
  replace H := ck H
  obtain ⟨h8, H⟩ := H
  refine d_as mixedP rfl (by kernel_rfl) ?_
  refine go (m_move) ?_
  refine go (m_move) ?_
  refine go (m_move) ?_
  refine go (m_cnv ty_3 ty_66) ?_
  refine go (m_shlE h6) ?_
  refine go (m_mkE (c := uC) 0 h7 ty_22 ty_50) ?_
  refine go (m_move) ?_
  refine go (m_mkE (c := frC) (Fe.mk 0 0 0) h8 ty_23 ty_79) ?_
  refine go (m_build ty_25) ?_
  refine go (m_alloc ty_25) ?_
  refine go (m_store ty_25) ?_
  refine .nil ⟨⟨by kernel_rfl, by kernel_rfl⟩, ?_⟩
  refine d_cutF (fun (b9 : Int × List Int × List Fe) => ⟨[(4, .ptr 0 0 0), (6, .ptr 1 0 0)], [(0, ⟨3, false, false, [[DI 0, DN, DN]]⟩), (1, ⟨3, false, false, [[DI b9.1, .own 2 0 b9.2.1.length, .own 3 0 b9.2.2.length]]⟩), (2, ⟨1, true, false, b9.2.1.map uC⟩), (3, ⟨3, true, false, b9.2.2.map frC⟩)], 4⟩) H (fun z10 H => ?_) (fun b9 H => ?_)
  ·
   refine d_rs rfl ?_
   refine go (m_fa ty_25) ?_
   refine go (m_load ty_23) ?_
   refine go (m_lenE ty_23) ?_
   refine go (m_move) ?_
   refine .nil ⟨by kernel_rfl, ?_⟩
   refine d_block ?_
   refine d_loopF (fun (s12 : List Fe × Int) => ⟨[(4, .ptr 0 0 0), (6, .ptr 1 0 0), (31, DI ((List.replicate (Int.toNat p1) (Fe.mk 0 0 0)).length : Int)), (32, DI s12.2)], [(0, ⟨3, false, false, [[DI 0, DN, DN]]⟩), (1, ⟨3, false, false, [[DI p0, .own 2 0 (List.replicate (Int.toNat (shlN .i64 p1 (wu p0))) 0).length, .own 3 0 s12.1.length]]⟩), (2, ⟨1, true, false, (List.replicate (Int.toNat (shlN .i64 p1 (wu p0))) 0).map uC⟩), (3, ⟨3, true, false, s12.1.map frC⟩)], 4⟩) H (wkE [(0, 0), (1, 3), (2, 1), (3, 2)]) (fun s12 y13 H hq13 => ?_)
   refine d_rs rfl ?_
   refine go (m_lss) ?_
   refine .nil ⟨by kernel_rfl, ?_⟩
   refine d_seq fun K k14 => ?_
   by_cases h15 : s12.2 < ((List.replicate (Int.toNat p1) (Fe.mk 0 0 0)).length : Int)
   ·
    replace H := iT h15 H
    refine d_condE rfl (decide_eq_true h15) ?_
    refine d_skip ?_
    refine k14 _ ?_
    refine d_seq fun K k16 => ?_
    refine d_block ?_
    refine d_rs rfl ?_
    refine go (m_move) ?_
    refine go (m_set) ?_
    refine .nil ⟨by kernel_rfl, ?_⟩
    replace H := bnd H
    obtain ⟨v17, hv17, H⟩ := H
    refine d_region rfl ?_
    refine go (m_fa ty_25) ?_
    refine go (m_load ty_23) ?_
    refine go (m_move) ?_
    refine go (m_build ty_79) ?_
    refine go (m_iaO hv17 ty_23 ty_79 rfl rfl rfl) ?_
    refine go (m_stO (c := frC) hv17 (Fe.mk (-1) (-1) (-1)) ty_79) ?_
    refine .nil ⟨by kernel_rfl, ?_⟩
    refine k16 _ ?_
    refine d_region rfl ?_
    refine go (m_add) ?_
    refine go (m_move) ?_
    refine .nil ⟨by kernel_rfl, ?_⟩
    have e := som H; subst e
    exact ⟨_, rfl, wkE [(0, 0), (1, 1), (2, 2), (3, 3)]⟩
   replace H := iF h15 H
   refine d_condN rfl (decide_eq_false h15) ?_
   refine d_exit ?_
   have e := som H; subst e
   have e := hq13 _ rfl; subst e
   exact wkE [(0, 0), (1, 1), (2, 2), (3, 3)]
  refine d_rs rfl ?_
  refine go (m_load ty_25) ?_
  refine go (m_store ty_25) ?_
  refine go (m_set) ?_
  refine .nil ⟨by kernel_rfl, ?_⟩
  refine d_ret ?_
  change RetD _ _ _ _ _ _ _
  have e := som H; subst e
  exact finE [(0, 2), (1, 3)] (.cell ty_25 rfl rfl rfl rfl (.tmp (.nil)))
 replace H := iF h3 H
 refine d_rs rfl ?_
 refine go (m_move) ?_
 refine go (m_cS [] (F_ref03_shift_ok hv2) rfl ScS.nil) ?_
 refine go (m_not) ?_
 refine go (m_move) ?_
 refine noE (congrArg not (eq_false_of_ne_true h3)) ?_
 refine noE (congrArg not (eq_false_of_ne_true h3)) ?_
 refine go (m_pickE (congrArg not (eq_false_of_ne_true h3))) ?_
 refine go (m_move) ?_
 refine noE rfl ?_
 refine noE rfl ?_
 refine go (m_pickE rfl) ?_
 refine .nil ⟨by kernel_rfl, ?_⟩
 refine d_condE rfl rfl ?_
 refine d_rs rfl ?_
 refine go (m_build ty_25) ?_
 refine go (m_store ty_25) ?_
 refine go (m_set) ?_
 refine .nil ⟨by kernel_rfl, ?_⟩
 refine d_nilB 0 1 1 (by decide) rfl rfl ?_
 refine d_nilB 0 2 3 (by decide) rfl rfl ?_
 refine d_ret ?_
 change RetD _ _ _ _ _ _ _
 have e := som H; subst e
 exact finE [(0, 1), (1, 2)] (.cell ty_25 rfl rfl rfl rfl (.tmp (.nil)))

noncomputable def F_law08_awake  : Option Bool :=
 (F_ref03_New 3 4).bind fun v1 =>
 (at_ v1.1.fs 0).bind fun v2 =>
 (at_ (v1.1.fs.set (Int.toNat 0) (Fe.mk 1 1 (-1))) 2).bind fun v3 =>
 (F_object_Init (Sp.mk v1.1.sh v1.1.ws ((v1.1.fs.set (Int.toNat 0) (Fe.mk 1 1 (-1))).set (Int.toNat 2) (Fe.mk 1 1 0))) 22 1 2).bind fun v4 =>
 (F_object_Slots v4.1 22).bind fun v5 =>
 (F_object_SetData v4.1 22 1 9).bind fun v6 =>
 if v4.2 = 0 then
 (if v5.2 = 0 then
 (if v6.2 = 0 then
 (if (v5.1.length : Int) = 1 then
 ((at_ v5.1 0).bind fun v11 =>
 if v11 = 23 then
 (if (v6.1.ws.length : Int) = 32 then
 ((at_ v6.1.ws 1).bind fun v14 =>
 some (decide (v14 = 9)))
 else
 some (false))
 else
 some (false))
 else
 some (false))
 else
 some (false))
 else
 some (false))
 else
 some (false)

set_option maxRecDepth 20000 in
set_option maxHeartbeats 4000000 in
theorem F_law08_awake_ok  {r : Bool} (H : F_law08_awake  = some r) : DCall Try.prog 12 [] [] (DB r) [] := by
 unfold F_law08_awake at H
 refine DCall.mk Try.func12 rfl rfl ?_
 refine d_rs rfl ?_
 refine go (m_set) ?_
 refine .nil ⟨by kernel_rfl, ?_⟩
 replace H := bnd H
 obtain ⟨v1, hv1, H⟩ := H
 refine d_rs rfl ?_
 refine go (m_cS [] (F_ref03_New_ok hv1) rfl (ScS.cons (scC (fun _ => rfl)) (ScS.cons (scC (fun _ => rfl)) ScS.nil))) ?_
 refine go (m_move) ?_
 refine go (m_ext) ?_
 refine go (m_ext) ?_
 refine go (m_alloc ty_25) ?_
 refine go (m_store ty_25) ?_
 refine go (m_set) ?_
 refine .nil ⟨by kernel_rfl, ?_⟩
 replace H := bnd H
 obtain ⟨v2, hv2, H⟩ := H
 refine d_rs rfl ?_
 refine go (m_fa ty_25) ?_
 refine go (m_load ty_23) ?_
 refine go (m_build ty_79) ?_
 refine go (m_iaO hv2 ty_23 ty_79 rfl rfl rfl) ?_
 refine go (m_stO (c := frC) hv2 (Fe.mk 1 1 (-1)) ty_79) ?_
 refine .nil ⟨by kernel_rfl, ?_⟩
 replace H := bnd H
 obtain ⟨v3, hv3, H⟩ := H
 refine d_rs rfl ?_
 refine go (m_fa ty_25) ?_
 refine go (m_load ty_23) ?_
 refine go (m_build ty_79) ?_
 refine go (m_iaO hv3 ty_23 ty_79 rfl rfl (by first | omega | (simp; done) | (simp; omega))) ?_
 refine go (m_stO (c := frC) hv3 (Fe.mk 1 1 0) ty_79) ?_
 refine .nil ⟨by kernel_rfl, ?_⟩
 replace H := bnd H
 obtain ⟨v4, hv4, H⟩ := H
 refine d_rs rfl ?_
 refine go (m_load ty_25) ?_
 refine go (m_cG [] (F_object_Init_ok hv4)) ?_
 refine go (m_move) ?_
 refine go (m_ext) ?_
 refine go (m_ext) ?_
 refine go (m_store ty_25) ?_
 refine go (m_set) ?_
 refine .nil ⟨by kernel_rfl, ?_⟩
 replace H := bnd H
 obtain ⟨v5, hv5, H⟩ := H
 refine d_rs rfl ?_
 refine go (m_load ty_25) ?_
 refine go (m_cG [] (F_object_Slots_ok hv5)) ?_
 refine go (m_move) ?_
 refine go (m_ext) ?_
 refine go (m_ext) ?_
 refine go (m_set) ?_
 refine go (m_set) ?_
 refine .nil ⟨by kernel_rfl, ?_⟩
 replace H := bnd H
 obtain ⟨v6, hv6, H⟩ := H
 refine d_rs rfl ?_
 refine go (m_load ty_25) ?_
 refine go (m_cG [] (F_object_SetData_ok hv6)) ?_
 refine go (m_move) ?_
 refine go (m_ext) ?_
 refine go (m_ext) ?_
 refine go (m_store ty_25) ?_
 refine go (m_set) ?_
 refine .nil ⟨by kernel_rfl, ?_⟩
 by_cases h7 : v4.2 = 0
 ·
  replace H := iT h7 H
  by_cases h8 : v5.2 = 0
  ·
   replace H := iT h8 H
   by_cases h9 : v6.2 = 0
   ·
    replace H := iT h9 H
    by_cases h10 : (v5.1.length : Int) = 1
    ·
     replace H := iT h10 H
     replace H := bnd H
     obtain ⟨v11, hv11, H⟩ := H
     by_cases h12 : v11 = 23
     ·
      replace H := iT h12 H
      by_cases h13 : (v6.1.ws.length : Int) = 32
      ·
       replace H := iT h13 H
       replace H := bnd H
       obtain ⟨v14, hv14, H⟩ := H
       refine d_rs rfl ?_
       refine go (m_move) ?_
       refine go (m_eql) ?_
       refine go (m_move) ?_
       refine go (m_move) ?_ (gY (decide_eq_true h7))
       refine go (m_eql) ?_ (gY (decide_eq_true h7))
       refine go (m_pickE (decide_eq_true h7)) ?_
       refine go (m_move) ?_
       refine go (m_move) ?_ (gY (decide_eq_true h8))
       refine go (m_eql) ?_ (gY (decide_eq_true h8))
       refine go (m_pickE (decide_eq_true h8)) ?_
       refine go (m_move) ?_
       refine go (m_move) ?_ (gY (decide_eq_true h9))
       refine go (m_lenE ty_26) ?_ (gY (decide_eq_true h9))
       refine go (m_eql) ?_ (gY (decide_eq_true h9))
       refine go (m_pickE (decide_eq_true h9)) ?_
       refine go (m_move) ?_
       refine go (m_move) ?_ (gY (decide_eq_true h10))
       refine go (m_iaS hv11 ty_26 ty_3) ?_ (gY (decide_eq_true h10))
       refine go (m_load ty_3) ?_ (gY (decide_eq_true h10))
       refine go (m_eql) ?_ (gY (decide_eq_true h10))
       refine go (m_pickE (decide_eq_true h10)) ?_
       refine go (m_move) ?_
       refine go (m_fa ty_25) ?_ (gY (decide_eq_true h12))
       refine go (m_load ty_22) ?_ (gY (decide_eq_true h12))
       refine go (m_lenE ty_22) ?_ (gY (decide_eq_true h12))
       refine go (m_eql) ?_ (gY (decide_eq_true h12))
       refine go (m_pickE (decide_eq_true h12)) ?_
       refine go (m_move) ?_
       refine go (m_fa ty_25) ?_ (gY (decide_eq_true h13))
       refine go (m_load ty_22) ?_ (gY (decide_eq_true h13))
       refine go (m_iaS hv14 ty_22 ty_50) ?_ (gY (decide_eq_true h13))
       refine go (m_load ty_50) ?_ (gY (decide_eq_true h13))
       refine go (m_eql) ?_ (gY (decide_eq_true h13))
       refine go (m_pickE (decide_eq_true h13)) ?_
       refine go (m_set) ?_
       refine .nil ⟨by kernel_rfl, ?_⟩
       refine d_ret ?_
       change RetD _ _ _ _ _ _ _
       have e := som H; subst e
       exact finE [] (.tmp (.nil))
      replace H := iF h13 H
      refine d_rs rfl ?_
      refine go (m_move) ?_
      refine go (m_eql) ?_
      refine go (m_move) ?_
      refine go (m_move) ?_ (gY (decide_eq_true h7))
      refine go (m_eql) ?_ (gY (decide_eq_true h7))
      refine go (m_pickE (decide_eq_true h7)) ?_
      refine go (m_move) ?_
      refine go (m_move) ?_ (gY (decide_eq_true h8))
      refine go (m_eql) ?_ (gY (decide_eq_true h8))
      refine go (m_pickE (decide_eq_true h8)) ?_
      refine go (m_move) ?_
      refine go (m_move) ?_ (gY (decide_eq_true h9))
      refine go (m_lenE ty_26) ?_ (gY (decide_eq_true h9))
      refine go (m_eql) ?_ (gY (decide_eq_true h9))
      refine go (m_pickE (decide_eq_true h9)) ?_
      refine go (m_move) ?_
      refine go (m_move) ?_ (gY (decide_eq_true h10))
      refine go (m_iaS hv11 ty_26 ty_3) ?_ (gY (decide_eq_true h10))
      refine go (m_load ty_3) ?_ (gY (decide_eq_true h10))
      refine go (m_eql) ?_ (gY (decide_eq_true h10))
      refine go (m_pickE (decide_eq_true h10)) ?_
      refine go (m_move) ?_
      refine go (m_fa ty_25) ?_ (gY (decide_eq_true h12))
      refine go (m_load ty_22) ?_ (gY (decide_eq_true h12))
      refine go (m_lenE ty_22) ?_ (gY (decide_eq_true h12))
      refine go (m_eql) ?_ (gY (decide_eq_true h12))
      refine go (m_pickE (decide_eq_true h12)) ?_
      refine go (m_move) ?_
      refine noE (decide_eq_false h13) ?_
      refine noE (decide_eq_false h13) ?_
      refine noE (decide_eq_false h13) ?_
      refine noE (decide_eq_false h13) ?_
      refine noE (decide_eq_false h13) ?_
      refine go (m_pickE (decide_eq_false h13)) ?_
      refine go (m_set) ?_
      refine .nil ⟨by kernel_rfl, ?_⟩
      refine d_ret ?_
      change RetD _ _ _ _ _ _ _
      have e := som H; subst e
      exact finE [] (.tmp (.nil))
     replace H := iF h12 H
     refine d_rs rfl ?_
     refine go (m_move) ?_
     refine go (m_eql) ?_
     refine go (m_move) ?_
     refine go (m_move) ?_ (gY (decide_eq_true h7))
     refine go (m_eql) ?_ (gY (decide_eq_true h7))
     refine go (m_pickE (decide_eq_true h7)) ?_
     refine go (m_move) ?_
     refine go (m_move) ?_ (gY (decide_eq_true h8))
     refine go (m_eql) ?_ (gY (decide_eq_true h8))
     refine go (m_pickE (decide_eq_true h8)) ?_
     refine go (m_move) ?_
     refine go (m_move) ?_ (gY (decide_eq_true h9))
     refine go (m_lenE ty_26) ?_ (gY (decide_eq_true h9))
     refine go (m_eql) ?_ (gY (decide_eq_true h9))
     refine go (m_pickE (decide_eq_true h9)) ?_
     refine go (m_move) ?_
     refine go (m_move) ?_ (gY (decide_eq_true h10))
     refine go (m_iaS hv11 ty_26 ty_3) ?_ (gY (decide_eq_true h10))
     refine go (m_load ty_3) ?_ (gY (decide_eq_true h10))
     refine go (m_eql) ?_ (gY (decide_eq_true h10))
     refine go (m_pickE (decide_eq_true h10)) ?_
     refine go (m_move) ?_
     refine noE (decide_eq_false h12) ?_
     refine noE (decide_eq_false h12) ?_
     refine noE (decide_eq_false h12) ?_
     refine noE (decide_eq_false h12) ?_
     refine go (m_pickE (decide_eq_false h12)) ?_
     refine go (m_move) ?_
     refine noE rfl ?_
     refine noE rfl ?_
     refine noE rfl ?_
     refine noE rfl ?_
     refine noE rfl ?_
     refine go (m_pickE rfl) ?_
     refine go (m_set) ?_
     refine .nil ⟨by kernel_rfl, ?_⟩
     refine d_ret ?_
     change RetD _ _ _ _ _ _ _
     have e := som H; subst e
     exact finE [] (.tmp (.nil))
    replace H := iF h10 H
    refine d_rs rfl ?_
    refine go (m_move) ?_
    refine go (m_eql) ?_
    refine go (m_move) ?_
    refine go (m_move) ?_ (gY (decide_eq_true h7))
    refine go (m_eql) ?_ (gY (decide_eq_true h7))
    refine go (m_pickE (decide_eq_true h7)) ?_
    refine go (m_move) ?_
    refine go (m_move) ?_ (gY (decide_eq_true h8))
    refine go (m_eql) ?_ (gY (decide_eq_true h8))
    refine go (m_pickE (decide_eq_true h8)) ?_
    refine go (m_move) ?_
    refine go (m_move) ?_ (gY (decide_eq_true h9))
    refine go (m_lenE ty_26) ?_ (gY (decide_eq_true h9))
    refine go (m_eql) ?_ (gY (decide_eq_true h9))
    refine go (m_pickE (decide_eq_true h9)) ?_
    refine go (m_move) ?_
    refine noE (decide_eq_false h10) ?_
    refine noE (decide_eq_false h10) ?_
    refine noE (decide_eq_false h10) ?_
    refine noE (decide_eq_false h10) ?_
    refine go (m_pickE (decide_eq_false h10)) ?_
    refine go (m_move) ?_
    refine noE rfl ?_
    refine noE rfl ?_
    refine noE rfl ?_
    refine noE rfl ?_
    refine go (m_pickE rfl) ?_
    refine go (m_move) ?_
    refine noE rfl ?_
    refine noE rfl ?_
    refine noE rfl ?_
    refine noE rfl ?_
    refine noE rfl ?_
    refine go (m_pickE rfl) ?_
    refine go (m_set) ?_
    refine .nil ⟨by kernel_rfl, ?_⟩
    refine d_ret ?_
    change RetD _ _ _ _ _ _ _
    have e := som H; subst e
    exact finE [] (.tmp (.nil))
   replace H := iF h9 H
   refine d_rs rfl ?_
   refine go (m_move) ?_
   refine go (m_eql) ?_
   refine go (m_move) ?_
   refine go (m_move) ?_ (gY (decide_eq_true h7))
   refine go (m_eql) ?_ (gY (decide_eq_true h7))
   refine go (m_pickE (decide_eq_true h7)) ?_
   refine go (m_move) ?_
   refine go (m_move) ?_ (gY (decide_eq_true h8))
   refine go (m_eql) ?_ (gY (decide_eq_true h8))
   refine go (m_pickE (decide_eq_true h8)) ?_
   refine go (m_move) ?_
   refine noE (decide_eq_false h9) ?_
   refine noE (decide_eq_false h9) ?_
   refine noE (decide_eq_false h9) ?_
   refine go (m_pickE (decide_eq_false h9)) ?_
   refine go (m_move) ?_
   refine noE rfl ?_
   refine noE rfl ?_
   refine noE rfl ?_
   refine noE rfl ?_
   refine go (m_pickE rfl) ?_
   refine go (m_move) ?_
   refine noE rfl ?_
   refine noE rfl ?_
   refine noE rfl ?_
   refine noE rfl ?_
   refine go (m_pickE rfl) ?_
   refine go (m_move) ?_
   refine noE rfl ?_
   refine noE rfl ?_
   refine noE rfl ?_
   refine noE rfl ?_
   refine noE rfl ?_
   refine go (m_pickE rfl) ?_
   refine go (m_set) ?_
   refine .nil ⟨by kernel_rfl, ?_⟩
   refine d_ret ?_
   change RetD _ _ _ _ _ _ _
   have e := som H; subst e
   exact finE [] (.tmp (.nil))
  replace H := iF h8 H
  refine d_rs rfl ?_
  refine go (m_move) ?_
  refine go (m_eql) ?_
  refine go (m_move) ?_
  refine go (m_move) ?_ (gY (decide_eq_true h7))
  refine go (m_eql) ?_ (gY (decide_eq_true h7))
  refine go (m_pickE (decide_eq_true h7)) ?_
  refine go (m_move) ?_
  refine noE (decide_eq_false h8) ?_
  refine noE (decide_eq_false h8) ?_
  refine go (m_pickE (decide_eq_false h8)) ?_
  refine go (m_move) ?_
  refine noE rfl ?_
  refine noE rfl ?_
  refine noE rfl ?_
  refine go (m_pickE rfl) ?_
  refine go (m_move) ?_
  refine noE rfl ?_
  refine noE rfl ?_
  refine noE rfl ?_
  refine noE rfl ?_
  refine go (m_pickE rfl) ?_
  refine go (m_move) ?_
  refine noE rfl ?_
  refine noE rfl ?_
  refine noE rfl ?_
  refine noE rfl ?_
  refine go (m_pickE rfl) ?_
  refine go (m_move) ?_
  refine noE rfl ?_
  refine noE rfl ?_
  refine noE rfl ?_
  refine noE rfl ?_
  refine noE rfl ?_
  refine go (m_pickE rfl) ?_
  refine go (m_set) ?_
  refine .nil ⟨by kernel_rfl, ?_⟩
  refine d_ret ?_
  change RetD _ _ _ _ _ _ _
  have e := som H; subst e
  exact finE [] (.tmp (.nil))
 replace H := iF h7 H
 refine d_rs rfl ?_
 refine go (m_move) ?_
 refine go (m_eql) ?_
 refine go (m_move) ?_
 refine noE (decide_eq_false h7) ?_
 refine noE (decide_eq_false h7) ?_
 refine go (m_pickE (decide_eq_false h7)) ?_
 refine go (m_move) ?_
 refine noE rfl ?_
 refine noE rfl ?_
 refine go (m_pickE rfl) ?_
 refine go (m_move) ?_
 refine noE rfl ?_
 refine noE rfl ?_
 refine noE rfl ?_
 refine go (m_pickE rfl) ?_
 refine go (m_move) ?_
 refine noE rfl ?_
 refine noE rfl ?_
 refine noE rfl ?_
 refine noE rfl ?_
 refine go (m_pickE rfl) ?_
 refine go (m_move) ?_
 refine noE rfl ?_
 refine noE rfl ?_
 refine noE rfl ?_
 refine noE rfl ?_
 refine go (m_pickE rfl) ?_
 refine go (m_move) ?_
 refine noE rfl ?_
 refine noE rfl ?_
 refine noE rfl ?_
 refine noE rfl ?_
 refine noE rfl ?_
 refine go (m_pickE rfl) ?_
 refine go (m_set) ?_
 refine .nil ⟨by kernel_rfl, ?_⟩
 refine d_ret ?_
 change RetD _ _ _ _ _ _ _
 have e := som H; subst e
 exact finE [] (.tmp (.nil))

structure BeltwaymakeDeck where
 l : List Int
 pos : Int
def BeltwaymakeDeck.c (x : BeltwaymakeDeck) : List DV := [.sl (x.l.map iC), DI x.pos]

noncomputable def F_make_New (p0 : List Int) : Option BeltwaymakeDeck :=
 some (BeltwaymakeDeck.mk p0 0)

set_option maxRecDepth 20000 in
set_option maxHeartbeats 4000000 in
theorem F_make_New_ok {p0 : List Int} {r : BeltwaymakeDeck} (H : F_make_New p0 = some r) : DCall Try.prog 14 [.sl (p0.map iC)] [] (.ptr 0 0 0) [(0, ⟨2, false, false, [[.sl (r.l.map iC), DI r.pos]]⟩)] := by
 unfold F_make_New at H
 refine DCall.mk Try.func14 rfl rfl ?_
 refine d_rs rfl ?_
 refine go (m_set) ?_
 refine .nil ⟨by kernel_rfl, ?_⟩
 refine d_rs rfl ?_
 refine go (m_move) ?_
 refine go (m_build ty_84) ?_
 refine go (m_box ty_84) ?_
 refine go (m_set) ?_
 refine .nil ⟨by kernel_rfl, ?_⟩
 refine d_ret ?_
 change RetD _ _ _ _ _ _ _
 have e := som H; subst e
 exact finE [(0, 0)] (.tmp (.nil))

noncomputable def F_make_Deck_Next (p0 : BeltwaymakeDeck) (p1 : Int) : Option (Int × BeltwaymakeDeck) :=
 if (p0.l.length : Int) ≤ p0.pos then
 (some ((0, p0)))
 else
 (at_ p0.l (w64 ((w64 (p0.pos + 1)) - 1))).bind fun v3 =>
 (F_make_Mod v3 p1).bind fun v4 =>
 some ((v4, BeltwaymakeDeck.mk p0.l (w64 (p0.pos + 1))))

set_option maxRecDepth 20000 in
set_option maxHeartbeats 4000000 in
theorem F_make_Deck_Next_ok {p0 : BeltwaymakeDeck} {p1 : Int} {r : Int × BeltwaymakeDeck} (H : F_make_Deck_Next p0 p1 = some r) : DCall Try.prog 47 [.ptr 0 0 0, DI p1] [(0, ⟨2, false, false, [[.sl (p0.l.map iC), DI p0.pos]]⟩)] (DI r.1) [(0, ⟨2, false, false, [[.sl (r.2.l.map iC), DI r.2.pos]]⟩)] := by
 unfold F_make_Deck_Next at H
 refine DCall.mk Try.func47 rfl rfl ?_
 refine d_rs rfl ?_
 refine go (m_set) ?_
 refine .nil ⟨by kernel_rfl, ?_⟩
 refine d_seq fun K k1 => ?_
 refine d_as mixedP rfl (by kernel_rfl) ?_
 refine go (m_move) ?_
 refine go (m_nil) ?_
 refine go (m_fa ty_84) ?_
 refine go (m_load ty_3) ?_
 refine go (m_move) ?_
 refine go (m_nil) ?_
 refine go (m_fa ty_84) ?_
 refine go (m_load ty_26) ?_
 refine go (m_lenE ty_26) ?_
 refine go (m_geq) ?_
 refine .nil ⟨⟨by kernel_rfl, by kernel_rfl⟩, ?_⟩
 by_cases h2 : (p0.l.length : Int) ≤ p0.pos
 ·
  replace H := iT h2 H
  refine d_condE rfl (decide_eq_true h2) ?_
  refine d_rs rfl ?_
  refine go (m_set) ?_
  refine .nil ⟨by kernel_rfl, ?_⟩
  refine d_ret ?_
  change RetD _ _ _ _ _ _ _
  have e := som H; subst e
  exact finE [(0, 0)] (.tmp (.nil))
 replace H := iF h2 H
 refine d_condN rfl (decide_eq_false h2) ?_
 refine d_skip ?_
 refine k1 _ ?_
 refine d_rs rfl ?_
 refine go (m_move) ?_
 refine go (m_nil) ?_
 refine go (m_fa ty_84) ?_
 refine go (m_load ty_3) ?_
 refine go (m_add) ?_
 refine go (m_nil) ?_
 refine go (m_fa ty_84) ?_
 refine go (m_store ty_3) ?_
 refine .nil ⟨by kernel_rfl, ?_⟩
 replace H := bnd H
 obtain ⟨v3, hv3, H⟩ := H
 replace H := bnd H
 obtain ⟨v4, hv4, H⟩ := H
 refine d_as mixedP rfl (by kernel_rfl) ?_
 refine go (m_move) ?_
 refine go (m_nil) ?_
 refine go (m_fa ty_84) ?_
 refine go (m_load ty_26) ?_
 refine go (m_move) ?_
 refine go (m_nil) ?_
 refine go (m_fa ty_84) ?_
 refine go (m_load ty_3) ?_
 refine go (m_sub) ?_
 refine go (m_iaS hv3 ty_26 ty_3) ?_
 refine go (m_load ty_3) ?_
 refine go (m_move) ?_
 refine go (m_cS [] (F_make_Mod_ok hv4) rfl ScS.nil) ?_
 refine go (m_set) ?_
 refine .nil ⟨⟨by kernel_rfl, by kernel_rfl⟩, ?_⟩
 refine d_ret ?_
 change RetD _ _ _ _ _ _ _
 have e := som H; subst e
 exact finE [(0, 0)] (.tmp (.nil))

noncomputable def F_ref02_Clone (p0 : List Int) : Option (List Int) :=
 if (p0.length : Int) * 8 ≤ 140737488355328 ∧ (p0.length : Int) ≤ 9223372036854775807 then
 some (p0)
 else none

set_option maxRecDepth 20000 in
set_option maxHeartbeats 4000000 in
theorem F_ref02_Clone_ok {p0 : List Int} {r : List Int} (H : F_ref02_Clone p0 = some r) : DCall Try.prog 81 [.sl (p0.map uC)] [] (.own 0 0 r.length) [(0, ⟨1, true, false, r.map uC⟩)] := by
 unfold F_ref02_Clone at H
 refine DCall.mk Try.func81 rfl rfl ?_
 refine d_rs rfl ?_
 refine go (m_set) ?_
 refine .nil ⟨by kernel_rfl, ?_⟩
 replace H := ck H
 obtain ⟨h1, H⟩ := H
 refine d_rs rfl ?_
 refine go (m_move) ?_
 refine go (m_apN (c := uC) p0 h1 ty_22 ty_50 rfl (.sl rfl (all_len (c := uC) (fun _ => rfl) _))) ?_
 refine go (m_set) ?_
 refine .nil ⟨by kernel_rfl, ?_⟩
 refine d_ret ?_
 change RetD _ _ _ _ _ _ _
 have e := som H; subst e
 exact finE [(0, 0)] (.tmp (.nil))

noncomputable def F_ref03_Copy (p0 : Sp) : Option Sp :=
 (F_ref02_Clone p0.ws).bind fun v1 =>
 if (p0.fs.length : Int) * 24 ≤ 140737488355328 ∧ (p0.fs.length : Int) ≤ 9223372036854775807 then
 some (Sp.mk p0.sh v1 p0.fs)
 else none

set_option maxRecDepth 20000 in
set_option maxHeartbeats 4000000 in
theorem F_ref03_Copy_ok {p0 : Sp} {r : Sp} (H : F_ref03_Copy p0 = some r) : DCall Try.prog 49 [.agg [DI p0.sh, .sl (p0.ws.map uC), .sl (p0.fs.map frC)]] [] (.agg [DI r.sh, .own 0 0 r.ws.length, .own 1 0 r.fs.length]) [(0, ⟨1, true, false, r.ws.map uC⟩), (1, ⟨3, true, false, r.fs.map frC⟩)] := by
 unfold F_ref03_Copy at H
 refine DCall.mk Try.func49 rfl rfl ?_
 refine d_rs rfl ?_
 refine go (m_box ty_25) ?_
 refine go (m_alloc ty_25) ?_
 refine .nil ⟨by kernel_rfl, ?_⟩
 replace H := bnd H
 obtain ⟨v1, hv1, H⟩ := H
 replace H := ck H
 obtain ⟨h2, H⟩ := H
 refine d_as mixedP rfl (by kernel_rfl) ?_
 refine go (m_fa ty_25) ?_
 refine go (m_load ty_3) ?_
 refine go (m_fa ty_25) ?_
 refine go (m_load ty_22) ?_
 refine go (m_cS [] (F_ref02_Clone_ok hv1) rfl (ScS.cons (scC (fun _ => rfl)) ScS.nil)) ?_
 refine go (m_fa ty_25) ?_
 refine go (m_load ty_23) ?_
 refine go (m_apN (c := frC) p0.fs h2 ty_23 ty_79 rfl (.sl rfl (all_len (c := frC) (fun _ => rfl) _))) ?_
 refine go (m_build ty_25) ?_
 refine go (m_store ty_25) ?_
 refine .nil ⟨⟨by kernel_rfl, by kernel_rfl⟩, ?_⟩
 refine d_ret ?_
 change RetD _ _ _ _ _ _ _
 have e := som H; subst e
 exact finE [(0, 2), (1, 3)] (.cell ty_25 rfl rfl rfl rfl (.nil))

noncomputable def F_ref04_Free (p0 : Sp) : Option (List Int) :=
 (loopO (fun (s4 : List Int × Int) =>
 if s4.2 < (p0.fs.length : Int) then
 ((at_ p0.fs s4.2).bind fun v9 =>
 if v9.ow = (-1) then
 (if ((s4.1.length : Int) + [s4.2].length) * 8 ≤ 140737488355328 ∧ (s4.1.length : Int) + [s4.2].length ≤ 9223372036854775807 then
 some (.go ((s4.1 ++ [s4.2], w64 (s4.2 + 1))))
 else none)
 else
 some (.go ((s4.1, w64 (s4.2 + 1)))))
 else
 some (.out (s4.1))) (([] : List Int), 0)).bind fun (b1 : List Int) =>
 some (b1)

set_option maxRecDepth 20000 in
set_option maxHeartbeats 4000000 in
theorem F_ref04_Free_ok {p0 : Sp} {r : List Int} (H : F_ref04_Free p0 = some r) : DCall Try.prog 97 [.agg [DI p0.sh, .sl (p0.ws.map uC), .sl (p0.fs.map frC)]] [] (.own 0 0 r.length) [(0, ⟨1, true, false, r.map iC⟩)] := by
 unfold F_ref04_Free at H
 refine DCall.mk Try.func97 rfl rfl ?_
 refine d_rs rfl ?_
 refine go (m_box ty_25) ?_
 refine go (m_set) ?_
 refine .nil ⟨by kernel_rfl, ?_⟩
 refine d_rs rfl ?_
 refine go (m_set) ?_
 refine .nil ⟨by kernel_rfl, ?_⟩
 refine d_nil 3 1 (by decide) rfl ?_
 refine d_cutF (fun (b1 : List Int) => ⟨[(3, .own 0 0 b1.length)], [(0, ⟨1, true, false, b1.map iC⟩)], 1⟩) H (fun z2 H => ?_) (fun b1 H => ?_)
 ·
  refine d_rs rfl ?_
  refine go (m_fa ty_25) ?_
  refine go (m_load ty_23) ?_
  refine go (m_lenE ty_23) ?_
  refine go (m_move) ?_
  refine .nil ⟨by kernel_rfl, ?_⟩
  refine d_block ?_
  refine d_loopF (fun (s4 : List Int × Int) => ⟨[(3, .own 0 0 s4.1.length), (7, .sl (p0.fs.map frC)), (8, DI (p0.fs.length : Int)), (9, DI s4.2)], [(0, ⟨1, true, false, s4.1.map iC⟩)], 1⟩) H (wkE [(0, 1)]) (fun s4 y5 H hq5 => ?_)
  refine d_rs rfl ?_
  refine go (m_lss) ?_
  refine .nil ⟨by kernel_rfl, ?_⟩
  refine d_seq fun K k6 => ?_
  by_cases h7 : s4.2 < (p0.fs.length : Int)
  ·
   replace H := iT h7 H
   refine d_condE rfl (decide_eq_true h7) ?_
   refine d_skip ?_
   refine k6 _ ?_
   refine d_seq fun K k8 => ?_
   refine d_block ?_
   replace H := bnd H
   obtain ⟨v9, hv9, H⟩ := H
   refine d_rs rfl ?_
   refine go (m_move) ?_
   refine go (m_iaS hv9 ty_23 ty_79) ?_
   refine go (m_load ty_79) ?_
   refine go (m_alloc ty_79) ?_
   refine go (m_set) ?_
   refine go (m_store ty_79) ?_
   refine .nil ⟨by kernel_rfl, ?_⟩
   refine d_rs rfl ?_
   refine go (m_fa ty_79) ?_
   refine go (m_load ty_3) ?_
   refine go (m_eql) ?_
   refine .nil ⟨by kernel_rfl, ?_⟩
   by_cases h10 : v9.ow = (-1)
   ·
    replace H := iT h10 H
    refine d_condE rfl (decide_eq_true h10) ?_
    replace H := ck H
    obtain ⟨h11, H⟩ := H
    refine d_region rfl ?_
    refine go (m_move) ?_
    refine go (m_move) ?_
    refine go (m_litE (c := iC) ([s4.2] : List Int) ty_26 ty_3) ?_
    refine go (m_apO (c := iC) s4.1 [s4.2] h11 ty_26 ty_3 rfl rfl (.own rfl rfl (by simp) (all_len (c := iC) (fun _ => rfl) _)) rfl) ?_
    refine go (m_set) ?_
    refine .nil ⟨by kernel_rfl, ?_⟩
    refine k8 _ ?_
    refine d_region rfl ?_
    refine go (m_add) ?_
    refine go (m_move) ?_
    refine .nil ⟨by kernel_rfl, ?_⟩
    have e := som H; subst e
    exact ⟨_, rfl, wkE [(0, 3)]⟩
   replace H := iF h10 H
   refine d_condN rfl (decide_eq_false h10) ?_
   refine d_skip ?_
   refine k8 _ ?_
   refine d_region rfl ?_
   refine go (m_add) ?_
   refine go (m_move) ?_
   refine .nil ⟨by kernel_rfl, ?_⟩
   have e := som H; subst e
   exact ⟨_, rfl, wkE [(0, 0)]⟩
  replace H := iF h7 H
  refine d_condN rfl (decide_eq_false h7) ?_
  refine d_exit ?_
  have e := som H; subst e
  have e := hq5 _ rfl; subst e
  exact wkE [(0, 0)]
 refine d_rs rfl ?_
 refine go (m_move) ?_
 refine go (m_set) ?_
 refine .nil ⟨by kernel_rfl, ?_⟩
 refine d_ret ?_
 change RetD _ _ _ _ _ _ _
 have e := som H; subst e
 exact finE [(0, 0)] (.tmp (.nil))

noncomputable def F_ref04_Lift (p0 : Sp) (p1 : Int) (p2 : Int) : Option (Int × List Fe) :=
 bndR (loopO (fun (s4 : Int) =>
 if s4 < (p0.fs.length : Int) then
 ((at_ p0.fs s4).bind fun v9 =>
 if v9.ow = (-1) then
 ((at_ p0.fs s4).bind fun v11 =>
 some (.out (.inr ((s4, p0.fs.set (Int.toNat s4) (Fe.mk p1 (w64 ((w64 (p2 * 4294967296)) + p1)) (-1)))))))
 else
 some (.go (w64 (s4 + 1))))
 else
 some (.out (.inl (())))) 0) fun (b1 : Unit) =>
 some (((-1), p0.fs))

set_option maxRecDepth 20000 in
set_option maxHeartbeats 4000000 in
theorem F_ref04_Lift_ok {p0 : Sp} {p1 : Int} {p2 : Int} {r : Int × List Fe} (H : F_ref04_Lift p0 p1 p2 = some r) : DCall Try.prog 98 [.agg [DI p0.sh, .sl (p0.ws.map uC), .own 0 0 p0.fs.length], DI p1, DI p2] [(0, ⟨3, true, false, p0.fs.map frC⟩)] (DI r.1) [(0, ⟨3, true, false, r.2.map frC⟩)] := by
 unfold F_ref04_Lift at H
 refine DCall.mk Try.func98 rfl rfl ?_
 refine d_rs rfl ?_
 refine go (m_box ty_25) ?_
 refine go (m_set) ?_
 refine .nil ⟨by kernel_rfl, ?_⟩
 refine d_cutR (fun (b1 : Unit) => ⟨[], [(0, ⟨3, true, false, p0.fs.map frC⟩)], 1⟩) H (fun z2 H hr2 => ?_) (fun b1 H => ?_)
 ·
  refine d_rs rfl ?_
  refine go (m_fa ty_25) ?_
  refine go (m_load ty_23) ?_
  refine go (m_lenE ty_23) ?_
  refine go (m_move) ?_
  refine .nil ⟨by kernel_rfl, ?_⟩
  refine d_block ?_
  refine d_loopF (fun (s4 : Int) => ⟨[(1, DI p1), (2, DI p2), (3, .ptr 1 0 0), (10, .own 0 0 p0.fs.length), (11, DI (p0.fs.length : Int)), (12, DI s4)], [(0, ⟨3, true, false, p0.fs.map frC⟩), (1, ⟨3, false, false, [[DI p0.sh, .sl (p0.ws.map uC), .own 0 0 p0.fs.length]]⟩)], 2⟩) H (wkE [(0, 0), (1, 1)]) (fun s4 y5 H hq5 => ?_)
  refine d_rs rfl ?_
  refine go (m_lss) ?_
  refine .nil ⟨by kernel_rfl, ?_⟩
  refine d_seq fun K k6 => ?_
  by_cases h7 : s4 < (p0.fs.length : Int)
  ·
   replace H := iT h7 H
   refine d_condE rfl (decide_eq_true h7) ?_
   refine d_skip ?_
   refine k6 _ ?_
   refine d_seq fun K k8 => ?_
   refine d_block ?_
   replace H := bnd H
   obtain ⟨v9, hv9, H⟩ := H
   refine d_rs rfl ?_
   refine go (m_move) ?_
   refine go (m_iaO hv9 ty_23 ty_79 rfl rfl rfl) ?_
   refine go (m_ldO hv9 ty_79) ?_
   refine go (m_alloc ty_79) ?_
   refine go (m_set) ?_
   refine go (m_store ty_79) ?_
   refine .nil ⟨by kernel_rfl, ?_⟩
   refine d_rs rfl ?_
   refine go (m_fa ty_79) ?_
   refine go (m_load ty_3) ?_
   refine go (m_eql) ?_
   refine .nil ⟨by kernel_rfl, ?_⟩
   by_cases h10 : v9.ow = (-1)
   ·
    replace H := iT h10 H
    refine d_condE rfl (decide_eq_true h10) ?_
    replace H := bnd H
    obtain ⟨v11, hv11, H⟩ := H
    refine d_rs rfl ?_
    refine go (m_fa ty_25) ?_
    refine go (m_load ty_23) ?_
    refine go (m_move) ?_
    refine go (m_move) ?_
    refine go (m_move) ?_
    refine go (m_mul) ?_
    refine go (m_move) ?_
    refine go (m_add) ?_
    refine go (m_build ty_79) ?_
    refine go (m_iaO hv11 ty_23 ty_79 rfl rfl rfl) ?_
    refine go (m_stO (c := frC) hv11 (Fe.mk p1 (w64 ((w64 (p2 * 4294967296)) + p1)) (-1)) ty_79) ?_
    refine .nil ⟨by kernel_rfl, ?_⟩
    refine d_rs rfl ?_
    refine go (m_move) ?_
    refine go (m_set) ?_
    refine .nil ⟨by kernel_rfl, ?_⟩
    refine d_ret ?_
    change RetD _ _ _ _ _ _ _
    have e := som H; subst e
    have e := hq5 _ rfl; subst e
    have e := hr2 _ rfl; subst e
    exact finE [(0, 0)] (.tmp (.nil))
   replace H := iF h10 H
   refine d_condN rfl (decide_eq_false h10) ?_
   refine d_skip ?_
   refine k8 _ ?_
   refine d_region rfl ?_
   refine go (m_add) ?_
   refine go (m_move) ?_
   refine .nil ⟨by kernel_rfl, ?_⟩
   have e := som H; subst e
   exact ⟨_, rfl, wkE [(0, 0), (1, 1)]⟩
  replace H := iF h7 H
  refine d_condN rfl (decide_eq_false h7) ?_
  refine d_exit ?_
  have e := som H; subst e
  have e := hq5 _ rfl; subst e
  exact ⟨_, rfl, wkE [(0, 0)]⟩
 refine d_rs rfl ?_
 refine go (m_set) ?_
 refine .nil ⟨by kernel_rfl, ?_⟩
 refine d_ret ?_
 change RetD _ _ _ _ _ _ _
 have e := som H; subst e
 exact finE [(0, 0)] (.tmp (.nil))

noncomputable def F_ref09_Grow (p0 : Sp) (p1 : Inc) (p2 : Int) : Option (Inc × Int × Int × List Fe) :=
 (F_ref09_Extra p0 p1 p2).bind fun v1 =>
 (F_ref04_Free p0).bind fun v3 =>
 if (v3.length : Int) < v1 then
 (some ((Inc.mk 0 0 0 0 0, 0, 4, p0.fs)))
 else
 (loopO (fun (s8 : List Fe × Inc × Int) =>
 if 0 < s8.2.2 then
 ((F_ref04_Lift (Sp.mk p0.sh p0.ws s8.1) s8.2.1.seq s8.2.1.belt).bind fun v13 =>
 if v13.2.length = s8.1.length then
 if s8.2.1.first = (-1) then
 (some (.go ((v13.2, Inc.mk s8.2.1.seq s8.2.1.belt v13.1 v13.1 s8.2.1.words, w64 (s8.2.2 - 1)))))
 else
 (at_ v13.2 s8.2.1.last).bind fun v16 =>
 some (.go ((v13.2.set (Int.toNat s8.2.1.last) (Fe.mk v16.ow v16.st v13.1), Inc.mk s8.2.1.seq s8.2.1.belt s8.2.1.first v13.1 s8.2.1.words, w64 (s8.2.2 - 1))))
 else none)
 else
 some (.out ((s8.1, s8.2.1)))) (p0.fs, p1, v1)).bind fun (b5 : List Fe × Inc) =>
 if 0 ≤ wu p0.sh then
 (F_ref05_Go (Sp.mk p0.sh p0.ws b5.1) (shlN .i64 b5.2.first (wu p0.sh)) p1.words).bind fun v19 =>
 some ((Inc.mk b5.2.seq b5.2.belt b5.2.first b5.2.last (w64 (b5.2.words + p2)), v19.1, 0, b5.1))
 else none

set_option maxRecDepth 20000 in
set_option maxHeartbeats 4000000 in
theorem F_ref09_Grow_ok {p0 : Sp} {p1 : Inc} {p2 : Int} {r : Inc × Int × Int × List Fe} (H : F_ref09_Grow p0 p1 p2 = some r) : DCall Try.prog 69 [.agg [DI p0.sh, .sl (p0.ws.map uC), .own 0 0 p0.fs.length], .agg [DI p1.seq, DI p1.belt, DI p1.first, DI p1.last, DI p1.words], DI p2] [(0, ⟨3, true, false, p0.fs.map frC⟩)] (.tup [.agg [DI r.1.seq, DI r.1.belt, DI r.1.first, DI r.1.last, DI r.1.words], DI r.2.1, DI r.2.2.1]) [(0, ⟨3, true, false, r.2.2.2.map frC⟩)] := by
 unfold F_ref09_Grow at H
 refine DCall.mk Try.func69 rfl rfl ?_
 refine d_rs rfl ?_
 refine go (m_box ty_25) ?_
 refine go (m_box ty_56) ?_
 refine go (m_alloc ty_56) ?_
 refine go (m_set) ?_
 refine go (m_set) ?_
 refine .nil ⟨by kernel_rfl, ?_⟩
 replace H := bnd H
 obtain ⟨v1, hv1, H⟩ := H
 refine d_rs rfl ?_
 refine go (m_load ty_25) ?_
 refine go (m_load ty_56) ?_
 refine go (m_move) ?_
 refine go (m_cS [] (F_ref09_Extra_ok hv1) rfl ScS.nil) ?_
 refine go (m_set) ?_
 refine .nil ⟨by kernel_rfl, ?_⟩
 refine d_seq fun K k2 => ?_
 replace H := bnd H
 obtain ⟨v3, hv3, H⟩ := H
 refine d_rs rfl ?_
 refine go (m_move) ?_
 refine go (m_load ty_25) ?_
 refine go (m_cS [] (F_ref04_Free_ok hv3) rfl (ScS.cons (scC (fun _ => rfl)) ScS.nil)) ?_
 refine go (m_lenE ty_26) ?_
 refine go (m_gtr) ?_
 refine .nil ⟨by kernel_rfl, ?_⟩
 by_cases h4 : (v3.length : Int) < v1
 ·
  replace H := iT h4 H
  refine d_condE rfl (decide_eq_true h4) ?_
  refine d_rs rfl ?_
  refine go (m_build ty_56) ?_
  refine go (m_store ty_56) ?_
  refine go (m_set) ?_
  refine go (m_set) ?_
  refine .nil ⟨by kernel_rfl, ?_⟩
  refine d_ret ?_
  change RetD _ _ _ _ _ _ _
  have e := som H; subst e
  exact finE [(0, 0)] (.cell ty_56 rfl rfl rfl rfl (.tmp (.tmp (.nil))))
 replace H := iF h4 H
 refine d_condN rfl (decide_eq_false h4) ?_
 refine d_skip ?_
 refine k2 _ ?_
 refine d_rs rfl ?_
 refine go (m_fa ty_56) ?_
 refine go (m_load ty_3) ?_
 refine go (m_set) ?_
 refine .nil ⟨by kernel_rfl, ?_⟩
 refine d_cutF (fun (b5 : List Fe × Inc) => ⟨[(2, DI p2), (3, .ptr 1 0 0), (4, .ptr 2 0 0), (6, .ptr 3 0 0), (10, DI p1.words)], [(0, ⟨3, true, false, b5.1.map frC⟩), (1, ⟨3, false, false, [[DI p0.sh, .sl (p0.ws.map uC), .own 0 0 b5.1.length]]⟩), (2, ⟨5, false, false, [[DI b5.2.seq, DI b5.2.belt, DI b5.2.first, DI b5.2.last, DI b5.2.words]]⟩), (3, ⟨5, false, false, [[DI 0, DI 0, DI 0, DI 0, DI 0]]⟩)], 4⟩) H (fun z6 H => ?_) (fun b5 H => ?_)
 ·
  refine d_block ?_
  refine d_loopF (fun (s8 : List Fe × Inc × Int) => ⟨[(2, DI p2), (3, .ptr 1 0 0), (4, .ptr 2 0 0), (6, .ptr 3 0 0), (9, DI s8.2.2), (10, DI p1.words)], [(0, ⟨3, true, false, s8.1.map frC⟩), (1, ⟨3, false, false, [[DI p0.sh, .sl (p0.ws.map uC), .own 0 0 s8.1.length]]⟩), (2, ⟨5, false, false, [[DI s8.2.1.seq, DI s8.2.1.belt, DI s8.2.1.first, DI s8.2.1.last, DI s8.2.1.words]]⟩), (3, ⟨5, false, false, [[DI 0, DI 0, DI 0, DI 0, DI 0]]⟩)], 4⟩) H (wkE [(0, 0), (1, 1), (2, 2), (3, 3)]) (fun s8 y9 H hq9 => ?_)
  refine d_seq fun K k10 => ?_
  refine d_rs rfl ?_
  refine go (m_move) ?_
  refine go (m_gtr) ?_
  refine .nil ⟨by kernel_rfl, ?_⟩
  by_cases h11 : 0 < s8.2.2
  ·
   replace H := iT h11 H
   refine d_condE rfl (decide_eq_true h11) ?_
   refine d_skip ?_
   refine k10 _ ?_
   refine d_seq fun K k12 => ?_
   refine d_block ?_
   replace H := bnd H
   obtain ⟨v13, hv13, H⟩ := H
   replace H := ck H
   obtain ⟨h17, H⟩ := H
   refine d_rs rfl ?_
   refine go (m_load ty_25) ?_
   refine go (m_fa ty_56) ?_
   refine go (m_load ty_3) ?_
   refine go (m_fa ty_56) ?_
   refine go (m_load ty_3) ?_
   refine go (m_cS [(0, 0)] (F_ref04_Lift_ok hv13) rfl (ScS.cons (scC (fun _ => rfl)) ScS.nil)) ?_
   refine go (m_set) ?_
   refine .nil ⟨by kernel_rfl, ?_⟩
   refine d_seq fun K k14 => ?_
   refine d_rs rfl ?_
   refine go (m_fa ty_56) ?_
   refine go (m_load ty_3) ?_
   refine go (m_eql) ?_
   refine .nil ⟨by kernel_rfl, ?_⟩
   by_cases h15 : s8.2.1.first = (-1)
   ·
    replace H := iT h15 H
    refine d_condE rfl (decide_eq_true h15) ?_
    refine d_region rfl ?_
    refine go (m_move) ?_
    refine go (m_fa ty_56) ?_
    refine go (m_store ty_3) ?_
    refine .nil ⟨by kernel_rfl, ?_⟩
    refine k14 _ ?_
    refine d_region rfl ?_
    refine go (m_move) ?_
    refine go (m_fa ty_56) ?_
    refine go (m_store ty_3) ?_
    refine .nil ⟨by kernel_rfl, ?_⟩
    refine k12 _ ?_
    refine d_region rfl ?_
    refine go (m_move) ?_
    refine go (m_sub) ?_
    refine go (m_set) ?_
    refine .nil ⟨by kernel_rfl, ?_⟩
    have e := som H; subst e
    exact ⟨_, rfl, wkE [(0, 0), (1, 1), (2, 2), (3, 3)]⟩
   replace H := iF h15 H
   refine d_condN rfl (decide_eq_false h15) ?_
   replace H := bnd H
   obtain ⟨v16, hv16, H⟩ := H
   refine d_region rfl ?_
   refine go (m_fa ty_25) ?_
   refine go (m_load ty_23) ?_
   refine go (m_fa ty_56) ?_
   refine go (m_load ty_3) ?_
   refine go (m_move) ?_
   refine go (m_iaO hv16 ty_23 ty_79 rfl rfl (by first | omega | (simp; done) | (simp; omega))) ?_
   refine go (m_fa ty_79) ?_
   refine go (m_stO (c := frC) hv16 (Fe.mk v16.ow v16.st v13.1) ty_3) ?_
   refine .nil ⟨by kernel_rfl, ?_⟩
   refine k14 _ ?_
   refine d_region rfl ?_
   refine go (m_move) ?_
   refine go (m_fa ty_56) ?_
   refine go (m_store ty_3) ?_
   refine .nil ⟨by kernel_rfl, ?_⟩
   refine k12 _ ?_
   refine d_region rfl ?_
   refine go (m_move) ?_
   refine go (m_sub) ?_
   refine go (m_set) ?_
   refine .nil ⟨by kernel_rfl, ?_⟩
   have e := som H; subst e
   exact ⟨_, rfl, wkE [(0, 0), (1, 1), (2, 2), (3, 3)]⟩
  replace H := iF h11 H
  refine d_condN rfl (decide_eq_false h11) ?_
  refine d_exit ?_
  have e := som H; subst e
  have e := hq9 _ rfl; subst e
  exact wkE [(0, 0), (1, 1), (2, 2), (3, 3)]
 refine d_rs rfl ?_
 refine go (m_fa ty_56) ?_
 refine go (m_load ty_3) ?_
 refine go (m_move) ?_
 refine go (m_add) ?_
 refine go (m_fa ty_56) ?_
 refine go (m_store ty_3) ?_
 refine .nil ⟨by kernel_rfl, ?_⟩
 replace H := ck H
 obtain ⟨h18, H⟩ := H
 replace H := bnd H
 obtain ⟨v19, hv19, H⟩ := H
 refine d_rs rfl ?_
 refine go (m_load ty_25) ?_
 refine go (m_fa ty_56) ?_
 refine go (m_load ty_3) ?_
 refine go (m_fa ty_25) ?_
 refine go (m_load ty_3) ?_
 refine go (m_cnv ty_3 ty_66) ?_
 refine go (m_shlE h18) ?_
 refine go (m_move) ?_
 refine go (m_cS [] (F_ref05_Go_ok hv19) rfl ScS.nil) ?_
 refine go (m_move) ?_
 refine go (m_ext) ?_
 refine go (m_ext) ?_
 refine go (m_set) ?_
 refine go (m_set) ?_
 refine .nil ⟨by kernel_rfl, ?_⟩
 refine d_rs rfl ?_
 refine go (m_load ty_56) ?_
 refine go (m_move) ?_
 refine go (m_store ty_56) ?_
 refine go (m_set) ?_
 refine go (m_set) ?_
 refine .nil ⟨by kernel_rfl, ?_⟩
 refine d_ret ?_
 change RetD _ _ _ _ _ _ _
 have e := som H; subst e
 exact finE [(0, 0)] (.cell ty_56 rfl rfl rfl rfl (.tmp (.tmp (.nil))))

noncomputable def F_ref09_Alloc (p0 : Sp) (p1 : Inc) (p2 : Int) : Option (Sp × Inc × Int × Int) :=
 (F_ref09_Valid p0 p1).bind fun v2 =>
 if v2 = true then
 (if p2 < 1 then
 (some ((Sp.mk 0 ([] : List Int) ([] : List Fe), Inc.mk 0 0 0 0 0, 0, 1)))
 else
 if 48 < p2 then
 (some ((Sp.mk 0 ([] : List Int) ([] : List Fe), Inc.mk 0 0 0 0 0, 0, 1)))
 else
 if p1.words = 0 then
 ((F_ref09_Owns p0 p1.seq).bind fun v8 =>
 if v8 = true then
 (some ((Sp.mk 0 ([] : List Int) ([] : List Fe), Inc.mk 0 0 0 0 0, 0, 5)))
 else
 (F_ref03_Copy p0).bind fun v10 =>
 (F_ref09_Grow v10 p1 p2).bind fun v11 =>
 if v11.2.2.2.length = v10.fs.length then
 if v11.2.2.1 = 0 then
 (some ((Sp.mk v10.sh v10.ws v11.2.2.2, v11.1, v11.2.1, 0)))
 else
 some ((Sp.mk 0 ([] : List Int) ([] : List Fe), Inc.mk 0 0 0 0 0, 0, v11.2.2.1))
 else none)
 else
 (F_ref03_Copy p0).bind fun v15 =>
 (F_ref09_Grow v15 p1 p2).bind fun v16 =>
 if v16.2.2.2.length = v15.fs.length then
 if v16.2.2.1 = 0 then
 (some ((Sp.mk v15.sh v15.ws v16.2.2.2, v16.1, v16.2.1, 0)))
 else
 some ((Sp.mk 0 ([] : List Int) ([] : List Fe), Inc.mk 0 0 0 0 0, 0, v16.2.2.1))
 else none)
 else
 some ((Sp.mk 0 ([] : List Int) ([] : List Fe), Inc.mk 0 0 0 0 0, 0, 1))

set_option maxRecDepth 20000 in
set_option maxHeartbeats 4000000 in
theorem F_ref09_Alloc_ok {p0 : Sp} {p1 : Inc} {p2 : Int} {r : Sp × Inc × Int × Int} (H : F_ref09_Alloc p0 p1 p2 = some r) : DCall Try.prog 34 [.agg [DI p0.sh, .sl (p0.ws.map uC), .sl (p0.fs.map frC)], .agg [DI p1.seq, DI p1.belt, DI p1.first, DI p1.last, DI p1.words], DI p2] [] (.tup [.agg [DI r.1.sh, .own 0 0 r.1.ws.length, .own 1 0 r.1.fs.length], .agg [DI r.2.1.seq, DI r.2.1.belt, DI r.2.1.first, DI r.2.1.last, DI r.2.1.words], DI r.2.2.1, DI r.2.2.2]) [(0, ⟨1, true, false, r.1.ws.map uC⟩), (1, ⟨3, true, false, r.1.fs.map frC⟩)] := by
 unfold F_ref09_Alloc at H
 refine DCall.mk Try.func34 rfl rfl ?_
 refine d_rs rfl ?_
 refine go (m_box ty_25) ?_
 refine go (m_box ty_56) ?_
 refine go (m_alloc ty_25) ?_
 refine go (m_alloc ty_56) ?_
 refine go (m_set) ?_
 refine go (m_set) ?_
 refine .nil ⟨by kernel_rfl, ?_⟩
 refine d_seq fun K k1 => ?_
 replace H := bnd H
 obtain ⟨v2, hv2, H⟩ := H
 by_cases h3 : v2 = true
 ·
  replace H := iT h3 H
  by_cases h4 : p2 < 1
  ·
   replace H := iT h4 H
   refine d_rs rfl ?_
   refine go (m_load ty_25) ?_
   refine go (m_load ty_56) ?_
   refine go (m_cS [] (F_ref09_Valid_ok hv2) rfl ScS.nil) ?_
   refine go (m_not) ?_
   refine go (m_move) ?_
   refine go (m_move) ?_ (gY (congrArg not h3))
   refine go (m_lss) ?_ (gY (congrArg not h3))
   refine go (m_pickE (congrArg not h3)) ?_
   refine go (m_move) ?_
   refine noE (decide_eq_true h4) ?_
   refine noE (decide_eq_true h4) ?_
   refine go (m_pickE (decide_eq_true h4)) ?_
   refine .nil ⟨by kernel_rfl, ?_⟩
   refine d_condE rfl rfl ?_
   refine d_rs rfl ?_
   refine go (m_build ty_25) ?_
   refine go (m_build ty_56) ?_
   refine go (m_store ty_25) ?_
   refine go (m_store ty_56) ?_
   refine go (m_set) ?_
   refine go (m_set) ?_
   refine .nil ⟨by kernel_rfl, ?_⟩
   refine d_nilB 2 1 1 (by decide) rfl rfl ?_
   refine d_nilB 2 2 3 (by decide) rfl rfl ?_
   refine d_ret ?_
   change RetD _ _ _ _ _ _ _
   have e := som H; subst e
   exact finE [(0, 4), (1, 5)] (.cell ty_25 rfl rfl rfl rfl (.cell ty_56 rfl rfl rfl rfl (.tmp (.tmp (.nil)))))
  replace H := iF h4 H
  refine d_rs rfl ?_
  refine go (m_load ty_25) ?_
  refine go (m_load ty_56) ?_
  refine go (m_cS [] (F_ref09_Valid_ok hv2) rfl ScS.nil) ?_
  refine go (m_not) ?_
  refine go (m_move) ?_
  refine go (m_move) ?_ (gY (congrArg not h3))
  refine go (m_lss) ?_ (gY (congrArg not h3))
  refine go (m_pickE (congrArg not h3)) ?_
  refine go (m_move) ?_
  refine go (m_move) ?_ (gY (decide_eq_false h4))
  refine go (m_gtr) ?_ (gY (decide_eq_false h4))
  refine go (m_pickE (decide_eq_false h4)) ?_
  refine .nil ⟨by kernel_rfl, ?_⟩
  by_cases h5 : 48 < p2
  ·
   replace H := iT h5 H
   refine d_condE rfl (decide_eq_true h5) ?_
   refine d_rs rfl ?_
   refine go (m_build ty_25) ?_
   refine go (m_build ty_56) ?_
   refine go (m_store ty_25) ?_
   refine go (m_store ty_56) ?_
   refine go (m_set) ?_
   refine go (m_set) ?_
   refine .nil ⟨by kernel_rfl, ?_⟩
   refine d_nilB 2 1 1 (by decide) rfl rfl ?_
   refine d_nilB 2 2 3 (by decide) rfl rfl ?_
   refine d_ret ?_
   change RetD _ _ _ _ _ _ _
   have e := som H; subst e
   exact finE [(0, 4), (1, 5)] (.cell ty_25 rfl rfl rfl rfl (.cell ty_56 rfl rfl rfl rfl (.tmp (.tmp (.nil)))))
  replace H := iF h5 H
  refine d_condN rfl (decide_eq_false h5) ?_
  refine d_skip ?_
  refine k1 _ ?_
  refine d_seq fun K k6 => ?_
  by_cases h7 : p1.words = 0
  ·
   replace H := iT h7 H
   replace H := bnd H
   obtain ⟨v8, hv8, H⟩ := H
   refine d_rs rfl ?_
   refine go (m_fa ty_56) ?_
   refine go (m_load ty_3) ?_
   refine go (m_eql) ?_
   refine go (m_move) ?_
   refine go (m_load ty_25) ?_ (gY (decide_eq_true h7))
   refine go (m_fa ty_56) ?_ (gY (decide_eq_true h7))
   refine go (m_load ty_3) ?_ (gY (decide_eq_true h7))
   refine go (m_cS [] (F_ref09_Owns_ok hv8) rfl ScS.nil) ?_ (gY (decide_eq_true h7))
   refine go (m_pickE (decide_eq_true h7)) ?_
   refine .nil ⟨by kernel_rfl, ?_⟩
   by_cases h9 : v8 = true
   ·
    replace H := iT h9 H
    refine d_condE rfl h9 ?_
    refine d_rs rfl ?_
    refine go (m_build ty_25) ?_
    refine go (m_build ty_56) ?_
    refine go (m_store ty_25) ?_
    refine go (m_store ty_56) ?_
    refine go (m_set) ?_
    refine go (m_set) ?_
    refine .nil ⟨by kernel_rfl, ?_⟩
    refine d_nilB 2 1 1 (by decide) rfl rfl ?_
    refine d_nilB 2 2 3 (by decide) rfl rfl ?_
    refine d_ret ?_
    change RetD _ _ _ _ _ _ _
    have e := som H; subst e
    exact finE [(0, 4), (1, 5)] (.cell ty_25 rfl rfl rfl rfl (.cell ty_56 rfl rfl rfl rfl (.tmp (.tmp (.nil)))))
   replace H := iF h9 H
   refine d_condN rfl (eq_false_of_ne_true h9) ?_
   refine d_skip ?_
   refine k6 _ ?_
   replace H := bnd H
   obtain ⟨v10, hv10, H⟩ := H
   refine d_rs rfl ?_
   refine go (m_load ty_25) ?_
   refine go (m_cS [] (F_ref03_Copy_ok hv10) rfl (ScS.cons (scC (fun _ => rfl)) (ScS.cons (scC (fun _ => rfl)) ScS.nil))) ?_
   refine go (m_alloc ty_25) ?_
   refine go (m_store ty_25) ?_
   refine .nil ⟨by kernel_rfl, ?_⟩
   replace H := bnd H
   obtain ⟨v11, hv11, H⟩ := H
   replace H := ck H
   obtain ⟨h14, H⟩ := H
   refine d_rs rfl ?_
   refine go (m_load ty_25) ?_
   refine go (m_load ty_56) ?_
   refine go (m_move) ?_
   refine go (m_cS [(0, 5)] (F_ref09_Grow_ok hv11) rfl (ScS.cons (scC (fun _ => rfl)) ScS.nil)) ?_
   refine go (m_move) ?_
   refine go (m_ext) ?_
   refine go (m_ext) ?_
   refine go (m_ext) ?_
   refine go (m_alloc ty_56) ?_
   refine go (m_store ty_56) ?_
   refine go (m_set) ?_
   refine go (m_set) ?_
   refine .nil ⟨by kernel_rfl, ?_⟩
   refine d_seq fun K k12 => ?_
   refine d_rs rfl ?_
   refine go (m_move) ?_
   refine go (m_neq) ?_
   refine .nil ⟨by kernel_rfl, ?_⟩
   by_cases h13 : v11.2.2.1 = 0
   ·
    replace H := iT h13 H
    refine d_condN rfl (congrArg not (decide_eq_true h13)) ?_
    refine d_skip ?_
    refine k12 _ ?_
    refine d_as mixedP rfl (by kernel_rfl) ?_
    refine go (m_load ty_25) ?_
    refine go (m_load ty_56) ?_
    refine go (m_move) ?_
    refine go (m_store ty_25) ?_
    refine go (m_store ty_56) ?_
    refine go (m_set) ?_
    refine go (m_set) ?_
    refine .nil ⟨⟨by kernel_rfl, by kernel_rfl⟩, ?_⟩
    refine d_ret ?_
    change RetD _ _ _ _ _ _ _
    have e := som H; subst e
    exact finE [(0, 4), (1, 5)] (.cell ty_25 rfl rfl rfl rfl (.cell ty_56 rfl rfl rfl rfl (.tmp (.tmp (.nil)))))
   replace H := iF h13 H
   refine d_condE rfl (congrArg not (decide_eq_false h13)) ?_
   refine d_rs rfl ?_
   refine go (m_build ty_25) ?_
   refine go (m_build ty_56) ?_
   refine go (m_move) ?_
   refine go (m_store ty_25) ?_
   refine go (m_store ty_56) ?_
   refine go (m_set) ?_
   refine go (m_set) ?_
   refine .nil ⟨by kernel_rfl, ?_⟩
   refine d_nilB 2 1 1 (by decide) rfl rfl ?_
   refine d_nilB 2 2 3 (by decide) rfl rfl ?_
   refine d_ret ?_
   change RetD _ _ _ _ _ _ _
   have e := som H; subst e
   exact finE [(0, 8), (1, 9)] (.cell ty_25 rfl rfl rfl rfl (.cell ty_56 rfl rfl rfl rfl (.tmp (.tmp (.nil)))))
  replace H := iF h7 H
  refine d_rs rfl ?_
  refine go (m_fa ty_56) ?_
  refine go (m_load ty_3) ?_
  refine go (m_eql) ?_
  refine go (m_move) ?_
  refine noE (decide_eq_false h7) ?_
  refine noE (decide_eq_false h7) ?_
  refine noE (decide_eq_false h7) ?_
  refine noE (decide_eq_false h7) ?_
  refine go (m_pickE (decide_eq_false h7)) ?_
  refine .nil ⟨by kernel_rfl, ?_⟩
  refine d_condN rfl rfl ?_
  refine d_skip ?_
  refine k6 _ ?_
  replace H := bnd H
  obtain ⟨v15, hv15, H⟩ := H
  refine d_rs rfl ?_
  refine go (m_load ty_25) ?_
  refine go (m_cS [] (F_ref03_Copy_ok hv15) rfl (ScS.cons (scC (fun _ => rfl)) (ScS.cons (scC (fun _ => rfl)) ScS.nil))) ?_
  refine go (m_alloc ty_25) ?_
  refine go (m_store ty_25) ?_
  refine .nil ⟨by kernel_rfl, ?_⟩
  replace H := bnd H
  obtain ⟨v16, hv16, H⟩ := H
  replace H := ck H
  obtain ⟨h19, H⟩ := H
  refine d_rs rfl ?_
  refine go (m_load ty_25) ?_
  refine go (m_load ty_56) ?_
  refine go (m_move) ?_
  refine go (m_cS [(0, 5)] (F_ref09_Grow_ok hv16) rfl (ScS.cons (scC (fun _ => rfl)) ScS.nil)) ?_
  refine go (m_move) ?_
  refine go (m_ext) ?_
  refine go (m_ext) ?_
  refine go (m_ext) ?_
  refine go (m_alloc ty_56) ?_
  refine go (m_store ty_56) ?_
  refine go (m_set) ?_
  refine go (m_set) ?_
  refine .nil ⟨by kernel_rfl, ?_⟩
  refine d_seq fun K k17 => ?_
  refine d_rs rfl ?_
  refine go (m_move) ?_
  refine go (m_neq) ?_
  refine .nil ⟨by kernel_rfl, ?_⟩
  by_cases h18 : v16.2.2.1 = 0
  ·
   replace H := iT h18 H
   refine d_condN rfl (congrArg not (decide_eq_true h18)) ?_
   refine d_skip ?_
   refine k17 _ ?_
   refine d_as mixedP rfl (by kernel_rfl) ?_
   refine go (m_load ty_25) ?_
   refine go (m_load ty_56) ?_
   refine go (m_move) ?_
   refine go (m_store ty_25) ?_
   refine go (m_store ty_56) ?_
   refine go (m_set) ?_
   refine go (m_set) ?_
   refine .nil ⟨⟨by kernel_rfl, by kernel_rfl⟩, ?_⟩
   refine d_ret ?_
   change RetD _ _ _ _ _ _ _
   have e := som H; subst e
   exact finE [(0, 4), (1, 5)] (.cell ty_25 rfl rfl rfl rfl (.cell ty_56 rfl rfl rfl rfl (.tmp (.tmp (.nil)))))
  replace H := iF h18 H
  refine d_condE rfl (congrArg not (decide_eq_false h18)) ?_
  refine d_rs rfl ?_
  refine go (m_build ty_25) ?_
  refine go (m_build ty_56) ?_
  refine go (m_move) ?_
  refine go (m_store ty_25) ?_
  refine go (m_store ty_56) ?_
  refine go (m_set) ?_
  refine go (m_set) ?_
  refine .nil ⟨by kernel_rfl, ?_⟩
  refine d_nilB 2 1 1 (by decide) rfl rfl ?_
  refine d_nilB 2 2 3 (by decide) rfl rfl ?_
  refine d_ret ?_
  change RetD _ _ _ _ _ _ _
  have e := som H; subst e
  exact finE [(0, 8), (1, 9)] (.cell ty_25 rfl rfl rfl rfl (.cell ty_56 rfl rfl rfl rfl (.tmp (.tmp (.nil)))))
 replace H := iF h3 H
 refine d_rs rfl ?_
 refine go (m_load ty_25) ?_
 refine go (m_load ty_56) ?_
 refine go (m_cS [] (F_ref09_Valid_ok hv2) rfl ScS.nil) ?_
 refine go (m_not) ?_
 refine go (m_move) ?_
 refine noE (congrArg not (eq_false_of_ne_true h3)) ?_
 refine noE (congrArg not (eq_false_of_ne_true h3)) ?_
 refine go (m_pickE (congrArg not (eq_false_of_ne_true h3))) ?_
 refine go (m_move) ?_
 refine noE rfl ?_
 refine noE rfl ?_
 refine go (m_pickE rfl) ?_
 refine .nil ⟨by kernel_rfl, ?_⟩
 refine d_condE rfl rfl ?_
 refine d_rs rfl ?_
 refine go (m_build ty_25) ?_
 refine go (m_build ty_56) ?_
 refine go (m_store ty_25) ?_
 refine go (m_store ty_56) ?_
 refine go (m_set) ?_
 refine go (m_set) ?_
 refine .nil ⟨by kernel_rfl, ?_⟩
 refine d_nilB 2 1 1 (by decide) rfl rfl ?_
 refine d_nilB 2 2 3 (by decide) rfl rfl ?_
 refine d_ret ?_
 change RetD _ _ _ _ _ _ _
 have e := som H; subst e
 exact finE [(0, 4), (1, 5)] (.cell ty_25 rfl rfl rfl rfl (.cell ty_56 rfl rfl rfl rfl (.tmp (.tmp (.nil)))))

noncomputable def F_make_grown (p0 : BeltwaymakeDeck) (p1 : Sp) (p2 : Inc) : Option (Sp × Inc × BeltwaymakeDeck) :=
 (F_make_Deck_Next p0 4).bind fun v1 =>
 (F_make_Deck_Next v1.2 4).bind fun v2 =>
 (at_ [3, 3, 9, 33] v2.1).bind fun v3 =>
 (F_make_Deck_Next v2.2 v3).bind fun v4 =>
 (F_ref09_Alloc p1 p2 (w64 ((w64 (1 + v1.1)) + v4.1))).bind fun v5 =>
 if v5.2.2.2 = 0 then
 ((F_ref08_Init v5.1 v5.2.2.1 v1.1 v4.1).bind fun v8 =>
 some ((v8.1, v5.2.1, v4.2)))
 else
 some ((p1, p2, v4.2))

set_option maxRecDepth 20000 in
set_option maxHeartbeats 4000000 in
theorem F_make_grown_ok {p0 : BeltwaymakeDeck} {p1 : Sp} {p2 : Inc} {r : Sp × Inc × BeltwaymakeDeck} (H : F_make_grown p0 p1 p2 = some r) : DCall Try.prog 48 [.ptr 0 0 0, .agg [DI p1.sh, .sl (p1.ws.map uC), .sl (p1.fs.map frC)], .agg [DI p2.seq, DI p2.belt, DI p2.first, DI p2.last, DI p2.words]] [(0, ⟨2, false, false, [[.sl (p0.l.map iC), DI p0.pos]]⟩)] (.tup [.agg [DI r.1.sh, .sl (r.1.ws.map uC), .sl (r.1.fs.map frC)], .agg [DI r.2.1.seq, DI r.2.1.belt, DI r.2.1.first, DI r.2.1.last, DI r.2.1.words]]) [(0, ⟨2, false, false, [[.sl (r.2.2.l.map iC), DI r.2.2.pos]]⟩)] := by
 unfold F_make_grown at H
 refine DCall.mk Try.func48 rfl rfl ?_
 refine d_rs rfl ?_
 refine go (m_box ty_25) ?_
 refine go (m_box ty_56) ?_
 refine go (m_alloc ty_25) ?_
 refine go (m_alloc ty_56) ?_
 refine .nil ⟨by kernel_rfl, ?_⟩
 replace H := bnd H
 obtain ⟨v1, hv1, H⟩ := H
 replace H := bnd H
 obtain ⟨v2, hv2, H⟩ := H
 replace H := bnd H
 obtain ⟨v3, hv3, H⟩ := H
 replace H := bnd H
 obtain ⟨v4, hv4, H⟩ := H
 refine d_rs rfl ?_
 refine go (m_move) ?_
 refine go (m_cG [(0, 0)] (F_make_Deck_Next_ok hv1)) ?_
 refine go (m_move) ?_
 refine go (m_litE (c := iC) ([3, 3, 9, 33] : List Int) ty_26 ty_3) ?_
 refine go (m_move) ?_
 refine go (m_cG [(0, 0)] (F_make_Deck_Next_ok hv2)) ?_
 refine go (m_iaO hv3 ty_26 ty_3 rfl rfl rfl) ?_
 refine go (m_ldO hv3 ty_3) ?_
 refine go (m_cG [(0, 0)] (F_make_Deck_Next_ok hv4)) ?_
 refine go (m_set) ?_
 refine go (m_set) ?_
 refine .nil ⟨by kernel_rfl, ?_⟩
 replace H := bnd H
 obtain ⟨v5, hv5, H⟩ := H
 refine d_rs rfl ?_
 refine go (m_load ty_25) ?_
 refine go (m_load ty_56) ?_
 refine go (m_move) ?_
 refine go (m_add) ?_
 refine go (m_move) ?_
 refine go (m_add) ?_
 refine go (m_cS [] (F_ref09_Alloc_ok hv5) rfl (ScS.cons (scC (fun _ => rfl)) (ScS.cons (scC (fun _ => rfl)) ScS.nil))) ?_
 refine go (m_move) ?_
 refine go (m_ext) ?_
 refine go (m_ext) ?_
 refine go (m_ext) ?_
 refine go (m_ext) ?_
 refine go (m_alloc ty_25) ?_
 refine go (m_alloc ty_56) ?_
 refine go (m_store ty_25) ?_
 refine go (m_store ty_56) ?_
 refine go (m_set) ?_
 refine go (m_set) ?_
 refine .nil ⟨by kernel_rfl, ?_⟩
 refine d_seq fun K k6 => ?_
 refine d_rs rfl ?_
 refine go (m_move) ?_
 refine go (m_neq) ?_
 refine .nil ⟨by kernel_rfl, ?_⟩
 by_cases h7 : v5.2.2.2 = 0
 ·
  replace H := iT h7 H
  refine d_condN rfl (congrArg not (decide_eq_true h7)) ?_
  refine d_skip ?_
  refine k6 _ ?_
  replace H := bnd H
  obtain ⟨v8, hv8, H⟩ := H
  refine d_rs rfl ?_
  refine go (m_load ty_25) ?_
  refine go (m_move) ?_
  refine go (m_move) ?_
  refine go (m_move) ?_
  refine go (m_cG [] (F_ref08_Init_ok hv8)) ?_
  refine go (m_move) ?_
  refine go (m_ext) ?_
  refine go (m_ext) ?_
  refine go (m_store ty_25) ?_
  refine .nil ⟨by kernel_rfl, ?_⟩
  refine d_as mixedP rfl (by kernel_rfl) ?_
  refine go (m_load ty_25) ?_
  refine go (m_load ty_56) ?_
  refine go (m_store ty_25) ?_
  refine go (m_store ty_56) ?_
  refine .nil ⟨⟨by kernel_rfl, by kernel_rfl⟩, ?_⟩
  refine d_ret ?_
  change RetD _ _ _ _ _ _ _
  have e := som H; subst e
  exact finE [(0, 0)] (.cell ty_25 rfl rfl rfl rfl (.cell ty_56 rfl rfl rfl rfl (.nil)))
 replace H := iF h7 H
 refine d_condE rfl (congrArg not (decide_eq_false h7)) ?_
 refine d_as mixedP rfl (by kernel_rfl) ?_
 refine go (m_load ty_25) ?_
 refine go (m_load ty_56) ?_
 refine go (m_store ty_25) ?_
 refine go (m_store ty_56) ?_
 refine .nil ⟨⟨by kernel_rfl, by kernel_rfl⟩, ?_⟩
 refine d_ret ?_
 change RetD _ _ _ _ _ _ _
 have e := som H; subst e
 exact finE [(0, 0)] (.cell ty_25 rfl rfl rfl rfl (.cell ty_56 rfl rfl rfl rfl (.nil)))

noncomputable def F_make_Space (p0 : BeltwaymakeDeck) : Option (Sp × List Inc × BeltwaymakeDeck) :=
 (F_make_Deck_Next p0 2).bind fun v1 =>
 (F_make_Deck_Next v1.2 9).bind fun v2 =>
 (F_ref03_New (w64 (3 + v1.1)) (w64 (2 + v2.1))).bind fun v3 =>
 ((F_make_Deck_Next v2.2 5).bind fun v6 =>
 loopO (fun (s8 : BeltwaymakeDeck × Sp × List Inc × Int) =>
 if 0 < s8.2.2.2 then
 (((F_make_Deck_Next s8.1 3).bind fun v14 =>
 (F_make_Deck_Next v14.2 3).bind fun v15 =>
 ((F_make_Deck_Next v15.2 5).bind fun v18 =>
 loopO (fun (s20 : BeltwaymakeDeck × Sp × Inc × Int) =>
 if 0 < s20.2.2.2 then
 ((F_make_grown s20.1 s20.2.1 s20.2.2.1).bind fun v25 =>
 some (.go ((v25.2.2, v25.1, v25.2.1, w64 (s20.2.2.2 - 1)))))
 else
 some (.out ((s20.1, s20.2.1, s20.2.2.1)))) (v18.2, s8.2.1, Inc.mk (w64 ((w64 (3 * (s8.2.2.1.length : Int))) + v14.1)) v15.1 (-1) (-1) 0, w64 (1 + v18.1))).bind fun (b16 : BeltwaymakeDeck × Sp × Inc) =>
 if 0 < b16.2.2.words then
 (if ((s8.2.2.1.length : Int) + [b16.2.2].length) * 40 ≤ 140737488355328 ∧ (s8.2.2.1.length : Int) + [b16.2.2].length ≤ 9223372036854775807 then
 some ((b16.1, b16.2.1, s8.2.2.1 ++ [b16.2.2]))
 else none)
 else
 some ((b16.1, b16.2.1, s8.2.2.1))).bind fun (b12 : BeltwaymakeDeck × Sp × List Inc) =>
 some (.go ((b12.1, b12.2.1, b12.2.2, w64 (s8.2.2.2 - 1)))))
 else
 some (.out ((s8.1, s8.2.1, s8.2.2.1)))) (v6.2, v3.1, ([] : List Inc), v6.1)).bind fun (b4 : BeltwaymakeDeck × Sp × List Inc) =>
 some ((b4.2.1, b4.2.2, b4.1))

set_option maxRecDepth 20000 in
set_option maxHeartbeats 4000000 in
theorem F_make_Space_ok {p0 : BeltwaymakeDeck} {r : Sp × List Inc × BeltwaymakeDeck} (H : F_make_Space p0 = some r) : DCall Try.prog 13 [.ptr 0 0 0] [(0, ⟨2, false, false, [[.sl (p0.l.map iC), DI p0.pos]]⟩)] (.tup [.agg [DI r.1.sh, .sl (r.1.ws.map uC), .sl (r.1.fs.map frC)], .own 1 0 r.2.1.length]) [(0, ⟨2, false, false, [[.sl (r.2.2.l.map iC), DI r.2.2.pos]]⟩), (1, ⟨5, true, false, r.2.1.map Inc.c⟩)] := by
 unfold F_make_Space at H
 refine DCall.mk Try.func13 rfl rfl ?_
 refine d_rs rfl ?_
 refine go (m_alloc ty_25) ?_
 refine go (m_set) ?_
 refine .nil ⟨by kernel_rfl, ?_⟩
 replace H := bnd H
 obtain ⟨v1, hv1, H⟩ := H
 replace H := bnd H
 obtain ⟨v2, hv2, H⟩ := H
 replace H := bnd H
 obtain ⟨v3, hv3, H⟩ := H
 refine d_rs rfl ?_
 refine go (m_move) ?_
 refine go (m_cG [(0, 0)] (F_make_Deck_Next_ok hv1)) ?_
 refine go (m_add) ?_
 refine go (m_move) ?_
 refine go (m_cG [(0, 0)] (F_make_Deck_Next_ok hv2)) ?_
 refine go (m_add) ?_
 refine go (m_cS [] (F_ref03_New_ok hv3) rfl (ScS.cons (scC (fun _ => rfl)) (ScS.cons (scC (fun _ => rfl)) ScS.nil))) ?_
 refine go (m_move) ?_
 refine go (m_ext) ?_
 refine go (m_ext) ?_
 refine go (m_alloc ty_25) ?_
 refine go (m_store ty_25) ?_
 refine go (m_set) ?_
 refine .nil ⟨by kernel_rfl, ?_⟩
 refine d_rs rfl ?_
 refine go (m_set) ?_
 refine .nil ⟨by kernel_rfl, ?_⟩
 refine d_nil 6 5 (by decide) rfl ?_
 refine d_cutF (fun (b4 : BeltwaymakeDeck × Sp × List Inc) => ⟨[(2, .ptr 1 0 0), (4, .ptr 2 0 0), (6, .own 3 0 b4.2.2.length)], [(0, ⟨2, false, false, [[.sl (b4.1.l.map iC), DI b4.1.pos]]⟩), (1, ⟨3, false, false, [[DI 0, DN, DN]]⟩), (2, ⟨3, false, false, [[DI b4.2.1.sh, .sl (b4.2.1.ws.map uC), .sl (b4.2.1.fs.map frC)]]⟩), (3, ⟨5, true, false, b4.2.2.map Inc.c⟩)], 4⟩) H (fun z5 H => ?_) (fun b4 H => ?_)
 ·
  replace H := bnd H
  obtain ⟨v6, hv6, H⟩ := H
  refine d_rs rfl ?_
  refine go (m_move) ?_
  refine go (m_cG [(0, 0)] (F_make_Deck_Next_ok hv6)) ?_
  refine go (m_set) ?_
  refine .nil ⟨by kernel_rfl, ?_⟩
  refine d_block ?_
  refine d_loopF (fun (s8 : BeltwaymakeDeck × Sp × List Inc × Int) => ⟨[(0, .ptr 0 0 0), (2, .ptr 1 0 0), (4, .ptr 2 0 0), (6, .own 3 0 s8.2.2.1.length), (7, DI s8.2.2.2)], [(0, ⟨2, false, false, [[.sl (s8.1.l.map iC), DI s8.1.pos]]⟩), (1, ⟨3, false, false, [[DI 0, DN, DN]]⟩), (2, ⟨3, false, false, [[DI s8.2.1.sh, .sl (s8.2.1.ws.map uC), .sl (s8.2.1.fs.map frC)]]⟩), (3, ⟨5, true, false, s8.2.2.1.map Inc.c⟩)], 4⟩) H (wkE [(0, 0), (1, 1), (2, 4), (3, 5)]) (fun s8 y9 H hq9 => ?_)
  refine d_seq fun K k10 => ?_
  refine d_rs rfl ?_
  refine go (m_move) ?_
  refine go (m_gtr) ?_
  refine .nil ⟨by kernel_rfl, ?_⟩
  by_cases h11 : 0 < s8.2.2.2
  ·
   replace H := iT h11 H
   refine d_condE rfl (decide_eq_true h11) ?_
   refine d_skip ?_
   refine k10 _ ?_
   refine d_cutF (fun (b12 : BeltwaymakeDeck × Sp × List Inc) => ⟨[(0, .ptr 0 0 0), (2, .ptr 1 0 0), (4, .ptr 2 0 0), (6, .own 3 0 b12.2.2.length), (7, DI s8.2.2.2)], [(0, ⟨2, false, false, [[.sl (b12.1.l.map iC), DI b12.1.pos]]⟩), (1, ⟨3, false, false, [[DI 0, DN, DN]]⟩), (2, ⟨3, false, false, [[DI b12.2.1.sh, .sl (b12.2.1.ws.map uC), .sl (b12.2.1.fs.map frC)]]⟩), (3, ⟨5, true, false, b12.2.2.map Inc.c⟩)], 4⟩) H (fun z13 H => ?_) (fun b12 H => ?_)
   ·
    refine d_block ?_
    replace H := bnd H
    obtain ⟨v14, hv14, H⟩ := H
    replace H := bnd H
    obtain ⟨v15, hv15, H⟩ := H
    refine d_rs rfl ?_
    refine go (m_move) ?_
    refine go (m_lenE ty_29) ?_
    refine go (m_mul) ?_
    refine go (m_move) ?_
    refine go (m_cG [(0, 0)] (F_make_Deck_Next_ok hv14)) ?_
    refine go (m_add) ?_
    refine go (m_move) ?_
    refine go (m_cG [(0, 0)] (F_make_Deck_Next_ok hv15)) ?_
    refine go (m_build ty_56) ?_
    refine go (m_alloc ty_56) ?_
    refine go (m_store ty_56) ?_
    refine .nil ⟨by kernel_rfl, ?_⟩
    refine d_cutF (fun (b16 : BeltwaymakeDeck × Sp × Inc) => ⟨[(0, .ptr 0 0 0), (2, .ptr 1 0 0), (4, .ptr 2 0 0), (6, .own 3 0 s8.2.2.1.length), (7, DI s8.2.2.2), (8, .ptr 4 0 0)], [(0, ⟨2, false, false, [[.sl (b16.1.l.map iC), DI b16.1.pos]]⟩), (1, ⟨3, false, false, [[DI 0, DN, DN]]⟩), (2, ⟨3, false, false, [[DI b16.2.1.sh, .sl (b16.2.1.ws.map uC), .sl (b16.2.1.fs.map frC)]]⟩), (3, ⟨5, true, false, s8.2.2.1.map Inc.c⟩), (4, ⟨5, false, false, [[DI b16.2.2.seq, DI b16.2.2.belt, DI b16.2.2.first, DI b16.2.2.last, DI b16.2.2.words]]⟩)], 5⟩) H (fun z17 H => ?_) (fun b16 H => ?_)
    ·
     replace H := bnd H
     obtain ⟨v18, hv18, H⟩ := H
     refine d_rs rfl ?_
     refine go (m_move) ?_
     refine go (m_cG [(0, 0)] (F_make_Deck_Next_ok hv18)) ?_
     refine go (m_add) ?_
     refine go (m_set) ?_
     refine .nil ⟨by kernel_rfl, ?_⟩
     refine d_block ?_
     refine d_loopF (fun (s20 : BeltwaymakeDeck × Sp × Inc × Int) => ⟨[(0, .ptr 0 0 0), (2, .ptr 1 0 0), (4, .ptr 2 0 0), (6, .own 3 0 s8.2.2.1.length), (7, DI s8.2.2.2), (8, .ptr 4 0 0), (9, DI s20.2.2.2)], [(0, ⟨2, false, false, [[.sl (s20.1.l.map iC), DI s20.1.pos]]⟩), (1, ⟨3, false, false, [[DI 0, DN, DN]]⟩), (2, ⟨3, false, false, [[DI s20.2.1.sh, .sl (s20.2.1.ws.map uC), .sl (s20.2.1.fs.map frC)]]⟩), (3, ⟨5, true, false, s8.2.2.1.map Inc.c⟩), (4, ⟨5, false, false, [[DI s20.2.2.1.seq, DI s20.2.2.1.belt, DI s20.2.2.1.first, DI s20.2.2.1.last, DI s20.2.2.1.words]]⟩)], 5⟩) H (wkE [(0, 0), (1, 1), (2, 2), (3, 3), (4, 4)]) (fun s20 y21 H hq21 => ?_)
     refine d_seq fun K k22 => ?_
     refine d_rs rfl ?_
     refine go (m_move) ?_
     refine go (m_gtr) ?_
     refine .nil ⟨by kernel_rfl, ?_⟩
     by_cases h23 : 0 < s20.2.2.2
     ·
      replace H := iT h23 H
      refine d_condE rfl (decide_eq_true h23) ?_
      refine d_skip ?_
      refine k22 _ ?_
      refine d_seq fun K k24 => ?_
      refine d_block ?_
      replace H := bnd H
      obtain ⟨v25, hv25, H⟩ := H
      refine d_region rfl ?_
      refine go (m_move) ?_
      refine go (m_load ty_25) ?_
      refine go (m_load ty_56) ?_
      refine go (m_cG [(0, 0)] (F_make_grown_ok hv25)) ?_
      refine go (m_move) ?_
      refine go (m_ext) ?_
      refine go (m_ext) ?_
      refine go (m_store ty_25) ?_
      refine go (m_store ty_56) ?_
      refine .nil ⟨by kernel_rfl, ?_⟩
      refine k24 _ ?_
      refine d_region rfl ?_
      refine go (m_move) ?_
      refine go (m_sub) ?_
      refine go (m_set) ?_
      refine .nil ⟨by kernel_rfl, ?_⟩
      have e := som H; subst e
      exact ⟨_, rfl, wkE [(0, 0), (1, 1), (2, 2), (3, 3), (4, 4)]⟩
     replace H := iF h23 H
     refine d_condN rfl (decide_eq_false h23) ?_
     refine d_exit ?_
     have e := som H; subst e
     have e := hq21 _ rfl; subst e
     exact wkE [(0, 0), (1, 1), (2, 2), (3, 3), (4, 4)]
    refine d_rs rfl ?_
    refine go (m_fa ty_56) ?_
    refine go (m_load ty_3) ?_
    refine go (m_gtr) ?_
    refine .nil ⟨by kernel_rfl, ?_⟩
    by_cases h26 : 0 < b16.2.2.words
    ·
     replace H := iT h26 H
     refine d_condE rfl (decide_eq_true h26) ?_
     replace H := ck H
     obtain ⟨h27, H⟩ := H
     refine d_region rfl ?_
     refine go (m_move) ?_
     refine go (m_load ty_56) ?_
     refine go (m_litE (c := Inc.c) ([b16.2.2] : List Inc) ty_29 ty_56) ?_
     refine go (m_apO (c := Inc.c) s8.2.2.1 [b16.2.2] h27 ty_29 ty_56 rfl rfl (.own rfl rfl (by simp) (all_len (c := Inc.c) (fun _ => rfl) _)) rfl) ?_
     refine go (m_set) ?_
     refine .nil ⟨by kernel_rfl, ?_⟩
     have e := som H; subst e
     exact wkE [(0, 0), (1, 1), (2, 2), (3, 6)]
    replace H := iF h26 H
    refine d_condN rfl (decide_eq_false h26) ?_
    refine d_skip ?_
    have e := som H; subst e
    exact wkE [(0, 0), (1, 1), (2, 2), (3, 3)]
   refine d_region rfl ?_
   refine go (m_move) ?_
   refine go (m_sub) ?_
   refine go (m_set) ?_
   refine .nil ⟨by kernel_rfl, ?_⟩
   have e := som H; subst e
   exact ⟨_, rfl, wkE [(0, 0), (1, 1), (2, 2), (3, 3)]⟩
  replace H := iF h11 H
  refine d_condN rfl (decide_eq_false h11) ?_
  refine d_exit ?_
  have e := som H; subst e
  have e := hq9 _ rfl; subst e
  exact wkE [(0, 0), (1, 1), (2, 2), (3, 3)]
 refine d_rs rfl ?_
 refine go (m_load ty_25) ?_
 refine go (m_move) ?_
 refine go (m_store ty_25) ?_
 refine go (m_set) ?_
 refine .nil ⟨by kernel_rfl, ?_⟩
 refine d_ret ?_
 change RetD _ _ _ _ _ _ _
 have e := som H; subst e
 exact finE [(0, 0), (1, 3)] (.cell ty_25 rfl rfl rfl rfl (.tmp (.nil)))

noncomputable def F_make_Spoilt (p0 : Sp) (p1 : Int) (p2 : Int) (p3 : Int) : Option Sp :=
 (F_ref03_Copy p0).bind fun v1 =>
 (F_make_Mod p2 (v1.fs.length : Int)).bind fun v2 =>
 (F_make_Mod p1 8).bind fun v4 =>
 if v4 = 0 then
 ((F_make_Mod p3 6).bind fun v6 =>
 (at_ v1.fs v2).bind fun v7 =>
 some (Sp.mk v1.sh v1.ws (v1.fs.set (Int.toNat v2) (Fe.mk (w64 (v6 - 2)) v7.st v7.nx))))
 else
 if v4 = 1 then
 ((at_ v1.fs v2).bind fun v9 =>
 (F_make_Mod p3 4).bind fun v10 =>
 (at_ [1, (-1), 4294967296, 17179869184] v10).bind fun v11 =>
 (at_ v1.fs v2).bind fun v12 =>
 some (Sp.mk v1.sh v1.ws (v1.fs.set (Int.toNat v2) (Fe.mk v12.ow (w64 (v9.st + v11)) v12.nx))))
 else
 if v4 = 2 then
 ((F_make_Mod p3 (w64 ((v1.fs.length : Int) + 2))).bind fun v14 =>
 (at_ v1.fs v2).bind fun v15 =>
 some (Sp.mk v1.sh v1.ws (v1.fs.set (Int.toNat v2) (Fe.mk v15.ow v15.st (w64 (v14 - 1))))))
 else
 if v4 = 3 then
 ((F_make_Mod p2 (v1.ws.length : Int)).bind fun v17 =>
 (at_ v1.ws v17).bind fun v18 =>
 some (Sp.mk v1.sh (v1.ws.set (Int.toNat v17) (wu p3)) v1.fs))
 else
 if v4 = 4 then
 (if ((v1.ws.length : Int) + [0].length) * 8 ≤ 140737488355328 ∧ (v1.ws.length : Int) + [0].length ≤ 9223372036854775807 then
 some (Sp.mk v1.sh (v1.ws ++ [0]) v1.fs)
 else none)
 else
 if v4 = 5 then
 ((F_make_Mod p3 3).bind fun v22 =>
 some (Sp.mk (w64 (v1.sh + (w64 (v22 - 1)))) v1.ws v1.fs))
 else
 if v4 = 6 then
 ((at_ v1.fs v2).bind fun v24 =>
 some (Sp.mk v1.sh v1.ws (v1.fs.set (Int.toNat v2) (Fe.mk (-1) (-1) (-1)))))
 else
 some (v1)

set_option maxRecDepth 20000 in
set_option maxHeartbeats 4000000 in
theorem F_make_Spoilt_ok {p0 : Sp} {p1 : Int} {p2 : Int} {p3 : Int} {r : Sp} (H : F_make_Spoilt p0 p1 p2 p3 = some r) : DCall Try.prog 15 [.agg [DI p0.sh, .sl (p0.ws.map uC), .sl (p0.fs.map frC)], DI p1, DI p2, DI p3] [] (.agg [DI r.sh, .own 0 0 r.ws.length, .own 1 0 r.fs.length]) [(0, ⟨1, true, false, r.ws.map uC⟩), (1, ⟨3, true, false, r.fs.map frC⟩)] := by
 unfold F_make_Spoilt at H
 refine DCall.mk Try.func15 rfl rfl ?_
 refine d_rs rfl ?_
 refine go (m_box ty_25) ?_
 refine go (m_alloc ty_25) ?_
 refine .nil ⟨by kernel_rfl, ?_⟩
 replace H := bnd H
 obtain ⟨v1, hv1, H⟩ := H
 refine d_rs rfl ?_
 refine go (m_load ty_25) ?_
 refine go (m_cS [] (F_ref03_Copy_ok hv1) rfl (ScS.cons (scC (fun _ => rfl)) (ScS.cons (scC (fun _ => rfl)) ScS.nil))) ?_
 refine go (m_alloc ty_25) ?_
 refine go (m_store ty_25) ?_
 refine .nil ⟨by kernel_rfl, ?_⟩
 replace H := bnd H
 obtain ⟨v2, hv2, H⟩ := H
 refine d_rs rfl ?_
 refine go (m_move) ?_
 refine go (m_fa ty_25) ?_
 refine go (m_load ty_23) ?_
 refine go (m_lenE ty_23) ?_
 refine go (m_cS [] (F_make_Mod_ok hv2) rfl ScS.nil) ?_
 refine go (m_set) ?_
 refine .nil ⟨by kernel_rfl, ?_⟩
 refine d_seq fun K k3 => ?_
 replace H := bnd H
 obtain ⟨v4, hv4, H⟩ := H
 refine d_rs rfl ?_
 refine go (m_move) ?_
 refine go (m_cS [] (F_make_Mod_ok hv4) rfl ScS.nil) ?_
 refine .nil ⟨by kernel_rfl, ?_⟩
 refine d_block ?_
 refine d_rs rfl ?_
 refine go (m_eql) ?_
 refine go (m_set) ?_
 refine .nil ⟨by kernel_rfl, ?_⟩
 by_cases h5 : v4 = 0
 ·
  replace H := iT h5 H
  refine d_condE rfl (decide_eq_true h5) ?_
  replace H := bnd H
  obtain ⟨v6, hv6, H⟩ := H
  replace H := bnd H
  obtain ⟨v7, hv7, H⟩ := H
  refine d_any mixedP rfl (by kernel_rfl) ?_
  refine go (m_fa ty_25) ?_
  refine go (m_load ty_23) ?_
  refine go (m_move) ?_
  refine go (m_move) ?_
  refine go (m_cS [] (F_make_Mod_ok hv6) rfl ScS.nil) ?_
  refine go (m_sub) ?_
  refine go (m_iaO hv7 ty_23 ty_79 rfl rfl rfl) ?_
  refine go (m_fa ty_79) ?_
  refine go (m_stO (c := frC) hv7 (Fe.mk (w64 (v6 - 2)) v7.st v7.nx) ty_3) ?_
  refine .nil ⟨⟨by kernel_rfl, by kernel_rfl⟩, ?_⟩
  refine k3 _ ?_
  refine d_rs rfl ?_
  refine go (m_load ty_25) ?_
  refine go (m_store ty_25) ?_
  refine .nil ⟨by kernel_rfl, ?_⟩
  refine d_ret ?_
  change RetD _ _ _ _ _ _ _
  have e := som H; subst e
  exact finE [(0, 2), (1, 3)] (.cell ty_25 rfl rfl rfl rfl (.nil))
 replace H := iF h5 H
 refine d_condN rfl (decide_eq_false h5) ?_
 refine d_rs rfl ?_
 refine go (m_eql) ?_
 refine go (m_set) ?_
 refine .nil ⟨by kernel_rfl, ?_⟩
 by_cases h8 : v4 = 1
 ·
  replace H := iT h8 H
  refine d_condE rfl (decide_eq_true h8) ?_
  replace H := bnd H
  obtain ⟨v9, hv9, H⟩ := H
  replace H := bnd H
  obtain ⟨v10, hv10, H⟩ := H
  replace H := bnd H
  obtain ⟨v11, hv11, H⟩ := H
  replace H := bnd H
  obtain ⟨v12, hv12, H⟩ := H
  refine d_any mixedP rfl (by kernel_rfl) ?_
  refine go (m_fa ty_25) ?_
  refine go (m_load ty_23) ?_
  refine go (m_move) ?_
  refine go (m_iaO hv9 ty_23 ty_79 rfl rfl rfl) ?_
  refine go (m_fa ty_79) ?_
  refine go (m_ldO hv9 ty_3) ?_
  refine go (m_litE (c := iC) ([1, (-1), 4294967296, 17179869184] : List Int) ty_26 ty_3) ?_
  refine go (m_move) ?_
  refine go (m_cS [] (F_make_Mod_ok hv10) rfl ScS.nil) ?_
  refine go (m_iaO hv11 ty_26 ty_3 rfl rfl rfl) ?_
  refine go (m_ldO hv11 ty_3) ?_
  refine go (m_add) ?_
  refine go (m_iaO hv12 ty_23 ty_79 rfl rfl rfl) ?_
  refine go (m_fa ty_79) ?_
  refine go (m_stO (c := frC) hv12 (Fe.mk v12.ow (w64 (v9.st + v11)) v12.nx) ty_3) ?_
  refine .nil ⟨⟨by kernel_rfl, by kernel_rfl⟩, ?_⟩
  refine k3 _ ?_
  refine d_rs rfl ?_
  refine go (m_load ty_25) ?_
  refine go (m_store ty_25) ?_
  refine .nil ⟨by kernel_rfl, ?_⟩
  refine d_ret ?_
  change RetD _ _ _ _ _ _ _
  have e := som H; subst e
  exact finE [(0, 2), (1, 3)] (.cell ty_25 rfl rfl rfl rfl (.nil))
 replace H := iF h8 H
 refine d_condN rfl (decide_eq_false h8) ?_
 refine d_rs rfl ?_
 refine go (m_eql) ?_
 refine go (m_set) ?_
 refine .nil ⟨by kernel_rfl, ?_⟩
 by_cases h13 : v4 = 2
 ·
  replace H := iT h13 H
  refine d_condE rfl (decide_eq_true h13) ?_
  replace H := bnd H
  obtain ⟨v14, hv14, H⟩ := H
  replace H := bnd H
  obtain ⟨v15, hv15, H⟩ := H
  refine d_any mixedP rfl (by kernel_rfl) ?_
  refine go (m_fa ty_25) ?_
  refine go (m_load ty_23) ?_
  refine go (m_move) ?_
  refine go (m_move) ?_
  refine go (m_fa ty_25) ?_
  refine go (m_load ty_23) ?_
  refine go (m_lenE ty_23) ?_
  refine go (m_add) ?_
  refine go (m_cS [] (F_make_Mod_ok hv14) rfl ScS.nil) ?_
  refine go (m_sub) ?_
  refine go (m_iaO hv15 ty_23 ty_79 rfl rfl rfl) ?_
  refine go (m_fa ty_79) ?_
  refine go (m_stO (c := frC) hv15 (Fe.mk v15.ow v15.st (w64 (v14 - 1))) ty_3) ?_
  refine .nil ⟨⟨by kernel_rfl, by kernel_rfl⟩, ?_⟩
  refine k3 _ ?_
  refine d_rs rfl ?_
  refine go (m_load ty_25) ?_
  refine go (m_store ty_25) ?_
  refine .nil ⟨by kernel_rfl, ?_⟩
  refine d_ret ?_
  change RetD _ _ _ _ _ _ _
  have e := som H; subst e
  exact finE [(0, 2), (1, 3)] (.cell ty_25 rfl rfl rfl rfl (.nil))
 replace H := iF h13 H
 refine d_condN rfl (decide_eq_false h13) ?_
 refine d_rs rfl ?_
 refine go (m_eql) ?_
 refine go (m_set) ?_
 refine .nil ⟨by kernel_rfl, ?_⟩
 by_cases h16 : v4 = 3
 ·
  replace H := iT h16 H
  refine d_condE rfl (decide_eq_true h16) ?_
  replace H := bnd H
  obtain ⟨v17, hv17, H⟩ := H
  replace H := bnd H
  obtain ⟨v18, hv18, H⟩ := H
  refine d_any mixedP rfl (by kernel_rfl) ?_
  refine go (m_fa ty_25) ?_
  refine go (m_load ty_22) ?_
  refine go (m_move) ?_
  refine go (m_fa ty_25) ?_
  refine go (m_load ty_22) ?_
  refine go (m_lenE ty_22) ?_
  refine go (m_cS [] (F_make_Mod_ok hv17) rfl ScS.nil) ?_
  refine go (m_move) ?_
  refine go (m_cnv ty_3 ty_50) ?_
  refine go (m_iaO hv18 ty_22 ty_50 rfl rfl rfl) ?_
  refine go (m_stO (c := uC) hv18 (wu p3) ty_50) ?_
  refine .nil ⟨⟨by kernel_rfl, by kernel_rfl⟩, ?_⟩
  refine k3 _ ?_
  refine d_rs rfl ?_
  refine go (m_load ty_25) ?_
  refine go (m_store ty_25) ?_
  refine .nil ⟨by kernel_rfl, ?_⟩
  refine d_ret ?_
  change RetD _ _ _ _ _ _ _
  have e := som H; subst e
  exact finE [(0, 2), (1, 3)] (.cell ty_25 rfl rfl rfl rfl (.nil))
 replace H := iF h16 H
 refine d_condN rfl (decide_eq_false h16) ?_
 refine d_rs rfl ?_
 refine go (m_eql) ?_
 refine go (m_set) ?_
 refine .nil ⟨by kernel_rfl, ?_⟩
 by_cases h19 : v4 = 4
 ·
  replace H := iT h19 H
  refine d_condE rfl (decide_eq_true h19) ?_
  replace H := ck H
  obtain ⟨h20, H⟩ := H
  refine d_region rfl ?_
  refine go (m_fa ty_25) ?_
  refine go (m_load ty_22) ?_
  refine go (m_litE (c := uC) ([0] : List Int) ty_22 ty_50) ?_
  refine go (m_apO (c := uC) v1.ws [0] h20 ty_22 ty_50 rfl rfl (.own rfl rfl (by simp) (all_len (c := uC) (fun _ => rfl) _)) rfl) ?_
  refine go (m_fa ty_25) ?_
  refine go (m_store ty_22) ?_
  refine .nil ⟨by kernel_rfl, ?_⟩
  refine k3 _ ?_
  refine d_rs rfl ?_
  refine go (m_load ty_25) ?_
  refine go (m_store ty_25) ?_
  refine .nil ⟨by kernel_rfl, ?_⟩
  refine d_ret ?_
  change RetD _ _ _ _ _ _ _
  have e := som H; subst e
  exact finE [(0, 6), (1, 3)] (.cell ty_25 rfl rfl rfl rfl (.nil))
 replace H := iF h19 H
 refine d_condN rfl (decide_eq_false h19) ?_
 refine d_rs rfl ?_
 refine go (m_eql) ?_
 refine go (m_set) ?_
 refine .nil ⟨by kernel_rfl, ?_⟩
 by_cases h21 : v4 = 5
 ·
  replace H := iT h21 H
  refine d_condE rfl (decide_eq_true h21) ?_
  replace H := bnd H
  obtain ⟨v22, hv22, H⟩ := H
  refine d_any mixedP rfl (by kernel_rfl) ?_
  refine go (m_fa ty_25) ?_
  refine go (m_load ty_3) ?_
  refine go (m_move) ?_
  refine go (m_cS [] (F_make_Mod_ok hv22) rfl ScS.nil) ?_
  refine go (m_sub) ?_
  refine go (m_add) ?_
  refine go (m_fa ty_25) ?_
  refine go (m_store ty_3) ?_
  refine .nil ⟨⟨by kernel_rfl, by kernel_rfl⟩, ?_⟩
  refine k3 _ ?_
  refine d_rs rfl ?_
  refine go (m_load ty_25) ?_
  refine go (m_store ty_25) ?_
  refine .nil ⟨by kernel_rfl, ?_⟩
  refine d_ret ?_
  change RetD _ _ _ _ _ _ _
  have e := som H; subst e
  exact finE [(0, 2), (1, 3)] (.cell ty_25 rfl rfl rfl rfl (.nil))
 replace H := iF h21 H
 refine d_condN rfl (decide_eq_false h21) ?_
 refine d_rs rfl ?_
 refine go (m_eql) ?_
 refine go (m_set) ?_
 refine .nil ⟨by kernel_rfl, ?_⟩
 by_cases h23 : v4 = 6
 ·
  replace H := iT h23 H
  refine d_condE rfl (decide_eq_true h23) ?_
  replace H := bnd H
  obtain ⟨v24, hv24, H⟩ := H
  refine d_region rfl ?_
  refine go (m_fa ty_25) ?_
  refine go (m_load ty_23) ?_
  refine go (m_move) ?_
  refine go (m_build ty_79) ?_
  refine go (m_iaO hv24 ty_23 ty_79 rfl rfl rfl) ?_
  refine go (m_stO (c := frC) hv24 (Fe.mk (-1) (-1) (-1)) ty_79) ?_
  refine .nil ⟨by kernel_rfl, ?_⟩
  refine k3 _ ?_
  refine d_rs rfl ?_
  refine go (m_load ty_25) ?_
  refine go (m_store ty_25) ?_
  refine .nil ⟨by kernel_rfl, ?_⟩
  refine d_ret ?_
  change RetD _ _ _ _ _ _ _
  have e := som H; subst e
  exact finE [(0, 2), (1, 3)] (.cell ty_25 rfl rfl rfl rfl (.nil))
 replace H := iF h23 H
 refine d_condN rfl (decide_eq_false h23) ?_
 refine d_skip ?_
 refine k3 _ ?_
 refine d_rs rfl ?_
 refine go (m_load ty_25) ?_
 refine go (m_store ty_25) ?_
 refine .nil ⟨by kernel_rfl, ?_⟩
 refine d_ret ?_
 change RetD _ _ _ _ _ _ _
 have e := som H; subst e
 exact finE [(0, 2), (1, 3)] (.cell ty_25 rfl rfl rfl rfl (.nil))

theorem F_make_Spoilt_okp {p0 : Sp} {p1 : Int} {p2 : Int} {p3 : Int} {r : Sp} (H : F_make_Spoilt p0 p1 p2 p3 = some r) : DCall Try.prog 15 [.agg [DI p0.sh, .sl (p0.ws.map uC), .sl (p0.fs.map frC)], DI p1, DI p2, DI p3] [] (.agg [DI r.sh, .sl (r.ws.map uC), .sl (r.fs.map frC)]) [] :=
 (F_make_Spoilt_ok H).conv [] (by repeat' (first | exact CvL.nil | apply CvL.cons | exact .lit | exact .frzM rfl rfl | exact .own rfl | exact .sl | exact .ptr rfl | exact .nil | apply Cv.agg | apply Cv.tup)) (by repeat' (first | exact CvS.nil | apply CvS.cons rfl rfl | exact .arr rfl | apply CvO.box | exact CvL.nil | apply CvL.cons | exact .lit | exact .frzM rfl rfl | exact .own rfl | exact .sl | exact .ptr rfl | exact .nil | apply Cv.agg | apply Cv.tup)) rfl

noncomputable def F_ref10_All (p0 : Sp) (p1 : Inc) : Option (List Int × Int) :=
 bndR (loopO (fun (s4 : List Int × Int) =>
 if s4.2 < p1.words then
 (if 0 ≤ wu p0.sh then
 (F_ref05_Go p0 (shlN .i64 p1.first (wu p0.sh)) s4.2).bind fun v9 =>
 (F_ref08_Look p0 v9.1).bind fun v10 =>
 if v10.2.2 = 0 then
 (if p1.words < (w64 ((w64 ((w64 (s4.2 + 1)) + v10.1)) + v10.2.1)) then
 (some (.out (.inr ((([] : List Int), 12)))))
 else
 if ((s4.1.length : Int) + [v9.1].length) * 8 ≤ 140737488355328 ∧ (s4.1.length : Int) + [v9.1].length ≤ 9223372036854775807 then
 some (.go ((s4.1 ++ [v9.1], w64 (s4.2 + (w64 ((w64 (1 + v10.1)) + v10.2.1))))))
 else none)
 else
 some (.out (.inr ((([] : List Int), 12))))
 else none)
 else
 some (.out (.inl (s4.1)))) (([] : List Int), 0)) fun (b1 : List Int) =>
 some ((b1, 0))

set_option maxRecDepth 20000 in
set_option maxHeartbeats 4000000 in
theorem F_ref10_All_ok {p0 : Sp} {p1 : Inc} {r : List Int × Int} (H : F_ref10_All p0 p1 = some r) : DCall Try.prog 70 [.agg [DI p0.sh, .sl (p0.ws.map uC), .sl (p0.fs.map frC)], .agg [DI p1.seq, DI p1.belt, DI p1.first, DI p1.last, DI p1.words]] [] (.tup [.own 0 0 r.1.length, DI r.2]) [(0, ⟨1, true, false, r.1.map iC⟩)] := by
 unfold F_ref10_All at H
 refine DCall.mk Try.func70 rfl rfl ?_
 refine d_rs rfl ?_
 refine go (m_box ty_25) ?_
 refine go (m_box ty_56) ?_
 refine go (m_set) ?_
 refine go (m_set) ?_
 refine .nil ⟨by kernel_rfl, ?_⟩
 refine d_rs rfl ?_
 refine go (m_set) ?_
 refine .nil ⟨by kernel_rfl, ?_⟩
 refine d_nil 6 1 (by decide) rfl ?_
 refine d_cutR (fun (b1 : List Int) => ⟨[(6, .own 0 0 b1.length)], [(0, ⟨1, true, false, b1.map iC⟩)], 1⟩) H (fun z2 H hr2 => ?_) (fun b1 H => ?_)
 ·
  refine d_rs rfl ?_
  refine go (m_set) ?_
  refine .nil ⟨by kernel_rfl, ?_⟩
  refine d_block ?_
  refine d_loopF (fun (s4 : List Int × Int) => ⟨[(2, .ptr 0 0 0), (3, .ptr 1 0 0), (6, .own 2 0 s4.1.length), (7, DI s4.2)], [(0, ⟨3, false, false, [[DI p0.sh, .sl (p0.ws.map uC), .sl (p0.fs.map frC)]]⟩), (1, ⟨5, false, false, [[DI p1.seq, DI p1.belt, DI p1.first, DI p1.last, DI p1.words]]⟩), (2, ⟨1, true, false, s4.1.map iC⟩)], 3⟩) H (wkE [(0, 0), (1, 1), (2, 2)]) (fun s4 y5 H hq5 => ?_)
  refine d_seq fun K k6 => ?_
  refine d_rs rfl ?_
  refine go (m_move) ?_
  refine go (m_fa ty_56) ?_
  refine go (m_load ty_3) ?_
  refine go (m_lss) ?_
  refine .nil ⟨by kernel_rfl, ?_⟩
  by_cases h7 : s4.2 < p1.words
  ·
   replace H := iT h7 H
   refine d_condE rfl (decide_eq_true h7) ?_
   refine d_skip ?_
   refine k6 _ ?_
   refine d_block ?_
   replace H := ck H
   obtain ⟨h8, H⟩ := H
   replace H := bnd H
   obtain ⟨v9, hv9, H⟩ := H
   refine d_rs rfl ?_
   refine go (m_load ty_25) ?_
   refine go (m_fa ty_56) ?_
   refine go (m_load ty_3) ?_
   refine go (m_fa ty_25) ?_
   refine go (m_load ty_3) ?_
   refine go (m_cnv ty_3 ty_66) ?_
   refine go (m_shlE h8) ?_
   refine go (m_move) ?_
   refine go (m_cS [] (F_ref05_Go_ok hv9) rfl ScS.nil) ?_
   refine go (m_move) ?_
   refine go (m_ext) ?_
   refine go (m_ext) ?_
   refine go (m_set) ?_
   refine go (m_set) ?_
   refine .nil ⟨by kernel_rfl, ?_⟩
   replace H := bnd H
   obtain ⟨v10, hv10, H⟩ := H
   refine d_rs rfl ?_
   refine go (m_load ty_25) ?_
   refine go (m_move) ?_
   refine go (m_cS [] (F_ref08_Look_ok hv10) rfl ScS.nil) ?_
   refine go (m_move) ?_
   refine go (m_ext) ?_
   refine go (m_ext) ?_
   refine go (m_ext) ?_
   refine go (m_set) ?_
   refine go (m_set) ?_
   refine go (m_set) ?_
   refine .nil ⟨by kernel_rfl, ?_⟩
   refine d_seq fun K k11 => ?_
   by_cases h12 : v10.2.2 = 0
   ·
    replace H := iT h12 H
    refine d_rs rfl ?_
    refine go (m_move) ?_
    refine go (m_neq) ?_
    refine go (m_move) ?_
    refine go (m_move) ?_ (gY (congrArg not (decide_eq_true h12)))
    refine go (m_add) ?_ (gY (congrArg not (decide_eq_true h12)))
    refine go (m_move) ?_ (gY (congrArg not (decide_eq_true h12)))
    refine go (m_add) ?_ (gY (congrArg not (decide_eq_true h12)))
    refine go (m_move) ?_ (gY (congrArg not (decide_eq_true h12)))
    refine go (m_add) ?_ (gY (congrArg not (decide_eq_true h12)))
    refine go (m_fa ty_56) ?_ (gY (congrArg not (decide_eq_true h12)))
    refine go (m_load ty_3) ?_ (gY (congrArg not (decide_eq_true h12)))
    refine go (m_gtr) ?_ (gY (congrArg not (decide_eq_true h12)))
    refine go (m_pickE (congrArg not (decide_eq_true h12))) ?_
    refine .nil ⟨by kernel_rfl, ?_⟩
    by_cases h13 : p1.words < (w64 ((w64 ((w64 (s4.2 + 1)) + v10.1)) + v10.2.1))
    ·
     replace H := iT h13 H
     refine d_condE rfl (decide_eq_true h13) ?_
     refine d_rs rfl ?_
     refine go (m_set) ?_
     refine go (m_set) ?_
     refine .nil ⟨by kernel_rfl, ?_⟩
     refine d_nil 4 1 (by decide) rfl ?_
     refine d_ret ?_
     change RetD _ _ _ _ _ _ _
     have e := som H; subst e
     have e := hq5 _ rfl; subst e
     have e := hr2 _ rfl; subst e
     exact finE [(0, 3)] (.tmp (.tmp (.nil)))
    replace H := iF h13 H
    refine d_condN rfl (decide_eq_false h13) ?_
    refine d_skip ?_
    refine k11 _ ?_
    replace H := ck H
    obtain ⟨h14, H⟩ := H
    refine d_rs rfl ?_
    refine go (m_move) ?_
    refine go (m_move) ?_
    refine go (m_litE (c := iC) ([v9.1] : List Int) ty_26 ty_3) ?_
    refine go (m_apO (c := iC) s4.1 [v9.1] h14 ty_26 ty_3 rfl rfl (.own rfl rfl (by simp) (all_len (c := iC) (fun _ => rfl) _)) rfl) ?_
    refine go (m_set) ?_
    refine .nil ⟨by kernel_rfl, ?_⟩
    refine d_region rfl ?_
    refine go (m_move) ?_
    refine go (m_move) ?_
    refine go (m_add) ?_
    refine go (m_move) ?_
    refine go (m_add) ?_
    refine go (m_add) ?_
    refine go (m_set) ?_
    refine .nil ⟨by kernel_rfl, ?_⟩
    have e := som H; subst e
    exact ⟨_, rfl, wkE [(0, 0), (1, 1), (2, 4)]⟩
   replace H := iF h12 H
   refine d_rs rfl ?_
   refine go (m_move) ?_
   refine go (m_neq) ?_
   refine go (m_move) ?_
   refine noE (congrArg not (decide_eq_false h12)) ?_
   refine noE (congrArg not (decide_eq_false h12)) ?_
   refine noE (congrArg not (decide_eq_false h12)) ?_
   refine noE (congrArg not (decide_eq_false h12)) ?_
   refine noE (congrArg not (decide_eq_false h12)) ?_
   refine noE (congrArg not (decide_eq_false h12)) ?_
   refine noE (congrArg not (decide_eq_false h12)) ?_
   refine noE (congrArg not (decide_eq_false h12)) ?_
   refine noE (congrArg not (decide_eq_false h12)) ?_
   refine go (m_pickE (congrArg not (decide_eq_false h12))) ?_
   refine .nil ⟨by kernel_rfl, ?_⟩
   refine d_condE rfl rfl ?_
   refine d_rs rfl ?_
   refine go (m_set) ?_
   refine go (m_set) ?_
   refine .nil ⟨by kernel_rfl, ?_⟩
   refine d_nil 4 1 (by decide) rfl ?_
   refine d_ret ?_
   change RetD _ _ _ _ _ _ _
   have e := som H; subst e
   have e := hq5 _ rfl; subst e
   have e := hr2 _ rfl; subst e
   exact finE [(0, 3)] (.tmp (.tmp (.nil)))
  replace H := iF h7 H
  refine d_condN rfl (decide_eq_false h7) ?_
  refine d_exit ?_
  have e := som H; subst e
  have e := hq5 _ rfl; subst e
  exact ⟨_, rfl, wkE [(0, 2)]⟩
 refine d_rs rfl ?_
 refine go (m_move) ?_
 refine go (m_set) ?_
 refine go (m_set) ?_
 refine .nil ⟨by kernel_rfl, ?_⟩
 refine d_ret ?_
 change RetD _ _ _ _ _ _ _
 have e := som H; subst e
 exact finE [(0, 0)] (.tmp (.tmp (.nil)))

noncomputable def F_law08_objects (p0 : Sp) (p1 : List Inc) : Option (List Int) :=
 (loopO (fun (s4 : List Int × Int) =>
 if s4.2 < (p1.length : Int) then
 ((at_ p1 s4.2).bind fun v9 =>
 (F_ref10_All p0 v9).bind fun v10 =>
 if ((s4.1.length : Int) + v10.1.length) * 8 ≤ 140737488355328 ∧ (s4.1.length : Int) + v10.1.length ≤ 9223372036854775807 then
 some (.go ((s4.1 ++ v10.1, w64 (s4.2 + 1))))
 else none)
 else
 some (.out (s4.1))) (([] : List Int), 0)).bind fun (b1 : List Int) =>
 some (b1)

set_option maxRecDepth 20000 in
set_option maxHeartbeats 4000000 in
theorem F_law08_objects_ok {p0 : Sp} {p1 : List Inc} {r : List Int} (H : F_law08_objects p0 p1 = some r) : DCall Try.prog 35 [.agg [DI p0.sh, .sl (p0.ws.map uC), .sl (p0.fs.map frC)], .sl (p1.map Inc.c)] [] (.own 0 0 r.length) [(0, ⟨1, true, false, r.map iC⟩)] := by
 unfold F_law08_objects at H
 refine DCall.mk Try.func35 rfl rfl ?_
 refine d_rs rfl ?_
 refine go (m_box ty_25) ?_
 refine go (m_set) ?_
 refine .nil ⟨by kernel_rfl, ?_⟩
 refine d_rs rfl ?_
 refine go (m_set) ?_
 refine .nil ⟨by kernel_rfl, ?_⟩
 refine d_nil 5 1 (by decide) rfl ?_
 refine d_cutF (fun (b1 : List Int) => ⟨[(5, .own 0 0 b1.length)], [(0, ⟨1, true, false, b1.map iC⟩)], 1⟩) H (fun z2 H => ?_) (fun b1 H => ?_)
 ·
  refine d_rs rfl ?_
  refine go (m_move) ?_
  refine go (m_lenE ty_29) ?_
  refine go (m_move) ?_
  refine .nil ⟨by kernel_rfl, ?_⟩
  refine d_block ?_
  refine d_loopF (fun (s4 : List Int × Int) => ⟨[(2, .ptr 0 0 0), (5, .own 1 0 s4.1.length), (10, .sl (p1.map Inc.c)), (11, DI (p1.length : Int)), (12, DI s4.2)], [(0, ⟨3, false, false, [[DI p0.sh, .sl (p0.ws.map uC), .sl (p0.fs.map frC)]]⟩), (1, ⟨1, true, false, s4.1.map iC⟩)], 2⟩) H (wkE [(0, 0), (1, 1)]) (fun s4 y5 H hq5 => ?_)
  refine d_rs rfl ?_
  refine go (m_lss) ?_
  refine .nil ⟨by kernel_rfl, ?_⟩
  refine d_seq fun K k6 => ?_
  by_cases h7 : s4.2 < (p1.length : Int)
  ·
   replace H := iT h7 H
   refine d_condE rfl (decide_eq_true h7) ?_
   refine d_skip ?_
   refine k6 _ ?_
   refine d_seq fun K k8 => ?_
   refine d_block ?_
   replace H := bnd H
   obtain ⟨v9, hv9, H⟩ := H
   refine d_rs rfl ?_
   refine go (m_iaS hv9 ty_29 ty_56) ?_
   refine go (m_load ty_56) ?_
   refine go (m_alloc ty_56) ?_
   refine go (m_store ty_56) ?_
   refine .nil ⟨by kernel_rfl, ?_⟩
   replace H := bnd H
   obtain ⟨v10, hv10, H⟩ := H
   refine d_rs rfl ?_
   refine go (m_load ty_25) ?_
   refine go (m_load ty_56) ?_
   refine go (m_cS [] (F_ref10_All_ok hv10) rfl (ScS.cons (scC (fun _ => rfl)) ScS.nil)) ?_
   refine go (m_move) ?_
   refine go (m_ext) ?_
   refine go (m_ext) ?_
   refine go (m_set) ?_
   refine go (m_set) ?_
   refine .nil ⟨by kernel_rfl, ?_⟩
   replace H := ck H
   obtain ⟨h11, H⟩ := H
   refine d_region rfl ?_
   refine go (m_move) ?_
   refine go (m_move) ?_
   refine go (m_apO (c := iC) s4.1 v10.1 h11 ty_26 ty_3 rfl rfl (.own rfl rfl (by simp) (all_len (c := iC) (fun _ => rfl) _)) rfl) ?_
   refine go (m_set) ?_
   refine .nil ⟨by kernel_rfl, ?_⟩
   refine k8 _ ?_
   refine d_region rfl ?_
   refine go (m_add) ?_
   refine go (m_move) ?_
   refine .nil ⟨by kernel_rfl, ?_⟩
   have e := som H; subst e
   exact ⟨_, rfl, wkE [(0, 0), (1, 4)]⟩
  replace H := iF h7 H
  refine d_condN rfl (decide_eq_false h7) ?_
  refine d_exit ?_
  have e := som H; subst e
  have e := hq5 _ rfl; subst e
  exact wkE [(0, 1)]
 refine d_rs rfl ?_
 refine go (m_move) ?_
 refine go (m_set) ?_
 refine .nil ⟨by kernel_rfl, ?_⟩
 refine d_ret ?_
 change RetD _ _ _ _ _ _ _
 have e := som H; subst e
 exact finE [(0, 0)] (.tmp (.nil))

noncomputable def F_law08_near (p0 : Sp) (p1 : List Inc) (p2 : Int) : Option Int :=
 (F_law08_objects p0 p1).bind fun v1 =>
 if (v1.length : Int) = 0 then
 ((F_make_Mod (w64 (Int.tdiv p2 5)) (w64 ((p0.ws.length : Int) + 2))).bind fun v4 =>
 some (w64 (v4 - 1)))
 else
 (F_make_Mod p2 5).bind fun v5 =>
 if v5 = 0 then
 ((F_make_Mod (w64 (Int.tdiv p2 5)) (w64 ((p0.ws.length : Int) + 2))).bind fun v7 =>
 some (w64 (v7 - 1)))
 else
 (F_make_Mod (w64 (Int.tdiv p2 5)) (v1.length : Int)).bind fun v8 =>
 (at_ v1 v8).bind fun v9 =>
 some (v9)

set_option maxRecDepth 20000 in
set_option maxHeartbeats 4000000 in
theorem F_law08_near_ok {p0 : Sp} {p1 : List Inc} {p2 : Int} {r : Int} (H : F_law08_near p0 p1 p2 = some r) : DCall Try.prog 16 [.agg [DI p0.sh, .sl (p0.ws.map uC), .sl (p0.fs.map frC)], .sl (p1.map Inc.c), DI p2] [] (DI r) [] := by
 unfold F_law08_near at H
 refine DCall.mk Try.func16 rfl rfl ?_
 refine d_rs rfl ?_
 refine go (m_box ty_25) ?_
 refine go (m_set) ?_
 refine .nil ⟨by kernel_rfl, ?_⟩
 replace H := bnd H
 obtain ⟨v1, hv1, H⟩ := H
 refine d_rs rfl ?_
 refine go (m_load ty_25) ?_
 refine go (m_move) ?_
 refine go (m_cS [] (F_law08_objects_ok hv1) rfl (ScS.cons (scC (fun _ => rfl)) ScS.nil)) ?_
 refine go (m_set) ?_
 refine .nil ⟨by kernel_rfl, ?_⟩
 refine d_seq fun K k2 => ?_
 by_cases h3 : (v1.length : Int) = 0
 ·
  replace H := iT h3 H
  refine d_rs rfl ?_
  refine go (m_move) ?_
  refine go (m_lenE ty_26) ?_
  refine go (m_eql) ?_
  refine go (m_move) ?_
  refine noE (decide_eq_true h3) ?_
  refine noE (decide_eq_true h3) ?_
  refine noE (decide_eq_true h3) ?_
  refine go (m_pickE (decide_eq_true h3)) ?_
  refine .nil ⟨by kernel_rfl, ?_⟩
  refine d_condE rfl rfl ?_
  replace H := bnd H
  obtain ⟨v4, hv4, H⟩ := H
  refine d_rs rfl ?_
  refine go (m_move) ?_
  refine go (m_quo (q := 5) (by decide)) ?_
  refine go (m_fa ty_25) ?_
  refine go (m_load ty_22) ?_
  refine go (m_lenE ty_22) ?_
  refine go (m_add) ?_
  refine go (m_cS [] (F_make_Mod_ok hv4) rfl ScS.nil) ?_
  refine go (m_sub) ?_
  refine go (m_set) ?_
  refine .nil ⟨by kernel_rfl, ?_⟩
  refine d_ret ?_
  change RetD _ _ _ _ _ _ _
  have e := som H; subst e
  exact finE [] (.tmp (.nil))
 replace H := iF h3 H
 replace H := bnd H
 obtain ⟨v5, hv5, H⟩ := H
 refine d_rs rfl ?_
 refine go (m_move) ?_
 refine go (m_lenE ty_26) ?_
 refine go (m_eql) ?_
 refine go (m_move) ?_
 refine go (m_move) ?_ (gY (decide_eq_false h3))
 refine go (m_cS [] (F_make_Mod_ok hv5) rfl ScS.nil) ?_ (gY (decide_eq_false h3))
 refine go (m_eql) ?_ (gY (decide_eq_false h3))
 refine go (m_pickE (decide_eq_false h3)) ?_
 refine .nil ⟨by kernel_rfl, ?_⟩
 by_cases h6 : v5 = 0
 ·
  replace H := iT h6 H
  refine d_condE rfl (decide_eq_true h6) ?_
  replace H := bnd H
  obtain ⟨v7, hv7, H⟩ := H
  refine d_rs rfl ?_
  refine go (m_move) ?_
  refine go (m_quo (q := 5) (by decide)) ?_
  refine go (m_fa ty_25) ?_
  refine go (m_load ty_22) ?_
  refine go (m_lenE ty_22) ?_
  refine go (m_add) ?_
  refine go (m_cS [] (F_make_Mod_ok hv7) rfl ScS.nil) ?_
  refine go (m_sub) ?_
  refine go (m_set) ?_
  refine .nil ⟨by kernel_rfl, ?_⟩
  refine d_ret ?_
  change RetD _ _ _ _ _ _ _
  have e := som H; subst e
  exact finE [] (.tmp (.nil))
 replace H := iF h6 H
 refine d_condN rfl (decide_eq_false h6) ?_
 refine d_skip ?_
 refine k2 _ ?_
 replace H := bnd H
 obtain ⟨v8, hv8, H⟩ := H
 replace H := bnd H
 obtain ⟨v9, hv9, H⟩ := H
 refine d_rs rfl ?_
 refine go (m_move) ?_
 refine go (m_move) ?_
 refine go (m_quo (q := 5) (by decide)) ?_
 refine go (m_move) ?_
 refine go (m_lenE ty_26) ?_
 refine go (m_cS [] (F_make_Mod_ok hv8) rfl ScS.nil) ?_
 refine go (m_iaO hv9 ty_26 ty_3 rfl rfl rfl) ?_
 refine go (m_ldO hv9 ty_3) ?_
 refine go (m_set) ?_
 refine .nil ⟨by kernel_rfl, ?_⟩
 refine d_ret ?_
 change RetD _ _ _ _ _ _ _
 have e := som H; subst e
 exact finE [] (.tmp (.nil))

noncomputable def F_law08_ObjectMakes (p0 : Sp) (p1 : List Int) (p2 : Int) (p3 : Int) (p4 : Int) (p5 : Int) (p6 : Int) (p7 : Int) : Option Bool :=
 (F_make_Small p0).bind fun v2 =>
 if v2 = true then
 ((F_make_New p1).bind fun v4 =>
 (F_make_Space v4).bind fun v5 =>
 bndR ((F_make_Spoilt v5.1 p5 p6 p7).bind fun v8 =>
 loopO (fun (s10 : List Sp × Int) =>
 if s10.2 < ([v5.1, p0, v8].length : Int) then
 (bndR ((at_ s10.1 s10.2).bind fun v16 =>
 (F_law08_near v5.1 v5.2.1 p2).bind fun v17 =>
 (F_make_Mod p3 5).bind fun v18 =>
 (F_make_Mod p4 7).bind fun v19 =>
 (F_law08_near v5.1 v5.2.1 p2).bind fun v20 =>
 (F_make_Mod p3 18).bind fun v21 =>
 (F_make_Mod p4 35).bind fun v22 =>
 loopO (fun (s24 : Int) =>
 if s24 < ([[p2, p3, p4], [v17, v18, v19], [v20, w64 (v21 - 1), w64 (v22 - 1)]].length : Int) then
 ((at_ [[p2, p3, p4], [v17, v18, v19], [v20, w64 (v21 - 1), w64 (v22 - 1)]] s24).bind fun v29 =>
 (at_ v29 0).bind fun v30 =>
 (at_ v29 1).bind fun v31 =>
 (at_ v29 2).bind fun v32 =>
 (F_object_Init v16 v30 v31 v32).bind fun v33 =>
 (at_ v29 0).bind fun v34 =>
 (at_ v29 1).bind fun v35 =>
 (at_ v29 2).bind fun v36 =>
 (F_ref08_Init v16 v34 v35 v36).bind fun v37 =>
 if v33.2 = v37.2 then
 ((F_ref03_Same v33.1 v37.1).bind fun v39 =>
 if v39 = true then
 (some (.go (w64 (s24 + 1))))
 else
 some (.out (.inr (.out (.inr (false))))))
 else
 some (.out (.inr (.out (.inr (false))))))
 else
 some (.out (.inl (s10.1)))) 0) fun (b14 : List Sp) =>
 some (.go ((b14, w64 (s10.2 + 1)))))
 else
 some (.out (.inl (())))) ([v5.1, p0, v8], 0)) fun (b6 : Unit) =>
 (F_law08_awake).bind fun v41 =>
 some (v41))
 else
 (F_law08_awake).bind fun v42 =>
 some (v42)

set_option maxRecDepth 20000 in
set_option maxHeartbeats 4000000 in
theorem F_law08_ObjectMakes_ok {p0 : Sp} {p1 : List Int} {p2 : Int} {p3 : Int} {p4 : Int} {p5 : Int} {p6 : Int} {p7 : Int} {r : Bool} (H : F_law08_ObjectMakes p0 p1 p2 p3 p4 p5 p6 p7 = some r) : DCall Try.prog 3 [.agg [DI p0.sh, .sl (p0.ws.map uC), .sl (p0.fs.map frC)], .sl (p1.map iC), DI p2, DI p3, DI p4, DI p5, DI p6, DI p7] [] (DB r) [] := by
 unfold F_law08_ObjectMakes at H
 refine DCall.mk Try.func3 rfl rfl ?_
 refine d_rs rfl ?_
 refine go (m_box ty_25) ?_
 refine go (m_set) ?_
 refine .nil ⟨by kernel_rfl, ?_⟩
 refine d_seq fun K k1 => ?_
 replace H := bnd H
 obtain ⟨v2, hv2, H⟩ := H
 refine d_rs rfl ?_
 refine go (m_load ty_25) ?_
 refine go (m_cS [] (F_make_Small_ok hv2) rfl ScS.nil) ?_
 refine go (m_not) ?_
 refine .nil ⟨by kernel_rfl, ?_⟩
 by_cases h3 : v2 = true
 ·
  replace H := iT h3 H
  refine d_condN rfl (congrArg not h3) ?_
  refine d_skip ?_
  refine k1 _ ?_
  replace H := bnd H
  obtain ⟨v4, hv4, H⟩ := H
  replace H := bnd H
  obtain ⟨v5, hv5, H⟩ := H
  refine d_rs rfl ?_
  refine go (m_move) ?_
  refine go (m_cG [] (F_make_New_ok hv4)) ?_
  refine go (m_cG [(0, 1)] (F_make_Space_ok hv5)) ?_
  refine go (m_move) ?_
  refine go (m_ext) ?_
  refine go (m_ext) ?_
  refine go (m_alloc ty_25) ?_
  refine go (m_store ty_25) ?_
  refine go (m_set) ?_
  refine .nil ⟨by kernel_rfl, ?_⟩
  refine d_cutR (fun (b6 : Unit) => ⟨[], [], 0⟩) H (fun z7 H hr7 => ?_) (fun b6 H => ?_)
  ·
   replace H := bnd H
   obtain ⟨v8, hv8, H⟩ := H
   refine d_as mixedP rfl (by kernel_rfl) ?_
   refine go (m_load ty_25) ?_
   refine go (m_load ty_25) ?_
   refine go (m_load ty_25) ?_
   refine go (m_move) ?_
   refine go (m_move) ?_
   refine go (m_move) ?_
   refine go (m_cG [] (F_make_Spoilt_okp hv8)) ?_
   refine go (m_litE (c := spC) ([v5.1, p0, v8] : List Sp) ty_35 ty_25) ?_
   refine go (m_lenE ty_35) ?_
   refine go (m_move) ?_
   refine .nil ⟨⟨by kernel_rfl, by kernel_rfl⟩, ?_⟩
   refine d_block ?_
   refine d_loopF (fun (s10 : List Sp × Int) => ⟨[(2, DI p2), (3, DI p3), (4, DI p4), (17, .ptr 0 0 0), (18, .own 1 0 v5.2.1.length), (44, .own 2 0 s10.1.length), (45, DI ([v5.1, p0, v8].length : Int)), (46, DI s10.2)], [(0, ⟨3, false, false, [[DI v5.1.sh, .sl (v5.1.ws.map uC), .sl (v5.1.fs.map frC)]]⟩), (1, ⟨5, true, false, v5.2.1.map Inc.c⟩), (2, ⟨3, true, false, s10.1.map spC⟩)], 3⟩) H (wkE [(0, 3), (1, 2), (2, 4)]) (fun s10 y11 H hq11 => ?_)
   refine d_rs rfl ?_
   refine go (m_lss) ?_
   refine .nil ⟨by kernel_rfl, ?_⟩
   refine d_seq fun K k12 => ?_
   by_cases h13 : s10.2 < ([v5.1, p0, v8].length : Int)
   ·
    replace H := iT h13 H
    refine d_condE rfl (decide_eq_true h13) ?_
    refine d_skip ?_
    refine k12 _ ?_
    refine d_cutR (fun (b14 : List Sp) => ⟨[(2, DI p2), (3, DI p3), (4, DI p4), (17, .ptr 0 0 0), (18, .own 1 0 v5.2.1.length), (44, .own 2 0 b14.length), (45, DI ([v5.1, p0, v8].length : Int)), (46, DI s10.2)], [(0, ⟨3, false, false, [[DI v5.1.sh, .sl (v5.1.ws.map uC), .sl (v5.1.fs.map frC)]]⟩), (1, ⟨5, true, false, v5.2.1.map Inc.c⟩), (2, ⟨3, true, false, b14.map spC⟩)], 3⟩) H (fun z15 H hr15 => ?_) (fun b14 H => ?_)
    ·
     refine d_block ?_
     replace H := bnd H
     obtain ⟨v16, hv16, H⟩ := H
     refine d_rs rfl ?_
     refine go (m_iaO hv16 ty_35 ty_25 rfl rfl rfl) ?_
     refine go (m_ldO hv16 ty_25) ?_
     refine go (m_alloc ty_25) ?_
     refine go (m_store ty_25) ?_
     refine .nil ⟨by kernel_rfl, ?_⟩
     replace H := bnd H
     obtain ⟨v17, hv17, H⟩ := H
     replace H := bnd H
     obtain ⟨v18, hv18, H⟩ := H
     replace H := bnd H
     obtain ⟨v19, hv19, H⟩ := H
     replace H := bnd H
     obtain ⟨v20, hv20, H⟩ := H
     replace H := bnd H
     obtain ⟨v21, hv21, H⟩ := H
     replace H := bnd H
     obtain ⟨v22, hv22, H⟩ := H
     refine d_as mixedP rfl (by kernel_rfl) ?_
     refine go (m_move) ?_
     refine go (m_move) ?_
     refine go (m_move) ?_
     refine go (m_litE (c := iC) ([p2, p3, p4] : List Int) ty_26 ty_3) ?_
     refine go (m_load ty_25) ?_
     refine go (m_move) ?_
     refine go (m_move) ?_
     refine go (m_cS [] (F_law08_near_ok hv17) rfl ScS.nil) ?_
     refine go (m_move) ?_
     refine go (m_cS [] (F_make_Mod_ok hv18) rfl ScS.nil) ?_
     refine go (m_move) ?_
     refine go (m_cS [] (F_make_Mod_ok hv19) rfl ScS.nil) ?_
     refine go (m_litE (c := iC) ([v17, v18, v19] : List Int) ty_26 ty_3) ?_
     refine go (m_load ty_25) ?_
     refine go (m_move) ?_
     refine go (m_move) ?_
     refine go (m_cS [] (F_law08_near_ok hv20) rfl ScS.nil) ?_
     refine go (m_move) ?_
     refine go (m_cS [] (F_make_Mod_ok hv21) rfl ScS.nil) ?_
     refine go (m_sub) ?_
     refine go (m_move) ?_
     refine go (m_cS [] (F_make_Mod_ok hv22) rfl ScS.nil) ?_
     refine go (m_sub) ?_
     refine go (m_litE (c := iC) ([v20, w64 (v21 - 1), w64 (v22 - 1)] : List Int) ty_26 ty_3) ?_
     refine go (m_litE (c := (lC iC)) ([[p2, p3, p4], [v17, v18, v19], [v20, w64 (v21 - 1), w64 (v22 - 1)]] : List (List Int)) ty_38 ty_26) ?_
     refine go (m_lenE ty_38) ?_
     refine go (m_move) ?_
     refine .nil ⟨⟨by kernel_rfl, by kernel_rfl⟩, ?_⟩
     refine d_block ?_
     refine d_loopF (fun (s24 : Int) => ⟨[(2, DI p2), (3, DI p3), (4, DI p4), (17, .ptr 0 0 0), (18, .own 1 0 v5.2.1.length), (20, .ptr 2 0 0), (44, .own 3 0 s10.1.length), (45, DI ([v5.1, p0, v8].length : Int)), (46, DI s10.2), (74, .own 4 0 [[p2, p3, p4], [v17, v18, v19], [v20, w64 (v21 - 1), w64 (v22 - 1)]].length), (75, DI ([[p2, p3, p4], [v17, v18, v19], [v20, w64 (v21 - 1), w64 (v22 - 1)]].length : Int)), (76, DI s24)], [(0, ⟨3, false, false, [[DI v5.1.sh, .sl (v5.1.ws.map uC), .sl (v5.1.fs.map frC)]]⟩), (1, ⟨5, true, false, v5.2.1.map Inc.c⟩), (2, ⟨3, false, false, [[DI v16.sh, .sl (v16.ws.map uC), .sl (v16.fs.map frC)]]⟩), (3, ⟨3, true, false, s10.1.map spC⟩), (4, ⟨1, true, false, [[p2, p3, p4], [v17, v18, v19], [v20, w64 (v21 - 1), w64 (v22 - 1)]].map (lC iC)⟩)], 5⟩) H (wkE [(0, 0), (1, 1), (2, 3), (3, 2), (4, 7)]) (fun s24 y25 H hq25 => ?_)
     refine d_rs rfl ?_
     refine go (m_lss) ?_
     refine .nil ⟨by kernel_rfl, ?_⟩
     refine d_seq fun K k26 => ?_
     by_cases h27 : s24 < ([[p2, p3, p4], [v17, v18, v19], [v20, w64 (v21 - 1), w64 (v22 - 1)]].length : Int)
     ·
      replace H := iT h27 H
      refine d_condE rfl (decide_eq_true h27) ?_
      refine d_skip ?_
      refine k26 _ ?_
      refine d_seq fun K k28 => ?_
      refine d_block ?_
      replace H := bnd H
      obtain ⟨v29, hv29, H⟩ := H
      refine d_rs rfl ?_
      refine go (m_iaO hv29 ty_38 ty_26 rfl rfl rfl) ?_
      refine go (m_ldO hv29 ty_26) ?_
      refine go (m_set) ?_
      refine .nil ⟨by kernel_rfl, ?_⟩
      replace H := bnd H
      obtain ⟨v30, hv30, H⟩ := H
      replace H := bnd H
      obtain ⟨v31, hv31, H⟩ := H
      replace H := bnd H
      obtain ⟨v32, hv32, H⟩ := H
      replace H := bnd H
      obtain ⟨v33, hv33, H⟩ := H
      refine d_as mixedP rfl (by kernel_rfl) ?_
      refine go (m_load ty_25) ?_
      refine go (m_move) ?_
      refine go (m_iaS hv30 ty_26 ty_3) ?_
      refine go (m_load ty_3) ?_
      refine go (m_move) ?_
      refine go (m_iaS hv31 ty_26 ty_3) ?_
      refine go (m_load ty_3) ?_
      refine go (m_move) ?_
      refine go (m_iaS hv32 ty_26 ty_3) ?_
      refine go (m_load ty_3) ?_
      refine go (m_cG [] (F_object_Init_ok hv33)) ?_
      refine go (m_move) ?_
      refine go (m_ext) ?_
      refine go (m_ext) ?_
      refine go (m_alloc ty_25) ?_
      refine go (m_store ty_25) ?_
      refine go (m_set) ?_
      refine .nil ⟨⟨by kernel_rfl, by kernel_rfl⟩, ?_⟩
      replace H := bnd H
      obtain ⟨v34, hv34, H⟩ := H
      replace H := bnd H
      obtain ⟨v35, hv35, H⟩ := H
      replace H := bnd H
      obtain ⟨v36, hv36, H⟩ := H
      replace H := bnd H
      obtain ⟨v37, hv37, H⟩ := H
      refine d_as mixedP rfl (by kernel_rfl) ?_
      refine go (m_load ty_25) ?_
      refine go (m_move) ?_
      refine go (m_iaS hv34 ty_26 ty_3) ?_
      refine go (m_load ty_3) ?_
      refine go (m_move) ?_
      refine go (m_iaS hv35 ty_26 ty_3) ?_
      refine go (m_load ty_3) ?_
      refine go (m_move) ?_
      refine go (m_iaS hv36 ty_26 ty_3) ?_
      refine go (m_load ty_3) ?_
      refine go (m_cG [] (F_ref08_Init_ok hv37)) ?_
      refine go (m_move) ?_
      refine go (m_ext) ?_
      refine go (m_ext) ?_
      refine go (m_alloc ty_25) ?_
      refine go (m_store ty_25) ?_
      refine go (m_set) ?_
      refine .nil ⟨⟨by kernel_rfl, by kernel_rfl⟩, ?_⟩
      by_cases h38 : v33.2 = v37.2
      ·
       replace H := iT h38 H
       replace H := bnd H
       obtain ⟨v39, hv39, H⟩ := H
       refine d_rs rfl ?_
       refine go (m_move) ?_
       refine go (m_move) ?_
       refine go (m_neq) ?_
       refine go (m_move) ?_
       refine go (m_load ty_25) ?_ (gY (congrArg not (decide_eq_true h38)))
       refine go (m_load ty_25) ?_ (gY (congrArg not (decide_eq_true h38)))
       refine go (m_cS [] (F_ref03_Same_ok hv39) rfl ScS.nil) ?_ (gY (congrArg not (decide_eq_true h38)))
       refine go (m_not) ?_ (gY (congrArg not (decide_eq_true h38)))
       refine go (m_pickE (congrArg not (decide_eq_true h38))) ?_
       refine .nil ⟨by kernel_rfl, ?_⟩
       by_cases h40 : v39 = true
       ·
        replace H := iT h40 H
        refine d_condN rfl (congrArg not h40) ?_
        refine d_skip ?_
        refine k28 _ ?_
        refine d_region rfl ?_
        refine go (m_add) ?_
        refine go (m_move) ?_
        refine .nil ⟨by kernel_rfl, ?_⟩
        have e := som H; subst e
        exact ⟨_, rfl, wkE [(0, 0), (1, 1), (2, 2), (3, 3), (4, 4)]⟩
       replace H := iF h40 H
       refine d_condE rfl (congrArg not (eq_false_of_ne_true h40)) ?_
       refine d_rs rfl ?_
       refine go (m_set) ?_
       refine .nil ⟨by kernel_rfl, ?_⟩
       refine d_ret ?_
       change RetD _ _ _ _ _ _ _
       have e := som H; subst e
       have e := hq25 _ rfl; subst e
       have e := hr15 _ rfl; subst e
       have e := hq11 _ rfl; subst e
       have e := hr7 _ rfl; subst e
       exact finE [] (.tmp (.nil))
      replace H := iF h38 H
      refine d_rs rfl ?_
      refine go (m_move) ?_
      refine go (m_move) ?_
      refine go (m_neq) ?_
      refine go (m_move) ?_
      refine noE (congrArg not (decide_eq_false h38)) ?_
      refine noE (congrArg not (decide_eq_false h38)) ?_
      refine noE (congrArg not (decide_eq_false h38)) ?_
      refine noE (congrArg not (decide_eq_false h38)) ?_
      refine go (m_pickE (congrArg not (decide_eq_false h38))) ?_
      refine .nil ⟨by kernel_rfl, ?_⟩
      refine d_condE rfl rfl ?_
      refine d_rs rfl ?_
      refine go (m_set) ?_
      refine .nil ⟨by kernel_rfl, ?_⟩
      refine d_ret ?_
      change RetD _ _ _ _ _ _ _
      have e := som H; subst e
      have e := hq25 _ rfl; subst e
      have e := hr15 _ rfl; subst e
      have e := hq11 _ rfl; subst e
      have e := hr7 _ rfl; subst e
      exact finE [] (.tmp (.nil))
     replace H := iF h27 H
     refine d_condN rfl (decide_eq_false h27) ?_
     refine d_exit ?_
     have e := som H; subst e
     have e := hq25 _ rfl; subst e
     exact ⟨_, rfl, wkE [(0, 0), (1, 1), (2, 3)]⟩
    refine d_region rfl ?_
    refine go (m_add) ?_
    refine go (m_move) ?_
    refine .nil ⟨by kernel_rfl, ?_⟩
    have e := som H; subst e
    exact ⟨_, rfl, wkE [(0, 0), (1, 1), (2, 2)]⟩
   replace H := iF h13 H
   refine d_condN rfl (decide_eq_false h13) ?_
   refine d_exit ?_
   have e := som H; subst e
   have e := hq11 _ rfl; subst e
   exact ⟨_, rfl, wkE []⟩
  replace H := bnd H
  obtain ⟨v41, hv41, H⟩ := H
  refine d_rs rfl ?_
  refine go (m_cS [] (F_law08_awake_ok hv41) rfl ScS.nil) ?_
  refine go (m_set) ?_
  refine .nil ⟨by kernel_rfl, ?_⟩
  refine d_ret ?_
  change RetD _ _ _ _ _ _ _
  have e := som H; subst e
  exact finE [] (.tmp (.nil))
 replace H := iF h3 H
 refine d_condE rfl (congrArg not (eq_false_of_ne_true h3)) ?_
 replace H := bnd H
 obtain ⟨v42, hv42, H⟩ := H
 refine d_rs rfl ?_
 refine go (m_cS [] (F_law08_awake_ok hv42) rfl ScS.nil) ?_
 refine go (m_set) ?_
 refine .nil ⟨by kernel_rfl, ?_⟩
 refine d_ret ?_
 change RetD _ _ _ _ _ _ _
 have e := som H; subst e
 exact finE [] (.tmp (.nil))

noncomputable def F_ref18_SameInts (p0 : List Int) (p1 : List Int) : Option Bool :=
 if (p0.length : Int) = (p1.length : Int) then
 (bndR (loopO (fun (s6 : Int) =>
 if s6 < (p0.length : Int) then
 ((at_ p0 s6).bind fun v11 =>
 (at_ p1 s6).bind fun v12 =>
 if v11 = v12 then
 (some (.go (w64 (s6 + 1))))
 else
 some (.out (.inr (false))))
 else
 some (.out (.inl (())))) 0) fun (b3 : Unit) =>
 some (true))
 else
 some (false)

set_option maxRecDepth 20000 in
set_option maxHeartbeats 4000000 in
theorem F_ref18_SameInts_ok {p0 : List Int} {p1 : List Int} {r : Bool} (H : F_ref18_SameInts p0 p1 = some r) : DCall Try.prog 25 [.sl (p0.map iC), .sl (p1.map iC)] [] (DB r) [] := by
 unfold F_ref18_SameInts at H
 refine DCall.mk Try.func25 rfl rfl ?_
 refine d_rs rfl ?_
 refine go (m_set) ?_
 refine .nil ⟨by kernel_rfl, ?_⟩
 refine d_seq fun K k1 => ?_
 refine d_rs rfl ?_
 refine go (m_move) ?_
 refine go (m_lenE ty_26) ?_
 refine go (m_move) ?_
 refine go (m_lenE ty_26) ?_
 refine go (m_neq) ?_
 refine .nil ⟨by kernel_rfl, ?_⟩
 by_cases h2 : (p0.length : Int) = (p1.length : Int)
 ·
  replace H := iT h2 H
  refine d_condN rfl (congrArg not (decide_eq_true h2)) ?_
  refine d_skip ?_
  refine k1 _ ?_
  refine d_cutR (fun (b3 : Unit) => ⟨[], [], 0⟩) H (fun z4 H hr4 => ?_) (fun b3 H => ?_)
  ·
   refine d_rs rfl ?_
   refine go (m_move) ?_
   refine go (m_lenE ty_26) ?_
   refine go (m_move) ?_
   refine .nil ⟨by kernel_rfl, ?_⟩
   refine d_block ?_
   refine d_loopF (fun (s6 : Int) => ⟨[(0, .sl (p0.map iC)), (1, .sl (p1.map iC)), (12, DI (p0.length : Int)), (13, DI s6)], [], 0⟩) H (wkE []) (fun s6 y7 H hq7 => ?_)
   refine d_rs rfl ?_
   refine go (m_lss) ?_
   refine .nil ⟨by kernel_rfl, ?_⟩
   refine d_seq fun K k8 => ?_
   by_cases h9 : s6 < (p0.length : Int)
   ·
    replace H := iT h9 H
    refine d_condE rfl (decide_eq_true h9) ?_
    refine d_skip ?_
    refine k8 _ ?_
    refine d_seq fun K k10 => ?_
    refine d_block ?_
    refine d_rs rfl ?_
    refine go (m_move) ?_
    refine go (m_set) ?_
    refine .nil ⟨by kernel_rfl, ?_⟩
    replace H := bnd H
    obtain ⟨v11, hv11, H⟩ := H
    replace H := bnd H
    obtain ⟨v12, hv12, H⟩ := H
    refine d_as mixedP rfl (by kernel_rfl) ?_
    refine go (m_move) ?_
    refine go (m_move) ?_
    refine go (m_iaS hv11 ty_26 ty_3) ?_
    refine go (m_load ty_3) ?_
    refine go (m_move) ?_
    refine go (m_move) ?_
    refine go (m_iaS hv12 ty_26 ty_3) ?_
    refine go (m_load ty_3) ?_
    refine go (m_neq) ?_
    refine .nil ⟨⟨by kernel_rfl, by kernel_rfl⟩, ?_⟩
    by_cases h13 : v11 = v12
    ·
     replace H := iT h13 H
     refine d_condN rfl (congrArg not (decide_eq_true h13)) ?_
     refine d_skip ?_
     refine k10 _ ?_
     refine d_region rfl ?_
     refine go (m_add) ?_
     refine go (m_move) ?_
     refine .nil ⟨by kernel_rfl, ?_⟩
     have e := som H; subst e
     exact ⟨_, rfl, wkE []⟩
    replace H := iF h13 H
    refine d_condE rfl (congrArg not (decide_eq_false h13)) ?_
    refine d_rs rfl ?_
    refine go (m_set) ?_
    refine .nil ⟨by kernel_rfl, ?_⟩
    refine d_ret ?_
    change RetD _ _ _ _ _ _ _
    have e := som H; subst e
    have e := hq7 _ rfl; subst e
    have e := hr4 _ rfl; subst e
    exact finE [] (.tmp (.nil))
   replace H := iF h9 H
   refine d_condN rfl (decide_eq_false h9) ?_
   refine d_exit ?_
   have e := som H; subst e
   have e := hq7 _ rfl; subst e
   exact ⟨_, rfl, wkE []⟩
  refine d_rs rfl ?_
  refine go (m_set) ?_
  refine .nil ⟨by kernel_rfl, ?_⟩
  refine d_ret ?_
  change RetD _ _ _ _ _ _ _
  have e := som H; subst e
  exact finE [] (.tmp (.nil))
 replace H := iF h2 H
 refine d_condE rfl (congrArg not (decide_eq_false h2)) ?_
 refine d_rs rfl ?_
 refine go (m_set) ?_
 refine .nil ⟨by kernel_rfl, ?_⟩
 refine d_ret ?_
 change RetD _ _ _ _ _ _ _
 have e := som H; subst e
 exact finE [] (.tmp (.nil))

noncomputable def F_law08_ObjectShapes (p0 : Sp) (p1 : List Int) (p2 : Int) (p3 : Int) (p4 : Int) (p5 : Int) : Option Bool :=
 (F_make_Small p0).bind fun v2 =>
 if v2 = true then
 ((F_make_New p1).bind fun v4 =>
 (F_make_Space v4).bind fun v5 =>
 bndR ((F_make_Spoilt v5.1 p3 p4 p5).bind fun v8 =>
 (F_law08_near v5.1 v5.2.1 p2).bind fun v9 =>
 (F_make_Spoilt v5.1 3 v9 p5).bind fun v10 =>
 loopO (fun (s12 : List Sp × Int) =>
 if s12.2 < ([v5.1, p0, v8, v10].length : Int) then
 (bndR ((at_ s12.1 s12.2).bind fun v18 =>
 (F_law08_near v5.1 v5.2.1 p2).bind fun v19 =>
 loopO (fun (s21 : Int) =>
 if s21 < ([p2, v19].length : Int) then
 ((at_ [p2, v19] s21).bind fun v26 =>
 (F_object_Shape v18 v26).bind fun v27 =>
 (F_ref08_Shape v18 v26).bind fun v28 =>
 (F_object_Slots v18 v26).bind fun v29 =>
 (F_ref08_Slots v18 v26).bind fun v30 =>
 if v27.1 = v28.1 then
 (if v27.2.1 = v28.2.1 then
 (if v27.2.2 = v28.2.2 then
 (if v29.2 = v30.2 then
 ((F_ref18_SameInts v29.1 v30.1).bind fun v35 =>
 if v35 = true then
 (some (.go (w64 (s21 + 1))))
 else
 some (.out (.inr (.out (.inr (false))))))
 else
 some (.out (.inr (.out (.inr (false))))))
 else
 some (.out (.inr (.out (.inr (false))))))
 else
 some (.out (.inr (.out (.inr (false))))))
 else
 some (.out (.inr (.out (.inr (false))))))
 else
 some (.out (.inl (s12.1)))) 0) fun (b16 : List Sp) =>
 some (.go ((b16, w64 (s12.2 + 1)))))
 else
 some (.out (.inl (())))) ([v5.1, p0, v8, v10], 0)) fun (b6 : Unit) =>
 (F_law08_awake).bind fun v37 =>
 some (v37))
 else
 (F_law08_awake).bind fun v38 =>
 some (v38)

set_option maxRecDepth 20000 in
set_option maxHeartbeats 4000000 in
theorem F_law08_ObjectShapes_ok {p0 : Sp} {p1 : List Int} {p2 : Int} {p3 : Int} {p4 : Int} {p5 : Int} {r : Bool} (H : F_law08_ObjectShapes p0 p1 p2 p3 p4 p5 = some r) : DCall Try.prog 4 [.agg [DI p0.sh, .sl (p0.ws.map uC), .sl (p0.fs.map frC)], .sl (p1.map iC), DI p2, DI p3, DI p4, DI p5] [] (DB r) [] := by
 unfold F_law08_ObjectShapes at H
 refine DCall.mk Try.func4 rfl rfl ?_
 refine d_rs rfl ?_
 refine go (m_box ty_25) ?_
 refine go (m_set) ?_
 refine .nil ⟨by kernel_rfl, ?_⟩
 refine d_seq fun K k1 => ?_
 replace H := bnd H
 obtain ⟨v2, hv2, H⟩ := H
 refine d_rs rfl ?_
 refine go (m_load ty_25) ?_
 refine go (m_cS [] (F_make_Small_ok hv2) rfl ScS.nil) ?_
 refine go (m_not) ?_
 refine .nil ⟨by kernel_rfl, ?_⟩
 by_cases h3 : v2 = true
 ·
  replace H := iT h3 H
  refine d_condN rfl (congrArg not h3) ?_
  refine d_skip ?_
  refine k1 _ ?_
  replace H := bnd H
  obtain ⟨v4, hv4, H⟩ := H
  replace H := bnd H
  obtain ⟨v5, hv5, H⟩ := H
  refine d_rs rfl ?_
  refine go (m_move) ?_
  refine go (m_cG [] (F_make_New_ok hv4)) ?_
  refine go (m_cG [(0, 1)] (F_make_Space_ok hv5)) ?_
  refine go (m_move) ?_
  refine go (m_ext) ?_
  refine go (m_ext) ?_
  refine go (m_alloc ty_25) ?_
  refine go (m_store ty_25) ?_
  refine go (m_set) ?_
  refine .nil ⟨by kernel_rfl, ?_⟩
  refine d_cutR (fun (b6 : Unit) => ⟨[], [], 0⟩) H (fun z7 H hr7 => ?_) (fun b6 H => ?_)
  ·
   replace H := bnd H
   obtain ⟨v8, hv8, H⟩ := H
   replace H := bnd H
   obtain ⟨v9, hv9, H⟩ := H
   replace H := bnd H
   obtain ⟨v10, hv10, H⟩ := H
   refine d_as mixedP rfl (by kernel_rfl) ?_
   refine go (m_load ty_25) ?_
   refine go (m_load ty_25) ?_
   refine go (m_load ty_25) ?_
   refine go (m_move) ?_
   refine go (m_move) ?_
   refine go (m_move) ?_
   refine go (m_cG [] (F_make_Spoilt_okp hv8)) ?_
   refine go (m_load ty_25) ?_
   refine go (m_load ty_25) ?_
   refine go (m_move) ?_
   refine go (m_move) ?_
   refine go (m_cS [] (F_law08_near_ok hv9) rfl ScS.nil) ?_
   refine go (m_move) ?_
   refine go (m_cG [] (F_make_Spoilt_okp hv10)) ?_
   refine go (m_litE (c := spC) ([v5.1, p0, v8, v10] : List Sp) ty_35 ty_25) ?_
   refine go (m_lenE ty_35) ?_
   refine go (m_move) ?_
   refine .nil ⟨⟨by kernel_rfl, by kernel_rfl⟩, ?_⟩
   refine d_block ?_
   refine d_loopF (fun (s12 : List Sp × Int) => ⟨[(2, DI p2), (13, .ptr 0 0 0), (14, .own 1 0 v5.2.1.length), (53, .own 2 0 s12.1.length), (54, DI ([v5.1, p0, v8, v10].length : Int)), (55, DI s12.2)], [(0, ⟨3, false, false, [[DI v5.1.sh, .sl (v5.1.ws.map uC), .sl (v5.1.fs.map frC)]]⟩), (1, ⟨5, true, false, v5.2.1.map Inc.c⟩), (2, ⟨3, true, false, s12.1.map spC⟩)], 3⟩) H (wkE [(0, 3), (1, 2), (2, 4)]) (fun s12 y13 H hq13 => ?_)
   refine d_rs rfl ?_
   refine go (m_lss) ?_
   refine .nil ⟨by kernel_rfl, ?_⟩
   refine d_seq fun K k14 => ?_
   by_cases h15 : s12.2 < ([v5.1, p0, v8, v10].length : Int)
   ·
    replace H := iT h15 H
    refine d_condE rfl (decide_eq_true h15) ?_
    refine d_skip ?_
    refine k14 _ ?_
    refine d_cutR (fun (b16 : List Sp) => ⟨[(2, DI p2), (13, .ptr 0 0 0), (14, .own 1 0 v5.2.1.length), (53, .own 2 0 b16.length), (54, DI ([v5.1, p0, v8, v10].length : Int)), (55, DI s12.2)], [(0, ⟨3, false, false, [[DI v5.1.sh, .sl (v5.1.ws.map uC), .sl (v5.1.fs.map frC)]]⟩), (1, ⟨5, true, false, v5.2.1.map Inc.c⟩), (2, ⟨3, true, false, b16.map spC⟩)], 3⟩) H (fun z17 H hr17 => ?_) (fun b16 H => ?_)
    ·
     refine d_block ?_
     replace H := bnd H
     obtain ⟨v18, hv18, H⟩ := H
     refine d_rs rfl ?_
     refine go (m_iaO hv18 ty_35 ty_25 rfl rfl rfl) ?_
     refine go (m_ldO hv18 ty_25) ?_
     refine go (m_alloc ty_25) ?_
     refine go (m_store ty_25) ?_
     refine .nil ⟨by kernel_rfl, ?_⟩
     replace H := bnd H
     obtain ⟨v19, hv19, H⟩ := H
     refine d_rs rfl ?_
     refine go (m_move) ?_
     refine go (m_load ty_25) ?_
     refine go (m_move) ?_
     refine go (m_move) ?_
     refine go (m_cS [] (F_law08_near_ok hv19) rfl ScS.nil) ?_
     refine go (m_litE (c := iC) ([p2, v19] : List Int) ty_26 ty_3) ?_
     refine go (m_lenE ty_26) ?_
     refine go (m_move) ?_
     refine .nil ⟨by kernel_rfl, ?_⟩
     refine d_block ?_
     refine d_loopF (fun (s21 : Int) => ⟨[(2, DI p2), (13, .ptr 0 0 0), (14, .own 1 0 v5.2.1.length), (16, .ptr 2 0 0), (53, .own 3 0 s12.1.length), (54, DI ([v5.1, p0, v8, v10].length : Int)), (55, DI s12.2), (64, .own 4 0 [p2, v19].length), (65, DI ([p2, v19].length : Int)), (66, DI s21)], [(0, ⟨3, false, false, [[DI v5.1.sh, .sl (v5.1.ws.map uC), .sl (v5.1.fs.map frC)]]⟩), (1, ⟨5, true, false, v5.2.1.map Inc.c⟩), (2, ⟨3, false, false, [[DI v18.sh, .sl (v18.ws.map uC), .sl (v18.fs.map frC)]]⟩), (3, ⟨3, true, false, s12.1.map spC⟩), (4, ⟨1, true, false, [p2, v19].map iC⟩)], 5⟩) H (wkE [(0, 0), (1, 1), (2, 3), (3, 2), (4, 4)]) (fun s21 y22 H hq22 => ?_)
     refine d_rs rfl ?_
     refine go (m_lss) ?_
     refine .nil ⟨by kernel_rfl, ?_⟩
     refine d_seq fun K k23 => ?_
     by_cases h24 : s21 < ([p2, v19].length : Int)
     ·
      replace H := iT h24 H
      refine d_condE rfl (decide_eq_true h24) ?_
      refine d_skip ?_
      refine k23 _ ?_
      refine d_seq fun K k25 => ?_
      refine d_block ?_
      replace H := bnd H
      obtain ⟨v26, hv26, H⟩ := H
      refine d_rs rfl ?_
      refine go (m_iaO hv26 ty_26 ty_3 rfl rfl rfl) ?_
      refine go (m_ldO hv26 ty_3) ?_
      refine go (m_set) ?_
      refine .nil ⟨by kernel_rfl, ?_⟩
      replace H := bnd H
      obtain ⟨v27, hv27, H⟩ := H
      refine d_rs rfl ?_
      refine go (m_load ty_25) ?_
      refine go (m_move) ?_
      refine go (m_cS [] (F_object_Shape_ok hv27) rfl ScS.nil) ?_
      refine go (m_move) ?_
      refine go (m_ext) ?_
      refine go (m_ext) ?_
      refine go (m_ext) ?_
      refine go (m_set) ?_
      refine go (m_set) ?_
      refine go (m_set) ?_
      refine .nil ⟨by kernel_rfl, ?_⟩
      replace H := bnd H
      obtain ⟨v28, hv28, H⟩ := H
      refine d_rs rfl ?_
      refine go (m_load ty_25) ?_
      refine go (m_move) ?_
      refine go (m_cS [] (F_ref08_Shape_ok hv28) rfl ScS.nil) ?_
      refine go (m_move) ?_
      refine go (m_ext) ?_
      refine go (m_ext) ?_
      refine go (m_ext) ?_
      refine go (m_set) ?_
      refine go (m_set) ?_
      refine go (m_set) ?_
      refine .nil ⟨by kernel_rfl, ?_⟩
      replace H := bnd H
      obtain ⟨v29, hv29, H⟩ := H
      refine d_rs rfl ?_
      refine go (m_load ty_25) ?_
      refine go (m_move) ?_
      refine go (m_cG [] (F_object_Slots_ok hv29)) ?_
      refine go (m_move) ?_
      refine go (m_ext) ?_
      refine go (m_ext) ?_
      refine go (m_set) ?_
      refine go (m_set) ?_
      refine .nil ⟨by kernel_rfl, ?_⟩
      replace H := bnd H
      obtain ⟨v30, hv30, H⟩ := H
      refine d_rs rfl ?_
      refine go (m_load ty_25) ?_
      refine go (m_move) ?_
      refine go (m_cG [] (F_ref08_Slots_ok hv30)) ?_
      refine go (m_move) ?_
      refine go (m_ext) ?_
      refine go (m_ext) ?_
      refine go (m_set) ?_
      refine go (m_set) ?_
      refine .nil ⟨by kernel_rfl, ?_⟩
      by_cases h31 : v27.1 = v28.1
      ·
       replace H := iT h31 H
       by_cases h32 : v27.2.1 = v28.2.1
       ·
        replace H := iT h32 H
        by_cases h33 : v27.2.2 = v28.2.2
        ·
         replace H := iT h33 H
         by_cases h34 : v29.2 = v30.2
         ·
          replace H := iT h34 H
          replace H := bnd H
          obtain ⟨v35, hv35, H⟩ := H
          refine d_rs rfl ?_
          refine go (m_move) ?_
          refine go (m_move) ?_
          refine go (m_neq) ?_
          refine go (m_move) ?_
          refine go (m_move) ?_ (gY (congrArg not (decide_eq_true h31)))
          refine go (m_move) ?_ (gY (congrArg not (decide_eq_true h31)))
          refine go (m_neq) ?_ (gY (congrArg not (decide_eq_true h31)))
          refine go (m_pickE (congrArg not (decide_eq_true h31))) ?_
          refine go (m_move) ?_
          refine go (m_move) ?_ (gY (congrArg not (decide_eq_true h32)))
          refine go (m_move) ?_ (gY (congrArg not (decide_eq_true h32)))
          refine go (m_neq) ?_ (gY (congrArg not (decide_eq_true h32)))
          refine go (m_pickE (congrArg not (decide_eq_true h32))) ?_
          refine go (m_move) ?_
          refine go (m_move) ?_ (gY (congrArg not (decide_eq_true h33)))
          refine go (m_move) ?_ (gY (congrArg not (decide_eq_true h33)))
          refine go (m_neq) ?_ (gY (congrArg not (decide_eq_true h33)))
          refine go (m_pickE (congrArg not (decide_eq_true h33))) ?_
          refine go (m_move) ?_
          refine go (m_move) ?_ (gY (congrArg not (decide_eq_true h34)))
          refine go (m_move) ?_ (gY (congrArg not (decide_eq_true h34)))
          refine go (m_cS [] (F_ref18_SameInts_ok hv35) rfl ScS.nil) ?_ (gY (congrArg not (decide_eq_true h34)))
          refine go (m_not) ?_ (gY (congrArg not (decide_eq_true h34)))
          refine go (m_pickE (congrArg not (decide_eq_true h34))) ?_
          refine .nil ⟨by kernel_rfl, ?_⟩
          by_cases h36 : v35 = true
          ·
           replace H := iT h36 H
           refine d_condN rfl (congrArg not h36) ?_
           refine d_skip ?_
           refine k25 _ ?_
           refine d_region rfl ?_
           refine go (m_add) ?_
           refine go (m_move) ?_
           refine .nil ⟨by kernel_rfl, ?_⟩
           have e := som H; subst e
           exact ⟨_, rfl, wkE [(0, 0), (1, 1), (2, 2), (3, 3), (4, 4)]⟩
          replace H := iF h36 H
          refine d_condE rfl (congrArg not (eq_false_of_ne_true h36)) ?_
          refine d_rs rfl ?_
          refine go (m_set) ?_
          refine .nil ⟨by kernel_rfl, ?_⟩
          refine d_ret ?_
          change RetD _ _ _ _ _ _ _
          have e := som H; subst e
          have e := hq22 _ rfl; subst e
          have e := hr17 _ rfl; subst e
          have e := hq13 _ rfl; subst e
          have e := hr7 _ rfl; subst e
          exact finE [] (.tmp (.nil))
         replace H := iF h34 H
         refine d_rs rfl ?_
         refine go (m_move) ?_
         refine go (m_move) ?_
         refine go (m_neq) ?_
         refine go (m_move) ?_
         refine go (m_move) ?_ (gY (congrArg not (decide_eq_true h31)))
         refine go (m_move) ?_ (gY (congrArg not (decide_eq_true h31)))
         refine go (m_neq) ?_ (gY (congrArg not (decide_eq_true h31)))
         refine go (m_pickE (congrArg not (decide_eq_true h31))) ?_
         refine go (m_move) ?_
         refine go (m_move) ?_ (gY (congrArg not (decide_eq_true h32)))
         refine go (m_move) ?_ (gY (congrArg not (decide_eq_true h32)))
         refine go (m_neq) ?_ (gY (congrArg not (decide_eq_true h32)))
         refine go (m_pickE (congrArg not (decide_eq_true h32))) ?_
         refine go (m_move) ?_
         refine go (m_move) ?_ (gY (congrArg not (decide_eq_true h33)))
         refine go (m_move) ?_ (gY (congrArg not (decide_eq_true h33)))
         refine go (m_neq) ?_ (gY (congrArg not (decide_eq_true h33)))
         refine go (m_pickE (congrArg not (decide_eq_true h33))) ?_
         refine go (m_move) ?_
         refine noE (congrArg not (decide_eq_false h34)) ?_
         refine noE (congrArg not (decide_eq_false h34)) ?_
         refine noE (congrArg not (decide_eq_false h34)) ?_
         refine noE (congrArg not (decide_eq_false h34)) ?_
         refine go (m_pickE (congrArg not (decide_eq_false h34))) ?_
         refine .nil ⟨by kernel_rfl, ?_⟩
         refine d_condE rfl rfl ?_
         refine d_rs rfl ?_
         refine go (m_set) ?_
         refine .nil ⟨by kernel_rfl, ?_⟩
         refine d_ret ?_
         change RetD _ _ _ _ _ _ _
         have e := som H; subst e
         have e := hq22 _ rfl; subst e
         have e := hr17 _ rfl; subst e
         have e := hq13 _ rfl; subst e
         have e := hr7 _ rfl; subst e
         exact finE [] (.tmp (.nil))
        replace H := iF h33 H
        refine d_rs rfl ?_
        refine go (m_move) ?_
        refine go (m_move) ?_
        refine go (m_neq) ?_
        refine go (m_move) ?_
        refine go (m_move) ?_ (gY (congrArg not (decide_eq_true h31)))
        refine go (m_move) ?_ (gY (congrArg not (decide_eq_true h31)))
        refine go (m_neq) ?_ (gY (congrArg not (decide_eq_true h31)))
        refine go (m_pickE (congrArg not (decide_eq_true h31))) ?_
        refine go (m_move) ?_
        refine go (m_move) ?_ (gY (congrArg not (decide_eq_true h32)))
        refine go (m_move) ?_ (gY (congrArg not (decide_eq_true h32)))
        refine go (m_neq) ?_ (gY (congrArg not (decide_eq_true h32)))
        refine go (m_pickE (congrArg not (decide_eq_true h32))) ?_
        refine go (m_move) ?_
        refine noE (congrArg not (decide_eq_false h33)) ?_
        refine noE (congrArg not (decide_eq_false h33)) ?_
        refine noE (congrArg not (decide_eq_false h33)) ?_
        refine go (m_pickE (congrArg not (decide_eq_false h33))) ?_
        refine go (m_move) ?_
        refine noE rfl ?_
        refine noE rfl ?_
        refine noE rfl ?_
        refine noE rfl ?_
        refine go (m_pickE rfl) ?_
        refine .nil ⟨by kernel_rfl, ?_⟩
        refine d_condE rfl rfl ?_
        refine d_rs rfl ?_
        refine go (m_set) ?_
        refine .nil ⟨by kernel_rfl, ?_⟩
        refine d_ret ?_
        change RetD _ _ _ _ _ _ _
        have e := som H; subst e
        have e := hq22 _ rfl; subst e
        have e := hr17 _ rfl; subst e
        have e := hq13 _ rfl; subst e
        have e := hr7 _ rfl; subst e
        exact finE [] (.tmp (.nil))
       replace H := iF h32 H
       refine d_rs rfl ?_
       refine go (m_move) ?_
       refine go (m_move) ?_
       refine go (m_neq) ?_
       refine go (m_move) ?_
       refine go (m_move) ?_ (gY (congrArg not (decide_eq_true h31)))
       refine go (m_move) ?_ (gY (congrArg not (decide_eq_true h31)))
       refine go (m_neq) ?_ (gY (congrArg not (decide_eq_true h31)))
       refine go (m_pickE (congrArg not (decide_eq_true h31))) ?_
       refine go (m_move) ?_
       refine noE (congrArg not (decide_eq_false h32)) ?_
       refine noE (congrArg not (decide_eq_false h32)) ?_
       refine noE (congrArg not (decide_eq_false h32)) ?_
       refine go (m_pickE (congrArg not (decide_eq_false h32))) ?_
       refine go (m_move) ?_
       refine noE rfl ?_
       refine noE rfl ?_
       refine noE rfl ?_
       refine go (m_pickE rfl) ?_
       refine go (m_move) ?_
       refine noE rfl ?_
       refine noE rfl ?_
       refine noE rfl ?_
       refine noE rfl ?_
       refine go (m_pickE rfl) ?_
       refine .nil ⟨by kernel_rfl, ?_⟩
       refine d_condE rfl rfl ?_
       refine d_rs rfl ?_
       refine go (m_set) ?_
       refine .nil ⟨by kernel_rfl, ?_⟩
       refine d_ret ?_
       change RetD _ _ _ _ _ _ _
       have e := som H; subst e
       have e := hq22 _ rfl; subst e
       have e := hr17 _ rfl; subst e
       have e := hq13 _ rfl; subst e
       have e := hr7 _ rfl; subst e
       exact finE [] (.tmp (.nil))
      replace H := iF h31 H
      refine d_rs rfl ?_
      refine go (m_move) ?_
      refine go (m_move) ?_
      refine go (m_neq) ?_
      refine go (m_move) ?_
      refine noE (congrArg not (decide_eq_false h31)) ?_
      refine noE (congrArg not (decide_eq_false h31)) ?_
      refine noE (congrArg not (decide_eq_false h31)) ?_
      refine go (m_pickE (congrArg not (decide_eq_false h31))) ?_
      refine go (m_move) ?_
      refine noE rfl ?_
      refine noE rfl ?_
      refine noE rfl ?_
      refine go (m_pickE rfl) ?_
      refine go (m_move) ?_
      refine noE rfl ?_
      refine noE rfl ?_
      refine noE rfl ?_
      refine go (m_pickE rfl) ?_
      refine go (m_move) ?_
      refine noE rfl ?_
      refine noE rfl ?_
      refine noE rfl ?_
      refine noE rfl ?_
      refine go (m_pickE rfl) ?_
      refine .nil ⟨by kernel_rfl, ?_⟩
      refine d_condE rfl rfl ?_
      refine d_rs rfl ?_
      refine go (m_set) ?_
      refine .nil ⟨by kernel_rfl, ?_⟩
      refine d_ret ?_
      change RetD _ _ _ _ _ _ _
      have e := som H; subst e
      have e := hq22 _ rfl; subst e
      have e := hr17 _ rfl; subst e
      have e := hq13 _ rfl; subst e
      have e := hr7 _ rfl; subst e
      exact finE [] (.tmp (.nil))
     replace H := iF h24 H
     refine d_condN rfl (decide_eq_false h24) ?_
     refine d_exit ?_
     have e := som H; subst e
     have e := hq22 _ rfl; subst e
     exact ⟨_, rfl, wkE [(0, 0), (1, 1), (2, 3)]⟩
    refine d_region rfl ?_
    refine go (m_add) ?_
    refine go (m_move) ?_
    refine .nil ⟨by kernel_rfl, ?_⟩
    have e := som H; subst e
    exact ⟨_, rfl, wkE [(0, 0), (1, 1), (2, 2)]⟩
   replace H := iF h15 H
   refine d_condN rfl (decide_eq_false h15) ?_
   refine d_exit ?_
   have e := som H; subst e
   have e := hq13 _ rfl; subst e
   exact ⟨_, rfl, wkE []⟩
  replace H := bnd H
  obtain ⟨v37, hv37, H⟩ := H
  refine d_rs rfl ?_
  refine go (m_cS [] (F_law08_awake_ok hv37) rfl ScS.nil) ?_
  refine go (m_set) ?_
  refine .nil ⟨by kernel_rfl, ?_⟩
  refine d_ret ?_
  change RetD _ _ _ _ _ _ _
  have e := som H; subst e
  exact finE [] (.tmp (.nil))
 replace H := iF h3 H
 refine d_condE rfl (congrArg not (eq_false_of_ne_true h3)) ?_
 replace H := bnd H
 obtain ⟨v38, hv38, H⟩ := H
 refine d_rs rfl ?_
 refine go (m_cS [] (F_law08_awake_ok hv38) rfl ScS.nil) ?_
 refine go (m_set) ?_
 refine .nil ⟨by kernel_rfl, ?_⟩
 refine d_ret ?_
 change RetD _ _ _ _ _ _ _
 have e := som H; subst e
 exact finE [] (.tmp (.nil))

noncomputable def F_law08_ObjectFields (p0 : Sp) (p1 : List Int) (p2 : Int) (p3 : Int) (p4 : Int) (p5 : Int) (p6 : Int) (p7 : Int) : Option Bool :=
 (F_make_Small p0).bind fun v2 =>
 if v2 = true then
 ((F_make_New p1).bind fun v4 =>
 (F_make_Space v4).bind fun v5 =>
 bndR ((F_make_Spoilt v5.1 p5 p6 p7).bind fun v8 =>
 loopO (fun (s10 : List Sp × Int) =>
 if s10.2 < ([v5.1, p0, v8].length : Int) then
 (bndR ((at_ s10.1 s10.2).bind fun v16 =>
 (F_law08_near v5.1 v5.2.1 p2).bind fun v17 =>
 (F_make_Mod p3 6).bind fun v18 =>
 (F_law08_near v5.1 v5.2.1 p2).bind fun v19 =>
 loopO (fun (s21 : Int) =>
 if s21 < ([[p2, p3], [v17, w64 (v18 - 1)], [v19, p3]].length : Int) then
 ((at_ [[p2, p3], [v17, w64 (v18 - 1)], [v19, p3]] s21).bind fun v26 =>
 (at_ v26 0).bind fun v27 =>
 (at_ v26 1).bind fun v28 =>
 (F_object_Ref v16 v27 v28).bind fun v29 =>
 (at_ v26 0).bind fun v30 =>
 (at_ v26 1).bind fun v31 =>
 (F_ref08_Ref v16 v30 v31).bind fun v32 =>
 (at_ v26 0).bind fun v33 =>
 (at_ v26 1).bind fun v34 =>
 (F_object_SetRef v16 v33 v34 p4).bind fun v35 =>
 (at_ v26 0).bind fun v36 =>
 (at_ v26 1).bind fun v37 =>
 (F_ref08_SetRef v16 v36 v37 p4).bind fun v38 =>
 if v29.1 = v32.1 then
 (if v29.2 = v32.2 then
 (if v35.2 = v38.2 then
 ((F_ref03_Same v35.1 v38.1).bind fun v43 =>
 if v43 = true then
 ((at_ v26 0).bind fun v45 =>
 (at_ v26 1).bind fun v46 =>
 (F_object_Data v16 v45 v46).bind fun v47 =>
 (at_ v26 0).bind fun v48 =>
 (at_ v26 1).bind fun v49 =>
 (F_ref08_Data v16 v48 v49).bind fun v50 =>
 (at_ v26 0).bind fun v51 =>
 (at_ v26 1).bind fun v52 =>
 (F_object_SetData v16 v51 v52 p4).bind fun v53 =>
 (at_ v26 0).bind fun v54 =>
 (at_ v26 1).bind fun v55 =>
 (F_ref08_SetData v16 v54 v55 p4).bind fun v56 =>
 if v47.1 = v50.1 then
 (if v47.2 = v50.2 then
 (if v53.2 = v56.2 then
 ((F_ref03_Same v53.1 v56.1).bind fun v60 =>
 if v60 = true then
 (some (.go (w64 (s21 + 1))))
 else
 some (.out (.inr (.out (.inr (false))))))
 else
 some (.out (.inr (.out (.inr (false))))))
 else
 some (.out (.inr (.out (.inr (false))))))
 else
 some (.out (.inr (.out (.inr (false))))))
 else
 some (.out (.inr (.out (.inr (false))))))
 else
 some (.out (.inr (.out (.inr (false))))))
 else
 some (.out (.inr (.out (.inr (false))))))
 else
 some (.out (.inr (.out (.inr (false))))))
 else
 some (.out (.inl (s10.1)))) 0) fun (b14 : List Sp) =>
 some (.go ((b14, w64 (s10.2 + 1)))))
 else
 some (.out (.inl (())))) ([v5.1, p0, v8], 0)) fun (b6 : Unit) =>
 (F_law08_awake).bind fun v62 =>
 some (v62))
 else
 (F_law08_awake).bind fun v63 =>
 some (v63)

end Go.Proofs.Ytbidedbpmhcoaaa
/- The reference's Free and Lift, as plain functions. No program. -/
namespace Go.Proofs.Ytbidedbpmhcoaaa
open Go.RowKit
set_option linter.unusedVariables false
set_option linter.unusedSimpArgs false

/-- whether a frame is free -/
def isFr (fs : List Fe) (k : Nat) : Bool := match fs[k]? with | some f => decide (f.ow = -1) | none => false
theorem isFr_at {fs : List Fe} {k : Nat} (h : k < fs.length) : isFr fs k = decide (fs[k].ow = -1) := by unfold isFr; rw [List.getElem?_eq_getElem h]
theorem isFr_lt {fs : List Fe} {k : Nat} (h : isFr fs k = true) : ∃ h' : k < fs.length, fs[k].ow = -1 := by
  rcases Nat.lt_or_ge k fs.length with h' | h'
  · rw [isFr_at h'] at h
    exact ⟨h', of_decide_eq_true h⟩
  · unfold isFr at h; rw [List.getElem?_eq_none h'] at h; cases h
/-- the free frames -/
def freeL (fs : List Fe) : List Nat := (List.range fs.length).filter (isFr fs)
def freeTo (fs : List Fe) (k : Nat) : List Int := ((List.range k).filter (isFr fs)).map fun (k : Nat) => (k : Int)
theorem freeTo_succ (fs : List Fe) (k : Nat) : freeTo fs (k + 1) = if isFr fs k = true then freeTo fs k ++ [(k : Int)] else freeTo fs k := by
  unfold freeTo
  rw [List.range_succ, List.filter_append, List.map_append]
  by_cases h : isFr fs k = true
  · rw [if_pos h]; simp [h]
  · rw [if_neg h]; simp [h]
theorem freeTo_len (fs : List Fe) (k : Nat) : (freeTo fs k).length ≤ k := by
  unfold freeTo
  rw [List.length_map]
  exact Nat.le_trans (List.length_filter_le _ _) (by simp)
theorem free_ok (s : Sp) (h : s.fs.length ≤ 65536) : F_ref04_Free s = some ((freeL s.fs).map fun (k : Nat) => (k : Int)) := by
  unfold F_ref04_Free
  refine bind_ok (a := freeTo s.fs s.fs.length) ?_ rfl
  refine loop_end (fun k => (freeTo s.fs k, (k : Int))) s.fs.length (fun j hj => ?_) ?_
  · dsimp only
    rw [if_pos (by omega), at_nat hj]
    simp only [Option.bind_some]
    have hl := freeTo_len s.fs j
    have e1 : w64 ((j : Int) + 1) = ((j + 1 : Nat) : Int) := w64_in (by omega)
    by_cases hf : s.fs[j].ow = -1
    · rw [if_pos hf, if_pos (by simp only [List.length_cons, List.length_nil]; omega), freeTo_succ, if_pos (by rw [isFr_at hj]; exact decide_eq_true hf), e1]
    · rw [if_neg hf, freeTo_succ, if_neg (by rw [isFr_at hj]; simpa using hf), e1]
  · dsimp only
    rw [if_neg (by omega)]
/-- the first free frame -/
def frF (fs : List Fe) : Option Nat := (freeL fs).head?
theorem filter_range {p : Nat → Bool} {n f : Nat} (hf : f < n) (hp : p f = true) (hm : ∀ k, k < f → p k = false) : ((List.range n).filter p).head? = some f := by
  obtain ⟨d, rfl⟩ : ∃ d, n = f + (d + 1) := ⟨n - f - 1, by omega⟩
  rw [List.range_add, List.filter_append]
  have h0 : (List.range f).filter p = [] := List.filter_eq_nil_iff.2 fun k hk => by rw [hm k (List.mem_range.1 hk)]; simp
  rw [h0, List.nil_append, List.range_succ_eq_map, List.map_cons, Nat.add_zero, List.filter_cons_of_pos hp]
  rfl
theorem frF_some {fs : List Fe} {f : Nat} (h : frF fs = some f) : ∃ h' : f < fs.length, fs[f].ow = -1 := by
  unfold frF freeL at h
  have := List.mem_filter.1 (List.mem_of_head? h)
  exact isFr_lt this.2
theorem frF_first {fs : List Fe} {f : Nat} (h : frF fs = some f) : ∀ k (hk : k < fs.length), k < f → ¬ fs[k].ow = -1 := fun k hk hkf e => by
  obtain ⟨g, hg, hm⟩ := least_nat (p := fun j => isFr fs j = true) k (by rw [isFr_at hk]; exact decide_eq_true e)
  have hgl := (isFr_lt hg).1
  have := filter_range (p := isFr fs) (n := fs.length) hgl hg fun j hj => by
    cases hx : isFr fs j with
    | false => rfl
    | true => have := hm j hx; omega
  have h2 : frF fs = some g := this
  rw [h2] at h
  injection h with h
  have := hm k (by rw [isFr_at hk]; exact decide_eq_true e)
  omega
theorem frF_of {fs : List Fe} (h : freeL fs ≠ []) : ∃ f, frF fs = some f := by
  unfold frF
  cases hx : freeL fs with
  | nil => exact absurd hx h
  | cons f l => exact ⟨f, rfl⟩
theorem lift_spec (s : Sp) (q b : Int) {f : Nat} (hf : frF s.fs = some f) (hl : s.fs.length ≤ 65536) (hq : 0 ≤ q ∧ q ≤ 4294967295) (hb : 0 ≤ b ∧ b < 4) : F_ref04_Lift s q b = some ((f : Int), s.fs.set f ⟨q, b * 4294967296 + q, -1⟩) := by
  obtain ⟨h1, h2⟩ := frF_some hf
  have h3 := frF_first hf
  unfold F_ref04_Lift
  refine bndR_eqR ?_
  refine loop_end (fun k => (k : Int)) f (fun j hj => ?_) ?_
  · rw [if_pos (by omega), at_nat (show j < s.fs.length by omega)]
    simp only [Option.bind_some]
    rw [if_neg (h3 j (by omega) hj), show w64 ((j : Int) + 1) = ((j + 1 : Nat) : Int) from w64_in (by omega)]
  · rw [if_pos (by omega), at_nat h1]
    simp only [Option.bind_some]
    rw [if_pos h2, w64_in (n := b * 4294967296) (by omega), w64_in (n := b * 4294967296 + q) (by omega), Int.toNat_natCast]
end Go.Proofs.Ytbidedbpmhcoaaa
/- Increments as lists of frames; an increment gets frames. No program. -/
namespace Go.Proofs.Ytbidedbpmhcoaaa
open Go.RowKit
set_option linter.unusedVariables false
set_option linter.unusedSimpArgs false

/-- the frames of an increment: who owns them, how they follow each other -/
structure IncC (fs : List Fe) (i : Inc) (fr : List Nat) : Prop where
  sq : 0 ≤ i.seq ∧ i.seq ≤ 4294967295
  bl : 0 ≤ i.belt ∧ i.belt < 4
  ch : Chn fs fr
  nd : fr.Nodup
  ow : ∀ k (h : k < fs.length), fs[k].ow = i.seq ↔ k ∈ fr
  st : ∀ k (h : k < fs.length), k ∈ fr → fs[k].st = i.belt * 4294967296 + i.seq
  first : i.first = match fr.head? with | none => -1 | some f => (f : Int)
  last : i.last = match fr.getLast? with | none => -1 | some f => (f : Int)
/-- one frame more -/
def lnk (fs : List Fe) (i : Inc) (f : Nat) : List Fe × Inc :=
  let fs1 := fs.set f ⟨i.seq, i.belt * 4294967296 + i.seq, -1⟩
  if i.first = -1 then (fs1, ⟨i.seq, i.belt, f, f, i.words⟩)
  else (match fs1[i.last.toNat]? with | some g => fs1.set i.last.toNat ⟨g.ow, g.st, f⟩ | none => fs1, ⟨i.seq, i.belt, i.first, f, i.words⟩)
theorem lnk_len (fs : List Fe) (i : Inc) (f : Nat) : (lnk fs i f).1.length = fs.length := by
  unfold lnk
  dsimp only
  split
  · simp
  · split <;> simp
theorem lnk_at {s : Sp} (hs : SpOk s) {i : Inc} {fr : List Nat} (hc : IncC s.fs i fr) {f : Nat} (hf : f < s.fs.length) (h0 : s.fs[f].ow = -1) :
    (∀ h : f < (lnk s.fs i f).1.length, (lnk s.fs i f).1[f] = ⟨i.seq, i.belt * 4294967296 + i.seq, -1⟩) ∧
    ∀ k (h : k < s.fs.length) (h' : k < (lnk s.fs i f).1.length), k ≠ f → (lnk s.fs i f).1[k].ow = s.fs[k].ow ∧ (lnk s.fs i f).1[k].st = s.fs[k].st ∧ (lnk s.fs i f).1[k].nx = if fr.getLast? = some k then (f : Int) else s.fs[k].nx := by
  have hfr : f ∉ fr := fun h => by have := (hc.ow f hf).2 h; have := hc.sq.1; omega
  cases hg : fr.getLast? with
  | none =>
    have hn : fr = [] := List.getLast?_eq_none_iff.1 hg
    have h1 : i.first = -1 := by rw [hc.first, hn]; rfl
    unfold lnk
    simp only [h1, if_true]
    refine ⟨fun h => by simp, fun k h h' hk => ?_⟩
    rw [List.getElem_set_ne (fun e => hk e.symm)]
    exact ⟨rfl, rfl, by simp⟩
  | some l =>
    have hlm : l ∈ fr := List.mem_of_getLast? hg
    have hll := hc.ch.lt l hlm
    have hlf : l ≠ f := fun e => hfr (e ▸ hlm)
    have hla : i.last = (l : Int) := by rw [hc.last, hg]
    have h1 : ¬ i.first = -1 := by
      rw [hc.first]
      cases hh : fr.head? with
      | none => rw [List.head?_eq_none_iff] at hh; rw [hh] at hg; cases hg
      | some x => dsimp only; omega
    have ht : i.last.toNat = l := by rw [hla]; rfl
    have hv : (lnk s.fs i f).1 = (s.fs.set f ⟨i.seq, i.belt * 4294967296 + i.seq, -1⟩).set l ⟨s.fs[l].ow, s.fs[l].st, f⟩ := by
      unfold lnk
      dsimp only
      rw [if_neg h1, ht]
      dsimp only
      rw [List.getElem?_set_ne (fun e => hlf e.symm), List.getElem?_eq_getElem hll]
    simp only [hv]
    refine ⟨fun h => by rw [List.getElem_set_ne hlf]; simp, fun k h h' hk => ?_⟩
    by_cases hkl : l = k
    · subst hkl
      simp
    · have : ¬ some l = some k := fun e => hkl (by injection e)
      rw [List.getElem_set_ne hkl, List.getElem_set_ne (fun e => hk e.symm), if_neg this]
      exact ⟨rfl, rfl, rfl⟩
theorem stp_of {i : Inc} (h1 : 0 ≤ i.seq ∧ i.seq ≤ 4294967295) (h2 : 0 ≤ i.belt ∧ i.belt < 4) : Stp i.seq (i.belt * 4294967296 + i.seq) := ⟨h1.1, h1.2, i.belt, h2.1, h2.2, by omega⟩
theorem lnk_ok {s : Sp} (hs : SpOk s) {i : Inc} {fr : List Nat} (hc : IncC s.fs i fr) {f : Nat} (hf : f < s.fs.length) (h0 : s.fs[f].ow = -1) :
    SpOk ⟨s.sh, s.ws, (lnk s.fs i f).1⟩ ∧ IncC (lnk s.fs i f).1 (lnk s.fs i f).2 (fr ++ [f]) := by
  obtain ⟨p1, p2⟩ := lnk_at hs hc hf h0
  have hlen := lnk_len s.fs i f
  have hfr : f ∉ fr := fun h => by have := (hc.ow f hf).2 h; have := hc.sq.1; omega
  have hq := hc.sq.1
  have e2 : (lnk s.fs i f).2.seq = i.seq ∧ (lnk s.fs i f).2.belt = i.belt ∧ (lnk s.fs i f).2.last = f ∧ (lnk s.fs i f).2.first = if i.first = -1 then (f : Int) else i.first := by
    unfold lnk
    dsimp only
    split <;> exact ⟨rfl, rfl, rfl, rfl⟩
  obtain ⟨e3, e4, e5, e6⟩ := e2
  refine ⟨sp_link hs hf h0 (stp_of hc.sq hc.bl) fr.getLast? (fun l hl => ?_) hlen p1 p2, ?_⟩
  · obtain ⟨g1, g2⟩ := hc.ch.last l hl
    have hm := List.mem_of_getLast? hl
    exact ⟨g1, g2, (hc.ow l g1).2 hm, hc.st l g1 hm⟩
  · refine ⟨by rw [e3]; exact hc.sq, by rw [e4]; exact hc.bl, ?_, ?_, fun k hk => ?_, fun k hk hkm => ?_, ?_, ?_⟩
    · exact hc.ch.snoc hlen hf (fun h => by rw [p1 h]) hc.nd hfr fun k hk a b => (p2 k a b (fun e => hfr (e ▸ hk))).2.2
    · rw [List.nodup_append]
      exact ⟨hc.nd, by simp, fun a ha b hb => by rw [List.mem_singleton] at hb; subst hb; exact fun e => hfr (e ▸ ha)⟩
    · rw [e3, List.mem_append, List.mem_singleton]
      by_cases hkf : k = f
      · subst hkf
        rw [p1 hk]
        simp
      · rw [(p2 k (by omega) hk hkf).1, hc.ow k (by omega)]
        simp [hkf]
    · rw [e3, e4]
      by_cases hkf : k = f
      · subst hkf
        rw [p1 hk]
      · rw [(p2 k (by omega) hk hkf).2.1]
        refine hc.st k (by omega) ?_
        rcases List.mem_append.1 hkm with h | h
        · exact h
        · rw [List.mem_singleton] at h; exact absurd h hkf
    · rw [e6]
      cases fr with
      | nil =>
        have h1 : i.first = -1 := hc.first
        rw [if_pos h1]
        rfl
      | cons g l =>
        have h1 : i.first = (g : Int) := hc.first
        rw [if_neg (by omega), h1]
        rfl
    · rw [e5, List.getLast?_append]
      simp
/-- other frames stay as they are -/
theorem lnk_other {s : Sp} (hs : SpOk s) {i : Inc} {fr : List Nat} (hc : IncC s.fs i fr) {f : Nat} (hf : f < s.fs.length) (h0 : s.fs[f].ow = -1) {k : Nat} (hk : k < s.fs.length) (h' : k < (lnk s.fs i f).1.length) (hkf : k ≠ f) (hkr : k ∉ fr) : (lnk s.fs i f).1[k] = s.fs[k] := by
  obtain ⟨a, b, c⟩ := (lnk_at hs hc hf h0).2 k hk h' hkf
  rw [if_neg (fun e => hkr (List.mem_of_getLast? e))] at c
  generalize (lnk s.fs i f).1[k] = x at *
  generalize s.fs[k] = y at *
  cases x
  cases y
  simp only at a b c
  subst a; subst b; subst c
  rfl
theorem lnk_free {s : Sp} (hs : SpOk s) {i : Inc} {fr : List Nat} (hc : IncC s.fs i fr) {f : Nat} (hf : frF s.fs = some f) : freeL (lnk s.fs i f).1 = (freeL s.fs).tail := by
  obtain ⟨hfl, h0⟩ := frF_some hf
  obtain ⟨p1, p2⟩ := lnk_at hs hc hfl h0
  have hlen := lnk_len s.fs i f
  have hq := hc.sq.1
  have e1 : ∀ k ∈ List.range s.fs.length, isFr (lnk s.fs i f).1 k = (isFr s.fs k && !decide (k = f)) := fun k hk => by
    have hk := List.mem_range.1 hk
    rw [isFr_at (by omega), isFr_at hk]
    by_cases hkf : k = f
    · subst hkf
      rw [p1 (by omega)]
      have : ¬ i.seq = -1 := by omega
      simp [this]
    · rw [(p2 k hk (by omega) hkf).1]
      simp [hkf]
  have e2 : freeL (lnk s.fs i f).1 = (freeL s.fs).filter fun k => !decide (k = f) := by
    unfold freeL
    rw [hlen, List.filter_filter]
    refine List.filter_congr fun k hk => ?_
    rw [e1 k hk, Bool.and_comm]
  have hnd : (freeL s.fs).Nodup := List.Pairwise.filter _ List.nodup_range
  unfold frF at hf
  cases hx : freeL s.fs with
  | nil => rw [hx] at hf; cases hf
  | cons g l =>
    rw [hx] at hf hnd
    injection hf with hf
    subst hf
    rw [e2, hx, List.tail_cons, List.filter_cons_of_neg (by simp)]
    refine List.filter_eq_self.2 fun k hk => ?_
    have := (List.nodup_cons.1 hnd).1
    have hne : k ≠ g := fun e => this (e ▸ hk)
    simp [hne]
/-- n frames more -/
def growN : Nat → List Fe → Inc → List Fe × Inc
  | 0, fs, i => (fs, i)
  | n + 1, fs, i => match frF fs with
    | none => (fs, i)
    | some f => growN n (lnk fs i f).1 (lnk fs i f).2
/-- what a loop of Grow leaves -/
structure GrowOk (s : Sp) (i : Inc) (fr : List Nat) (n : Nat) (fs' : List Fe) (i' : Inc) : Prop where
  sp : SpOk ⟨s.sh, s.ws, fs'⟩
  len : fs'.length = s.fs.length
  inc : IncC fs' i' (fr ++ (freeL s.fs).take n)
  free : freeL fs' = (freeL s.fs).drop n
  words : i'.words = i.words ∧ i'.seq = i.seq ∧ i'.belt = i.belt
  other : ∀ k (h : k < s.fs.length) (h' : k < fs'.length), k ∉ fr → k ∉ (freeL s.fs).take n → fs'[k] = s.fs[k]
theorem growN_ok : ∀ (n : Nat) {s : Sp} {i : Inc} {fr : List Nat}, SpOk s → IncC s.fs i fr → n ≤ (freeL s.fs).length → GrowOk s i fr n (growN n s.fs i).1 (growN n s.fs i).2
  | 0, s, i, fr, hs, hc, _ => ⟨hs, rfl, by simpa [growN] using hc, by simp [growN], ⟨rfl, rfl, rfl⟩, fun _ _ _ _ _ => rfl⟩
  | n + 1, s, i, fr, hs, hc, hn => by
    obtain ⟨f, hf⟩ := frF_of (fs := s.fs) (fun e => by rw [e] at hn; simp at hn)
    obtain ⟨hfl, h0⟩ := frF_some hf
    obtain ⟨k1, k2⟩ := lnk_ok hs hc hfl h0
    have kf := lnk_free hs hc hf
    have hx : freeL s.fs = f :: (freeL s.fs).tail := by
      unfold frF at hf
      cases hx : freeL s.fs with
      | nil => rw [hx] at hf; cases hf
      | cons g l => rw [hx] at hf; injection hf with hf; subst hf; rfl
    have hw : (lnk s.fs i f).2.words = i.words ∧ (lnk s.fs i f).2.seq = i.seq ∧ (lnk s.fs i f).2.belt = i.belt := by
      unfold lnk
      dsimp only
      split <;> exact ⟨rfl, rfl, rfl⟩
    have g := growN_ok n (s := ⟨s.sh, s.ws, (lnk s.fs i f).1⟩) k1 k2 (by show n ≤ (freeL (lnk s.fs i f).1).length; rw [kf, List.length_tail]; omega)
    have e : growN (n + 1) s.fs i = growN n (lnk s.fs i f).1 (lnk s.fs i f).2 := by
      show (match frF s.fs with | none => (s.fs, i) | some f => growN n (lnk s.fs i f).1 (lnk s.fs i f).2) = _
      rw [hf]
    rw [e]
    have ht : (freeL s.fs).take (n + 1) = f :: (freeL s.fs).tail.take n := by rw [hx]; rfl
    refine ⟨g.sp, g.len.trans (lnk_len _ _ _), ?_, ?_, ⟨g.words.1.trans hw.1, g.words.2.1.trans hw.2.1, g.words.2.2.trans hw.2.2⟩, fun k h h' hk hk2 => ?_⟩
    · have := g.inc
      dsimp only at this
      rw [kf, List.append_assoc] at this
      rw [ht]
      exact this
    · have := g.free
      dsimp only at this
      rw [this, kf, hx]
      rfl
    · rw [ht, List.mem_cons, not_or] at hk2
      have hl : k < (lnk s.fs i f).1.length := by rw [lnk_len]; exact h
      rw [← lnk_other hs hc hfl h0 h hl hk2.1 hk]
      refine g.other k hl h' ?_ ?_
      · rw [List.mem_append, List.mem_singleton, not_or]
        exact ⟨hk, hk2.1⟩
      · dsimp only
        rw [kf]
        exact hk2.2
end Go.Proofs.Ytbidedbpmhcoaaa
