/- Parts of the proof. No condition. -/
import Derived.Test.YthpnlnjdmlbnaaaGreatDoorQB0
import Derived.Test.YthpnlnjdmlbnaaaGreatDoorQB1
import Derived.Test.YthpnlnjdmlbnaaaGreatDoorQB2
import Derived.Test.YthpnlnjdmlbnaaaGreatDoorQB3
import Derived.Test.YthpnlnjdmlbnaaaGreatDoorQB4
import Derived.Test.YthpnlnjdmlbnaaaGreatDoorQB5
import Derived.Test.YthpnlnjdmlbnaaaGreatDoorQB6
import Derived.Test.YthpnlnjdmlbnaaaGreatDoorQB7
import Derived.Test.YthpnlnjdmlbnaaaGreatDoorQB8
import Derived.Test.YthpnlnjdmlbnaaaGreatDoorQB9
import Derived.Test.YthpnlnjdmlbnaaaGreatDoorQB10
import Derived.Test.YthpnlnjdmlbnaaaGreatDoorQB11
import Derived.Test.YthpnlnjdmlbnaaaGreatDoorQB12
import Derived.Test.YthpnlnjdmlbnaaaGreatDoorRows
import Derived.Laws.RangeAny
import Derived.Deep.QuietTactic
import Derived.BigQuiet
import Derived.Laws.Externs
import Derived.KernelRfl
import Derived.Laws.StructEq
import Derived.Laws.CopyRow
import Derived.Laws.AppendOwn
import Derived.Laws.OwnMore
import Derived.Laws.MakeOwn
import Derived.Great.BuildSlice
import Derived.WalkKit
import Derived.WalkSpells
import Derived.WalkLawsBesides
import Derived.Lib.Hide
import Derived.Orders
import Derived.RegionTactic
import Derived.Deep.RegionHeld
import Derived.IntWalk
namespace Go.Proofs.YthpnlnjdmlbnaaaGreatDoor
open Go.RowKit
set_option linter.unusedSimpArgs false
set_option linter.unusedVariables false
theorem DCall.below {P:Program} {f:FuncId} {fn:Func} {cd:Code} (hf:P.funcs[f]?=some fn) (hname:(fn.name == "runtime.NumGoroutine")=false) (hb:fn.body=some cd) {u r:Value} (h1:r.oneCell'=true)
  (h:∀ w,Calls P f #[u] w λe w'=>e = .returned r/\Below w.heap.size w w'):DCall P f [.lit u] [] (.lit r) []:=by
 refine ⟨λargs w=>by
  have hn:¬ fn.name= "runtime.NumGoroutine":=by simpa using hname
  simp [callFunc,hf,hn,hb],λw M σ vs hI hS hσ hR=>?_⟩
 match vs,hR with
 | [a0],hR =>
 have r0:Rep ⟨w,M,σ⟩ a0 (.lit u):=hR.2 0 a0 _ rfl rfl
 have e0:=r0.lit_inv
 subst e0
 have hn:∀ s,σ s=none:=λs=>hσ s (W9 _)
 refine Calls.mono (h w) λe w' ⟨he,hB⟩=>⟨r,σ,he,⟨hB.os,hB.tape,hB.output,hB.size,λk hk _=>hB.block k hk,λs s' e e' g h=>absurd h (by show ¬ σ s=_;rw [hn];simp),λs e g h=>absurd h (by show ¬ σ s=_;rw [hn];simp),λk hk=>hI.lt k hk,λs e g c h=>absurd h (by show ¬ σ s=_;rw [hn];simp),hI.tab⟩,λs x hx=>absurd hx (by rw [hn];simp),.pure (.lit _ h1),λs ob hob=>(by cases hob),λs _=>hn s⟩
def okCh(c:Nat):Bool:=(decide (97<=c) && decide (c<=122)) || (decide (48<=c) && decide (c<=57)) || decide (c=45)
def QfD(s:ByteArray):Prop:=1<=s.size/\s.size<=16/\(∀ h:0 < s.size,97<=(s[0]'h).toNat/\(s[0]'h).toNat<=122)/\∀ i (h:i < s.size),okCh (s[i]'h).toNat=true
theorem okCh_lt{c:Nat}(h:okCh c=true):c < 128:=by
 simp [okCh] at h
 omega
theorem decode_big(s:ByteArray)(pos:Nat)(h:pos < s.size)(hb:¬ (s[pos]'h).toNat < 128):okCh (Utf8.decode s pos).1=false:=by
 have hg:(s.get! (pos+0)).toNat=(s[pos]'h).toNat:=by
  have e:s.get! (pos+0)=s[pos]'h:=by
   show s.get! pos=_
   simp [ByteArray.get!,getElem!_pos,h]
   rfl
  rw [e]
 have key:128<=(Utf8.decode s pos).1:=by
  simp only [Utf8.decode,hg]
  repeat' split
  all_goals simp_all [Utf8.runeError]
  all_goals omega
 cases hk:okCh (Utf8.decode s pos).1 with
 | false=>rfl
 | true=>have:=okCh_lt hk;omega
set_option maxRecDepth 100000 in
set_option maxHeartbeats 2000000 in
theorem named_any (s:ByteArray) (w:World) (hs:s.size<=9223372036854775807):Calls Tryz.prog 201 #[.string s] w λe w'=>(∃ b:Bool,e = .returned (.bool b)/\(b=true<->QfD s))/\Below w.heap.size w w':=by
 by_cases h1:s.size < 1
 ·have hd:decide ((s.size:Int) < 1)=true:=by simp;omega
  go_enter Tryz.func201,Tryz.ntmps201
  go_wp2
  go_ret
  exact ⟨⟨_,rfl,by simp [QfD];intro h;omega⟩,Below.refl _ _⟩
 have hd:decide ((s.size:Int) < 1)=false:=by simp;omega
 by_cases h2:16 < s.size
 ·have hd2:decide ((16:Int) < s.size)=true:=by simp;omega
  go_enter Tryz.func201,Tryz.ntmps201
  go_wp2
  go_ret
  exact ⟨⟨_,rfl,by simp [QfD];intro h;omega⟩,Below.refl _ _⟩
 have hd2:decide ((16:Int) < s.size)=false:=by simp;omega
 have hp:0 < s.size:=by omega
 by_cases h3:(s[0]'hp).toNat < 97
 ·have hd3:decide ((((s[0]'hp).toNat:Nat):Int) < 97)=true:=by simp;omega
  go_enter Tryz.func201,Tryz.ntmps201
  go_wp2
  go_ret
  exact ⟨⟨_,rfl,by simp [QfD];intro _ _ h;have:=h hp;omega⟩,Below.refl _ _⟩
 have hd3:decide ((((s[0]'hp).toNat:Nat):Int) < 97)=false:=by simp;omega
 by_cases h4:122 < (s[0]'hp).toNat
 ·have hd4:decide ((122:Int) < (((s[0]'hp).toNat:Nat):Int))=true:=by simp;omega
  go_enter Tryz.func201,Tryz.ntmps201
  go_wp2
  go_ret
  exact ⟨⟨_,rfl,by simp [QfD];intro _ _ h;have:=h hp;omega⟩,Below.refl _ _⟩
 have hd4:decide ((122:Int) < (((s[0]'hp).toNat:Nat):Int))=false:=by simp;omega
 go_enter Tryz.func201,Tryz.ntmps201
 go_wp2_with fail
 go_loopw [4] (λ_ wr=>∃ pos,wr=w.iter s pos/\∀ i (h:i < s.size),i < pos->okCh (s[i]'h).toNat=true) (λ_ wr=>s.size - wr.iterPos w.heap.size)
 case atStart=>exact ⟨0,rfl,λi _ h=>absurd h (Vo _)⟩
 case round =>
  obtain ⟨pos,rfl,hpos⟩:=hrel
  have HP:=Lib.hid hpos
  clear hpos
  by_cases hlt:pos < s.size
  ·have hnx:=λty=>run_next_any (P:=Tryz.prog) w s pos ty hlt
   by_cases hbig:(s[pos]'hlt).toNat < 128
   ·rw [decode_ascii s pos hlt hbig] at hnx
    by_cases hk:okCh (s[pos]'hlt).toNat=true
    ·have hpos2:∀ i (h:i < s.size),i < pos+1->okCh (s[i]'h).toNat=true:=λi h h'=>by
      by_cases e:i=pos
      ·subst e;exact hk
      ·exact HP.out i h Oo
     have HP2:=Lib.hid hpos2
     clear hpos2
     have h128:(s[pos]'hlt).toNat < 128:=hbig
     clear hbig
     generalize (s[pos]'hlt).toNat=c at *
     simp [okCh] at hk
     go_wp2
     all_goals first | (exfalso;omega) | (exfalso;simp_all;omega) | skip
     all_goals go_roundw
     all_goals first | exact ⟨pos+1,rfl,HP2.out⟩ | (simp;omega)
    ·have hn:¬ QfD s:=λh=>hk (h.2.2.2 pos hlt)
     have HN:=Lib.hid hn
     clear hn
     generalize (s[pos]'hlt).toNat=c at *
     simp [okCh] at hk
     go_wp2
     all_goals first | (exfalso;omega) | (exfalso;simp_all;omega) | skip
     all_goals go_ret
     all_goals first | exact ⟨⟨false,rfl,by simp;exact HN.out⟩,(Below.refl _ _).alloc (Wo _) _⟩ | exact ⟨.inl ⟨rfl,HN.out⟩,(Below.refl _ _).alloc (Wo _) _⟩
   ·have hk:=decode_big s pos hlt hbig
    generalize (Utf8.decode s pos).1=c at *
    generalize (Utf8.decode s pos).2=m at *
    have hn:¬ QfD s:=λh=>hbig (okCh_lt (h.2.2.2 pos hlt))
    have HN:=Lib.hid hn
    clear hn
    simp [okCh] at hk
    go_wp2
    all_goals first | (exfalso;omega) | (exfalso;simp_all;omega) | skip
    all_goals go_ret
    all_goals first | exact ⟨⟨false,rfl,by simp;exact HN.out⟩,(Below.refl _ _).alloc (Wo _) _⟩ | exact ⟨.inl ⟨rfl,HN.out⟩,(Below.refl _ _).alloc (Wo _) _⟩
  ·have hnx:=λty=>run_next_end (P:=Tryz.prog) w s pos ty hlt
   go_wp2
   go_ret
   exact ⟨⟨true,rfl,by simp;exact ⟨Oo,Oo,λ_=>⟨Oo,Oo⟩,λi h=>HP.out i h Oo⟩⟩,(Below.refl _ _).alloc (Wo _) _⟩
noncomputable def Qfl(s:ByteArray):Option Bool:=if s.size<=9223372036854775807 then some (bP (QfD s)) else none
theorem QfH{p0:ByteArray}{r:Bool}(H:Sm (Qfl p0) r):DCall Tryz.prog 201 [.lit (.string p0)] [] (DB r) []:=by
 obtain ⟨hs,H⟩:=cq H
 have e:=se H
 subst e
 refine DCall.below Tryz.func201 rfl rfl rfl λw=>(named_any p0 w hs).mono λe w' ⟨⟨b,he,hb⟩,hB⟩=>⟨?_,hB⟩
 rw [he]
 congr 2
 cases b with
 | true=>exact (Qc3 (hb.1 rfl)).symm
 | false=>exact (bP_f λhp=>by cases hb.2 hp).symm
end Go.Proofs.YthpnlnjdmlbnaaaGreatDoor
