/- Parts of the proof. No condition. -/
import Derived.Test.YthpnlnjdmlbnaaaGreatDoorQB0
import Derived.Test.YthpnlnjdmlbnaaaGreatDoorQB3
import Derived.Test.YthpnlnjdmlbnaaaGreatDoorQB4
import Derived.Test.YthpnlnjdmlbnaaaGreatDoorQB5
import Derived.Test.YthpnlnjdmlbnaaaGreatDoorQB6
import Derived.Test.YthpnlnjdmlbnaaaGreatDoorQB7
import Derived.Test.YthpnlnjdmlbnaaaGreatDoorQB8
import Derived.Test.YthpnlnjdmlbnaaaGreatDoorQB9
namespace Go.Proofs.YthpnlnjdmlbnaaaGreatDoor
open Go.RowKit
set_option linter.unusedSimpArgs false
set_option linter.unusedVariables false
set_option maxRecDepth 20000
set_option maxHeartbeats 40000000
noncomputable def Xo(p0:List Int):Option Bool :=
 (QbP p0).bind λv1 =>
 (J2 v1).bind λv2 =>
 if 0<=(v2.1.space.fs.length:Int)/\(v2.1.space.fs.length:Int) * 8<=281474976710656/\(v2.1.space.fs.length:Int)<=9223372036854775807 then
 if 0<=(33:Int)/\(33:Int) * 8<=281474976710656/\(33:Int)<=9223372036854775807 then
 bndR ((XB v2.1.belts).bind λv7 =>
 Qi (λ(s9:List Int×List Int×Int) =>
 if s9.2.2 < (v7.length:Int) then
 (bndR ((at_ v7 s9.2.2).bind λv15 =>
 bndR ((Xh v2.1.space [v15]).bind λv18 =>
 Qi (λ(s20:List Int×Int) =>
 if s20.2 < (v18.length:Int) then
 ((at_ v18 s20.2).bind λv25 =>
 if v25 < 0 then
 (some (.out (.inr (.inr (.out (.inr (false)))))))
 else
 if (s20.1.length:Int)<=v25 then
 (some (.out (.inr (.inr (.out (.inr (false)))))))
 else
 (at_ s20.1 v25).bind λv29 =>
 some (.go ((s20.1.set (Int.toNat v25) (w64 (v29+1)),w64 (s20.2+1)))))
 else
 some (.out (.inl (s20.1)))) (s9.1,0)) λ(b16:List Int) =>
 (Xq v2.1.space v2.1.roots [v15]).bind λv30 =>
 Qi (λ(s32:List Int×Int) =>
 if s32.2 < (v30.length:Int) then
 ((at_ v30 s32.2).bind λv37 =>
 if v37 < 1 then
 (some (.out (.inr (.out (.inr (false))))))
 else
 if 32 < v37 then
 (some (.out (.inr (.out (.inr (false))))))
 else
 (at_ s32.1 v37).bind λv41 =>
 some (.go ((s32.1.set (Int.toNat v37) (w64 (v41+1)),w64 (s32.2+1)))))
 else
 some (.out (.inl ((b16,s32.1))))) (s9.2.1,0)) λ(b13:List Int×List Int) =>
 some (.go ((b13.1,b13.2,w64 (s9.2.2+1)))))
 else
 some (.out (.inl ((s9.1,s9.2.1))))) (List.replicate (Int.toNat (v2.1.space.fs.length:Int)) (0:Int),List.replicate (Int.toNat 33) (0:Int),0)) λ(b5:List Int×List Int) =>
 bndR (Qi (λ(s45:Int) =>
 if s45 < (v2.1.space.fs.length:Int) then
 ((at_ v2.1.space.fs s45).bind λv50 =>
 if v50.ow=(-1) then
 ((at_ b5.1 s45).bind λv52 =>
 if v52=0 then
 (some (.go (w64 (s45+1))))
 else
 some (.out (.inr (false))))
 else
 (at_ b5.1 s45).bind λv54 =>
 if v54=1 then
 (some (.go (w64 (s45+1))))
 else
 some (.out (.inr (false))))
 else
 some (.out (.inl (())))) 0) λ(b42:Unit) =>
 bndR (Qi (λ(s59:Int) =>
 if s59 < (v2.1.roots.used.length:Int) then
 ((at_ v2.1.roots.used s59).bind λv64 =>
 if v64=true then
 ((at_ b5.2 (w64 (s59+1))).bind λv66 =>
 if v66=1 then
 (some (.go (w64 (s59+1))))
 else
 some (.out (.inr (false))))
 else
 (at_ b5.2 (w64 (s59+1))).bind λv68 =>
 if v68=0 then
 (some (.go (w64 (s59+1))))
 else
 some (.out (.inr (false))))
 else
 some (.out (.inl (())))) 0) λ(b56:Unit) =>
 (Jc).bind λv70 =>
 some (v70)
 else none
 else none
theorem QbS{p0 r}:Sm (Xo p0) r->DCall Tryz.prog 3 [.sl (p0.map iC)] [] (DB r) []:=by
 unfold Xo
 refine mk0 Tryz.func3 ?_
 refine ar ?_
 refine xd λv1 hv1=>?_
 refine xd λv2 hv2=>?_
 have q0:=cG r0 (F_make_New_ok hv1)
 have q1:=cG r1 (F_make_Heap_ok hv2)
 refine ar ?_
 refine xc λh3=>?_
 refine ar ?_
 refine goA (Qeh (c:=iC) 0 h3 i22.ok i3.ok) ?_
 refine au ?_
 refine xc λh4=>?_
 refine ar ?_
 refine goA (Qeh (c:=iC) 0 h4 i22.ok i3.ok) ?_
 refine au ?_
 refine cU [] [(3,λb5=>.ptr 1 0 0),(5,λb5=>.own 3 0 b5.1.length),(6,λb5=>.own 4 0 b5.2.length)] [1] [] [(3,λb5=>aO 1 (b5.1.map iC)),(4,λb5=>aO 1 (b5.2.map iC))] 5 (λz6 hr6=>?_) λb5=>?_
 refine xd λv7 hv7=>?_
 replace q0:=cS r0 (QbX hv7)
 refine ar ?_
 refine lP [32] [(3,λs9=>.ptr 1 0 0),(5,λs9=>.own 3 0 s9.1.length),(6,λs9=>.own 4 0 s9.2.1.length),(31,λs9=>.own 5 0 v7.length),(33,λs9=>DI s9.2.2)] [1,5] [] [(3,λs9=>aO 1 (s9.1.map iC)),(4,λs9=>aO 1 (s9.2.1.map iC))] 6 λs9 y10 hq10=>?_
 refine ar ?_
 refine sq λK k=>?_
 refine xs (λh12=>?_) λh12=>?_
 refine ca ?_
 refine cU [3,31,32,33] [(5,λb13=>.own 3 0 b13.1.length),(6,λb13=>.own 4 0 b13.2.length)] [1,5] [] [(3,λb13=>aO 1 (b13.1.map iC)),(4,λb13=>aO 1 (b13.2.map iC))] 6 (λz14 hr14=>?_) λb13=>?_
 refine au ?_
 refine xa λv15 hv15=>?_
 refine ar ?_
 refine cU [3,6,31,32,33] [(5,λb16=>.own 3 0 b16.length),(8,λb16=>.ptr 6 0 0)] [1,4,5,6] [] [(3,λb16=>aO 1 (b16.map iC))] 7 (λz17 hr17=>?_) λb16=>?_
 refine xd λv18 hv18=>?_
 replace q0:=cS r0 (Qa0 hv18)
 refine ar ?_
 refine goA (Qk (c:=Inc.c) ([v15]:List Inc) i46.ok i49.ok) ?_
 refine au ?_
 refine lP [3,6,31,32,33,42] [(5,λs20=>.own 3 0 s20.1.length),(8,λs20=>.ptr 6 0 0),(41,λs20=>.own 8 0 v18.length),(43,λs20=>DI s20.2)] [1,4,5,6,8] [] [(3,λs20=>aO 1 (s20.1.map iC))] 9 λs20 y21 hq21=>?_
 refine ar ?_
 refine sq λK k=>?_
 refine xs (λh23=>?_) λh23=>?_
 refine ca ?_
 refine sq λK k=>?_
 refine au ?_
 refine xa λv25 hv25=>?_
 refine ar ?_
 refine sq λK k=>?_
 refine xs (λh27=>?_) λh27=>?_
 refine ar ?_
 refine da ?_
 refine xo hq21 ?_
 refine xr hr17 ?_
 refine xr hr14 ?_
 refine xo hq10 ?_
 refine xr hr6 ?_
 exact ft r0
 refine ar ?_
 refine xs (λh28=>?_) λh28=>?_
 refine da ?_
 refine xo hq21 ?_
 refine xr hr17 ?_
 refine xr hr14 ?_
 refine xo hq10 ?_
 refine xr hr6 ?_
 exact ft r0
 refine cb ?_
 refine xa λv29 hv29=>?_
 refine ar ?_
 refine goA (Z2 (c:=iC) hv29.h (w64 (v29+1)) i3.ok) ?_
 refine au ?_
 refine ar ?_
 exact wJ []
 refine cb ?_
 refine xo hq21 ?_
 exact wJ []
 refine xd λv30 hv30=>?_
 replace q0:=cS r0 (Qc6 hv30)
 refine ar ?_
 refine goA (Qk (c:=Inc.c) ([v15]:List Inc) i46.ok i49.ok) ?_
 refine au ?_
 refine lP [3,5,31,32,33,69] [(6,λs32=>.own 4 0 s32.1.length),(68,λs32=>.own 8 0 v30.length),(70,λs32=>DI s32.2)] [1,3,5,8] [] [(4,λs32=>aO 1 (s32.1.map iC))] 9 λs32 y33 hq33=>?_
 refine ar ?_
 refine sq λK k=>?_
 refine xs (λh35=>?_) λh35=>?_
 refine ca ?_
 refine sq λK k=>?_
 refine au ?_
 refine xa λv37 hv37=>?_
 refine ar ?_
 refine sq λK k=>?_
 refine xs (λh39=>?_) λh39=>?_
 refine ar ?_
 refine da ?_
 refine xo hq33 ?_
 refine xr hr14 ?_
 refine xo hq10 ?_
 refine xr hr6 ?_
 exact ft r0
 refine ar ?_
 refine xs (λh40=>?_) λh40=>?_
 refine da ?_
 refine xo hq33 ?_
 refine xr hr14 ?_
 refine xo hq10 ?_
 refine xr hr6 ?_
 exact ft r0
 refine cb ?_
 refine xa λv41 hv41=>?_
 refine ar ?_
 refine goA (Z2 (c:=iC) hv41.h (w64 (v41+1)) i3.ok) ?_
 refine au ?_
 refine ar ?_
 exact wJ []
 refine cb ?_
 refine xo hq33 ?_
 exact wJ []
 refine ar ?_
 exact wJ []
 refine cb ?_
 refine xo hq10 ?_
 exact wJ []
 refine cU [3,6] [] [1,4] [] [] 5 (λz43 hr43=>?_) λb42=>?_
 refine ar ?_
 refine lP [3,5,6,90,91] [(92,λs45=>DI s45)] [1,3,4] [] [] 5 λs45 y46 hq46=>?_
 refine ar ?_
 refine sq λK k=>?_
 refine xs (λh48=>?_) λh48=>?_
 refine ca ?_
 refine sq λK k=>?_
 refine au ?_
 refine xa λv50 hv50=>?_
 refine ar ?_
 refine xs (λh51=>?_) λh51=>?_
 refine xa λv52 hv52=>?_
 refine xs (λh53=>?_) λh53=>?_
 refine ar ?_
 refine db ?_
 exact wJ []
 refine ar ?_
 refine da ?_
 refine xo hq46 ?_
 refine xr hr43 ?_
 exact ft r0
 refine xa λv54 hv54=>?_
 refine ar ?_
 refine xs (λh55=>?_) λh55=>?_
 refine db ?_
 exact wJ []
 refine da ?_
 refine xo hq46 ?_
 refine xr hr43 ?_
 exact ft r0
 refine cb ?_
 refine xo hq46 ?_
 exact wJ []
 refine cU [] [] [] [] [] 0 (λz57 hr57=>?_) λb56=>?_
 refine ar ?_
 refine lP [6,122,123] [(124,λs59=>DI s59)] [4] [] [] 5 λs59 y60 hq60=>?_
 refine ar ?_
 refine sq λK k=>?_
 refine xs (λh62=>?_) λh62=>?_
 refine ca ?_
 refine sq λK k=>?_
 refine au ?_
 refine xa λv64 hv64=>?_
 refine ar ?_
 refine xs (λh65=>?_) λh65=>?_
 refine xa λv66 hv66=>?_
 refine xs (λh67=>?_) λh67=>?_
 refine ar ?_
 refine db ?_
 exact wJ []
 refine ar ?_
 refine da ?_
 refine xo hq60 ?_
 refine xr hr57 ?_
 exact ft r0
 refine xa λv68 hv68=>?_
 refine ar ?_
 refine xs (λh69=>?_) λh69=>?_
 refine db ?_
 exact wJ []
 refine da ?_
 refine xo hq60 ?_
 refine xr hr57 ?_
 exact ft r0
 refine cb ?_
 refine xo hq60 ?_
 exact wJ []
 refine xd λv70 hv70=>?_
 replace q0:=cS r0 (QdC hv70)
 refine ar ?_
 exact ft r0
noncomputable def JO(p0:Sp)(p1:List Qe)(p2:List Inc)(p3:List Int)(p4:List Mov):Option (List Qe) :=
 (Zp p0 p2).bind λv1 =>
 (XL p1 v1).bind λv2 =>
 (Qi (λ(s6:List Qe×Int) =>
 if s6.2 < (p3.length:Int) then
 ((at_ p3 s6.2).bind λv11 =>
 (at_ p0.ws v11).bind λv12 =>
 (Q3 p0 s6.1 v11 v12).bind λv13 =>
 some (.go ((v13,w64 (s6.2+1)))))
 else
 some (.out (s6.1))) (v2,0)).bind λ(b3:List Qe) =>
 (Qi (λ(s17:List Qe×Int) =>
 if s17.2 < (p4.length:Int) then
 (((at_ p4 s17.2).bind λv23 =>
 (Q5 p0 v23.to).bind λv24 =>
 Qi (λ(s26:List Qe×Int) =>
 if s26.2 < (v24.1.length:Int) then
 ((at_ v24.1 s26.2).bind λv31 =>
 (at_ p0.ws v31).bind λv32 =>
 (Q3 p0 s26.1 v31 v32).bind λv33 =>
 some (.go ((v33,w64 (s26.2+1)))))
 else
 some (.out (s26.1))) (s17.1,0)).bind λ(b21:List Qe) =>
 some (.go ((b21,w64 (s17.2+1)))))
 else
 some (.out (s17.1))) (b3,0)).bind λ(b14:List Qe) =>
 some (b14)
noncomputable def QaW(p0:Hp)(p1:Int):Option (Hp×Bool) :=
 (Zh p0 p1).bind λv1 =>
 (Zg v1.1 p1).bind λv2 =>
 some ((v1.1,!v2))
end Go.Proofs.YthpnlnjdmlbnaaaGreatDoor
