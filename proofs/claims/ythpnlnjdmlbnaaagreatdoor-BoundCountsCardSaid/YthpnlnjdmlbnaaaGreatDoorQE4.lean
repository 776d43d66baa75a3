/- Parts of the proof. No condition. -/
import Derived.Test.YthpnlnjdmlbnaaaGreatDoorQB0
import Derived.Test.YthpnlnjdmlbnaaaGreatDoorQB1
import Derived.Test.YthpnlnjdmlbnaaaGreatDoorQB2
import Derived.Test.YthpnlnjdmlbnaaaGreatDoorQB3
import Derived.Test.YthpnlnjdmlbnaaaGreatDoorQB4
import Derived.Test.YthpnlnjdmlbnaaaGreatDoorQB5
import Derived.Test.YthpnlnjdmlbnaaaGreatDoorQB6
import Derived.Test.YthpnlnjdmlbnaaaGreatDoorQB7
import Derived.Test.YthpnlnjdmlbnaaaGreatDoorQB8
import Derived.Test.YthpnlnjdmlbnaaaGreatDoorQB9
import Derived.Test.YthpnlnjdmlbnaaaGreatDoorQB10
import Derived.Test.YthpnlnjdmlbnaaaGreatDoorQB11
import Derived.Test.YthpnlnjdmlbnaaaGreatDoorQB12
import Derived.Test.YthpnlnjdmlbnaaaGreatDoorQE1
import Derived.Test.YthpnlnjdmlbnaaaGreatDoorQE2
import Derived.Test.YthpnlnjdmlbnaaaGreatDoorQE3
import Derived.Test.YthpnlnjdmlbnaaaGreatDoorChecked
import Derived.KernelRfl
import Derived.Laws.Externs
import Derived.Laws.StructEq
import Derived.Laws.CopyRow
import Derived.Laws.AppendOwn
import Derived.Laws.OwnMore
import Derived.Laws.MakeOwn
import Derived.Great.BuildSlice
import Derived.WalkKit
import Derived.WalkSpells
import Derived.WalkLawsBesides
import Derived.Lib.Hide
import Derived.Orders
import Derived.RegionTactic
import Derived.Deep.RegionHeld
import Derived.IntWalk
namespace Go.Proofs.YthpnlnjdmlbnaaaGreatDoor
open Go.RowKit
set_option linter.unusedSimpArgs false
set_option linter.unusedVariables false
set_option maxRecDepth 20000
set_option maxHeartbeats 40000000
noncomputable def Qfi(p0:Cfg)(p1:Int):Option Int :=
 (at_ p0.rules p1).bind λv1 =>
 (Qfv v1.share).bind λv3 =>
 if v3=true then
 ((Qfm v1.limit).bind λv5 =>
 if v5=true then
 ((Qfm v1.batch).bind λv7 =>
 if v7=true then
 (if p1=(w64 ((p0.rules.length:Int) - 1)) then
 (if v1.limit=0 then
 (if v1.target=p1 then
 (if p1 < (w64 ((p0.rules.length:Int) - 1)) then
 (if v1.target<=p1 then
 (some (10))
 else
 if (w64 ((p0.rules.length:Int) - 1)) < v1.target then
 (some (10))
 else
 some (0))
 else
 some (0))
 else
 some (10))
 else
 some (9))
 else
 if p1 < (w64 ((p0.rules.length:Int) - 1)) then
 (if v1.target<=p1 then
 (some (10))
 else
 if (w64 ((p0.rules.length:Int) - 1)) < v1.target then
 (some (10))
 else
 some (0))
 else
 some (0))
 else
 some (9))
 else
 some (9))
 else
 some (6)
theorem QfM{p0 p1 r}:Sm (Qfi p0 p1) r->DCall Tryz.prog 202 [.agg [.lit (.string p0.name),.sl (p0.rules.map Rul.c),DI p0.full],DI p1] [] (DI r) []:=by
 unfold Qfi
 refine mk0 Tryz.func202 ?_
 refine ar ?_
 refine xa λv1 hv1=>?_
 refine ar ?_
 refine sq λK k=>?_
 refine au ?_
 refine xd λv3 hv3=>?_
 have q0:=cS r0 (QfK hv3)
 refine ar ?_
 refine xs (λh4=>?_) λh4=>?_
 refine cb ?_
 refine xd λv5 hv5=>?_
 refine xs (λh6=>?_) λh6=>?_
 refine xd λv7 hv7=>?_
 refine xs (λh8=>?_) λh8=>?_
 refine xs (λh9=>?_) λh9=>?_
 refine ar ?_
 refine goA (m_cS r0 (Qe0 hv5) rfl ScS.nil) ?_
 refine au ?_
 refine go (m_cS r0 (Qe0 hv7) rfl ScS.nil) ?_ (gY (congrArg not h6))
 refine au ?_
 refine xs (λh10=>?_) λh10=>?_
 refine cb ?_
 refine xs (λh11=>?_) λh11=>?_
 refine xs (λh12=>?_) λh12=>?_
 refine xs (λh13=>?_) λh13=>?_
 refine ar ?_
 refine da ?_
 exact ft r0
 refine ar ?_
 refine xs (λh14=>?_) λh14=>?_
 refine da ?_
 exact ft r0
 refine db ?_
 exact ft r0
 refine ar ?_
 refine db ?_
 exact ft r0
 refine ar ?_
 refine da ?_
 exact ft r0
 refine da ?_
 exact ft r0
 refine ar ?_
 refine goA (m_cS r0 (Qe0 hv5) rfl ScS.nil) ?_
 refine au ?_
 refine go (m_cS r0 (Qe0 hv7) rfl ScS.nil) ?_ (gY (congrArg not h6))
 refine au ?_
 refine cb ?_
 refine xs (λh15=>?_) λh15=>?_
 refine xs (λh16=>?_) λh16=>?_
 refine ar ?_
 refine da ?_
 exact ft r0
 refine ar ?_
 refine xs (λh17=>?_) λh17=>?_
 refine da ?_
 exact ft r0
 refine db ?_
 exact ft r0
 refine ar ?_
 refine db ?_
 exact ft r0
 refine ar ?_
 refine goA (m_cS r0 (Qe0 hv5) rfl ScS.nil) ?_
 refine au ?_
 refine go (m_cS r0 (Qe0 hv7) rfl ScS.nil) ?_ (gY (congrArg not h6))
 refine au ?_
 refine da ?_
 exact ft r0
 replace q0:=cS r0 (Qe0 hv5)
 refine ar ?_
 refine da ?_
 exact ft r0
 refine da ?_
 exact ft r0
noncomputable def Qfh(p0:List Qe)(p1:List Int):Option (List Int×Int) :=
 (Qi (λ(s5:List Int×Int) =>
 if s5.2 < (p0.length:Int) then
 ((at_ p0 s5.2).bind λv10 =>
 (QeY p1 v10.to).bind λv11 =>
 if v11=true then
 ((QeY p1 v10.frm).bind λv13 =>
 if v13=true then
 (some (.go ((s5.1,w64 (s5.2+1)))))
 else
 if ((s5.1.length:Int)+v10.slots.length) * 8<=140737488355328/\(s5.1.length:Int)+v10.slots.length<=9223372036854775807 then
 some (.go ((s5.1++v10.slots,w64 (s5.2+1))))
 else none)
 else
 some (.go ((s5.1,w64 (s5.2+1)))))
 else
 some (.out (s5.1))) (([]:List Int),0)).bind λ(b1:List Int) =>
 (Qfg b1).bind λv16 =>
 if v16.length=b1.length then
 (Qe9 v16).bind λv17 =>
 some ((v17,(b1.length:Int)))
 else none
theorem QfL{p0 p1 r}:Sm (Qfh p0 p1) r->DCall Tryz.prog 51 [.sl (p0.map Qe.c),.sl (p1.map iC)] [] (.tup [.own 0 0 r.1.length,DI r.2]) [(0,aO 1 (r.1.map iC))]:=by
 unfold Qfh
 refine mk0 Tryz.func51 ?_
 refine ar ?_
 refine ar ?_
 refine cT [] [(6,λb1=>.own 0 0 b1.length)] [] [] [(0,λb1=>aO 1 (b1.map iC))] 1 (λz2=>?_) λb1=>?_
 refine ar ?_
 refine xx (QU 6 1 Od rfl) ?_
 refine lP [1,10,11] [(6,λs5=>.own 0 0 s5.1.length),(12,λs5=>DI s5.2)] [] [] [(0,λs5=>aO 1 (s5.1.map iC))] 1 λs5 y6 hq6=>?_
 refine ar ?_
 refine sq λK k=>?_
 refine xs (λh8=>?_) λh8=>?_
 refine ca ?_
 refine sq λK k=>?_
 refine au ?_
 refine xa λv10 hv10=>?_
 refine ar ?_
 refine xd λv11 hv11=>?_
 refine xs (λh12=>?_) λh12=>?_
 refine xd λv13 hv13=>?_
 refine ar ?_
 refine goA (m_cS r0 (Qe4 hv11) rfl ScS.nil) ?_
 refine au ?_
 refine go (m_cS r0 (Qe4 hv13) rfl ScS.nil) ?_ (gY h12)
 refine au ?_
 refine xs (λh14=>?_) λh14=>?_
 refine db ?_
 exact wJ []
 refine ca ?_
 refine xc λh15=>?_
 refine ar ?_
 refine goA (QT (c:=iC) s5.1 v10.slots h15 i22.ok i3.ok rfl rfl (.sl rfl (Qf (c:=iC) (λ_=>rfl) _)) rfl) ?_
 refine au ?_
 refine ar ?_
 exact wJ [(0,2)]
 have q0:=cS r0 (Qe4 hv11)
 refine ar ?_
 refine db ?_
 exact wJ []
 refine cb ?_
 refine xo hq6 ?_
 exact wJ []
 refine ar ?_
 refine xd λv16 hv16=>?_
 refine xc λh18=>?_
 have q0:=cS r1 (QfE hv16)
 refine ar ?_
 refine xd λv17 hv17=>?_
 replace q0:=cS r1 (Qfz hv17)
 refine ar ?_
 exact ftt [(0,1)]
noncomputable def Qfn(p0:Cfg):Option Int :=
 (Qfl p0.name).bind λv2 =>
 if v2=true then
 (if (p0.rules.length:Int) < 1 then
 (some (8))
 else
 if 4 < (p0.rules.length:Int) then
 (some (8))
 else
 bndR (Qi (λ(s9:Int) =>
 if s9 < (p0.rules.length:Int) then
 ((Qfi p0 s9).bind λv14 =>
 if v14=0 then
 (some (.go (w64 (s9+1))))
 else
 some (.out (.inr (v14))))
 else
 some (.out (.inl (())))) 0) λ(b6:Unit) =>
 bndR (Qi (λ(s19:Int) =>
 if s19 < (p0.rules.length:Int) then
 ((Qfj p0 s19).bind λv24 =>
 if v24=true then
 (some (.go (w64 (s19+1))))
 else
 some (.out (.inr (10))))
 else
 some (.out (.inl (())))) 1) λ(b16:Unit) =>
 (at_ p0.rules (w64 ((p0.rules.length:Int) - 1))).bind λv27 =>
 if (Qez .eql v27.share 0)=true then
 (if p0.full < 1 then
 (some (9))
 else
 if 64 < p0.full then
 (some (9))
 else
 some (0))
 else
 if p0.full=0 then
 (some (0))
 else
 some (9))
 else
 some (7)
theorem Qft{p0 r}:Sm (Qfn p0) r->DCall Tryz.prog 167 [.agg [.lit (.string p0.name),.sl (p0.rules.map Rul.c),DI p0.full]] [] (DI r) []:=by
 unfold Qfn
 refine mk0 Tryz.func167 ?_
 refine ar ?_
 refine sq λK k=>?_
 refine au ?_
 refine xd λv2 hv2=>?_
 have q0:=cS r0 (QfH hv2)
 refine ar ?_
 refine xs (λh3=>?_) λh3=>?_
 refine cb ?_
 refine xs (λh4=>?_) λh4=>?_
 refine ar ?_
 refine da ?_
 exact ft r0
 refine ar ?_
 refine xs (λh5=>?_) λh5=>?_
 refine da ?_
 exact ft r0
 refine cb ?_
 refine cU [] [(1,λb6=>.ptr 0 0 0)] [0] [] [] 1 (λz7 hr7=>?_) λb6=>?_
 refine ar ?_
 refine lP [25] [(1,λs9=>.ptr 0 0 0),(26,λs9=>DI s9)] [0] [] [] 1 λs9 y10 hq10=>?_
 refine ar ?_
 refine sq λK k=>?_
 refine xs (λh12=>?_) λh12=>?_
 refine ca ?_
 refine sq λK k=>?_
 refine ar ?_
 refine xd λv14 hv14=>?_
 replace q0:=cS r0 (QfM hv14)
 refine ar ?_
 refine ar ?_
 refine xs (λh15=>?_) λh15=>?_
 refine db ?_
 exact wJ []
 refine da ?_
 refine xo hq10 ?_
 refine xr hr7 ?_
 exact ft r0
 refine cb ?_
 refine xo hq10 ?_
 exact wJ []
 refine cU [1] [] [0] [] [] 1 (λz17 hr17=>?_) λb16=>?_
 refine ar ?_
 refine lP [1] [(5,λs19=>DI s19)] [0] [] [] 1 λs19 y20 hq20=>?_
 refine sq λK k=>?_
 refine ar ?_
 refine xs (λh22=>?_) λh22=>?_
 refine ca ?_
 refine sq λK k=>?_
 refine au ?_
 refine xd λv24 hv24=>?_
 replace q0:=cS r0 (QfA hv24)
 refine ar ?_
 refine xs (λh25=>?_) λh25=>?_
 refine db ?_
 exact wJ []
 refine da ?_
 refine xo hq20 ?_
 refine xr hr17 ?_
 exact ft r0
 refine cb ?_
 refine xo hq20 ?_
 exact wJ []
 refine sq λK k=>?_
 refine xa λv27 hv27=>?_
 refine ar ?_
 refine goA (Qdm (.inl rfl)) ?_
 refine au ?_
 refine sq λK k=>?_
 refine xs (λh29=>?_) λh29=>?_
 refine xs (λh30=>?_) λh30=>?_
 refine ar ?_
 refine ca ?_
 refine da ?_
 exact ft r0
 refine ar ?_
 refine xs (λh31=>?_) λh31=>?_
 refine ca ?_
 refine da ?_
 exact ft r0
 refine db ?_
 refine db ?_
 exact ft r0
 refine ar ?_
 refine db ?_
 refine xs (λh32=>?_) λh32=>?_
 refine db ?_
 exact ft r0
 refine da ?_
 exact ft r0
 refine da ?_
 exact ft r0
noncomputable def Qfc(p0:Sp)(p1:List Qe)(p2:List Inc):Option (List Int×Int) :=
 (XE p0 p2).bind λv1 =>
 (Xh p0 p2).bind λv2 =>
 (Qfh p1 v2).bind λv3 =>
 (Qi (λ(s8:List Int×Int) =>
 if s8.2 < (v3.1.length:Int) then
 ((at_ v3.1 s8.2).bind λv13 =>
 if v13 < (p0.ws.length:Int) then
 ((at_ p0.ws v13).bind λv15 =>
 (Xg p0 v1 v15).bind λv16 =>
 if v16=true then
 (if ((s8.1.length:Int)+[v13].length) * 8<=140737488355328/\(s8.1.length:Int)+[v13].length<=9223372036854775807 then
 some (.go ((s8.1++[v13],w64 (s8.2+1))))
 else none)
 else
 some (.go ((s8.1,w64 (s8.2+1)))))
 else
 some (.go ((s8.1,w64 (s8.2+1)))))
 else
 some (.out (s8.1))) (([]:List Int),0)).bind λ(b4:List Int) =>
 some ((b4,v3.2))
theorem QfG{p0 p1 p2 r}:Sm (Qfc p0 p1 p2) r->DCall Tryz.prog 21 [.agg [DI p0.sh,.sl (p0.ws.map uC),.sl (p0.fs.map frC)],.sl (p1.map Qe.c),.sl (p2.map Inc.c)] [] (.tup [.own 0 0 r.1.length,DI r.2]) [(0,aO 1 (r.1.map iC))]:=by
 unfold Qfc
 refine mk0 Tryz.func21 ?_
 refine ar ?_
 refine xd λv1 hv1=>?_
 have q0:=cS r0 (QaV hv1)
 refine ar ?_
 refine xd λv2 hv2=>?_
 refine xd λv3 hv3=>?_
 replace q0:=cS r0 (Qa0 hv2)
 have q1:=cS r0 (QfL hv3)
 refine ar ?_
 refine ar ?_
 refine cT [10] [(11,λb4=>.own 3 0 b4.length)] [] [] [(3,λb4=>aO 1 (b4.map iC))] 4 (λz5=>?_) λb4=>?_
 refine ar ?_
 refine xx (QU 11 1 Od rfl) ?_
 refine lP [8,10,26] [(3,λs8=>.ptr 0 0 0),(11,λs8=>.own 3 0 s8.1.length),(25,λs8=>.own 2 0 v3.1.length),(27,λs8=>DI s8.2)] [0,2] [] [(3,λs8=>aO 1 (s8.1.map iC))] 4 λs8 y9 hq9=>?_
 refine ar ?_
 refine sq λK k=>?_
 refine xs (λh11=>?_) λh11=>?_
 refine ca ?_
 refine sq λK k=>?_
 refine au ?_
 refine xa λv13 hv13=>?_
 refine ar ?_
 refine xs (λh14=>?_) λh14=>?_
 refine xa λv15 hv15=>?_
 refine xd λv16 hv16=>?_
 replace q0:=cS r0 (QaZ hv16)
 refine ar ?_
 refine xs (λh17=>?_) λh17=>?_
 refine ca ?_
 refine xc λh18=>?_
 refine ar ?_
 refine goA (Qk (c:=iC) ([v13]:List Int) i22.ok i3.ok) ?_
 refine goA (QT (c:=iC) s8.1 [v13] h18 i22.ok i3.ok rfl rfl (.own rfl rfl Os (Qf (c:=iC) (λ_=>rfl) _)) rfl) ?_
 refine au ?_
 refine ar ?_
 exact wJ [(3,5)]
 refine db ?_
 exact wJ []
 refine ar ?_
 refine db ?_
 exact wJ []
 refine cb ?_
 refine xo hq9 ?_
 exact wJ []
 refine ar ?_
 exact ftt [(0,3)]
noncomputable def Qe2(p0:Cfg):Option Bool :=
 (Qfn p0).bind λv1 =>
 if v1=0 then
 ((at_ p0.rules (w64 ((p0.rules.length:Int) - 1))).bind λv3 =>
 some ((Qez .eql v3.share 0)))
 else
 some (false)
theorem Qdh{p0 r}:Sm (Qe2 p0) r->DCall Tryz.prog 121 [.agg [.lit (.string p0.name),.sl (p0.rules.map Rul.c),DI p0.full]] [] (DB r) []:=by
 unfold Qe2
 refine mk0 Tryz.func121 ?_
 refine ar ?_
 refine xd λv1 hv1=>?_
 refine xs (λh2=>?_) λh2=>?_
 refine xa λv3 hv3=>?_
 have q0:=cS r0 (Qft hv1)
 refine ar ?_
 refine go (Qdm (.inl rfl)) ?_ (gY (decide_eq_true h2))
 refine au ?_
 exact ft r0
 have q0:=cS r0 (Qft hv1)
 refine ar ?_
 exact ft r0
noncomputable def Qfo(p0:Hp)(p1:List Inc):Option Int :=
 (Zw p0.space p0.sets p1).bind λv1 =>
 (Zy p0.roots).bind λv2 =>
 (Qi (λ(s6:Int×Int) =>
 if s6.2 < (p1.length:Int) then
 ((at_ p1 s6.2).bind λv11 =>
 some (.go ((w64 (s6.1+(w64 (2 * v11.words))),w64 (s6.2+1)))))
 else
 some (.out (s6.1))) (w64 (v1.2+(v2.length:Int)),0)).bind λ(b3:Int) =>
 some (b3)
theorem QfN{p0 p1 r}:Sm (Qfo p0 p1) r->DCall Tryz.prog 39 [.agg [.lit (.string p0.config.name),.sl (p0.config.rules.map Rul.c),DI p0.config.full,DI p0.space.sh,.sl (p0.space.ws.map uC),.sl (p0.space.fs.map frC),.sl (p0.belts.map (lC Inc.c)),DI p0.seq,.sl (p0.sets.map Qe.c),.sl (p0.roots.used.map bC),.sl (p0.roots.refs.map uC),DI p0.since,DI p0.stats.allocated,DI p0.stats.objects,DI p0.stats.collections,DI p0.stats.steps,DI p0.stats.rounds,DI p0.stats.condemned,DI p0.stats.copied,DI p0.stats.entries,DI p0.stats.work,DB p0.dead],.sl (p1.map Inc.c)] [] (DI r) []:=by
 unfold Qfo
 refine mk0 Tryz.func39 ?_
 refine ar ?_
 refine xd λv1 hv1=>?_
 have q0:=cS r0 (Qae hv1)
 refine ar ?_
 refine xd λv2 hv2=>?_
 replace q0:=cS r0 (X4 hv2)
 refine ar ?_
 refine cT [] [(6,λb3=>DI b3)] [] [] [] 0 (λz4=>?_) λb3=>?_
 refine ar ?_
 refine lP [24,25] [(6,λs6=>DI s6.1),(26,λs6=>DI s6.2)] [] [] [] 0 λs6 y7 hq7=>?_
 refine ar ?_
 refine sq λK k=>?_
 refine xs (λh9=>?_) λh9=>?_
 refine ca ?_
 refine sq λK k=>?_
 refine au ?_
 refine xa λv11 hv11=>?_
 refine ar ?_
 refine ar ?_
 refine ar ?_
 exact wJ []
 refine cb ?_
 refine xo hq7 ?_
 exact wJ []
 refine ar ?_
 exact ft r0
noncomputable def Qff(p0:Cfg)(p1:Int)(p2:Int)(p3:Int)(p4:Int):Option Bool :=
 (Qe2 p0).bind λv2 =>
 if v2=true then
 ((Qe1 p1 p2).bind λv4 =>
 if v4=true then
 (if p3 < 0 then
 (some (false))
 else
 if 0<=wu p1 then
 if (Qcq .i64 p2 (wu p1)) < p3 then
 (some (false))
 else
 if p4 < 1 then
 (some (false))
 else
 if 48 < p4 then
 (some (false))
 else
 (Qfb p1).bind λv11 =>
 some (decide ((w64 ((w64 (2 * (w64 (p3+p4))))+v11))<=(Qcq .i64 p2 (wu p1))))
 else none)
 else
 some (false))
 else
 some (false)
theorem Qfa{p0 p1 p2 p3 p4 r}:Sm (Qff p0 p1 p2 p3 p4) r->DCall Tryz.prog 70 [.agg [.lit (.string p0.name),.sl (p0.rules.map Rul.c),DI p0.full],DI p1,DI p2,DI p3,DI p4] [] (DB r) []:=by
 unfold Qff
 refine mk0 Tryz.func70 ?_
 refine ar ?_
 refine sq λK k=>?_
 refine xd λv2 hv2=>?_
 refine xs (λh3=>?_) λh3=>?_
 refine xd λv4 hv4=>?_
 refine xs (λh5=>?_) λh5=>?_
 refine xs (λh6=>?_) λh6=>?_
 have q0:=cS r0 (Qdh hv2)
 have q1:=cS r0 (QeX hv4)
 refine ar ?_
 refine da ?_
 exact ft r0
 refine xc λh7=>?_
 refine xs (λh8=>?_) λh8=>?_
 have q0:=cS r0 (Qdh hv2)
 have q1:=cS r0 (QeX hv4)
 refine ar ?_
 refine da ?_
 exact ft r0
 refine xs (λh9=>?_) λh9=>?_
 have q0:=cS r0 (Qdh hv2)
 have q1:=cS r0 (QeX hv4)
 refine ar ?_
 refine da ?_
 exact ft r0
 have q0:=cS r0 (Qdh hv2)
 have q1:=cS r0 (QeX hv4)
 refine ar ?_
 refine xs (λh10=>?_) λh10=>?_
 refine da ?_
 exact ft r0
 refine cb ?_
 refine xd λv11 hv11=>?_
 replace q0:=cS r0 (Qe7 hv11)
 refine ar ?_
 exact ft r0
 have q0:=cS r0 (Qdh hv2)
 have q1:=cS r0 (QeX hv4)
 refine ar ?_
 refine da ?_
 exact ft r0
 have q0:=cS r0 (Qdh hv2)
 refine ar ?_
 refine da ?_
 exact ft r0
noncomputable def Qfw(p0:Cfg)(p1:Int)(p2:Int):Option Int :=
 (Qe2 p0).bind λv2 =>
 if v2=true then
 ((Qe1 p1 p2).bind λv4 =>
 if v4=true then
 (if 0<=wu p1 then
 some (w64 ((w64 (p0.full+2)) * (Qcq .i64 p2 (wu p1))))
 else none)
 else
 some (0))
 else
 some (0)
theorem F_bound_Due_ok{p0 p1 p2 r}:Sm (Qfw p0 p1 p2) r->DCall Tryz.prog 72 [.agg [.lit (.string p0.name),.sl (p0.rules.map Rul.c),DI p0.full],DI p1,DI p2] [] (DI r) []:=by
 unfold Qfw
 refine mk0 Tryz.func72 ?_
 refine ar ?_
 refine sq λK k=>?_
 refine xd λv2 hv2=>?_
 refine xs (λh3=>?_) λh3=>?_
 refine xd λv4 hv4=>?_
 have q0:=cS r0 (Qdh hv2)
 have q1:=cS r0 (QeX hv4)
 refine ar ?_
 refine xs (λh5=>?_) λh5=>?_
 refine cb ?_
 refine xc λh6=>?_
 refine ar ?_
 exact ft r0
 refine da ?_
 exact ft r0
 have q0:=cS r0 (Qdh hv2)
 refine ar ?_
 refine da ?_
 exact ft r0
noncomputable def Qfp(p0:Hp)(p1:List Inc):Option Int :=
 (Qfc p0.space p0.sets p1).bind λv1 =>
 (Qfq p0.roots).bind λv2 =>
 (Qi (λ(s6:Int×Int) =>
 if s6.2 < (p1.length:Int) then
 ((at_ p1 s6.2).bind λv11 =>
 some (.go ((w64 (s6.1+(w64 (2 * v11.words))),w64 (s6.2+1)))))
 else
 some (.out (s6.1))) (w64 (v1.2+(v2.length:Int)),0)).bind λ(b3:Int) =>
 some (b3)
theorem QfO{p0 p1 r}:Sm (Qfp p0 p1) r->DCall Tryz.prog 38 [.agg [.lit (.string p0.config.name),.sl (p0.config.rules.map Rul.c),DI p0.config.full,DI p0.space.sh,.sl (p0.space.ws.map uC),.sl (p0.space.fs.map frC),.sl (p0.belts.map (lC Inc.c)),DI p0.seq,.sl (p0.sets.map Qe.c),.sl (p0.roots.used.map bC),.sl (p0.roots.refs.map uC),DI p0.since,DI p0.stats.allocated,DI p0.stats.objects,DI p0.stats.collections,DI p0.stats.steps,DI p0.stats.rounds,DI p0.stats.condemned,DI p0.stats.copied,DI p0.stats.entries,DI p0.stats.work,DB p0.dead],.sl (p1.map Inc.c)] [] (DI r) []:=by
 unfold Qfp
 refine mk0 Tryz.func38 ?_
 refine ar ?_
 refine xd λv1 hv1=>?_
 have q0:=cS r0 (QfG hv1)
 refine ar ?_
 refine xd λv2 hv2=>?_
 replace q0:=cS r0 (F_root_Live_ok hv2)
 refine ar ?_
 refine cT [] [(6,λb3=>DI b3)] [] [] [] 0 (λz4=>?_) λb3=>?_
 refine ar ?_
 refine lP [24,25] [(6,λs6=>DI s6.1),(26,λs6=>DI s6.2)] [] [] [] 0 λs6 y7 hq7=>?_
 refine ar ?_
 refine sq λK k=>?_
 refine xs (λh9=>?_) λh9=>?_
 refine ca ?_
 refine sq λK k=>?_
 refine au ?_
 refine xa λv11 hv11=>?_
 refine ar ?_
 refine ar ?_
 refine ar ?_
 exact wJ []
 refine cb ?_
 refine xo hq7 ?_
 exact wJ []
 refine ar ?_
 exact ft r0
noncomputable def Qe3 :Option Bool :=
 (Qfb 4).bind λv1 =>
 if v1=64 then
 ((Qe5).bind λv3 =>
 (Qff v3 4 32 200 20).bind λv4 =>
 if v4=true then
 ((Qe5).bind λv6 =>
 (Qff v6 4 32 200 25).bind λv7 =>
 if v7=true then
 (some (false))
 else
 (Qe5).bind λv9 =>
 (Qfw v9 4 32).bind λv10 =>
 some (decide (v10=1536)))
 else
 some (false))
 else
 some (false)
theorem Qfe{r}:Sm (Qe3) r->DCall Tryz.prog 37 [] [] (DB r) []:=by
 unfold Qe3
 refine mk0 Tryz.func37 ?_
 refine ar ?_
 refine xd λv1 hv1=>?_
 refine xs (λh2=>?_) λh2=>?_
 refine xd λv3 hv3=>?_
 refine xd λv4 hv4=>?_
 refine xs (λh5=>?_) λh5=>?_
 refine xd λv6 hv6=>?_
 refine xd λv7 hv7=>?_
 refine xs (λh8=>?_) λh8=>?_
 refine ar ?_
 refine goA (m_cS r0 (Qe7 hv1) rfl ScS.nil) ?_
 refine au ?_
 refine go (m_cS r0 (QeZ hv3) rfl (ScS.cons (scC (λ_=>rfl)) ScS.nil)) ?_ (gY (decide_eq_true h2))
 refine go (m_cS r0 (Qfa hv4) rfl ScS.nil) ?_ (gY (decide_eq_true h2))
 refine au ?_
 refine go (m_cS r0 (QeZ hv6) rfl (ScS.cons (scC (λ_=>rfl)) ScS.nil)) ?_ (gY h5)
 refine go (m_cS r0 (Qfa hv7) rfl ScS.nil) ?_ (gY h5)
 refine au ?_
 exact ft r0
 refine xd λv9 hv9=>?_
 refine xd λv10 hv10=>?_
 refine ar ?_
 refine goA (m_cS r0 (Qe7 hv1) rfl ScS.nil) ?_
 refine au ?_
 refine go (m_cS r0 (QeZ hv3) rfl (ScS.cons (scC (λ_=>rfl)) ScS.nil)) ?_ (gY (decide_eq_true h2))
 refine go (m_cS r0 (Qfa hv4) rfl ScS.nil) ?_ (gY (decide_eq_true h2))
 refine au ?_
 refine go (m_cS r0 (QeZ hv6) rfl (ScS.cons (scC (λ_=>rfl)) ScS.nil)) ?_ (gY h5)
 refine go (m_cS r0 (Qfa hv7) rfl ScS.nil) ?_ (gY h5)
 refine au ?_
 refine go (m_cS r0 (QeZ hv9) rfl (ScS.cons (scC (λ_=>rfl)) ScS.nil)) ?_ (gY (congrArg not (eq_false_of_ne_true h8)))
 refine go (m_cS r0 (F_bound_Due_ok hv10) rfl ScS.nil) ?_ (gY (congrArg not (eq_false_of_ne_true h8)))
 refine au ?_
 exact ft r0
 have q0:=cS r0 (Qe7 hv1)
 have q1:=cS r0 (QeZ hv3)
 have q2:=cS r0 (Qfa hv4)
 refine ar ?_
 exact ft r0
 have q0:=cS r0 (Qe7 hv1)
 refine ar ?_
 exact ft r0
noncomputable def Qe6(p0:List Inc)(p1:List Int)(p2:Int):Option Bool :=
 if 20 < (p0.length:Int) then
 ((Qe3).bind λv3 =>
 some (v3))
 else
 bndR (Qi (λ(s7:Int) =>
 if s7 < (p0.length:Int) then
 ((at_ p0 s7).bind λv12 =>
 if 1048576 < v12.words then
 ((Qe3).bind λv14 =>
 some (.out (.inr (v14))))
 else
 if v12.words < 0 then
 ((Qe3).bind λv16 =>
 some (.out (.inr (v16))))
 else
 some (.go (w64 (s7+1))))
 else
 some (.out (.inl (())))) 0) λ(b4:Unit) =>
 (QbP p1).bind λv17 =>
 (J2 v17).bind λv18 =>
 (XB v18.1.belts).bind λv19 =>
 bndR ((QaD p2 (w64 ((v19.length:Int)+1))).bind λv22 =>
 if (0:Int)<=0/\0<=v22/\v22<=v19.length then
 Qi (λ(s25:Int) =>
 if s25 < ([p0,(v19.take (Int.toNat v22)).drop (Int.toNat 0)].length:Int) then
 ((at_ [p0,(v19.take (Int.toNat v22)).drop (Int.toNat 0)] s25).bind λv30 =>
 (Qfp v18.1 v30).bind λv31 =>
 (Qfo v18.1 v30).bind λv32 =>
 if v31=v32 then
 (some (.go (w64 (s25+1))))
 else
 some (.out (.inr (false))))
 else
 some (.out (.inl (())))) 0
 else none) λ(b20:Unit) =>
 (Qfd v18.1).bind λv34 =>
 (Qfk v18.1).bind λv35 =>
 if v34=v35 then
 ((Qe3).bind λv37 =>
 some (v37))
 else
 some (false)
theorem Qfx{p0 p1 p2 r}:Sm (Qe6 p0 p1 p2) r->DCall Tryz.prog 9 [.sl (p0.map Inc.c),.sl (p1.map iC),DI p2] [] (DB r) []:=by
 unfold Qe6
 refine mk0 Tryz.func9 ?_
 refine ar ?_
 refine sq λK k=>?_
 refine ar ?_
 refine xs (λh2=>?_) λh2=>?_
 refine ca ?_
 refine xd λv3 hv3=>?_
 have q0:=cS r0 (Qfe hv3)
 refine ar ?_
 exact ft r0
 refine cb ?_
 refine cU [0,1,2] [] [] [] [] 0 (λz5 hr5=>?_) λb4=>?_
 refine ar ?_
 refine lP [0,1,2,18,19] [(20,λs7=>DI s7)] [] [] [] 0 λs7 y8 hq8=>?_
 refine ar ?_
 refine sq λK k=>?_
 refine xs (λh10=>?_) λh10=>?_
 refine ca ?_
 refine sq λK k=>?_
 refine au ?_
 refine xa λv12 hv12=>?_
 refine ar ?_
 refine xs (λh13=>?_) λh13=>?_
 refine ar ?_
 refine ca ?_
 refine xd λv14 hv14=>?_
 have q0:=cS r0 (Qfe hv14)
 refine ar ?_
 refine xo hq8 ?_
 refine xr hr5 ?_
 exact ft r0
 refine ar ?_
 refine xs (λh15=>?_) λh15=>?_
 refine ca ?_
 refine xd λv16 hv16=>?_
 have q0:=cS r0 (Qfe hv16)
 refine ar ?_
 refine xo hq8 ?_
 refine xr hr5 ?_
 exact ft r0
 refine db ?_
 exact wJ []
 refine cb ?_
 refine xo hq8 ?_
 exact wJ []
 refine xd λv17 hv17=>?_
 refine xd λv18 hv18=>?_
 have q0:=cG r0 (F_make_New_ok hv17)
 have q1:=cG r1 (F_make_Heap_ok hv18)
 refine ar ?_
 refine xd λv19 hv19=>?_
 replace q0:=cG r0 (QeQ hv19)
 refine ar ?_
 refine cU [] [(9,λb20=>.ptr 1 0 0)] [1] [] [] 2 (λz21 hr21=>?_) λb20=>?_
 refine xd λv22 hv22=>?_
 refine xc λh23=>?_
 replace q0:=cS r0 (F_make_Mod_ok hv22)
 refine ar ?_
 refine goA (m_slS (a:=0) (b:=v22) h23 i46.ok i49.ok (.inl ⟨rfl,rfl⟩) (.inr ⟨_,_,rfl,rfl⟩)) ?_
 refine goA (Qk (c:=(lC Inc.c)) ([p0,(v19.take (Int.toNat v22)).drop (Int.toNat 0)]:List (List Inc)) i30.ok i46.ok) ?_
 refine au ?_
 refine lP [52] [(9,λs25=>.ptr 1 0 0),(51,λs25=>.own 3 0 [p0,(v19.take (Int.toNat v22)).drop (Int.toNat 0)].length),(53,λs25=>DI s25)] [1,3] [] [] 4 λs25 y26 hq26=>?_
 refine ar ?_
 refine sq λK k=>?_
 refine xs (λh28=>?_) λh28=>?_
 refine ca ?_
 refine sq λK k=>?_
 refine au ?_
 refine xa λv30 hv30=>?_
 refine ar ?_
 refine xd λv31 hv31=>?_
 refine xd λv32 hv32=>?_
 replace q0:=cS r0 (QfO hv31)
 replace q1:=cS r0 (QfN hv32)
 refine ar ?_
 refine xs (λh33=>?_) λh33=>?_
 refine db ?_
 exact wJ []
 refine da ?_
 refine xo hq26 ?_
 refine xr hr21 ?_
 exact ft r0
 refine cb ?_
 refine xo hq26 ?_
 exact wJ []
 refine xd λv34 hv34=>?_
 refine xd λv35 hv35=>?_
 refine xs (λh36=>?_) λh36=>?_
 refine xd λv37 hv37=>?_
 replace q0:=cS r0 (Qfu hv34)
 replace q1:=cS r0 (Qfs hv35)
 have q2:=cS r0 (Qfe hv37)
 refine ar ?_
 exact ft r0
 replace q0:=cS r0 (Qfu hv34)
 replace q1:=cS r0 (Qfs hv35)
 refine ar ?_
 exact ft r0
end Go.Proofs.YthpnlnjdmlbnaaaGreatDoor
