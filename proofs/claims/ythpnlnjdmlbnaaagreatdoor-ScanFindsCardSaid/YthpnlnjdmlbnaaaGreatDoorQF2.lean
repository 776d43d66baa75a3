/- Parts of the proof. No condition. -/
import Derived.Test.YthpnlnjdmlbnaaaGreatDoorQB0
import Derived.Test.YthpnlnjdmlbnaaaGreatDoorQB1
import Derived.Test.YthpnlnjdmlbnaaaGreatDoorQB2
import Derived.Test.YthpnlnjdmlbnaaaGreatDoorQB3
import Derived.Test.YthpnlnjdmlbnaaaGreatDoorQB4
import Derived.Test.YthpnlnjdmlbnaaaGreatDoorQB5
import Derived.Test.YthpnlnjdmlbnaaaGreatDoorQB6
import Derived.Test.YthpnlnjdmlbnaaaGreatDoorQB7
import Derived.Test.YthpnlnjdmlbnaaaGreatDoorQB8
import Derived.Test.YthpnlnjdmlbnaaaGreatDoorQB9
import Derived.Test.YthpnlnjdmlbnaaaGreatDoorQB10
import Derived.Test.YthpnlnjdmlbnaaaGreatDoorQB11
import Derived.Test.YthpnlnjdmlbnaaaGreatDoorQB12
import Derived.Test.YthpnlnjdmlbnaaaGreatDoorQF1
import Derived.Test.YthpnlnjdmlbnaaaGreatDoorChecked
import Derived.KernelRfl
import Derived.Laws.Externs
import Derived.Laws.StructEq
import Derived.Laws.CopyRow
import Derived.Laws.AppendOwn
import Derived.Laws.OwnMore
import Derived.Laws.MakeOwn
import Derived.Great.BuildSlice
import Derived.WalkKit
import Derived.WalkSpells
import Derived.WalkLawsBesides
import Derived.Lib.Hide
import Derived.Orders
import Derived.RegionTactic
import Derived.Deep.RegionHeld
import Derived.IntWalk
import Derived.Test.YthpnlnjdmlbnaaaGreatDoorRows
import Derived.Laws.RangeAny
import Derived.Deep.QuietTactic
import Derived.BigQuiet
namespace Go.Proofs.YthpnlnjdmlbnaaaGreatDoor
open Go.RowKit
set_option linter.unusedSimpArgs false
set_option linter.unusedVariables false
set_option maxRecDepth 20000
set_option maxHeartbeats 40000000
noncomputable def Qe0(p0:List Int)(p1:Int):Option Int :=
 bndR (Qi (λ(s4:Int) =>
 if s4 < (p0.length:Int) then
 ((at_ p0 s4).bind λv9 =>
 if p1=v9 then
 (some (.out (.inr (s4))))
 else
 some (.go (w64 (s4+1))))
 else
 some (.out (.inl (())))) 0) λ(b1:Unit) =>
 some ((-1))
theorem Qe8{p0 p1 r}:Sm (Qe0 p0 p1) r->DCall Tryz.prog 150 [.sl (p0.map iC),DI p1] [] (DI r) []:=by
 unfold Qe0
 refine mk0 Tryz.func150 ?_
 refine ar ?_
 refine cU [] [] [] [] [] 0 (λz2 hr2=>?_) λb1=>?_
 refine ar ?_
 refine lP [0,1,7] [(8,λs4=>DI s4)] [] [] [] 0 λs4 y5 hq5=>?_
 refine ar ?_
 refine sq λK k=>?_
 refine xs (λh7=>?_) λh7=>?_
 refine ca ?_
 refine sq λK k=>?_
 refine ar ?_
 refine xa λv9 hv9=>?_
 refine ar ?_
 refine xs (λh10=>?_) λh10=>?_
 refine da ?_
 refine xo hq5 ?_
 refine xr hr2 ?_
 exact ft r0
 refine db ?_
 exact wJ []
 refine cb ?_
 refine xo hq5 ?_
 exact wJ []
 refine ar ?_
 exact ft r0
noncomputable def QeY(p0:List Int)(p1:List Int):Option Bool :=
 if (p0.length:Int)=(p1.length:Int) then
 (bndR (Qi (λ(s6:Int) =>
 if s6 < (p0.length:Int) then
 ((at_ p0 s6).bind λv11 =>
 (at_ p1 s6).bind λv12 =>
 if v11=v12 then
 (some (.go (w64 (s6+1))))
 else
 some (.out (.inr (false))))
 else
 some (.out (.inl (())))) 0) λ(b3:Unit) =>
 some (true))
 else
 some (false)
theorem QeX{p0 p1 r}:Sm (QeY p0 p1) r->DCall Tryz.prog 22 [.sl (p0.map iC),.sl (p1.map iC)] [] (DB r) []:=by
 unfold QeY
 refine mk0 Tryz.func22 ?_
 refine ar ?_
 refine sq λK k=>?_
 refine ar ?_
 refine xs (λh2=>?_) λh2=>?_
 refine cb ?_
 refine cU [] [] [] [] [] 0 (λz4 hr4=>?_) λb3=>?_
 refine ar ?_
 refine lP [0,1,12] [(13,λs6=>DI s6)] [] [] [] 0 λs6 y7 hq7=>?_
 refine ar ?_
 refine sq λK k=>?_
 refine xs (λh9=>?_) λh9=>?_
 refine ca ?_
 refine sq λK k=>?_
 refine ar ?_
 refine xa λv11 hv11=>?_
 refine xa λv12 hv12=>?_
 refine ar ?_
 refine xs (λh13=>?_) λh13=>?_
 refine db ?_
 exact wJ []
 refine da ?_
 refine xo hq7 ?_
 refine xr hr4 ?_
 exact ft r0
 refine cb ?_
 refine xo hq7 ?_
 exact wJ []
 refine ar ?_
 exact ft r0
 refine da ?_
 exact ft r0
noncomputable def Qe4(p0:Hp)(p1:Int):Option (List Inc) :=
 ((XB p0.belts).bind λv3 =>
 Qi (λ(s6:List Inc×Int) =>
 if s6.2 < (v3.length:Int) then
 ((at_ v3 s6.2).bind λv11 =>
 if 0<=wu (Int.tmod s6.2 60) then
 if (bits .and .i64 (Qb2 .i64 p1 (wu (Int.tmod s6.2 60))) 1)=1 then
 (if ((s6.1.length:Int)+[v11].length) * 40<=140737488355328/\(s6.1.length:Int)+[v11].length<=9223372036854775807 then
 some (.go ((s6.1++[v11],w64 (s6.2+1))))
 else none)
 else
 some (.go ((s6.1,w64 (s6.2+1))))
 else none)
 else
 some (.out (s6.1))) (([]:List Inc),0)).bind λ(b1:List Inc) =>
 some (b1)
theorem Qfm{p0 p1 r}:Sm (Qe4 p0 p1) r->DCall Tryz.prog 23 [.agg [.lit (.string p0.config.name),.sl (p0.config.rules.map Rul.c),DI p0.config.full,DI p0.space.sh,.sl (p0.space.ws.map uC),.sl (p0.space.fs.map frC),.sl (p0.belts.map (lC Inc.c)),DI p0.seq,.sl (p0.sets.map Qe.c),.sl (p0.roots.used.map bC),.sl (p0.roots.refs.map uC),DI p0.since,DI p0.stats.allocated,DI p0.stats.objects,DI p0.stats.collections,DI p0.stats.steps,DI p0.stats.rounds,DI p0.stats.condemned,DI p0.stats.copied,DI p0.stats.entries,DI p0.stats.work,DB p0.dead],DI p1] [] (.own 0 0 r.length) [(0,aO 5 (r.map Inc.c))]:=by
 unfold Qe4
 refine mk0 Tryz.func23 ?_
 refine ar ?_
 refine ar ?_
 refine cT [] [(5,λb1=>.own 1 0 b1.length)] [] [] [(1,λb1=>aO 5 (b1.map Inc.c))] 2 (λz2=>?_) λb1=>?_
 refine xd λv3 hv3=>?_
 have q0:=cS r0 (QbX hv3)
 refine ar ?_
 refine xx (QU 5 5 Od rfl) ?_
 refine lP [1,11] [(5,λs6=>.own 2 0 s6.1.length),(10,λs6=>.own 1 0 v3.length),(12,λs6=>DI s6.2)] [1] [] [(2,λs6=>aO 5 (s6.1.map Inc.c))] 3 λs6 y7 hq7=>?_
 refine ar ?_
 refine sq λK k=>?_
 refine xs (λh9=>?_) λh9=>?_
 refine ca ?_
 refine sq λK k=>?_
 refine au ?_
 refine xa λv11 hv11=>?_
 refine ar ?_
 refine xc λh12=>?_
 refine ar ?_
 refine xs (λh13=>?_) λh13=>?_
 refine ca ?_
 refine xc λh14=>?_
 refine ar ?_
 refine goA (Qk (c:=Inc.c) ([v11]:List Inc) i46.ok i49.ok) ?_
 refine goA (QT (c:=Inc.c) s6.1 [v11] h14 i46.ok i49.ok rfl rfl (.own rfl rfl Os (Qf (c:=Inc.c) (λ_=>rfl) _)) rfl) ?_
 refine au ?_
 refine ar ?_
 exact wJ [(2,5)]
 refine db ?_
 exact wJ []
 refine cb ?_
 refine xo hq7 ?_
 exact wJ [(1,2)]
 refine ar ?_
 exact ft [(0,1)]
theorem Qfj{p0:Hp}{p1:Int}{r:List Inc}(H:Sm (Qe4 p0 p1) r):DCall Tryz.prog 23 [.agg [.lit (.string p0.config.name),.sl (p0.config.rules.map Rul.c),DI p0.config.full,DI p0.space.sh,.sl (p0.space.ws.map uC),.sl (p0.space.fs.map frC),.sl (p0.belts.map (lC Inc.c)),DI p0.seq,.sl (p0.sets.map Qe.c),.sl (p0.roots.used.map bC),.sl (p0.roots.refs.map uC),DI p0.since,DI p0.stats.allocated,DI p0.stats.objects,DI p0.stats.collections,DI p0.stats.steps,DI p0.stats.rounds,DI p0.stats.condemned,DI p0.stats.copied,DI p0.stats.entries,DI p0.stats.work,DB p0.dead],DI p1] [] (.sl (r.map Inc.c)) [] :=
  (Qfm H).conv [] (by repeat' (first | exact CvL.nil | apply CvL.cons | exact .lit | exact .frzM rfl rfl | exact .own rfl | exact .sl | exact .ptr rfl | exact .nil | apply Cv.agg | apply Cv.tup)) (by repeat' (first | exact CvS.nil | apply CvS.cons rfl rfl | exact .arr rfl | apply CvO.box | exact CvL.nil | apply CvL.cons | exact .lit | exact .frzM rfl rfl | exact .own rfl | exact .sl | exact .ptr rfl | exact .nil | apply Cv.agg | apply Cv.tup)) rfl
noncomputable def Qdh(p0:List Int)(p1:Int):Option Bool :=
 (Qe0 p0 p1).bind λv1 =>
 some (decide (0<=v1))
theorem QeZ{p0 p1 r}:Sm (Qdh p0 p1) r->DCall Tryz.prog 94 [.sl (p0.map iC),DI p1] [] (DB r) []:=by
 unfold Qdh
 refine mk0 Tryz.func94 ?_
 refine ar ?_
 refine xd λv1 hv1=>?_
 have q0:=cS r0 (Qe8 hv1)
 refine ar ?_
 exact ft r0
noncomputable def Qe6(p0:List Qe)(p1:List Int):Option (List Int×Int) :=
 (Qi (λ(s5:List Int×Int) =>
 if s5.2 < (p0.length:Int) then
 ((at_ p0 s5.2).bind λv10 =>
 (Qdh p1 v10.to).bind λv11 =>
 if v11=true then
 ((Qdh p1 v10.frm).bind λv13 =>
 if v13=true then
 (some (.go ((s5.1,w64 (s5.2+1)))))
 else
 if ((s5.1.length:Int)+v10.slots.length) * 8<=140737488355328/\(s5.1.length:Int)+v10.slots.length<=9223372036854775807 then
 some (.go ((s5.1++v10.slots,w64 (s5.2+1))))
 else none)
 else
 some (.go ((s5.1,w64 (s5.2+1)))))
 else
 some (.out (s5.1))) (([]:List Int),0)).bind λ(b1:List Int) =>
 (Qe5 b1).bind λv16 =>
 if v16.length=b1.length then
 (Qe1 v16).bind λv17 =>
 some ((v17,(b1.length:Int)))
 else none
theorem Qfi{p0 p1 r}:Sm (Qe6 p0 p1) r->DCall Tryz.prog 51 [.sl (p0.map Qe.c),.sl (p1.map iC)] [] (.tup [.own 0 0 r.1.length,DI r.2]) [(0,aO 1 (r.1.map iC))]:=by
 unfold Qe6
 refine mk0 Tryz.func51 ?_
 refine ar ?_
 refine ar ?_
 refine cT [] [(6,λb1=>.own 0 0 b1.length)] [] [] [(0,λb1=>aO 1 (b1.map iC))] 1 (λz2=>?_) λb1=>?_
 refine ar ?_
 refine xx (QU 6 1 Od rfl) ?_
 refine lP [1,10,11] [(6,λs5=>.own 0 0 s5.1.length),(12,λs5=>DI s5.2)] [] [] [(0,λs5=>aO 1 (s5.1.map iC))] 1 λs5 y6 hq6=>?_
 refine ar ?_
 refine sq λK k=>?_
 refine xs (λh8=>?_) λh8=>?_
 refine ca ?_
 refine sq λK k=>?_
 refine au ?_
 refine xa λv10 hv10=>?_
 refine ar ?_
 refine xd λv11 hv11=>?_
 refine xs (λh12=>?_) λh12=>?_
 refine xd λv13 hv13=>?_
 refine ar ?_
 refine goA (m_cS r0 (QeZ hv11) rfl ScS.nil) ?_
 refine au ?_
 refine go (m_cS r0 (QeZ hv13) rfl ScS.nil) ?_ (gY h12)
 refine au ?_
 refine xs (λh14=>?_) λh14=>?_
 refine db ?_
 exact wJ []
 refine ca ?_
 refine xc λh15=>?_
 refine ar ?_
 refine goA (QT (c:=iC) s5.1 v10.slots h15 i22.ok i3.ok rfl rfl (.sl rfl (Qf (c:=iC) (λ_=>rfl) _)) rfl) ?_
 refine au ?_
 refine ar ?_
 exact wJ [(0,2)]
 have q0:=cS r0 (QeZ hv11)
 refine ar ?_
 refine db ?_
 exact wJ []
 refine cb ?_
 refine xo hq6 ?_
 exact wJ []
 refine ar ?_
 refine xd λv16 hv16=>?_
 refine xc λh18=>?_
 have q0:=cS r1 (Qfe hv16)
 refine ar ?_
 refine xd λv17 hv17=>?_
 replace q0:=cS r1 (Qe9 hv17)
 refine ar ?_
 exact ftt [(0,1)]
noncomputable def Qe3(p0:Sp)(p1:List Qe)(p2:List Inc):Option (List Int×Int) :=
 (XE p0 p2).bind λv1 =>
 (Xh p0 p2).bind λv2 =>
 (Qe6 p1 v2).bind λv3 =>
 (Qi (λ(s8:List Int×Int) =>
 if s8.2 < (v3.1.length:Int) then
 ((at_ v3.1 s8.2).bind λv13 =>
 if v13 < (p0.ws.length:Int) then
 ((at_ p0.ws v13).bind λv15 =>
 (Xg p0 v1 v15).bind λv16 =>
 if v16=true then
 (if ((s8.1.length:Int)+[v13].length) * 8<=140737488355328/\(s8.1.length:Int)+[v13].length<=9223372036854775807 then
 some (.go ((s8.1++[v13],w64 (s8.2+1))))
 else none)
 else
 some (.go ((s8.1,w64 (s8.2+1)))))
 else
 some (.go ((s8.1,w64 (s8.2+1)))))
 else
 some (.out (s8.1))) (([]:List Int),0)).bind λ(b4:List Int) =>
 some ((b4,v3.2))
theorem Qfg{p0 p1 p2 r}:Sm (Qe3 p0 p1 p2) r->DCall Tryz.prog 21 [.agg [DI p0.sh,.sl (p0.ws.map uC),.sl (p0.fs.map frC)],.sl (p1.map Qe.c),.sl (p2.map Inc.c)] [] (.tup [.own 0 0 r.1.length,DI r.2]) [(0,aO 1 (r.1.map iC))]:=by
 unfold Qe3
 refine mk0 Tryz.func21 ?_
 refine ar ?_
 refine xd λv1 hv1=>?_
 have q0:=cS r0 (QaV hv1)
 refine ar ?_
 refine xd λv2 hv2=>?_
 refine xd λv3 hv3=>?_
 replace q0:=cS r0 (Qa0 hv2)
 have q1:=cS r0 (Qfi hv3)
 refine ar ?_
 refine ar ?_
 refine cT [10] [(11,λb4=>.own 3 0 b4.length)] [] [] [(3,λb4=>aO 1 (b4.map iC))] 4 (λz5=>?_) λb4=>?_
 refine ar ?_
 refine xx (QU 11 1 Od rfl) ?_
 refine lP [8,10,26] [(3,λs8=>.ptr 0 0 0),(11,λs8=>.own 3 0 s8.1.length),(25,λs8=>.own 2 0 v3.1.length),(27,λs8=>DI s8.2)] [0,2] [] [(3,λs8=>aO 1 (s8.1.map iC))] 4 λs8 y9 hq9=>?_
 refine ar ?_
 refine sq λK k=>?_
 refine xs (λh11=>?_) λh11=>?_
 refine ca ?_
 refine sq λK k=>?_
 refine au ?_
 refine xa λv13 hv13=>?_
 refine ar ?_
 refine xs (λh14=>?_) λh14=>?_
 refine xa λv15 hv15=>?_
 refine xd λv16 hv16=>?_
 replace q0:=cS r0 (QaZ hv16)
 refine ar ?_
 refine xs (λh17=>?_) λh17=>?_
 refine ca ?_
 refine xc λh18=>?_
 refine ar ?_
 refine goA (Qk (c:=iC) ([v13]:List Int) i22.ok i3.ok) ?_
 refine goA (QT (c:=iC) s8.1 [v13] h18 i22.ok i3.ok rfl rfl (.own rfl rfl Os (Qf (c:=iC) (λ_=>rfl) _)) rfl) ?_
 refine au ?_
 refine ar ?_
 exact wJ [(3,5)]
 refine db ?_
 exact wJ []
 refine ar ?_
 refine db ?_
 exact wJ []
 refine cb ?_
 refine xo hq9 ?_
 exact wJ []
 refine ar ?_
 exact ftt [(0,3)]
noncomputable def Qe2(p0:List Inc)(p1:List Int)(p2:Int)(p3:Int):Option Bool :=
 if 20 < (p0.length:Int) then
 ((Jc).bind λv3 =>
 some (v3))
 else
 (QbP p1).bind λv4 =>
 (J2 v4).bind λv5 =>
 bndR ((Qe4 v5.1 p2).bind λv8 =>
 (XB v5.1.belts).bind λv9 =>
 Qi (λ(s11:Int) =>
 if s11 < ([v8,p0,v9].length:Int) then
 (bndR ((at_ [v8,p0,v9] s11).bind λv17 =>
 (Qe3 v5.1.space v5.1.sets v17).bind λv18 =>
 (Zw v5.1.space v5.1.sets v17).bind λv19 =>
 if v18.2=v19.2 then
 ((QeY v18.1 v19.1).bind λv22 =>
 if v22=true then
 ((Xh v5.1.space v17).bind λv24 =>
 (Zp v5.1.space v17).bind λv25 =>
 (QeY v24 v25).bind λv26 =>
 if v26=true then
 ((Xq v5.1.space v5.1.roots v17).bind λv28 =>
 (Zv v5.1.space v5.1.roots v17).bind λv29 =>
 (QeY v28 v29).bind λv30 =>
 if v30=true then
 (if ¬ wu (w64 ((v5.1.space.ws.length:Int)+2))=0 then
 Qi (λ(s34:Int) =>
 if s34 < ([p3,Int.tmod p3 (wu (w64 ((v5.1.space.ws.length:Int)+2)))].length:Int) then
 ((at_ [p3,Int.tmod p3 (wu (w64 ((v5.1.space.ws.length:Int)+2)))] s34).bind λv39 =>
 (ZD v5.1.space v17 v39).bind λv40 =>
 (Zo v5.1.space v17 v39).bind λv41 =>
 if (v40 != v41)=true then
 (some (.out (.inr (.out (.inr (false))))))
 else
 some (.go (w64 (s34+1))))
 else
 some (.out (.inl (())))) 0
 else none)
 else
 some (.inr (.out (.inr (false)))))
 else
 some (.inr (.out (.inr (false)))))
 else
 some (.inr (.out (.inr (false)))))
 else
 some (.inr (.out (.inr (false))))) λ(b15:Unit) =>
 some (.go (w64 (s11+1))))
 else
 some (.out (.inl (())))) 0) λ(b6:Unit) =>
 (Jc).bind λv43 =>
 some (v43)
theorem Qfa{p0 p1 p2 p3 r}:Sm (Qe2 p0 p1 p2 p3) r->DCall Tryz.prog 5 [.sl (p0.map Inc.c),.sl (p1.map iC),DI p2,DU p3] [] (DB r) []:=by
 unfold Qe2
 refine mk0 Tryz.func5 ?_
 refine ar ?_
 refine sq λK k=>?_
 refine ar ?_
 refine xs (λh2=>?_) λh2=>?_
 refine ca ?_
 refine xd λv3 hv3=>?_
 have q0:=cS r0 (QdC hv3)
 refine ar ?_
 exact ft r0
 refine cb ?_
 refine xd λv4 hv4=>?_
 refine xd λv5 hv5=>?_
 have q0:=cG r0 (F_make_New_ok hv4)
 have q1:=cG r1 (F_make_Heap_ok hv5)
 refine ar ?_
 refine cU [] [] [] [] [] 0 (λz7 hr7=>?_) λb6=>?_
 refine xd λv8 hv8=>?_
 refine xd λv9 hv9=>?_
 replace q0:=cG r0 (Qfj hv8)
 replace q1:=cG r0 (QeQ hv9)
 refine ar ?_
 refine goA (Qk (c:=(lC Inc.c)) ([v8,p0,v9]:List (List Inc)) i30.ok i46.ok) ?_
 refine au ?_
 refine lP [3,37] [(9,λs11=>.ptr 1 0 0),(36,λs11=>.own 3 0 [v8,p0,v9].length),(38,λs11=>DI s11)] [1,3] [] [] 4 λs11 y12 hq12=>?_
 refine ar ?_
 refine sq λK k=>?_
 refine xs (λh14=>?_) λh14=>?_
 refine ca ?_
 refine cU [3,9,36,37,38] [] [1,3] [] [] 4 (λz16 hr16=>?_) λb15=>?_
 refine au ?_
 refine xa λv17 hv17=>?_
 refine ar ?_
 refine xd λv18 hv18=>?_
 replace q0:=cS r0 (Qfg hv18)
 refine ar ?_
 refine xd λv19 hv19=>?_
 replace q0:=cS r0 (Qae hv19)
 refine ar ?_
 refine sq λK k=>?_
 refine xs (λh21=>?_) λh21=>?_
 refine xd λv22 hv22=>?_
 refine xs (λh23=>?_) λh23=>?_
 refine xd λv24 hv24=>?_
 refine xd λv25 hv25=>?_
 refine xd λv26 hv26=>?_
 refine xs (λh27=>?_) λh27=>?_
 refine xd λv28 hv28=>?_
 refine xd λv29 hv29=>?_
 refine xd λv30 hv30=>?_
 refine ar ?_
 refine go (m_cS r0 (QeX hv22) rfl ScS.nil) ?_ (gY (congrArg not (decide_eq_true h21)))
 refine au ?_
 refine go (m_cS r0 (Qa0 hv24) rfl (ScS.cons (scC (λ_=>rfl)) ScS.nil)) ?_ (gY (congrArg not h23))
 refine au ?_
 refine go (m_cS r0 (Qaw hv25) rfl (ScS.cons (scC (λ_=>rfl)) ScS.nil)) ?_ (gY (congrArg not h23))
 refine go (m_cS r0 (QeX hv26) rfl ScS.nil) ?_ (gY (congrArg not h23))
 refine au ?_
 refine go (m_cS r0 (Qc6 hv28) rfl (ScS.cons (scC (λ_=>rfl)) ScS.nil)) ?_ (gY (congrArg not h27))
 refine au ?_
 refine go (m_cS r0 (Qad hv29) rfl (ScS.cons (scC (λ_=>rfl)) ScS.nil)) ?_ (gY (congrArg not h27))
 refine go (m_cS r0 (QeX hv30) rfl ScS.nil) ?_ (gY (congrArg not h27))
 refine au ?_
 refine xs (λh31=>?_) λh31=>?_
 refine cb ?_
 refine xc λh32=>?_
 refine ar ?_
 refine goA (Qk (c:=uC) ([p3,Int.tmod p3 (wu (w64 ((v5.1.space.ws.length:Int)+2)))]:List Int) i26.ok i62.ok) ?_
 refine au ?_
 refine lP [3,9,12,36,37,38,107] [(106,λs34=>.own 10 0 [p3,Int.tmod p3 (wu (w64 ((v5.1.space.ws.length:Int)+2)))].length),(108,λs34=>DI s34)] [1,3,10] [] [] 11 λs34 y35 hq35=>?_
 refine ar ?_
 refine sq λK k=>?_
 refine xs (λh37=>?_) λh37=>?_
 refine ca ?_
 refine sq λK k=>?_
 refine au ?_
 refine xa λv39 hv39=>?_
 refine ar ?_
 refine xd λv40 hv40=>?_
 refine xd λv41 hv41=>?_
 replace q0:=cS r0 (Ze hv40)
 replace q1:=cS r0 (Jn hv41)
 refine ar ?_
 refine xs (λh42=>?_) λh42=>?_
 refine da ?_
 refine xo hq35 ?_
 refine xr hr16 ?_
 refine xo hq12 ?_
 refine xr hr7 ?_
 exact ft r0
 refine db ?_
 exact wJ []
 refine cb ?_
 refine xo hq35 ?_
 exact wJ []
 refine da ?_
 refine xr hr16 ?_
 refine xo hq12 ?_
 refine xr hr7 ?_
 exact ft r0
 refine ar ?_
 refine go (m_cS r0 (QeX hv22) rfl ScS.nil) ?_ (gY (congrArg not (decide_eq_true h21)))
 refine au ?_
 refine go (m_cS r0 (Qa0 hv24) rfl (ScS.cons (scC (λ_=>rfl)) ScS.nil)) ?_ (gY (congrArg not h23))
 refine au ?_
 refine go (m_cS r0 (Qaw hv25) rfl (ScS.cons (scC (λ_=>rfl)) ScS.nil)) ?_ (gY (congrArg not h23))
 refine go (m_cS r0 (QeX hv26) rfl ScS.nil) ?_ (gY (congrArg not h23))
 refine au ?_
 refine da ?_
 refine xr hr16 ?_
 refine xo hq12 ?_
 refine xr hr7 ?_
 exact ft r0
 replace q0:=cS r0 (QeX hv22)
 refine ar ?_
 refine da ?_
 refine xr hr16 ?_
 refine xo hq12 ?_
 refine xr hr7 ?_
 exact ft r0
 refine ar ?_
 refine da ?_
 refine xr hr16 ?_
 refine xo hq12 ?_
 refine xr hr7 ?_
 exact ft r0
 refine ar ?_
 exact wJ []
 refine cb ?_
 refine xo hq12 ?_
 exact wJ []
 refine xd λv43 hv43=>?_
 replace q0:=cS r0 (QdC hv43)
 refine ar ?_
 exact ft r0
end Go.Proofs.YthpnlnjdmlbnaaaGreatDoor
