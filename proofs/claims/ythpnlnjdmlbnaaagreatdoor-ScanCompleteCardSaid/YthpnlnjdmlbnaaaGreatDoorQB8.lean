/- Parts of the proof. No condition. -/
import Derived.Test.YthpnlnjdmlbnaaaGreatDoorQB0
import Derived.Test.YthpnlnjdmlbnaaaGreatDoorQB3
import Derived.Test.YthpnlnjdmlbnaaaGreatDoorQB4
import Derived.Test.YthpnlnjdmlbnaaaGreatDoorQB5
import Derived.Test.YthpnlnjdmlbnaaaGreatDoorQB6
import Derived.Test.YthpnlnjdmlbnaaaGreatDoorQB7
namespace Go.Proofs.YthpnlnjdmlbnaaaGreatDoor
open Go.RowKit
set_option linter.unusedSimpArgs false
set_option linter.unusedVariables false
set_option maxRecDepth 20000
set_option maxHeartbeats 40000000
noncomputable def Zg(p0:Hp)(p1:Int):Option Bool :=
 (QA p0.config p0.space p0.belts p0.seq p1).bind λv1 =>
 some (decide (v1.1=3))
theorem ZM{p0 p1 r}:Sm (Zg p0 p1) r->DCall Tryz.prog 225 [.agg [.lit (.string p0.config.name),.sl (p0.config.rules.map Rul.c),DI p0.config.full,DI p0.space.sh,.sl (p0.space.ws.map uC),.sl (p0.space.fs.map frC),.sl (p0.belts.map (lC Inc.c)),DI p0.seq,.sl (p0.sets.map Qe.c),.sl (p0.roots.used.map bC),.sl (p0.roots.refs.map uC),DI p0.since,DI p0.stats.allocated,DI p0.stats.objects,DI p0.stats.collections,DI p0.stats.steps,DI p0.stats.rounds,DI p0.stats.condemned,DI p0.stats.copied,DI p0.stats.entries,DI p0.stats.work,DB p0.dead],DI p1] [] (DB r) []:=by
 unfold Zg
 refine mk0 Tryz.func225 ?_
 refine ar ?_
 refine xd λv1 hv1=>?_
 have q0:=cS r0 (QQ hv1)
 refine ar ?_
 refine ar ?_
 exact ft r0
noncomputable def Z6(p0:Sp)(p1:List Inc)(p2:Inc)(p3:List Int):Option (Inc×List Mov×List Int×Int×List Int×List Fe) :=
 (Qi (λ(s6:List Int×List Fe×Int×List Inc×Int×Int×Int×Int×Int×List Mov×Int×List Int×Int) =>
 if s6.2.2.2.2.2.2.2.2.2.2.2.2 < (p3.length:Int) then
 ((at_ p3 s6.2.2.2.2.2.2.2.2.2.2.2.2).bind λv11 =>
 (Q8 (Qn.mk (Sp.mk s6.2.2.1 s6.1 s6.2.1) s6.2.2.2.1 (Inc.mk s6.2.2.2.2.1 s6.2.2.2.2.2.1 s6.2.2.2.2.2.2.1 s6.2.2.2.2.2.2.2.1 s6.2.2.2.2.2.2.2.2.1) s6.2.2.2.2.2.2.2.2.2.1 s6.2.2.2.2.2.2.2.2.2.2.1) v11).bind λv12 =>
 if v12.2.2.1.length=s6.1.length then
 if v12.2.2.2.1.length=s6.2.1.length then
 if ((s6.2.2.2.2.2.2.2.2.2.2.2.1.length:Int)+[v12.1].length) * 8<=140737488355328/\(s6.2.2.2.2.2.2.2.2.2.2.2.1.length:Int)+[v12.1].length<=9223372036854775807 then
 some (.go ((v12.2.2.1,v12.2.2.2.1,v12.2.1.s.sh,v12.2.1.l,v12.2.1.to.seq,v12.2.1.to.belt,v12.2.1.to.first,v12.2.1.to.last,v12.2.1.to.words,v12.2.2.2.2,v12.2.1.e,s6.2.2.2.2.2.2.2.2.2.2.2.1++[v12.1],w64 (s6.2.2.2.2.2.2.2.2.2.2.2.2+1))))
 else none
 else none
 else none)
 else
 some (.out ((s6.1,s6.2.1,s6.2.2.1,s6.2.2.2.1,s6.2.2.2.2.1,s6.2.2.2.2.2.1,s6.2.2.2.2.2.2.1,s6.2.2.2.2.2.2.2.1,s6.2.2.2.2.2.2.2.2.1,s6.2.2.2.2.2.2.2.2.2.1,s6.2.2.2.2.2.2.2.2.2.2.1,s6.2.2.2.2.2.2.2.2.2.2.2.1)))) (p0.ws,p0.fs,p0.sh,p1,p2.seq,p2.belt,p2.first,p2.last,p2.words,([]:List Mov),0,([]:List Int),0)).bind λ(b1:List Int×List Fe×Int×List Inc×Int×Int×Int×Int×Int×List Mov×Int×List Int) =>
 (Qi (λ(s19:List Int×List Fe×Int×List Inc×Int×Int×Int×Int×Int×List Mov×Int×Int) =>
 if s19.2.2.2.2.2.2.2.2.2.2.2 < (s19.2.2.2.2.2.2.2.2.2.1.length:Int) then
 (if s19.2.2.2.2.2.2.2.2.2.2.1=0 then
 (((at_ s19.2.2.2.2.2.2.2.2.2.1 s19.2.2.2.2.2.2.2.2.2.2.2).bind λv26 =>
 (Q5 (Sp.mk p0.sh s19.1 s19.2.1) v26.to).bind λv27 =>
 Qi (λ(s29:List Int×List Fe×Int×List Inc×Int×Int×Int×Int×Int×List Mov×Int×Int) =>
 if s29.2.2.2.2.2.2.2.2.2.2.2 < (v27.1.length:Int) then
 ((at_ v27.1 s29.2.2.2.2.2.2.2.2.2.2.2).bind λv34 =>
 (at_ s29.1 v34).bind λv35 =>
 (Q8 (Qn.mk (Sp.mk s29.2.2.1 s29.1 s29.2.1) s29.2.2.2.1 (Inc.mk s29.2.2.2.2.1 s29.2.2.2.2.2.1 s29.2.2.2.2.2.2.1 s29.2.2.2.2.2.2.2.1 s29.2.2.2.2.2.2.2.2.1) s29.2.2.2.2.2.2.2.2.2.1 s29.2.2.2.2.2.2.2.2.2.2.1) v35).bind λv36 =>
 if v36.2.2.1.length=s29.1.length then
 if v36.2.2.2.1.length=s29.2.1.length then
 (at_ v36.2.2.1 v34).bind λv37 =>
 some (.go ((v36.2.2.1.set (Int.toNat v34) v36.1,v36.2.2.2.1,v36.2.1.s.sh,v36.2.1.l,v36.2.1.to.seq,v36.2.1.to.belt,v36.2.1.to.first,v36.2.1.to.last,v36.2.1.to.words,v36.2.2.2.2,v36.2.1.e,w64 (s29.2.2.2.2.2.2.2.2.2.2.2+1))))
 else none
 else none)
 else
 some (.out ((s29.1,s29.2.1,s29.2.2.1,s29.2.2.2.1,s29.2.2.2.2.1,s29.2.2.2.2.2.1,s29.2.2.2.2.2.2.1,s29.2.2.2.2.2.2.2.1,s29.2.2.2.2.2.2.2.2.1,s29.2.2.2.2.2.2.2.2.2.1,s29.2.2.2.2.2.2.2.2.2.2.1)))) (s19.1,s19.2.1,s19.2.2.1,s19.2.2.2.1,s19.2.2.2.2.1,s19.2.2.2.2.2.1,s19.2.2.2.2.2.2.1,s19.2.2.2.2.2.2.2.1,s19.2.2.2.2.2.2.2.2.1,s19.2.2.2.2.2.2.2.2.2.1,s19.2.2.2.2.2.2.2.2.2.2.1,0)).bind λ(b24:List Int×List Fe×Int×List Inc×Int×Int×Int×Int×Int×List Mov×Int) =>
 some (.go ((b24.1,b24.2.1,b24.2.2.1,b24.2.2.2.1,b24.2.2.2.2.1,b24.2.2.2.2.2.1,b24.2.2.2.2.2.2.1,b24.2.2.2.2.2.2.2.1,b24.2.2.2.2.2.2.2.2.1,b24.2.2.2.2.2.2.2.2.2.1,b24.2.2.2.2.2.2.2.2.2.2,w64 (s19.2.2.2.2.2.2.2.2.2.2.2+1)))))
 else
 some (.out ((s19.1,s19.2.1,s19.2.2.1,s19.2.2.2.1,s19.2.2.2.2.1,s19.2.2.2.2.2.1,s19.2.2.2.2.2.2.1,s19.2.2.2.2.2.2.2.1,s19.2.2.2.2.2.2.2.2.1,s19.2.2.2.2.2.2.2.2.2.1,s19.2.2.2.2.2.2.2.2.2.2.1))))
 else
 some (.out ((s19.1,s19.2.1,s19.2.2.1,s19.2.2.2.1,s19.2.2.2.2.1,s19.2.2.2.2.2.1,s19.2.2.2.2.2.2.1,s19.2.2.2.2.2.2.2.1,s19.2.2.2.2.2.2.2.2.1,s19.2.2.2.2.2.2.2.2.2.1,s19.2.2.2.2.2.2.2.2.2.2.1)))) (b1.1,b1.2.1,b1.2.2.1,b1.2.2.2.1,b1.2.2.2.2.1,b1.2.2.2.2.2.1,b1.2.2.2.2.2.2.1,b1.2.2.2.2.2.2.2.1,b1.2.2.2.2.2.2.2.2.1,b1.2.2.2.2.2.2.2.2.2.1,b1.2.2.2.2.2.2.2.2.2.2.1,0)).bind λ(b16:List Int×List Fe×Int×List Inc×Int×Int×Int×Int×Int×List Mov×Int) =>
 some ((Inc.mk b16.2.2.2.2.1 b16.2.2.2.2.2.1 b16.2.2.2.2.2.2.1 b16.2.2.2.2.2.2.2.1 b16.2.2.2.2.2.2.2.2.1,b16.2.2.2.2.2.2.2.2.2.1,b1.2.2.2.2.2.2.2.2.2.2.2,b16.2.2.2.2.2.2.2.2.2.2,b16.1,b16.2.1))
theorem QbV{p0 p1 p2 p3 r}:Sm (Z6 p0 p1 p2 p3) r->DCall Tryz.prog 57 [.agg [DI p0.sh,.own 0 0 p0.ws.length,.own 1 0 p0.fs.length],.sl (p1.map Inc.c),.agg [DI p2.seq,DI p2.belt,DI p2.first,DI p2.last,DI p2.words],.sl (p3.map uC)] [(0,aO 1 (p0.ws.map uC)),(1,aO 3 (p0.fs.map frC))] (.tup [.agg [DI r.1.seq,DI r.1.belt,DI r.1.first,DI r.1.last,DI r.1.words],.own 2 0 r.2.1.length,.own 3 0 r.2.2.1.length,DI r.2.2.2.1]) [(0,aO 1 (r.2.2.2.2.1.map uC)),(1,aO 3 (r.2.2.2.2.2.map frC)),(2,aO 2 (r.2.1.map Mov.c)),(3,aO 1 (r.2.2.1.map uC))]:=by
 unfold Z6
 refine mk0 Tryz.func57 ?_
 refine ar ?_
 refine ar ?_
 refine ar ?_
 refine cT [] [(4,λb1=>.ptr 2 0 0),(8,λb1=>.ptr 4 0 0),(12,λb1=>.ptr 5 0 0),(13,λb1=>.own 7 0 b1.2.2.2.2.2.2.2.2.2.2.2.length)] [4] [] [(0,λb1=>aO 1 (b1.1.map uC)),(1,λb1=>aO 3 (b1.2.1.map frC)),(2,λb1=>bO 3 [DI p0.sh,.own 0 0 b1.1.length,.own 1 0 b1.2.1.length]),(5,λb1=>bO 11 [DI b1.2.2.1,.own 0 0 b1.1.length,.own 1 0 b1.2.1.length,.sl (b1.2.2.2.1.map Inc.c),DI b1.2.2.2.2.1,DI b1.2.2.2.2.2.1,DI b1.2.2.2.2.2.2.1,DI b1.2.2.2.2.2.2.2.1,DI b1.2.2.2.2.2.2.2.2.1,.own 6 0 b1.2.2.2.2.2.2.2.2.2.1.length,DI b1.2.2.2.2.2.2.2.2.2.2.1]),(6,λb1=>aO 2 (b1.2.2.2.2.2.2.2.2.2.1.map Mov.c)),(7,λb1=>aO 1 (b1.2.2.2.2.2.2.2.2.2.2.2.map uC))] 8 (λz2=>?_) λb1=>?_
 refine ar ?_
 refine xx (Qg 5 9 2 Od rfl rfl) ?_
 refine xx (QU 13 1 Od rfl) ?_
 refine lP [26,27] [(4,λs6=>.ptr 2 0 0),(8,λs6=>.ptr 4 0 0),(12,λs6=>.ptr 5 0 0),(13,λs6=>.own 7 0 s6.2.2.2.2.2.2.2.2.2.2.2.1.length),(28,λs6=>DI s6.2.2.2.2.2.2.2.2.2.2.2.2)] [4] [] [(0,λs6=>aO 1 (s6.1.map uC)),(1,λs6=>aO 3 (s6.2.1.map frC)),(2,λs6=>bO 3 [DI p0.sh,.own 0 0 s6.1.length,.own 1 0 s6.2.1.length]),(5,λs6=>bO 11 [DI s6.2.2.1,.own 0 0 s6.1.length,.own 1 0 s6.2.1.length,.sl (s6.2.2.2.1.map Inc.c),DI s6.2.2.2.2.1,DI s6.2.2.2.2.2.1,DI s6.2.2.2.2.2.2.1,DI s6.2.2.2.2.2.2.2.1,DI s6.2.2.2.2.2.2.2.2.1,.own 6 0 s6.2.2.2.2.2.2.2.2.2.1.length,DI s6.2.2.2.2.2.2.2.2.2.2.1]),(6,λs6=>aO 2 (s6.2.2.2.2.2.2.2.2.2.1.map Mov.c)),(7,λs6=>aO 1 (s6.2.2.2.2.2.2.2.2.2.2.2.1.map uC))] 8 λs6 y7 hq7=>?_
 refine ar ?_
 refine sq λK k=>?_
 refine xs (λh9=>?_) λh9=>?_
 refine ca ?_
 refine sq λK k=>?_
 refine au ?_
 refine xa λv11 hv11=>?_
 refine ar ?_
 refine xd λv12 hv12=>?_
 refine xc λh15=>?_
 refine xc λh14=>?_
 refine xc λh13=>?_
 have q0:=cG [(0,5),(1,0),(2,1),(3,6)] (JI hv12)
 refine ar ?_
 refine goA (Qk (c:=uC) ([v12.1]:List Int) i26.ok i62.ok) ?_
 refine goA (QT (c:=uC) s6.2.2.2.2.2.2.2.2.2.2.2.1 [v12.1] h13 i26.ok i62.ok rfl rfl (.own rfl rfl Os (Qf (c:=uC) (λ_=>rfl) _)) rfl) ?_
 refine au ?_
 refine ar ?_
 exact wJ [(6,8),(7,10)]
 refine cb ?_
 refine xo hq7 ?_
 exact wJ []
 refine cT [8,12,13] [] [4,7] [] [(0,λb16=>aO 1 (b16.1.map uC)),(1,λb16=>aO 3 (b16.2.1.map frC)),(5,λb16=>bO 11 [DI b16.2.2.1,.own 0 0 b16.1.length,.own 1 0 b16.2.1.length,.sl (b16.2.2.2.1.map Inc.c),DI b16.2.2.2.2.1,DI b16.2.2.2.2.2.1,DI b16.2.2.2.2.2.2.1,DI b16.2.2.2.2.2.2.2.1,DI b16.2.2.2.2.2.2.2.2.1,.own 6 0 b16.2.2.2.2.2.2.2.2.2.1.length,DI b16.2.2.2.2.2.2.2.2.2.2]),(6,λb16=>aO 2 (b16.2.2.2.2.2.2.2.2.2.1.map Mov.c))] 8 (λz17=>?_) λb16=>?_
 refine ar ?_
 refine lP [4,8,12,13] [(16,λs19=>DI s19.2.2.2.2.2.2.2.2.2.2.2)] [4,7] [] [(0,λs19=>aO 1 (s19.1.map uC)),(1,λs19=>aO 3 (s19.2.1.map frC)),(2,λs19=>bO 3 [DI p0.sh,.own 0 0 s19.1.length,.own 1 0 s19.2.1.length]),(5,λs19=>bO 11 [DI s19.2.2.1,.own 0 0 s19.1.length,.own 1 0 s19.2.1.length,.sl (s19.2.2.2.1.map Inc.c),DI s19.2.2.2.2.1,DI s19.2.2.2.2.2.1,DI s19.2.2.2.2.2.2.1,DI s19.2.2.2.2.2.2.2.1,DI s19.2.2.2.2.2.2.2.2.1,.own 6 0 s19.2.2.2.2.2.2.2.2.2.1.length,DI s19.2.2.2.2.2.2.2.2.2.2.1]),(6,λs19=>aO 2 (s19.2.2.2.2.2.2.2.2.2.1.map Mov.c))] 8 λs19 y20 hq20=>?_
 refine sq λK k=>?_
 refine xs (λh22=>?_) λh22=>?_
 refine ar ?_
 refine xs (λh23=>?_) λh23=>?_
 refine ca ?_
 refine cT [4,8,12,13,16] [] [4,7] [] [(0,λb24=>aO 1 (b24.1.map uC)),(1,λb24=>aO 3 (b24.2.1.map frC)),(2,λb24=>bO 3 [DI p0.sh,.own 0 0 b24.1.length,.own 1 0 b24.2.1.length]),(5,λb24=>bO 11 [DI b24.2.2.1,.own 0 0 b24.1.length,.own 1 0 b24.2.1.length,.sl (b24.2.2.2.1.map Inc.c),DI b24.2.2.2.2.1,DI b24.2.2.2.2.2.1,DI b24.2.2.2.2.2.2.1,DI b24.2.2.2.2.2.2.2.1,DI b24.2.2.2.2.2.2.2.2.1,.own 6 0 b24.2.2.2.2.2.2.2.2.2.1.length,DI b24.2.2.2.2.2.2.2.2.2.2]),(6,λb24=>aO 2 (b24.2.2.2.2.2.2.2.2.2.1.map Mov.c))] 8 (λz25=>?_) λb24=>?_
 refine au ?_
 refine xa λv26 hv26=>?_
 refine xd λv27 hv27=>?_
 have q0:=cS r0 (QaB hv27)
 refine ar ?_
 refine ar ?_
 refine lP [4,8,12,13,16,69] [(68,λs29=>.own 8 0 v27.1.length),(70,λs29=>DI s29.2.2.2.2.2.2.2.2.2.2.2)] [4,7,8] [] [(0,λs29=>aO 1 (s29.1.map uC)),(1,λs29=>aO 3 (s29.2.1.map frC)),(2,λs29=>bO 3 [DI p0.sh,.own 0 0 s29.1.length,.own 1 0 s29.2.1.length]),(5,λs29=>bO 11 [DI s29.2.2.1,.own 0 0 s29.1.length,.own 1 0 s29.2.1.length,.sl (s29.2.2.2.1.map Inc.c),DI s29.2.2.2.2.1,DI s29.2.2.2.2.2.1,DI s29.2.2.2.2.2.2.1,DI s29.2.2.2.2.2.2.2.1,DI s29.2.2.2.2.2.2.2.2.1,.own 6 0 s29.2.2.2.2.2.2.2.2.2.1.length,DI s29.2.2.2.2.2.2.2.2.2.2.1]),(6,λs29=>aO 2 (s29.2.2.2.2.2.2.2.2.2.1.map Mov.c))] 9 λs29 y30 hq30=>?_
 refine ar ?_
 refine sq λK k=>?_
 refine xs (λh32=>?_) λh32=>?_
 refine ca ?_
 refine sq λK k=>?_
 refine au ?_
 refine xa λv34 hv34=>?_
 refine ar ?_
 refine xa λv35 hv35=>?_
 refine xd λv36 hv36=>?_
 refine xc λh39=>?_
 refine xc λh38=>?_
 refine xa λv37 hv37=>?_
 replace q0:=cG [(0,5),(1,0),(2,1),(3,6)] (JI hv36)
 refine ar ?_
 refine goA (Z2 (c:=uC) hv37.h v36.1 i62.ok) ?_
 refine au ?_
 refine ar ?_
 exact wJ [(6,9)]
 refine cb ?_
 refine xo hq30 ?_
 exact wJ []
 refine ar ?_
 exact wJ []
 refine cb ?_
 refine xo hq20 ?_
 exact wJ []
 refine ar ?_
 refine cb ?_
 refine xo hq20 ?_
 exact wJ []
 refine ar ?_
 exact fwttt [(0,0),(1,1),(2,6),(3,7)]
noncomputable def ZK(p0:Hp)(p1:Int)(p2:Int)(p3:Int):Option (Hp×Int) :=
 (Xk p0 p1 p2 true).bind λv1 =>
 if v1.2=19 then
 (some ((Hp.mk (Cfg.mk ⟨#[]⟩ ([]:List Rul) 0) (Sp.mk 0 ([]:List Int) ([]:List Fe)) ([]:List (List Inc)) 0 ([]:List Qe) (Rts.mk ([]:List Bool) ([]:List Int)) 0 (Sts.mk 0 0 0 0 0 0 0 0 0) false,v1.2)))
 else
 (if p3=0 then
 (some (v1.2))
 else
 if (wu (p0.space.ws.length:Int)) < p3 then
 (some (1))
 else
 (JR p0 (w64 (wu (p3 - 1)))).bind λv8 =>
 if v8=true then
 (some (v1.2))
 else
 some (1)).bind λ(b4:Int) =>
 if b4=0 then
 ((Qw p0).bind λv12 =>
 (at_ v12.space.ws v1.1).bind λv13 =>
 (Q3 (Sp.mk v12.space.sh (v12.space.ws.set (Int.toNat v1.1) p3) v12.space.fs) v12.sets v1.1 p3).bind λv14 =>
 some ((Hp.mk v12.config (Sp.mk v12.space.sh (v12.space.ws.set (Int.toNat v1.1) p3) v12.space.fs) v12.belts v12.seq v14 v12.roots v12.since v12.stats v12.dead,0)))
 else
 some ((Hp.mk (Cfg.mk ⟨#[]⟩ ([]:List Rul) 0) (Sp.mk 0 ([]:List Int) ([]:List Fe)) ([]:List (List Inc)) 0 ([]:List Qe) (Rts.mk ([]:List Bool) ([]:List Int)) 0 (Sts.mk 0 0 0 0 0 0 0 0 0) false,b4))
theorem Qci{p0 p1 p2 p3 r}:Sm (ZK p0 p1 p2 p3) r->DCall Tryz.prog 180 [.agg [.lit (.string p0.config.name),.sl (p0.config.rules.map Rul.c),DI p0.config.full,DI p0.space.sh,.sl (p0.space.ws.map uC),.sl (p0.space.fs.map frC),.sl (p0.belts.map (lC Inc.c)),DI p0.seq,.sl (p0.sets.map Qe.c),.sl (p0.roots.used.map bC),.sl (p0.roots.refs.map uC),DI p0.since,DI p0.stats.allocated,DI p0.stats.objects,DI p0.stats.collections,DI p0.stats.steps,DI p0.stats.rounds,DI p0.stats.condemned,DI p0.stats.copied,DI p0.stats.entries,DI p0.stats.work,DB p0.dead],DI p1,DI p2,DU p3] [] (.tup [.agg [.lit (.string r.1.config.name),.own 0 0 r.1.config.rules.length,DI r.1.config.full,DI r.1.space.sh,.sl (r.1.space.ws.map uC),.sl (r.1.space.fs.map frC),.own 1 0 r.1.belts.length,DI r.1.seq,.sl (r.1.sets.map Qe.c),.own 2 0 r.1.roots.used.length,.own 3 0 r.1.roots.refs.length,DI r.1.since,DI r.1.stats.allocated,DI r.1.stats.objects,DI r.1.stats.collections,DI r.1.stats.steps,DI r.1.stats.rounds,DI r.1.stats.condemned,DI r.1.stats.copied,DI r.1.stats.entries,DI r.1.stats.work,DB r.1.dead],DI r.2]) [(0,aO 4 (r.1.config.rules.map Rul.c)),(1,aO 1 (r.1.belts.map (lC Inc.c))),(2,aO 1 (r.1.roots.used.map bC)),(3,aO 1 (r.1.roots.refs.map uC))]:=by
 unfold ZK
 refine mk0 Tryz.func180 ?_
 refine ar ?_
 refine xd λv1 hv1=>?_
 have q0:=cS r0 (Qa1 hv1)
 refine ar ?_
 refine sq λK k=>?_
 refine ar ?_
 refine xs (λh3=>?_) λh3=>?_
 refine da ?_
 refine xx (Qg 1 1 4 Od rfl rfl) ?_
 refine xx (Qg 1 6 1 Od rfl rfl) ?_
 refine xx (Qg 1 9 1 Od rfl rfl) ?_
 refine xx (Qg 1 10 1 Od rfl rfl) ?_
 exact fwt [(0,2),(1,3),(2,4),(3,5)]
 refine cb ?_
 refine cT [3,10] [(4,λb4=>.ptr 0 0 0),(8,λb4=>.ptr 1 0 0),(11,λb4=>DI b4)] [0,1] [] [] 2 (λz5=>?_) λb4=>?_
 refine xs (λh6=>?_) λh6=>?_
 refine ar ?_
 refine cb ?_
 exact wJ []
 refine xs (λh7=>?_) λh7=>?_
 refine ar ?_
 refine da ?_
 exact wJ []
 refine xd λv8 hv8=>?_
 replace q0:=cS r0 (QcG hv8)
 refine ar ?_
 refine xs (λh9=>?_) λh9=>?_
 refine cb ?_
 exact wJ []
 refine da ?_
 exact wJ []
 refine sq λK k=>?_
 refine ar ?_
 refine xs (λh11=>?_) λh11=>?_
 refine cb ?_
 refine xd λv12 hv12=>?_
 replace q0:=cG r0 (QP hv12)
 refine ar ?_
 refine xa λv13 hv13=>?_
 refine ar ?_
 refine goA (Z2 (c:=uC) hv13.h p3 i62.ok) ?_
 refine au ?_
 refine xd λv14 hv14=>?_
 replace q0:=cG r0 (QeN hv14)
 refine ar ?_
 refine ar ?_
 exact fwt [(0,2),(1,5),(2,7),(3,8)]
 refine da ?_
 refine xx (Qg 1 1 4 Od rfl rfl) ?_
 refine xx (Qg 1 6 1 Od rfl rfl) ?_
 refine xx (Qg 1 9 1 Od rfl rfl) ?_
 refine xx (Qg 1 10 1 Od rfl rfl) ?_
 exact fwt [(0,2),(1,3),(2,4),(3,5)]
noncomputable def Zt(p0:Hp)(p1:Int)(p2:Int)(p3:Int):Option (Hp×Int) :=
 (Xk p0 p1 p2 false).bind λv1 =>
 if v1.2=0 then
 ((Qw p0).bind λv4 =>
 (at_ v4.space.ws v1.1).bind λv5 =>
 some ((Hp.mk v4.config (Sp.mk v4.space.sh (v4.space.ws.set (Int.toNat v1.1) p3) v4.space.fs) v4.belts v4.seq v4.sets v4.roots v4.since v4.stats v4.dead,0)))
 else
 some ((Hp.mk (Cfg.mk ⟨#[]⟩ ([]:List Rul) 0) (Sp.mk 0 ([]:List Int) ([]:List Fe)) ([]:List (List Inc)) 0 ([]:List Qe) (Rts.mk ([]:List Bool) ([]:List Int)) 0 (Sts.mk 0 0 0 0 0 0 0 0 0) false,v1.2))
theorem QbR{p0 p1 p2 p3 r}:Sm (Zt p0 p1 p2 p3) r->DCall Tryz.prog 181 [.agg [.lit (.string p0.config.name),.sl (p0.config.rules.map Rul.c),DI p0.config.full,DI p0.space.sh,.sl (p0.space.ws.map uC),.sl (p0.space.fs.map frC),.sl (p0.belts.map (lC Inc.c)),DI p0.seq,.sl (p0.sets.map Qe.c),.sl (p0.roots.used.map bC),.sl (p0.roots.refs.map uC),DI p0.since,DI p0.stats.allocated,DI p0.stats.objects,DI p0.stats.collections,DI p0.stats.steps,DI p0.stats.rounds,DI p0.stats.condemned,DI p0.stats.copied,DI p0.stats.entries,DI p0.stats.work,DB p0.dead],DI p1,DI p2,DU p3] [] (.tup [.agg [.lit (.string r.1.config.name),.own 0 0 r.1.config.rules.length,DI r.1.config.full,DI r.1.space.sh,.own 1 0 r.1.space.ws.length,.own 2 0 r.1.space.fs.length,.own 3 0 r.1.belts.length,DI r.1.seq,.own 4 0 r.1.sets.length,.own 5 0 r.1.roots.used.length,.own 6 0 r.1.roots.refs.length,DI r.1.since,DI r.1.stats.allocated,DI r.1.stats.objects,DI r.1.stats.collections,DI r.1.stats.steps,DI r.1.stats.rounds,DI r.1.stats.condemned,DI r.1.stats.copied,DI r.1.stats.entries,DI r.1.stats.work,DB r.1.dead],DI r.2]) [(0,aO 4 (r.1.config.rules.map Rul.c)),(1,aO 1 (r.1.space.ws.map uC)),(2,aO 3 (r.1.space.fs.map frC)),(3,aO 1 (r.1.belts.map (lC Inc.c))),(4,aO 3 (r.1.sets.map Qe.c)),(5,aO 1 (r.1.roots.used.map bC)),(6,aO 1 (r.1.roots.refs.map uC))]:=by
 unfold Zt
 refine mk0 Tryz.func181 ?_
 refine ar ?_
 refine xd λv1 hv1=>?_
 have q0:=cS r0 (Qa1 hv1)
 refine ar ?_
 refine sq λK k=>?_
 refine ar ?_
 refine xs (λh3=>?_) λh3=>?_
 refine cb ?_
 refine xd λv4 hv4=>?_
 replace q0:=cG r0 (QP hv4)
 refine ar ?_
 refine xa λv5 hv5=>?_
 refine ar ?_
 refine goA (Z2 (c:=uC) hv5.h p3 i62.ok) ?_
 refine au ?_
 refine ar ?_
 exact fwt [(0,2),(1,3),(2,4),(3,5),(4,6),(5,7),(6,8)]
 refine da ?_
 refine xx (Qg 1 1 4 Od rfl rfl) ?_
 refine xx (Qg 1 4 1 Od rfl rfl) ?_
 refine xx (Qg 1 5 3 Od rfl rfl) ?_
 refine xx (Qg 1 6 1 Od rfl rfl) ?_
 refine xx (Qg 1 8 3 Od rfl rfl) ?_
 refine xx (Qg 1 9 1 Od rfl rfl) ?_
 refine xx (Qg 1 10 1 Od rfl rfl) ?_
 exact fwt [(0,2),(1,3),(2,4),(3,5),(4,6),(5,7),(6,8)]
noncomputable def Jm(p0:Hp)(p1:List Inc):Option (Hp×Rpt×Int) :=
 (ZQ p0 p1).bind λv1 =>
 if v1.2=0 then
 ((Qi (λ(s7:Int×Int×Int) =>
 if s7.2.2 < (p1.length:Int) then
 ((at_ p1 s7.2.2).bind λv12 =>
 (QE p0.space v12).bind λv13 =>
 some (.go ((w64 (s7.1+v13),w64 (s7.2.1+v12.words),w64 (s7.2.2+1)))))
 else
 some (.out ((s7.1,s7.2.1)))) (0,0,0)).bind λ(b4:Int×Int) =>
 (Zl p0.space).bind λv15 =>
 if (v15.length:Int) < b4.1 then
 (some ((Hp.mk (Cfg.mk ⟨#[]⟩ ([]:List Rul) 0) (Sp.mk 0 ([]:List Int) ([]:List Fe)) ([]:List (List Inc)) 0 ([]:List Qe) (Rts.mk ([]:List Bool) ([]:List Int)) 0 (Sts.mk 0 0 0 0 0 0 0 0 0) false,Rpt.mk 0 0 0 0,4)))
 else
 (Qw p0).bind λv17 =>
 (Zv p0.space p0.roots p1).bind λv18 =>
 (Zw p0.space p0.sets p1).bind λv19 =>
 (Qi (λ(s24:List Int×Int) =>
 if s24.2 < (v18.length:Int) then
 ((at_ v18 s24.2).bind λv29 =>
 (at_ p0.roots.refs (w64 (v29 - 1))).bind λv30 =>
 if ((s24.1.length:Int)+[v30].length) * 8<=140737488355328/\(s24.1.length:Int)+[v30].length<=9223372036854775807 then
 some (.go ((s24.1++[v30],w64 (s24.2+1))))
 else none)
 else
 some (.out (s24.1))) (([]:List Int),0)).bind λ(b20:List Int) =>
 (Qi (λ(s35:List Int×Int) =>
 if s35.2 < (v19.1.length:Int) then
 ((at_ v19.1 s35.2).bind λv40 =>
 (at_ p0.space.ws v40).bind λv41 =>
 if ((s35.1.length:Int)+[v41].length) * 8<=140737488355328/\(s35.1.length:Int)+[v41].length<=9223372036854775807 then
 some (.go ((s35.1++[v41],w64 (s35.2+1))))
 else none)
 else
 some (.out (s35.1))) (b20,0)).bind λ(b32:List Int) =>
 (Z6 v17.space p1 v1.1 b32).bind λv43 =>
 if v43.2.2.2.2.1.length=v17.space.ws.length then
 if v43.2.2.2.2.2.length=v17.space.fs.length then
 if v43.2.2.2.1=0 then
 ((Qi (λ(s49:List Int×Int) =>
 if s49.2 < (v18.length:Int) then
 ((at_ v18 s49.2).bind λv54 =>
 (at_ v43.2.2.1 s49.2).bind λv55 =>
 (at_ s49.1 (w64 (v54 - 1))).bind λv56 =>
 some (.go ((s49.1.set (Int.toNat (w64 (v54 - 1))) v55,w64 (s49.2+1)))))
 else
 some (.out (s49.1))) (v17.roots.refs,0)).bind λ(b46:List Int) =>
 (Qi (λ(s60:List Int×Int) =>
 if s60.2 < (v19.1.length:Int) then
 ((at_ v19.1 s60.2).bind λv65 =>
 (at_ v43.2.2.1 (w64 ((v18.length:Int)+s60.2))).bind λv66 =>
 (at_ s60.1 v65).bind λv67 =>
 some (.go ((s60.1.set (Int.toNat v65) v66,w64 (s60.2+1)))))
 else
 some (.out (s60.1))) (v43.2.2.2.2.1,0)).bind λ(b57:List Int) =>
 (Zb (Sp.mk v17.space.sh b57 v43.2.2.2.2.2) v17.sets p1 v19.1 v43.2.1).bind λv68 =>
 if v68.2.1.length=b57.length then
 if v68.2.2.length=v43.2.2.2.2.2.length then
 (Qi (λ(s72:List Int×List Fe×List (List Inc)×Int) =>
 if s72.2.2.2 < (p1.length:Int) then
 ((at_ p1 s72.2.2.2).bind λv77 =>
 (Zq s72.2.2.1 v77.seq).bind λv78 =>
 (QY (Sp.mk v17.space.sh s72.1 s72.2.1) v77.seq).bind λv79 =>
 if v79.2.1.length=s72.1.length then
 if v79.2.2.length=s72.2.1.length then
 some (.go ((v79.2.1,v79.2.2,v78.1,w64 (s72.2.2.2+1))))
 else none
 else none)
 else
 some (.out ((s72.1,s72.2.1,s72.2.2.1)))) (v68.2.1,v68.2.2,v17.belts,0)).bind λ(b69:List Int×List Fe×List (List Inc)) =>
 (if 0 < v1.1.words then
 ((QR b69.2.2 v43.1).bind λv85 =>
 some ((v85.1,v17.seq)))
 else
 if 0 < v43.1.words then
 ((Z9 b69.2.2 v43.1).bind λv87 =>
 some ((v87.1,w64 (v17.seq+1))))
 else
 some ((b69.2.2,v17.seq))).bind λ(b82:List (List Inc)×Int) =>
 (Zy p0.roots).bind λv88 =>
 some ((Hp.mk v17.config (Sp.mk v17.space.sh b69.1 b69.2.1) b82.1 b82.2 v68.1 (Rts.mk v17.roots.used b46) v17.since (Sts.mk v17.stats.allocated v17.stats.objects v17.stats.collections (w64 (v17.stats.steps+1)) v17.stats.rounds (w64 (v17.stats.condemned+b4.2)) (w64 (v17.stats.copied+(w64 (v43.1.words - v1.1.words)))) (w64 (v17.stats.entries+v19.2)) (w64 (v17.stats.work+(w64 ((w64 ((v88.length:Int)+v19.2))+(w64 (2 * (w64 (v43.1.words - v1.1.words))))))))) v17.dead,Rpt.mk b4.2 (w64 (v43.1.words - v1.1.words)) v19.2 (w64 ((w64 ((v88.length:Int)+v19.2))+(w64 (2 * (w64 (v43.1.words - v1.1.words)))))),0))
 else none
 else none)
 else
 some ((Hp.mk (Cfg.mk ⟨#[]⟩ ([]:List Rul) 0) (Sp.mk 0 ([]:List Int) ([]:List Fe)) ([]:List (List Inc)) 0 ([]:List Qe) (Rts.mk ([]:List Bool) ([]:List Int)) 0 (Sts.mk 0 0 0 0 0 0 0 0 0) false,Rpt.mk 0 0 0 0,v43.2.2.2.1))
 else none
 else none)
 else
 some ((Hp.mk (Cfg.mk ⟨#[]⟩ ([]:List Rul) 0) (Sp.mk 0 ([]:List Int) ([]:List Fe)) ([]:List (List Inc)) 0 ([]:List Qe) (Rts.mk ([]:List Bool) ([]:List Int)) 0 (Sts.mk 0 0 0 0 0 0 0 0 0) false,Rpt.mk 0 0 0 0,v1.2))
theorem F_ref25_Do_ok{p0 p1 r}:Sm (Jm p0 p1) r->DCall Tryz.prog 43 [.agg [.lit (.string p0.config.name),.sl (p0.config.rules.map Rul.c),DI p0.config.full,DI p0.space.sh,.sl (p0.space.ws.map uC),.sl (p0.space.fs.map frC),.sl (p0.belts.map (lC Inc.c)),DI p0.seq,.sl (p0.sets.map Qe.c),.sl (p0.roots.used.map bC),.sl (p0.roots.refs.map uC),DI p0.since,DI p0.stats.allocated,DI p0.stats.objects,DI p0.stats.collections,DI p0.stats.steps,DI p0.stats.rounds,DI p0.stats.condemned,DI p0.stats.copied,DI p0.stats.entries,DI p0.stats.work,DB p0.dead],.sl (p1.map Inc.c)] [] (.tup [.agg [.lit (.string r.1.config.name),.own 0 0 r.1.config.rules.length,DI r.1.config.full,DI r.1.space.sh,.own 1 0 r.1.space.ws.length,.own 2 0 r.1.space.fs.length,.own 3 0 r.1.belts.length,DI r.1.seq,.sl (r.1.sets.map Qe.c),.own 4 0 r.1.roots.used.length,.own 5 0 r.1.roots.refs.length,DI r.1.since,DI r.1.stats.allocated,DI r.1.stats.objects,DI r.1.stats.collections,DI r.1.stats.steps,DI r.1.stats.rounds,DI r.1.stats.condemned,DI r.1.stats.copied,DI r.1.stats.entries,DI r.1.stats.work,DB r.1.dead],.agg [DI r.2.1.condemned,DI r.2.1.survived,DI r.2.1.entries,DI r.2.1.work],DI r.2.2]) [(0,aO 4 (r.1.config.rules.map Rul.c)),(1,aO 1 (r.1.space.ws.map uC)),(2,aO 3 (r.1.space.fs.map frC)),(3,aO 1 (r.1.belts.map (lC Inc.c))),(4,aO 1 (r.1.roots.used.map bC)),(5,aO 1 (r.1.roots.refs.map uC))]:=by
 unfold Jm
 refine mk0 Tryz.func43 ?_
 refine ar ?_
 refine xd λv1 hv1=>?_
 have q0:=cS r0 (Qav hv1)
 refine ar ?_
 refine sq λK k=>?_
 refine ar ?_
 refine xs (λh3=>?_) λh3=>?_
 refine db ?_
 refine ar ?_
 refine cT [1] [(2,λb4=>.ptr 0 0 0),(4,λb4=>.ptr 1 0 0),(5,λb4=>.ptr 2 0 0),(7,λb4=>.ptr 3 0 0),(9,λb4=>DI b4.1),(10,λb4=>.ptr 4 0 0)] [0,1,2,3] [(4,[(0,λb4=>DI b4.2)])] [] 5 (λz5=>?_) λb4=>?_
 refine ar ?_
 refine lP [1,41,42] [(2,λs7=>.ptr 0 0 0),(4,λs7=>.ptr 1 0 0),(5,λs7=>.ptr 2 0 0),(7,λs7=>.ptr 3 0 0),(9,λs7=>DI s7.1),(10,λs7=>.ptr 4 0 0),(43,λs7=>DI s7.2.2)] [0,1,2,3] [(4,[(0,λs7=>DI s7.2.1)])] [] 5 λs7 y8 hq8=>?_
 refine ar ?_
 refine sq λK k=>?_
 refine xs (λh10=>?_) λh10=>?_
 refine ca ?_
 refine sq λK k=>?_
 refine au ?_
 refine xa λv12 hv12=>?_
 refine ar ?_
 refine xd λv13 hv13=>?_
 replace q0:=cS r0 (Q9 hv13)
 refine ar ?_
 refine ar ?_
 refine ar ?_
 exact wJ []
 refine cb ?_
 refine xo hq8 ?_
 exact wJ []
 refine sq λK k=>?_
 refine xd λv15 hv15=>?_
 replace q0:=cS r0 (Xe hv15)
 refine ar ?_
 refine xs (λh16=>?_) λh16=>?_
 refine da ?_
 refine xx (Qg 1 1 4 Od rfl rfl) ?_
 refine xx (Qg 1 4 1 Od rfl rfl) ?_
 refine xx (Qg 1 5 3 Od rfl rfl) ?_
 refine xx (Qg 1 6 1 Od rfl rfl) ?_
 refine xx (Qg 1 9 1 Od rfl rfl) ?_
 refine xx (Qg 1 10 1 Od rfl rfl) ?_
 exact fwwt [(0,6),(1,7),(2,8),(3,9),(4,10),(5,11)]
 refine cb ?_
 refine xd λv17 hv17=>?_
 replace q0:=cG r0 (QP hv17)
 refine ar ?_
 refine xd λv18 hv18=>?_
 replace q0:=cS r0 (Qad hv18)
 refine ar ?_
 refine xd λv19 hv19=>?_
 replace q0:=cS r0 (Qae hv19)
 refine ar ?_
 refine ar ?_
 refine cT [1,2,4,5,7,10,16] [(13,λb20=>.ptr 13 0 0),(14,λb20=>.own 14 0 v18.length),(15,λb20=>.own 15 0 v19.1.length),(17,λb20=>.own 16 0 b20.length)] [0,1,2,3,4,6,7,8,9,10,11,12,14,15] [(13,[(1,λb20=>.own 6 0 v17.config.rules.length),(2,λb20=>.own 7 0 v17.space.ws.length),(0,λb20=>.own 8 0 v17.space.fs.length),(0,λb20=>.own 9 0 v17.belts.length),(1,λb20=>.own 10 0 v17.sets.length),(0,λb20=>.own 11 0 v17.roots.used.length),(0,λb20=>.own 12 0 v17.roots.refs.length)])] [(16,λb20=>aO 1 (b20.map uC))] 17 (λz21=>?_) λb20=>?_
 refine ar ?_
 refine xx (QU 17 1 Od rfl) ?_
 refine lP [1,2,4,5,7,10,16,86] [(13,λs24=>.ptr 13 0 0),(14,λs24=>.own 14 0 v18.length),(15,λs24=>.own 15 0 v19.1.length),(17,λs24=>.own 16 0 s24.1.length),(85,λs24=>.own 14 0 v18.length),(87,λs24=>DI s24.2)] [0,1,2,3,4,6,7,8,9,10,11,12,14,15] [(13,[(1,λs24=>.own 6 0 v17.config.rules.length),(2,λs24=>.own 7 0 v17.space.ws.length),(0,λs24=>.own 8 0 v17.space.fs.length),(0,λs24=>.own 9 0 v17.belts.length),(1,λs24=>.own 10 0 v17.sets.length),(0,λs24=>.own 11 0 v17.roots.used.length),(0,λs24=>.own 12 0 v17.roots.refs.length)])] [(16,λs24=>aO 1 (s24.1.map uC))] 17 λs24 y25 hq25=>?_
 refine ar ?_
 refine sq λK k=>?_
 refine xs (λh27=>?_) λh27=>?_
 refine ca ?_
 refine sq λK k=>?_
 refine au ?_
 refine xa λv29 hv29=>?_
 refine ar ?_
 refine xa λv30 hv30=>?_
 refine xc λh31=>?_
 refine ar ?_
 refine goA (Qk (c:=uC) ([v30]:List Int) i26.ok i62.ok) ?_
 refine goA (QT (c:=uC) s24.1 [v30] h31 i26.ok i62.ok rfl rfl (.own rfl rfl Os (Qf (c:=uC) (λ_=>rfl) _)) rfl) ?_
 refine au ?_
 refine ar ?_
 exact wJ [(16,18)]
 refine cb ?_
 refine xo hq25 ?_
 exact wJ []
 refine cT [1,2,4,5,7,10,13,14,15,16] [(17,λb32=>.own 16 0 b32.length)] [0,1,2,3,4,6,7,8,9,10,11,12,13,14,15] [] [(16,λb32=>aO 1 (b32.map uC))] 17 (λz33=>?_) λb32=>?_
 refine ar ?_
 refine lP [1,2,4,5,7,10,13,14,15,16,103] [(17,λs35=>.own 16 0 s35.1.length),(102,λs35=>.own 15 0 v19.1.length),(104,λs35=>DI s35.2)] [0,1,2,3,4,6,7,8,9,10,11,12,13,14,15] [] [(16,λs35=>aO 1 (s35.1.map uC))] 17 λs35 y36 hq36=>?_
 refine ar ?_
 refine sq λK k=>?_
 refine xs (λh38=>?_) λh38=>?_
 refine ca ?_
 refine sq λK k=>?_
 refine au ?_
 refine xa λv40 hv40=>?_
 refine ar ?_
 refine xa λv41 hv41=>?_
 refine xc λh42=>?_
 refine ar ?_
 refine goA (Qk (c:=uC) ([v41]:List Int) i26.ok i62.ok) ?_
 refine goA (QT (c:=uC) s35.1 [v41] h42 i26.ok i62.ok rfl rfl (.own rfl rfl Os (Qf (c:=uC) (λ_=>rfl) _)) rfl) ?_
 refine au ?_
 refine ar ?_
 exact wJ [(16,18)]
 refine cb ?_
 refine xo hq36 ?_
 exact wJ []
 refine xd λv43 hv43=>?_
 refine xc λh92=>?_
 refine xc λh91=>?_
 replace q0:=cS [(0,7),(1,8)] (QbV hv43)
 refine ar ?_
 refine sq λK k=>?_
 refine ar ?_
 refine xs (λh45=>?_) λh45=>?_
 refine cb ?_
 refine cT [1,2,4,5,7,10,13,14,15,16] [(17,λb46=>.own 18 0 v43.2.2.1.length),(22,λb46=>.ptr 19 0 0),(23,λb46=>.own 17 0 v43.2.1.length)] [0,1,2,3,4,6,7,8,9,10,11,14,15,17,18,19] [(13,[(4,λb46=>.own 7 0 v43.2.2.2.2.1.length),(0,λb46=>.own 8 0 v43.2.2.2.2.2.length),(4,λb46=>.own 12 0 b46.length)])] [(12,λb46=>aO 1 (b46.map uC))] 20 (λz47=>?_) λb46=>?_
 refine ar ?_
 refine lP [1,2,4,5,7,10,13,14,15,16,135] [(17,λs49=>.own 18 0 v43.2.2.1.length),(22,λs49=>.ptr 19 0 0),(23,λs49=>.own 17 0 v43.2.1.length),(134,λs49=>.own 14 0 v18.length),(136,λs49=>DI s49.2)] [0,1,2,3,4,6,7,8,9,10,11,14,15,17,18,19] [(13,[(4,λs49=>.own 7 0 v43.2.2.2.2.1.length),(0,λs49=>.own 8 0 v43.2.2.2.2.2.length),(4,λs49=>.own 12 0 s49.1.length)])] [(12,λs49=>aO 1 (s49.1.map uC))] 20 λs49 y50 hq50=>?_
 refine ar ?_
 refine sq λK k=>?_
 refine xs (λh52=>?_) λh52=>?_
 refine ca ?_
 refine sq λK k=>?_
 refine au ?_
 refine xa λv54 hv54=>?_
 refine ar ?_
 refine xa λv55 hv55=>?_
 refine xa λv56 hv56=>?_
 refine ar ?_
 refine goA (Z2 (c:=uC) hv56.h v55 i62.ok) ?_
 refine au ?_
 refine ar ?_
 exact wJ []
 refine cb ?_
 refine xo hq50 ?_
 exact wJ []
 refine cT [1,2,4,5,7,10,13,15,16,22,23] [] [0,1,2,3,4,6,8,9,10,11,12,15,17,19] [(13,[(4,λb57=>.own 7 0 b57.length)])] [(7,λb57=>aO 1 (b57.map uC))] 20 (λz58=>?_) λb57=>?_
 refine ar ?_
 refine lP [1,2,4,5,7,10,13,14,15,16,17,22,23,153] [(152,λs60=>.own 15 0 v19.1.length),(154,λs60=>DI s60.2)] [0,1,2,3,4,6,8,9,10,11,12,14,15,17,18,19] [(13,[(4,λs60=>.own 7 0 s60.1.length)])] [(7,λs60=>aO 1 (s60.1.map uC))] 20 λs60 y61 hq61=>?_
 refine ar ?_
 refine sq λK k=>?_
 refine xs (λh63=>?_) λh63=>?_
 refine ca ?_
 refine sq λK k=>?_
 refine au ?_
 refine xa λv65 hv65=>?_
 refine ar ?_
 refine xa λv66 hv66=>?_
 refine xa λv67 hv67=>?_
 refine ar ?_
 refine goA (Z2 (c:=uC) hv67.h v66 i62.ok) ?_
 refine au ?_
 refine ar ?_
 exact wJ []
 refine cb ?_
 refine xo hq61 ?_
 exact wJ []
 refine xd λv68 hv68=>?_
 refine xc λh90=>?_
 refine xc λh89=>?_
 replace q0:=cG [(0,7),(1,8)] (Qac hv68)
 refine ar ?_
 refine cT [2,4,5,7,10,13,16,22] [] [0,1,2,3,4,6,11,12,19] [(13,[(4,λb69=>.own 7 0 b69.1.length),(0,λb69=>.own 8 0 b69.2.1.length),(0,λb69=>.own 9 0 b69.2.2.length)])] [(7,λb69=>aO 1 (b69.1.map uC)),(8,λb69=>aO 3 (b69.2.1.map frC)),(9,λb69=>aO 1 (b69.2.2.map (lC Inc.c)))] 20 (λz70=>?_) λb69=>?_
 refine ar ?_
 refine lP [2,4,5,7,10,13,16,22,181,182] [(183,λs72=>DI s72.2.2.2)] [0,1,2,3,4,6,11,12,19] [(13,[(4,λs72=>.own 7 0 s72.1.length),(0,λs72=>.own 8 0 s72.2.1.length),(0,λs72=>.own 9 0 s72.2.2.1.length)])] [(7,λs72=>aO 1 (s72.1.map uC)),(8,λs72=>aO 3 (s72.2.1.map frC)),(9,λs72=>aO 1 (s72.2.2.1.map (lC Inc.c)))] 20 λs72 y73 hq73=>?_
 refine ar ?_
 refine sq λK k=>?_
 refine xs (λh75=>?_) λh75=>?_
 refine ca ?_
 refine sq λK k=>?_
 refine au ?_
 refine xa λv77 hv77=>?_
 refine ar ?_
 refine xd λv78 hv78=>?_
 replace q0:=cG r0 (QaA hv78)
 refine ar ?_
 refine xx (Qt (Qb1 (s:=21) (xs:=v78.1) (cd:=(lD 5 Inc.c)) rfl (λ_=>rfl))) ?_
 refine xx (Qt (ZJ.flat (s:=21) (c:=(lC Inc.c)) rfl (λ_=>rfl) (λ_=>rfl))) ?_
 refine xd λv79 hv79=>?_
 refine xc λh81=>?_
 refine xc λh80=>?_
 replace q0:=cS [(0,7),(1,8)] (Qa5 hv79)
 refine ar ?_
 refine ar ?_
 exact wJ [(9,21)]
 refine cb ?_
 refine xo hq73 ?_
 exact wJ []
 refine cT [2,4,5,7,10,13,16,22] [] [0,1,2,3,4,6,7,8,11,12,19] [(13,[(6,λb82=>.own 20 0 b82.1.length),(0,λb82=>DI b82.2)])] [(20,λb82=>aO 1 (b82.1.map (lC Inc.c)))] 21 (λz83=>?_) λb82=>?_
 refine ar ?_
 refine xs (λh84=>?_) λh84=>?_
 refine ca ?_
 refine xd λv85 hv85=>?_
 replace q0:=cG r0 (X8 hv85)
 refine ar ?_
 intro H;have e:=se H;subst e;exact ZJ.trans (Qb1 (s:=20) (xs:=v85.1) (cd:=(lD 5 Inc.c)) rfl (λ_=>rfl)) (ZJ.trans (ZJ.flat (s:=20) (c:=(lC Inc.c)) rfl (λ_=>rfl) (λ_=>rfl)) (wkJ []))
 refine db ?_
 refine xs (λh86=>?_) λh86=>?_
 refine ca ?_
 refine xd λv87 hv87=>?_
 replace q0:=cG r0 (Qal hv87)
 refine ar ?_
 refine xx (Qt (Qb1 (s:=20) (xs:=v87.1) (cd:=(lD 5 Inc.c)) rfl (λ_=>rfl))) ?_
 refine xx (Qt (ZJ.flat (s:=20) (c:=(lC Inc.c)) rfl (λ_=>rfl) (λ_=>rfl))) ?_
 refine ar ?_
 exact wJ []
 refine cb ?_
 exact wJ [(20,9)]
 refine ar ?_
 refine ar ?_
 refine xd λv88 hv88=>?_
 replace q0:=cS r0 (X4 hv88)
 refine ar ?_
 refine ar ?_
 refine ar ?_
 refine ar ?_
 refine ar ?_
 refine ar ?_
 refine ar ?_
 exact fwwt [(0,6),(1,7),(2,8),(3,20),(4,11),(5,12)]
 refine da ?_
 refine xx (Qg 1 1 4 Od rfl rfl) ?_
 refine xx (Qg 1 4 1 Od rfl rfl) ?_
 refine xx (Qg 1 5 3 Od rfl rfl) ?_
 refine xx (Qg 1 6 1 Od rfl rfl) ?_
 refine xx (Qg 1 9 1 Od rfl rfl) ?_
 refine xx (Qg 1 10 1 Od rfl rfl) ?_
 exact fwwt [(0,20),(1,21),(2,22),(3,23),(4,24),(5,25)]
 refine da ?_
 refine xx (Qg 1 1 4 Od rfl rfl) ?_
 refine xx (Qg 1 4 1 Od rfl rfl) ?_
 refine xx (Qg 1 5 3 Od rfl rfl) ?_
 refine xx (Qg 1 6 1 Od rfl rfl) ?_
 refine xx (Qg 1 9 1 Od rfl rfl) ?_
 refine xx (Qg 1 10 1 Od rfl rfl) ?_
 exact fwwt [(0,4),(1,5),(2,6),(3,7),(4,8),(5,9)]
noncomputable def Jw(p0:Hp)(p1:List Inc):Option (Hp×Rpt×Int×List Int×List Fe) :=
 (ZQ p0 p1).bind λv1 =>
 if v1.2=0 then
 ((Qi (λ(s7:Int×Int×Int) =>
 if s7.2.2 < (p1.length:Int) then
 ((at_ p1 s7.2.2).bind λv12 =>
 (QE p0.space v12).bind λv13 =>
 some (.go ((w64 (s7.1+v13),w64 (s7.2.1+v12.words),w64 (s7.2.2+1)))))
 else
 some (.out ((s7.1,s7.2.1)))) (0,0,0)).bind λ(b4:Int×Int) =>
 (Zl p0.space).bind λv15 =>
 if (v15.length:Int) < b4.1 then
 (some ((Hp.mk (Cfg.mk ⟨#[]⟩ ([]:List Rul) 0) (Sp.mk 0 ([]:List Int) ([]:List Fe)) ([]:List (List Inc)) 0 ([]:List Qe) (Rts.mk ([]:List Bool) ([]:List Int)) 0 (Sts.mk 0 0 0 0 0 0 0 0 0) false,Rpt.mk 0 0 0 0,4,p0.space.ws,p0.space.fs)))
 else
 (Xr p0).bind λv17 =>
 if v17.2.1.length=p0.space.ws.length then
 if v17.2.2.length=p0.space.fs.length then
 (Zv (Sp.mk p0.space.sh v17.2.1 v17.2.2) p0.roots p1).bind λv18 =>
 (Zw (Sp.mk p0.space.sh v17.2.1 v17.2.2) p0.sets p1).bind λv19 =>
 (Qi (λ(s24:List Int×Int) =>
 if s24.2 < (v18.length:Int) then
 ((at_ v18 s24.2).bind λv29 =>
 (at_ p0.roots.refs (w64 (v29 - 1))).bind λv30 =>
 if ((s24.1.length:Int)+[v30].length) * 8<=140737488355328/\(s24.1.length:Int)+[v30].length<=9223372036854775807 then
 some (.go ((s24.1++[v30],w64 (s24.2+1))))
 else none)
 else
 some (.out (s24.1))) (([]:List Int),0)).bind λ(b20:List Int) =>
 (Qi (λ(s35:List Int×Int) =>
 if s35.2 < (v19.1.length:Int) then
 ((at_ v19.1 s35.2).bind λv40 =>
 (at_ v17.2.1 v40).bind λv41 =>
 if ((s35.1.length:Int)+[v41].length) * 8<=140737488355328/\(s35.1.length:Int)+[v41].length<=9223372036854775807 then
 some (.go ((s35.1++[v41],w64 (s35.2+1))))
 else none)
 else
 some (.out (s35.1))) (b20,0)).bind λ(b32:List Int) =>
 (Z6 v17.1.space p1 v1.1 b32).bind λv43 =>
 if v43.2.2.2.2.1.length=v17.1.space.ws.length then
 if v43.2.2.2.2.2.length=v17.1.space.fs.length then
 if v43.2.2.2.1=0 then
 ((Qi (λ(s49:List Int×Int) =>
 if s49.2 < (v18.length:Int) then
 ((at_ v18 s49.2).bind λv54 =>
 (at_ v43.2.2.1 s49.2).bind λv55 =>
 (at_ s49.1 (w64 (v54 - 1))).bind λv56 =>
 some (.go ((s49.1.set (Int.toNat (w64 (v54 - 1))) v55,w64 (s49.2+1)))))
 else
 some (.out (s49.1))) (v17.1.roots.refs,0)).bind λ(b46:List Int) =>
 (Qi (λ(s60:List Int×Int) =>
 if s60.2 < (v19.1.length:Int) then
 ((at_ v19.1 s60.2).bind λv65 =>
 (at_ v43.2.2.1 (w64 ((v18.length:Int)+s60.2))).bind λv66 =>
 (at_ s60.1 v65).bind λv67 =>
 some (.go ((s60.1.set (Int.toNat v65) v66,w64 (s60.2+1)))))
 else
 some (.out (s60.1))) (v43.2.2.2.2.1,0)).bind λ(b57:List Int) =>
 (Zb (Sp.mk v17.1.space.sh b57 v43.2.2.2.2.2) v17.1.sets p1 v19.1 v43.2.1).bind λv68 =>
 if v68.2.1.length=b57.length then
 if v68.2.2.length=v43.2.2.2.2.2.length then
 (Qi (λ(s72:List Int×List Fe×List (List Inc)×Int) =>
 if s72.2.2.2 < (p1.length:Int) then
 ((at_ p1 s72.2.2.2).bind λv77 =>
 (Zq s72.2.2.1 v77.seq).bind λv78 =>
 (QY (Sp.mk v17.1.space.sh s72.1 s72.2.1) v77.seq).bind λv79 =>
 if v79.2.1.length=s72.1.length then
 if v79.2.2.length=s72.2.1.length then
 some (.go ((v79.2.1,v79.2.2,v78.1,w64 (s72.2.2.2+1))))
 else none
 else none)
 else
 some (.out ((s72.1,s72.2.1,s72.2.2.1)))) (v68.2.1,v68.2.2,v17.1.belts,0)).bind λ(b69:List Int×List Fe×List (List Inc)) =>
 (if 0 < v1.1.words then
 ((QR b69.2.2 v43.1).bind λv85 =>
 some ((v85.1,v17.1.seq)))
 else
 if 0 < v43.1.words then
 ((Z9 b69.2.2 v43.1).bind λv87 =>
 some ((v87.1,w64 (v17.1.seq+1))))
 else
 some ((b69.2.2,v17.1.seq))).bind λ(b82:List (List Inc)×Int) =>
 (Zy p0.roots).bind λv88 =>
 some ((Hp.mk v17.1.config (Sp.mk v17.1.space.sh b69.1 b69.2.1) b82.1 b82.2 v68.1 (Rts.mk v17.1.roots.used b46) v17.1.since (Sts.mk v17.1.stats.allocated v17.1.stats.objects v17.1.stats.collections (w64 (v17.1.stats.steps+1)) v17.1.stats.rounds (w64 (v17.1.stats.condemned+b4.2)) (w64 (v17.1.stats.copied+(w64 (v43.1.words - v1.1.words)))) (w64 (v17.1.stats.entries+v19.2)) (w64 (v17.1.stats.work+(w64 ((w64 ((v88.length:Int)+v19.2))+(w64 (2 * (w64 (v43.1.words - v1.1.words))))))))) v17.1.dead,Rpt.mk b4.2 (w64 (v43.1.words - v1.1.words)) v19.2 (w64 ((w64 ((v88.length:Int)+v19.2))+(w64 (2 * (w64 (v43.1.words - v1.1.words)))))),0,v17.2.1,v17.2.2))
 else none
 else none)
 else
 some ((Hp.mk (Cfg.mk ⟨#[]⟩ ([]:List Rul) 0) (Sp.mk 0 ([]:List Int) ([]:List Fe)) ([]:List (List Inc)) 0 ([]:List Qe) (Rts.mk ([]:List Bool) ([]:List Int)) 0 (Sts.mk 0 0 0 0 0 0 0 0 0) false,Rpt.mk 0 0 0 0,v43.2.2.2.1,v17.2.1,v17.2.2))
 else none
 else none
 else none
 else none)
 else
 some ((Hp.mk (Cfg.mk ⟨#[]⟩ ([]:List Rul) 0) (Sp.mk 0 ([]:List Int) ([]:List Fe)) ([]:List (List Inc)) 0 ([]:List Qe) (Rts.mk ([]:List Bool) ([]:List Int)) 0 (Sts.mk 0 0 0 0 0 0 0 0 0) false,Rpt.mk 0 0 0 0,v1.2,p0.space.ws,p0.space.fs))
theorem QeL{p0 p1 r}:Sm (Jw p0 p1) r->DCall Tryz.prog 43 [.agg [.lit (.string p0.config.name),.sl (p0.config.rules.map Rul.c),DI p0.config.full,DI p0.space.sh,.own 0 0 p0.space.ws.length,.own 1 0 p0.space.fs.length,.sl (p0.belts.map (lC Inc.c)),DI p0.seq,.sl (p0.sets.map Qe.c),.sl (p0.roots.used.map bC),.sl (p0.roots.refs.map uC),DI p0.since,DI p0.stats.allocated,DI p0.stats.objects,DI p0.stats.collections,DI p0.stats.steps,DI p0.stats.rounds,DI p0.stats.condemned,DI p0.stats.copied,DI p0.stats.entries,DI p0.stats.work,DB p0.dead],.sl (p1.map Inc.c)] [(0,aO 1 (p0.space.ws.map uC)),(1,aO 3 (p0.space.fs.map frC))] (.tup [.agg [.lit (.string r.1.config.name),.own 2 0 r.1.config.rules.length,DI r.1.config.full,DI r.1.space.sh,.own 3 0 r.1.space.ws.length,.own 4 0 r.1.space.fs.length,.own 5 0 r.1.belts.length,DI r.1.seq,.sl (r.1.sets.map Qe.c),.own 6 0 r.1.roots.used.length,.own 7 0 r.1.roots.refs.length,DI r.1.since,DI r.1.stats.allocated,DI r.1.stats.objects,DI r.1.stats.collections,DI r.1.stats.steps,DI r.1.stats.rounds,DI r.1.stats.condemned,DI r.1.stats.copied,DI r.1.stats.entries,DI r.1.stats.work,DB r.1.dead],.agg [DI r.2.1.condemned,DI r.2.1.survived,DI r.2.1.entries,DI r.2.1.work],DI r.2.2.1]) [(0,aO 1 (r.2.2.2.1.map uC)),(1,aO 3 (r.2.2.2.2.map frC)),(2,aO 4 (r.1.config.rules.map Rul.c)),(3,aO 1 (r.1.space.ws.map uC)),(4,aO 3 (r.1.space.fs.map frC)),(5,aO 1 (r.1.belts.map (lC Inc.c))),(6,aO 1 (r.1.roots.used.map bC)),(7,aO 1 (r.1.roots.refs.map uC))]:=by
 unfold Jw
 refine mk0 Tryz.func43 ?_
 refine ar ?_
 refine xd λv1 hv1=>?_
 have q0:=cS r0 (Qav hv1)
 refine ar ?_
 refine sq λK k=>?_
 refine ar ?_
 refine xs (λh3=>?_) λh3=>?_
 refine db ?_
 refine ar ?_
 refine cT [1] [(2,λb4=>.ptr 2 0 0),(4,λb4=>.ptr 3 0 0),(5,λb4=>.ptr 4 0 0),(7,λb4=>.ptr 5 0 0),(9,λb4=>DI b4.1),(10,λb4=>.ptr 6 0 0)] [0,1,3,4,5] [(2,[(4,λb4=>.own 0 0 p0.space.ws.length),(0,λb4=>.own 1 0 p0.space.fs.length)]),(6,[(0,λb4=>DI b4.2)])] [] 7 (λz5=>?_) λb4=>?_
 refine ar ?_
 refine lP [1,41,42] [(2,λs7=>.ptr 2 0 0),(4,λs7=>.ptr 3 0 0),(5,λs7=>.ptr 4 0 0),(7,λs7=>.ptr 5 0 0),(9,λs7=>DI s7.1),(10,λs7=>.ptr 6 0 0),(43,λs7=>DI s7.2.2)] [0,1,3,4,5] [(2,[(4,λs7=>.own 0 0 p0.space.ws.length),(0,λs7=>.own 1 0 p0.space.fs.length)]),(6,[(0,λs7=>DI s7.2.1)])] [] 7 λs7 y8 hq8=>?_
 refine ar ?_
 refine sq λK k=>?_
 refine xs (λh10=>?_) λh10=>?_
 refine ca ?_
 refine sq λK k=>?_
 refine au ?_
 refine xa λv12 hv12=>?_
 refine ar ?_
 refine xd λv13 hv13=>?_
 replace q0:=cS r0 (Q9 hv13)
 refine ar ?_
 refine ar ?_
 refine ar ?_
 exact wJ []
 refine cb ?_
 refine xo hq8 ?_
 exact wJ []
 refine sq λK k=>?_
 refine xd λv15 hv15=>?_
 replace q0:=cS r0 (Xe hv15)
 refine ar ?_
 refine xs (λh16=>?_) λh16=>?_
 refine da ?_
 refine xx (Qg 3 1 4 Od rfl rfl) ?_
 refine xx (Qg 3 4 1 Od rfl rfl) ?_
 refine xx (Qg 3 5 3 Od rfl rfl) ?_
 refine xx (Qg 3 6 1 Od rfl rfl) ?_
 refine xx (Qg 3 9 1 Od rfl rfl) ?_
 refine xx (Qg 3 10 1 Od rfl rfl) ?_
 exact fwwt [(0,0),(1,1),(2,8),(3,9),(4,10),(5,11),(6,12),(7,13)]
 refine cb ?_
 refine xd λv17 hv17=>?_
 refine xc λh94=>?_
 refine xc λh93=>?_
 replace q0:=cG r2 (Qc7 hv17)
 refine ar ?_
 refine xd λv18 hv18=>?_
 replace q0:=cS r0 (Qad hv18)
 refine ar ?_
 refine xd λv19 hv19=>?_
 replace q0:=cS r0 (Qae hv19)
 refine ar ?_
 refine ar ?_
 refine cT [1,2,4,5,7,10,16] [(13,λb20=>.ptr 15 0 0),(14,λb20=>.own 16 0 v18.length),(15,λb20=>.own 17 0 v19.1.length),(17,λb20=>.own 18 0 b20.length)] [0,1,3,4,5,6,8,9,10,11,12,13,14,16,17] [(2,[(4,λb20=>.own 0 0 v17.2.1.length),(0,λb20=>.own 1 0 v17.2.2.length)]),(15,[(1,λb20=>.own 8 0 v17.1.config.rules.length),(2,λb20=>.own 9 0 v17.1.space.ws.length),(0,λb20=>.own 10 0 v17.1.space.fs.length),(0,λb20=>.own 11 0 v17.1.belts.length),(1,λb20=>.own 12 0 v17.1.sets.length),(0,λb20=>.own 13 0 v17.1.roots.used.length),(0,λb20=>.own 14 0 v17.1.roots.refs.length)])] [(18,λb20=>aO 1 (b20.map uC))] 19 (λz21=>?_) λb20=>?_
 refine ar ?_
 refine xx (QU 17 1 Od rfl) ?_
 refine lP [1,2,4,5,7,10,16,86] [(13,λs24=>.ptr 15 0 0),(14,λs24=>.own 16 0 v18.length),(15,λs24=>.own 17 0 v19.1.length),(17,λs24=>.own 18 0 s24.1.length),(85,λs24=>.own 16 0 v18.length),(87,λs24=>DI s24.2)] [0,1,3,4,5,6,8,9,10,11,12,13,14,16,17] [(2,[(4,λs24=>.own 0 0 v17.2.1.length),(0,λs24=>.own 1 0 v17.2.2.length)]),(15,[(1,λs24=>.own 8 0 v17.1.config.rules.length),(2,λs24=>.own 9 0 v17.1.space.ws.length),(0,λs24=>.own 10 0 v17.1.space.fs.length),(0,λs24=>.own 11 0 v17.1.belts.length),(1,λs24=>.own 12 0 v17.1.sets.length),(0,λs24=>.own 13 0 v17.1.roots.used.length),(0,λs24=>.own 14 0 v17.1.roots.refs.length)])] [(18,λs24=>aO 1 (s24.1.map uC))] 19 λs24 y25 hq25=>?_
 refine ar ?_
 refine sq λK k=>?_
 refine xs (λh27=>?_) λh27=>?_
 refine ca ?_
 refine sq λK k=>?_
 refine au ?_
 refine xa λv29 hv29=>?_
 refine ar ?_
 refine xa λv30 hv30=>?_
 refine xc λh31=>?_
 refine ar ?_
 refine goA (Qk (c:=uC) ([v30]:List Int) i26.ok i62.ok) ?_
 refine goA (QT (c:=uC) s24.1 [v30] h31 i26.ok i62.ok rfl rfl (.own rfl rfl Os (Qf (c:=uC) (λ_=>rfl) _)) rfl) ?_
 refine au ?_
 refine ar ?_
 exact wJ [(18,20)]
 refine cb ?_
 refine xo hq25 ?_
 exact wJ []
 refine cT [1,2,4,5,7,10,13,14,15,16] [(17,λb32=>.own 18 0 b32.length)] [0,1,2,3,4,5,6,8,9,10,11,12,13,14,15,16,17] [] [(18,λb32=>aO 1 (b32.map uC))] 19 (λz33=>?_) λb32=>?_
 refine ar ?_
 refine lP [1,2,4,5,7,10,13,14,15,16,103] [(17,λs35=>.own 18 0 s35.1.length),(102,λs35=>.own 17 0 v19.1.length),(104,λs35=>DI s35.2)] [0,1,2,3,4,5,6,8,9,10,11,12,13,14,15,16,17] [] [(18,λs35=>aO 1 (s35.1.map uC))] 19 λs35 y36 hq36=>?_
 refine ar ?_
 refine sq λK k=>?_
 refine xs (λh38=>?_) λh38=>?_
 refine ca ?_
 refine sq λK k=>?_
 refine au ?_
 refine xa λv40 hv40=>?_
 refine ar ?_
 refine xa λv41 hv41=>?_
 refine xc λh42=>?_
 refine ar ?_
 refine goA (Qk (c:=uC) ([v41]:List Int) i26.ok i62.ok) ?_
 refine goA (QT (c:=uC) s35.1 [v41] h42 i26.ok i62.ok rfl rfl (.own rfl rfl Os (Qf (c:=uC) (λ_=>rfl) _)) rfl) ?_
 refine au ?_
 refine ar ?_
 exact wJ [(18,20)]
 refine cb ?_
 refine xo hq36 ?_
 exact wJ []
 refine xd λv43 hv43=>?_
 refine xc λh92=>?_
 refine xc λh91=>?_
 replace q0:=cS [(0,9),(1,10)] (QbV hv43)
 refine ar ?_
 refine sq λK k=>?_
 refine ar ?_
 refine xs (λh45=>?_) λh45=>?_
 refine cb ?_
 refine cT [1,2,4,5,7,10,13,14,15,16] [(17,λb46=>.own 20 0 v43.2.2.1.length),(22,λb46=>.ptr 21 0 0),(23,λb46=>.own 19 0 v43.2.1.length)] [0,1,2,3,4,5,6,8,9,10,11,12,13,16,17,19,20,21] [(15,[(4,λb46=>.own 9 0 v43.2.2.2.2.1.length),(0,λb46=>.own 10 0 v43.2.2.2.2.2.length),(4,λb46=>.own 14 0 b46.length)])] [(14,λb46=>aO 1 (b46.map uC))] 22 (λz47=>?_) λb46=>?_
 refine ar ?_
 refine lP [1,2,4,5,7,10,13,14,15,16,135] [(17,λs49=>.own 20 0 v43.2.2.1.length),(22,λs49=>.ptr 21 0 0),(23,λs49=>.own 19 0 v43.2.1.length),(134,λs49=>.own 16 0 v18.length),(136,λs49=>DI s49.2)] [0,1,2,3,4,5,6,8,9,10,11,12,13,16,17,19,20,21] [(15,[(4,λs49=>.own 9 0 v43.2.2.2.2.1.length),(0,λs49=>.own 10 0 v43.2.2.2.2.2.length),(4,λs49=>.own 14 0 s49.1.length)])] [(14,λs49=>aO 1 (s49.1.map uC))] 22 λs49 y50 hq50=>?_
 refine ar ?_
 refine sq λK k=>?_
 refine xs (λh52=>?_) λh52=>?_
 refine ca ?_
 refine sq λK k=>?_
 refine au ?_
 refine xa λv54 hv54=>?_
 refine ar ?_
 refine xa λv55 hv55=>?_
 refine xa λv56 hv56=>?_
 refine ar ?_
 refine goA (Z2 (c:=uC) hv56.h v55 i62.ok) ?_
 refine au ?_
 refine ar ?_
 exact wJ []
 refine cb ?_
 refine xo hq50 ?_
 exact wJ []
 refine cT [1,2,4,5,7,10,13,15,16,22,23] [] [0,1,2,3,4,5,6,8,10,11,12,13,14,17,19,21] [(15,[(4,λb57=>.own 9 0 b57.length)])] [(9,λb57=>aO 1 (b57.map uC))] 22 (λz58=>?_) λb57=>?_
 refine ar ?_
 refine lP [1,2,4,5,7,10,13,14,15,16,17,22,23,153] [(152,λs60=>.own 17 0 v19.1.length),(154,λs60=>DI s60.2)] [0,1,2,3,4,5,6,8,10,11,12,13,14,16,17,19,20,21] [(15,[(4,λs60=>.own 9 0 s60.1.length)])] [(9,λs60=>aO 1 (s60.1.map uC))] 22 λs60 y61 hq61=>?_
 refine ar ?_
 refine sq λK k=>?_
 refine xs (λh63=>?_) λh63=>?_
 refine ca ?_
 refine sq λK k=>?_
 refine au ?_
 refine xa λv65 hv65=>?_
 refine ar ?_
 refine xa λv66 hv66=>?_
 refine xa λv67 hv67=>?_
 refine ar ?_
 refine goA (Z2 (c:=uC) hv67.h v66 i62.ok) ?_
 refine au ?_
 refine ar ?_
 exact wJ []
 refine cb ?_
 refine xo hq61 ?_
 exact wJ []
 refine xd λv68 hv68=>?_
 refine xc λh90=>?_
 refine xc λh89=>?_
 replace q0:=cG [(0,9),(1,10)] (Qac hv68)
 refine ar ?_
 refine cT [2,4,5,7,10,13,16,22] [] [0,1,2,3,4,5,6,8,13,14,21] [(15,[(4,λb69=>.own 9 0 b69.1.length),(0,λb69=>.own 10 0 b69.2.1.length),(0,λb69=>.own 11 0 b69.2.2.length)])] [(9,λb69=>aO 1 (b69.1.map uC)),(10,λb69=>aO 3 (b69.2.1.map frC)),(11,λb69=>aO 1 (b69.2.2.map (lC Inc.c)))] 22 (λz70=>?_) λb69=>?_
 refine ar ?_
 refine lP [2,4,5,7,10,13,16,22,181,182] [(183,λs72=>DI s72.2.2.2)] [0,1,2,3,4,5,6,8,13,14,21] [(15,[(4,λs72=>.own 9 0 s72.1.length),(0,λs72=>.own 10 0 s72.2.1.length),(0,λs72=>.own 11 0 s72.2.2.1.length)])] [(9,λs72=>aO 1 (s72.1.map uC)),(10,λs72=>aO 3 (s72.2.1.map frC)),(11,λs72=>aO 1 (s72.2.2.1.map (lC Inc.c)))] 22 λs72 y73 hq73=>?_
 refine ar ?_
 refine sq λK k=>?_
 refine xs (λh75=>?_) λh75=>?_
 refine ca ?_
 refine sq λK k=>?_
 refine au ?_
 refine xa λv77 hv77=>?_
 refine ar ?_
 refine xd λv78 hv78=>?_
 replace q0:=cG r0 (QaA hv78)
 refine ar ?_
 refine xx (Qt (Qb1 (s:=23) (xs:=v78.1) (cd:=(lD 5 Inc.c)) rfl (λ_=>rfl))) ?_
 refine xx (Qt (ZJ.flat (s:=23) (c:=(lC Inc.c)) rfl (λ_=>rfl) (λ_=>rfl))) ?_
 refine xd λv79 hv79=>?_
 refine xc λh81=>?_
 refine xc λh80=>?_
 replace q0:=cS [(0,9),(1,10)] (Qa5 hv79)
 refine ar ?_
 refine ar ?_
 exact wJ [(11,23)]
 refine cb ?_
 refine xo hq73 ?_
 exact wJ []
 refine cT [2,4,5,7,10,13,16,22] [] [0,1,2,3,4,5,6,8,9,10,13,14,21] [(15,[(6,λb82=>.own 22 0 b82.1.length),(0,λb82=>DI b82.2)])] [(22,λb82=>aO 1 (b82.1.map (lC Inc.c)))] 23 (λz83=>?_) λb82=>?_
 refine ar ?_
 refine xs (λh84=>?_) λh84=>?_
 refine ca ?_
 refine xd λv85 hv85=>?_
 replace q0:=cG r0 (X8 hv85)
 refine ar ?_
 intro H;have e:=se H;subst e;exact ZJ.trans (Qb1 (s:=22) (xs:=v85.1) (cd:=(lD 5 Inc.c)) rfl (λ_=>rfl)) (ZJ.trans (ZJ.flat (s:=22) (c:=(lC Inc.c)) rfl (λ_=>rfl) (λ_=>rfl)) (wkJ []))
 refine db ?_
 refine xs (λh86=>?_) λh86=>?_
 refine ca ?_
 refine xd λv87 hv87=>?_
 replace q0:=cG r0 (Qal hv87)
 refine ar ?_
 refine xx (Qt (Qb1 (s:=22) (xs:=v87.1) (cd:=(lD 5 Inc.c)) rfl (λ_=>rfl))) ?_
 refine xx (Qt (ZJ.flat (s:=22) (c:=(lC Inc.c)) rfl (λ_=>rfl) (λ_=>rfl))) ?_
 refine ar ?_
 exact wJ []
 refine cb ?_
 exact wJ [(22,11)]
 refine ar ?_
 refine ar ?_
 refine xd λv88 hv88=>?_
 replace q0:=cS r0 (X4 hv88)
 refine ar ?_
 refine ar ?_
 refine ar ?_
 refine ar ?_
 refine ar ?_
 refine ar ?_
 refine ar ?_
 exact fwwt [(0,0),(1,1),(2,8),(3,9),(4,10),(5,22),(6,13),(7,14)]
 refine da ?_
 refine xx (Qg 3 1 4 Od rfl rfl) ?_
 refine xx (Qg 3 4 1 Od rfl rfl) ?_
 refine xx (Qg 3 5 3 Od rfl rfl) ?_
 refine xx (Qg 3 6 1 Od rfl rfl) ?_
 refine xx (Qg 3 9 1 Od rfl rfl) ?_
 refine xx (Qg 3 10 1 Od rfl rfl) ?_
 exact fwwt [(0,0),(1,1),(2,22),(3,23),(4,24),(5,25),(6,26),(7,27)]
 refine da ?_
 refine xx (Qg 3 1 4 Od rfl rfl) ?_
 refine xx (Qg 3 4 1 Od rfl rfl) ?_
 refine xx (Qg 3 5 3 Od rfl rfl) ?_
 refine xx (Qg 3 6 1 Od rfl rfl) ?_
 refine xx (Qg 3 9 1 Od rfl rfl) ?_
 refine xx (Qg 3 10 1 Od rfl rfl) ?_
 exact fwwt [(0,0),(1,1),(2,6),(3,7),(4,8),(5,9),(6,10),(7,11)]
noncomputable def XZ(p0:Hp)(p1:AOp):Option (Hp×Ans) :=
 if p1.code=2 then
 ((Qz p0 p1.a).bind λv2 =>
 (ZG p0.space (w64 ((w64 v2) - 1)) p1.b true).bind λv3 =>
 if v3.2=0 then
 ((at_ p0.space.ws v3.1).bind λv6 =>
 if p1.code=4 then
 ((QV p0 v6).bind λv9 =>
 some ((v9.1,v9.2)))
 else
 if v6=0 then
 ((QV p0 0).bind λv12 =>
 some ((v12.1,v12.2)))
 else
 (XG p0).bind λv14 =>
 if v14=true then
 ((Qp p0 15).bind λv16 =>
 some ((v16.1,v16.2)))
 else
 (Qw p0).bind λv17 =>
 (XH v17.roots v6).bind λv18 =>
 (QV (Hp.mk v17.config v17.space v17.belts v17.seq v17.sets v18.1 v17.since v17.stats v17.dead) (wu v18.2.1)).bind λv19 =>
 some ((v19.1,v19.2)))
 else
 (Qp p0 v3.2).bind λv20 =>
 some ((v20.1,v20.2)))
 else
 (Qz p0 p1.a).bind λv21 =>
 (ZG p0.space (w64 ((w64 v21) - 1)) p1.b (decide (p1.code=3))).bind λv22 =>
 if v22.2=0 then
 ((at_ p0.space.ws v22.1).bind λv25 =>
 if p1.code=4 then
 ((QV p0 v25).bind λv28 =>
 some ((v28.1,v28.2)))
 else
 if p1.code=3 then
 ((Q2 p0 p1.c_ false).bind λv31 =>
 if v31=0 then
 ((Qz p0 p1.a).bind λv33 =>
 (Qz p0 p1.c_).bind λv34 =>
 (ZK p0 (w64 ((w64 v33) - 1)) p1.b v34).bind λv35 =>
 (QV v35.1 0).bind λv36 =>
 some ((v36.1,v36.2)))
 else
 (Qp p0 v31).bind λv37 =>
 some ((v37.1,v37.2)))
 else
 (Qz p0 p1.a).bind λv38 =>
 (Zt p0 (w64 ((w64 v38) - 1)) p1.b (wu p1.c_)).bind λv39 =>
 (QV v39.1 0).bind λv40 =>
 some ((v40.1,v40.2)))
 else
 (Qp p0 v22.2).bind λv41 =>
 some ((v41.1,v41.2))
theorem Qdr{p0 p1 r}:Sm (XZ p0 p1) r->DCall Tryz.prog 142 [.agg [.lit (.string p0.config.name),.sl (p0.config.rules.map Rul.c),DI p0.config.full,DI p0.space.sh,.sl (p0.space.ws.map uC),.sl (p0.space.fs.map frC),.sl (p0.belts.map (lC Inc.c)),DI p0.seq,.sl (p0.sets.map Qe.c),.sl (p0.roots.used.map bC),.sl (p0.roots.refs.map uC),DI p0.since,DI p0.stats.allocated,DI p0.stats.objects,DI p0.stats.collections,DI p0.stats.steps,DI p0.stats.rounds,DI p0.stats.condemned,DI p0.stats.copied,DI p0.stats.entries,DI p0.stats.work,DB p0.dead],.agg [DI p1.code,DI p1.a,DI p1.b,DI p1.c_]] [] (.tup [.agg [.lit (.string r.1.config.name),.sl (r.1.config.rules.map Rul.c),DI r.1.config.full,DI r.1.space.sh,.sl (r.1.space.ws.map uC),.sl (r.1.space.fs.map frC),.sl (r.1.belts.map (lC Inc.c)),DI r.1.seq,.sl (r.1.sets.map Qe.c),.sl (r.1.roots.used.map bC),.sl (r.1.roots.refs.map uC),DI r.1.since,DI r.1.stats.allocated,DI r.1.stats.objects,DI r.1.stats.collections,DI r.1.stats.steps,DI r.1.stats.rounds,DI r.1.stats.condemned,DI r.1.stats.copied,DI r.1.stats.entries,DI r.1.stats.work,DB r.1.dead],.agg [DI r.2.err,DU r.2.value]]) []:=by
 unfold XZ
 refine mk0 Tryz.func142 ?_
 refine ar ?_
 refine xs (λh1=>?_) λh1=>?_
 refine ar ?_
 refine xd λv2 hv2=>?_
 refine xd λv3 hv3=>?_
 have q0:=cS r0 (QO hv2)
 have q1:=cS r0 (JF hv3)
 refine ar ?_
 refine sq λK k=>?_
 refine ar ?_
 refine xs (λh5=>?_) λh5=>?_
 refine cb ?_
 refine xa λv6 hv6=>?_
 refine ar ?_
 refine sq λK k=>?_
 refine ar ?_
 refine ar ?_
 refine xs (λh8=>?_) λh8=>?_
 refine ca ?_
 refine xd λv9 hv9=>?_
 replace q0:=cG r0 (Qx hv9)
 refine ar ?_
 exact fww r0
 refine db ?_
 refine ca ?_
 refine sq λK k=>?_
 refine ar ?_
 refine xs (λh11=>?_) λh11=>?_
 refine ca ?_
 refine xd λv12 hv12=>?_
 replace q0:=cG r0 (Qx hv12)
 refine ar ?_
 exact fww r0
 refine cb ?_
 refine sq λK k=>?_
 refine xd λv14 hv14=>?_
 replace q0:=cS r0 (Qbu hv14)
 refine ar ?_
 refine xs (λh15=>?_) λh15=>?_
 refine ca ?_
 refine xd λv16 hv16=>?_
 replace q0:=cG r0 (Ql hv16)
 refine ar ?_
 exact fww r0
 refine cb ?_
 refine xd λv17 hv17=>?_
 replace q0:=cG r0 (QP hv17)
 refine ar ?_
 refine ar ?_
 refine xd λv18 hv18=>?_
 replace q0:=cS r0 (Qbv hv18)
 refine ar ?_
 refine xd λv19 hv19=>?_
 replace q0:=cG r0 (Qx hv19)
 refine ar ?_
 exact fww r0
 refine ca ?_
 refine xd λv20 hv20=>?_
 replace q0:=cG r0 (Ql hv20)
 refine ar ?_
 exact fww r0
 refine ar ?_
 refine xd λv21 hv21=>?_
 refine xd λv22 hv22=>?_
 have q0:=cS r0 (QO hv21)
 have q1:=cS r0 (JF hv22)
 refine ar ?_
 refine sq λK k=>?_
 refine ar ?_
 refine xs (λh24=>?_) λh24=>?_
 refine cb ?_
 refine xa λv25 hv25=>?_
 refine ar ?_
 refine sq λK k=>?_
 refine ar ?_
 refine ar ?_
 refine xs (λh27=>?_) λh27=>?_
 refine ca ?_
 refine xd λv28 hv28=>?_
 replace q0:=cG r0 (Qx hv28)
 refine ar ?_
 exact fww r0
 refine db ?_
 refine db ?_
 refine xs (λh29=>?_) λh29=>?_
 refine ca ?_
 refine sq λK k=>?_
 refine xd λv31 hv31=>?_
 replace q0:=cS r0 (Xj hv31)
 refine ar ?_
 refine ar ?_
 refine xs (λh32=>?_) λh32=>?_
 refine cb ?_
 refine xd λv33 hv33=>?_
 refine xd λv34 hv34=>?_
 refine xd λv35 hv35=>?_
 refine ar ?_
 refine goA (m_cS r0 (QO hv33) rfl ScS.nil) ?_
 refine au ?_
 refine goA (m_cS r0 (QO hv34) rfl ScS.nil) ?_
 refine goA (m_cG r0 (Qci hv35)) ?_
 refine au ?_
 refine xd λv36 hv36=>?_
 replace q0:=cG r0 (Qx hv36)
 refine ar ?_
 exact fww r0
 refine ca ?_
 refine xd λv37 hv37=>?_
 replace q0:=cG r0 (Ql hv37)
 refine ar ?_
 exact fww r0
 refine cb ?_
 refine xd λv38 hv38=>?_
 refine xd λv39 hv39=>?_
 replace q0:=cS r0 (QO hv38)
 replace q1:=cG r0 (QbR hv39)
 refine ar ?_
 refine xd λv40 hv40=>?_
 replace q0:=cG r0 (Qx hv40)
 refine ar ?_
 exact fww r0
 refine ca ?_
 refine xd λv41 hv41=>?_
 replace q0:=cG r0 (Ql hv41)
 refine ar ?_
 exact fww r0
end Go.Proofs.YthpnlnjdmlbnaaaGreatDoor
