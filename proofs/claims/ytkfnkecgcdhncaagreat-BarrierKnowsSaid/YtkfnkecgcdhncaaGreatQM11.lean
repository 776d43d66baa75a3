/- Parts of the proof. No condition. -/
import Derived.Test.YtkfnkecgcdhncaaGreatQM0
import Derived.Test.YtkfnkecgcdhncaaGreatQM4
import Derived.Test.YtkfnkecgcdhncaaGreatQM5
import Derived.Test.YtkfnkecgcdhncaaGreatQM6
import Derived.Test.YtkfnkecgcdhncaaGreatQM7
import Derived.Test.YtkfnkecgcdhncaaGreatQM8
import Derived.Test.YtkfnkecgcdhncaaGreatQM9
import Derived.Test.YtkfnkecgcdhncaaGreatQM10
namespace Go.Proofs.YtkfnkecgcdhncaaGreat
open Go.RowKit
set_option linter.unusedSimpArgs false
set_option linter.unusedVariables false
set_option maxRecDepth 20000
set_option maxHeartbeats 40000000
noncomputable def Qap(p0:Hp)(p1:List Inc):Option (Hp×Rpt×Int×List Int×List Fe) :=
 (Xj p0 p1).bind λv1 =>
 if v1.2=0 then
 ((Qh (λ(s7:Int×Int×Int) =>
 if s7.2.2<(p1.length:Int) then
 ((at_ p1 s7.2.2).bind λv12 =>
 (QN p0.space v12).bind λv13 =>
 some (.go ((w64 (s7.1+v13),w64 (s7.2.1+v12.words),w64 (s7.2.2+1)))))
 else
 some (.out ((s7.1,s7.2.1)))) (0,0,0)).bind λ(b4:Int×Int) =>
 (ZB p0.space).bind λv15 =>
 if (v15.length:Int)<b4.1 then
 (some ((Hp.mk (Cfg.mk ⟨#[]⟩ ([]:List Rul) 0) (Sp.mk 0 ([]:List Int) ([]:List Fe)) ([]:List (List Inc)) 0 ([]:List Qe) (Rts.mk ([]:List Bool) ([]:List Int)) 0 (Sts.mk 0 0 0 0 0 0 0 0 0) false,Rpt.mk 0 0 0 0,4,p0.space.ws,p0.space.fs)))
 else
 (Jb p0).bind λv17 =>
 if v17.2.1.length=p0.space.ws.length then
 if v17.2.2.length=p0.space.fs.length then
 (ZS (Sp.mk p0.space.sh v17.2.1 v17.2.2) p0.roots p1).bind λv18 =>
 (ZT (Sp.mk p0.space.sh v17.2.1 v17.2.2) p0.sets p1).bind λv19 =>
 (Qh (λ(s24:List Int×Int) =>
 if s24.2<(v18.length:Int) then
 ((at_ v18 s24.2).bind λv29 =>
 (at_ p0.roots.refs (w64 (v29-1))).bind λv30 =>
 if ((s24.1.length:Int)+[v30].length)*8<=140737488355328/\(s24.1.length:Int)+[v30].length<=9223372036854775807 then
 some (.go ((s24.1++[v30],w64 (s24.2+1))))
 else none)
 else
 some (.out (s24.1))) (([]:List Int),0)).bind λ(b20:List Int) =>
 (Qh (λ(s35:List Int×Int) =>
 if s35.2<(v19.1.length:Int) then
 ((at_ v19.1 s35.2).bind λv40 =>
 (at_ v17.2.1 v40).bind λv41 =>
 if ((s35.1.length:Int)+[v41].length)*8<=140737488355328/\(s35.1.length:Int)+[v41].length<=9223372036854775807 then
 some (.go ((s35.1++[v41],w64 (s35.2+1))))
 else none)
 else
 some (.out (s35.1))) (b20,0)).bind λ(b32:List Int) =>
 (XH v17.1.space p1 v1.1 b32).bind λv43 =>
 if v43.2.2.2.2.1.length=v17.1.space.ws.length then
 if v43.2.2.2.2.2.length=v17.1.space.fs.length then
 if v43.2.2.2.1=0 then
 ((Qh (λ(s49:List Int×Int) =>
 if s49.2<(v18.length:Int) then
 ((at_ v18 s49.2).bind λv54 =>
 (at_ v43.2.2.1 s49.2).bind λv55 =>
 (at_ s49.1 (w64 (v54-1))).bind λv56 =>
 some (.go ((s49.1.set (Int.toNat (w64 (v54-1))) v55,w64 (s49.2+1)))))
 else
 some (.out (s49.1))) (v17.1.roots.refs,0)).bind λ(b46:List Int) =>
 (Qh (λ(s60:List Int×Int) =>
 if s60.2<(v19.1.length:Int) then
 ((at_ v19.1 s60.2).bind λv65 =>
 (at_ v43.2.2.1 (w64 ((v18.length:Int)+s60.2))).bind λv66 =>
 (at_ s60.1 v65).bind λv67 =>
 some (.go ((s60.1.set (Int.toNat v65) v66,w64 (s60.2+1)))))
 else
 some (.out (s60.1))) (v43.2.2.2.2.1,0)).bind λ(b57:List Int) =>
 (Zq (Sp.mk v17.1.space.sh b57 v43.2.2.2.2.2) v17.1.sets p1 v19.1 v43.2.1).bind λv68 =>
 if v68.2.1.length=b57.length then
 if v68.2.2.length=v43.2.2.2.2.2.length then
 (Qh (λ(s72:List Int×List Fe×List (List Inc)×Int) =>
 if s72.2.2.2<(p1.length:Int) then
 ((at_ p1 s72.2.2.2).bind λv77 =>
 (ZJ s72.2.2.1 v77.seq).bind λv78 =>
 (Zf (Sp.mk v17.1.space.sh s72.1 s72.2.1) v77.seq).bind λv79 =>
 if v79.2.1.length=s72.1.length then
 if v79.2.2.length=s72.2.1.length then
 some (.go ((v79.2.1,v79.2.2,v78.1,w64 (s72.2.2.2+1))))
 else none
 else none)
 else
 some (.out ((s72.1,s72.2.1,s72.2.2.1)))) (v68.2.1,v68.2.2,v17.1.belts,0)).bind λ(b69:List Int×List Fe×List (List Inc)) =>
 (if 0<v1.1.words then
 ((Q4 b69.2.2 v43.1).bind λv85 =>
 some ((v85.1,v17.1.seq)))
 else
 if 0<v43.1.words then
 ((XM b69.2.2 v43.1).bind λv87 =>
 some ((v87.1,w64 (v17.1.seq+1))))
 else
 some ((b69.2.2,v17.1.seq))).bind λ(b82:List (List Inc)×Int) =>
 (ZX p0.roots).bind λv88 =>
 some ((Hp.mk v17.1.config (Sp.mk v17.1.space.sh b69.1 b69.2.1) b82.1 b82.2 v68.1 (Rts.mk v17.1.roots.used b46) v17.1.since (Sts.mk v17.1.stats.allocated v17.1.stats.objects v17.1.stats.collections (w64 (v17.1.stats.steps+1)) v17.1.stats.rounds (w64 (v17.1.stats.condemned+b4.2)) (w64 (v17.1.stats.copied+(w64 (v43.1.words-v1.1.words)))) (w64 (v17.1.stats.entries+v19.2)) (w64 (v17.1.stats.work+(w64 ((w64 ((v88.length:Int)+v19.2))+(w64 (2*(w64 (v43.1.words-v1.1.words))))))))) v17.1.dead,Rpt.mk b4.2 (w64 (v43.1.words-v1.1.words)) v19.2 (w64 ((w64 ((v88.length:Int)+v19.2))+(w64 (2*(w64 (v43.1.words-v1.1.words)))))),0,v17.2.1,v17.2.2))
 else none
 else none)
 else
 some ((Hp.mk (Cfg.mk ⟨#[]⟩ ([]:List Rul) 0) (Sp.mk 0 ([]:List Int) ([]:List Fe)) ([]:List (List Inc)) 0 ([]:List Qe) (Rts.mk ([]:List Bool) ([]:List Int)) 0 (Sts.mk 0 0 0 0 0 0 0 0 0) false,Rpt.mk 0 0 0 0,v43.2.2.2.1,v17.2.1,v17.2.2))
 else none
 else none
 else none
 else none)
 else
 some ((Hp.mk (Cfg.mk ⟨#[]⟩ ([]:List Rul) 0) (Sp.mk 0 ([]:List Int) ([]:List Fe)) ([]:List (List Inc)) 0 ([]:List Qe) (Rts.mk ([]:List Bool) ([]:List Int)) 0 (Sts.mk 0 0 0 0 0 0 0 0 0) false,Rpt.mk 0 0 0 0,v1.2,p0.space.ws,p0.space.fs))
theorem Qgw{p0 p1 r}:Sm (Qap p0 p1) r->DCall Tryz.prog 167 [.agg [.lit (.string p0.config.name),.sl (p0.config.rules.map Rul.c),DI p0.config.full,DI p0.space.sh,.own 0 0 p0.space.ws.length,.own 1 0 p0.space.fs.length,.sl (p0.belts.map (lC Inc.c)),DI p0.seq,.sl (p0.sets.map Qe.c),.sl (p0.roots.used.map bC),.sl (p0.roots.refs.map uC),DI p0.since,DI p0.stats.allocated,DI p0.stats.objects,DI p0.stats.collections,DI p0.stats.steps,DI p0.stats.rounds,DI p0.stats.condemned,DI p0.stats.copied,DI p0.stats.entries,DI p0.stats.work,DB p0.dead],.sl (p1.map Inc.c)] [(0,aO 1 (p0.space.ws.map uC)),(1,aO 3 (p0.space.fs.map frC))] (.tup [.agg [.lit (.string r.1.config.name),.own 2 0 r.1.config.rules.length,DI r.1.config.full,DI r.1.space.sh,.own 3 0 r.1.space.ws.length,.own 4 0 r.1.space.fs.length,.own 5 0 r.1.belts.length,DI r.1.seq,.sl (r.1.sets.map Qe.c),.own 6 0 r.1.roots.used.length,.own 7 0 r.1.roots.refs.length,DI r.1.since,DI r.1.stats.allocated,DI r.1.stats.objects,DI r.1.stats.collections,DI r.1.stats.steps,DI r.1.stats.rounds,DI r.1.stats.condemned,DI r.1.stats.copied,DI r.1.stats.entries,DI r.1.stats.work,DB r.1.dead],.agg [DI r.2.1.condemned,DI r.2.1.survived,DI r.2.1.entries,DI r.2.1.work],DI r.2.2.1]) [(0,aO 1 (r.2.2.2.1.map uC)),(1,aO 3 (r.2.2.2.2.map frC)),(2,aO 4 (r.1.config.rules.map Rul.c)),(3,aO 1 (r.1.space.ws.map uC)),(4,aO 3 (r.1.space.fs.map frC)),(5,aO 1 (r.1.belts.map (lC Inc.c))),(6,aO 1 (r.1.roots.used.map bC)),(7,aO 1 (r.1.roots.refs.map uC))]:=by
 unfold Qap
 &mk0 Tryz.func167 ?_
 &ar ?_
 &xd λv1 hv1=>?_
 have q0:=cS r0 (QbD hv1)
 &ar ?_
 &sq λK k=>?_
 &ar ?_
 &xs (λh3=>?_) λh3=>?_
 &db ?_
 &ar ?_
 &cT [1] [(2,λb4=>.ptr 2 0 0),(4,λb4=>.ptr 3 0 0),(5,λb4=>.ptr 4 0 0),(7,λb4=>.ptr 5 0 0),(9,λb4=>DI b4.1),(10,λb4=>.ptr 6 0 0)] [0,1,3,4,5] [(2,[(4,λb4=>.own 0 0 p0.space.ws.length),(0,λb4=>.own 1 0 p0.space.fs.length)]),(6,[(0,λb4=>DI b4.2)])] [] 7 (λz5=>?_) λb4=>?_
 &ar ?_
 &lP [1,41,42] [(2,λs7=>.ptr 2 0 0),(4,λs7=>.ptr 3 0 0),(5,λs7=>.ptr 4 0 0),(7,λs7=>.ptr 5 0 0),(9,λs7=>DI s7.1),(10,λs7=>.ptr 6 0 0),(43,λs7=>DI s7.2.2)] [0,1,3,4,5] [(2,[(4,λs7=>.own 0 0 p0.space.ws.length),(0,λs7=>.own 1 0 p0.space.fs.length)]),(6,[(0,λs7=>DI s7.2.1)])] [] 7 λs7 y8 hq8=>?_
 &ar ?_
 &sq λK k=>?_
 &xs (λh10=>?_) λh10=>?_
 &ca ?_
 &sq λK k=>?_
 &au ?_
 &xa λv12 hv12=>?_
 &ar ?_
 &xd λv13 hv13=>?_
 replace q0:=cS r0 (Zo hv13)
 &ar ?_
 &ar ?_
 &ar ?_
 ~wJ []
 &cb ?_
 &xo hq8 ?_
 ~wJ []
 &sq λK k=>?_
 &xd λv15 hv15=>?_
 replace q0:=cS r0 (XR hv15)
 &ar ?_
 &xs (λh16=>?_) λh16=>?_
 &da ?_
 &xx (Qj 3 1 4 Od rfl rfl) ?_
 &xx (Qj 3 4 1 Od rfl rfl) ?_
 &xx (Qj 3 5 3 Od rfl rfl) ?_
 &xx (Qj 3 6 1 Od rfl rfl) ?_
 &xx (Qj 3 9 1 Od rfl rfl) ?_
 &xx (Qj 3 10 1 Od rfl rfl) ?_
 ~fwwt [(0,0),(1,1),(2,8),(3,9),(4,10),(5,11),(6,12),(7,13)]
 &cb ?_
 &xd λv17 hv17=>?_
 &xc λh94=>?_
 &xc λh93=>?_
 replace q0:=cG r2 (QeD hv17)
 &ar ?_
 &xd λv18 hv18=>?_
 replace q0:=cS r0 (Qbj hv18)
 &ar ?_
 &xd λv19 hv19=>?_
 replace q0:=cS r0 (Qbk hv19)
 &ar ?_
 &ar ?_
 &cT [1,2,4,5,7,10,16] [(13,λb20=>.ptr 15 0 0),(14,λb20=>.own 16 0 v18.length),(15,λb20=>.own 17 0 v19.1.length),(17,λb20=>.own 18 0 b20.length)] [0,1,3,4,5,6,8,9,10,11,12,13,14,16,17] [(2,[(4,λb20=>.own 0 0 v17.2.1.length),(0,λb20=>.own 1 0 v17.2.2.length)]),(15,[(1,λb20=>.own 8 0 v17.1.config.rules.length),(2,λb20=>.own 9 0 v17.1.space.ws.length),(0,λb20=>.own 10 0 v17.1.space.fs.length),(0,λb20=>.own 11 0 v17.1.belts.length),(1,λb20=>.own 12 0 v17.1.sets.length),(0,λb20=>.own 13 0 v17.1.roots.used.length),(0,λb20=>.own 14 0 v17.1.roots.refs.length)])] [(18,λb20=>aO 1 (b20.map uC))] 19 (λz21=>?_) λb20=>?_
 &ar ?_
 &xx (Qz 17 1 Od rfl) ?_
 &lP [1,2,4,5,7,10,16,86] [(13,λs24=>.ptr 15 0 0),(14,λs24=>.own 16 0 v18.length),(15,λs24=>.own 17 0 v19.1.length),(17,λs24=>.own 18 0 s24.1.length),(85,λs24=>.own 16 0 v18.length),(87,λs24=>DI s24.2)] [0,1,3,4,5,6,8,9,10,11,12,13,14,16,17] [(2,[(4,λs24=>.own 0 0 v17.2.1.length),(0,λs24=>.own 1 0 v17.2.2.length)]),(15,[(1,λs24=>.own 8 0 v17.1.config.rules.length),(2,λs24=>.own 9 0 v17.1.space.ws.length),(0,λs24=>.own 10 0 v17.1.space.fs.length),(0,λs24=>.own 11 0 v17.1.belts.length),(1,λs24=>.own 12 0 v17.1.sets.length),(0,λs24=>.own 13 0 v17.1.roots.used.length),(0,λs24=>.own 14 0 v17.1.roots.refs.length)])] [(18,λs24=>aO 1 (s24.1.map uC))] 19 λs24 y25 hq25=>?_
 &ar ?_
 &sq λK k=>?_
 &xs (λh27=>?_) λh27=>?_
 &ca ?_
 &sq λK k=>?_
 &au ?_
 &xa λv29 hv29=>?_
 &ar ?_
 &xa λv30 hv30=>?_
 &xc λh31=>?_
 &ar ?_
 &goA (Ql (c:=uC) ([v30]:List Int) i26.ok i61.ok) ?_
 &goA (QW (c:=uC) s24.1 [v30] h31 i26.ok i61.ok rfl rfl (.own rfl rfl Os (Qg (c:=uC) (λ_=>rfl) _)) rfl) ?_
 &au ?_
 &ar ?_
 ~wJ [(18,20)]
 &cb ?_
 &xo hq25 ?_
 ~wJ []
 &cT [1,2,4,5,7,10,13,14,15,16] [(17,λb32=>.own 18 0 b32.length)] [0,1,2,3,4,5,6,8,9,10,11,12,13,14,15,16,17] [] [(18,λb32=>aO 1 (b32.map uC))] 19 (λz33=>?_) λb32=>?_
 &ar ?_
 &lP [1,2,4,5,7,10,13,14,15,16,103] [(17,λs35=>.own 18 0 s35.1.length),(102,λs35=>.own 17 0 v19.1.length),(104,λs35=>DI s35.2)] [0,1,2,3,4,5,6,8,9,10,11,12,13,14,15,16,17] [] [(18,λs35=>aO 1 (s35.1.map uC))] 19 λs35 y36 hq36=>?_
 &ar ?_
 &sq λK k=>?_
 &xs (λh38=>?_) λh38=>?_
 &ca ?_
 &sq λK k=>?_
 &au ?_
 &xa λv40 hv40=>?_
 &ar ?_
 &xa λv41 hv41=>?_
 &xc λh42=>?_
 &ar ?_
 &goA (Ql (c:=uC) ([v41]:List Int) i26.ok i61.ok) ?_
 &goA (QW (c:=uC) s35.1 [v41] h42 i26.ok i61.ok rfl rfl (.own rfl rfl Os (Qg (c:=uC) (λ_=>rfl) _)) rfl) ?_
 &au ?_
 &ar ?_
 ~wJ [(18,20)]
 &cb ?_
 &xo hq36 ?_
 ~wJ []
 &xd λv43 hv43=>?_
 &xc λh92=>?_
 &xc λh91=>?_
 replace q0:=cS [(0,9),(1,10)] (Qdf hv43)
 &ar ?_
 &sq λK k=>?_
 &ar ?_
 &xs (λh45=>?_) λh45=>?_
 &cb ?_
 &cT [1,2,4,5,7,10,13,14,15,16] [(17,λb46=>.own 20 0 v43.2.2.1.length),(22,λb46=>.ptr 21 0 0),(23,λb46=>.own 19 0 v43.2.1.length)] [0,1,2,3,4,5,6,8,9,10,11,12,13,16,17,19,20,21] [(15,[(4,λb46=>.own 9 0 v43.2.2.2.2.1.length),(0,λb46=>.own 10 0 v43.2.2.2.2.2.length),(4,λb46=>.own 14 0 b46.length)])] [(14,λb46=>aO 1 (b46.map uC))] 22 (λz47=>?_) λb46=>?_
 &ar ?_
 &lP [1,2,4,5,7,10,13,14,15,16,135] [(17,λs49=>.own 20 0 v43.2.2.1.length),(22,λs49=>.ptr 21 0 0),(23,λs49=>.own 19 0 v43.2.1.length),(134,λs49=>.own 16 0 v18.length),(136,λs49=>DI s49.2)] [0,1,2,3,4,5,6,8,9,10,11,12,13,16,17,19,20,21] [(15,[(4,λs49=>.own 9 0 v43.2.2.2.2.1.length),(0,λs49=>.own 10 0 v43.2.2.2.2.2.length),(4,λs49=>.own 14 0 s49.1.length)])] [(14,λs49=>aO 1 (s49.1.map uC))] 22 λs49 y50 hq50=>?_
 &ar ?_
 &sq λK k=>?_
 &xs (λh52=>?_) λh52=>?_
 &ca ?_
 &sq λK k=>?_
 &au ?_
 &xa λv54 hv54=>?_
 &ar ?_
 &xa λv55 hv55=>?_
 &xa λv56 hv56=>?_
 &ar ?_
 &goA (Xr (c:=uC) hv56.h v55 i61.ok) ?_
 &au ?_
 &ar ?_
 ~wJ []
 &cb ?_
 &xo hq50 ?_
 ~wJ []
 &cT [1,2,4,5,7,10,13,15,16,22,23] [] [0,1,2,3,4,5,6,8,10,11,12,13,14,17,19,21] [(15,[(4,λb57=>.own 9 0 b57.length)])] [(9,λb57=>aO 1 (b57.map uC))] 22 (λz58=>?_) λb57=>?_
 &ar ?_
 &lP [1,2,4,5,7,10,13,14,15,16,17,22,23,153] [(152,λs60=>.own 17 0 v19.1.length),(154,λs60=>DI s60.2)] [0,1,2,3,4,5,6,8,10,11,12,13,14,16,17,19,20,21] [(15,[(4,λs60=>.own 9 0 s60.1.length)])] [(9,λs60=>aO 1 (s60.1.map uC))] 22 λs60 y61 hq61=>?_
 &ar ?_
 &sq λK k=>?_
 &xs (λh63=>?_) λh63=>?_
 &ca ?_
 &sq λK k=>?_
 &au ?_
 &xa λv65 hv65=>?_
 &ar ?_
 &xa λv66 hv66=>?_
 &xa λv67 hv67=>?_
 &ar ?_
 &goA (Xr (c:=uC) hv67.h v66 i61.ok) ?_
 &au ?_
 &ar ?_
 ~wJ []
 &cb ?_
 &xo hq61 ?_
 ~wJ []
 &xd λv68 hv68=>?_
 &xc λh90=>?_
 &xc λh89=>?_
 replace q0:=cG [(0,9),(1,10)] (Qbi hv68)
 &ar ?_
 &cT [2,4,5,7,10,13,16,22] [] [0,1,2,3,4,5,6,8,13,14,21] [(15,[(4,λb69=>.own 9 0 b69.1.length),(0,λb69=>.own 10 0 b69.2.1.length),(0,λb69=>.own 11 0 b69.2.2.length)])] [(9,λb69=>aO 1 (b69.1.map uC)),(10,λb69=>aO 3 (b69.2.1.map frC)),(11,λb69=>aO 1 (b69.2.2.map (lC Inc.c)))] 22 (λz70=>?_) λb69=>?_
 &ar ?_
 &lP [2,4,5,7,10,13,16,22,181,182] [(183,λs72=>DI s72.2.2.2)] [0,1,2,3,4,5,6,8,13,14,21] [(15,[(4,λs72=>.own 9 0 s72.1.length),(0,λs72=>.own 10 0 s72.2.1.length),(0,λs72=>.own 11 0 s72.2.2.1.length)])] [(9,λs72=>aO 1 (s72.1.map uC)),(10,λs72=>aO 3 (s72.2.1.map frC)),(11,λs72=>aO 1 (s72.2.2.1.map (lC Inc.c)))] 22 λs72 y73 hq73=>?_
 &ar ?_
 &sq λK k=>?_
 &xs (λh75=>?_) λh75=>?_
 &ca ?_
 &sq λK k=>?_
 &au ?_
 &xa λv77 hv77=>?_
 &ar ?_
 &xd λv78 hv78=>?_
 replace q0:=cG r0 (QbI hv78)
 &ar ?_
 &xx (Qp (Qcq (s:=23) (xs:=v78.1) (cd:=(lD 5 Inc.c)) rfl (λ_=>rfl))) ?_
 &xx (Qp (ZM.flat (s:=23) (c:=(lC Inc.c)) rfl (λ_=>rfl) (λ_=>rfl))) ?_
 &xd λv79 hv79=>?_
 &xc λh81=>?_
 &xc λh80=>?_
 replace q0:=cS [(0,9),(1,10)] (Qch hv79)
 &ar ?_
 &ar ?_
 ~wJ [(11,23)]
 &cb ?_
 &xo hq73 ?_
 ~wJ []
 &cT [2,4,5,7,10,13,16,22] [] [0,1,2,3,4,5,6,8,9,10,13,14,21] [(15,[(6,λb82=>.own 22 0 b82.1.length),(0,λb82=>DI b82.2)])] [(22,λb82=>aO 1 (b82.1.map (lC Inc.c)))] 23 (λz83=>?_) λb82=>?_
 &ar ?_
 &xs (λh84=>?_) λh84=>?_
 &ca ?_
 &xd λv85 hv85=>?_
 replace q0:=cG r0 (JT hv85)
 &ar ?_
 intro H;have e:=se H;subst e;~ZM.trans (Qcq (s:=22) (xs:=v85.1) (cd:=(lD 5 Inc.c)) rfl (λ_=>rfl)) (ZM.trans (ZM.flat (s:=22) (c:=(lC Inc.c)) rfl (λ_=>rfl) (λ_=>rfl)) (wkJ []))
 &db ?_
 &xs (λh86=>?_) λh86=>?_
 &ca ?_
 &xd λv87 hv87=>?_
 replace q0:=cG r0 (Qbt hv87)
 &ar ?_
 &xx (Qp (Qcq (s:=22) (xs:=v87.1) (cd:=(lD 5 Inc.c)) rfl (λ_=>rfl))) ?_
 &xx (Qp (ZM.flat (s:=22) (c:=(lC Inc.c)) rfl (λ_=>rfl) (λ_=>rfl))) ?_
 &ar ?_
 ~wJ []
 &cb ?_
 ~wJ [(22,11)]
 &ar ?_
 &ar ?_
 &xd λv88 hv88=>?_
 replace q0:=cS r0 (JP hv88)
 &ar ?_
 &ar ?_
 &ar ?_
 &ar ?_
 &ar ?_
 &ar ?_
 &ar ?_
 ~fwwt [(0,0),(1,1),(2,8),(3,9),(4,10),(5,22),(6,13),(7,14)]
 &da ?_
 &xx (Qj 3 1 4 Od rfl rfl) ?_
 &xx (Qj 3 4 1 Od rfl rfl) ?_
 &xx (Qj 3 5 3 Od rfl rfl) ?_
 &xx (Qj 3 6 1 Od rfl rfl) ?_
 &xx (Qj 3 9 1 Od rfl rfl) ?_
 &xx (Qj 3 10 1 Od rfl rfl) ?_
 ~fwwt [(0,0),(1,1),(2,22),(3,23),(4,24),(5,25),(6,26),(7,27)]
 &da ?_
 &xx (Qj 3 1 4 Od rfl rfl) ?_
 &xx (Qj 3 4 1 Od rfl rfl) ?_
 &xx (Qj 3 5 3 Od rfl rfl) ?_
 &xx (Qj 3 6 1 Od rfl rfl) ?_
 &xx (Qj 3 9 1 Od rfl rfl) ?_
 &xx (Qj 3 10 1 Od rfl rfl) ?_
 ~fwwt [(0,0),(1,1),(2,6),(3,7),(4,8),(5,9),(6,10),(7,11)]
noncomputable def JL(p0:Hp)(p1:AOp):Option (Hp×Ans) :=
 if p1.code=2 then
 ((QK p0 p1.a).bind λv2 =>
 (Z6 p0.space (w64 ((w64 v2)-1)) p1.b true).bind λv3 =>
 if v3.2=0 then
 ((at_ p0.space.ws v3.1).bind λv6 =>
 if p1.code=4 then
 ((Q8 p0 v6).bind λv9 =>
 some ((v9.1,v9.2)))
 else
 if v6=0 then
 ((Q8 p0 0).bind λv12 =>
 some ((v12.1,v12.2)))
 else
 (Jq p0).bind λv14 =>
 if v14=true then
 ((Qt p0 15).bind λv16 =>
 some ((v16.1,v16.2)))
 else
 (QH p0).bind λv17 =>
 (Jr v17.roots v6).bind λv18 =>
 (Q8 (Hp.mk v17.config v17.space v17.belts v17.seq v17.sets v18.1 v17.since v17.stats v17.dead) (wu v18.2.1)).bind λv19 =>
 some ((v19.1,v19.2)))
 else
 (Qt p0 v3.2).bind λv20 =>
 some ((v20.1,v20.2)))
 else
 (QK p0 p1.a).bind λv21 =>
 (Z6 p0.space (w64 ((w64 v21)-1)) p1.b (decide (p1.code=3))).bind λv22 =>
 if v22.2=0 then
 ((at_ p0.space.ws v22.1).bind λv25 =>
 if p1.code=4 then
 ((Q8 p0 v25).bind λv28 =>
 some ((v28.1,v28.2)))
 else
 if p1.code=3 then
 ((Zj p0 p1.c_ false).bind λv31 =>
 if v31=0 then
 ((QK p0 p1.a).bind λv33 =>
 (QK p0 p1.c_).bind λv34 =>
 (Xa p0 (w64 ((w64 v33)-1)) p1.b v34).bind λv35 =>
 (Q8 v35.1 0).bind λv36 =>
 some ((v36.1,v36.2)))
 else
 (Qt p0 v31).bind λv37 =>
 some ((v37.1,v37.2)))
 else
 (QK p0 p1.a).bind λv38 =>
 (ZQ p0 (w64 ((w64 v38)-1)) p1.b (wu p1.c_)).bind λv39 =>
 (Q8 v39.1 0).bind λv40 =>
 some ((v40.1,v40.2)))
 else
 (Qt p0 v22.2).bind λv41 =>
 some ((v41.1,v41.2))
theorem Qe2{p0 p1 r}:Sm (JL p0 p1) r->DCall Tryz.prog 74 [.agg [.lit (.string p0.config.name),.sl (p0.config.rules.map Rul.c),DI p0.config.full,DI p0.space.sh,.sl (p0.space.ws.map uC),.sl (p0.space.fs.map frC),.sl (p0.belts.map (lC Inc.c)),DI p0.seq,.sl (p0.sets.map Qe.c),.sl (p0.roots.used.map bC),.sl (p0.roots.refs.map uC),DI p0.since,DI p0.stats.allocated,DI p0.stats.objects,DI p0.stats.collections,DI p0.stats.steps,DI p0.stats.rounds,DI p0.stats.condemned,DI p0.stats.copied,DI p0.stats.entries,DI p0.stats.work,DB p0.dead],.agg [DI p1.code,DI p1.a,DI p1.b,DI p1.c_]] [] (.tup [.agg [.lit (.string r.1.config.name),.sl (r.1.config.rules.map Rul.c),DI r.1.config.full,DI r.1.space.sh,.sl (r.1.space.ws.map uC),.sl (r.1.space.fs.map frC),.sl (r.1.belts.map (lC Inc.c)),DI r.1.seq,.sl (r.1.sets.map Qe.c),.sl (r.1.roots.used.map bC),.sl (r.1.roots.refs.map uC),DI r.1.since,DI r.1.stats.allocated,DI r.1.stats.objects,DI r.1.stats.collections,DI r.1.stats.steps,DI r.1.stats.rounds,DI r.1.stats.condemned,DI r.1.stats.copied,DI r.1.stats.entries,DI r.1.stats.work,DB r.1.dead],.agg [DI r.2.err,DU r.2.value]]) []:=by
 unfold JL
 &mk0 Tryz.func74 ?_
 &ar ?_
 &xs (λh1=>?_) λh1=>?_
 &ar ?_
 &xd λv2 hv2=>?_
 &xd λv3 hv3=>?_
 have q0:=cS r0 (Q1 hv2)
 have q1:=cS r0 (QaD hv3)
 &ar ?_
 &sq λK k=>?_
 &ar ?_
 &xs (λh5=>?_) λh5=>?_
 &cb ?_
 &xa λv6 hv6=>?_
 &ar ?_
 &sq λK k=>?_
 &ar ?_
 &ar ?_
 &xs (λh8=>?_) λh8=>?_
 &ca ?_
 &xd λv9 hv9=>?_
 replace q0:=cG r0 (QJ hv9)
 &ar ?_
 ~fww r0
 &db ?_
 &ca ?_
 &sq λK k=>?_
 &ar ?_
 &xs (λh11=>?_) λh11=>?_
 &ca ?_
 &xd λv12 hv12=>?_
 replace q0:=cG r0 (QJ hv12)
 &ar ?_
 ~fww r0
 &cb ?_
 &sq λK k=>?_
 &xd λv14 hv14=>?_
 replace q0:=cS r0 (QcG hv14)
 &ar ?_
 &xs (λh15=>?_) λh15=>?_
 &ca ?_
 &xd λv16 hv16=>?_
 replace q0:=cG r0 (Qq hv16)
 &ar ?_
 ~fww r0
 &cb ?_
 &xd λv17 hv17=>?_
 replace q0:=cG r0 (Q2 hv17)
 &ar ?_
 &ar ?_
 &xd λv18 hv18=>?_
 replace q0:=cS r0 (QcH hv18)
 &ar ?_
 &xd λv19 hv19=>?_
 replace q0:=cG r0 (QJ hv19)
 &ar ?_
 ~fww r0
 &ca ?_
 &xd λv20 hv20=>?_
 replace q0:=cG r0 (Qq hv20)
 &ar ?_
 ~fww r0
 &ar ?_
 &xd λv21 hv21=>?_
 &xd λv22 hv22=>?_
 have q0:=cS r0 (Q1 hv21)
 have q1:=cS r0 (QaD hv22)
 &ar ?_
 &sq λK k=>?_
 &ar ?_
 &xs (λh24=>?_) λh24=>?_
 &cb ?_
 &xa λv25 hv25=>?_
 &ar ?_
 &sq λK k=>?_
 &ar ?_
 &ar ?_
 &xs (λh27=>?_) λh27=>?_
 &ca ?_
 &xd λv28 hv28=>?_
 replace q0:=cG r0 (QJ hv28)
 &ar ?_
 ~fww r0
 &db ?_
 &db ?_
 &xs (λh29=>?_) λh29=>?_
 &ca ?_
 &sq λK k=>?_
 &xd λv31 hv31=>?_
 replace q0:=cS r0 (XX hv31)
 &ar ?_
 &ar ?_
 &xs (λh32=>?_) λh32=>?_
 &cb ?_
 &xd λv33 hv33=>?_
 &xd λv34 hv34=>?_
 &xd λv35 hv35=>?_
 &ar ?_
 &goA (Jn r0 (Q1 hv33) rfl ScS.nil) ?_
 &au ?_
 &goA (Jn r0 (Q1 hv34) rfl ScS.nil) ?_
 &goA (m_cG r0 (QdA hv35)) ?_
 &au ?_
 &xd λv36 hv36=>?_
 replace q0:=cG r0 (QJ hv36)
 &ar ?_
 ~fww r0
 &ca ?_
 &xd λv37 hv37=>?_
 replace q0:=cG r0 (Qq hv37)
 &ar ?_
 ~fww r0
 &cb ?_
 &xd λv38 hv38=>?_
 &xd λv39 hv39=>?_
 replace q0:=cS r0 (Q1 hv38)
 replace q1:=cG r0 (Qc9 hv39)
 &ar ?_
 &xd λv40 hv40=>?_
 replace q0:=cG r0 (QJ hv40)
 &ar ?_
 ~fww r0
 &ca ?_
 &xd λv41 hv41=>?_
 replace q0:=cG r0 (Qq hv41)
 &ar ?_
 ~fww r0
noncomputable def ZW(p0:Sp)(p1:List (List Inc))(p2:List Qe):Option (List Int) :=
 (Qh (λ(s5:List Int×Int) =>
 if s5.2<(p1.length:Int) then
 (((at_ p1 s5.2).bind λv11 =>
 Qh (λ(s13:List Int×Int) =>
 if s13.2<(v11.length:Int) then
 (((at_ v11 s13.2).bind λv19 =>
 (Ja p0 v19).bind λv20 =>
 Qh (λ(s22:List Int×Int) =>
 if s22.2<(v20.1.length:Int) then
 (((at_ v20.1 s22.2).bind λv28 =>
 (Je p0 v28).bind λv29 =>
 Qh (λ(s31:List Int×Int) =>
 if s31.2<(v29.1.length:Int) then
 ((at_ v29.1 s31.2).bind λv36 =>
 (at_ p0.ws v36).bind λv37 =>
 (ZK p0 v36 v37).bind λv38 =>
 (QQ p0 v36 v37).bind λv39 =>
 if v39=true then
 ((Qam p2 v38.1 v38.2.1 v36).bind λv41 =>
 if v41=true then
 (some (.go ((s31.1,w64 (s31.2+1)))))
 else
 if ((s31.1.length:Int)+[v36].length)*8<=140737488355328/\(s31.1.length:Int)+[v36].length<=9223372036854775807 then
 some (.go ((s31.1++[v36],w64 (s31.2+1))))
 else none)
 else
 some (.go ((s31.1,w64 (s31.2+1)))))
 else
 some (.out (s31.1))) (s22.1,0)).bind λ(b26:List Int) =>
 some (.go ((b26,w64 (s22.2+1)))))
 else
 some (.out (s22.1))) (s13.1,0)).bind λ(b17:List Int) =>
 some (.go ((b17,w64 (s13.2+1)))))
 else
 some (.out (s13.1))) (s5.1,0)).bind λ(b9:List Int) =>
 some (.go ((b9,w64 (s5.2+1)))))
 else
 some (.out (s5.1))) (([]:List Int),0)).bind λ(b1:List Int) =>
 (JI b1).bind λv44 =>
 if v44.length=b1.length then
 some (v44)
 else none
theorem Qda{p0 p1 p2 r}:Sm (ZW p0 p1 p2) r->DCall Tryz.prog 9 [.agg [DI p0.sh,.sl (p0.ws.map uC),.sl (p0.fs.map frC)],.sl (p1.map (lC Inc.c)),.sl (p2.map Qe.c)] [] (.own 0 0 r.length) [(0,aO 1 (r.map iC))]:=by
 unfold ZW
 &mk0 Tryz.func9 ?_
 &ar ?_
 &ar ?_
 &cT [] [(7,λb1=>.own 1 0 b1.length)] [] [] [(1,λb1=>aO 1 (b1.map iC))] 2 (λz2=>?_) λb1=>?_
 &ar ?_
 &xx (Qz 7 1 Od rfl) ?_
 &lP [2,23,24] [(3,λs5=>.ptr 0 0 0),(7,λs5=>.own 1 0 s5.1.length),(25,λs5=>DI s5.2)] [0] [] [(1,λs5=>aO 1 (s5.1.map iC))] 2 λs5 y6 hq6=>?_
 &ar ?_
 &sq λK k=>?_
 &xs (λh8=>?_) λh8=>?_
 &ca ?_
 &cT [2,3,23,24,25] [(7,λb9=>.own 1 0 b9.length)] [0] [] [(1,λb9=>aO 1 (b9.map iC))] 2 (λz10=>?_) λb9=>?_
 &au ?_
 &xa λv11 hv11=>?_
 &ar ?_
 &ar ?_
 &lP [2,3,23,24,25,29,30] [(7,λs13=>.own 1 0 s13.1.length),(31,λs13=>DI s13.2)] [0] [] [(1,λs13=>aO 1 (s13.1.map iC))] 2 λs13 y14 hq14=>?_
 &ar ?_
 &sq λK k=>?_
 &xs (λh16=>?_) λh16=>?_
 &ca ?_
 &cT [2,3,23,24,25,29,30,31] [(7,λb17=>.own 1 0 b17.length)] [0] [] [(1,λb17=>aO 1 (b17.map iC))] 2 (λz18=>?_) λb17=>?_
 &au ?_
 &xa λv19 hv19=>?_
 &ar ?_
 &xd λv20 hv20=>?_
 have q0:=cS r0 (QeC hv20)
 &ar ?_
 &ar ?_
 &lP [2,3,23,24,25,29,30,31,42] [(7,λs22=>.own 1 0 s22.1.length),(41,λs22=>.own 3 0 v20.1.length),(43,λs22=>DI s22.2)] [0,3] [] [(1,λs22=>aO 1 (s22.1.map iC))] 4 λs22 y23 hq23=>?_
 &ar ?_
 &sq λK k=>?_
 &xs (λh25=>?_) λh25=>?_
 &ca ?_
 &cT [2,3,23,24,25,29,30,31,41,42,43] [(7,λb26=>.own 1 0 b26.length)] [0,3] [] [(1,λb26=>aO 1 (b26.map iC))] 4 (λz27=>?_) λb26=>?_
 &au ?_
 &xa λv28 hv28=>?_
 &ar ?_
 &xd λv29 hv29=>?_
 replace q0:=cS r0 (QeH hv29)
 &ar ?_
 &ar ?_
 &lP [2,3,23,24,25,29,30,31,41,42,43,54] [(7,λs31=>.own 1 0 s31.1.length),(53,λs31=>.own 4 0 v29.1.length),(55,λs31=>DI s31.2)] [0,3,4] [] [(1,λs31=>aO 1 (s31.1.map iC))] 5 λs31 y32 hq32=>?_
 &ar ?_
 &sq λK k=>?_
 &xs (λh34=>?_) λh34=>?_
 &ca ?_
 &sq λK k=>?_
 &au ?_
 &xa λv36 hv36=>?_
 &ar ?_
 &xa λv37 hv37=>?_
 &xd λv38 hv38=>?_
 replace q0:=cS r0 (Qai hv38)
 &ar ?_
 &xd λv39 hv39=>?_
 &xs (λh40=>?_) λh40=>?_
 &xd λv41 hv41=>?_
 replace q0:=cS r0 (Qf hv39)
 have q1:=cS r0 (Qgs hv41)
 &ar ?_
 &xs (λh42=>?_) λh42=>?_
 &db ?_
 ~wJ []
 &ca ?_
 &xc λh43=>?_
 &ar ?_
 &goA (Ql (c:=iC) ([v36]:List Int) i22.ok i3.ok) ?_
 &goA (QW (c:=iC) s31.1 [v36] h43 i22.ok i3.ok rfl rfl (.own rfl rfl Os (Qg (c:=iC) (λ_=>rfl) _)) rfl) ?_
 &au ?_
 &ar ?_
 ~wJ [(1,6)]
 replace q0:=cS r0 (Qf hv39)
 &ar ?_
 &db ?_
 ~wJ []
 &cb ?_
 &xo hq32 ?_
 ~wJ []
 &ar ?_
 ~wJ []
 &cb ?_
 &xo hq23 ?_
 ~wJ []
 &ar ?_
 ~wJ []
 &cb ?_
 &xo hq14 ?_
 ~wJ []
 &ar ?_
 ~wJ []
 &cb ?_
 &xo hq6 ?_
 ~wJ []
 &xd λv44 hv44=>?_
 &xc λh45=>?_
 have q0:=cS [(0,1)] (Qd6 hv44)
 &ar ?_
 &ar ?_
 ~ft [(0,1)]
noncomputable def Zx(p0:Hp)(p1:Int):Option (Hp×Bool) :=
 (QH p0).bind λv1 =>
 Qh (λ(s3:ByteArray×List Rul×Int×Int×List Int×List Fe×List (List Inc)×Int×List Qe×List Bool×List Int×Int×Int×Int×Int×Int×Int×Int×Int×Int×Int×Bool×Cur) =>
 bndR (if 0<p1 then
 ((Zw (Hp.mk (Cfg.mk s3.1 s3.2.1 s3.2.2.1) (Sp.mk s3.2.2.2.1 s3.2.2.2.2.1 s3.2.2.2.2.2.1) s3.2.2.2.2.2.2.1 s3.2.2.2.2.2.2.2.1 s3.2.2.2.2.2.2.2.2.1 (Rts.mk s3.2.2.2.2.2.2.2.2.2.1 s3.2.2.2.2.2.2.2.2.2.2.1) s3.2.2.2.2.2.2.2.2.2.2.2.1 (Sts.mk s3.2.2.2.2.2.2.2.2.2.2.2.2.1 s3.2.2.2.2.2.2.2.2.2.2.2.2.2.1 s3.2.2.2.2.2.2.2.2.2.2.2.2.2.2.1 s3.2.2.2.2.2.2.2.2.2.2.2.2.2.2.2.1 s3.2.2.2.2.2.2.2.2.2.2.2.2.2.2.2.2.1 s3.2.2.2.2.2.2.2.2.2.2.2.2.2.2.2.2.2.1 s3.2.2.2.2.2.2.2.2.2.2.2.2.2.2.2.2.2.2.1 s3.2.2.2.2.2.2.2.2.2.2.2.2.2.2.2.2.2.2.2.1 s3.2.2.2.2.2.2.2.2.2.2.2.2.2.2.2.2.2.2.2.2.1) s3.2.2.2.2.2.2.2.2.2.2.2.2.2.2.2.2.2.2.2.2.2.1) p1).bind λv8 =>
 if v8=true then
 (some (.inl (())))
 else
 (Jv (Cfg.mk s3.1 s3.2.1 s3.2.2.1) s3.2.2.2.2.2.2.1).bind λv10 =>
 if (v10.length:Int)=0 then
 (some (.inr (.out ((Hp.mk (Cfg.mk s3.1 s3.2.1 s3.2.2.1) (Sp.mk s3.2.2.2.1 s3.2.2.2.2.1 s3.2.2.2.2.2.1) s3.2.2.2.2.2.2.1 s3.2.2.2.2.2.2.2.1 s3.2.2.2.2.2.2.2.2.1 (Rts.mk s3.2.2.2.2.2.2.2.2.2.1 s3.2.2.2.2.2.2.2.2.2.2.1) s3.2.2.2.2.2.2.2.2.2.2.2.1 (Sts.mk s3.2.2.2.2.2.2.2.2.2.2.2.2.1 s3.2.2.2.2.2.2.2.2.2.2.2.2.2.1 s3.2.2.2.2.2.2.2.2.2.2.2.2.2.2.1 s3.2.2.2.2.2.2.2.2.2.2.2.2.2.2.2.1 s3.2.2.2.2.2.2.2.2.2.2.2.2.2.2.2.2.1 s3.2.2.2.2.2.2.2.2.2.2.2.2.2.2.2.2.2.1 s3.2.2.2.2.2.2.2.2.2.2.2.2.2.2.2.2.2.2.1 s3.2.2.2.2.2.2.2.2.2.2.2.2.2.2.2.2.2.2.2.1 s3.2.2.2.2.2.2.2.2.2.2.2.2.2.2.2.2.2.2.2.2.1) s3.2.2.2.2.2.2.2.2.2.2.2.2.2.2.2.2.2.2.2.2.2.1,false)))))
 else
 some (.inl (())))
 else
 some (.inl (()))) λ(b5:Unit) =>
 (Xk (Cfg.mk s3.1 s3.2.1 s3.2.2.1) (Sp.mk s3.2.2.2.1 s3.2.2.2.2.1 s3.2.2.2.2.2.1) s3.2.2.2.2.2.2.1 s3.2.2.2.2.2.2.2.2.2.2.2.2.2.2.2.2.2.2.2.2.2.2).bind λv12 =>
 if v12.2.2=true then
 (some (.out ((Hp.mk (Cfg.mk s3.1 s3.2.1 s3.2.2.1) (Sp.mk s3.2.2.2.1 s3.2.2.2.2.1 s3.2.2.2.2.2.1) s3.2.2.2.2.2.2.1 s3.2.2.2.2.2.2.2.1 s3.2.2.2.2.2.2.2.2.1 (Rts.mk s3.2.2.2.2.2.2.2.2.2.1 s3.2.2.2.2.2.2.2.2.2.2.1) 0 (Sts.mk s3.2.2.2.2.2.2.2.2.2.2.2.2.1 s3.2.2.2.2.2.2.2.2.2.2.2.2.2.1 s3.2.2.2.2.2.2.2.2.2.2.2.2.2.2.1 s3.2.2.2.2.2.2.2.2.2.2.2.2.2.2.2.1 (w64 (s3.2.2.2.2.2.2.2.2.2.2.2.2.2.2.2.2.1+1)) s3.2.2.2.2.2.2.2.2.2.2.2.2.2.2.2.2.2.1 s3.2.2.2.2.2.2.2.2.2.2.2.2.2.2.2.2.2.2.1 s3.2.2.2.2.2.2.2.2.2.2.2.2.2.2.2.2.2.2.2.1 s3.2.2.2.2.2.2.2.2.2.2.2.2.2.2.2.2.2.2.2.2.1) s3.2.2.2.2.2.2.2.2.2.2.2.2.2.2.2.2.2.2.2.2.2.1,true))))
 else
 if (v12.1.length:Int)=0 then
 (some (.out ((Hp.mk (Cfg.mk s3.1 s3.2.1 s3.2.2.1) (Sp.mk s3.2.2.2.1 s3.2.2.2.2.1 s3.2.2.2.2.2.1) s3.2.2.2.2.2.2.1 s3.2.2.2.2.2.2.2.1 s3.2.2.2.2.2.2.2.2.1 (Rts.mk s3.2.2.2.2.2.2.2.2.2.1 s3.2.2.2.2.2.2.2.2.2.2.1) s3.2.2.2.2.2.2.2.2.2.2.2.1 (Sts.mk s3.2.2.2.2.2.2.2.2.2.2.2.2.1 s3.2.2.2.2.2.2.2.2.2.2.2.2.2.1 s3.2.2.2.2.2.2.2.2.2.2.2.2.2.2.1 s3.2.2.2.2.2.2.2.2.2.2.2.2.2.2.2.1 s3.2.2.2.2.2.2.2.2.2.2.2.2.2.2.2.2.1 s3.2.2.2.2.2.2.2.2.2.2.2.2.2.2.2.2.2.1 s3.2.2.2.2.2.2.2.2.2.2.2.2.2.2.2.2.2.2.1 s3.2.2.2.2.2.2.2.2.2.2.2.2.2.2.2.2.2.2.2.1 s3.2.2.2.2.2.2.2.2.2.2.2.2.2.2.2.2.2.2.2.2.1) s3.2.2.2.2.2.2.2.2.2.2.2.2.2.2.2.2.2.2.2.2.2.1,false))))
 else
 (Qaa (Hp.mk (Cfg.mk s3.1 s3.2.1 s3.2.2.1) (Sp.mk s3.2.2.2.1 s3.2.2.2.2.1 s3.2.2.2.2.2.1) s3.2.2.2.2.2.2.1 s3.2.2.2.2.2.2.2.1 s3.2.2.2.2.2.2.2.2.1 (Rts.mk s3.2.2.2.2.2.2.2.2.2.1 s3.2.2.2.2.2.2.2.2.2.2.1) s3.2.2.2.2.2.2.2.2.2.2.2.1 (Sts.mk s3.2.2.2.2.2.2.2.2.2.2.2.2.1 s3.2.2.2.2.2.2.2.2.2.2.2.2.2.1 s3.2.2.2.2.2.2.2.2.2.2.2.2.2.2.1 s3.2.2.2.2.2.2.2.2.2.2.2.2.2.2.2.1 s3.2.2.2.2.2.2.2.2.2.2.2.2.2.2.2.2.1 s3.2.2.2.2.2.2.2.2.2.2.2.2.2.2.2.2.2.1 s3.2.2.2.2.2.2.2.2.2.2.2.2.2.2.2.2.2.2.1 s3.2.2.2.2.2.2.2.2.2.2.2.2.2.2.2.2.2.2.2.1 s3.2.2.2.2.2.2.2.2.2.2.2.2.2.2.2.2.2.2.2.2.1) s3.2.2.2.2.2.2.2.2.2.2.2.2.2.2.2.2.2.2.2.2.2.1) v12.1).bind λv17 =>
 if v17.2.2=0 then
 (some (.go ((v17.1.config.name,v17.1.config.rules,v17.1.config.full,v17.1.space.sh,v17.1.space.ws,v17.1.space.fs,v17.1.belts,v17.1.seq,v17.1.sets,v17.1.roots.used,v17.1.roots.refs,v17.1.since,v17.1.stats.allocated,v17.1.stats.objects,v17.1.stats.collections,v17.1.stats.steps,v17.1.stats.rounds,v17.1.stats.condemned,v17.1.stats.copied,v17.1.stats.entries,v17.1.stats.work,v17.1.dead,v12.2.1))))
 else
 some (.out ((Hp.mk (Cfg.mk s3.1 s3.2.1 s3.2.2.1) (Sp.mk s3.2.2.2.1 s3.2.2.2.2.1 s3.2.2.2.2.2.1) s3.2.2.2.2.2.2.1 s3.2.2.2.2.2.2.2.1 s3.2.2.2.2.2.2.2.2.1 (Rts.mk s3.2.2.2.2.2.2.2.2.2.1 s3.2.2.2.2.2.2.2.2.2.2.1) s3.2.2.2.2.2.2.2.2.2.2.2.1 (Sts.mk s3.2.2.2.2.2.2.2.2.2.2.2.2.1 s3.2.2.2.2.2.2.2.2.2.2.2.2.2.1 s3.2.2.2.2.2.2.2.2.2.2.2.2.2.2.1 s3.2.2.2.2.2.2.2.2.2.2.2.2.2.2.2.1 s3.2.2.2.2.2.2.2.2.2.2.2.2.2.2.2.2.1 s3.2.2.2.2.2.2.2.2.2.2.2.2.2.2.2.2.2.1 s3.2.2.2.2.2.2.2.2.2.2.2.2.2.2.2.2.2.2.1 s3.2.2.2.2.2.2.2.2.2.2.2.2.2.2.2.2.2.2.2.1 s3.2.2.2.2.2.2.2.2.2.2.2.2.2.2.2.2.2.2.2.2.1) s3.2.2.2.2.2.2.2.2.2.2.2.2.2.2.2.2.2.2.2.2.2.1,false)))) (v1.config.name,v1.config.rules,v1.config.full,v1.space.sh,v1.space.ws,v1.space.fs,v1.belts,v1.seq,v1.sets,v1.roots.used,v1.roots.refs,v1.since,v1.stats.allocated,v1.stats.objects,v1.stats.collections,v1.stats.steps,v1.stats.rounds,v1.stats.condemned,v1.stats.copied,v1.stats.entries,v1.stats.work,v1.dead,Cur.mk 0 false 0)
theorem Qe5{p0 p1 r}:Sm (Zx p0 p1) r->DCall Tryz.prog 145 [.agg [.lit (.string p0.config.name),.sl (p0.config.rules.map Rul.c),DI p0.config.full,DI p0.space.sh,.sl (p0.space.ws.map uC),.sl (p0.space.fs.map frC),.sl (p0.belts.map (lC Inc.c)),DI p0.seq,.sl (p0.sets.map Qe.c),.sl (p0.roots.used.map bC),.sl (p0.roots.refs.map uC),DI p0.since,DI p0.stats.allocated,DI p0.stats.objects,DI p0.stats.collections,DI p0.stats.steps,DI p0.stats.rounds,DI p0.stats.condemned,DI p0.stats.copied,DI p0.stats.entries,DI p0.stats.work,DB p0.dead],DI p1] [] (.tup [.agg [.lit (.string r.1.config.name),.sl (r.1.config.rules.map Rul.c),DI r.1.config.full,DI r.1.space.sh,.sl (r.1.space.ws.map uC),.sl (r.1.space.fs.map frC),.sl (r.1.belts.map (lC Inc.c)),DI r.1.seq,.sl (r.1.sets.map Qe.c),.sl (r.1.roots.used.map bC),.sl (r.1.roots.refs.map uC),DI r.1.since,DI r.1.stats.allocated,DI r.1.stats.objects,DI r.1.stats.collections,DI r.1.stats.steps,DI r.1.stats.rounds,DI r.1.stats.condemned,DI r.1.stats.copied,DI r.1.stats.entries,DI r.1.stats.work,DB r.1.dead],DB r.2]) []:=by
 unfold Zx
 &mk0 Tryz.func145 ?_
 &ar ?_
 &xd λv1 hv1=>?_
 have q0:=cG r0 (Q2 hv1)
 &ar ?_
 &ar ?_
 &lP [1] [(2,λs3=>.ptr 0 0 0),(4,λs3=>.ptr 1 0 0),(6,λs3=>.ptr 9 0 0)] [1] [] [(0,λs3=>bO 22 [.lit (.string s3.1),.own 2 0 s3.2.1.length,DI s3.2.2.1,DI s3.2.2.2.1,.own 3 0 s3.2.2.2.2.1.length,.own 4 0 s3.2.2.2.2.2.1.length,.own 5 0 s3.2.2.2.2.2.2.1.length,DI s3.2.2.2.2.2.2.2.1,.sl (s3.2.2.2.2.2.2.2.2.1.map Qe.c),.own 7 0 s3.2.2.2.2.2.2.2.2.2.1.length,.own 8 0 s3.2.2.2.2.2.2.2.2.2.2.1.length,DI s3.2.2.2.2.2.2.2.2.2.2.2.1,DI s3.2.2.2.2.2.2.2.2.2.2.2.2.1,DI s3.2.2.2.2.2.2.2.2.2.2.2.2.2.1,DI s3.2.2.2.2.2.2.2.2.2.2.2.2.2.2.1,DI s3.2.2.2.2.2.2.2.2.2.2.2.2.2.2.2.1,DI s3.2.2.2.2.2.2.2.2.2.2.2.2.2.2.2.2.1,DI s3.2.2.2.2.2.2.2.2.2.2.2.2.2.2.2.2.2.1,DI s3.2.2.2.2.2.2.2.2.2.2.2.2.2.2.2.2.2.2.1,DI s3.2.2.2.2.2.2.2.2.2.2.2.2.2.2.2.2.2.2.2.1,DI s3.2.2.2.2.2.2.2.2.2.2.2.2.2.2.2.2.2.2.2.2.1,DB s3.2.2.2.2.2.2.2.2.2.2.2.2.2.2.2.2.2.2.2.2.2.1]),(2,λs3=>aO 4 (s3.2.1.map Rul.c)),(3,λs3=>aO 1 (s3.2.2.2.2.1.map uC)),(4,λs3=>aO 3 (s3.2.2.2.2.2.1.map frC)),(5,λs3=>aO 1 (s3.2.2.2.2.2.2.1.map (lC Inc.c))),(7,λs3=>aO 1 (s3.2.2.2.2.2.2.2.2.2.1.map bC)),(8,λs3=>aO 1 (s3.2.2.2.2.2.2.2.2.2.2.1.map uC)),(9,λs3=>bO 3 [DI s3.2.2.2.2.2.2.2.2.2.2.2.2.2.2.2.2.2.2.2.2.2.2.belt,DB s3.2.2.2.2.2.2.2.2.2.2.2.2.2.2.2.2.2.2.2.2.2.2.begun,DI s3.2.2.2.2.2.2.2.2.2.2.2.2.2.2.2.2.2.2.2.2.2.2.last])] 10 λs3 y4 hq4=>?_
 &au ?_
 &cU [1,2,4,6] [] [0,1,2,3,4,5,7,8,9] [] [] 10 (λz6 hr6=>?_) λb5=>?_
 &xs (λh7=>?_) λh7=>?_
 &xd λv8 hv8=>?_
 &xs (λh9=>?_) λh9=>?_
 replace q0:=cS r0 (Xc hv8)
 &ar ?_
 &cb ?_
 ~wJ []
 &xd λv10 hv10=>?_
 replace q0:=cS r0 (Xc hv8)
 have q1:=cS r0 (QcJ hv10)
 &ar ?_
 &xs (λh11=>?_) λh11=>?_
 &da ?_
 &xr hr6 ?_
 &xo hq4 ?_
 ~fwt r0
 &cb ?_
 ~wJ []
 &ar ?_
 &cb ?_
 ~wJ []
 &xd λv12 hv12=>?_
 replace q0:=cS r0 (QbF hv12)
 &ar ?_
 &ar ?_
 &sq λK k=>?_
 &ar ?_
 &xs (λh14=>?_) λh14=>?_
 &da ?_
 &ar ?_
 &ar ?_
 &xo hq4 ?_
 ~fwt r0
 &cb ?_
 &sq λK k=>?_
 &ar ?_
 &xs (λh16=>?_) λh16=>?_
 &da ?_
 &xo hq4 ?_
 ~fwt r0
 &cb ?_
 &xd λv17 hv17=>?_
 replace q0:=cG r0 (F_ref25_Do_ok hv17)
 &ar ?_
 &sq λK k=>?_
 &ar ?_
 &xs (λh19=>?_) λh19=>?_
 &db ?_
 ~wJ [(2,12),(3,13),(4,14),(5,15),(7,16),(8,17)]
 &da ?_
 &xo hq4 ?_
 ~fwt r0
noncomputable def ZR(p0:Hp)(p1:Int):Option (Hp×Bool) :=
 (QH p0).bind λv1 =>
 Qh (λ(s3:ByteArray×List Rul×Int×Int×List Int×List Fe×List (List Inc)×Int×List Qe×List Bool×List Int×Int×Int×Int×Int×Int×Int×Int×Int×Int×Int×Bool×Cur) =>
 bndR (if 0<p1 then
 ((Zw (Hp.mk (Cfg.mk s3.1 s3.2.1 s3.2.2.1) (Sp.mk s3.2.2.2.1 s3.2.2.2.2.1 s3.2.2.2.2.2.1) s3.2.2.2.2.2.2.1 s3.2.2.2.2.2.2.2.1 s3.2.2.2.2.2.2.2.2.1 (Rts.mk s3.2.2.2.2.2.2.2.2.2.1 s3.2.2.2.2.2.2.2.2.2.2.1) s3.2.2.2.2.2.2.2.2.2.2.2.1 (Sts.mk s3.2.2.2.2.2.2.2.2.2.2.2.2.1 s3.2.2.2.2.2.2.2.2.2.2.2.2.2.1 s3.2.2.2.2.2.2.2.2.2.2.2.2.2.2.1 s3.2.2.2.2.2.2.2.2.2.2.2.2.2.2.2.1 s3.2.2.2.2.2.2.2.2.2.2.2.2.2.2.2.2.1 s3.2.2.2.2.2.2.2.2.2.2.2.2.2.2.2.2.2.1 s3.2.2.2.2.2.2.2.2.2.2.2.2.2.2.2.2.2.2.1 s3.2.2.2.2.2.2.2.2.2.2.2.2.2.2.2.2.2.2.2.1 s3.2.2.2.2.2.2.2.2.2.2.2.2.2.2.2.2.2.2.2.2.1) s3.2.2.2.2.2.2.2.2.2.2.2.2.2.2.2.2.2.2.2.2.2.1) p1).bind λv8 =>
 if v8=true then
 (some (.inl (())))
 else
 (Jv (Cfg.mk s3.1 s3.2.1 s3.2.2.1) s3.2.2.2.2.2.2.1).bind λv10 =>
 if (v10.length:Int)=0 then
 (some (.inr (.out ((Hp.mk (Cfg.mk s3.1 s3.2.1 s3.2.2.1) (Sp.mk s3.2.2.2.1 s3.2.2.2.2.1 s3.2.2.2.2.2.1) s3.2.2.2.2.2.2.1 s3.2.2.2.2.2.2.2.1 s3.2.2.2.2.2.2.2.2.1 (Rts.mk s3.2.2.2.2.2.2.2.2.2.1 s3.2.2.2.2.2.2.2.2.2.2.1) s3.2.2.2.2.2.2.2.2.2.2.2.1 (Sts.mk s3.2.2.2.2.2.2.2.2.2.2.2.2.1 s3.2.2.2.2.2.2.2.2.2.2.2.2.2.1 s3.2.2.2.2.2.2.2.2.2.2.2.2.2.2.1 s3.2.2.2.2.2.2.2.2.2.2.2.2.2.2.2.1 s3.2.2.2.2.2.2.2.2.2.2.2.2.2.2.2.2.1 s3.2.2.2.2.2.2.2.2.2.2.2.2.2.2.2.2.2.1 s3.2.2.2.2.2.2.2.2.2.2.2.2.2.2.2.2.2.2.1 s3.2.2.2.2.2.2.2.2.2.2.2.2.2.2.2.2.2.2.2.1 s3.2.2.2.2.2.2.2.2.2.2.2.2.2.2.2.2.2.2.2.2.1) s3.2.2.2.2.2.2.2.2.2.2.2.2.2.2.2.2.2.2.2.2.2.1,false)))))
 else
 some (.inl (())))
 else
 some (.inl (()))) λ(b5:Unit) =>
 (Xk (Cfg.mk s3.1 s3.2.1 s3.2.2.1) (Sp.mk s3.2.2.2.1 s3.2.2.2.2.1 s3.2.2.2.2.2.1) s3.2.2.2.2.2.2.1 s3.2.2.2.2.2.2.2.2.2.2.2.2.2.2.2.2.2.2.2.2.2.2).bind λv12 =>
 if v12.2.2=true then
 (some (.out ((Hp.mk (Cfg.mk s3.1 s3.2.1 s3.2.2.1) (Sp.mk s3.2.2.2.1 s3.2.2.2.2.1 s3.2.2.2.2.2.1) s3.2.2.2.2.2.2.1 s3.2.2.2.2.2.2.2.1 s3.2.2.2.2.2.2.2.2.1 (Rts.mk s3.2.2.2.2.2.2.2.2.2.1 s3.2.2.2.2.2.2.2.2.2.2.1) 0 (Sts.mk s3.2.2.2.2.2.2.2.2.2.2.2.2.1 s3.2.2.2.2.2.2.2.2.2.2.2.2.2.1 s3.2.2.2.2.2.2.2.2.2.2.2.2.2.2.1 s3.2.2.2.2.2.2.2.2.2.2.2.2.2.2.2.1 (w64 (s3.2.2.2.2.2.2.2.2.2.2.2.2.2.2.2.2.1+1)) s3.2.2.2.2.2.2.2.2.2.2.2.2.2.2.2.2.2.1 s3.2.2.2.2.2.2.2.2.2.2.2.2.2.2.2.2.2.2.1 s3.2.2.2.2.2.2.2.2.2.2.2.2.2.2.2.2.2.2.2.1 s3.2.2.2.2.2.2.2.2.2.2.2.2.2.2.2.2.2.2.2.2.1) s3.2.2.2.2.2.2.2.2.2.2.2.2.2.2.2.2.2.2.2.2.2.1,true))))
 else
 if (v12.1.length:Int)=0 then
 (some (.out ((Hp.mk (Cfg.mk s3.1 s3.2.1 s3.2.2.1) (Sp.mk s3.2.2.2.1 s3.2.2.2.2.1 s3.2.2.2.2.2.1) s3.2.2.2.2.2.2.1 s3.2.2.2.2.2.2.2.1 s3.2.2.2.2.2.2.2.2.1 (Rts.mk s3.2.2.2.2.2.2.2.2.2.1 s3.2.2.2.2.2.2.2.2.2.2.1) s3.2.2.2.2.2.2.2.2.2.2.2.1 (Sts.mk s3.2.2.2.2.2.2.2.2.2.2.2.2.1 s3.2.2.2.2.2.2.2.2.2.2.2.2.2.1 s3.2.2.2.2.2.2.2.2.2.2.2.2.2.2.1 s3.2.2.2.2.2.2.2.2.2.2.2.2.2.2.2.1 s3.2.2.2.2.2.2.2.2.2.2.2.2.2.2.2.2.1 s3.2.2.2.2.2.2.2.2.2.2.2.2.2.2.2.2.2.1 s3.2.2.2.2.2.2.2.2.2.2.2.2.2.2.2.2.2.2.1 s3.2.2.2.2.2.2.2.2.2.2.2.2.2.2.2.2.2.2.2.1 s3.2.2.2.2.2.2.2.2.2.2.2.2.2.2.2.2.2.2.2.2.1) s3.2.2.2.2.2.2.2.2.2.2.2.2.2.2.2.2.2.2.2.2.2.1,false))))
 else
 (Qap (Hp.mk (Cfg.mk s3.1 s3.2.1 s3.2.2.1) (Sp.mk s3.2.2.2.1 s3.2.2.2.2.1 s3.2.2.2.2.2.1) s3.2.2.2.2.2.2.1 s3.2.2.2.2.2.2.2.1 s3.2.2.2.2.2.2.2.2.1 (Rts.mk s3.2.2.2.2.2.2.2.2.2.1 s3.2.2.2.2.2.2.2.2.2.2.1) s3.2.2.2.2.2.2.2.2.2.2.2.1 (Sts.mk s3.2.2.2.2.2.2.2.2.2.2.2.2.1 s3.2.2.2.2.2.2.2.2.2.2.2.2.2.1 s3.2.2.2.2.2.2.2.2.2.2.2.2.2.2.1 s3.2.2.2.2.2.2.2.2.2.2.2.2.2.2.2.1 s3.2.2.2.2.2.2.2.2.2.2.2.2.2.2.2.2.1 s3.2.2.2.2.2.2.2.2.2.2.2.2.2.2.2.2.2.1 s3.2.2.2.2.2.2.2.2.2.2.2.2.2.2.2.2.2.2.1 s3.2.2.2.2.2.2.2.2.2.2.2.2.2.2.2.2.2.2.2.1 s3.2.2.2.2.2.2.2.2.2.2.2.2.2.2.2.2.2.2.2.2.1) s3.2.2.2.2.2.2.2.2.2.2.2.2.2.2.2.2.2.2.2.2.2.1) v12.1).bind λv17 =>
 if v17.2.2.2.1.length=s3.2.2.2.2.1.length then
 if v17.2.2.2.2.length=s3.2.2.2.2.2.1.length then
 if v17.2.2.1=0 then
 (some (.go ((v17.1.config.name,v17.1.config.rules,v17.1.config.full,v17.1.space.sh,v17.1.space.ws,v17.1.space.fs,v17.1.belts,v17.1.seq,v17.1.sets,v17.1.roots.used,v17.1.roots.refs,v17.1.since,v17.1.stats.allocated,v17.1.stats.objects,v17.1.stats.collections,v17.1.stats.steps,v17.1.stats.rounds,v17.1.stats.condemned,v17.1.stats.copied,v17.1.stats.entries,v17.1.stats.work,v17.1.dead,v12.2.1))))
 else
 some (.out ((Hp.mk (Cfg.mk s3.1 s3.2.1 s3.2.2.1) (Sp.mk s3.2.2.2.1 v17.2.2.2.1 v17.2.2.2.2) s3.2.2.2.2.2.2.1 s3.2.2.2.2.2.2.2.1 s3.2.2.2.2.2.2.2.2.1 (Rts.mk s3.2.2.2.2.2.2.2.2.2.1 s3.2.2.2.2.2.2.2.2.2.2.1) s3.2.2.2.2.2.2.2.2.2.2.2.1 (Sts.mk s3.2.2.2.2.2.2.2.2.2.2.2.2.1 s3.2.2.2.2.2.2.2.2.2.2.2.2.2.1 s3.2.2.2.2.2.2.2.2.2.2.2.2.2.2.1 s3.2.2.2.2.2.2.2.2.2.2.2.2.2.2.2.1 s3.2.2.2.2.2.2.2.2.2.2.2.2.2.2.2.2.1 s3.2.2.2.2.2.2.2.2.2.2.2.2.2.2.2.2.2.1 s3.2.2.2.2.2.2.2.2.2.2.2.2.2.2.2.2.2.2.1 s3.2.2.2.2.2.2.2.2.2.2.2.2.2.2.2.2.2.2.2.1 s3.2.2.2.2.2.2.2.2.2.2.2.2.2.2.2.2.2.2.2.2.1) s3.2.2.2.2.2.2.2.2.2.2.2.2.2.2.2.2.2.2.2.2.2.1,false)))
 else none
 else none) (v1.config.name,v1.config.rules,v1.config.full,v1.space.sh,v1.space.ws,v1.space.fs,v1.belts,v1.seq,v1.sets,v1.roots.used,v1.roots.refs,v1.since,v1.stats.allocated,v1.stats.objects,v1.stats.collections,v1.stats.steps,v1.stats.rounds,v1.stats.condemned,v1.stats.copied,v1.stats.entries,v1.stats.work,v1.dead,Cur.mk 0 false 0)
theorem Qbh{p0 p1 r}:Sm (ZR p0 p1) r->DCall Tryz.prog 145 [.agg [.lit (.string p0.config.name),.sl (p0.config.rules.map Rul.c),DI p0.config.full,DI p0.space.sh,.sl (p0.space.ws.map uC),.sl (p0.space.fs.map frC),.sl (p0.belts.map (lC Inc.c)),DI p0.seq,.sl (p0.sets.map Qe.c),.sl (p0.roots.used.map bC),.sl (p0.roots.refs.map uC),DI p0.since,DI p0.stats.allocated,DI p0.stats.objects,DI p0.stats.collections,DI p0.stats.steps,DI p0.stats.rounds,DI p0.stats.condemned,DI p0.stats.copied,DI p0.stats.entries,DI p0.stats.work,DB p0.dead],DI p1] [] (.tup [.agg [.lit (.string r.1.config.name),.sl (r.1.config.rules.map Rul.c),DI r.1.config.full,DI r.1.space.sh,.own 0 0 r.1.space.ws.length,.own 1 0 r.1.space.fs.length,.sl (r.1.belts.map (lC Inc.c)),DI r.1.seq,.sl (r.1.sets.map Qe.c),.sl (r.1.roots.used.map bC),.sl (r.1.roots.refs.map uC),DI r.1.since,DI r.1.stats.allocated,DI r.1.stats.objects,DI r.1.stats.collections,DI r.1.stats.steps,DI r.1.stats.rounds,DI r.1.stats.condemned,DI r.1.stats.copied,DI r.1.stats.entries,DI r.1.stats.work,DB r.1.dead],DB r.2]) [(0,aO 1 (r.1.space.ws.map uC)),(1,aO 3 (r.1.space.fs.map frC))]:=by
 unfold ZR
 &mk0 Tryz.func145 ?_
 &ar ?_
 &xd λv1 hv1=>?_
 have q0:=cG r0 (Q2 hv1)
 &ar ?_
 &ar ?_
 &lP [1] [(2,λs3=>.ptr 0 0 0),(4,λs3=>.ptr 1 0 0),(6,λs3=>.ptr 9 0 0)] [1] [] [(0,λs3=>bO 22 [.lit (.string s3.1),.own 2 0 s3.2.1.length,DI s3.2.2.1,DI s3.2.2.2.1,.own 3 0 s3.2.2.2.2.1.length,.own 4 0 s3.2.2.2.2.2.1.length,.own 5 0 s3.2.2.2.2.2.2.1.length,DI s3.2.2.2.2.2.2.2.1,.sl (s3.2.2.2.2.2.2.2.2.1.map Qe.c),.own 7 0 s3.2.2.2.2.2.2.2.2.2.1.length,.own 8 0 s3.2.2.2.2.2.2.2.2.2.2.1.length,DI s3.2.2.2.2.2.2.2.2.2.2.2.1,DI s3.2.2.2.2.2.2.2.2.2.2.2.2.1,DI s3.2.2.2.2.2.2.2.2.2.2.2.2.2.1,DI s3.2.2.2.2.2.2.2.2.2.2.2.2.2.2.1,DI s3.2.2.2.2.2.2.2.2.2.2.2.2.2.2.2.1,DI s3.2.2.2.2.2.2.2.2.2.2.2.2.2.2.2.2.1,DI s3.2.2.2.2.2.2.2.2.2.2.2.2.2.2.2.2.2.1,DI s3.2.2.2.2.2.2.2.2.2.2.2.2.2.2.2.2.2.2.1,DI s3.2.2.2.2.2.2.2.2.2.2.2.2.2.2.2.2.2.2.2.1,DI s3.2.2.2.2.2.2.2.2.2.2.2.2.2.2.2.2.2.2.2.2.1,DB s3.2.2.2.2.2.2.2.2.2.2.2.2.2.2.2.2.2.2.2.2.2.1]),(2,λs3=>aO 4 (s3.2.1.map Rul.c)),(3,λs3=>aO 1 (s3.2.2.2.2.1.map uC)),(4,λs3=>aO 3 (s3.2.2.2.2.2.1.map frC)),(5,λs3=>aO 1 (s3.2.2.2.2.2.2.1.map (lC Inc.c))),(7,λs3=>aO 1 (s3.2.2.2.2.2.2.2.2.2.1.map bC)),(8,λs3=>aO 1 (s3.2.2.2.2.2.2.2.2.2.2.1.map uC)),(9,λs3=>bO 3 [DI s3.2.2.2.2.2.2.2.2.2.2.2.2.2.2.2.2.2.2.2.2.2.2.belt,DB s3.2.2.2.2.2.2.2.2.2.2.2.2.2.2.2.2.2.2.2.2.2.2.begun,DI s3.2.2.2.2.2.2.2.2.2.2.2.2.2.2.2.2.2.2.2.2.2.2.last])] 10 λs3 y4 hq4=>?_
 &au ?_
 &cU [1,2,4,6] [] [0,1,2,3,4,5,7,8,9] [] [] 10 (λz6 hr6=>?_) λb5=>?_
 &xs (λh7=>?_) λh7=>?_
 &xd λv8 hv8=>?_
 &xs (λh9=>?_) λh9=>?_
 replace q0:=cS r0 (Xc hv8)
 &ar ?_
 &cb ?_
 ~wJ []
 &xd λv10 hv10=>?_
 replace q0:=cS r0 (Xc hv8)
 have q1:=cS r0 (QcJ hv10)
 &ar ?_
 &xs (λh11=>?_) λh11=>?_
 &da ?_
 &xr hr6 ?_
 &xo hq4 ?_
 ~fwt [(0,3),(1,4)]
 &cb ?_
 ~wJ []
 &ar ?_
 &cb ?_
 ~wJ []
 &xd λv12 hv12=>?_
 replace q0:=cS r0 (QbF hv12)
 &ar ?_
 &ar ?_
 &sq λK k=>?_
 &ar ?_
 &xs (λh14=>?_) λh14=>?_
 &da ?_
 &ar ?_
 &ar ?_
 &xo hq4 ?_
 ~fwt [(0,3),(1,4)]
 &cb ?_
 &sq λK k=>?_
 &ar ?_
 &xs (λh16=>?_) λh16=>?_
 &da ?_
 &xo hq4 ?_
 ~fwt [(0,3),(1,4)]
 &cb ?_
 &xd λv17 hv17=>?_
 &xc λh21=>?_
 &xc λh20=>?_
 replace q0:=cG [(0,3),(1,4)] (Qgw hv17)
 &ar ?_
 &sq λK k=>?_
 &ar ?_
 &xs (λh19=>?_) λh19=>?_
 &db ?_
 ~wJ [(2,12),(3,13),(4,14),(5,15),(7,16),(8,17)]
 &da ?_
 &xo hq4 ?_
 ~fwt [(0,3),(1,4)]
noncomputable def XG(p0:Hp):Option (Hp×Bool) :=
 (Zx p0 0).bind λv1 =>
 some ((v1.1,v1.2))
theorem Qgv{p0 r}:Sm (XG p0) r->DCall Tryz.prog 109 [.agg [.lit (.string p0.config.name),.sl (p0.config.rules.map Rul.c),DI p0.config.full,DI p0.space.sh,.sl (p0.space.ws.map uC),.sl (p0.space.fs.map frC),.sl (p0.belts.map (lC Inc.c)),DI p0.seq,.sl (p0.sets.map Qe.c),.sl (p0.roots.used.map bC),.sl (p0.roots.refs.map uC),DI p0.since,DI p0.stats.allocated,DI p0.stats.objects,DI p0.stats.collections,DI p0.stats.steps,DI p0.stats.rounds,DI p0.stats.condemned,DI p0.stats.copied,DI p0.stats.entries,DI p0.stats.work,DB p0.dead]] [] (.tup [.agg [.lit (.string r.1.config.name),.sl (r.1.config.rules.map Rul.c),DI r.1.config.full,DI r.1.space.sh,.sl (r.1.space.ws.map uC),.sl (r.1.space.fs.map frC),.sl (r.1.belts.map (lC Inc.c)),DI r.1.seq,.sl (r.1.sets.map Qe.c),.sl (r.1.roots.used.map bC),.sl (r.1.roots.refs.map uC),DI r.1.since,DI r.1.stats.allocated,DI r.1.stats.objects,DI r.1.stats.collections,DI r.1.stats.steps,DI r.1.stats.rounds,DI r.1.stats.condemned,DI r.1.stats.copied,DI r.1.stats.entries,DI r.1.stats.work,DB r.1.dead],DB r.2]) []:=by
 unfold XG
 &mk0 Tryz.func109 ?_
 &ar ?_
 &xd λv1 hv1=>?_
 have q0:=cG r0 (Qe5 hv1)
 &ar ?_
 ~fwt r0
noncomputable def Qb8(p0:Hp)(p1:Int):Option (Hp×Bool) :=
 (Zx p0 p1).bind λv1 =>
 (Zw v1.1 p1).bind λv2 =>
 some ((v1.1,!v2))
noncomputable def Xi(p0:Hp):Option (Hp×Bool) :=
 (ZR p0 0).bind λv1 =>
 some ((v1.1,v1.2))
theorem QbC{p0 r}:Sm (Xi p0) r->DCall Tryz.prog 109 [.agg [.lit (.string p0.config.name),.sl (p0.config.rules.map Rul.c),DI p0.config.full,DI p0.space.sh,.sl (p0.space.ws.map uC),.sl (p0.space.fs.map frC),.sl (p0.belts.map (lC Inc.c)),DI p0.seq,.sl (p0.sets.map Qe.c),.sl (p0.roots.used.map bC),.sl (p0.roots.refs.map uC),DI p0.since,DI p0.stats.allocated,DI p0.stats.objects,DI p0.stats.collections,DI p0.stats.steps,DI p0.stats.rounds,DI p0.stats.condemned,DI p0.stats.copied,DI p0.stats.entries,DI p0.stats.work,DB p0.dead]] [] (.tup [.agg [.lit (.string r.1.config.name),.sl (r.1.config.rules.map Rul.c),DI r.1.config.full,DI r.1.space.sh,.own 0 0 r.1.space.ws.length,.own 1 0 r.1.space.fs.length,.sl (r.1.belts.map (lC Inc.c)),DI r.1.seq,.sl (r.1.sets.map Qe.c),.sl (r.1.roots.used.map bC),.sl (r.1.roots.refs.map uC),DI r.1.since,DI r.1.stats.allocated,DI r.1.stats.objects,DI r.1.stats.collections,DI r.1.stats.steps,DI r.1.stats.rounds,DI r.1.stats.condemned,DI r.1.stats.copied,DI r.1.stats.entries,DI r.1.stats.work,DB r.1.dead],DB r.2]) [(0,aO 1 (r.1.space.ws.map uC)),(1,aO 3 (r.1.space.fs.map frC))]:=by
 unfold Xi
 &mk0 Tryz.func109 ?_
 &ar ?_
 &xd λv1 hv1=>?_
 have q0:=cG r0 (Qbh hv1)
 &ar ?_
 ~fwt [(0,2),(1,3)]
noncomputable def Zy(p0:Hp)(p1:Int):Option (Hp×Bool) :=
 (ZR p0 p1).bind λv1 =>
 (Zw v1.1 p1).bind λv2 =>
 some ((v1.1,!v2))
theorem Ji{p0 p1 r}:Sm (Zy p0 p1) r->DCall Tryz.prog 139 [.agg [.lit (.string p0.config.name),.sl (p0.config.rules.map Rul.c),DI p0.config.full,DI p0.space.sh,.sl (p0.space.ws.map uC),.sl (p0.space.fs.map frC),.sl (p0.belts.map (lC Inc.c)),DI p0.seq,.sl (p0.sets.map Qe.c),.sl (p0.roots.used.map bC),.sl (p0.roots.refs.map uC),DI p0.since,DI p0.stats.allocated,DI p0.stats.objects,DI p0.stats.collections,DI p0.stats.steps,DI p0.stats.rounds,DI p0.stats.condemned,DI p0.stats.copied,DI p0.stats.entries,DI p0.stats.work,DB p0.dead],DI p1] [] (.tup [.agg [.lit (.string r.1.config.name),.sl (r.1.config.rules.map Rul.c),DI r.1.config.full,DI r.1.space.sh,.own 0 0 r.1.space.ws.length,.own 1 0 r.1.space.fs.length,.sl (r.1.belts.map (lC Inc.c)),DI r.1.seq,.sl (r.1.sets.map Qe.c),.sl (r.1.roots.used.map bC),.sl (r.1.roots.refs.map uC),DI r.1.since,DI r.1.stats.allocated,DI r.1.stats.objects,DI r.1.stats.collections,DI r.1.stats.steps,DI r.1.stats.rounds,DI r.1.stats.condemned,DI r.1.stats.copied,DI r.1.stats.entries,DI r.1.stats.work,DB r.1.dead],DB r.2]) [(0,aO 1 (r.1.space.ws.map uC)),(1,aO 3 (r.1.space.fs.map frC))]:=by
 unfold Zy
 &mk0 Tryz.func139 ?_
 &ar ?_
 &xd λv1 hv1=>?_
 have q0:=cG r0 (Qbh hv1)
 &ar ?_
 &xd λv2 hv2=>?_
 replace q0:=cS r0 (Xc hv2)
 &ar ?_
 ~fwt [(0,2),(1,3)]
end Go.Proofs.YtkfnkecgcdhncaaGreat
