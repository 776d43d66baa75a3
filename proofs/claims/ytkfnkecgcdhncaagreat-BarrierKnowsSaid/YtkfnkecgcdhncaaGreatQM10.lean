/- Parts of the proof. No condition. -/
import Derived.Test.YtkfnkecgcdhncaaGreatQM0
import Derived.Test.YtkfnkecgcdhncaaGreatQM4
import Derived.Test.YtkfnkecgcdhncaaGreatQM5
import Derived.Test.YtkfnkecgcdhncaaGreatQM6
import Derived.Test.YtkfnkecgcdhncaaGreatQM7
import Derived.Test.YtkfnkecgcdhncaaGreatQM8
import Derived.Test.YtkfnkecgcdhncaaGreatQM9
namespace Go.Proofs.YtkfnkecgcdhncaaGreat
open Go.RowKit
set_option linter.unusedSimpArgs false
set_option linter.unusedVariables false
set_option maxRecDepth 20000
set_option maxHeartbeats 40000000
noncomputable def QL(p0:Cfg)(p1:Sp)(p2:List (List Inc))(p3:Int)(p4:Int):Option (Int×Inc) :=
 (XK p0 0 (p1.fs.length:Int)).bind λv1 =>
 (QS p2 0).bind λv2 =>
 bndR (if v2.2=true then
 ((Jw p1 v2.1 v1.1).bind λv6 =>
 if v6=true then
 (some (.inl ((1,v2.1))))
 else
 (at_ p0.rules 0).bind λv8 =>
 if v8.limit=0 then
 (some (.inl ((2,Inc.mk p3 0 (-1) (-1) 0))))
 else
 (at_ p2 0).bind λv10 =>
 if v8.limit<=(v10.length:Int) then
 (some (.inr ((3,Inc.mk 0 0 0 0 0))))
 else
 some (.inl ((2,Inc.mk p3 0 (-1) (-1) 0))))
 else
 (at_ p0.rules 0).bind λv12 =>
 if v12.limit=0 then
 (some (.inl ((2,Inc.mk p3 0 (-1) (-1) 0))))
 else
 (at_ p2 0).bind λv14 =>
 if v12.limit<=(v14.length:Int) then
 (some (.inr ((3,Inc.mk 0 0 0 0 0))))
 else
 some (.inl ((2,Inc.mk p3 0 (-1) (-1) 0)))) λ(b3:Int×Inc) =>
 (Jc p0 p1 p2 b3.2 p4).bind λv17 =>
 if v17=true then
 (some ((b3.1,b3.2)))
 else
 some ((3,Inc.mk 0 0 0 0 0))
theorem Q3{p0 p1 p2 p3 p4 r}:Sm (QL p0 p1 p2 p3 p4) r->DCall Tryz.prog 137 [.agg [.lit (.string p0.name),.sl (p0.rules.map Rul.c),DI p0.full],.agg [DI p1.sh,.sl (p1.ws.map uC),.sl (p1.fs.map frC)],.sl (p2.map (lC Inc.c)),DI p3,DI p4] [] (.tup [DI r.1,.agg [DI r.2.seq,DI r.2.belt,DI r.2.first,DI r.2.last,DI r.2.words]]) []:=by
 unfold QL
 &mk0 Tryz.func137 ?_
 &ar ?_
 &xd λv1 hv1=>?_
 have q0:=cS r0 (Qdh hv1)
 &ar ?_
 &ar ?_
 &xd λv2 hv2=>?_
 replace q0:=cS r0 (Z4 hv2)
 &ar ?_
 &cU [2,4] [(5,λb3=>.ptr 0 0 0),(6,λb3=>.ptr 1 0 0),(11,λb3=>.ptr 2 0 0),(14,λb3=>DI b3.1),(15,λb3=>.ptr 3 0 0)] [0,1,2] [] [(3,λb3=>bO 5 [DI b3.2.seq,DI b3.2.belt,DI b3.2.first,DI b3.2.last,DI b3.2.words])] 4 (λz4 hr4=>?_) λb3=>?_
 &xs (λh5=>?_) λh5=>?_
 &xd λv6 hv6=>?_
 replace q0:=cS r0 (QcK hv6)
 &ar ?_
 &xs (λh7=>?_) λh7=>?_
 &da ?_
 ~wJ []
 &cb ?_
 &xa λv8 hv8=>?_
 &ar ?_
 &xs (λh9=>?_) λh9=>?_
 &ar ?_
 &cb ?_
 ~wJ []
 &xa λv10 hv10=>?_
 &ar ?_
 &xs (λh11=>?_) λh11=>?_
 &da ?_
 &xr hr4 ?_
 ~ftw r0
 &cb ?_
 ~wJ []
 &ar ?_
 &cb ?_
 &xa λv12 hv12=>?_
 &ar ?_
 &xs (λh13=>?_) λh13=>?_
 &ar ?_
 &cb ?_
 ~wJ []
 &xa λv14 hv14=>?_
 &ar ?_
 &xs (λh15=>?_) λh15=>?_
 &da ?_
 &xr hr4 ?_
 ~ftw r0
 &cb ?_
 ~wJ []
 &sq λK k=>?_
 &xd λv17 hv17=>?_
 replace q0:=cS r0 (QeE hv17)
 &ar ?_
 &xs (λh18=>?_) λh18=>?_
 &db ?_
 ~ftw r0
 &da ?_
 ~ftw r0
noncomputable def Zn(p0:Qr)(p1:Int):Option (Int×Qr×List Int×List Fe×List Mov) :=
 if p0.e=0 then
 ((ZH p0.s p0.l p1).bind λv3 =>
 if v3=true then
 (bndR ((at_ p0.s.ws (w64 (wu (p1-1)))).bind λv7 =>
 (Xn v7).bind λv8 =>
 if v8.2.2.2.2=0 then
 (if v8.2.2.2.1=true then
 (some (.inr ((wu (w64 (v8.2.2.1+1)),p0,p0.s.ws,p0.s.fs,p0.moves))))
 else
 some (.inl (())))
 else
 some (.inl (()))) λ(b5:Unit) =>
 (Zl p0.s (w64 (wu (p1-1)))).bind λv11 =>
 if v11.2.2=0 then
 ((XN p0.s p0.to (w64 ((w64 (1+v11.1))+v11.2.1))).bind λv14 =>
 if v14.2.2.2.length=p0.s.fs.length then
 if v14.2.2.1=0 then
 ((Qh (λ(s20:List Int×Int) =>
 if s20.2<=(w64 (v11.1+v11.2.1)) then
 ((QM (Sp.mk p0.s.sh s20.1 v14.2.2.2) (w64 (wu (p1-1))) s20.2).bind λv25 =>
 (QM (Sp.mk p0.s.sh s20.1 v14.2.2.2) v14.2.1 s20.2).bind λv26 =>
 (at_ s20.1 v25.1).bind λv27 =>
 (at_ s20.1 v26.1).bind λv28 =>
 some (.go ((s20.1.set (Int.toNat v26.1) v27,w64 (s20.2+1)))))
 else
 some (.out (s20.1))) (p0.s.ws,0)).bind λ(b17:List Int) =>
 (XQ v14.2.1).bind λv29 =>
 (at_ b17 (w64 (wu (p1-1)))).bind λv30 =>
 if ((p0.moves.length:Int)+[Mov.mk (w64 (wu (p1-1))) v14.2.1].length)*16<=140737488355328/\(p0.moves.length:Int)+[Mov.mk (w64 (wu (p1-1))) v14.2.1].length<=9223372036854775807 then
 some ((wu (w64 (v14.2.1+1)),Qr.mk (Sp.mk p0.s.sh (b17.set (Int.toNat (w64 (wu (p1-1)))) v29.1) v14.2.2.2) p0.l v14.1 (p0.moves++[Mov.mk (w64 (wu (p1-1))) v14.2.1]) p0.e,b17.set (Int.toNat (w64 (wu (p1-1)))) v29.1,v14.2.2.2,p0.moves++[Mov.mk (w64 (wu (p1-1))) v14.2.1]))
 else none)
 else
 some ((p1,Qr.mk (Sp.mk p0.s.sh p0.s.ws v14.2.2.2) p0.l p0.to p0.moves v14.2.2.1,p0.s.ws,v14.2.2.2,p0.moves))
 else none)
 else
 some ((p1,Qr.mk p0.s p0.l p0.to p0.moves 12,p0.s.ws,p0.s.fs,p0.moves)))
 else
 some ((p1,p0,p0.s.ws,p0.s.fs,p0.moves)))
 else
 some ((p1,p0,p0.s.ws,p0.s.fs,p0.moves))
theorem QaF{p0 p1 r}:Sm (Zn p0 p1) r->DCall Tryz.prog 189 [.ptr 0 0 0,DU p1] [(0,bO 11 [DI p0.s.sh,.own 1 0 p0.s.ws.length,.own 2 0 p0.s.fs.length,.sl (p0.l.map Inc.c),DI p0.to.seq,DI p0.to.belt,DI p0.to.first,DI p0.to.last,DI p0.to.words,.own 3 0 p0.moves.length,DI p0.e]),(1,aO 1 (p0.s.ws.map uC)),(2,aO 3 (p0.s.fs.map frC)),(3,aO 2 (p0.moves.map Mov.c))] (DU r.1) [(0,bO 11 [DI r.2.1.s.sh,.own 1 0 r.2.2.1.length,.own 2 0 r.2.2.2.1.length,.sl (r.2.1.l.map Inc.c),DI r.2.1.to.seq,DI r.2.1.to.belt,DI r.2.1.to.first,DI r.2.1.to.last,DI r.2.1.to.words,.own 4 0 r.2.2.2.2.length,DI r.2.1.e]),(1,aO 1 (r.2.2.1.map uC)),(2,aO 3 (r.2.2.2.1.map frC)),(4,aO 2 (r.2.2.2.2.map Mov.c))]:=by
 unfold Zn
 &mk0 Tryz.func189 ?_
 &ar ?_
 &sq λK k=>?_
 &xs (λh2=>?_) λh2=>?_
 &xd λv3 hv3=>?_
 have q0:=cS r0 (Qab hv3)
 &ar ?_
 &xs (λh4=>?_) λh4=>?_
 &db ?_
 &cU [0,1,5] [] [1,2] [(0,[(9,λb5=>.own 4 0 p0.moves.length)])] [(4,λb5=>aO 2 (p0.moves.map Mov.c))] 5 (λz6 hr6=>?_) λb5=>?_
 &xa λv7 hv7=>?_
 &xd λv8 hv8=>?_
 replace q0:=cS r0 (QbJ hv8)
 &ar ?_
 &xs (λh9=>?_) λh9=>?_
 &ar ?_
 &xs (λh10=>?_) λh10=>?_
 &da ?_
 &xr hr6 ?_
 ~ft [(0,0),(1,1),(2,2),(4,3)]
 &cb ?_
 ~wJ [(4,3)]
 &ar ?_
 &cb ?_
 ~wJ [(4,3)]
 &xd λv11 hv11=>?_
 replace q0:=cS r0 (XO hv11)
 &ar ?_
 &sq λK k=>?_
 &ar ?_
 &xs (λh13=>?_) λh13=>?_
 &cb ?_
 &xd λv14 hv14=>?_
 &xc λh32=>?_
 replace q0:=cS [(0,2)] (QcM hv14)
 &ar ?_
 &sq λK k=>?_
 &ar ?_
 &xs (λh16=>?_) λh16=>?_
 &db ?_
 &cT [0,5,15] [] [2,4] [(0,[(1,λb17=>.own 1 0 b17.length),(0,λb17=>.own 2 0 v14.2.2.2.length)])] [(1,λb17=>aO 1 (b17.map uC))] 5 (λz18=>?_) λb17=>?_
 &ar ?_
 &lP [0,5,11,12,15] [(16,λs20=>DI s20.2)] [2,4] [(0,[(1,λs20=>.own 1 0 s20.1.length),(0,λs20=>.own 2 0 v14.2.2.2.length)])] [(1,λs20=>aO 1 (s20.1.map uC))] 5 λs20 y21 hq21=>?_
 &sq λK k=>?_
 &ar ?_
 &xs (λh23=>?_) λh23=>?_
 &ca ?_
 &sq λK k=>?_
 &au ?_
 &xd λv25 hv25=>?_
 replace q0:=cS r0 (QP hv25)
 &ar ?_
 &xd λv26 hv26=>?_
 replace q0:=cS r0 (QP hv26)
 &ar ?_
 &xa λv27 hv27=>?_
 &xa λv28 hv28=>?_
 &ar ?_
 &goA (Xr (c:=uC) hv28.h v27 i61.ok) ?_
 &au ?_
 &ar ?_
 ~wJ []
 &cb ?_
 &xo hq21 ?_
 ~wJ []
 &xd λv29 hv29=>?_
 &xa λv30 hv30=>?_
 replace q0:=cS r0 (Qec hv29)
 &ar ?_
 &goA (Xr (c:=uC) hv30.h v29.1 i61.ok) ?_
 &au ?_
 &xc λh31=>?_
 &ar ?_
 &goA (Ql (c:=Mov.c) ([Mov.mk (w64 (wu (p1-1))) v14.2.1]:List Mov) i247.ok i263.ok) ?_
 &goA (QW (c:=Mov.c) p0.moves [Mov.mk (w64 (wu (p1-1))) v14.2.1] h31 i247.ok i263.ok rfl rfl (.own rfl rfl Os (Qg (c:=Mov.c) (λ_=>rfl) _)) rfl) ?_
 &au ?_
 &ar ?_
 ~ft [(0,0),(1,1),(2,2),(4,6)]
 &da ?_
 &ar ?_
 ~ft [(0,0),(1,1),(2,2),(4,4)]
 &da ?_
 &ar ?_
 ~ft [(0,0),(1,1),(2,2),(4,4)]
 &da ?_
 ~ft [(0,0),(1,1),(2,2),(4,3)]
 &ar ?_
 &da ?_
 ~ft [(0,0),(1,1),(2,2),(4,3)]
noncomputable def XY(p0:Hp)(p1:Int)(p2:Int)(p3:Bool):Option (Int×Int) :=
 if p0.dead=true then
 (some ((0,19)))
 else
 (QaP p0 p1).bind λv4 =>
 if v4=true then
 ((Z6 p0.space p1 p2 p3).bind λv6 =>
 some ((v6.1,v6.2)))
 else
 some ((0,1))
theorem Qcd{p0 p1 p2 p3 r}:Sm (XY p0 p1 p2 p3) r->DCall Tryz.prog 147 [.agg [.lit (.string p0.config.name),.sl (p0.config.rules.map Rul.c),DI p0.config.full,DI p0.space.sh,.sl (p0.space.ws.map uC),.sl (p0.space.fs.map frC),.sl (p0.belts.map (lC Inc.c)),DI p0.seq,.sl (p0.sets.map Qe.c),.sl (p0.roots.used.map bC),.sl (p0.roots.refs.map uC),DI p0.since,DI p0.stats.allocated,DI p0.stats.objects,DI p0.stats.collections,DI p0.stats.steps,DI p0.stats.rounds,DI p0.stats.condemned,DI p0.stats.copied,DI p0.stats.entries,DI p0.stats.work,DB p0.dead],DI p1,DI p2,DB p3] [] (.tup [DI r.1,DI r.2]) []:=by
 unfold XY
 &mk0 Tryz.func147 ?_
 &ar ?_
 &sq λK k=>?_
 &ar ?_
 &xs (λh2=>?_) λh2=>?_
 &da ?_
 ~ftt r0
 &cb ?_
 &sq λK k=>?_
 &xd λv4 hv4=>?_
 have q0:=cS r0 (Qd8 hv4)
 &ar ?_
 &xs (λh5=>?_) λh5=>?_
 &cb ?_
 &xd λv6 hv6=>?_
 replace q0:=cS r0 (QaD hv6)
 &ar ?_
 ~ftt r0
 &da ?_
 ~ftt r0
noncomputable def QaV(p0:Sp)(p1:Inc)(c0:List Int):Option (Int×List Int×List Int) :=
 (Qay p0 p1).bind λv2 =>
 if v2=true then
 (if p1.words=0 then
 (some ((0,c0,c0)))
 else
 (Qaw p0 p1.first).bind λv6 =>
 bndR (Qh (λ(s10:List Int×Int) =>
 if s10.2<p1.words then
 ((ZF p0 v6.1 s10.2).bind λv14 =>
 if v14.2=0 then
 ((at_ p0.ws v14.1).bind λv17 =>
 (ZV v17).bind λv18 =>
 if v18.2.2.2.2=0 then
 (if v18.2.2.2.1=true then
 (some (.out (.inr ((12,s10.1,s10.1)))))
 else
 if (w64 (p1.words-s10.2))<(w64 ((w64 (1+v18.1))+v18.2.1)) then
 (some (.out (.inr ((12,s10.1,s10.1)))))
 else
 (Z9 v14.1 (w64 ((w64 (1+v18.1))+v18.2.1)) s10.1).bind λv24 =>
 if v24.1=true then
 (some (.go ((v24.2.2,w64 (s10.2+(w64 ((w64 (1+v18.1))+v18.2.1)))))))
 else
 some (.out (.inr ((0,v24.2.2,v24.2.2)))))
 else
 some (.out (.inr ((12,s10.1,s10.1)))))
 else
 some (.out (.inr ((12,s10.1,s10.1)))))
 else
 some (.out (.inl (s10.1)))) (c0,0)) λ(b7:List Int) =>
 some ((0,b7,b7)))
 else
 some ((1,c0,c0))
theorem F_walk_each_ok{p0 p1 c0 r}:Sm (QaV p0 p1 c0) r->DCall Tryz.prog 44 [.agg [DI p0.sh,.sl (p0.ws.map uC),.sl (p0.fs.map frC)],.agg [DI p1.seq,DI p1.belt,DI p1.first,DI p1.last,DI p1.words],.fn 45 [.ptr 0 0 0]] [(0,bO 1 [.own 1 0 c0.length]),(1,aO 1 (c0.map iC))] (DI r.1) [(0,bO 1 [.own 2 0 r.2.2.length]),(2,aO 1 (r.2.2.map iC))]:=by
 unfold QaV
 &mk0 Tryz.func44 ?_
 &ar ?_
 &sq λK k=>?_
 &xd λv2 hv2=>?_
 have q0:=cS r0 (QgL hv2)
 &ar ?_
 &xs (λh3=>?_) λh3=>?_
 &cb ?_
 &sq λK k=>?_
 &ar ?_
 &xs (λh5=>?_) λh5=>?_
 &da ?_
 ~ft [(0,0),(2,1)]
 &cb ?_
 &xd λv6 hv6=>?_
 replace q0:=cS r0 (QgJ hv6)
 &ar ?_
 &cU [] [] [] [] [(0,λb7=>bO 1 [.own 4 0 b7.length]),(4,λb7=>aO 1 (b7.map iC))] 5 (λz8 hr8=>?_) λb7=>?_
 &ar ?_
 &lQ [(4,1)] [2,7] [(3,λs10=>.ptr 2 0 0),(4,λs10=>.ptr 3 0 0),(9,λs10=>DI s10.2)] [2,3] [] [(0,λs10=>bO 1 [.own 4 0 s10.1.length]),(4,λs10=>aO 1 (s10.1.map iC))] 5 λs10 y11 hq11=>?_
 &sq λK k=>?_
 &ar ?_
 &xs (λh13=>?_) λh13=>?_
 &ca ?_
 &xd λv14 hv14=>?_
 replace q0:=cS r0 (JZ hv14)
 &ar ?_
 &sq λK k=>?_
 &ar ?_
 &xs (λh16=>?_) λh16=>?_
 &cb ?_
 &xa λv17 hv17=>?_
 &xd λv18 hv18=>?_
 replace q0:=cS r0 (Qbn hv18)
 &ar ?_
 &ar ?_
 &sq λK k=>?_
 &xs (λh20=>?_) λh20=>?_
 &xs (λh21=>?_) λh21=>?_
 &ar ?_
 &da ?_
 &xo hq11 ?_
 &xr hr8 ?_
 ~ft [(0,0),(2,4)]
 &ar ?_
 &xs (λh22=>?_) λh22=>?_
 &da ?_
 &xo hq11 ?_
 &xr hr8 ?_
 ~ft [(0,0),(2,4)]
 &cb ?_
 &sq λK k=>?_
 &xd λv24 hv24=>?_
 replace q0:=cS [(0,0),(1,4)] (Qdz hv24)
 &ar ?_
 &xs (λh25=>?_) λh25=>?_
 &db ?_
 ~wJ [(4,5)]
 &da ?_
 &xo hq11 ?_
 &xr hr8 ?_
 ~ft [(0,0),(2,5)]
 &ar ?_
 &da ?_
 &xo hq11 ?_
 &xr hr8 ?_
 ~ft [(0,0),(2,4)]
 &da ?_
 &xo hq11 ?_
 &xr hr8 ?_
 ~ft [(0,0),(2,4)]
 &cb ?_
 &xo hq11 ?_
 ~wJ []
 &ar ?_
 ~ft [(0,0),(2,4)]
 &da ?_
 ~ft [(0,0),(2,1)]
noncomputable def Je(p0:Sp)(p1:Int):Option (List Int×Int) :=
 (JV p0 p1).bind λv1 =>
 if v1.2=0 then
 ((Qh (λ(s8:List Int×Int) =>
 if s8.2<v1.1.refs then
 ((Q6 v1.1 (w64 (1+s8.2))).bind λv13 =>
 if ((s8.1.length:Int)+[v13].length)*8<=140737488355328/\(s8.1.length:Int)+[v13].length<=9223372036854775807 then
 some (.go ((s8.1++[v13],w64 (s8.2+1))))
 else none)
 else
 some (.out (s8.1))) (([]:List Int),0)).bind λ(b4:List Int) =>
 some ((b4,0)))
 else
 some ((([]:List Int),v1.2))
theorem QeH{p0 p1 r}:Sm (Je p0 p1) r->DCall Tryz.prog 20 [.agg [DI p0.sh,.sl (p0.ws.map uC),.sl (p0.fs.map frC)],DI p1] [] (.tup [.own 0 0 r.1.length,DI r.2]) [(0,aO 1 (r.1.map iC))]:=by
 unfold Je
 &mk0 Tryz.func20 ?_
 &ar ?_
 &xd λv1 hv1=>?_
 have q0:=cG r0 (Qfb hv1)
 &ar ?_
 &sq λK k=>?_
 &ar ?_
 &xs (λh3=>?_) λh3=>?_
 &db ?_
 &cT [] [(8,λb4=>.own 2 0 b4.length)] [] [] [(2,λb4=>aO 1 (b4.map iC))] 3 (λz5=>?_) λb4=>?_
 &ar ?_
 &xx (Qz 8 1 Od rfl) ?_
 &lP [] [(6,λs8=>.ptr 1 0 0),(8,λs8=>.own 2 0 s8.1.length),(9,λs8=>DI s8.2)] [1] [] [(2,λs8=>aO 1 (s8.1.map iC))] 3 λs8 y9 hq9=>?_
 &sq λK k=>?_
 &ar ?_
 &xs (λh11=>?_) λh11=>?_
 &ca ?_
 &sq λK k=>?_
 &au ?_
 &xd λv13 hv13=>?_
 &xc λh14=>?_
 replace q0:=cS r0 (QbK hv13)
 &ar ?_
 &goA (Ql (c:=iC) ([v13]:List Int) i22.ok i3.ok) ?_
 &goA (QW (c:=iC) s8.1 [v13] h14 i22.ok i3.ok rfl rfl (.own rfl rfl Os (Qg (c:=iC) (λ_=>rfl) _)) rfl) ?_
 &au ?_
 &ar ?_
 ~wJ [(2,4)]
 &cb ?_
 &xo hq9 ?_
 ~wJ []
 &ar ?_
 ~ftt [(0,2)]
 &da ?_
 &xx (Qz 4 1 Od rfl) ?_
 ~ftt [(0,2)]
noncomputable def Xf(p0:Sp)(p1:List Qe)(p2:Int)(p3:Int):Option (List Qe×Int) :=
 (ZD p0).bind λv2 =>
 if v2=true then
 ((Xh p1).bind λv4 =>
 if v4=true then
 ((QQ p0 p2 p3).bind λv7 =>
 if v7=true then
 ((ZK p0 p2 p3).bind λv9 =>
 (XE p1 v9.1 v9.2.1 p2).bind λv10 =>
 some ((v10.1,v10.2)))
 else
 (Qax p1).bind λv11 =>
 some ((v11,0)))
 else
 some ((([]:List Qe),1)))
 else
 some ((([]:List Qe),1))
theorem QdF{p0 p1 p2 p3 r}:Sm (Xf p0 p1 p2 p3) r->DCall Tryz.prog 15 [.agg [DI p0.sh,.sl (p0.ws.map uC),.sl (p0.fs.map frC)],.sl (p1.map Qe.c),DI p2,DU p3] [] (.tup [.own 0 0 r.1.length,DI r.2]) [(0,aO 3 (r.1.map Qe.c))]:=by
 unfold Xf
 &mk0 Tryz.func15 ?_
 &ar ?_
 &sq λK k=>?_
 &xd λv2 hv2=>?_
 &xs (λh3=>?_) λh3=>?_
 &xd λv4 hv4=>?_
 have q0:=cS r0 (QC hv2)
 have q1:=cS r0 (ZO hv4)
 &ar ?_
 &xs (λh5=>?_) λh5=>?_
 &cb ?_
 &sq λK k=>?_
 &xd λv7 hv7=>?_
 replace q0:=cS r0 (Qf hv7)
 &ar ?_
 &xs (λh8=>?_) λh8=>?_
 &cb ?_
 &xd λv9 hv9=>?_
 replace q0:=cS r0 (Qai hv9)
 &ar ?_
 &xd λv10 hv10=>?_
 replace q0:=cG r0 (Qd7 hv10)
 &ar ?_
 ~ftt [(0,1)]
 &ca ?_
 &xd λv11 hv11=>?_
 replace q0:=cG r0 (QcR hv11)
 &ar ?_
 &xx (Qp (Qcq (s:=1) (xs:=v11) (cd:=Qe.d) rfl (λ_=>rfl))) ?_
 &xx (Qp (ZM.flat (s:=1) (c:=Qe.c) rfl (λ_=>rfl) (λ_=>rfl))) ?_
 ~ftt [(0,1)]
 &da ?_
 &xx (Qz 8 3 Od rfl) ?_
 ~ftt [(0,1)]
 have q0:=cS r0 (QC hv2)
 &ar ?_
 &da ?_
 &xx (Qz 8 3 Od rfl) ?_
 ~ftt [(0,1)]
noncomputable def Zw(p0:Hp)(p1:Int):Option Bool :=
 (QL p0.config p0.space p0.belts p0.seq p1).bind λv1 =>
 some (decide (v1.1=3))
theorem Xc{p0 p1 r}:Sm (Zw p0 p1) r->DCall Tryz.prog 161 [.agg [.lit (.string p0.config.name),.sl (p0.config.rules.map Rul.c),DI p0.config.full,DI p0.space.sh,.sl (p0.space.ws.map uC),.sl (p0.space.fs.map frC),.sl (p0.belts.map (lC Inc.c)),DI p0.seq,.sl (p0.sets.map Qe.c),.sl (p0.roots.used.map bC),.sl (p0.roots.refs.map uC),DI p0.since,DI p0.stats.allocated,DI p0.stats.objects,DI p0.stats.collections,DI p0.stats.steps,DI p0.stats.rounds,DI p0.stats.condemned,DI p0.stats.copied,DI p0.stats.entries,DI p0.stats.work,DB p0.dead],DI p1] [] (DB r) []:=by
 unfold Zw
 &mk0 Tryz.func161 ?_
 &ar ?_
 &xd λv1 hv1=>?_
 have q0:=cS r0 (Q3 hv1)
 &ar ?_
 &ar ?_
 ~ft r0
noncomputable def XH(p0:Sp)(p1:List Inc)(p2:Inc)(p3:List Int):Option (Inc×List Mov×List Int×Int×List Int×List Fe) :=
 (Qh (λ(s6:List Int×List Fe×Int×List Inc×Int×Int×Int×Int×Int×List Mov×Int×List Int×Int) =>
 if s6.2.2.2.2.2.2.2.2.2.2.2.2<(p3.length:Int) then
 ((at_ p3 s6.2.2.2.2.2.2.2.2.2.2.2.2).bind λv11 =>
 (Zn (Qr.mk (Sp.mk s6.2.2.1 s6.1 s6.2.1) s6.2.2.2.1 (Inc.mk s6.2.2.2.2.1 s6.2.2.2.2.2.1 s6.2.2.2.2.2.2.1 s6.2.2.2.2.2.2.2.1 s6.2.2.2.2.2.2.2.2.1) s6.2.2.2.2.2.2.2.2.2.1 s6.2.2.2.2.2.2.2.2.2.2.1) v11).bind λv12 =>
 if v12.2.2.1.length=s6.1.length then
 if v12.2.2.2.1.length=s6.2.1.length then
 if ((s6.2.2.2.2.2.2.2.2.2.2.2.1.length:Int)+[v12.1].length)*8<=140737488355328/\(s6.2.2.2.2.2.2.2.2.2.2.2.1.length:Int)+[v12.1].length<=9223372036854775807 then
 some (.go ((v12.2.2.1,v12.2.2.2.1,v12.2.1.s.sh,v12.2.1.l,v12.2.1.to.seq,v12.2.1.to.belt,v12.2.1.to.first,v12.2.1.to.last,v12.2.1.to.words,v12.2.2.2.2,v12.2.1.e,s6.2.2.2.2.2.2.2.2.2.2.2.1++[v12.1],w64 (s6.2.2.2.2.2.2.2.2.2.2.2.2+1))))
 else none
 else none
 else none)
 else
 some (.out ((s6.1,s6.2.1,s6.2.2.1,s6.2.2.2.1,s6.2.2.2.2.1,s6.2.2.2.2.2.1,s6.2.2.2.2.2.2.1,s6.2.2.2.2.2.2.2.1,s6.2.2.2.2.2.2.2.2.1,s6.2.2.2.2.2.2.2.2.2.1,s6.2.2.2.2.2.2.2.2.2.2.1,s6.2.2.2.2.2.2.2.2.2.2.2.1)))) (p0.ws,p0.fs,p0.sh,p1,p2.seq,p2.belt,p2.first,p2.last,p2.words,([]:List Mov),0,([]:List Int),0)).bind λ(b1:List Int×List Fe×Int×List Inc×Int×Int×Int×Int×Int×List Mov×Int×List Int) =>
 (Qh (λ(s19:List Int×List Fe×Int×List Inc×Int×Int×Int×Int×Int×List Mov×Int×Int) =>
 if s19.2.2.2.2.2.2.2.2.2.2.2<(s19.2.2.2.2.2.2.2.2.2.1.length:Int) then
 (if s19.2.2.2.2.2.2.2.2.2.2.1=0 then
 (((at_ s19.2.2.2.2.2.2.2.2.2.1 s19.2.2.2.2.2.2.2.2.2.2.2).bind λv26 =>
 (QY (Sp.mk p0.sh s19.1 s19.2.1) v26.to).bind λv27 =>
 Qh (λ(s29:List Int×List Fe×Int×List Inc×Int×Int×Int×Int×Int×List Mov×Int×Int) =>
 if s29.2.2.2.2.2.2.2.2.2.2.2<(v27.1.length:Int) then
 ((at_ v27.1 s29.2.2.2.2.2.2.2.2.2.2.2).bind λv34 =>
 (at_ s29.1 v34).bind λv35 =>
 (Zn (Qr.mk (Sp.mk s29.2.2.1 s29.1 s29.2.1) s29.2.2.2.1 (Inc.mk s29.2.2.2.2.1 s29.2.2.2.2.2.1 s29.2.2.2.2.2.2.1 s29.2.2.2.2.2.2.2.1 s29.2.2.2.2.2.2.2.2.1) s29.2.2.2.2.2.2.2.2.2.1 s29.2.2.2.2.2.2.2.2.2.2.1) v35).bind λv36 =>
 if v36.2.2.1.length=s29.1.length then
 if v36.2.2.2.1.length=s29.2.1.length then
 (at_ v36.2.2.1 v34).bind λv37 =>
 some (.go ((v36.2.2.1.set (Int.toNat v34) v36.1,v36.2.2.2.1,v36.2.1.s.sh,v36.2.1.l,v36.2.1.to.seq,v36.2.1.to.belt,v36.2.1.to.first,v36.2.1.to.last,v36.2.1.to.words,v36.2.2.2.2,v36.2.1.e,w64 (s29.2.2.2.2.2.2.2.2.2.2.2+1))))
 else none
 else none)
 else
 some (.out ((s29.1,s29.2.1,s29.2.2.1,s29.2.2.2.1,s29.2.2.2.2.1,s29.2.2.2.2.2.1,s29.2.2.2.2.2.2.1,s29.2.2.2.2.2.2.2.1,s29.2.2.2.2.2.2.2.2.1,s29.2.2.2.2.2.2.2.2.2.1,s29.2.2.2.2.2.2.2.2.2.2.1)))) (s19.1,s19.2.1,s19.2.2.1,s19.2.2.2.1,s19.2.2.2.2.1,s19.2.2.2.2.2.1,s19.2.2.2.2.2.2.1,s19.2.2.2.2.2.2.2.1,s19.2.2.2.2.2.2.2.2.1,s19.2.2.2.2.2.2.2.2.2.1,s19.2.2.2.2.2.2.2.2.2.2.1,0)).bind λ(b24:List Int×List Fe×Int×List Inc×Int×Int×Int×Int×Int×List Mov×Int) =>
 some (.go ((b24.1,b24.2.1,b24.2.2.1,b24.2.2.2.1,b24.2.2.2.2.1,b24.2.2.2.2.2.1,b24.2.2.2.2.2.2.1,b24.2.2.2.2.2.2.2.1,b24.2.2.2.2.2.2.2.2.1,b24.2.2.2.2.2.2.2.2.2.1,b24.2.2.2.2.2.2.2.2.2.2,w64 (s19.2.2.2.2.2.2.2.2.2.2.2+1)))))
 else
 some (.out ((s19.1,s19.2.1,s19.2.2.1,s19.2.2.2.1,s19.2.2.2.2.1,s19.2.2.2.2.2.1,s19.2.2.2.2.2.2.1,s19.2.2.2.2.2.2.2.1,s19.2.2.2.2.2.2.2.2.1,s19.2.2.2.2.2.2.2.2.2.1,s19.2.2.2.2.2.2.2.2.2.2.1))))
 else
 some (.out ((s19.1,s19.2.1,s19.2.2.1,s19.2.2.2.1,s19.2.2.2.2.1,s19.2.2.2.2.2.1,s19.2.2.2.2.2.2.1,s19.2.2.2.2.2.2.2.1,s19.2.2.2.2.2.2.2.2.1,s19.2.2.2.2.2.2.2.2.2.1,s19.2.2.2.2.2.2.2.2.2.2.1)))) (b1.1,b1.2.1,b1.2.2.1,b1.2.2.2.1,b1.2.2.2.2.1,b1.2.2.2.2.2.1,b1.2.2.2.2.2.2.1,b1.2.2.2.2.2.2.2.1,b1.2.2.2.2.2.2.2.2.1,b1.2.2.2.2.2.2.2.2.2.1,b1.2.2.2.2.2.2.2.2.2.2.1,0)).bind λ(b16:List Int×List Fe×Int×List Inc×Int×Int×Int×Int×Int×List Mov×Int) =>
 some ((Inc.mk b16.2.2.2.2.1 b16.2.2.2.2.2.1 b16.2.2.2.2.2.2.1 b16.2.2.2.2.2.2.2.1 b16.2.2.2.2.2.2.2.2.1,b16.2.2.2.2.2.2.2.2.2.1,b1.2.2.2.2.2.2.2.2.2.2.2,b16.2.2.2.2.2.2.2.2.2.2,b16.1,b16.2.1))
theorem Qdf{p0 p1 p2 p3 r}:Sm (XH p0 p1 p2 p3) r->DCall Tryz.prog 179 [.agg [DI p0.sh,.own 0 0 p0.ws.length,.own 1 0 p0.fs.length],.sl (p1.map Inc.c),.agg [DI p2.seq,DI p2.belt,DI p2.first,DI p2.last,DI p2.words],.sl (p3.map uC)] [(0,aO 1 (p0.ws.map uC)),(1,aO 3 (p0.fs.map frC))] (.tup [.agg [DI r.1.seq,DI r.1.belt,DI r.1.first,DI r.1.last,DI r.1.words],.own 2 0 r.2.1.length,.own 3 0 r.2.2.1.length,DI r.2.2.2.1]) [(0,aO 1 (r.2.2.2.2.1.map uC)),(1,aO 3 (r.2.2.2.2.2.map frC)),(2,aO 2 (r.2.1.map Mov.c)),(3,aO 1 (r.2.2.1.map uC))]:=by
 unfold XH
 &mk0 Tryz.func179 ?_
 &ar ?_
 &ar ?_
 &ar ?_
 &cT [] [(4,λb1=>.ptr 2 0 0),(8,λb1=>.ptr 4 0 0),(12,λb1=>.ptr 5 0 0),(13,λb1=>.own 7 0 b1.2.2.2.2.2.2.2.2.2.2.2.length)] [4] [] [(0,λb1=>aO 1 (b1.1.map uC)),(1,λb1=>aO 3 (b1.2.1.map frC)),(2,λb1=>bO 3 [DI p0.sh,.own 0 0 b1.1.length,.own 1 0 b1.2.1.length]),(5,λb1=>bO 11 [DI b1.2.2.1,.own 0 0 b1.1.length,.own 1 0 b1.2.1.length,.sl (b1.2.2.2.1.map Inc.c),DI b1.2.2.2.2.1,DI b1.2.2.2.2.2.1,DI b1.2.2.2.2.2.2.1,DI b1.2.2.2.2.2.2.2.1,DI b1.2.2.2.2.2.2.2.2.1,.own 6 0 b1.2.2.2.2.2.2.2.2.2.1.length,DI b1.2.2.2.2.2.2.2.2.2.2.1]),(6,λb1=>aO 2 (b1.2.2.2.2.2.2.2.2.2.1.map Mov.c)),(7,λb1=>aO 1 (b1.2.2.2.2.2.2.2.2.2.2.2.map uC))] 8 (λz2=>?_) λb1=>?_
 &ar ?_
 &xx (Qj 5 9 2 Od rfl rfl) ?_
 &xx (Qz 13 1 Od rfl) ?_
 &lP [26,27] [(4,λs6=>.ptr 2 0 0),(8,λs6=>.ptr 4 0 0),(12,λs6=>.ptr 5 0 0),(13,λs6=>.own 7 0 s6.2.2.2.2.2.2.2.2.2.2.2.1.length),(28,λs6=>DI s6.2.2.2.2.2.2.2.2.2.2.2.2)] [4] [] [(0,λs6=>aO 1 (s6.1.map uC)),(1,λs6=>aO 3 (s6.2.1.map frC)),(2,λs6=>bO 3 [DI p0.sh,.own 0 0 s6.1.length,.own 1 0 s6.2.1.length]),(5,λs6=>bO 11 [DI s6.2.2.1,.own 0 0 s6.1.length,.own 1 0 s6.2.1.length,.sl (s6.2.2.2.1.map Inc.c),DI s6.2.2.2.2.1,DI s6.2.2.2.2.2.1,DI s6.2.2.2.2.2.2.1,DI s6.2.2.2.2.2.2.2.1,DI s6.2.2.2.2.2.2.2.2.1,.own 6 0 s6.2.2.2.2.2.2.2.2.2.1.length,DI s6.2.2.2.2.2.2.2.2.2.2.1]),(6,λs6=>aO 2 (s6.2.2.2.2.2.2.2.2.2.1.map Mov.c)),(7,λs6=>aO 1 (s6.2.2.2.2.2.2.2.2.2.2.2.1.map uC))] 8 λs6 y7 hq7=>?_
 &ar ?_
 &sq λK k=>?_
 &xs (λh9=>?_) λh9=>?_
 &ca ?_
 &sq λK k=>?_
 &au ?_
 &xa λv11 hv11=>?_
 &ar ?_
 &xd λv12 hv12=>?_
 &xc λh15=>?_
 &xc λh14=>?_
 &xc λh13=>?_
 have q0:=cG [(0,5),(1,0),(2,1),(3,6)] (QaF hv12)
 &ar ?_
 &goA (Ql (c:=uC) ([v12.1]:List Int) i26.ok i61.ok) ?_
 &goA (QW (c:=uC) s6.2.2.2.2.2.2.2.2.2.2.2.1 [v12.1] h13 i26.ok i61.ok rfl rfl (.own rfl rfl Os (Qg (c:=uC) (λ_=>rfl) _)) rfl) ?_
 &au ?_
 &ar ?_
 ~wJ [(6,8),(7,10)]
 &cb ?_
 &xo hq7 ?_
 ~wJ []
 &cT [8,12,13] [] [4,7] [] [(0,λb16=>aO 1 (b16.1.map uC)),(1,λb16=>aO 3 (b16.2.1.map frC)),(5,λb16=>bO 11 [DI b16.2.2.1,.own 0 0 b16.1.length,.own 1 0 b16.2.1.length,.sl (b16.2.2.2.1.map Inc.c),DI b16.2.2.2.2.1,DI b16.2.2.2.2.2.1,DI b16.2.2.2.2.2.2.1,DI b16.2.2.2.2.2.2.2.1,DI b16.2.2.2.2.2.2.2.2.1,.own 6 0 b16.2.2.2.2.2.2.2.2.2.1.length,DI b16.2.2.2.2.2.2.2.2.2.2]),(6,λb16=>aO 2 (b16.2.2.2.2.2.2.2.2.2.1.map Mov.c))] 8 (λz17=>?_) λb16=>?_
 &ar ?_
 &lP [4,8,12,13] [(16,λs19=>DI s19.2.2.2.2.2.2.2.2.2.2.2)] [4,7] [] [(0,λs19=>aO 1 (s19.1.map uC)),(1,λs19=>aO 3 (s19.2.1.map frC)),(2,λs19=>bO 3 [DI p0.sh,.own 0 0 s19.1.length,.own 1 0 s19.2.1.length]),(5,λs19=>bO 11 [DI s19.2.2.1,.own 0 0 s19.1.length,.own 1 0 s19.2.1.length,.sl (s19.2.2.2.1.map Inc.c),DI s19.2.2.2.2.1,DI s19.2.2.2.2.2.1,DI s19.2.2.2.2.2.2.1,DI s19.2.2.2.2.2.2.2.1,DI s19.2.2.2.2.2.2.2.2.1,.own 6 0 s19.2.2.2.2.2.2.2.2.2.1.length,DI s19.2.2.2.2.2.2.2.2.2.2.1]),(6,λs19=>aO 2 (s19.2.2.2.2.2.2.2.2.2.1.map Mov.c))] 8 λs19 y20 hq20=>?_
 &sq λK k=>?_
 &xs (λh22=>?_) λh22=>?_
 &ar ?_
 &xs (λh23=>?_) λh23=>?_
 &ca ?_
 &cT [4,8,12,13,16] [] [4,7] [] [(0,λb24=>aO 1 (b24.1.map uC)),(1,λb24=>aO 3 (b24.2.1.map frC)),(2,λb24=>bO 3 [DI p0.sh,.own 0 0 b24.1.length,.own 1 0 b24.2.1.length]),(5,λb24=>bO 11 [DI b24.2.2.1,.own 0 0 b24.1.length,.own 1 0 b24.2.1.length,.sl (b24.2.2.2.1.map Inc.c),DI b24.2.2.2.2.1,DI b24.2.2.2.2.2.1,DI b24.2.2.2.2.2.2.1,DI b24.2.2.2.2.2.2.2.1,DI b24.2.2.2.2.2.2.2.2.1,.own 6 0 b24.2.2.2.2.2.2.2.2.2.1.length,DI b24.2.2.2.2.2.2.2.2.2.2]),(6,λb24=>aO 2 (b24.2.2.2.2.2.2.2.2.2.1.map Mov.c))] 8 (λz25=>?_) λb24=>?_
 &au ?_
 &xa λv26 hv26=>?_
 &xd λv27 hv27=>?_
 have q0:=cS r0 (Qaf hv27)
 &ar ?_
 &ar ?_
 &lP [4,8,12,13,16,69] [(68,λs29=>.own 8 0 v27.1.length),(70,λs29=>DI s29.2.2.2.2.2.2.2.2.2.2.2)] [4,7,8] [] [(0,λs29=>aO 1 (s29.1.map uC)),(1,λs29=>aO 3 (s29.2.1.map frC)),(2,λs29=>bO 3 [DI p0.sh,.own 0 0 s29.1.length,.own 1 0 s29.2.1.length]),(5,λs29=>bO 11 [DI s29.2.2.1,.own 0 0 s29.1.length,.own 1 0 s29.2.1.length,.sl (s29.2.2.2.1.map Inc.c),DI s29.2.2.2.2.1,DI s29.2.2.2.2.2.1,DI s29.2.2.2.2.2.2.1,DI s29.2.2.2.2.2.2.2.1,DI s29.2.2.2.2.2.2.2.2.1,.own 6 0 s29.2.2.2.2.2.2.2.2.2.1.length,DI s29.2.2.2.2.2.2.2.2.2.2.1]),(6,λs29=>aO 2 (s29.2.2.2.2.2.2.2.2.2.1.map Mov.c))] 9 λs29 y30 hq30=>?_
 &ar ?_
 &sq λK k=>?_
 &xs (λh32=>?_) λh32=>?_
 &ca ?_
 &sq λK k=>?_
 &au ?_
 &xa λv34 hv34=>?_
 &ar ?_
 &xa λv35 hv35=>?_
 &xd λv36 hv36=>?_
 &xc λh39=>?_
 &xc λh38=>?_
 &xa λv37 hv37=>?_
 replace q0:=cG [(0,5),(1,0),(2,1),(3,6)] (QaF hv36)
 &ar ?_
 &goA (Xr (c:=uC) hv37.h v36.1 i61.ok) ?_
 &au ?_
 &ar ?_
 ~wJ [(6,9)]
 &cb ?_
 &xo hq30 ?_
 ~wJ []
 &ar ?_
 ~wJ []
 &cb ?_
 &xo hq20 ?_
 ~wJ []
 &ar ?_
 &cb ?_
 &xo hq20 ?_
 ~wJ []
 &ar ?_
 ~fwttt [(0,0),(1,1),(2,6),(3,7)]
noncomputable def Xa(p0:Hp)(p1:Int)(p2:Int)(p3:Int):Option (Hp×Int) :=
 (XY p0 p1 p2 true).bind λv1 =>
 if v1.2=19 then
 (some ((Hp.mk (Cfg.mk ⟨#[]⟩ ([]:List Rul) 0) (Sp.mk 0 ([]:List Int) ([]:List Fe)) ([]:List (List Inc)) 0 ([]:List Qe) (Rts.mk ([]:List Bool) ([]:List Int)) 0 (Sts.mk 0 0 0 0 0 0 0 0 0) false,v1.2)))
 else
 (if p3=0 then
 (some (v1.2))
 else
 if (wu (p0.space.ws.length:Int))<p3 then
 (some (1))
 else
 (QaP p0 (w64 (wu (p3-1)))).bind λv8 =>
 if v8=true then
 (some (v1.2))
 else
 some (1)).bind λ(b4:Int) =>
 if b4=0 then
 ((QH p0).bind λv12 =>
 (at_ v12.space.ws v1.1).bind λv13 =>
 (Zk (Sp.mk v12.space.sh (v12.space.ws.set (Int.toNat v1.1) p3) v12.space.fs) v12.sets v1.1 p3).bind λv14 =>
 some ((Hp.mk v12.config (Sp.mk v12.space.sh (v12.space.ws.set (Int.toNat v1.1) p3) v12.space.fs) v12.belts v12.seq v14 v12.roots v12.since v12.stats v12.dead,0)))
 else
 some ((Hp.mk (Cfg.mk ⟨#[]⟩ ([]:List Rul) 0) (Sp.mk 0 ([]:List Int) ([]:List Fe)) ([]:List (List Inc)) 0 ([]:List Qe) (Rts.mk ([]:List Bool) ([]:List Int)) 0 (Sts.mk 0 0 0 0 0 0 0 0 0) false,b4))
theorem QdA{p0 p1 p2 p3 r}:Sm (Xa p0 p1 p2 p3) r->DCall Tryz.prog 117 [.agg [.lit (.string p0.config.name),.sl (p0.config.rules.map Rul.c),DI p0.config.full,DI p0.space.sh,.sl (p0.space.ws.map uC),.sl (p0.space.fs.map frC),.sl (p0.belts.map (lC Inc.c)),DI p0.seq,.sl (p0.sets.map Qe.c),.sl (p0.roots.used.map bC),.sl (p0.roots.refs.map uC),DI p0.since,DI p0.stats.allocated,DI p0.stats.objects,DI p0.stats.collections,DI p0.stats.steps,DI p0.stats.rounds,DI p0.stats.condemned,DI p0.stats.copied,DI p0.stats.entries,DI p0.stats.work,DB p0.dead],DI p1,DI p2,DU p3] [] (.tup [.agg [.lit (.string r.1.config.name),.own 0 0 r.1.config.rules.length,DI r.1.config.full,DI r.1.space.sh,.sl (r.1.space.ws.map uC),.sl (r.1.space.fs.map frC),.own 1 0 r.1.belts.length,DI r.1.seq,.sl (r.1.sets.map Qe.c),.own 2 0 r.1.roots.used.length,.own 3 0 r.1.roots.refs.length,DI r.1.since,DI r.1.stats.allocated,DI r.1.stats.objects,DI r.1.stats.collections,DI r.1.stats.steps,DI r.1.stats.rounds,DI r.1.stats.condemned,DI r.1.stats.copied,DI r.1.stats.entries,DI r.1.stats.work,DB r.1.dead],DI r.2]) [(0,aO 4 (r.1.config.rules.map Rul.c)),(1,aO 1 (r.1.belts.map (lC Inc.c))),(2,aO 1 (r.1.roots.used.map bC)),(3,aO 1 (r.1.roots.refs.map uC))]:=by
 unfold Xa
 &mk0 Tryz.func117 ?_
 &ar ?_
 &xd λv1 hv1=>?_
 have q0:=cS r0 (Qcd hv1)
 &ar ?_
 &sq λK k=>?_
 &ar ?_
 &xs (λh3=>?_) λh3=>?_
 &da ?_
 &xx (Qj 1 1 4 Od rfl rfl) ?_
 &xx (Qj 1 6 1 Od rfl rfl) ?_
 &xx (Qj 1 9 1 Od rfl rfl) ?_
 &xx (Qj 1 10 1 Od rfl rfl) ?_
 ~fwt [(0,2),(1,3),(2,4),(3,5)]
 &cb ?_
 &cT [3,10] [(4,λb4=>.ptr 0 0 0),(8,λb4=>.ptr 1 0 0),(11,λb4=>DI b4)] [0,1] [] [] 2 (λz5=>?_) λb4=>?_
 &xs (λh6=>?_) λh6=>?_
 &ar ?_
 &cb ?_
 ~wJ []
 &xs (λh7=>?_) λh7=>?_
 &ar ?_
 &da ?_
 ~wJ []
 &xd λv8 hv8=>?_
 replace q0:=cS r0 (Qd8 hv8)
 &ar ?_
 &xs (λh9=>?_) λh9=>?_
 &cb ?_
 ~wJ []
 &da ?_
 ~wJ []
 &sq λK k=>?_
 &ar ?_
 &xs (λh11=>?_) λh11=>?_
 &cb ?_
 &xd λv12 hv12=>?_
 replace q0:=cG r0 (Q2 hv12)
 &ar ?_
 &xa λv13 hv13=>?_
 &ar ?_
 &goA (Xr (c:=uC) hv13.h p3 i61.ok) ?_
 &au ?_
 &xd λv14 hv14=>?_
 replace q0:=cG r0 (Qgy hv14)
 &ar ?_
 &ar ?_
 ~fwt [(0,2),(1,5),(2,7),(3,8)]
 &da ?_
 &xx (Qj 1 1 4 Od rfl rfl) ?_
 &xx (Qj 1 6 1 Od rfl rfl) ?_
 &xx (Qj 1 9 1 Od rfl rfl) ?_
 &xx (Qj 1 10 1 Od rfl rfl) ?_
 ~fwt [(0,2),(1,3),(2,4),(3,5)]
noncomputable def ZQ(p0:Hp)(p1:Int)(p2:Int)(p3:Int):Option (Hp×Int) :=
 (XY p0 p1 p2 false).bind λv1 =>
 if v1.2=0 then
 ((QH p0).bind λv4 =>
 (at_ v4.space.ws v1.1).bind λv5 =>
 some ((Hp.mk v4.config (Sp.mk v4.space.sh (v4.space.ws.set (Int.toNat v1.1) p3) v4.space.fs) v4.belts v4.seq v4.sets v4.roots v4.since v4.stats v4.dead,0)))
 else
 some ((Hp.mk (Cfg.mk ⟨#[]⟩ ([]:List Rul) 0) (Sp.mk 0 ([]:List Int) ([]:List Fe)) ([]:List (List Inc)) 0 ([]:List Qe) (Rts.mk ([]:List Bool) ([]:List Int)) 0 (Sts.mk 0 0 0 0 0 0 0 0 0) false,v1.2))
theorem Qc9{p0 p1 p2 p3 r}:Sm (ZQ p0 p1 p2 p3) r->DCall Tryz.prog 118 [.agg [.lit (.string p0.config.name),.sl (p0.config.rules.map Rul.c),DI p0.config.full,DI p0.space.sh,.sl (p0.space.ws.map uC),.sl (p0.space.fs.map frC),.sl (p0.belts.map (lC Inc.c)),DI p0.seq,.sl (p0.sets.map Qe.c),.sl (p0.roots.used.map bC),.sl (p0.roots.refs.map uC),DI p0.since,DI p0.stats.allocated,DI p0.stats.objects,DI p0.stats.collections,DI p0.stats.steps,DI p0.stats.rounds,DI p0.stats.condemned,DI p0.stats.copied,DI p0.stats.entries,DI p0.stats.work,DB p0.dead],DI p1,DI p2,DU p3] [] (.tup [.agg [.lit (.string r.1.config.name),.own 0 0 r.1.config.rules.length,DI r.1.config.full,DI r.1.space.sh,.own 1 0 r.1.space.ws.length,.own 2 0 r.1.space.fs.length,.own 3 0 r.1.belts.length,DI r.1.seq,.own 4 0 r.1.sets.length,.own 5 0 r.1.roots.used.length,.own 6 0 r.1.roots.refs.length,DI r.1.since,DI r.1.stats.allocated,DI r.1.stats.objects,DI r.1.stats.collections,DI r.1.stats.steps,DI r.1.stats.rounds,DI r.1.stats.condemned,DI r.1.stats.copied,DI r.1.stats.entries,DI r.1.stats.work,DB r.1.dead],DI r.2]) [(0,aO 4 (r.1.config.rules.map Rul.c)),(1,aO 1 (r.1.space.ws.map uC)),(2,aO 3 (r.1.space.fs.map frC)),(3,aO 1 (r.1.belts.map (lC Inc.c))),(4,aO 3 (r.1.sets.map Qe.c)),(5,aO 1 (r.1.roots.used.map bC)),(6,aO 1 (r.1.roots.refs.map uC))]:=by
 unfold ZQ
 &mk0 Tryz.func118 ?_
 &ar ?_
 &xd λv1 hv1=>?_
 have q0:=cS r0 (Qcd hv1)
 &ar ?_
 &sq λK k=>?_
 &ar ?_
 &xs (λh3=>?_) λh3=>?_
 &cb ?_
 &xd λv4 hv4=>?_
 replace q0:=cG r0 (Q2 hv4)
 &ar ?_
 &xa λv5 hv5=>?_
 &ar ?_
 &goA (Xr (c:=uC) hv5.h p3 i61.ok) ?_
 &au ?_
 &ar ?_
 ~fwt [(0,2),(1,3),(2,4),(3,5),(4,6),(5,7),(6,8)]
 &da ?_
 &xx (Qj 1 1 4 Od rfl rfl) ?_
 &xx (Qj 1 4 1 Od rfl rfl) ?_
 &xx (Qj 1 5 3 Od rfl rfl) ?_
 &xx (Qj 1 6 1 Od rfl rfl) ?_
 &xx (Qj 1 8 3 Od rfl rfl) ?_
 &xx (Qj 1 9 1 Od rfl rfl) ?_
 &xx (Qj 1 10 1 Od rfl rfl) ?_
 ~fwt [(0,2),(1,3),(2,4),(3,5),(4,6),(5,7),(6,8)]
noncomputable def Ja(p0:Sp)(p1:Inc):Option (List Int×Int) :=
 (QaV p0 p1 ([]:List Int)).bind λv1 =>
 if v1.1=0 then
 (some ((v1.2.2,0)))
 else
 some ((([]:List Int),v1.1))
theorem QeC{p0 p1 r}:Sm (Ja p0 p1) r->DCall Tryz.prog 19 [.agg [DI p0.sh,.sl (p0.ws.map uC),.sl (p0.fs.map frC)],.agg [DI p1.seq,DI p1.belt,DI p1.first,DI p1.last,DI p1.words]] [] (.tup [.own 0 0 r.1.length,DI r.2]) [(0,aO 1 (r.1.map iC))]:=by
 unfold Ja
 &mk0 Tryz.func19 ?_
 &ar ?_
 &ar ?_
 &xx (Qj 2 0 1 Od rfl rfl) ?_
 &xd λv1 hv1=>?_
 have q0:=cS [(0,2),(1,3)] (F_walk_each_ok hv1)
 &ar ?_
 &sq λK k=>?_
 &ar ?_
 &xs (λh3=>?_) λh3=>?_
 &db ?_
 ~ftt [(0,4)]
 &da ?_
 &xx (Qz 4 1 Od rfl) ?_
 ~ftt [(0,5)]
noncomputable def JY :Option Bool :=
 (Qag 3 3).bind λv1 =>
 (at_ v1.1.fs 0).bind λv2 =>
 (at_ (v1.1.fs.set (Int.toNat 0) (Fe.mk 5 5 (-1))) 1).bind λv3 =>
 (Xf (Sp.mk v1.1.sh v1.1.ws ((v1.1.fs.set (Int.toNat 0) (Fe.mk 5 5 (-1))).set (Int.toNat 1) (Fe.mk 2 4294967298 (-1)))) ([]:List Qe) 9 1).bind λv4 =>
 (QQ (Sp.mk v1.1.sh v1.1.ws ((v1.1.fs.set (Int.toNat 0) (Fe.mk 5 5 (-1))).set (Int.toNat 1) (Fe.mk 2 4294967298 (-1)))) 9 1).bind λv5 =>
 if v5=true then
 ((QQ (Sp.mk v1.1.sh v1.1.ws ((v1.1.fs.set (Int.toNat 0) (Fe.mk 5 5 (-1))).set (Int.toNat 1) (Fe.mk 2 4294967298 (-1)))) 1 10).bind λv7 =>
 if v7=true then
 (some (false))
 else
 (QQ (Sp.mk v1.1.sh v1.1.ws ((v1.1.fs.set (Int.toNat 0) (Fe.mk 5 5 (-1))).set (Int.toNat 1) (Fe.mk 2 4294967298 (-1)))) 9 0).bind λv9 =>
 if v9=true then
 (some (false))
 else
 if v4.2=0 then
 (if (v4.1.length:Int)=1 then
 ((at_ v4.1 0).bind λv13 =>
 if v13.frm=1 then
 (some (decide (v13.to=0)))
 else
 some (false))
 else
 some (false))
 else
 some (false))
 else
 some (false)
theorem Qfe{r}:Sm (JY) r->DCall Tryz.prog 11 [] [] (DB r) []:=by
 unfold JY
 &mk0 Tryz.func11 ?_
 &ar ?_
 &xd λv1 hv1=>?_
 have q0:=cS r0 (Qdj hv1)
 &ar ?_
 &xa λv2 hv2=>?_
 &ar ?_
 &goA (Xr (c:=frC) hv2.h (Fe.mk 5 5 (-1)) i66.ok) ?_
 &au ?_
 &xa λv3 hv3=>?_
 &ar ?_
 &goA (Xr (c:=frC) hv3.h (Fe.mk 2 4294967298 (-1)) i66.ok) ?_
 &au ?_
 &xd λv4 hv4=>?_
 replace q0:=cG r0 (QdF hv4)
 &ar ?_
 &xd λv5 hv5=>?_
 &xs (λh6=>?_) λh6=>?_
 &xd λv7 hv7=>?_
 &xs (λh8=>?_) λh8=>?_
 &ar ?_
 &goA (Jn r0 (Qf hv5) rfl ScS.nil) ?_
 &au ?_
 &go (Jn r0 (Qf hv7) rfl ScS.nil) ?_ (gY h6)
 &au ?_
 ~ft r0
 &xd λv9 hv9=>?_
 &xs (λh10=>?_) λh10=>?_
 &ar ?_
 &goA (Jn r0 (Qf hv5) rfl ScS.nil) ?_
 &au ?_
 &go (Jn r0 (Qf hv7) rfl ScS.nil) ?_ (gY h6)
 &au ?_
 &go (Jn r0 (Qf hv9) rfl ScS.nil) ?_ (gY (congrArg not (eq_false_of_ne_true h8)))
 &au ?_
 ~ft r0
 &xs (λh11=>?_) λh11=>?_
 &xs (λh12=>?_) λh12=>?_
 &xa λv13 hv13=>?_
 &xs (λh14=>?_) λh14=>?_
 &ar ?_
 &goA (Jn r0 (Qf hv5) rfl ScS.nil) ?_
 &au ?_
 &go (Jn r0 (Qf hv7) rfl ScS.nil) ?_ (gY h6)
 &au ?_
 &go (Jn r0 (Qf hv9) rfl ScS.nil) ?_ (gY (congrArg not (eq_false_of_ne_true h8)))
 &au ?_
 ~ft r0
 &ar ?_
 &goA (Jn r0 (Qf hv5) rfl ScS.nil) ?_
 &au ?_
 &go (Jn r0 (Qf hv7) rfl ScS.nil) ?_ (gY h6)
 &au ?_
 &go (Jn r0 (Qf hv9) rfl ScS.nil) ?_ (gY (congrArg not (eq_false_of_ne_true h8)))
 &au ?_
 ~ft r0
 &ar ?_
 &goA (Jn r0 (Qf hv5) rfl ScS.nil) ?_
 &au ?_
 &go (Jn r0 (Qf hv7) rfl ScS.nil) ?_ (gY h6)
 &au ?_
 &go (Jn r0 (Qf hv9) rfl ScS.nil) ?_ (gY (congrArg not (eq_false_of_ne_true h8)))
 &au ?_
 ~ft r0
 &ar ?_
 &goA (Jn r0 (Qf hv5) rfl ScS.nil) ?_
 &au ?_
 &go (Jn r0 (Qf hv7) rfl ScS.nil) ?_ (gY h6)
 &au ?_
 &go (Jn r0 (Qf hv9) rfl ScS.nil) ?_ (gY (congrArg not (eq_false_of_ne_true h8)))
 &au ?_
 ~ft r0
 replace q0:=cS r0 (Qf hv5)
 &ar ?_
 ~ft r0
noncomputable def Qaa(p0:Hp)(p1:List Inc):Option (Hp×Rpt×Int) :=
 (Xj p0 p1).bind λv1 =>
 if v1.2=0 then
 ((Qh (λ(s7:Int×Int×Int) =>
 if s7.2.2<(p1.length:Int) then
 ((at_ p1 s7.2.2).bind λv12 =>
 (QN p0.space v12).bind λv13 =>
 some (.go ((w64 (s7.1+v13),w64 (s7.2.1+v12.words),w64 (s7.2.2+1)))))
 else
 some (.out ((s7.1,s7.2.1)))) (0,0,0)).bind λ(b4:Int×Int) =>
 (ZB p0.space).bind λv15 =>
 if (v15.length:Int)<b4.1 then
 (some ((Hp.mk (Cfg.mk ⟨#[]⟩ ([]:List Rul) 0) (Sp.mk 0 ([]:List Int) ([]:List Fe)) ([]:List (List Inc)) 0 ([]:List Qe) (Rts.mk ([]:List Bool) ([]:List Int)) 0 (Sts.mk 0 0 0 0 0 0 0 0 0) false,Rpt.mk 0 0 0 0,4)))
 else
 (QH p0).bind λv17 =>
 (ZS p0.space p0.roots p1).bind λv18 =>
 (ZT p0.space p0.sets p1).bind λv19 =>
 (Qh (λ(s24:List Int×Int) =>
 if s24.2<(v18.length:Int) then
 ((at_ v18 s24.2).bind λv29 =>
 (at_ p0.roots.refs (w64 (v29-1))).bind λv30 =>
 if ((s24.1.length:Int)+[v30].length)*8<=140737488355328/\(s24.1.length:Int)+[v30].length<=9223372036854775807 then
 some (.go ((s24.1++[v30],w64 (s24.2+1))))
 else none)
 else
 some (.out (s24.1))) (([]:List Int),0)).bind λ(b20:List Int) =>
 (Qh (λ(s35:List Int×Int) =>
 if s35.2<(v19.1.length:Int) then
 ((at_ v19.1 s35.2).bind λv40 =>
 (at_ p0.space.ws v40).bind λv41 =>
 if ((s35.1.length:Int)+[v41].length)*8<=140737488355328/\(s35.1.length:Int)+[v41].length<=9223372036854775807 then
 some (.go ((s35.1++[v41],w64 (s35.2+1))))
 else none)
 else
 some (.out (s35.1))) (b20,0)).bind λ(b32:List Int) =>
 (XH v17.space p1 v1.1 b32).bind λv43 =>
 if v43.2.2.2.2.1.length=v17.space.ws.length then
 if v43.2.2.2.2.2.length=v17.space.fs.length then
 if v43.2.2.2.1=0 then
 ((Qh (λ(s49:List Int×Int) =>
 if s49.2<(v18.length:Int) then
 ((at_ v18 s49.2).bind λv54 =>
 (at_ v43.2.2.1 s49.2).bind λv55 =>
 (at_ s49.1 (w64 (v54-1))).bind λv56 =>
 some (.go ((s49.1.set (Int.toNat (w64 (v54-1))) v55,w64 (s49.2+1)))))
 else
 some (.out (s49.1))) (v17.roots.refs,0)).bind λ(b46:List Int) =>
 (Qh (λ(s60:List Int×Int) =>
 if s60.2<(v19.1.length:Int) then
 ((at_ v19.1 s60.2).bind λv65 =>
 (at_ v43.2.2.1 (w64 ((v18.length:Int)+s60.2))).bind λv66 =>
 (at_ s60.1 v65).bind λv67 =>
 some (.go ((s60.1.set (Int.toNat v65) v66,w64 (s60.2+1)))))
 else
 some (.out (s60.1))) (v43.2.2.2.2.1,0)).bind λ(b57:List Int) =>
 (Zq (Sp.mk v17.space.sh b57 v43.2.2.2.2.2) v17.sets p1 v19.1 v43.2.1).bind λv68 =>
 if v68.2.1.length=b57.length then
 if v68.2.2.length=v43.2.2.2.2.2.length then
 (Qh (λ(s72:List Int×List Fe×List (List Inc)×Int) =>
 if s72.2.2.2<(p1.length:Int) then
 ((at_ p1 s72.2.2.2).bind λv77 =>
 (ZJ s72.2.2.1 v77.seq).bind λv78 =>
 (Zf (Sp.mk v17.space.sh s72.1 s72.2.1) v77.seq).bind λv79 =>
 if v79.2.1.length=s72.1.length then
 if v79.2.2.length=s72.2.1.length then
 some (.go ((v79.2.1,v79.2.2,v78.1,w64 (s72.2.2.2+1))))
 else none
 else none)
 else
 some (.out ((s72.1,s72.2.1,s72.2.2.1)))) (v68.2.1,v68.2.2,v17.belts,0)).bind λ(b69:List Int×List Fe×List (List Inc)) =>
 (if 0<v1.1.words then
 ((Q4 b69.2.2 v43.1).bind λv85 =>
 some ((v85.1,v17.seq)))
 else
 if 0<v43.1.words then
 ((XM b69.2.2 v43.1).bind λv87 =>
 some ((v87.1,w64 (v17.seq+1))))
 else
 some ((b69.2.2,v17.seq))).bind λ(b82:List (List Inc)×Int) =>
 (ZX p0.roots).bind λv88 =>
 some ((Hp.mk v17.config (Sp.mk v17.space.sh b69.1 b69.2.1) b82.1 b82.2 v68.1 (Rts.mk v17.roots.used b46) v17.since (Sts.mk v17.stats.allocated v17.stats.objects v17.stats.collections (w64 (v17.stats.steps+1)) v17.stats.rounds (w64 (v17.stats.condemned+b4.2)) (w64 (v17.stats.copied+(w64 (v43.1.words-v1.1.words)))) (w64 (v17.stats.entries+v19.2)) (w64 (v17.stats.work+(w64 ((w64 ((v88.length:Int)+v19.2))+(w64 (2*(w64 (v43.1.words-v1.1.words))))))))) v17.dead,Rpt.mk b4.2 (w64 (v43.1.words-v1.1.words)) v19.2 (w64 ((w64 ((v88.length:Int)+v19.2))+(w64 (2*(w64 (v43.1.words-v1.1.words)))))),0))
 else none
 else none)
 else
 some ((Hp.mk (Cfg.mk ⟨#[]⟩ ([]:List Rul) 0) (Sp.mk 0 ([]:List Int) ([]:List Fe)) ([]:List (List Inc)) 0 ([]:List Qe) (Rts.mk ([]:List Bool) ([]:List Int)) 0 (Sts.mk 0 0 0 0 0 0 0 0 0) false,Rpt.mk 0 0 0 0,v43.2.2.2.1))
 else none
 else none)
 else
 some ((Hp.mk (Cfg.mk ⟨#[]⟩ ([]:List Rul) 0) (Sp.mk 0 ([]:List Int) ([]:List Fe)) ([]:List (List Inc)) 0 ([]:List Qe) (Rts.mk ([]:List Bool) ([]:List Int)) 0 (Sts.mk 0 0 0 0 0 0 0 0 0) false,Rpt.mk 0 0 0 0,v1.2))
theorem F_ref25_Do_ok{p0 p1 r}:Sm (Qaa p0 p1) r->DCall Tryz.prog 167 [.agg [.lit (.string p0.config.name),.sl (p0.config.rules.map Rul.c),DI p0.config.full,DI p0.space.sh,.sl (p0.space.ws.map uC),.sl (p0.space.fs.map frC),.sl (p0.belts.map (lC Inc.c)),DI p0.seq,.sl (p0.sets.map Qe.c),.sl (p0.roots.used.map bC),.sl (p0.roots.refs.map uC),DI p0.since,DI p0.stats.allocated,DI p0.stats.objects,DI p0.stats.collections,DI p0.stats.steps,DI p0.stats.rounds,DI p0.stats.condemned,DI p0.stats.copied,DI p0.stats.entries,DI p0.stats.work,DB p0.dead],.sl (p1.map Inc.c)] [] (.tup [.agg [.lit (.string r.1.config.name),.own 0 0 r.1.config.rules.length,DI r.1.config.full,DI r.1.space.sh,.own 1 0 r.1.space.ws.length,.own 2 0 r.1.space.fs.length,.own 3 0 r.1.belts.length,DI r.1.seq,.sl (r.1.sets.map Qe.c),.own 4 0 r.1.roots.used.length,.own 5 0 r.1.roots.refs.length,DI r.1.since,DI r.1.stats.allocated,DI r.1.stats.objects,DI r.1.stats.collections,DI r.1.stats.steps,DI r.1.stats.rounds,DI r.1.stats.condemned,DI r.1.stats.copied,DI r.1.stats.entries,DI r.1.stats.work,DB r.1.dead],.agg [DI r.2.1.condemned,DI r.2.1.survived,DI r.2.1.entries,DI r.2.1.work],DI r.2.2]) [(0,aO 4 (r.1.config.rules.map Rul.c)),(1,aO 1 (r.1.space.ws.map uC)),(2,aO 3 (r.1.space.fs.map frC)),(3,aO 1 (r.1.belts.map (lC Inc.c))),(4,aO 1 (r.1.roots.used.map bC)),(5,aO 1 (r.1.roots.refs.map uC))]:=by
 unfold Qaa
 &mk0 Tryz.func167 ?_
 &ar ?_
 &xd λv1 hv1=>?_
 have q0:=cS r0 (QbD hv1)
 &ar ?_
 &sq λK k=>?_
 &ar ?_
 &xs (λh3=>?_) λh3=>?_
 &db ?_
 &ar ?_
 &cT [1] [(2,λb4=>.ptr 0 0 0),(4,λb4=>.ptr 1 0 0),(5,λb4=>.ptr 2 0 0),(7,λb4=>.ptr 3 0 0),(9,λb4=>DI b4.1),(10,λb4=>.ptr 4 0 0)] [0,1,2,3] [(4,[(0,λb4=>DI b4.2)])] [] 5 (λz5=>?_) λb4=>?_
 &ar ?_
 &lP [1,41,42] [(2,λs7=>.ptr 0 0 0),(4,λs7=>.ptr 1 0 0),(5,λs7=>.ptr 2 0 0),(7,λs7=>.ptr 3 0 0),(9,λs7=>DI s7.1),(10,λs7=>.ptr 4 0 0),(43,λs7=>DI s7.2.2)] [0,1,2,3] [(4,[(0,λs7=>DI s7.2.1)])] [] 5 λs7 y8 hq8=>?_
 &ar ?_
 &sq λK k=>?_
 &xs (λh10=>?_) λh10=>?_
 &ca ?_
 &sq λK k=>?_
 &au ?_
 &xa λv12 hv12=>?_
 &ar ?_
 &xd λv13 hv13=>?_
 replace q0:=cS r0 (Zo hv13)
 &ar ?_
 &ar ?_
 &ar ?_
 ~wJ []
 &cb ?_
 &xo hq8 ?_
 ~wJ []
 &sq λK k=>?_
 &xd λv15 hv15=>?_
 replace q0:=cS r0 (XR hv15)
 &ar ?_
 &xs (λh16=>?_) λh16=>?_
 &da ?_
 &xx (Qj 1 1 4 Od rfl rfl) ?_
 &xx (Qj 1 4 1 Od rfl rfl) ?_
 &xx (Qj 1 5 3 Od rfl rfl) ?_
 &xx (Qj 1 6 1 Od rfl rfl) ?_
 &xx (Qj 1 9 1 Od rfl rfl) ?_
 &xx (Qj 1 10 1 Od rfl rfl) ?_
 ~fwwt [(0,6),(1,7),(2,8),(3,9),(4,10),(5,11)]
 &cb ?_
 &xd λv17 hv17=>?_
 replace q0:=cG r0 (Q2 hv17)
 &ar ?_
 &xd λv18 hv18=>?_
 replace q0:=cS r0 (Qbj hv18)
 &ar ?_
 &xd λv19 hv19=>?_
 replace q0:=cS r0 (Qbk hv19)
 &ar ?_
 &ar ?_
 &cT [1,2,4,5,7,10,16] [(13,λb20=>.ptr 13 0 0),(14,λb20=>.own 14 0 v18.length),(15,λb20=>.own 15 0 v19.1.length),(17,λb20=>.own 16 0 b20.length)] [0,1,2,3,4,6,7,8,9,10,11,12,14,15] [(13,[(1,λb20=>.own 6 0 v17.config.rules.length),(2,λb20=>.own 7 0 v17.space.ws.length),(0,λb20=>.own 8 0 v17.space.fs.length),(0,λb20=>.own 9 0 v17.belts.length),(1,λb20=>.own 10 0 v17.sets.length),(0,λb20=>.own 11 0 v17.roots.used.length),(0,λb20=>.own 12 0 v17.roots.refs.length)])] [(16,λb20=>aO 1 (b20.map uC))] 17 (λz21=>?_) λb20=>?_
 &ar ?_
 &xx (Qz 17 1 Od rfl) ?_
 &lP [1,2,4,5,7,10,16,86] [(13,λs24=>.ptr 13 0 0),(14,λs24=>.own 14 0 v18.length),(15,λs24=>.own 15 0 v19.1.length),(17,λs24=>.own 16 0 s24.1.length),(85,λs24=>.own 14 0 v18.length),(87,λs24=>DI s24.2)] [0,1,2,3,4,6,7,8,9,10,11,12,14,15] [(13,[(1,λs24=>.own 6 0 v17.config.rules.length),(2,λs24=>.own 7 0 v17.space.ws.length),(0,λs24=>.own 8 0 v17.space.fs.length),(0,λs24=>.own 9 0 v17.belts.length),(1,λs24=>.own 10 0 v17.sets.length),(0,λs24=>.own 11 0 v17.roots.used.length),(0,λs24=>.own 12 0 v17.roots.refs.length)])] [(16,λs24=>aO 1 (s24.1.map uC))] 17 λs24 y25 hq25=>?_
 &ar ?_
 &sq λK k=>?_
 &xs (λh27=>?_) λh27=>?_
 &ca ?_
 &sq λK k=>?_
 &au ?_
 &xa λv29 hv29=>?_
 &ar ?_
 &xa λv30 hv30=>?_
 &xc λh31=>?_
 &ar ?_
 &goA (Ql (c:=uC) ([v30]:List Int) i26.ok i61.ok) ?_
 &goA (QW (c:=uC) s24.1 [v30] h31 i26.ok i61.ok rfl rfl (.own rfl rfl Os (Qg (c:=uC) (λ_=>rfl) _)) rfl) ?_
 &au ?_
 &ar ?_
 ~wJ [(16,18)]
 &cb ?_
 &xo hq25 ?_
 ~wJ []
 &cT [1,2,4,5,7,10,13,14,15,16] [(17,λb32=>.own 16 0 b32.length)] [0,1,2,3,4,6,7,8,9,10,11,12,13,14,15] [] [(16,λb32=>aO 1 (b32.map uC))] 17 (λz33=>?_) λb32=>?_
 &ar ?_
 &lP [1,2,4,5,7,10,13,14,15,16,103] [(17,λs35=>.own 16 0 s35.1.length),(102,λs35=>.own 15 0 v19.1.length),(104,λs35=>DI s35.2)] [0,1,2,3,4,6,7,8,9,10,11,12,13,14,15] [] [(16,λs35=>aO 1 (s35.1.map uC))] 17 λs35 y36 hq36=>?_
 &ar ?_
 &sq λK k=>?_
 &xs (λh38=>?_) λh38=>?_
 &ca ?_
 &sq λK k=>?_
 &au ?_
 &xa λv40 hv40=>?_
 &ar ?_
 &xa λv41 hv41=>?_
 &xc λh42=>?_
 &ar ?_
 &goA (Ql (c:=uC) ([v41]:List Int) i26.ok i61.ok) ?_
 &goA (QW (c:=uC) s35.1 [v41] h42 i26.ok i61.ok rfl rfl (.own rfl rfl Os (Qg (c:=uC) (λ_=>rfl) _)) rfl) ?_
 &au ?_
 &ar ?_
 ~wJ [(16,18)]
 &cb ?_
 &xo hq36 ?_
 ~wJ []
 &xd λv43 hv43=>?_
 &xc λh92=>?_
 &xc λh91=>?_
 replace q0:=cS [(0,7),(1,8)] (Qdf hv43)
 &ar ?_
 &sq λK k=>?_
 &ar ?_
 &xs (λh45=>?_) λh45=>?_
 &cb ?_
 &cT [1,2,4,5,7,10,13,14,15,16] [(17,λb46=>.own 18 0 v43.2.2.1.length),(22,λb46=>.ptr 19 0 0),(23,λb46=>.own 17 0 v43.2.1.length)] [0,1,2,3,4,6,7,8,9,10,11,14,15,17,18,19] [(13,[(4,λb46=>.own 7 0 v43.2.2.2.2.1.length),(0,λb46=>.own 8 0 v43.2.2.2.2.2.length),(4,λb46=>.own 12 0 b46.length)])] [(12,λb46=>aO 1 (b46.map uC))] 20 (λz47=>?_) λb46=>?_
 &ar ?_
 &lP [1,2,4,5,7,10,13,14,15,16,135] [(17,λs49=>.own 18 0 v43.2.2.1.length),(22,λs49=>.ptr 19 0 0),(23,λs49=>.own 17 0 v43.2.1.length),(134,λs49=>.own 14 0 v18.length),(136,λs49=>DI s49.2)] [0,1,2,3,4,6,7,8,9,10,11,14,15,17,18,19] [(13,[(4,λs49=>.own 7 0 v43.2.2.2.2.1.length),(0,λs49=>.own 8 0 v43.2.2.2.2.2.length),(4,λs49=>.own 12 0 s49.1.length)])] [(12,λs49=>aO 1 (s49.1.map uC))] 20 λs49 y50 hq50=>?_
 &ar ?_
 &sq λK k=>?_
 &xs (λh52=>?_) λh52=>?_
 &ca ?_
 &sq λK k=>?_
 &au ?_
 &xa λv54 hv54=>?_
 &ar ?_
 &xa λv55 hv55=>?_
 &xa λv56 hv56=>?_
 &ar ?_
 &goA (Xr (c:=uC) hv56.h v55 i61.ok) ?_
 &au ?_
 &ar ?_
 ~wJ []
 &cb ?_
 &xo hq50 ?_
 ~wJ []
 &cT [1,2,4,5,7,10,13,15,16,22,23] [] [0,1,2,3,4,6,8,9,10,11,12,15,17,19] [(13,[(4,λb57=>.own 7 0 b57.length)])] [(7,λb57=>aO 1 (b57.map uC))] 20 (λz58=>?_) λb57=>?_
 &ar ?_
 &lP [1,2,4,5,7,10,13,14,15,16,17,22,23,153] [(152,λs60=>.own 15 0 v19.1.length),(154,λs60=>DI s60.2)] [0,1,2,3,4,6,8,9,10,11,12,14,15,17,18,19] [(13,[(4,λs60=>.own 7 0 s60.1.length)])] [(7,λs60=>aO 1 (s60.1.map uC))] 20 λs60 y61 hq61=>?_
 &ar ?_
 &sq λK k=>?_
 &xs (λh63=>?_) λh63=>?_
 &ca ?_
 &sq λK k=>?_
 &au ?_
 &xa λv65 hv65=>?_
 &ar ?_
 &xa λv66 hv66=>?_
 &xa λv67 hv67=>?_
 &ar ?_
 &goA (Xr (c:=uC) hv67.h v66 i61.ok) ?_
 &au ?_
 &ar ?_
 ~wJ []
 &cb ?_
 &xo hq61 ?_
 ~wJ []
 &xd λv68 hv68=>?_
 &xc λh90=>?_
 &xc λh89=>?_
 replace q0:=cG [(0,7),(1,8)] (Qbi hv68)
 &ar ?_
 &cT [2,4,5,7,10,13,16,22] [] [0,1,2,3,4,6,11,12,19] [(13,[(4,λb69=>.own 7 0 b69.1.length),(0,λb69=>.own 8 0 b69.2.1.length),(0,λb69=>.own 9 0 b69.2.2.length)])] [(7,λb69=>aO 1 (b69.1.map uC)),(8,λb69=>aO 3 (b69.2.1.map frC)),(9,λb69=>aO 1 (b69.2.2.map (lC Inc.c)))] 20 (λz70=>?_) λb69=>?_
 &ar ?_
 &lP [2,4,5,7,10,13,16,22,181,182] [(183,λs72=>DI s72.2.2.2)] [0,1,2,3,4,6,11,12,19] [(13,[(4,λs72=>.own 7 0 s72.1.length),(0,λs72=>.own 8 0 s72.2.1.length),(0,λs72=>.own 9 0 s72.2.2.1.length)])] [(7,λs72=>aO 1 (s72.1.map uC)),(8,λs72=>aO 3 (s72.2.1.map frC)),(9,λs72=>aO 1 (s72.2.2.1.map (lC Inc.c)))] 20 λs72 y73 hq73=>?_
 &ar ?_
 &sq λK k=>?_
 &xs (λh75=>?_) λh75=>?_
 &ca ?_
 &sq λK k=>?_
 &au ?_
 &xa λv77 hv77=>?_
 &ar ?_
 &xd λv78 hv78=>?_
 replace q0:=cG r0 (QbI hv78)
 &ar ?_
 &xx (Qp (Qcq (s:=21) (xs:=v78.1) (cd:=(lD 5 Inc.c)) rfl (λ_=>rfl))) ?_
 &xx (Qp (ZM.flat (s:=21) (c:=(lC Inc.c)) rfl (λ_=>rfl) (λ_=>rfl))) ?_
 &xd λv79 hv79=>?_
 &xc λh81=>?_
 &xc λh80=>?_
 replace q0:=cS [(0,7),(1,8)] (Qch hv79)
 &ar ?_
 &ar ?_
 ~wJ [(9,21)]
 &cb ?_
 &xo hq73 ?_
 ~wJ []
 &cT [2,4,5,7,10,13,16,22] [] [0,1,2,3,4,6,7,8,11,12,19] [(13,[(6,λb82=>.own 20 0 b82.1.length),(0,λb82=>DI b82.2)])] [(20,λb82=>aO 1 (b82.1.map (lC Inc.c)))] 21 (λz83=>?_) λb82=>?_
 &ar ?_
 &xs (λh84=>?_) λh84=>?_
 &ca ?_
 &xd λv85 hv85=>?_
 replace q0:=cG r0 (JT hv85)
 &ar ?_
 intro H;have e:=se H;subst e;~ZM.trans (Qcq (s:=20) (xs:=v85.1) (cd:=(lD 5 Inc.c)) rfl (λ_=>rfl)) (ZM.trans (ZM.flat (s:=20) (c:=(lC Inc.c)) rfl (λ_=>rfl) (λ_=>rfl)) (wkJ []))
 &db ?_
 &xs (λh86=>?_) λh86=>?_
 &ca ?_
 &xd λv87 hv87=>?_
 replace q0:=cG r0 (Qbt hv87)
 &ar ?_
 &xx (Qp (Qcq (s:=20) (xs:=v87.1) (cd:=(lD 5 Inc.c)) rfl (λ_=>rfl))) ?_
 &xx (Qp (ZM.flat (s:=20) (c:=(lC Inc.c)) rfl (λ_=>rfl) (λ_=>rfl))) ?_
 &ar ?_
 ~wJ []
 &cb ?_
 ~wJ [(20,9)]
 &ar ?_
 &ar ?_
 &xd λv88 hv88=>?_
 replace q0:=cS r0 (JP hv88)
 &ar ?_
 &ar ?_
 &ar ?_
 &ar ?_
 &ar ?_
 &ar ?_
 &ar ?_
 ~fwwt [(0,6),(1,7),(2,8),(3,20),(4,11),(5,12)]
 &da ?_
 &xx (Qj 1 1 4 Od rfl rfl) ?_
 &xx (Qj 1 4 1 Od rfl rfl) ?_
 &xx (Qj 1 5 3 Od rfl rfl) ?_
 &xx (Qj 1 6 1 Od rfl rfl) ?_
 &xx (Qj 1 9 1 Od rfl rfl) ?_
 &xx (Qj 1 10 1 Od rfl rfl) ?_
 ~fwwt [(0,20),(1,21),(2,22),(3,23),(4,24),(5,25)]
 &da ?_
 &xx (Qj 1 1 4 Od rfl rfl) ?_
 &xx (Qj 1 4 1 Od rfl rfl) ?_
 &xx (Qj 1 5 3 Od rfl rfl) ?_
 &xx (Qj 1 6 1 Od rfl rfl) ?_
 &xx (Qj 1 9 1 Od rfl rfl) ?_
 &xx (Qj 1 10 1 Od rfl rfl) ?_
 ~fwwt [(0,4),(1,5),(2,6),(3,7),(4,8),(5,9)]
end Go.Proofs.YtkfnkecgcdhncaaGreat
