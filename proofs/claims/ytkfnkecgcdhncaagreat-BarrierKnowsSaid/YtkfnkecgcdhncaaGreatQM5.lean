/- Parts of the proof. No condition. -/
import Derived.Test.YtkfnkecgcdhncaaGreatQM0
import Derived.Test.YtkfnkecgcdhncaaGreatQM4
namespace Go.Proofs.YtkfnkecgcdhncaaGreat
open Go.RowKit
set_option linter.unusedSimpArgs false
set_option linter.unusedVariables false
set_option maxRecDepth 20000
set_option maxHeartbeats 40000000
noncomputable def Jz(p0:Sp)(p1:Int)(p2:Int):Option (Int×List Fe) :=
 bndR (Qh (λ(s4:Int) =>
 if s4<(p0.fs.length:Int) then
 ((at_ p0.fs s4).bind λv9 =>
 if v9.ow=(-1) then
 (some (.out (.inr ((s4,p0.fs.set (Int.toNat s4) (Fe.mk p1 (w64 ((w64 (p2*4294967296))+p1)) (-1)))))))
 else
 some (.go (w64 (s4+1))))
 else
 some (.out (.inl (())))) 0) λ(b1:Unit) =>
 some (((-1),p0.fs))
theorem QgE{p0 p1 p2 r}:Sm (Jz p0 p1 p2) r->DCall Tryz.prog 164 [.agg [DI p0.sh,.sl (p0.ws.map uC),.own 0 0 p0.fs.length],DI p1,DI p2] [(0,aO 3 (p0.fs.map frC))] (DI r.1) [(0,aO 3 (r.2.map frC))]:=by
 unfold Jz
 &mk0 Tryz.func164 ?_
 &ar ?_
 &cU [] [] [0] [] [] 1 (λz2 hr2=>?_) λb1=>?_
 &ar ?_
 &lP [1,2,11] [(3,λs4=>.ptr 1 0 0),(10,λs4=>.own 0 0 p0.fs.length),(12,λs4=>DI s4)] [0] [(1,[(2,λs4=>.own 0 0 p0.fs.length)])] [] 2 λs4 y5 hq5=>?_
 &ar ?_
 &sq λK k=>?_
 &xs (λh7=>?_) λh7=>?_
 &ca ?_
 &sq λK k=>?_
 &au ?_
 &xa λv9 hv9=>?_
 &ar ?_
 &ar ?_
 &xs (λh10=>?_) λh10=>?_
 &da ?_
 &goA (Xr (c:=frC) hv9.h (Fe.mk p1 (w64 ((w64 (p2*4294967296))+p1)) (-1)) i66.ok) ?_
 &au ?_
 &ar ?_
 &xo hq5 ?_
 &xr hr2 ?_
 ~ft r1
 &db ?_
 ~wJ []
 &cb ?_
 &xo hq5 ?_
 ~wJ []
 &ar ?_
 ~ft r1
noncomputable def XQ(p0:Int):Option (Int×Int) :=
 if p0<0 then
 (some ((0,2)))
 else
 if 16384<=p0 then
 (some ((0,2)))
 else
 some ((wu (w64 ((w64 (2*p0))+1)),0))
theorem Qec{p0 r}:Sm (XQ p0) r->DCall Tryz.prog 192 [DI p0] [] (.tup [DU r.1,DI r.2]) []:=by
 unfold XQ
 &mk0 Tryz.func192 ?_
 &ar ?_
 &sq λK k=>?_
 &xs (λh2=>?_) λh2=>?_
 &ar ?_
 &da ?_
 ~ftt r0
 &ar ?_
 &xs (λh3=>?_) λh3=>?_
 &da ?_
 ~ftt r0
 &db ?_
 ~ftt r0
noncomputable def XI(p0:Sp)(p1:Int)(p2:Int):Option (Int×Int×Bool) :=
 if p2=0 then
 (some ((0,0,false)))
 else
 if (wu (p0.ws.length:Int))<p2 then
 (some ((0,0,false)))
 else
 if p1<0 then
 (some ((0,0,false)))
 else
 if (p0.ws.length:Int)<=p1 then
 (some ((0,0,false)))
 else
 if 0<=wu p0.sh then
 (at_ p0.fs (QbO .i64 p1 (wu p0.sh))).bind λv7 =>
 (at_ p0.fs (QbO .i64 (w64 (wu (p2-1))) (wu p0.sh))).bind λv8 =>
 if v7.ow=(-1) then
 (some ((QbO .i64 p1 (wu p0.sh),QbO .i64 (w64 (wu (p2-1))) (wu p0.sh),false)))
 else
 if v8.ow=(-1) then
 (some ((QbO .i64 p1 (wu p0.sh),QbO .i64 (w64 (wu (p2-1))) (wu p0.sh),false)))
 else
 some ((QbO .i64 p1 (wu p0.sh),QbO .i64 (w64 (wu (p2-1))) (wu p0.sh),decide (v8.st<v7.st)))
 else none
theorem QaZ{p0 p1 p2 r}:Sm (XI p0 p1 p2) r->DCall Tryz.prog 25 [.agg [DI p0.sh,.sl (p0.ws.map uC),.sl (p0.fs.map frC)],DI p1,DU p2] [] (.tup [DI r.1,DI r.2.1,DB r.2.2]) []:=by
 unfold XI
 &mk0 Tryz.func25 ?_
 &ar ?_
 &sq λK k=>?_
 &xs (λh2=>?_) λh2=>?_
 &ar ?_
 &da ?_
 ~fttt r0
 &xs (λh3=>?_) λh3=>?_
 &ar ?_
 &da ?_
 ~fttt r0
 &xs (λh4=>?_) λh4=>?_
 &ar ?_
 &da ?_
 ~fttt r0
 &ar ?_
 &xs (λh5=>?_) λh5=>?_
 &da ?_
 ~fttt r0
 &cb ?_
 &xc λh6=>?_
 &ar ?_
 &xa λv7 hv7=>?_
 &xa λv8 hv8=>?_
 &ar ?_
 &xs (λh9=>?_) λh9=>?_
 &ar ?_
 ~fttt r0
 &xs (λh10=>?_) λh10=>?_
 &ar ?_
 ~fttt r0
 &ar ?_
 ~fttt r0
noncomputable def Xm(p0:Qe)(p1:Qe):Option Bool :=
 if p0.frm<p1.frm then
 (some (true))
 else
 if p0.frm=p1.frm then
 (some (decide (p0.to<p1.to)))
 else
 some (false)
theorem QbH{p0 p1 r}:Sm (Xm p0 p1) r->DCall Tryz.prog 183 [.agg [DI p0.frm,DI p0.to,.sl (p0.slots.map iC)],.agg [DI p1.frm,DI p1.to,.sl (p1.slots.map iC)]] [] (DB r) []:=by
 unfold Xm
 &mk0 Tryz.func183 ?_
 &ar ?_
 &xs (λh1=>?_) λh1=>?_
 &ar ?_
 ~ft r0
 &xs (λh2=>?_) λh2=>?_
 &ar ?_
 ~ft r0
 &ar ?_
 ~ft r0
noncomputable def Zf(p0:Sp)(p1:Int):Option (Int×List Int×List Fe) :=
 (Qh (λ(s4:List Int×List Fe×Int×Int) =>
 if s4.2.2.2<(p0.fs.length:Int) then
 (((at_ s4.2.1 s4.2.2.2).bind λv10 =>
 if v10.ow=p1 then
 (if 0<=wu p0.sh then
 Qh (λ(s15:List Int×Int) =>
 if s15.2<(Qa9 .i64 (w64 (s4.2.2.2+1)) (wu p0.sh)) then
 ((at_ s15.1 s15.2).bind λv20 =>
 some (.go ((s15.1.set (Int.toNat s15.2) 0,w64 (s15.2+1)))))
 else
 some (.out ((s15.1,s4.2.1.set (Int.toNat s4.2.2.2) (Fe.mk (-1) (-1) (-1)),w64 (s4.2.2.1+1))))) (s4.1,Qa9 .i64 s4.2.2.2 (wu p0.sh))
 else none)
 else
 some ((s4.1,s4.2.1,s4.2.2.1))).bind λ(b8:List Int×List Fe×Int) =>
 some (.go ((b8.1,b8.2.1,b8.2.2,w64 (s4.2.2.2+1)))))
 else
 some (.out ((s4.1,s4.2.1,s4.2.2.1)))) (p0.ws,p0.fs,0,0)).bind λ(b1:List Int×List Fe×Int) =>
 some ((b1.2.2,b1.1,b1.2.1))
theorem Qch{p0 p1 r}:Sm (Zf p0 p1) r->DCall Tryz.prog 182 [.agg [DI p0.sh,.own 0 0 p0.ws.length,.own 1 0 p0.fs.length],DI p1] [(0,aO 1 (p0.ws.map uC)),(1,aO 3 (p0.fs.map frC))] (DI r.1) [(0,aO 1 (r.2.1.map uC)),(1,aO 3 (r.2.2.map frC))]:=by
 unfold Zf
 &mk0 Tryz.func182 ?_
 &ar ?_
 &ar ?_
 &cT [] [(5,λb1=>DI b1.2.2)] [] [] [(0,λb1=>aO 1 (b1.1.map uC)),(1,λb1=>aO 3 (b1.2.1.map frC))] 2 (λz2=>?_) λb1=>?_
 &ar ?_
 &lP [1,11] [(2,λs4=>.ptr 2 0 0),(5,λs4=>DI s4.2.2.1),(10,λs4=>.own 1 0 s4.2.1.length),(12,λs4=>DI s4.2.2.2)] [] [] [(0,λs4=>aO 1 (s4.1.map uC)),(1,λs4=>aO 3 (s4.2.1.map frC)),(2,λs4=>bO 3 [DI p0.sh,.own 0 0 s4.1.length,.own 1 0 s4.2.1.length])] 3 λs4 y5 hq5=>?_
 &ar ?_
 &sq λK k=>?_
 &xs (λh7=>?_) λh7=>?_
 &ca ?_
 &cT [1,2,11,12] [(5,λb8=>DI b8.2.2),(10,λb8=>.own 1 0 b8.2.1.length)] [] [] [(0,λb8=>aO 1 (b8.1.map uC)),(1,λb8=>aO 3 (b8.2.1.map frC)),(2,λb8=>bO 3 [DI p0.sh,.own 0 0 b8.1.length,.own 1 0 b8.2.1.length])] 3 (λz9=>?_) λb8=>?_
 &au ?_
 &xa λv10 hv10=>?_
 &ar ?_
 &sq λK k=>?_
 &ar ?_
 &xs (λh12=>?_) λh12=>?_
 &db ?_
 &ar ?_
 &goA (Xr (c:=frC) hv10.h (Fe.mk (-1) (-1) (-1)) i66.ok) ?_
 &au ?_
 &xc λh13=>?_
 &ar ?_
 &lP [1,2,5,6,11,12] [(8,λs15=>DI s15.2),(10,λs15=>.own 1 0 (s4.2.1.set (Int.toNat s4.2.2.2) (Fe.mk (-1) (-1) (-1))).length)] [1] [] [(0,λs15=>aO 1 (s15.1.map uC)),(2,λs15=>bO 3 [DI p0.sh,.own 0 0 s15.1.length,.own 1 0 (s4.2.1.set (Int.toNat s4.2.2.2) (Fe.mk (-1) (-1) (-1))).length])] 3 λs15 y16 hq16=>?_
 &sq λK k=>?_
 &ar ?_
 &xs (λh18=>?_) λh18=>?_
 &ca ?_
 &sq λK k=>?_
 &au ?_
 &xa λv20 hv20=>?_
 &ar ?_
 &goA (Xr (c:=uC) hv20.h 0 i61.ok) ?_
 &au ?_
 &ar ?_
 ~wJ []
 &cb ?_
 &xo hq16 ?_
 ~wJ []
 &ca ?_
 ~wJ []
 &ar ?_
 ~wJ []
 &cb ?_
 &xo hq5 ?_
 ~wJ []
 &ar ?_
 ~ft r2
noncomputable def XZ(p0:Rts):Option Bool :=
 if (p0.used.length:Int)=32 then
 (if (p0.refs.length:Int)=32 then
 (bndR (Qh (λ(s7:Int) =>
 if s7<(p0.used.length:Int) then
 ((at_ p0.used s7).bind λv12 =>
 if v12=true then
 (some (.go (w64 (s7+1))))
 else
 (at_ p0.refs s7).bind λv14 =>
 if v14=0 then
 (some (.go (w64 (s7+1))))
 else
 some (.out (.inr (false))))
 else
 some (.out (.inl (())))) 0) λ(b4:Unit) =>
 some (true))
 else
 some (false))
 else
 some (false)
theorem Qce{p0 r}:Sm (XZ p0) r->DCall Tryz.prog 144 [.agg [.sl (p0.used.map bC),.sl (p0.refs.map uC)]] [] (DB r) []:=by
 unfold XZ
 &mk0 Tryz.func144 ?_
 &ar ?_
 &sq λK k=>?_
 &xs (λh2=>?_) λh2=>?_
 &ar ?_
 &xs (λh3=>?_) λh3=>?_
 &cb ?_
 &cU [] [] [] [] [] 0 (λz5 hr5=>?_) λb4=>?_
 &ar ?_
 &lP [16,17] [(1,λs7=>.ptr 0 0 0),(18,λs7=>DI s7)] [0] [] [] 1 λs7 y8 hq8=>?_
 &ar ?_
 &sq λK k=>?_
 &xs (λh10=>?_) λh10=>?_
 &ca ?_
 &sq λK k=>?_
 &au ?_
 &xa λv12 hv12=>?_
 &ar ?_
 &xs (λh13=>?_) λh13=>?_
 &ar ?_
 &db ?_
 ~wJ []
 &xa λv14 hv14=>?_
 &ar ?_
 &xs (λh15=>?_) λh15=>?_
 &db ?_
 ~wJ []
 &da ?_
 &xo hq8 ?_
 &xr hr5 ?_
 ~ft r0
 &cb ?_
 &xo hq8 ?_
 ~wJ []
 &ar ?_
 ~ft r0
 &da ?_
 ~ft r0
 &ar ?_
 &da ?_
 ~ft r0
noncomputable def Q8(p0:Hp)(p1:Int):Option (Hp×Ans) :=
 some ((p0,Ans.mk 0 p1))
theorem QJ{p0 p1 r}:Sm (Q8 p0 p1) r->DCall Tryz.prog 67 [.agg [.lit (.string p0.config.name),.sl (p0.config.rules.map Rul.c),DI p0.config.full,DI p0.space.sh,.sl (p0.space.ws.map uC),.sl (p0.space.fs.map frC),.sl (p0.belts.map (lC Inc.c)),DI p0.seq,.sl (p0.sets.map Qe.c),.sl (p0.roots.used.map bC),.sl (p0.roots.refs.map uC),DI p0.since,DI p0.stats.allocated,DI p0.stats.objects,DI p0.stats.collections,DI p0.stats.steps,DI p0.stats.rounds,DI p0.stats.condemned,DI p0.stats.copied,DI p0.stats.entries,DI p0.stats.work,DB p0.dead],DU p1] [] (.tup [.agg [.lit (.string r.1.config.name),.sl (r.1.config.rules.map Rul.c),DI r.1.config.full,DI r.1.space.sh,.sl (r.1.space.ws.map uC),.sl (r.1.space.fs.map frC),.sl (r.1.belts.map (lC Inc.c)),DI r.1.seq,.sl (r.1.sets.map Qe.c),.sl (r.1.roots.used.map bC),.sl (r.1.roots.refs.map uC),DI r.1.since,DI r.1.stats.allocated,DI r.1.stats.objects,DI r.1.stats.collections,DI r.1.stats.steps,DI r.1.stats.rounds,DI r.1.stats.condemned,DI r.1.stats.copied,DI r.1.stats.entries,DI r.1.stats.work,DB r.1.dead],.agg [DI r.2.err,DU r.2.value]]) []:=by
 unfold Q8
 &mk0 Tryz.func67 ?_
 &ar ?_
 &ar ?_
 ~fww r0
noncomputable def JS(p0:List (List Inc)):Option Int :=
 (Qh (λ(s4:Int×Int) =>
 if s4.2<(p0.length:Int) then
 (((at_ p0 s4.2).bind λv10 =>
 Qh (λ(s12:Int×Int) =>
 if s12.2<(v10.length:Int) then
 ((at_ v10 s12.2).bind λv17 =>
 some (.go ((w64 (s12.1+v17.words),w64 (s12.2+1)))))
 else
 some (.out (s12.1))) (s4.1,0)).bind λ(b8:Int) =>
 some (.go ((b8,w64 (s4.2+1)))))
 else
 some (.out (s4.1))) (0,0)).bind λ(b1:Int) =>
 some (b1)
theorem Qe9{p0 r}:Sm (JS p0) r->DCall Tryz.prog 110 [.sl (p0.map (lC Inc.c))] [] (DI r) []:=by
 unfold JS
 &mk0 Tryz.func110 ?_
 &ar ?_
 &ar ?_
 &cT [] [(3,λb1=>DI b1)] [] [] [] 0 (λz2=>?_) λb1=>?_
 &ar ?_
 &lP [8,9] [(3,λs4=>DI s4.1),(10,λs4=>DI s4.2)] [] [] [] 0 λs4 y5 hq5=>?_
 &ar ?_
 &sq λK k=>?_
 &xs (λh7=>?_) λh7=>?_
 &ca ?_
 &cT [8,9,10] [(3,λb8=>DI b8)] [] [] [] 0 (λz9=>?_) λb8=>?_
 &au ?_
 &xa λv10 hv10=>?_
 &ar ?_
 &ar ?_
 &lP [8,9,10,14,15] [(3,λs12=>DI s12.1),(16,λs12=>DI s12.2)] [] [] [] 0 λs12 y13 hq13=>?_
 &ar ?_
 &sq λK k=>?_
 &xs (λh15=>?_) λh15=>?_
 &ca ?_
 &sq λK k=>?_
 &au ?_
 &xa λv17 hv17=>?_
 &ar ?_
 &ar ?_
 &ar ?_
 ~wJ []
 &cb ?_
 &xo hq13 ?_
 ~wJ []
 &ar ?_
 ~wJ []
 &cb ?_
 &xo hq5 ?_
 ~wJ []
 &ar ?_
 ~ft r0
noncomputable def Zj(p0:Hp)(p1:Int)(p2:Bool):Option Int :=
 if p1=0 then
 (if p2=true then
 (some (16))
 else
 some (0))
 else
 if p1<0 then
 (some (14))
 else
 if 32<p1 then
 (some (14))
 else
 (at_ p0.roots.used (w64 (p1-1))).bind λv6 =>
 if v6=true then
 (some (0))
 else
 some (14)
theorem XX{p0 p1 p2 r}:Sm (Zj p0 p1 p2) r->DCall Tryz.prog 69 [.agg [.lit (.string p0.config.name),.sl (p0.config.rules.map Rul.c),DI p0.config.full,DI p0.space.sh,.sl (p0.space.ws.map uC),.sl (p0.space.fs.map frC),.sl (p0.belts.map (lC Inc.c)),DI p0.seq,.sl (p0.sets.map Qe.c),.sl (p0.roots.used.map bC),.sl (p0.roots.refs.map uC),DI p0.since,DI p0.stats.allocated,DI p0.stats.objects,DI p0.stats.collections,DI p0.stats.steps,DI p0.stats.rounds,DI p0.stats.condemned,DI p0.stats.copied,DI p0.stats.entries,DI p0.stats.work,DB p0.dead],DI p1,DB p2] [] (DI r) []:=by
 unfold Zj
 &mk0 Tryz.func69 ?_
 &ar ?_
 &sq λK k=>?_
 &au ?_
 &xs (λh2=>?_) λh2=>?_
 &ar ?_
 &xs (λh3=>?_) λh3=>?_
 &da ?_
 ~ft r0
 &db ?_
 &da ?_
 ~ft r0
 &ar ?_
 &db ?_
 &cb ?_
 &xs (λh4=>?_) λh4=>?_
 &ar ?_
 &da ?_
 ~ft r0
 &xs (λh5=>?_) λh5=>?_
 &ar ?_
 &da ?_
 ~ft r0
 &xa λv6 hv6=>?_
 &ar ?_
 &xs (λh7=>?_) λh7=>?_
 &db ?_
 ~ft r0
 &da ?_
 ~ft r0
noncomputable def QK(p0:Hp)(p1:Int):Option Int :=
 if p1=0 then
 (some (0))
 else
 (at_ p0.roots.refs (w64 (p1-1))).bind λv3 =>
 some (v3)
theorem Q1{p0 p1 r}:Sm (QK p0 p1) r->DCall Tryz.prog 71 [.agg [.lit (.string p0.config.name),.sl (p0.config.rules.map Rul.c),DI p0.config.full,DI p0.space.sh,.sl (p0.space.ws.map uC),.sl (p0.space.fs.map frC),.sl (p0.belts.map (lC Inc.c)),DI p0.seq,.sl (p0.sets.map Qe.c),.sl (p0.roots.used.map bC),.sl (p0.roots.refs.map uC),DI p0.since,DI p0.stats.allocated,DI p0.stats.objects,DI p0.stats.collections,DI p0.stats.steps,DI p0.stats.rounds,DI p0.stats.condemned,DI p0.stats.copied,DI p0.stats.entries,DI p0.stats.work,DB p0.dead],DI p1] [] (DU r) []:=by
 unfold QK
 &mk0 Tryz.func71 ?_
 &ar ?_
 &sq λK k=>?_
 &ar ?_
 &xs (λh2=>?_) λh2=>?_
 &da ?_
 ~ft r0
 &cb ?_
 &xa λv3 hv3=>?_
 &ar ?_
 ~ft r0
noncomputable def JK(p0:Bool):Option Int :=
 if p0=true then
 (some (1))
 else
 some (0)
theorem Qe1{p0 r}:Sm (JK p0) r->DCall Tryz.prog 70 [DB p0] [] (DU r) []:=by
 unfold JK
 &mk0 Tryz.func70 ?_
 &ar ?_
 &sq λK k=>?_
 &ar ?_
 &xs (λh2=>?_) λh2=>?_
 &da ?_
 ~ft r0
 &db ?_
 ~ft r0
noncomputable def Qao(p0:Gra):Option Gra :=
 if (p0.used.length:Int)*1<=140737488355328/\(p0.used.length:Int)<=9223372036854775807 then
 if (p0.roots.length:Int)*8<=140737488355328/\(p0.roots.length:Int)<=9223372036854775807 then
 (Qh (λ(s7:List Nod×Int) =>
 if s7.2<(p0.nodes.length:Int) then
 ((at_ p0.nodes s7.2).bind λv12 =>
 if (v12.refs.length:Int)*8<=140737488355328/\(v12.refs.length:Int)<=9223372036854775807 then
 if (v12.data.length:Int)*8<=140737488355328/\(v12.data.length:Int)<=9223372036854775807 then
 if ((s7.1.length:Int)+1)*48<=140737488355328/\(s7.1.length:Int)+1<=9223372036854775807 then
 some (.go ((s7.1++[v12],w64 (s7.2+1))))
 else none
 else none
 else none)
 else
 some (.out (s7.1))) (([]:List Nod),0)).bind λ(b3:List Nod) =>
 some (Gra.mk b3 p0.used p0.roots)
 else none
 else none
theorem Qgu{p0 r}:Sm (Qao p0) r->DCall Tryz.prog 75 [.agg [.sl (p0.nodes.map Nod.c),.sl (p0.used.map bC),.sl (p0.roots.map iC)]] [] (.agg [.own 0 0 r.nodes.length,.own 1 0 r.used.length,.own 2 0 r.roots.length]) [(0,⟨2,false,false,r.nodes.map Nod.d⟩),(1,aO 1 (r.used.map bC)),(2,aO 1 (r.roots.map iC))]:=by
 unfold Qao
 &mk0 Tryz.func75 ?_
 &ar ?_
 &xc λh1=>?_
 &xc λh2=>?_
 &ar ?_
 &goA (QbU (c:=bC) p0.used h1 i32.ok i4.ok rfl (.sl rfl (Qg (c:=bC) (λ_=>rfl) _))) ?_
 &au ?_
 &goA (QbU (c:=iC) p0.roots h2 i22.ok i3.ok rfl (.sl rfl (Qg (c:=iC) (λ_=>rfl) _))) ?_
 &au ?_
 &cT [] [(2,λb3=>.ptr 1 0 0),(3,λb3=>.ptr 4 0 0)] [1,2,3] [] [(4,λb3=>bO 3 [.own 5 0 b3.length,.own 2 0 p0.used.length,.own 3 0 p0.roots.length]),(5,λb3=>⟨2,false,false,b3.map Nod.d⟩)] 6 (λz4=>?_) λb3=>?_
 &ar ?_
 &xx (Qj 4 0 2 Od rfl rfl) ?_
 &xx (Qp (Qdb (cd:=Nod.d) (s:=5) rfl)) ?_
 &lP [14,15] [(2,λs7=>.ptr 1 0 0),(3,λs7=>.ptr 4 0 0),(16,λs7=>DI s7.2)] [1,2,3] [] [(4,λs7=>bO 3 [.own 5 0 s7.1.length,.own 2 0 p0.used.length,.own 3 0 p0.roots.length]),(5,λs7=>⟨2,false,false,s7.1.map Nod.d⟩)] 6 λs7 y8 hq8=>?_
 &ar ?_
 &sq λK k=>?_
 &xs (λh10=>?_) λh10=>?_
 &ca ?_
 &sq λK k=>?_
 &au ?_
 &xa λv12 hv12=>?_
 &ar ?_
 &xc λh13=>?_
 &xc λh14=>?_
 &xc λh15=>?_
 &ar ?_
 &goA (QbU (c:=iC) v12.refs h13 i22.ok i3.ok rfl (.sl rfl (Qg (c:=iC) (λ_=>rfl) _))) ?_
 &au ?_
 &goA (QbU (c:=uC) v12.data h14 i26.ok i61.ok rfl (.sl rfl (Qg (c:=uC) (λ_=>rfl) _))) ?_
 &au ?_
 &goA (m_litD [[.own 7 0 v12.refs.length,.own 8 0 v12.data.length]] i39.ok i149.ok) ?_
 &goA (m_apD (cd:=Nod.d) s7.1 v12 [.own 7 0 v12.refs.length,.own 8 0 v12.data.length] h15 i39.ok i149.ok rfl rfl (by first | rfl | omega | (simp;done) | (simp;omega)) rfl rfl rfl) ?_
 &au ?_
 &ar ?_
 intro H;have e:=se H;subst e;~⟨_,rfl,ZM.trans (attL (s:=10) (t:=7) (j:=0) (c:=iC) [.dp 1 (v12.refs.map iC),.own 8 0 v12.data.length] rfl rfl rfl rfl rfl rfl) (ZM.trans (attL (s:=10) (t:=8) (j:=1) (c:=uC) [.dp 1 (v12.refs.map iC),.dp 1 (v12.data.map uC)] rfl rfl rfl rfl rfl rfl) (ZM.trans (tellL (s:=10) v12 rfl rfl) (wkJ [(5,10)])))⟩
 &cb ?_
 &xo hq8 ?_
 ~wJ []
 &ar ?_
 ~fw [(0,5),(1,2),(2,3)]
noncomputable def Qx(p0:Gra)(p1:Int):Option (Gra×Ans) :=
 some ((p0,Ans.mk p1 0))
theorem Qs{p0 p1 r}:Sm (Qx p0 p1) r->DCall Tryz.prog 76 [.agg [.sl (p0.nodes.map Nod.c),.sl (p0.used.map bC),.sl (p0.roots.map iC)],DI p1] [] (.tup [.agg [.sl (r.1.nodes.map Nod.c),.sl (r.1.used.map bC),.sl (r.1.roots.map iC)],.agg [DI r.2.err,DU r.2.value]]) []:=by
 unfold Qx
 &mk0 Tryz.func76 ?_
 &ar ?_
 &ar ?_
 ~fww r0
noncomputable def Jp(p0:Gra):Option Int :=
 bndR (Qh (λ(s4:Int) =>
 if s4<(p0.used.length:Int) then
 ((at_ p0.used s4).bind λv9 =>
 if v9=true then
 (some (.go (w64 (s4+1))))
 else
 some (.out (.inr (w64 (s4+1)))))
 else
 some (.out (.inl (())))) 0) λ(b1:Unit) =>
 some (0)
theorem QcF{p0 r}:Sm (Jp p0) r->DCall Tryz.prog 77 [.agg [.sl (p0.nodes.map Nod.c),.sl (p0.used.map bC),.sl (p0.roots.map iC)]] [] (DI r) []:=by
 unfold Jp
 &mk0 Tryz.func77 ?_
 &ar ?_
 &cU [] [] [] [] [] 0 (λz2 hr2=>?_) λb1=>?_
 &ar ?_
 &lP [6,7] [(8,λs4=>DI s4)] [] [] [] 0 λs4 y5 hq5=>?_
 &ar ?_
 &sq λK k=>?_
 &xs (λh7=>?_) λh7=>?_
 &ca ?_
 &sq λK k=>?_
 &au ?_
 &xa λv9 hv9=>?_
 &ar ?_
 &ar ?_
 &xs (λh10=>?_) λh10=>?_
 &db ?_
 ~wJ []
 &da ?_
 &xo hq5 ?_
 &xr hr2 ?_
 ~ft r0
 &cb ?_
 &xo hq5 ?_
 ~wJ []
 &ar ?_
 ~ft r0
noncomputable def JJ(p0:Gra):Option (List Int) :=
 if 0<=(p0.nodes.length:Int)/\(p0.nodes.length:Int)*1<=281474976710656/\(p0.nodes.length:Int)<=9223372036854775807 then
 (Qh (λ(s5:List Bool×Int) =>
 if s5.2<(p0.used.length:Int) then
 ((at_ p0.used s5.2).bind λv10 =>
 if v10=true then
 ((at_ p0.roots s5.2).bind λv12 =>
 (at_ s5.1 v12).bind λv13 =>
 some (.go ((s5.1.set (Int.toNat v12) true,w64 (s5.2+1)))))
 else
 some (.go ((s5.1,w64 (s5.2+1)))))
 else
 some (.out (s5.1))) (List.replicate (Int.toNat (p0.nodes.length:Int)) false,0)).bind λ(b2:List Bool) =>
 (Qh (λ(s17:List Bool×Bool) =>
 if s17.2=true then
 (Qh (λ(s22:List Bool×Bool×Int) =>
 if s22.2.2<(p0.nodes.length:Int) then
 (((at_ p0.nodes s22.2.2).bind λv28 =>
 Qh (λ(s30:List Bool×Bool×Int) =>
 if s30.2.2<(v28.refs.length:Int) then
 ((at_ v28.refs s30.2.2).bind λv35 =>
 (at_ s30.1 s22.2.2).bind λv36 =>
 if v36=true then
 (if 0<=v35 then
 ((at_ s30.1 v35).bind λv39 =>
 if v39=true then
 (some (.go ((s30.1,s30.2.1,w64 (s30.2.2+1)))))
 else
 some (.go ((s30.1.set (Int.toNat v35) true,true,w64 (s30.2.2+1)))))
 else
 some (.go ((s30.1,s30.2.1,w64 (s30.2.2+1)))))
 else
 some (.go ((s30.1,s30.2.1,w64 (s30.2.2+1)))))
 else
 some (.out ((s30.1,s30.2.1)))) (s22.1,s22.2.1,0)).bind λ(b26:List Bool×Bool) =>
 some (.go ((b26.1,b26.2,w64 (s22.2.2+1)))))
 else
 some (.out (.go ((s22.1,s22.2.1))))) (s17.1,false,0))
 else
 some (.out (s17.1))) (b2,true)).bind λ(b14:List Bool) =>
 (Qh (λ(s45:List Int×Int) =>
 if s45.2<(b14.length:Int) then
 ((at_ b14 s45.2).bind λv50 =>
 if v50=true then
 (if ((s45.1.length:Int)+[s45.2].length)*8<=140737488355328/\(s45.1.length:Int)+[s45.2].length<=9223372036854775807 then
 some (.go ((s45.1++[s45.2],w64 (s45.2+1))))
 else none)
 else
 some (.go ((s45.1,w64 (s45.2+1)))))
 else
 some (.out (s45.1))) (([]:List Int),0)).bind λ(b41:List Int) =>
 some (b41)
 else none
theorem Qe0{p0 r}:Sm (JJ p0) r->DCall Tryz.prog 119 [.agg [.sl (p0.nodes.map Nod.c),.sl (p0.used.map bC),.sl (p0.roots.map iC)]] [] (.own 0 0 r.length) [(0,aO 1 (r.map iC))]:=by
 unfold JJ
 &mk0 Tryz.func119 ?_
 &ar ?_
 &xc λh1=>?_
 &ar ?_
 &goA (m_mkE (c:=bC) false h1 i32.ok i4.ok) ?_
 &au ?_
 &cT [] [(1,λb2=>.ptr 0 0 0),(3,λb2=>.own 1 0 b2.length)] [0] [] [(1,λb2=>aO 1 (b2.map bC))] 2 (λz3=>?_) λb2=>?_
 &ar ?_
 &lP [19,20] [(1,λs5=>.ptr 0 0 0),(3,λs5=>.own 1 0 s5.1.length),(21,λs5=>DI s5.2)] [0] [] [(1,λs5=>aO 1 (s5.1.map bC))] 2 λs5 y6 hq6=>?_
 &ar ?_
 &sq λK k=>?_
 &xs (λh8=>?_) λh8=>?_
 &ca ?_
 &sq λK k=>?_
 &au ?_
 &xa λv10 hv10=>?_
 &ar ?_
 &ar ?_
 &xs (λh11=>?_) λh11=>?_
 &ca ?_
 &xa λv12 hv12=>?_
 &xa λv13 hv13=>?_
 &ar ?_
 &goA (Xr (c:=bC) hv13.h true i4.ok) ?_
 &au ?_
 &ar ?_
 ~wJ []
 &db ?_
 ~wJ []
 &cb ?_
 &xo hq6 ?_
 ~wJ []
 &cT [] [(3,λb14=>.own 1 0 b14.length)] [] [] [(1,λb14=>aO 1 (b14.map bC))] 2 (λz15=>?_) λb14=>?_
 &ar ?_
 &lP [1] [(3,λs17=>.own 1 0 s17.1.length),(6,λs17=>DB s17.2)] [0] [] [(1,λs17=>aO 1 (s17.1.map bC))] 2 λs17 y18 hq18=>?_
 &sq λK k=>?_
 &ar ?_
 &xs (λh20=>?_) λh20=>?_
 &da ?_
 &ar ?_
 &lP [1,37,38] [(3,λs22=>.own 1 0 s22.1.length),(6,λs22=>DB s22.2.1),(39,λs22=>DI s22.2.2)] [0] [] [(1,λs22=>aO 1 (s22.1.map bC))] 2 λs22 y23 hq23=>?_
 &ar ?_
 &sq λK k=>?_
 &xs (λh25=>?_) λh25=>?_
 &ca ?_
 &cT [1,37,38,39] [(3,λb26=>.own 1 0 b26.1.length),(6,λb26=>DB b26.2)] [0] [] [(1,λb26=>aO 1 (b26.1.map bC))] 2 (λz27=>?_) λb26=>?_
 &au ?_
 &xa λv28 hv28=>?_
 &ar ?_
 &ar ?_
 &lP [1,7,37,38,39,45,46] [(3,λs30=>.own 1 0 s30.1.length),(6,λs30=>DB s30.2.1),(47,λs30=>DI s30.2.2)] [0] [] [(1,λs30=>aO 1 (s30.1.map bC))] 2 λs30 y31 hq31=>?_
 &ar ?_
 &sq λK k=>?_
 &xs (λh33=>?_) λh33=>?_
 &ca ?_
 &sq λK k=>?_
 &au ?_
 &xa λv35 hv35=>?_
 &ar ?_
 &xa λv36 hv36=>?_
 &xs (λh37=>?_) λh37=>?_
 &xs (λh38=>?_) λh38=>?_
 &xa λv39 hv39=>?_
 &ar ?_
 &xs (λh40=>?_) λh40=>?_
 &db ?_
 ~wJ []
 &da ?_
 &goA (Xr (c:=bC) hv39.h true i4.ok) ?_
 &au ?_
 &ar ?_
 ~wJ []
 &ar ?_
 &db ?_
 ~wJ []
 &ar ?_
 &db ?_
 ~wJ []
 &cb ?_
 &xo hq31 ?_
 ~wJ []
 &ar ?_
 ~wJ []
 &cb ?_
 &xo hq23 ?_
 ~wJ []
 &cb ?_
 &xo hq18 ?_
 ~wJ []
 &ar ?_
 &cT [] [(11,λb41=>.own 2 0 b41.length)] [] [] [(2,λb41=>aO 1 (b41.map iC))] 3 (λz42=>?_) λb41=>?_
 &ar ?_
 &xx (Qz 11 1 Od rfl) ?_
 &lP [72] [(11,λs45=>.own 2 0 s45.1.length),(71,λs45=>.own 1 0 b14.length),(73,λs45=>DI s45.2)] [1] [] [(2,λs45=>aO 1 (s45.1.map iC))] 3 λs45 y46 hq46=>?_
 &ar ?_
 &sq λK k=>?_
 &xs (λh48=>?_) λh48=>?_
 &ca ?_
 &sq λK k=>?_
 &au ?_
 &xa λv50 hv50=>?_
 &ar ?_
 &ar ?_
 &xs (λh51=>?_) λh51=>?_
 &ca ?_
 &xc λh52=>?_
 &ar ?_
 &goA (Ql (c:=iC) ([s45.2]:List Int) i22.ok i3.ok) ?_
 &goA (QW (c:=iC) s45.1 [s45.2] h52 i22.ok i3.ok rfl rfl (.own rfl rfl Os (Qg (c:=iC) (λ_=>rfl) _)) rfl) ?_
 &au ?_
 &ar ?_
 ~wJ [(2,4)]
 &db ?_
 ~wJ []
 &cb ?_
 &xo hq46 ?_
 ~wJ []
 &ar ?_
 ~ft [(0,2)]
noncomputable def Zi(p0:Gra)(p1:Int)(p2:Bool):Option Int :=
 if p1=0 then
 (if p2=true then
 (some (16))
 else
 some (0))
 else
 if p1<0 then
 (some (14))
 else
 if 32<p1 then
 (some (14))
 else
 (at_ p0.used (w64 (p1-1))).bind λv6 =>
 if v6=true then
 (some (0))
 else
 some (14)
theorem XW{p0 p1 p2 r}:Sm (Zi p0 p1 p2) r->DCall Tryz.prog 79 [.agg [.sl (p0.nodes.map Nod.c),.sl (p0.used.map bC),.sl (p0.roots.map iC)],DI p1,DB p2] [] (DI r) []:=by
 unfold Zi
 &mk0 Tryz.func79 ?_
 &ar ?_
 &sq λK k=>?_
 &au ?_
 &xs (λh2=>?_) λh2=>?_
 &ar ?_
 &xs (λh3=>?_) λh3=>?_
 &da ?_
 ~ft r0
 &db ?_
 &da ?_
 ~ft r0
 &ar ?_
 &db ?_
 &cb ?_
 &xs (λh4=>?_) λh4=>?_
 &ar ?_
 &da ?_
 ~ft r0
 &xs (λh5=>?_) λh5=>?_
 &ar ?_
 &da ?_
 ~ft r0
 &xa λv6 hv6=>?_
 &ar ?_
 &xs (λh7=>?_) λh7=>?_
 &db ?_
 ~ft r0
 &da ?_
 ~ft r0
noncomputable def Zh(p0:Gra)(p1:Int):Option Int :=
 if p1=0 then
 (some ((-1)))
 else
 (at_ p0.roots (w64 (p1-1))).bind λv3 =>
 some (v3)
theorem ZP{p0 p1 r}:Sm (Zh p0 p1) r->DCall Tryz.prog 80 [.agg [.sl (p0.nodes.map Nod.c),.sl (p0.used.map bC),.sl (p0.roots.map iC)],DI p1] [] (DI r) []:=by
 unfold Zh
 &mk0 Tryz.func80 ?_
 &ar ?_
 &sq λK k=>?_
 &ar ?_
 &xs (λh2=>?_) λh2=>?_
 &da ?_
 ~ft r0
 &cb ?_
 &xa λv3 hv3=>?_
 &ar ?_
 ~ft r0
noncomputable def X3(p0:Int):Option Bool :=
 if 3<=p0 then
 (some (decide (p0<=8)))
 else
 some (false)
theorem Zc{p0 r}:Sm (X3 p0) r->DCall Tryz.prog 54 [DI p0] [] (DB r) []:=by
 unfold X3
 &mk0 Tryz.func54 ?_
 &ar ?_
 &xs (λh1=>?_) λh1=>?_
 &ar ?_
 ~ft r0
 &ar ?_
 ~ft r0
noncomputable def Qav(p0:List Int):Option Bool :=
 bndR (Qh (λ(s4:Int) =>
 if s4<(p0.length:Int) then
 ((at_ p0 s4).bind λv9 =>
 if v9=0 then
 (some (.go (w64 (s4+1))))
 else
 some (.out (.inr (false))))
 else
 some (.out (.inl (())))) 0) λ(b1:Unit) =>
 some (true)
theorem QgI{p0 r}:Sm (Qav p0) r->DCall Tryz.prog 55 [.sl (p0.map uC)] [] (DB r) []:=by
 unfold Qav
 &mk0 Tryz.func55 ?_
 &ar ?_
 &cU [] [] [] [] [] 0 (λz2 hr2=>?_) λb1=>?_
 &ar ?_
 &lP [5,6] [(7,λs4=>DI s4)] [] [] [] 0 λs4 y5 hq5=>?_
 &ar ?_
 &sq λK k=>?_
 &xs (λh7=>?_) λh7=>?_
 &ca ?_
 &sq λK k=>?_
 &au ?_
 &xa λv9 hv9=>?_
 &ar ?_
 &ar ?_
 &xs (λh10=>?_) λh10=>?_
 &db ?_
 ~wJ []
 &da ?_
 &xo hq5 ?_
 &xr hr2 ?_
 ~ft r0
 &cb ?_
 &xo hq5 ?_
 ~wJ []
 &ar ?_
 ~ft r0
noncomputable def Xe(p0:Sp):Option Bool :=
 bndR (Qh (λ(s4:Int) =>
 if s4<(p0.fs.length:Int) then
 (bndR ((at_ p0.fs s4).bind λv10 =>
 Qh (λ(s12:Int×Int) =>
 if 0<=s12.1 then
 (if s12.2<(p0.fs.length:Int) then
 (if s12.1=s4 then
 (some (.out (.inr (.out (.inr (false))))))
 else
 (at_ p0.fs s12.1).bind λv20 =>
 some (.go ((v20.nx,w64 (s12.2+1)))))
 else
 some (.out (.inl (()))))
 else
 some (.out (.inl (())))) (v10.nx,0)) λ(b8:Unit) =>
 some (.go (w64 (s4+1))))
 else
 some (.out (.inl (())))) 0) λ(b1:Unit) =>
 some (true)
theorem QdE{p0 r}:Sm (Xe p0) r->DCall Tryz.prog 56 [.agg [DI p0.sh,.sl (p0.ws.map uC),.sl (p0.fs.map frC)]] [] (DB r) []:=by
 unfold Xe
 &mk0 Tryz.func56 ?_
 &ar ?_
 &cU [] [] [] [] [] 0 (λz2 hr2=>?_) λb1=>?_
 &ar ?_
 &lP [8] [(1,λs4=>.ptr 0 0 0),(9,λs4=>DI s4)] [0] [] [] 1 λs4 y5 hq5=>?_
 &ar ?_
 &sq λK k=>?_
 &xs (λh7=>?_) λh7=>?_
 &ca ?_
 &cU [1,8,9] [] [0] [] [] 1 (λz9 hr9=>?_) λb8=>?_
 &ar ?_
 &xa λv10 hv10=>?_
 &ar ?_
 &ar ?_
 &lP [1,3,8,9] [(4,λs12=>DI s12.1),(5,λs12=>DI s12.2)] [0] [] [] 1 λs12 y13 hq13=>?_
 &sq λK k=>?_
 &xs (λh15=>?_) λh15=>?_
 &ar ?_
 &xs (λh16=>?_) λh16=>?_
 &ca ?_
 &sq λK k=>?_
 &au ?_
 &sq λK k=>?_
 &ar ?_
 &xs (λh19=>?_) λh19=>?_
 &da ?_
 &xo hq13 ?_
 &xr hr9 ?_
 &xo hq5 ?_
 &xr hr2 ?_
 ~ft r0
 &cb ?_
 &xa λv20 hv20=>?_
 &ar ?_
 &ar ?_
 ~wJ []
 &cb ?_
 &xo hq13 ?_
 ~wJ []
 &ar ?_
 &cb ?_
 &xo hq13 ?_
 ~wJ []
 &ar ?_
 ~wJ []
 &cb ?_
 &xo hq5 ?_
 ~wJ []
 &ar ?_
 ~ft r0
noncomputable def Qah(p0:Sp)(p1:Int):Option Bool :=
 if 0<=p1 then
 (some (decide (p1<(p0.fs.length:Int))))
 else
 some (false)
theorem F_chain_in_ok{p0 p1 r}:Sm (Qah p0 p1) r->DCall Tryz.prog 150 [.agg [DI p0.sh,.sl (p0.ws.map uC),.sl (p0.fs.map frC)],DI p1] [] (DB r) []:=by
 unfold Qah
 &mk0 Tryz.func150 ?_
 &ar ?_
 &xs (λh1=>?_) λh1=>?_
 &ar ?_
 ~ft r0
 &ar ?_
 ~ft r0
noncomputable def Z0(p0:Sp)(p1:Int):Option Bool :=
 (at_ p0.fs p1).bind λv1 =>
 some (decide (v1.ow=(-1)))
theorem QcS{p0 p1 r}:Sm (Z0 p0 p1) r->DCall Tryz.prog 125 [.agg [DI p0.sh,.sl (p0.ws.map uC),.sl (p0.fs.map frC)],DI p1] [] (DB r) []:=by
 unfold Z0
 &mk0 Tryz.func125 ?_
 &ar ?_
 &xa λv1 hv1=>?_
 &ar ?_
 ~ft r0
noncomputable def Qca(p0:Int)(p1:Int):Option Int :=
 if p0<0 then
 (some (0))
 else
 if 1099511627776<p0 then
 (some (0))
 else
 if p1<0 then
 (some (0))
 else
 if 20<p1 then
 (some (0))
 else
 if 0<=wu p1 then
 some (QbO .i64 (w64 ((w64 (p0+(Qa9 .i64 1 (wu p1))))-1)) (wu p1))
 else none
theorem F_bits_Ceil_ok{p0 p1 r}:Sm (Qca p0 p1) r->DCall Tryz.prog 151 [DI p0,DI p1] [] (DI r) []:=by
 unfold Qca
 &mk0 Tryz.func151 ?_
 &ar ?_
 &sq λK k=>?_
 &xs (λh2=>?_) λh2=>?_
 &ar ?_
 &da ?_
 ~ft r0
 &xs (λh3=>?_) λh3=>?_
 &ar ?_
 &da ?_
 ~ft r0
 &xs (λh4=>?_) λh4=>?_
 &ar ?_
 &da ?_
 ~ft r0
 &ar ?_
 &xs (λh5=>?_) λh5=>?_
 &da ?_
 ~ft r0
 &cb ?_
 &xc λh6=>?_
 &ar ?_
 ~ft r0
noncomputable def Qa4(p0:Sp)(p1:Int):Option Int :=
 (Qh (λ(s4:Int×Int) =>
 if s4.2<(p0.fs.length:Int) then
 ((at_ p0.fs s4.2).bind λv9 =>
 if v9.ow=p1 then
 (some (.go ((w64 (s4.1+1),w64 (s4.2+1)))))
 else
 some (.go ((s4.1,w64 (s4.2+1)))))
 else
 some (.out (s4.1))) (0,0)).bind λ(b1:Int) =>
 some (b1)
theorem F_bump_owns_ok{p0 p1 r}:Sm (Qa4 p0 p1) r->DCall Tryz.prog 122 [.agg [DI p0.sh,.sl (p0.ws.map uC),.sl (p0.fs.map frC)],DI p1] [] (DI r) []:=by
 unfold Qa4
 &mk0 Tryz.func122 ?_
 &ar ?_
 &ar ?_
 &cT [] [(5,λb1=>DI b1)] [] [] [] 0 (λz2=>?_) λb1=>?_
 &ar ?_
 &lP [1,9,10] [(5,λs4=>DI s4.1),(11,λs4=>DI s4.2)] [] [] [] 0 λs4 y5 hq5=>?_
 &ar ?_
 &sq λK k=>?_
 &xs (λh7=>?_) λh7=>?_
 &ca ?_
 &sq λK k=>?_
 &au ?_
 &xa λv9 hv9=>?_
 &ar ?_
 &ar ?_
 &xs (λh10=>?_) λh10=>?_
 &da ?_
 &ar ?_
 ~wJ []
 &db ?_
 ~wJ []
 &cb ?_
 &xo hq5 ?_
 ~wJ []
 &ar ?_
 ~ft r0
noncomputable def Qaz(p0:Int)(p1:Int):Option Bool :=
 if 0<=p0 then
 (if 0<=p1 then
 (if p0<=64 then
 (some (decide (p1<=(w64 (64-p0)))))
 else
 some (false))
 else
 some (false))
 else
 some (false)
theorem QgM{p0 p1 r}:Sm (Qaz p0 p1) r->DCall Tryz.prog 152 [DI p0,DI p1] [] (DB r) []:=by
 unfold Qaz
 &mk0 Tryz.func152 ?_
 &ar ?_
 &xs (λh1=>?_) λh1=>?_
 &xs (λh2=>?_) λh2=>?_
 &xs (λh3=>?_) λh3=>?_
 &ar ?_
 ~ft r0
 &ar ?_
 ~ft r0
 &ar ?_
 ~ft r0
 &ar ?_
 ~ft r0
noncomputable def Qa5(p0:Int):Option Int :=
 if p0<0 then
 (some (0))
 else
 if 0<=wu p0 then
 some (xorN .u64 (Qa9 .u64 18446744073709551615 (wu p0)))
 else none
theorem F_bits_Mask_ok{p0 r}:Sm (Qa5 p0) r->DCall Tryz.prog 153 [DI p0] [] (DU r) []:=by
 unfold Qa5
 &mk0 Tryz.func153 ?_
 &ar ?_
 &sq λK k=>?_
 &ar ?_
 &xs (λh2=>?_) λh2=>?_
 &da ?_
 ~ft r0
 &cb ?_
 &xc λh3=>?_
 &ar ?_
 ~ft r0
noncomputable def Z9(p0:Int)(p1:Int)(c0:List Int):Option (Bool×List Int×List Int) :=
 if ((c0.length:Int)+[p0].length)*8<=140737488355328/\(c0.length:Int)+[p0].length<=9223372036854775807 then
 some ((true,c0++[p0],c0++[p0]))
 else none
theorem Qdz{p0 p1 c0 r}:Sm (Z9 p0 p1 c0) r->DCall Tryz.prog 45 [DI p0,DI p1,.ptr 0 0 0] [(0,bO 1 [.own 1 0 c0.length]),(1,aO 1 (c0.map iC))] (DB r.1) [(0,bO 1 [.own 2 0 r.2.2.length]),(2,aO 1 (r.2.2.map iC))]:=by
 unfold Z9
 &mk0 Tryz.func45 ?_
 &ar ?_
 &xc λh1=>?_
 &ar ?_
 &goA (Ql (c:=iC) ([p0]:List Int) i22.ok i3.ok) ?_
 &goA (QW (c:=iC) c0 [p0] h1 i22.ok i3.ok rfl rfl (.own rfl rfl Os (Qg (c:=iC) (λ_=>rfl) _)) rfl) ?_
 &au ?_
 &ar ?_
 ~ft [(0,0),(2,3)]
noncomputable def ZK(p0:Sp)(p1:Int)(p2:Int):Option (Int×Int×Bool) :=
 if p2=0 then
 (some ((0,0,false)))
 else
 if (wu (p0.ws.length:Int))<p2 then
 (some ((0,0,false)))
 else
 if p1<0 then
 (some ((0,0,false)))
 else
 if (p0.ws.length:Int)<=p1 then
 (some ((0,0,false)))
 else
 if 0<=wu p0.sh then
 some ((QbO .i64 p1 (wu p0.sh),QbO .i64 (w64 (wu (p2-1))) (wu p0.sh),true))
 else none
theorem Qai{p0 p1 p2 r}:Sm (ZK p0 p1 p2) r->DCall Tryz.prog 21 [.agg [DI p0.sh,.sl (p0.ws.map uC),.sl (p0.fs.map frC)],DI p1,DU p2] [] (.tup [DI r.1,DI r.2.1,DB r.2.2]) []:=by
 unfold ZK
 &mk0 Tryz.func21 ?_
 &ar ?_
 &sq λK k=>?_
 &xs (λh2=>?_) λh2=>?_
 &ar ?_
 &da ?_
 ~fttt r0
 &xs (λh3=>?_) λh3=>?_
 &ar ?_
 &da ?_
 ~fttt r0
 &xs (λh4=>?_) λh4=>?_
 &ar ?_
 &da ?_
 ~fttt r0
 &ar ?_
 &xs (λh5=>?_) λh5=>?_
 &da ?_
 ~fttt r0
 &cb ?_
 &xc λh6=>?_
 &ar ?_
 ~fttt r0
noncomputable def Za(p0:Qe)(p1:Qe):Option Int :=
 if p0.frm=p1.frm then
 (some (w64 (p0.to-p1.to)))
 else
 some (w64 (p0.frm-p1.frm))
theorem Zp{p0 p1 r}:Sm (Za p0 p1) r->DCall Tryz.prog 58 [.agg [DI p0.frm,DI p0.to,.sl (p0.slots.map iC)],.agg [DI p1.frm,DI p1.to,.sl (p1.slots.map iC)]] [] (DI r) []:=by
 unfold Za
 &mk0 Tryz.func58 ?_
 &ar ?_
 &sq λK k=>?_
 &ar ?_
 &xs (λh2=>?_) λh2=>?_
 &db ?_
 ~ft r0
 &da ?_
 ~ft r0
noncomputable def XT(p0:Int):Option Bool :=
 some (!(decide (p0=p0)))
theorem ZE{p0 r}:Sm (XT p0) r->DCall Tryz.prog 127 [DI p0] [] (DB r) []:=by
 unfold XT
 &mk0 Tryz.func127 ?_
 &ar ?_
 &ar ?_
 ~ft r0
noncomputable def Q7(p0:Int):Option Bool :=
 some (!(decide (p0=p0)))
theorem XC{p0 r}:Sm (Q7 p0) r->DCall Tryz.prog 88 [DI p0] [] (DB r) []:=by
 unfold Q7
 &mk0 Tryz.func88 ?_
 &ar ?_
 &ar ?_
 ~ft r0
noncomputable def Qa0(p0:List Qe)(p1:Int)(p2:Int)(p3:Int):Option Bool :=
 bndR (Qh (λ(s4:Int) =>
 if s4<(p0.length:Int) then
 (bndR ((at_ p0 s4).bind λv10 =>
 if v10.frm=p1 then
 (if v10.to=p2 then
 (Qh (λ(s14:Int) =>
 if s14<(v10.slots.length:Int) then
 ((at_ v10.slots s14).bind λv19 =>
 if v19=p3 then
 (some (.out (.inr (.out (.inr (true))))))
 else
 some (.go (w64 (s14+1))))
 else
 some (.out (.inl (())))) 0)
 else
 some (.inl (())))
 else
 some (.inl (()))) λ(b8:Unit) =>
 some (.go (w64 (s4+1))))
 else
 some (.out (.inl (())))) 0) λ(b1:Unit) =>
 some (false)
theorem F_ref18_Has_ok{p0 p1 p2 p3 r}:Sm (Qa0 p0 p1 p2 p3) r->DCall Tryz.prog 16 [.sl (p0.map Qe.c),DI p1,DI p2,DI p3] [] (DB r) []:=by
 unfold Qa0
 &mk0 Tryz.func16 ?_
 &ar ?_
 &cU [] [] [] [] [] 0 (λz2 hr2=>?_) λb1=>?_
 &ar ?_
 &lP [1,2,3,13,14] [(15,λs4=>DI s4)] [] [] [] 0 λs4 y5 hq5=>?_
 &ar ?_
 &sq λK k=>?_
 &xs (λh7=>?_) λh7=>?_
 &ca ?_
 &cU [1,2,3,13,14,15] [] [] [] [] 0 (λz9 hr9=>?_) λb8=>?_
 &au ?_
 &xa λv10 hv10=>?_
 &ar ?_
 &xs (λh11=>?_) λh11=>?_
 &ar ?_
 &xs (λh12=>?_) λh12=>?_
 &da ?_
 &lP [1,2,3,13,14,15,30,31] [(32,λs14=>DI s14)] [] [] [] 0 λs14 y15 hq15=>?_
 &ar ?_
 &sq λK k=>?_
 &xs (λh17=>?_) λh17=>?_
 &ca ?_
 &sq λK k=>?_
 &au ?_
 &xa λv19 hv19=>?_
 &ar ?_
 &ar ?_
 &xs (λh20=>?_) λh20=>?_
 &da ?_
 &xo hq15 ?_
 &xr hr9 ?_
 &xo hq5 ?_
 &xr hr2 ?_
 ~ft r0
 &db ?_
 ~wJ []
 &cb ?_
 &xo hq15 ?_
 ~wJ []
 &cb ?_
 ~wJ []
 &ar ?_
 &cb ?_
 ~wJ []
 &ar ?_
 ~wJ []
 &cb ?_
 &xo hq5 ?_
 ~wJ []
 &ar ?_
 ~ft r0
noncomputable def Xd(p0:List Int)(p1:List Int):Option Bool :=
 if (p0.length:Int)=(p1.length:Int) then
 (bndR (Qh (λ(s6:Int) =>
 if s6<(p0.length:Int) then
 ((at_ p0 s6).bind λv11 =>
 (at_ p1 s6).bind λv12 =>
 if v11=v12 then
 (some (.go (w64 (s6+1))))
 else
 some (.out (.inr (false))))
 else
 some (.out (.inl (())))) 0) λ(b3:Unit) =>
 some (true))
 else
 some (false)
theorem QdC{p0 p1 r}:Sm (Xd p0 p1) r->DCall Tryz.prog 8 [.sl (p0.map iC),.sl (p1.map iC)] [] (DB r) []:=by
 unfold Xd
 &mk0 Tryz.func8 ?_
 &ar ?_
 &sq λK k=>?_
 &ar ?_
 &xs (λh2=>?_) λh2=>?_
 &cb ?_
 &cU [] [] [] [] [] 0 (λz4 hr4=>?_) λb3=>?_
 &ar ?_
 &lP [0,1,12] [(13,λs6=>DI s6)] [] [] [] 0 λs6 y7 hq7=>?_
 &ar ?_
 &sq λK k=>?_
 &xs (λh9=>?_) λh9=>?_
 &ca ?_
 &sq λK k=>?_
 &ar ?_
 &xa λv11 hv11=>?_
 &xa λv12 hv12=>?_
 &ar ?_
 &xs (λh13=>?_) λh13=>?_
 &db ?_
 ~wJ []
 &da ?_
 &xo hq7 ?_
 &xr hr4 ?_
 ~ft r0
 &cb ?_
 &xo hq7 ?_
 ~wJ []
 &ar ?_
 ~ft r0
 &da ?_
 ~ft r0
noncomputable def XD(p0:Int):Option Bool :=
 if 0<=p0 then
 (some (decide (p0<64)))
 else
 some (false)
theorem Qm{p0 r}:Sm (XD p0) r->DCall Tryz.prog 57 [DI p0] [] (DB r) []:=by
 unfold XD
 &mk0 Tryz.func57 ?_
 &ar ?_
 &xs (λh1=>?_) λh1=>?_
 &ar ?_
 ~ft r0
 &ar ?_
 ~ft r0
noncomputable def Qax(p0:List Qe):Option (List Qe) :=
 (Qh (λ(s5:List Qe×Int) =>
 if s5.2<(p0.length:Int) then
 ((at_ p0 s5.2).bind λv10 =>
 if (v10.slots.length:Int)*8<=140737488355328/\(v10.slots.length:Int)<=9223372036854775807 then
 if ((s5.1.length:Int)+1)*40<=140737488355328/\(s5.1.length:Int)+1<=9223372036854775807 then
 some (.go ((s5.1++[v10],w64 (s5.2+1))))
 else none
 else none)
 else
 some (.out (s5.1))) (([]:List Qe),0)).bind λ(b1:List Qe) =>
 some (b1)
theorem QcR{p0 r}:Sm (Qax p0) r->DCall Tryz.prog 31 [.sl (p0.map Qe.c)] [] (.own 0 0 r.length) [(0,⟨3,false,false,r.map Qe.d⟩)]:=by
 unfold Qax
 &mk0 Tryz.func31 ?_
 &ar ?_
 &ar ?_
 &cT [] [(3,λb1=>.own 0 0 b1.length)] [] [] [(0,λb1=>⟨3,false,false,b1.map Qe.d⟩)] 1 (λz2=>?_) λb1=>?_
 &ar ?_
 &xx (Qz 3 3 Od rfl) ?_
 &xx (Qp (Qdb (cd:=Qe.d) (s:=0) rfl)) ?_
 &lP [6,7] [(3,λs5=>.own 0 0 s5.1.length),(8,λs5=>DI s5.2)] [] [] [(0,λs5=>⟨3,false,false,s5.1.map Qe.d⟩)] 1 λs5 y6 hq6=>?_
 &ar ?_
 &sq λK k=>?_
 &xs (λh8=>?_) λh8=>?_
 &ca ?_
 &sq λK k=>?_
 &au ?_
 &xa λv10 hv10=>?_
 &ar ?_
 &xc λh11=>?_
 &xc λh12=>?_
 &ar ?_
 &goA (QbU (c:=iC) v10.slots h11 i22.ok i3.ok rfl (.sl rfl (Qg (c:=iC) (λ_=>rfl) _))) ?_
 &au ?_
 &goA (m_litD [[DI v10.frm,DI v10.to,.own 2 0 v10.slots.length]] i31.ok i81.ok) ?_
 &goA (m_apD (cd:=Qe.d) s5.1 v10 [DI v10.frm,DI v10.to,.own 2 0 v10.slots.length] h12 i31.ok i81.ok rfl rfl (by first | rfl | omega | (simp;done) | (simp;omega)) rfl rfl rfl) ?_
 &au ?_
 &ar ?_
 intro H;have e:=se H;subst e;~⟨_,rfl,ZM.trans (attL (s:=4) (t:=2) (j:=2) (c:=iC) [DI v10.frm,DI v10.to,.dp 1 (v10.slots.map iC)] rfl rfl rfl rfl rfl rfl) (ZM.trans (tellL (s:=4) v10 rfl rfl) (wkJ [(0,4)]))⟩
 &cb ?_
 &xo hq6 ?_
 ~wJ []
 &ar ?_
 ~ft r1
end Go.Proofs.YtkfnkecgcdhncaaGreat
