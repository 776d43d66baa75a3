/- Parts of the proof. No condition. -/
import Derived.Test.YthpnlnjdmlbnaaaGreatDoorQB0
import Derived.Test.YthpnlnjdmlbnaaaGreatDoorQB3
namespace Go.Proofs.YthpnlnjdmlbnaaaGreatDoor
open Go.RowKit
set_option linter.unusedSimpArgs false
set_option linter.unusedVariables false
set_option maxRecDepth 20000
set_option maxHeartbeats 40000000
noncomputable def XQ(p0:Sp)(p1:Int)(p2:Int):Option (Int×List Fe) :=
 bndR (Qi (λ(s4:Int) =>
 if s4 < (p0.fs.length:Int) then
 ((at_ p0.fs s4).bind λv9 =>
 if v9.ow=(-1) then
 (some (.out (.inr ((s4,p0.fs.set (Int.toNat s4) (Fe.mk p1 (w64 ((w64 (p2 * 4294967296))+p1)) (-1)))))))
 else
 some (.go (w64 (s4+1))))
 else
 some (.out (.inl (())))) 0) λ(b1:Unit) =>
 some (((-1),p0.fs))
theorem QeT{p0 p1 p2 r}:Sm (XQ p0 p1 p2) r->DCall Tryz.prog 194 [.agg [DI p0.sh,.sl (p0.ws.map uC),.own 0 0 p0.fs.length],DI p1,DI p2] [(0,aO 3 (p0.fs.map frC))] (DI r.1) [(0,aO 3 (r.2.map frC))]:=by
 unfold XQ
 refine mk0 Tryz.func194 ?_
 refine ar ?_
 refine cU [] [] [0] [] [] 1 (λz2 hr2=>?_) λb1=>?_
 refine ar ?_
 refine lP [1,2,11] [(3,λs4=>.ptr 1 0 0),(10,λs4=>.own 0 0 p0.fs.length),(12,λs4=>DI s4)] [0] [(1,[(2,λs4=>.own 0 0 p0.fs.length)])] [] 2 λs4 y5 hq5=>?_
 refine ar ?_
 refine sq λK k=>?_
 refine xs (λh7=>?_) λh7=>?_
 refine ca ?_
 refine sq λK k=>?_
 refine au ?_
 refine xa λv9 hv9=>?_
 refine ar ?_
 refine ar ?_
 refine xs (λh10=>?_) λh10=>?_
 refine da ?_
 refine goA (Z2 (c:=frC) hv9.h (Fe.mk p1 (w64 ((w64 (p2 * 4294967296))+p1)) (-1)) i53.ok) ?_
 refine au ?_
 refine ar ?_
 refine xo hq5 ?_
 refine xr hr2 ?_
 exact ft r1
 refine db ?_
 exact wJ []
 refine cb ?_
 refine xo hq5 ?_
 exact wJ []
 refine ar ?_
 exact ft r1
noncomputable def Xd(p0:Int):Option (Int×Int) :=
 if p0 < 0 then
 (some ((0,2)))
 else
 if 16384<=p0 then
 (some ((0,2)))
 else
 some ((wu (w64 ((w64 (2 * p0))+1)),0))
theorem QcJ{p0 r}:Sm (Xd p0) r->DCall Tryz.prog 154 [DI p0] [] (.tup [DU r.1,DI r.2]) []:=by
 unfold Xd
 refine mk0 Tryz.func154 ?_
 refine ar ?_
 refine sq λK k=>?_
 refine xs (λh2=>?_) λh2=>?_
 refine ar ?_
 refine da ?_
 exact ftt r0
 refine ar ?_
 refine xs (λh3=>?_) λh3=>?_
 refine da ?_
 exact ftt r0
 refine db ?_
 exact ftt r0
noncomputable def XI(p0:Sp)(p1:Int)(p2:Int):Option (Int×Int×Bool) :=
 if p2=0 then
 (some ((0,0,false)))
 else
 if (wu (p0.ws.length:Int)) < p2 then
 (some ((0,0,false)))
 else
 if p1 < 0 then
 (some ((0,0,false)))
 else
 if (p0.ws.length:Int)<=p1 then
 (some ((0,0,false)))
 else
 if 0<=wu p0.sh then
 (at_ p0.fs (Qb2 .i64 p1 (wu p0.sh))).bind λv7 =>
 (at_ p0.fs (Qb2 .i64 (w64 (wu (p2 - 1))) (wu p0.sh))).bind λv8 =>
 if v7.ow=(-1) then
 (some ((Qb2 .i64 p1 (wu p0.sh),Qb2 .i64 (w64 (wu (p2 - 1))) (wu p0.sh),false)))
 else
 if v8.ow=(-1) then
 (some ((Qb2 .i64 p1 (wu p0.sh),Qb2 .i64 (w64 (wu (p2 - 1))) (wu p0.sh),false)))
 else
 some ((Qb2 .i64 p1 (wu p0.sh),Qb2 .i64 (w64 (wu (p2 - 1))) (wu p0.sh),decide (v8.st < v7.st)))
 else none
theorem Qbw{p0 p1 p2 r}:Sm (XI p0 p1 p2) r->DCall Tryz.prog 165 [.agg [DI p0.sh,.sl (p0.ws.map uC),.sl (p0.fs.map frC)],DI p1,DU p2] [] (.tup [DI r.1,DI r.2.1,DB r.2.2]) []:=by
 unfold XI
 refine mk0 Tryz.func165 ?_
 refine ar ?_
 refine sq λK k=>?_
 refine xs (λh2=>?_) λh2=>?_
 refine ar ?_
 refine da ?_
 exact fttt r0
 refine xs (λh3=>?_) λh3=>?_
 refine ar ?_
 refine da ?_
 exact fttt r0
 refine xs (λh4=>?_) λh4=>?_
 refine ar ?_
 refine da ?_
 exact fttt r0
 refine ar ?_
 refine xs (λh5=>?_) λh5=>?_
 refine da ?_
 exact fttt r0
 refine cb ?_
 refine xc λh6=>?_
 refine ar ?_
 refine xa λv7 hv7=>?_
 refine xa λv8 hv8=>?_
 refine ar ?_
 refine xs (λh9=>?_) λh9=>?_
 refine ar ?_
 exact fttt r0
 refine xs (λh10=>?_) λh10=>?_
 refine ar ?_
 exact fttt r0
 refine ar ?_
 exact fttt r0
noncomputable def ZT(p0:Qe)(p1:Qe):Option Bool :=
 if p0.frm < p1.frm then
 (some (true))
 else
 if p0.frm=p1.frm then
 (some (decide (p0.to < p1.to)))
 else
 some (false)
theorem Qaz{p0 p1 r}:Sm (ZT p0 p1) r->DCall Tryz.prog 68 [.agg [DI p0.frm,DI p0.to,.sl (p0.slots.map iC)],.agg [DI p1.frm,DI p1.to,.sl (p1.slots.map iC)]] [] (DB r) []:=by
 unfold ZT
 refine mk0 Tryz.func68 ?_
 refine ar ?_
 refine xs (λh1=>?_) λh1=>?_
 refine ar ?_
 exact ft r0
 refine xs (λh2=>?_) λh2=>?_
 refine ar ?_
 exact ft r0
 refine ar ?_
 exact ft r0
noncomputable def QY(p0:Sp)(p1:Int):Option (Int×List Int×List Fe) :=
 (Qi (λ(s4:List Int×List Fe×Int×Int) =>
 if s4.2.2.2 < (p0.fs.length:Int) then
 (((at_ s4.2.1 s4.2.2.2).bind λv10 =>
 if v10.ow=p1 then
 (if 0<=wu p0.sh then
 Qi (λ(s15:List Int×Int) =>
 if s15.2 < (Qcq .i64 (w64 (s4.2.2.2+1)) (wu p0.sh)) then
 ((at_ s15.1 s15.2).bind λv20 =>
 some (.go ((s15.1.set (Int.toNat s15.2) 0,w64 (s15.2+1)))))
 else
 some (.out ((s15.1,s4.2.1.set (Int.toNat s4.2.2.2) (Fe.mk (-1) (-1) (-1)),w64 (s4.2.2.1+1))))) (s4.1,Qcq .i64 s4.2.2.2 (wu p0.sh))
 else none)
 else
 some ((s4.1,s4.2.1,s4.2.2.1))).bind λ(b8:List Int×List Fe×Int) =>
 some (.go ((b8.1,b8.2.1,b8.2.2,w64 (s4.2.2.2+1)))))
 else
 some (.out ((s4.1,s4.2.1,s4.2.2.1)))) (p0.ws,p0.fs,0,0)).bind λ(b1:List Int×List Fe×Int) =>
 some ((b1.2.2,b1.1,b1.2.1))
theorem Qa5{p0 p1 r}:Sm (QY p0 p1) r->DCall Tryz.prog 80 [.agg [DI p0.sh,.own 0 0 p0.ws.length,.own 1 0 p0.fs.length],DI p1] [(0,aO 1 (p0.ws.map uC)),(1,aO 3 (p0.fs.map frC))] (DI r.1) [(0,aO 1 (r.2.1.map uC)),(1,aO 3 (r.2.2.map frC))]:=by
 unfold QY
 refine mk0 Tryz.func80 ?_
 refine ar ?_
 refine ar ?_
 refine cT [] [(5,λb1=>DI b1.2.2)] [] [] [(0,λb1=>aO 1 (b1.1.map uC)),(1,λb1=>aO 3 (b1.2.1.map frC))] 2 (λz2=>?_) λb1=>?_
 refine ar ?_
 refine lP [1,11] [(2,λs4=>.ptr 2 0 0),(5,λs4=>DI s4.2.2.1),(10,λs4=>.own 1 0 s4.2.1.length),(12,λs4=>DI s4.2.2.2)] [] [] [(0,λs4=>aO 1 (s4.1.map uC)),(1,λs4=>aO 3 (s4.2.1.map frC)),(2,λs4=>bO 3 [DI p0.sh,.own 0 0 s4.1.length,.own 1 0 s4.2.1.length])] 3 λs4 y5 hq5=>?_
 refine ar ?_
 refine sq λK k=>?_
 refine xs (λh7=>?_) λh7=>?_
 refine ca ?_
 refine cT [1,2,11,12] [(5,λb8=>DI b8.2.2),(10,λb8=>.own 1 0 b8.2.1.length)] [] [] [(0,λb8=>aO 1 (b8.1.map uC)),(1,λb8=>aO 3 (b8.2.1.map frC)),(2,λb8=>bO 3 [DI p0.sh,.own 0 0 b8.1.length,.own 1 0 b8.2.1.length])] 3 (λz9=>?_) λb8=>?_
 refine au ?_
 refine xa λv10 hv10=>?_
 refine ar ?_
 refine sq λK k=>?_
 refine ar ?_
 refine xs (λh12=>?_) λh12=>?_
 refine db ?_
 refine ar ?_
 refine goA (Z2 (c:=frC) hv10.h (Fe.mk (-1) (-1) (-1)) i53.ok) ?_
 refine au ?_
 refine xc λh13=>?_
 refine ar ?_
 refine lP [1,2,5,6,11,12] [(8,λs15=>DI s15.2),(10,λs15=>.own 1 0 (s4.2.1.set (Int.toNat s4.2.2.2) (Fe.mk (-1) (-1) (-1))).length)] [1] [] [(0,λs15=>aO 1 (s15.1.map uC)),(2,λs15=>bO 3 [DI p0.sh,.own 0 0 s15.1.length,.own 1 0 (s4.2.1.set (Int.toNat s4.2.2.2) (Fe.mk (-1) (-1) (-1))).length])] 3 λs15 y16 hq16=>?_
 refine sq λK k=>?_
 refine ar ?_
 refine xs (λh18=>?_) λh18=>?_
 refine ca ?_
 refine sq λK k=>?_
 refine au ?_
 refine xa λv20 hv20=>?_
 refine ar ?_
 refine goA (Z2 (c:=uC) hv20.h 0 i62.ok) ?_
 refine au ?_
 refine ar ?_
 exact wJ []
 refine cb ?_
 refine xo hq16 ?_
 exact wJ []
 refine ca ?_
 exact wJ []
 refine ar ?_
 exact wJ []
 refine cb ?_
 refine xo hq5 ?_
 exact wJ []
 refine ar ?_
 exact ft r2
noncomputable def Xl(p0:Rts):Option Bool :=
 if (p0.used.length:Int)=32 then
 (if (p0.refs.length:Int)=32 then
 (bndR (Qi (λ(s7:Int) =>
 if s7 < (p0.used.length:Int) then
 ((at_ p0.used s7).bind λv12 =>
 if v12=true then
 (some (.go (w64 (s7+1))))
 else
 (at_ p0.refs s7).bind λv14 =>
 if v14=0 then
 (some (.go (w64 (s7+1))))
 else
 some (.out (.inr (false))))
 else
 some (.out (.inl (())))) 0) λ(b4:Unit) =>
 some (true))
 else
 some (false))
 else
 some (false)
theorem Qa2{p0 r}:Sm (Xl p0) r->DCall Tryz.prog 209 [.agg [.sl (p0.used.map bC),.sl (p0.refs.map uC)]] [] (DB r) []:=by
 unfold Xl
 refine mk0 Tryz.func209 ?_
 refine ar ?_
 refine sq λK k=>?_
 refine xs (λh2=>?_) λh2=>?_
 refine ar ?_
 refine xs (λh3=>?_) λh3=>?_
 refine cb ?_
 refine cU [] [] [] [] [] 0 (λz5 hr5=>?_) λb4=>?_
 refine ar ?_
 refine lP [16,17] [(1,λs7=>.ptr 0 0 0),(18,λs7=>DI s7)] [0] [] [] 1 λs7 y8 hq8=>?_
 refine ar ?_
 refine sq λK k=>?_
 refine xs (λh10=>?_) λh10=>?_
 refine ca ?_
 refine sq λK k=>?_
 refine au ?_
 refine xa λv12 hv12=>?_
 refine ar ?_
 refine xs (λh13=>?_) λh13=>?_
 refine ar ?_
 refine db ?_
 exact wJ []
 refine xa λv14 hv14=>?_
 refine ar ?_
 refine xs (λh15=>?_) λh15=>?_
 refine db ?_
 exact wJ []
 refine da ?_
 refine xo hq8 ?_
 refine xr hr5 ?_
 exact ft r0
 refine cb ?_
 refine xo hq8 ?_
 exact wJ []
 refine ar ?_
 exact ft r0
 refine da ?_
 exact ft r0
 refine ar ?_
 refine da ?_
 exact ft r0
noncomputable def QV(p0:Hp)(p1:Int):Option (Hp×Ans) :=
 some ((p0,Ans.mk 0 p1))
theorem Qx{p0 p1 r}:Sm (QV p0 p1) r->DCall Tryz.prog 136 [.agg [.lit (.string p0.config.name),.sl (p0.config.rules.map Rul.c),DI p0.config.full,DI p0.space.sh,.sl (p0.space.ws.map uC),.sl (p0.space.fs.map frC),.sl (p0.belts.map (lC Inc.c)),DI p0.seq,.sl (p0.sets.map Qe.c),.sl (p0.roots.used.map bC),.sl (p0.roots.refs.map uC),DI p0.since,DI p0.stats.allocated,DI p0.stats.objects,DI p0.stats.collections,DI p0.stats.steps,DI p0.stats.rounds,DI p0.stats.condemned,DI p0.stats.copied,DI p0.stats.entries,DI p0.stats.work,DB p0.dead],DU p1] [] (.tup [.agg [.lit (.string r.1.config.name),.sl (r.1.config.rules.map Rul.c),DI r.1.config.full,DI r.1.space.sh,.sl (r.1.space.ws.map uC),.sl (r.1.space.fs.map frC),.sl (r.1.belts.map (lC Inc.c)),DI r.1.seq,.sl (r.1.sets.map Qe.c),.sl (r.1.roots.used.map bC),.sl (r.1.roots.refs.map uC),DI r.1.since,DI r.1.stats.allocated,DI r.1.stats.objects,DI r.1.stats.collections,DI r.1.stats.steps,DI r.1.stats.rounds,DI r.1.stats.condemned,DI r.1.stats.copied,DI r.1.stats.entries,DI r.1.stats.work,DB r.1.dead],.agg [DI r.2.err,DU r.2.value]]) []:=by
 unfold QV
 refine mk0 Tryz.func136 ?_
 refine ar ?_
 refine ar ?_
 exact fww r0
noncomputable def X7(p0:List (List Inc)):Option Int :=
 (Qi (λ(s4:Int×Int) =>
 if s4.2 < (p0.length:Int) then
 (((at_ p0 s4.2).bind λv10 =>
 Qi (λ(s12:Int×Int) =>
 if s12.2 < (v10.length:Int) then
 ((at_ v10 s12.2).bind λv17 =>
 some (.go ((w64 (s12.1+v17.words),w64 (s12.2+1)))))
 else
 some (.out (s12.1))) (s4.1,0)).bind λ(b8:Int) =>
 some (.go ((b8,w64 (s4.2+1)))))
 else
 some (.out (s4.1))) (0,0)).bind λ(b1:Int) =>
 some (b1)
theorem Qdy{p0 r}:Sm (X7 p0) r->DCall Tryz.prog 177 [.sl (p0.map (lC Inc.c))] [] (DI r) []:=by
 unfold X7
 refine mk0 Tryz.func177 ?_
 refine ar ?_
 refine ar ?_
 refine cT [] [(3,λb1=>DI b1)] [] [] [] 0 (λz2=>?_) λb1=>?_
 refine ar ?_
 refine lP [8,9] [(3,λs4=>DI s4.1),(10,λs4=>DI s4.2)] [] [] [] 0 λs4 y5 hq5=>?_
 refine ar ?_
 refine sq λK k=>?_
 refine xs (λh7=>?_) λh7=>?_
 refine ca ?_
 refine cT [8,9,10] [(3,λb8=>DI b8)] [] [] [] 0 (λz9=>?_) λb8=>?_
 refine au ?_
 refine xa λv10 hv10=>?_
 refine ar ?_
 refine ar ?_
 refine lP [8,9,10,14,15] [(3,λs12=>DI s12.1),(16,λs12=>DI s12.2)] [] [] [] 0 λs12 y13 hq13=>?_
 refine ar ?_
 refine sq λK k=>?_
 refine xs (λh15=>?_) λh15=>?_
 refine ca ?_
 refine sq λK k=>?_
 refine au ?_
 refine xa λv17 hv17=>?_
 refine ar ?_
 refine ar ?_
 refine ar ?_
 exact wJ []
 refine cb ?_
 refine xo hq13 ?_
 exact wJ []
 refine ar ?_
 exact wJ []
 refine cb ?_
 refine xo hq5 ?_
 exact wJ []
 refine ar ?_
 exact ft r0
noncomputable def Q2(p0:Hp)(p1:Int)(p2:Bool):Option Int :=
 if p1=0 then
 (if p2=true then
 (some (16))
 else
 some (0))
 else
 if p1 < 0 then
 (some (14))
 else
 if 32 < p1 then
 (some (14))
 else
 (at_ p0.roots.used (w64 (p1 - 1))).bind λv6 =>
 if v6=true then
 (some (0))
 else
 some (14)
theorem Xj{p0 p1 p2 r}:Sm (Q2 p0 p1 p2) r->DCall Tryz.prog 138 [.agg [.lit (.string p0.config.name),.sl (p0.config.rules.map Rul.c),DI p0.config.full,DI p0.space.sh,.sl (p0.space.ws.map uC),.sl (p0.space.fs.map frC),.sl (p0.belts.map (lC Inc.c)),DI p0.seq,.sl (p0.sets.map Qe.c),.sl (p0.roots.used.map bC),.sl (p0.roots.refs.map uC),DI p0.since,DI p0.stats.allocated,DI p0.stats.objects,DI p0.stats.collections,DI p0.stats.steps,DI p0.stats.rounds,DI p0.stats.condemned,DI p0.stats.copied,DI p0.stats.entries,DI p0.stats.work,DB p0.dead],DI p1,DB p2] [] (DI r) []:=by
 unfold Q2
 refine mk0 Tryz.func138 ?_
 refine ar ?_
 refine sq λK k=>?_
 refine au ?_
 refine xs (λh2=>?_) λh2=>?_
 refine ar ?_
 refine xs (λh3=>?_) λh3=>?_
 refine da ?_
 exact ft r0
 refine db ?_
 refine da ?_
 exact ft r0
 refine ar ?_
 refine db ?_
 refine cb ?_
 refine xs (λh4=>?_) λh4=>?_
 refine ar ?_
 refine da ?_
 exact ft r0
 refine xs (λh5=>?_) λh5=>?_
 refine ar ?_
 refine da ?_
 exact ft r0
 refine xa λv6 hv6=>?_
 refine ar ?_
 refine xs (λh7=>?_) λh7=>?_
 refine db ?_
 exact ft r0
 refine da ?_
 exact ft r0
noncomputable def Qz(p0:Hp)(p1:Int):Option Int :=
 if p1=0 then
 (some (0))
 else
 (at_ p0.roots.refs (w64 (p1 - 1))).bind λv3 =>
 some (v3)
theorem QO{p0 p1 r}:Sm (Qz p0 p1) r->DCall Tryz.prog 140 [.agg [.lit (.string p0.config.name),.sl (p0.config.rules.map Rul.c),DI p0.config.full,DI p0.space.sh,.sl (p0.space.ws.map uC),.sl (p0.space.fs.map frC),.sl (p0.belts.map (lC Inc.c)),DI p0.seq,.sl (p0.sets.map Qe.c),.sl (p0.roots.used.map bC),.sl (p0.roots.refs.map uC),DI p0.since,DI p0.stats.allocated,DI p0.stats.objects,DI p0.stats.collections,DI p0.stats.steps,DI p0.stats.rounds,DI p0.stats.condemned,DI p0.stats.copied,DI p0.stats.entries,DI p0.stats.work,DB p0.dead],DI p1] [] (DU r) []:=by
 unfold Qz
 refine mk0 Tryz.func140 ?_
 refine ar ?_
 refine sq λK k=>?_
 refine ar ?_
 refine xs (λh2=>?_) λh2=>?_
 refine da ?_
 exact ft r0
 refine cb ?_
 refine xa λv3 hv3=>?_
 refine ar ?_
 exact ft r0
noncomputable def XY(p0:Bool):Option Int :=
 if p0=true then
 (some (1))
 else
 some (0)
theorem Qdq{p0 r}:Sm (XY p0) r->DCall Tryz.prog 139 [DB p0] [] (DU r) []:=by
 unfold XY
 refine mk0 Tryz.func139 ?_
 refine ar ?_
 refine sq λK k=>?_
 refine ar ?_
 refine xs (λh2=>?_) λh2=>?_
 refine da ?_
 exact ft r0
 refine db ?_
 exact ft r0
noncomputable def Jv(p0:Gra):Option Gra :=
 if (p0.used.length:Int) * 1<=140737488355328/\(p0.used.length:Int)<=9223372036854775807 then
 if (p0.roots.length:Int) * 8<=140737488355328/\(p0.roots.length:Int)<=9223372036854775807 then
 (Qi (λ(s7:List Nod×Int) =>
 if s7.2 < (p0.nodes.length:Int) then
 ((at_ p0.nodes s7.2).bind λv12 =>
 if (v12.refs.length:Int) * 8<=140737488355328/\(v12.refs.length:Int)<=9223372036854775807 then
 if (v12.data.length:Int) * 8<=140737488355328/\(v12.data.length:Int)<=9223372036854775807 then
 if ((s7.1.length:Int)+1) * 48<=140737488355328/\(s7.1.length:Int)+1<=9223372036854775807 then
 some (.go ((s7.1++[v12],w64 (s7.2+1))))
 else none
 else none
 else none)
 else
 some (.out (s7.1))) (([]:List Nod),0)).bind λ(b3:List Nod) =>
 some (Gra.mk b3 p0.used p0.roots)
 else none
 else none
theorem QeJ{p0 r}:Sm (Jv p0) r->DCall Tryz.prog 143 [.agg [.sl (p0.nodes.map Nod.c),.sl (p0.used.map bC),.sl (p0.roots.map iC)]] [] (.agg [.own 0 0 r.nodes.length,.own 1 0 r.used.length,.own 2 0 r.roots.length]) [(0,⟨2,false,false,r.nodes.map Nod.d⟩),(1,aO 1 (r.used.map bC)),(2,aO 1 (r.roots.map iC))]:=by
 unfold Jv
 refine mk0 Tryz.func143 ?_
 refine ar ?_
 refine xc λh1=>?_
 refine xc λh2=>?_
 refine ar ?_
 refine goA (Qbi (c:=bC) p0.used h1 i32.ok i4.ok rfl (.sl rfl (Qf (c:=bC) (λ_=>rfl) _))) ?_
 refine au ?_
 refine goA (Qbi (c:=iC) p0.roots h2 i22.ok i3.ok rfl (.sl rfl (Qf (c:=iC) (λ_=>rfl) _))) ?_
 refine au ?_
 refine cT [] [(2,λb3=>.ptr 1 0 0),(3,λb3=>.ptr 4 0 0)] [1,2,3] [] [(4,λb3=>bO 3 [.own 5 0 b3.length,.own 2 0 p0.used.length,.own 3 0 p0.roots.length]),(5,λb3=>⟨2,false,false,b3.map Nod.d⟩)] 6 (λz4=>?_) λb3=>?_
 refine ar ?_
 refine xx (Qg 4 0 2 Od rfl rfl) ?_
 refine xx (Qt (Qcp (cd:=Nod.d) (s:=5) rfl)) ?_
 refine lP [14,15] [(2,λs7=>.ptr 1 0 0),(3,λs7=>.ptr 4 0 0),(16,λs7=>DI s7.2)] [1,2,3] [] [(4,λs7=>bO 3 [.own 5 0 s7.1.length,.own 2 0 p0.used.length,.own 3 0 p0.roots.length]),(5,λs7=>⟨2,false,false,s7.1.map Nod.d⟩)] 6 λs7 y8 hq8=>?_
 refine ar ?_
 refine sq λK k=>?_
 refine xs (λh10=>?_) λh10=>?_
 refine ca ?_
 refine sq λK k=>?_
 refine au ?_
 refine xa λv12 hv12=>?_
 refine ar ?_
 refine xc λh13=>?_
 refine xc λh14=>?_
 refine xc λh15=>?_
 refine ar ?_
 refine goA (Qbi (c:=iC) v12.refs h13 i22.ok i3.ok rfl (.sl rfl (Qf (c:=iC) (λ_=>rfl) _))) ?_
 refine au ?_
 refine goA (Qbi (c:=uC) v12.data h14 i26.ok i62.ok rfl (.sl rfl (Qf (c:=uC) (λ_=>rfl) _))) ?_
 refine au ?_
 refine goA (m_litD [[.own 7 0 v12.refs.length,.own 8 0 v12.data.length]] i39.ok i212.ok) ?_
 refine goA (m_apD (cd:=Nod.d) s7.1 v12 [.own 7 0 v12.refs.length,.own 8 0 v12.data.length] h15 i39.ok i212.ok rfl rfl (by first | rfl | omega | (simp;done) | (simp;omega)) rfl rfl rfl) ?_
 refine au ?_
 refine ar ?_
 intro H;have e:=se H;subst e;exact ⟨_,rfl,ZJ.trans (attL (s:=10) (t:=7) (j:=0) (c:=iC) [.dp 1 (v12.refs.map iC),.own 8 0 v12.data.length] rfl rfl rfl rfl rfl rfl) (ZJ.trans (attL (s:=10) (t:=8) (j:=1) (c:=uC) [.dp 1 (v12.refs.map iC),.dp 1 (v12.data.map uC)] rfl rfl rfl rfl rfl rfl) (ZJ.trans (tellL (s:=10) v12 rfl rfl) (wkJ [(5,10)])))⟩
 refine cb ?_
 refine xo hq8 ?_
 exact wJ []
 refine ar ?_
 exact fw [(0,5),(1,2),(2,3)]
noncomputable def Qs(p0:Gra)(p1:Int):Option (Gra×Ans) :=
 some ((p0,Ans.mk p1 0))
theorem Qo{p0 p1 r}:Sm (Qs p0 p1) r->DCall Tryz.prog 144 [.agg [.sl (p0.nodes.map Nod.c),.sl (p0.used.map bC),.sl (p0.roots.map iC)],DI p1] [] (.tup [.agg [.sl (r.1.nodes.map Nod.c),.sl (r.1.used.map bC),.sl (r.1.roots.map iC)],.agg [DI r.2.err,DU r.2.value]]) []:=by
 unfold Qs
 refine mk0 Tryz.func144 ?_
 refine ar ?_
 refine ar ?_
 exact fww r0
noncomputable def XF(p0:Gra):Option Int :=
 bndR (Qi (λ(s4:Int) =>
 if s4 < (p0.used.length:Int) then
 ((at_ p0.used s4).bind λv9 =>
 if v9=true then
 (some (.go (w64 (s4+1))))
 else
 some (.out (.inr (w64 (s4+1)))))
 else
 some (.out (.inl (())))) 0) λ(b1:Unit) =>
 some (0)
theorem Qbt{p0 r}:Sm (XF p0) r->DCall Tryz.prog 145 [.agg [.sl (p0.nodes.map Nod.c),.sl (p0.used.map bC),.sl (p0.roots.map iC)]] [] (DI r) []:=by
 unfold XF
 refine mk0 Tryz.func145 ?_
 refine ar ?_
 refine cU [] [] [] [] [] 0 (λz2 hr2=>?_) λb1=>?_
 refine ar ?_
 refine lP [6,7] [(8,λs4=>DI s4)] [] [] [] 0 λs4 y5 hq5=>?_
 refine ar ?_
 refine sq λK k=>?_
 refine xs (λh7=>?_) λh7=>?_
 refine ca ?_
 refine sq λK k=>?_
 refine au ?_
 refine xa λv9 hv9=>?_
 refine ar ?_
 refine ar ?_
 refine xs (λh10=>?_) λh10=>?_
 refine db ?_
 exact wJ []
 refine da ?_
 refine xo hq5 ?_
 refine xr hr2 ?_
 exact ft r0
 refine cb ?_
 refine xo hq5 ?_
 exact wJ []
 refine ar ?_
 exact ft r0
noncomputable def XX(p0:Gra):Option (List Int) :=
 if 0<=(p0.nodes.length:Int)/\(p0.nodes.length:Int) * 1<=281474976710656/\(p0.nodes.length:Int)<=9223372036854775807 then
 (Qi (λ(s5:List Bool×Int) =>
 if s5.2 < (p0.used.length:Int) then
 ((at_ p0.used s5.2).bind λv10 =>
 if v10=true then
 ((at_ p0.roots s5.2).bind λv12 =>
 (at_ s5.1 v12).bind λv13 =>
 some (.go ((s5.1.set (Int.toNat v12) true,w64 (s5.2+1)))))
 else
 some (.go ((s5.1,w64 (s5.2+1)))))
 else
 some (.out (s5.1))) (List.replicate (Int.toNat (p0.nodes.length:Int)) false,0)).bind λ(b2:List Bool) =>
 (Qi (λ(s17:List Bool×Bool) =>
 if s17.2=true then
 (Qi (λ(s22:List Bool×Bool×Int) =>
 if s22.2.2 < (p0.nodes.length:Int) then
 (((at_ p0.nodes s22.2.2).bind λv28 =>
 Qi (λ(s30:List Bool×Bool×Int) =>
 if s30.2.2 < (v28.refs.length:Int) then
 ((at_ v28.refs s30.2.2).bind λv35 =>
 (at_ s30.1 s22.2.2).bind λv36 =>
 if v36=true then
 (if 0<=v35 then
 ((at_ s30.1 v35).bind λv39 =>
 if v39=true then
 (some (.go ((s30.1,s30.2.1,w64 (s30.2.2+1)))))
 else
 some (.go ((s30.1.set (Int.toNat v35) true,true,w64 (s30.2.2+1)))))
 else
 some (.go ((s30.1,s30.2.1,w64 (s30.2.2+1)))))
 else
 some (.go ((s30.1,s30.2.1,w64 (s30.2.2+1)))))
 else
 some (.out ((s30.1,s30.2.1)))) (s22.1,s22.2.1,0)).bind λ(b26:List Bool×Bool) =>
 some (.go ((b26.1,b26.2,w64 (s22.2.2+1)))))
 else
 some (.out (.go ((s22.1,s22.2.1))))) (s17.1,false,0))
 else
 some (.out (s17.1))) (b2,true)).bind λ(b14:List Bool) =>
 (Qi (λ(s45:List Int×Int) =>
 if s45.2 < (b14.length:Int) then
 ((at_ b14 s45.2).bind λv50 =>
 if v50=true then
 (if ((s45.1.length:Int)+[s45.2].length) * 8<=140737488355328/\(s45.1.length:Int)+[s45.2].length<=9223372036854775807 then
 some (.go ((s45.1++[s45.2],w64 (s45.2+1))))
 else none)
 else
 some (.go ((s45.1,w64 (s45.2+1)))))
 else
 some (.out (s45.1))) (([]:List Int),0)).bind λ(b41:List Int) =>
 some (b41)
 else none
theorem Qdp{p0 r}:Sm (XX p0) r->DCall Tryz.prog 182 [.agg [.sl (p0.nodes.map Nod.c),.sl (p0.used.map bC),.sl (p0.roots.map iC)]] [] (.own 0 0 r.length) [(0,aO 1 (r.map iC))]:=by
 unfold XX
 refine mk0 Tryz.func182 ?_
 refine ar ?_
 refine xc λh1=>?_
 refine ar ?_
 refine goA (Qeh (c:=bC) false h1 i32.ok i4.ok) ?_
 refine au ?_
 refine cT [] [(1,λb2=>.ptr 0 0 0),(3,λb2=>.own 1 0 b2.length)] [0] [] [(1,λb2=>aO 1 (b2.map bC))] 2 (λz3=>?_) λb2=>?_
 refine ar ?_
 refine lP [19,20] [(1,λs5=>.ptr 0 0 0),(3,λs5=>.own 1 0 s5.1.length),(21,λs5=>DI s5.2)] [0] [] [(1,λs5=>aO 1 (s5.1.map bC))] 2 λs5 y6 hq6=>?_
 refine ar ?_
 refine sq λK k=>?_
 refine xs (λh8=>?_) λh8=>?_
 refine ca ?_
 refine sq λK k=>?_
 refine au ?_
 refine xa λv10 hv10=>?_
 refine ar ?_
 refine ar ?_
 refine xs (λh11=>?_) λh11=>?_
 refine ca ?_
 refine xa λv12 hv12=>?_
 refine xa λv13 hv13=>?_
 refine ar ?_
 refine goA (Z2 (c:=bC) hv13.h true i4.ok) ?_
 refine au ?_
 refine ar ?_
 exact wJ []
 refine db ?_
 exact wJ []
 refine cb ?_
 refine xo hq6 ?_
 exact wJ []
 refine cT [] [(3,λb14=>.own 1 0 b14.length)] [] [] [(1,λb14=>aO 1 (b14.map bC))] 2 (λz15=>?_) λb14=>?_
 refine ar ?_
 refine lP [1] [(3,λs17=>.own 1 0 s17.1.length),(6,λs17=>DB s17.2)] [0] [] [(1,λs17=>aO 1 (s17.1.map bC))] 2 λs17 y18 hq18=>?_
 refine sq λK k=>?_
 refine ar ?_
 refine xs (λh20=>?_) λh20=>?_
 refine da ?_
 refine ar ?_
 refine lP [1,37,38] [(3,λs22=>.own 1 0 s22.1.length),(6,λs22=>DB s22.2.1),(39,λs22=>DI s22.2.2)] [0] [] [(1,λs22=>aO 1 (s22.1.map bC))] 2 λs22 y23 hq23=>?_
 refine ar ?_
 refine sq λK k=>?_
 refine xs (λh25=>?_) λh25=>?_
 refine ca ?_
 refine cT [1,37,38,39] [(3,λb26=>.own 1 0 b26.1.length),(6,λb26=>DB b26.2)] [0] [] [(1,λb26=>aO 1 (b26.1.map bC))] 2 (λz27=>?_) λb26=>?_
 refine au ?_
 refine xa λv28 hv28=>?_
 refine ar ?_
 refine ar ?_
 refine lP [1,7,37,38,39,45,46] [(3,λs30=>.own 1 0 s30.1.length),(6,λs30=>DB s30.2.1),(47,λs30=>DI s30.2.2)] [0] [] [(1,λs30=>aO 1 (s30.1.map bC))] 2 λs30 y31 hq31=>?_
 refine ar ?_
 refine sq λK k=>?_
 refine xs (λh33=>?_) λh33=>?_
 refine ca ?_
 refine sq λK k=>?_
 refine au ?_
 refine xa λv35 hv35=>?_
 refine ar ?_
 refine xa λv36 hv36=>?_
 refine xs (λh37=>?_) λh37=>?_
 refine xs (λh38=>?_) λh38=>?_
 refine xa λv39 hv39=>?_
 refine ar ?_
 refine xs (λh40=>?_) λh40=>?_
 refine db ?_
 exact wJ []
 refine da ?_
 refine goA (Z2 (c:=bC) hv39.h true i4.ok) ?_
 refine au ?_
 refine ar ?_
 exact wJ []
 refine ar ?_
 refine db ?_
 exact wJ []
 refine ar ?_
 refine db ?_
 exact wJ []
 refine cb ?_
 refine xo hq31 ?_
 exact wJ []
 refine ar ?_
 exact wJ []
 refine cb ?_
 refine xo hq23 ?_
 exact wJ []
 refine cb ?_
 refine xo hq18 ?_
 exact wJ []
 refine ar ?_
 refine cT [] [(11,λb41=>.own 2 0 b41.length)] [] [] [(2,λb41=>aO 1 (b41.map iC))] 3 (λz42=>?_) λb41=>?_
 refine ar ?_
 refine xx (QU 11 1 Od rfl) ?_
 refine lP [72] [(11,λs45=>.own 2 0 s45.1.length),(71,λs45=>.own 1 0 b14.length),(73,λs45=>DI s45.2)] [1] [] [(2,λs45=>aO 1 (s45.1.map iC))] 3 λs45 y46 hq46=>?_
 refine ar ?_
 refine sq λK k=>?_
 refine xs (λh48=>?_) λh48=>?_
 refine ca ?_
 refine sq λK k=>?_
 refine au ?_
 refine xa λv50 hv50=>?_
 refine ar ?_
 refine ar ?_
 refine xs (λh51=>?_) λh51=>?_
 refine ca ?_
 refine xc λh52=>?_
 refine ar ?_
 refine goA (Qk (c:=iC) ([s45.2]:List Int) i22.ok i3.ok) ?_
 refine goA (QT (c:=iC) s45.1 [s45.2] h52 i22.ok i3.ok rfl rfl (.own rfl rfl Os (Qf (c:=iC) (λ_=>rfl) _)) rfl) ?_
 refine au ?_
 refine ar ?_
 exact wJ [(2,4)]
 refine db ?_
 exact wJ []
 refine cb ?_
 refine xo hq46 ?_
 exact wJ []
 refine ar ?_
 exact ft [(0,2)]
noncomputable def Q1(p0:Gra)(p1:Int)(p2:Bool):Option Int :=
 if p1=0 then
 (if p2=true then
 (some (16))
 else
 some (0))
 else
 if p1 < 0 then
 (some (14))
 else
 if 32 < p1 then
 (some (14))
 else
 (at_ p0.used (w64 (p1 - 1))).bind λv6 =>
 if v6=true then
 (some (0))
 else
 some (14)
theorem Xi{p0 p1 p2 r}:Sm (Q1 p0 p1 p2) r->DCall Tryz.prog 147 [.agg [.sl (p0.nodes.map Nod.c),.sl (p0.used.map bC),.sl (p0.roots.map iC)],DI p1,DB p2] [] (DI r) []:=by
 unfold Q1
 refine mk0 Tryz.func147 ?_
 refine ar ?_
 refine sq λK k=>?_
 refine au ?_
 refine xs (λh2=>?_) λh2=>?_
 refine ar ?_
 refine xs (λh3=>?_) λh3=>?_
 refine da ?_
 exact ft r0
 refine db ?_
 refine da ?_
 exact ft r0
 refine ar ?_
 refine db ?_
 refine cb ?_
 refine xs (λh4=>?_) λh4=>?_
 refine ar ?_
 refine da ?_
 exact ft r0
 refine xs (λh5=>?_) λh5=>?_
 refine ar ?_
 refine da ?_
 exact ft r0
 refine xa λv6 hv6=>?_
 refine ar ?_
 refine xs (λh7=>?_) λh7=>?_
 refine db ?_
 exact ft r0
 refine da ?_
 exact ft r0
noncomputable def Q0(p0:Gra)(p1:Int):Option Int :=
 if p1=0 then
 (some ((-1)))
 else
 (at_ p0.roots (w64 (p1 - 1))).bind λv3 =>
 some (v3)
theorem Zs{p0 p1 r}:Sm (Q0 p0 p1) r->DCall Tryz.prog 148 [.agg [.sl (p0.nodes.map Nod.c),.sl (p0.used.map bC),.sl (p0.roots.map iC)],DI p1] [] (DI r) []:=by
 unfold Q0
 refine mk0 Tryz.func148 ?_
 refine ar ?_
 refine sq λK k=>?_
 refine ar ?_
 refine xs (λh2=>?_) λh2=>?_
 refine da ?_
 exact ft r0
 refine cb ?_
 refine xa λv3 hv3=>?_
 refine ar ?_
 exact ft r0
noncomputable def XE(p0:Sp)(p1:List Inc):Option Int :=
 (Qi (λ(s4:Int×Int) =>
 if s4.2 < (p0.fs.length:Int) then
 (((at_ p0.fs s4.2).bind λv10 =>
 Qi (λ(s12:Int×Int) =>
 if s12.2 < (p1.length:Int) then
 ((at_ p1 s12.2).bind λv17 =>
 if v10.ow=v17.seq then
 (if s4.2 < 64 then
 (if 0<=wu s4.2 then
 some (.go ((bits .or .u64 s12.1 (Qcq .u64 1 (wu s4.2)),w64 (s12.2+1))))
 else none)
 else
 some (.go ((s12.1,w64 (s12.2+1)))))
 else
 some (.go ((s12.1,w64 (s12.2+1)))))
 else
 some (.out (s12.1))) (s4.1,0)).bind λ(b8:Int) =>
 some (.go ((b8,w64 (s4.2+1)))))
 else
 some (.out (s4.1))) (0,0)).bind λ(b1:Int) =>
 some (b1)
theorem QaV{p0 p1 r}:Sm (XE p0 p1) r->DCall Tryz.prog 46 [.agg [DI p0.sh,.sl (p0.ws.map uC),.sl (p0.fs.map frC)],.sl (p1.map Inc.c)] [] (DU r) []:=by
 unfold XE
 refine mk0 Tryz.func46 ?_
 refine ar ?_
 refine ar ?_
 refine cT [] [(5,λb1=>DU b1)] [] [] [] 0 (λz2=>?_) λb1=>?_
 refine ar ?_
 refine lP [1,11,12] [(5,λs4=>DU s4.1),(13,λs4=>DI s4.2)] [] [] [] 0 λs4 y5 hq5=>?_
 refine ar ?_
 refine sq λK k=>?_
 refine xs (λh7=>?_) λh7=>?_
 refine ca ?_
 refine cT [1,11,12,13] [(5,λb8=>DU b8)] [] [] [] 0 (λz9=>?_) λb8=>?_
 refine au ?_
 refine xa λv10 hv10=>?_
 refine ar ?_
 refine ar ?_
 refine lP [1,6,11,12,13,18,19] [(5,λs12=>DU s12.1),(7,λs12=>.ptr 0 0 0),(20,λs12=>DI s12.2)] [0] [] [] 1 λs12 y13 hq13=>?_
 refine ar ?_
 refine sq λK k=>?_
 refine xs (λh15=>?_) λh15=>?_
 refine ca ?_
 refine sq λK k=>?_
 refine au ?_
 refine xa λv17 hv17=>?_
 refine ar ?_
 refine xs (λh18=>?_) λh18=>?_
 refine ar ?_
 refine xs (λh19=>?_) λh19=>?_
 refine ca ?_
 refine xc λh20=>?_
 refine ar ?_
 refine ar ?_
 exact wJ []
 refine db ?_
 exact wJ []
 refine ar ?_
 refine db ?_
 exact wJ []
 refine cb ?_
 refine xo hq13 ?_
 exact wJ []
 refine ar ?_
 exact wJ []
 refine cb ?_
 refine xo hq5 ?_
 exact wJ []
 refine ar ?_
 exact ft r0
noncomputable def QL(p0:Int):Option Int :=
 if p0=0 then
 (some (64))
 else
 (at_ tabL (Qb2 .u64 (wu ((bits .and .u64 p0 (wu (0 - p0))) * 285870213051353865)) 58)).bind λv3 =>
 some (w64 v3)
theorem Qam{p0 r}:Sm (QL p0) r->DCall Tryz.prog 47 [DU p0] [] (DI r) []:=by
 unfold QL
 refine mk0 Tryz.func47 ?_
 refine ar ?_
 refine sq λK k=>?_
 refine ar ?_
 refine xs (λh2=>?_) λh2=>?_
 refine da ?_
 exact ft r0
 refine cb ?_
 refine xa λv3 hv3=>?_
 refine ar ?_
 refine goA (m_iaG hv3 i159.ok i5.ok) ?_
 refine au ?_
 exact ft r0
noncomputable def Xg(p0:Sp)(p1:Int)(p2:Int):Option Bool :=
 if p2=0 then
 (some (false))
 else
 if p2<=(wu (p0.ws.length:Int)) then
 (if 0<=wu p0.sh then
 if 0<=Qb2 .i64 (w64 (wu (p2 - 1))) (wu p0.sh) then
 some (decide ((bits .and .u64 (Qb2 .u64 p1 (Qb2 .i64 (w64 (wu (p2 - 1))) (wu p0.sh))) 1)=1))
 else none
 else none)
 else
 some (false)
theorem QaZ{p0 p1 p2 r}:Sm (Xg p0 p1 p2) r->DCall Tryz.prog 48 [.agg [DI p0.sh,.sl (p0.ws.map uC),.sl (p0.fs.map frC)],DU p1,DU p2] [] (DB r) []:=by
 unfold Xg
 refine mk0 Tryz.func48 ?_
 refine ar ?_
 refine xs (λh1=>?_) λh1=>?_
 refine ar ?_
 exact ft r0
 refine xs (λh2=>?_) λh2=>?_
 refine xc λh3=>?_
 refine xc λh4=>?_
 refine ar ?_
 exact ft r0
 refine ar ?_
 exact ft r0
noncomputable def Qb(p0:Qc)(p1:Int):Option (Int×Qc) :=
 if (p0.l.length:Int)<=p0.pos then
 (some ((0,p0)))
 else
 (at_ p0.l (w64 ((w64 (p0.pos+1)) - 1))).bind λv3 =>
 (QaD v3 p1).bind λv4 =>
 some ((v4,Qc.mk p0.l (w64 (p0.pos+1))))
theorem Qa{p0 p1 r}:Sm (Qb p0 p1) r->DCall Tryz.prog 55 [.ptr 0 0 0,DI p1] [(0,bO 2 [.sl (p0.l.map iC),DI p0.pos])] (DI r.1) [(0,bO 2 [.sl (r.2.l.map iC),DI r.2.pos])]:=by
 unfold Qb
 refine mk0 Tryz.func55 ?_
 refine ar ?_
 refine sq λK k=>?_
 refine ar ?_
 refine xs (λh2=>?_) λh2=>?_
 refine da ?_
 exact ft r1
 refine db ?_
 refine xa λv3 hv3=>?_
 refine xd λv4 hv4=>?_
 have q0:=cS r0 (F_make_Mod_ok hv4)
 refine ar ?_
 exact ft r1
noncomputable def JY(p0:ByteArray)(p1:Int):Option (Cfg×Int) :=
 (Zc p1).bind λv1 =>
 if v1.2=0 then
 (if (p0.toList == (ByteArray.mk #[115,101,109,105,115,112,97,99,101]).toList)=true then
 (if p1 < 1 then
 (some ((Cfg.mk ⟨#[]⟩ ([]:List Rul) 0,6)))
 else
 some ((Cfg.mk p0 [Rul.mk 0 0 0 0] 1,0)))
 else
 if (p0.toList == (ByteArray.mk #[97,112,112,101,108]).toList)=true then
 (if p1 < 1 then
 (some ((Cfg.mk ⟨#[]⟩ ([]:List Rul) 0,6)))
 else
 some ((Cfg.mk p0 [Rul.mk 0 0 0 1,Rul.mk 0 0 0 1] 8,0)))
 else
 if (p0.toList == (ByteArray.mk #[102,105,120,101,100]).toList)=true then
 (if p1 < 1 then
 (some ((Cfg.mk ⟨#[]⟩ ([]:List Rul) 0,6)))
 else
 some ((Cfg.mk p0 [Rul.mk v1.1 1 0 1,Rul.mk 0 0 0 1] 8,0)))
 else
 if (p0.toList == (ByteArray.mk #[111,108,100,101,114,45,102,105,114,115,116]).toList)=true then
 (if p1 < 1 then
 (some ((Cfg.mk ⟨#[]⟩ ([]:List Rul) 0,6)))
 else
 some ((Cfg.mk p0 [Rul.mk v1.1 0 1 0] 0,0)))
 else
 if (p0.toList == (ByteArray.mk #[120,120]).toList)=true then
 (if p1 < 1 then
 (some ((Cfg.mk ⟨#[]⟩ ([]:List Rul) 0,6)))
 else
 some ((Cfg.mk p0 [Rul.mk v1.1 0 1 1,Rul.mk v1.1 0 1 1] 0,0)))
 else
 if (p0.toList == (ByteArray.mk #[120,120,49,48,48]).toList)=true then
 (if p1 < 1 then
 (some ((Cfg.mk ⟨#[]⟩ ([]:List Rul) 0,6)))
 else
 some ((Cfg.mk p0 [Rul.mk v1.1 0 1 1,Rul.mk v1.1 0 1 2,Rul.mk 0 0 0 2] 8,0)))
 else
 some ((Cfg.mk ⟨#[]⟩ ([]:List Rul) 0,7)))
 else
 if (p0.toList == (ByteArray.mk #[115,101,109,105,115,112,97,99,101]).toList)=true then
 (some ((Cfg.mk ⟨#[]⟩ ([]:List Rul) 0,6)))
 else
 if (p0.toList == (ByteArray.mk #[97,112,112,101,108]).toList)=true then
 (some ((Cfg.mk ⟨#[]⟩ ([]:List Rul) 0,6)))
 else
 if (p0.toList == (ByteArray.mk #[102,105,120,101,100]).toList)=true then
 (some ((Cfg.mk ⟨#[]⟩ ([]:List Rul) 0,6)))
 else
 if (p0.toList == (ByteArray.mk #[111,108,100,101,114,45,102,105,114,115,116]).toList)=true then
 (some ((Cfg.mk ⟨#[]⟩ ([]:List Rul) 0,6)))
 else
 if (p0.toList == (ByteArray.mk #[120,120]).toList)=true then
 (some ((Cfg.mk ⟨#[]⟩ ([]:List Rul) 0,6)))
 else
 if (p0.toList == (ByteArray.mk #[120,120,49,48,48]).toList)=true then
 (some ((Cfg.mk ⟨#[]⟩ ([]:List Rul) 0,6)))
 else
 some ((Cfg.mk ⟨#[]⟩ ([]:List Rul) 0,7))
theorem F_ref14_Get_ok{p0 p1 r}:Sm (JY p0 p1) r->DCall Tryz.prog 90 [.lit (.string p0),DI p1] [] (.tup [.agg [.lit (.string r.1.name),.own 0 0 r.1.rules.length,DI r.1.full],DI r.2]) [(0,aO 4 (r.1.rules.map Rul.c))]:=by
 unfold JY
 refine mk0 Tryz.func90 ?_
 refine ar ?_
 refine xd λv1 hv1=>?_
 have q0:=cS r0 (Qaf hv1)
 refine ar ?_
 refine xs (λh2=>?_) λh2=>?_
 refine ar ?_
 refine ar ?_
 refine sq λK k=>?_
 refine ar ?_
 refine ar ?_
 refine goA (Qdn) ?_
 refine au ?_
 refine xs (λh4=>?_) λh4=>?_
 refine da ?_
 refine goA (Qk (c:=Rul.c) ([Rul.mk 0 0 0 0]:List Rul) i23.ok J5.ok) ?_
 refine au ?_
 refine sq λK k=>?_
 refine ar ?_
 refine xs (λh6=>?_) λh6=>?_
 refine da ?_
 refine xx (Qg 0 1 4 Od rfl rfl) ?_
 exact fwt [(0,3)]
 refine db ?_
 exact fwt [(0,2)]
 refine db ?_
 refine goA (Qdn) ?_
 refine au ?_
 refine xs (λh7=>?_) λh7=>?_
 refine da ?_
 refine goA (Qk (c:=Rul.c) ([Rul.mk 0 0 0 1,Rul.mk 0 0 0 1]:List Rul) i23.ok J5.ok) ?_
 refine au ?_
 refine sq λK k=>?_
 refine ar ?_
 refine xs (λh9=>?_) λh9=>?_
 refine da ?_
 refine xx (Qg 0 1 4 Od rfl rfl) ?_
 exact fwt [(0,3)]
 refine db ?_
 exact fwt [(0,2)]
 refine db ?_
 refine goA (Qdn) ?_
 refine au ?_
 refine xs (λh10=>?_) λh10=>?_
 refine da ?_
 refine goA (Qk (c:=Rul.c) ([Rul.mk v1.1 1 0 1,Rul.mk 0 0 0 1]:List Rul) i23.ok J5.ok) ?_
 refine au ?_
 refine sq λK k=>?_
 refine ar ?_
 refine xs (λh12=>?_) λh12=>?_
 refine da ?_
 refine xx (Qg 0 1 4 Od rfl rfl) ?_
 exact fwt [(0,3)]
 refine db ?_
 exact fwt [(0,2)]
 refine db ?_
 refine goA (Qdn) ?_
 refine au ?_
 refine xs (λh13=>?_) λh13=>?_
 refine da ?_
 refine goA (Qk (c:=Rul.c) ([Rul.mk v1.1 0 1 0]:List Rul) i23.ok J5.ok) ?_
 refine au ?_
 refine sq λK k=>?_
 refine ar ?_
 refine xs (λh15=>?_) λh15=>?_
 refine da ?_
 refine xx (Qg 0 1 4 Od rfl rfl) ?_
 exact fwt [(0,3)]
 refine db ?_
 exact fwt [(0,2)]
 refine db ?_
 refine goA (Qdn) ?_
 refine au ?_
 refine xs (λh16=>?_) λh16=>?_
 refine da ?_
 refine goA (Qk (c:=Rul.c) ([Rul.mk v1.1 0 1 1,Rul.mk v1.1 0 1 1]:List Rul) i23.ok J5.ok) ?_
 refine au ?_
 refine sq λK k=>?_
 refine ar ?_
 refine xs (λh18=>?_) λh18=>?_
 refine da ?_
 refine xx (Qg 0 1 4 Od rfl rfl) ?_
 exact fwt [(0,3)]
 refine db ?_
 exact fwt [(0,2)]
 refine db ?_
 refine goA (Qdn) ?_
 refine au ?_
 refine xs (λh19=>?_) λh19=>?_
 refine da ?_
 refine goA (Qk (c:=Rul.c) ([Rul.mk v1.1 0 1 1,Rul.mk v1.1 0 1 2,Rul.mk 0 0 0 2]:List Rul) i23.ok J5.ok) ?_
 refine au ?_
 refine sq λK k=>?_
 refine ar ?_
 refine xs (λh21=>?_) λh21=>?_
 refine da ?_
 refine xx (Qg 0 1 4 Od rfl rfl) ?_
 exact fwt [(0,3)]
 refine db ?_
 exact fwt [(0,2)]
 refine db ?_
 refine xx (Qg 0 1 4 Od rfl rfl) ?_
 exact fwt [(0,2)]
 refine ar ?_
 refine ar ?_
 refine sq λK k=>?_
 refine ar ?_
 refine ar ?_
 refine goA (Qdn) ?_
 refine au ?_
 refine xs (λh23=>?_) λh23=>?_
 refine da ?_
 refine goA (Qk (c:=Rul.c) ([Rul.mk 0 0 0 0]:List Rul) i23.ok J5.ok) ?_
 refine au ?_
 refine sq λK k=>?_
 refine ar ?_
 refine da ?_
 refine xx (Qg 0 1 4 Od rfl rfl) ?_
 exact fwt [(0,3)]
 refine db ?_
 refine goA (Qdn) ?_
 refine au ?_
 refine xs (λh25=>?_) λh25=>?_
 refine da ?_
 refine goA (Qk (c:=Rul.c) ([Rul.mk 0 0 0 1,Rul.mk 0 0 0 1]:List Rul) i23.ok J5.ok) ?_
 refine au ?_
 refine sq λK k=>?_
 refine ar ?_
 refine da ?_
 refine xx (Qg 0 1 4 Od rfl rfl) ?_
 exact fwt [(0,3)]
 refine db ?_
 refine goA (Qdn) ?_
 refine au ?_
 refine xs (λh27=>?_) λh27=>?_
 refine da ?_
 refine goA (Qk (c:=Rul.c) ([Rul.mk v1.1 1 0 1,Rul.mk 0 0 0 1]:List Rul) i23.ok J5.ok) ?_
 refine au ?_
 refine sq λK k=>?_
 refine ar ?_
 refine da ?_
 refine xx (Qg 0 1 4 Od rfl rfl) ?_
 exact fwt [(0,3)]
 refine db ?_
 refine goA (Qdn) ?_
 refine au ?_
 refine xs (λh29=>?_) λh29=>?_
 refine da ?_
 refine goA (Qk (c:=Rul.c) ([Rul.mk v1.1 0 1 0]:List Rul) i23.ok J5.ok) ?_
 refine au ?_
 refine sq λK k=>?_
 refine ar ?_
 refine da ?_
 refine xx (Qg 0 1 4 Od rfl rfl) ?_
 exact fwt [(0,3)]
 refine db ?_
 refine goA (Qdn) ?_
 refine au ?_
 refine xs (λh31=>?_) λh31=>?_
 refine da ?_
 refine goA (Qk (c:=Rul.c) ([Rul.mk v1.1 0 1 1,Rul.mk v1.1 0 1 1]:List Rul) i23.ok J5.ok) ?_
 refine au ?_
 refine sq λK k=>?_
 refine ar ?_
 refine da ?_
 refine xx (Qg 0 1 4 Od rfl rfl) ?_
 exact fwt [(0,3)]
 refine db ?_
 refine goA (Qdn) ?_
 refine au ?_
 refine xs (λh33=>?_) λh33=>?_
 refine da ?_
 refine goA (Qk (c:=Rul.c) ([Rul.mk v1.1 0 1 1,Rul.mk v1.1 0 1 2,Rul.mk 0 0 0 2]:List Rul) i23.ok J5.ok) ?_
 refine au ?_
 refine sq λK k=>?_
 refine ar ?_
 refine da ?_
 refine xx (Qg 0 1 4 Od rfl rfl) ?_
 exact fwt [(0,3)]
 refine db ?_
 refine xx (Qg 0 1 4 Od rfl rfl) ?_
 exact fwt [(0,2)]
noncomputable def Zk(p0:Cfg):Option Int :=
 (Zj p0.name).bind λv2 =>
 if v2=true then
 (if (p0.rules.length:Int) < 1 then
 (some (8))
 else
 if 4 < (p0.rules.length:Int) then
 (some (8))
 else
 bndR (Qi (λ(s10:List Bool×Int) =>
 if s10.2 < (p0.rules.length:Int) then
 ((at_ p0.rules s10.2).bind λv15 =>
 (Xn v15.share).bind λv17 =>
 if v17=true then
 (if v15.limit < 0 then
 (some (.out (.inr (9))))
 else
 if 64 < v15.limit then
 (some (.out (.inr (9))))
 else
 if v15.batch < 0 then
 (some (.out (.inr (9))))
 else
 if 64 < v15.batch then
 (some (.out (.inr (9))))
 else
 if s10.2=(w64 ((p0.rules.length:Int) - 1)) then
 (if v15.limit=0 then
 (if v15.target=s10.2 then
 (some (.go ((s10.1,w64 (s10.2+1)))))
 else
 some (.out (.inr (10))))
 else
 some (.out (.inr (9))))
 else
 if v15.target<=s10.2 then
 (some (.out (.inr (10))))
 else
 if (p0.rules.length:Int)<=v15.target then
 (some (.out (.inr (10))))
 else
 if v15.target < 4 then
 (at_ s10.1 v15.target).bind λv29 =>
 some (.go ((s10.1.set (Int.toNat v15.target) true,w64 (s10.2+1))))
 else none)
 else
 some (.out (.inr (6))))
 else
 some (.out (.inl (s10.1)))) ([true,false,false,false],0)) λ(b7:List Bool) =>
 bndR (Qi (λ(s33:Int) =>
 if s33 < (p0.rules.length:Int) then
 (if s33 < 4 then
 (at_ b7 s33).bind λv39 =>
 if v39=true then
 (some (.go (w64 (s33+1))))
 else
 some (.out (.inr (10)))
 else none)
 else
 some (.out (.inl (())))) 0) λ(b30:Unit) =>
 (at_ p0.rules (w64 ((p0.rules.length:Int) - 1))).bind λv42 =>
 if (Qez .eql v42.share 0)=true then
 (if p0.full < 1 then
 (some (9))
 else
 if 64 < p0.full then
 (some (9))
 else
 some (0))
 else
 if p0.full=0 then
 (some (0))
 else
 some (9))
 else
 some (7)
theorem Qu{p0 r}:Sm (Zk p0) r->DCall Tryz.prog 130 [.agg [.lit (.string p0.name),.sl (p0.rules.map Rul.c),DI p0.full]] [] (DI r) []:=by
 unfold Zk
 refine mk0 Tryz.func130 ?_
 refine ar ?_
 refine ar ?_
 refine sq λK k=>?_
 refine xd λv2 hv2=>?_
 have q0:=cS r0 (Qdx hv2)
 refine ar ?_
 refine xs (λh3=>?_) λh3=>?_
 refine cb ?_
 refine sq λK k=>?_
 refine xs (λh5=>?_) λh5=>?_
 refine ar ?_
 refine da ?_
 exact ft r0
 refine ar ?_
 refine xs (λh6=>?_) λh6=>?_
 refine da ?_
 exact ft r0
 refine db ?_
 refine goA (m_bdX i233.ok i4.ok) ?_
 refine au ?_
 refine cU [3] [(1,λb7=>.ptr 0 0 0),(4,λb7=>.ptr 1 0 0)] [0] [] [(1,λb7=>⟨4,false,false,[b7.map DB]⟩)] 2 (λz8 hr8=>?_) λb7=>?_
 refine ar ?_
 refine lP [3,25,26] [(1,λs10=>.ptr 0 0 0),(4,λs10=>.ptr 1 0 0),(27,λs10=>DI s10.2)] [0] [] [(1,λs10=>⟨4,false,false,[s10.1.map DB]⟩)] 2 λs10 y11 hq11=>?_
 refine ar ?_
 refine sq λK k=>?_
 refine xs (λh13=>?_) λh13=>?_
 refine ca ?_
 refine sq λK k=>?_
 refine au ?_
 refine xa λv15 hv15=>?_
 refine ar ?_
 refine ar ?_
 refine sq λK k=>?_
 refine au ?_
 refine xd λv17 hv17=>?_
 replace q0:=cS r0 (Qa4 hv17)
 refine ar ?_
 refine xs (λh18=>?_) λh18=>?_
 refine cb ?_
 refine xs (λh19=>?_) λh19=>?_
 refine ar ?_
 refine da ?_
 refine xo hq11 ?_
 refine xr hr8 ?_
 exact ft r0
 refine xs (λh20=>?_) λh20=>?_
 refine ar ?_
 refine da ?_
 refine xo hq11 ?_
 refine xr hr8 ?_
 exact ft r0
 refine xs (λh21=>?_) λh21=>?_
 refine ar ?_
 refine da ?_
 refine xo hq11 ?_
 refine xr hr8 ?_
 exact ft r0
 refine xs (λh22=>?_) λh22=>?_
 refine ar ?_
 refine da ?_
 refine xo hq11 ?_
 refine xr hr8 ?_
 exact ft r0
 refine xs (λh23=>?_) λh23=>?_
 refine ar ?_
 refine xs (λh24=>?_) λh24=>?_
 refine cb ?_
 refine xs (λh25=>?_) λh25=>?_
 refine ar ?_
 refine db ?_
 refine db ?_
 exact wJ []
 refine ar ?_
 refine da ?_
 refine xo hq11 ?_
 refine xr hr8 ?_
 exact ft r0
 refine da ?_
 refine xo hq11 ?_
 refine xr hr8 ?_
 exact ft r0
 refine ar ?_
 refine cb ?_
 refine xs (λh26=>?_) λh26=>?_
 refine ar ?_
 refine da ?_
 refine xo hq11 ?_
 refine xr hr8 ?_
 exact ft r0
 refine ar ?_
 refine xs (λh27=>?_) λh27=>?_
 refine da ?_
 refine xo hq11 ?_
 refine xr hr8 ?_
 exact ft r0
 refine db ?_
 refine ca ?_
 refine xc λh28=>?_
 refine xa λv29 hv29=>?_
 refine ar ?_
 refine goA (m_iaX hv29 h28 i233.ok i4.ok) ?_
 refine goA (m_stX (c1:=DB) (xs:=s10.1) hv29 true i4.ok rfl) ?_
 refine au ?_
 refine ar ?_
 exact wJ []
 refine da ?_
 refine xo hq11 ?_
 refine xr hr8 ?_
 exact ft r0
 refine cb ?_
 refine xo hq11 ?_
 exact wJ []
 refine cU [1,3] [] [0] [] [] 1 (λz31 hr31=>?_) λb30=>?_
 refine ar ?_
 refine lP [1,3,4] [(8,λs33=>DI s33)] [0,1] [] [] 2 λs33 y34 hq34=>?_
 refine sq λK k=>?_
 refine ar ?_
 refine xs (λh36=>?_) λh36=>?_
 refine ca ?_
 refine sq λK k=>?_
 refine au ?_
 refine xc λh38=>?_
 refine xa λv39 hv39=>?_
 refine ar ?_
 refine goA (m_iaX hv39 h38 i233.ok i4.ok) ?_
 refine goA (m_ldX (c1:=DB) hv39 i4.ok rfl) ?_
 refine au ?_
 refine xs (λh40=>?_) λh40=>?_
 refine db ?_
 exact wJ []
 refine da ?_
 refine xo hq34 ?_
 refine xr hr31 ?_
 exact ft r0
 refine cb ?_
 refine xo hq34 ?_
 exact wJ []
 refine sq λK k=>?_
 refine xa λv42 hv42=>?_
 refine ar ?_
 refine goA (Qdm (.inl rfl)) ?_
 refine au ?_
 refine xs (λh43=>?_) λh43=>?_
 refine xs (λh44=>?_) λh44=>?_
 refine ar ?_
 refine da ?_
 exact ft r0
 refine xs (λh45=>?_) λh45=>?_
 refine ar ?_
 refine da ?_
 exact ft r0
 refine ar ?_
 refine db ?_
 exact ft r0
 refine ar ?_
 refine xs (λh46=>?_) λh46=>?_
 refine db ?_
 exact ft r0
 refine da ?_
 exact ft r0
 refine da ?_
 exact ft r0
noncomputable def J1(p0:Int)(p1:Int):Option (Sp×Int) :=
 (Zm p0).bind λv2 =>
 if v2=true then
 (if p1 < 2 then
 (some ((Sp.mk 0 ([]:List Int) ([]:List Fe),1)))
 else
 if 64 < p1 then
 (some ((Sp.mk 0 ([]:List Int) ([]:List Fe),1)))
 else
 if 0<=wu p0 then
 if 0<=Qcq .i64 p1 (wu p0)/\(Qcq .i64 p1 (wu p0)) * 8<=281474976710656/\Qcq .i64 p1 (wu p0)<=9223372036854775807 then
 if 0<=p1/\p1 * 24<=281474976710656/\p1<=9223372036854775807 then
 (Qi (λ(s12:List Fe×Int) =>
 if s12.2 < ((List.replicate (Int.toNat p1) (Fe.mk 0 0 0)).length:Int) then
 ((at_ s12.1 s12.2).bind λv17 =>
 some (.go ((s12.1.set (Int.toNat s12.2) (Fe.mk (-1) (-1) (-1)),w64 (s12.2+1)))))
 else
 some (.out (s12.1))) (List.replicate (Int.toNat p1) (Fe.mk 0 0 0),0)).bind λ(b9:List Fe) =>
 some ((Sp.mk p0 (List.replicate (Int.toNat (Qcq .i64 p1 (wu p0))) (0:Int)) b9,0))
 else none
 else none
 else none)
 else
 some ((Sp.mk 0 ([]:List Int) ([]:List Fe),1))
theorem F_ref03_New_ok{p0 p1 r}:Sm (J1 p0 p1) r->DCall Tryz.prog 54 [DI p0,DI p1] [] (.tup [.agg [DI r.1.sh,.own 0 0 r.1.ws.length,.own 1 0 r.1.fs.length],DI r.2]) [(0,aO 1 (r.1.ws.map uC)),(1,aO 3 (r.1.fs.map frC))]:=by
 unfold J1
 refine mk0 Tryz.func54 ?_
 refine ar ?_
 refine sq λK k=>?_
 refine xd λv2 hv2=>?_
 refine xs (λh3=>?_) λh3=>?_
 refine xs (λh4=>?_) λh4=>?_
 have q0:=cS r0 (Xx hv2)
 refine ar ?_
 refine da ?_
 refine xx (Qg 0 1 1 Od rfl rfl) ?_
 refine xx (Qg 0 2 3 Od rfl rfl) ?_
 exact fwt [(0,1),(1,2)]
 have q0:=cS r0 (Xx hv2)
 refine ar ?_
 refine xs (λh5=>?_) λh5=>?_
 refine da ?_
 refine xx (Qg 0 1 1 Od rfl rfl) ?_
 refine xx (Qg 0 2 3 Od rfl rfl) ?_
 exact fwt [(0,1),(1,2)]
 refine cb ?_
 refine xc λh6=>?_
 refine xc λh7=>?_
 refine xc λh8=>?_
 refine ar ?_
 refine goA (Qeh (c:=uC) 0 h7 i26.ok i62.ok) ?_
 refine au ?_
 refine goA (Qeh (c:=frC) (Fe.mk 0 0 0) h8 i27.ok i53.ok) ?_
 refine au ?_
 refine cT [] [(4,λb9=>.ptr 0 0 0),(6,λb9=>.ptr 3 0 0)] [0,1] [] [(2,λb9=>aO 3 (b9.map frC)),(3,λb9=>bO 3 [DI p0,.own 1 0 (List.replicate (Int.toNat (Qcq .i64 p1 (wu p0))) (0:Int)).length,.own 2 0 b9.length])] 4 (λz10=>?_) λb9=>?_
 refine ar ?_
 refine lP [31] [(4,λs12=>.ptr 0 0 0),(6,λs12=>.ptr 3 0 0),(32,λs12=>DI s12.2)] [0,1] [] [(2,λs12=>aO 3 (s12.1.map frC)),(3,λs12=>bO 3 [DI p0,.own 1 0 (List.replicate (Int.toNat (Qcq .i64 p1 (wu p0))) (0:Int)).length,.own 2 0 s12.1.length])] 4 λs12 y13 hq13=>?_
 refine ar ?_
 refine sq λK k=>?_
 refine xs (λh15=>?_) λh15=>?_
 refine ca ?_
 refine sq λK k=>?_
 refine ar ?_
 refine xa λv17 hv17=>?_
 refine ar ?_
 refine goA (Z2 (c:=frC) hv17.h (Fe.mk (-1) (-1) (-1)) i53.ok) ?_
 refine au ?_
 refine ar ?_
 exact wJ []
 refine cb ?_
 refine xo hq13 ?_
 exact wJ []
 refine ar ?_
 exact fwt [(0,1),(1,2)]
 have q0:=cS r0 (Xx hv2)
 refine ar ?_
 refine da ?_
 refine xx (Qg 0 1 1 Od rfl rfl) ?_
 refine xx (Qg 0 2 3 Od rfl rfl) ?_
 exact fwt [(0,1),(1,2)]
noncomputable def XG(p0:Hp):Option Bool :=
 (Zy p0.roots).bind λv1 =>
 some (decide ((v1.length:Int)=32))
theorem Qbu{p0 r}:Sm (XG p0) r->DCall Tryz.prog 173 [.agg [.lit (.string p0.config.name),.sl (p0.config.rules.map Rul.c),DI p0.config.full,DI p0.space.sh,.sl (p0.space.ws.map uC),.sl (p0.space.fs.map frC),.sl (p0.belts.map (lC Inc.c)),DI p0.seq,.sl (p0.sets.map Qe.c),.sl (p0.roots.used.map bC),.sl (p0.roots.refs.map uC),DI p0.since,DI p0.stats.allocated,DI p0.stats.objects,DI p0.stats.collections,DI p0.stats.steps,DI p0.stats.rounds,DI p0.stats.condemned,DI p0.stats.copied,DI p0.stats.entries,DI p0.stats.work,DB p0.dead]] [] (DB r) []:=by
 unfold XG
 refine mk0 Tryz.func173 ?_
 refine ar ?_
 refine xd λv1 hv1=>?_
 have q0:=cS r0 (X4 hv1)
 refine ar ?_
 exact ft r0
noncomputable def XR(p0:Sp):Option Sp :=
 (X9 p0.ws).bind λv1 =>
 if (p0.fs.length:Int) * 24<=140737488355328/\(p0.fs.length:Int)<=9223372036854775807 then
 some (Sp.mk p0.sh v1 p0.fs)
 else none
theorem QbC{p0 r}:Sm (XR p0) r->DCall Tryz.prog 56 [.agg [DI p0.sh,.sl (p0.ws.map uC),.sl (p0.fs.map frC)]] [] (.agg [DI r.sh,.own 0 0 r.ws.length,.own 1 0 r.fs.length]) [(0,aO 1 (r.ws.map uC)),(1,aO 3 (r.fs.map frC))]:=by
 unfold XR
 refine mk0 Tryz.func56 ?_
 refine ar ?_
 refine xd λv1 hv1=>?_
 refine xc λh2=>?_
 have q0:=cS r0 (Qdz hv1)
 refine ar ?_
 refine goA (Qbi (c:=frC) p0.fs h2 i27.ok i53.ok rfl (.sl rfl (Qf (c:=frC) (λ_=>rfl) _))) ?_
 refine au ?_
 exact fw [(0,2),(1,3)]
end Go.Proofs.YthpnlnjdmlbnaaaGreatDoor
