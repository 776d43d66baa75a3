/- Parts of the proof. No condition. -/
import Derived.Test.YtkfnkecgcdhncaaGreatQM0
import Derived.Test.YtkfnkecgcdhncaaGreatQM4
import Derived.Test.YtkfnkecgcdhncaaGreatQM5
import Derived.Test.YtkfnkecgcdhncaaGreatQM6
import Derived.Test.YtkfnkecgcdhncaaGreatQM7
namespace Go.Proofs.YtkfnkecgcdhncaaGreat
open Go.RowKit
set_option linter.unusedSimpArgs false
set_option linter.unusedVariables false
set_option maxRecDepth 20000
set_option maxHeartbeats 40000000
noncomputable def Xk(p0:Cfg)(p1:Sp)(p2:List (List Inc))(p3:Cur):Option (List Inc×Cur×Bool) :=
 (Qh (λ(s4:Cur) =>
 if s4.belt<(w64 ((p2.length:Int)-1)) then
 ((at_ p2 s4.belt).bind λv8 =>
 if (v8.length:Int)=0 then
 (some (.go (Cur.mk (w64 (s4.belt+1)) false 0)))
 else
 some (.out (s4)))
 else
 some (.out (s4))) p3).bind λ(b1:Cur) =>
 (if b1.belt=(w64 ((p2.length:Int)-1)) then
 (if b1.begun=true then
 (some (b1))
 else
 (QS p2 (w64 ((p2.length:Int)-1))).bind λv14 =>
 if v14.2=true then
 (some (Cur.mk b1.belt true v14.1.seq))
 else
 some (Cur.mk b1.belt true (-1)))
 else
 some (b1)).bind λ(b10:Cur) =>
 ((at_ p2 b10.belt).bind λv18 =>
 Qh (λ(s21:List Inc×Int) =>
 if s21.2<(v18.length:Int) then
 ((at_ v18 s21.2).bind λv26 =>
 if b10.belt<(w64 ((p2.length:Int)-1)) then
 (if ((s21.1.length:Int)+[v26].length)*40<=140737488355328/\(s21.1.length:Int)+[v26].length<=9223372036854775807 then
 some (.go ((s21.1++[v26],w64 (s21.2+1))))
 else none)
 else
 if v26.seq<=b10.last then
 (if ((s21.1.length:Int)+[v26].length)*40<=140737488355328/\(s21.1.length:Int)+[v26].length<=9223372036854775807 then
 some (.go ((s21.1++[v26],w64 (s21.2+1))))
 else none)
 else
 some (.go ((s21.1,w64 (s21.2+1)))))
 else
 some (.out (s21.1))) (([]:List Inc),0)).bind λ(b16:List Inc) =>
 if (b16.length:Int)=0 then
 (some ((([]:List Inc),b10,true)))
 else
 (ZB p1).bind λv33 =>
 (at_ p0.rules b10.belt).bind λv34 =>
 (Qh (λ(s39:List Inc×Int×Int) =>
 if s39.2.2<(b16.length:Int) then
 ((at_ b16 s39.2.2).bind λv44 =>
 (QN p1 v44).bind λv45 =>
 if (w64 (s39.2.1-v45))<0 then
 (some (.out (s39.1)))
 else
 if v34.batch=0 then
 (if ((s39.1.length:Int)+[v44].length)*40<=140737488355328/\(s39.1.length:Int)+[v44].length<=9223372036854775807 then
 some (.go ((s39.1++[v44],w64 (s39.2.1-v45),w64 (s39.2.2+1))))
 else none)
 else
 if (s39.1.length:Int)=v34.batch then
 (some (.out (s39.1)))
 else
 if ((s39.1.length:Int)+[v44].length)*40<=140737488355328/\(s39.1.length:Int)+[v44].length<=9223372036854775807 then
 some (.go ((s39.1++[v44],w64 (s39.2.1-v45),w64 (s39.2.2+1))))
 else none)
 else
 some (.out (s39.1))) (([]:List Inc),(v33.length:Int),0)).bind λ(b35:List Inc) =>
 some ((b35,b10,false))
theorem QbF{p0 p1 p2 p3 r}:Sm (Xk p0 p1 p2 p3) r->DCall Tryz.prog 166 [.agg [.lit (.string p0.name),.sl (p0.rules.map Rul.c),DI p0.full],.agg [DI p1.sh,.sl (p1.ws.map uC),.sl (p1.fs.map frC)],.sl (p2.map (lC Inc.c)),.agg [DI p3.belt,DB p3.begun,DI p3.last]] [] (.tup [.own 0 0 r.1.length,.agg [DI r.2.1.belt,DB r.2.1.begun,DI r.2.1.last],DB r.2.2]) [(0,aO 5 (r.1.map Inc.c))]:=by
 unfold Xk
 &mk0 Tryz.func166 ?_
 &ar ?_
 &ar ?_
 &cT [2,11] [(4,λb1=>.ptr 0 0 0),(5,λb1=>.ptr 1 0 0),(7,λb1=>.ptr 2 0 0),(9,λb1=>.ptr 3 0 0)] [0,1,3] [] [(2,λb1=>bO 3 [DI b1.belt,DB b1.begun,DI b1.last])] 4 (λz2=>?_) λb1=>?_
 &au ?_
 &lP [2,11] [(4,λs4=>.ptr 0 0 0),(5,λs4=>.ptr 1 0 0),(7,λs4=>.ptr 2 0 0),(9,λs4=>.ptr 3 0 0)] [0,1,3] [] [(2,λs4=>bO 3 [DI s4.belt,DB s4.begun,DI s4.last])] 4 λs4 y5 hq5=>?_
 &sq λK k=>?_
 &xs (λh7=>?_) λh7=>?_
 &xa λv8 hv8=>?_
 &ar ?_
 &xs (λh9=>?_) λh9=>?_
 &da ?_
 ~wJ []
 &cb ?_
 &xo hq5 ?_
 ~wJ []
 &ar ?_
 &cb ?_
 &xo hq5 ?_
 ~wJ []
 &cT [2,4,5,7,9,11] [] [0,1,3] [] [(2,λb10=>bO 3 [DI b10.belt,DB b10.begun,DI b10.last])] 4 (λz11=>?_) λb10=>?_
 &xs (λh12=>?_) λh12=>?_
 &ar ?_
 &xs (λh13=>?_) λh13=>?_
 &cb ?_
 ~wJ []
 &da ?_
 &xd λv14 hv14=>?_
 have q0:=cS r0 (Z4 hv14)
 &ar ?_
 &ar ?_
 &xs (λh15=>?_) λh15=>?_
 &da ?_
 ~wJ []
 &cb ?_
 ~wJ []
 &ar ?_
 &cb ?_
 ~wJ []
 &ar ?_
 &cT [4,5,7,9] [(14,λb16=>.own 4 0 b16.length)] [0,1,2,3] [] [(4,λb16=>aO 5 (b16.map Inc.c))] 5 (λz17=>?_) λb16=>?_
 &xa λv18 hv18=>?_
 &ar ?_
 &xx (Qz 14 5 Od rfl) ?_
 &lP [4,5,7,9,11,67,68] [(14,λs21=>.own 4 0 s21.1.length),(69,λs21=>DI s21.2)] [0,1,2,3] [] [(4,λs21=>aO 5 (s21.1.map Inc.c))] 5 λs21 y22 hq22=>?_
 &ar ?_
 &sq λK k=>?_
 &xs (λh24=>?_) λh24=>?_
 &ca ?_
 &sq λK k=>?_
 &au ?_
 &xa λv26 hv26=>?_
 &ar ?_
 &xs (λh27=>?_) λh27=>?_
 &ar ?_
 &ca ?_
 &xc λh28=>?_
 &ar ?_
 &goA (Ql (c:=Inc.c) ([v26]:List Inc) i52.ok i56.ok) ?_
 &goA (QW (c:=Inc.c) s21.1 [v26] h28 i52.ok i56.ok rfl rfl (.own rfl rfl Os (Qg (c:=Inc.c) (λ_=>rfl) _)) rfl) ?_
 &au ?_
 &ar ?_
 ~wJ [(4,7)]
 &ar ?_
 &xs (λh29=>?_) λh29=>?_
 &ca ?_
 &xc λh30=>?_
 &ar ?_
 &goA (Ql (c:=Inc.c) ([v26]:List Inc) i52.ok i56.ok) ?_
 &goA (QW (c:=Inc.c) s21.1 [v26] h30 i52.ok i56.ok rfl rfl (.own rfl rfl Os (Qg (c:=Inc.c) (λ_=>rfl) _)) rfl) ?_
 &au ?_
 &ar ?_
 ~wJ [(4,7)]
 &db ?_
 ~wJ []
 &cb ?_
 &xo hq22 ?_
 ~wJ []
 &sq λK k=>?_
 &ar ?_
 &xs (λh32=>?_) λh32=>?_
 &da ?_
 &xx (Qz 8 5 Od rfl) ?_
 ~ftwt [(0,5)]
 &db ?_
 &xd λv33 hv33=>?_
 &xa λv34 hv34=>?_
 have q0:=cS r0 (XR hv33)
 &ar ?_
 &cT [7,9] [(17,λb35=>.own 6 0 b35.length)] [2,3] [] [(6,λb35=>aO 5 (b35.map Inc.c))] 7 (λz36=>?_) λb35=>?_
 &ar ?_
 &xx (Qz 17 5 Od rfl) ?_
 &lP [5,7,9,19,104] [(17,λs39=>.own 6 0 s39.1.length),(18,λs39=>DI s39.2.1),(103,λs39=>.own 4 0 b16.length),(105,λs39=>DI s39.2.2)] [1,2,3,4] [] [(6,λs39=>aO 5 (s39.1.map Inc.c))] 7 λs39 y40 hq40=>?_
 &ar ?_
 &sq λK k=>?_
 &xs (λh42=>?_) λh42=>?_
 &ca ?_
 &sq λK k=>?_
 &au ?_
 &xa λv44 hv44=>?_
 &ar ?_
 &xd λv45 hv45=>?_
 replace q0:=cS r0 (Zo hv45)
 &ar ?_
 &sq λK k=>?_
 &xs (λh47=>?_) λh47=>?_
 &ar ?_
 &ca ?_
 &xo hq40 ?_
 ~wJ []
 &xs (λh48=>?_) λh48=>?_
 &ar ?_
 &cb ?_
 &xc λh49=>?_
 &ar ?_
 &goA (Ql (c:=Inc.c) ([v44]:List Inc) i52.ok i56.ok) ?_
 &goA (QW (c:=Inc.c) s39.1 [v44] h49 i52.ok i56.ok rfl rfl (.own rfl rfl Os (Qg (c:=Inc.c) (λ_=>rfl) _)) rfl) ?_
 &au ?_
 &ar ?_
 ~wJ [(6,9)]
 &ar ?_
 &xs (λh50=>?_) λh50=>?_
 &ca ?_
 &xo hq40 ?_
 ~wJ []
 &cb ?_
 &xc λh51=>?_
 &ar ?_
 &goA (Ql (c:=Inc.c) ([v44]:List Inc) i52.ok i56.ok) ?_
 &goA (QW (c:=Inc.c) s39.1 [v44] h51 i52.ok i56.ok rfl rfl (.own rfl rfl Os (Qg (c:=Inc.c) (λ_=>rfl) _)) rfl) ?_
 &au ?_
 &ar ?_
 ~wJ [(6,9)]
 &cb ?_
 &xo hq40 ?_
 ~wJ []
 &ar ?_
 ~ftwt [(0,6)]
noncomputable def ZT(p0:Sp)(p1:List Qe)(p2:List Inc):Option (List Int×Int) :=
 (ZI p0 p2).bind λv1 =>
 (Qar p1 v1).bind λv2 =>
 (Qh (λ(s7:List Int×Int) =>
 if s7.2<(v2.1.length:Int) then
 ((at_ v2.1 s7.2).bind λv12 =>
 if v12<(p0.ws.length:Int) then
 ((at_ p0.ws v12).bind λv14 =>
 (ZH p0 p2 v14).bind λv15 =>
 if v15=true then
 (if ((s7.1.length:Int)+[v12].length)*8<=140737488355328/\(s7.1.length:Int)+[v12].length<=9223372036854775807 then
 some (.go ((s7.1++[v12],w64 (s7.2+1))))
 else none)
 else
 some (.go ((s7.1,w64 (s7.2+1)))))
 else
 some (.go ((s7.1,w64 (s7.2+1)))))
 else
 some (.out (s7.1))) (([]:List Int),0)).bind λ(b3:List Int) =>
 some ((b3,v2.2))
theorem Qbk{p0 p1 p2 r}:Sm (ZT p0 p1 p2) r->DCall Tryz.prog 178 [.agg [DI p0.sh,.sl (p0.ws.map uC),.sl (p0.fs.map frC)],.sl (p1.map Qe.c),.sl (p2.map Inc.c)] [] (.tup [.own 0 0 r.1.length,DI r.2]) [(0,aO 1 (r.1.map iC))]:=by
 unfold ZT
 &mk0 Tryz.func178 ?_
 &ar ?_
 &xd λv1 hv1=>?_
 &xd λv2 hv2=>?_
 have q0:=cS r0 (QbE hv1)
 have q1:=cG r0 (Qgz hv2)
 &ar ?_
 &ar ?_
 &cT [9] [(10,λb3=>.own 2 0 b3.length)] [] [] [(2,λb3=>aO 1 (b3.map iC))] 3 (λz4=>?_) λb3=>?_
 &ar ?_
 &xx (Qz 10 1 Od rfl) ?_
 &lP [2,9,21,22] [(3,λs7=>.ptr 0 0 0),(10,λs7=>.own 2 0 s7.1.length),(23,λs7=>DI s7.2)] [0] [] [(2,λs7=>aO 1 (s7.1.map iC))] 3 λs7 y8 hq8=>?_
 &ar ?_
 &sq λK k=>?_
 &xs (λh10=>?_) λh10=>?_
 &ca ?_
 &sq λK k=>?_
 &au ?_
 &xa λv12 hv12=>?_
 &ar ?_
 &xs (λh13=>?_) λh13=>?_
 &xa λv14 hv14=>?_
 &xd λv15 hv15=>?_
 replace q0:=cS r0 (Qab hv15)
 &ar ?_
 &xs (λh16=>?_) λh16=>?_
 &ca ?_
 &xc λh17=>?_
 &ar ?_
 &goA (Ql (c:=iC) ([v12]:List Int) i22.ok i3.ok) ?_
 &goA (QW (c:=iC) s7.1 [v12] h17 i22.ok i3.ok rfl rfl (.own rfl rfl Os (Qg (c:=iC) (λ_=>rfl) _)) rfl) ?_
 &au ?_
 &ar ?_
 ~wJ [(2,4)]
 &db ?_
 ~wJ []
 &ar ?_
 &db ?_
 ~wJ []
 &cb ?_
 &xo hq8 ?_
 ~wJ []
 &ar ?_
 ~ftt [(0,2)]
noncomputable def QY(p0:Sp)(p1:Int):Option (List Int×Int) :=
 (Zl p0 p1).bind λv1 =>
 if v1.2.2=0 then
 ((Qh (λ(s8:List Int×Int) =>
 if s8.2<v1.1 then
 ((QM p0 p1 (w64 (1+s8.2))).bind λv13 =>
 if ((s8.1.length:Int)+[v13.1].length)*8<=140737488355328/\(s8.1.length:Int)+[v13.1].length<=9223372036854775807 then
 some (.go ((s8.1++[v13.1],w64 (s8.2+1))))
 else none)
 else
 some (.out (s8.1))) (([]:List Int),0)).bind λ(b4:List Int) =>
 some ((b4,0)))
 else
 some ((([]:List Int),v1.2.2))
theorem Qaf{p0 p1 r}:Sm (QY p0 p1) r->DCall Tryz.prog 14 [.agg [DI p0.sh,.sl (p0.ws.map uC),.sl (p0.fs.map frC)],DI p1] [] (.tup [.own 0 0 r.1.length,DI r.2]) [(0,aO 1 (r.1.map iC))]:=by
 unfold QY
 &mk0 Tryz.func14 ?_
 &ar ?_
 &xd λv1 hv1=>?_
 have q0:=cS r0 (XO hv1)
 &ar ?_
 &sq λK k=>?_
 &ar ?_
 &xs (λh3=>?_) λh3=>?_
 &db ?_
 &cT [] [(9,λb4=>.own 1 0 b4.length)] [] [] [(1,λb4=>aO 1 (b4.map iC))] 2 (λz5=>?_) λb4=>?_
 &ar ?_
 &xx (Qz 9 1 Od rfl) ?_
 &lP [1,6] [(2,λs8=>.ptr 0 0 0),(9,λs8=>.own 1 0 s8.1.length),(10,λs8=>DI s8.2)] [0] [] [(1,λs8=>aO 1 (s8.1.map iC))] 2 λs8 y9 hq9=>?_
 &sq λK k=>?_
 &ar ?_
 &xs (λh11=>?_) λh11=>?_
 &ca ?_
 &sq λK k=>?_
 &au ?_
 &xd λv13 hv13=>?_
 replace q0:=cS r0 (QP hv13)
 &ar ?_
 &xc λh14=>?_
 &ar ?_
 &goA (Ql (c:=iC) ([v13.1]:List Int) i22.ok i3.ok) ?_
 &goA (QW (c:=iC) s8.1 [v13.1] h14 i22.ok i3.ok rfl rfl (.own rfl rfl Os (Qg (c:=iC) (λ_=>rfl) _)) rfl) ?_
 &au ?_
 &ar ?_
 ~wJ [(1,3)]
 &cb ?_
 &xo hq9 ?_
 ~wJ []
 &ar ?_
 ~ftt [(0,1)]
 &da ?_
 &xx (Qz 4 1 Od rfl) ?_
 ~ftt [(0,1)]
noncomputable def Zk(p0:Sp)(p1:List Qe)(p2:Int)(p3:Int):Option (List Qe) :=
 (XI p0 p2 p3).bind λv1 =>
 if v1.2.2=true then
 ((Qac p1 v1.1 v1.2.1 p2).bind λv4 =>
 some (v4))
 else
 some (p1)
theorem Qgy{p0 p1 p2 p3 r}:Sm (Zk p0 p1 p2 p3) r->DCall Tryz.prog 149 [.agg [DI p0.sh,.sl (p0.ws.map uC),.sl (p0.fs.map frC)],.sl (p1.map Qe.c),DI p2,DU p3] [] (.sl (r.map Qe.c)) []:=by
 unfold Zk
 &mk0 Tryz.func149 ?_
 &ar ?_
 &xd λv1 hv1=>?_
 have q0:=cS r0 (QaZ hv1)
 &ar ?_
 &sq λK k=>?_
 &ar ?_
 &xs (λh3=>?_) λh3=>?_
 &cb ?_
 &xd λv4 hv4=>?_
 replace q0:=cG r0 (Qdg hv4)
 &ar ?_
 ~ft r0
 &da ?_
 ~ft r0
noncomputable def Xl(p0:Sp)(p1:List Qe)(p2:Int)(p3:Int):Option (List Qe×List Int×List Fe) :=
 (XI p0 p2 p3).bind λv1 =>
 if v1.2.2=true then
 ((Qac p1 v1.1 v1.2.1 p2).bind λv4 =>
 some ((v4,p0.ws,p0.fs)))
 else
 some ((p1,p0.ws,p0.fs))
theorem QbG{p0 p1 p2 p3 r}:Sm (Xl p0 p1 p2 p3) r->DCall Tryz.prog 149 [.agg [DI p0.sh,.own 0 0 p0.ws.length,.own 1 0 p0.fs.length],.sl (p1.map Qe.c),DI p2,DU p3] [(0,aO 1 (p0.ws.map uC)),(1,aO 3 (p0.fs.map frC))] (.sl (r.1.map Qe.c)) [(0,aO 1 (r.2.1.map uC)),(1,aO 3 (r.2.2.map frC))]:=by
 unfold Xl
 &mk0 Tryz.func149 ?_
 &ar ?_
 &xd λv1 hv1=>?_
 have q0:=cS r0 (QaZ hv1)
 &ar ?_
 &sq λK k=>?_
 &ar ?_
 &xs (λh3=>?_) λh3=>?_
 &cb ?_
 &xd λv4 hv4=>?_
 replace q0:=cG r0 (Qdg hv4)
 &ar ?_
 ~ft r2
 &da ?_
 ~ft r2
noncomputable def Jb(p0:Hp):Option (Hp×List Int×List Fe) :=
 if (p0.config.rules.length:Int)*32<=140737488355328/\(p0.config.rules.length:Int)<=9223372036854775807 then
 (JA p0.space).bind λv2 =>
 (Q5 p0.belts).bind λv3 =>
 (ZZ p0.sets).bind λv4 =>
 (ZY p0.roots).bind λv5 =>
 some ((Hp.mk p0.config v2 v3 p0.seq v4 v5 p0.since p0.stats p0.dead,p0.space.ws,p0.space.fs))
 else none
theorem QeD{p0 r}:Sm (Jb p0) r->DCall Tryz.prog 72 [.agg [.lit (.string p0.config.name),.sl (p0.config.rules.map Rul.c),DI p0.config.full,DI p0.space.sh,.own 0 0 p0.space.ws.length,.own 1 0 p0.space.fs.length,.sl (p0.belts.map (lC Inc.c)),DI p0.seq,.sl (p0.sets.map Qe.c),.sl (p0.roots.used.map bC),.sl (p0.roots.refs.map uC),DI p0.since,DI p0.stats.allocated,DI p0.stats.objects,DI p0.stats.collections,DI p0.stats.steps,DI p0.stats.rounds,DI p0.stats.condemned,DI p0.stats.copied,DI p0.stats.entries,DI p0.stats.work,DB p0.dead]] [(0,aO 1 (p0.space.ws.map uC)),(1,aO 3 (p0.space.fs.map frC))] (.agg [.lit (.string r.1.config.name),.own 2 0 r.1.config.rules.length,DI r.1.config.full,DI r.1.space.sh,.own 3 0 r.1.space.ws.length,.own 4 0 r.1.space.fs.length,.own 5 0 r.1.belts.length,DI r.1.seq,.own 6 0 r.1.sets.length,.own 7 0 r.1.roots.used.length,.own 8 0 r.1.roots.refs.length,DI r.1.since,DI r.1.stats.allocated,DI r.1.stats.objects,DI r.1.stats.collections,DI r.1.stats.steps,DI r.1.stats.rounds,DI r.1.stats.condemned,DI r.1.stats.copied,DI r.1.stats.entries,DI r.1.stats.work,DB r.1.dead]) [(0,aO 1 (r.2.1.map uC)),(1,aO 3 (r.2.2.map frC)),(2,aO 4 (r.1.config.rules.map Rul.c)),(3,aO 1 (r.1.space.ws.map uC)),(4,aO 3 (r.1.space.fs.map frC)),(5,aO 1 (r.1.belts.map (lC Inc.c))),(6,aO 3 (r.1.sets.map Qe.c)),(7,aO 1 (r.1.roots.used.map bC)),(8,aO 1 (r.1.roots.refs.map uC))]:=by
 unfold Jb
 &mk0 Tryz.func72 ?_
 &ar ?_
 &ar ?_
 &xc λh1=>?_
 &ar ?_
 &goA (QbU (c:=Rul.c) p0.config.rules h1 i23.ok Qa8.ok rfl (.sl rfl (Qg (c:=Rul.c) (λ_=>rfl) _))) ?_
 &au ?_
 &xd λv2 hv2=>?_
 have q0:=cS r0 (QcN hv2)
 &ar ?_
 &xd λv3 hv3=>?_
 replace q0:=cG r0 (ZU hv3)
 &ar ?_
 &xx (Qp (Qcq (s:=8) (xs:=v3) (cd:=(lD 5 Inc.c)) rfl (λ_=>rfl))) ?_
 &xx (Qp (ZM.flat (s:=8) (c:=(lC Inc.c)) rfl (λ_=>rfl) (λ_=>rfl))) ?_
 &xd λv4 hv4=>?_
 replace q0:=cG r0 (JR hv4)
 &ar ?_
 &xd λv5 hv5=>?_
 replace q0:=cS r0 (JQ hv5)
 &ar ?_
 &ar ?_
 ~fw [(0,0),(1,1),(2,5),(3,6),(4,7),(5,8),(6,9),(7,10),(8,11)]
noncomputable def Qaq(p0:Rts)(p1:Int):Option (Rts×Int) :=
 (JO p0 p1).bind λv2 =>
 if v2=0 then
 ((ZY p0).bind λv4 =>
 (at_ v4.used (w64 (p1-1))).bind λv5 =>
 (at_ v4.refs (w64 (p1-1))).bind λv6 =>
 some ((Rts.mk (v4.used.set (Int.toNat (w64 (p1-1))) false) (v4.refs.set (Int.toNat (w64 (p1-1))) 0),0)))
 else
 some ((Rts.mk ([]:List Bool) ([]:List Int),v2))
theorem Qgx{p0 p1 r}:Sm (Qaq p0 p1) r->DCall Tryz.prog 73 [.agg [.sl (p0.used.map bC),.sl (p0.refs.map uC)],DI p1] [] (.tup [.agg [.own 0 0 r.1.used.length,.own 1 0 r.1.refs.length],DI r.2]) [(0,aO 1 (r.1.used.map bC)),(1,aO 1 (r.1.refs.map uC))]:=by
 unfold Qaq
 &mk0 Tryz.func73 ?_
 &ar ?_
 &sq λK k=>?_
 &xd λv2 hv2=>?_
 have q0:=cS r0 (Qe6 hv2)
 &ar ?_
 &ar ?_
 &xs (λh3=>?_) λh3=>?_
 &cb ?_
 &xd λv4 hv4=>?_
 replace q0:=cS r0 (JQ hv4)
 &ar ?_
 &xa λv5 hv5=>?_
 &xa λv6 hv6=>?_
 &ar ?_
 &goA (Xr (c:=bC) hv5.h false i4.ok) ?_
 &au ?_
 &goA (Xr (c:=uC) hv6.h 0 i61.ok) ?_
 &au ?_
 &ar ?_
 ~fwt [(0,2),(1,3)]
 &da ?_
 &xx (Qj 1 0 1 Od rfl rfl) ?_
 &xx (Qj 1 1 1 Od rfl rfl) ?_
 ~fwt [(0,2),(1,3)]
noncomputable def Z6(p0:Sp)(p1:Int)(p2:Int)(p3:Bool):Option (Int×Int) :=
 (Zl p0 p1).bind λv1 =>
 if v1.2.2=0 then
 (if p3=true then
 (if p2<0 then
 (some ((0,17)))
 else
 if v1.1<=p2 then
 (some ((0,17)))
 else
 (QM p0 p1 (w64 (1+p2))).bind λv9 =>
 some ((v9.1,v9.2)))
 else
 if p2<0 then
 (some ((0,17)))
 else
 if v1.2.1<=p2 then
 (some ((0,17)))
 else
 (QM p0 p1 (w64 ((w64 (1+v1.1))+p2))).bind λv13 =>
 some ((v13.1,v13.2)))
 else
 some ((0,v1.2.2))
theorem QaD{p0 p1 p2 p3 r}:Sm (Z6 p0 p1 p2 p3) r->DCall Tryz.prog 116 [.agg [DI p0.sh,.sl (p0.ws.map uC),.sl (p0.fs.map frC)],DI p1,DI p2,DB p3] [] (.tup [DI r.1,DI r.2]) []:=by
 unfold Z6
 &mk0 Tryz.func116 ?_
 &ar ?_
 &xd λv1 hv1=>?_
 have q0:=cS r0 (XO hv1)
 &ar ?_
 &sq λK k=>?_
 &ar ?_
 &xs (λh3=>?_) λh3=>?_
 &db ?_
 &sq λK k=>?_
 &ar ?_
 &xs (λh5=>?_) λh5=>?_
 &da ?_
 &sq λK k=>?_
 &xs (λh7=>?_) λh7=>?_
 &ar ?_
 &da ?_
 ~ftt r0
 &ar ?_
 &xs (λh8=>?_) λh8=>?_
 &da ?_
 ~ftt r0
 &cb ?_
 &xd λv9 hv9=>?_
 replace q0:=cS r0 (QP hv9)
 &ar ?_
 ~ftt r0
 &cb ?_
 &sq λK k=>?_
 &xs (λh11=>?_) λh11=>?_
 &ar ?_
 &da ?_
 ~ftt r0
 &ar ?_
 &xs (λh12=>?_) λh12=>?_
 &da ?_
 ~ftt r0
 &cb ?_
 &xd λv13 hv13=>?_
 replace q0:=cS r0 (QP hv13)
 &ar ?_
 ~ftt r0
 &da ?_
 ~ftt r0
noncomputable def Qae(p0:Sp)(p1:Inc):Option (List Int×Int) :=
 bndR (Qh (λ(s5:List Int×Int) =>
 if s5.2<p1.words then
 (if 0<=wu p0.sh then
 (QM p0 (Qa9 .i64 p1.first (wu p0.sh)) s5.2).bind λv10 =>
 (Zl p0 v10.1).bind λv11 =>
 if v11.2.2=0 then
 (if p1.words<(w64 ((w64 ((w64 (s5.2+1))+v11.1))+v11.2.1)) then
 (some (.out (.inr ((([]:List Int),12)))))
 else
 if ((s5.1.length:Int)+[v10.1].length)*8<=140737488355328/\(s5.1.length:Int)+[v10.1].length<=9223372036854775807 then
 some (.go ((s5.1++[v10.1],w64 (s5.2+(w64 ((w64 (1+v11.1))+v11.2.1))))))
 else none)
 else
 some (.out (.inr ((([]:List Int),12))))
 else none)
 else
 some (.out (.inl (s5.1)))) (([]:List Int),0)) λ(b1:List Int) =>
 some ((b1,0))
theorem Qdi{p0 p1 r}:Sm (Qae p0 p1) r->DCall Tryz.prog 13 [.agg [DI p0.sh,.sl (p0.ws.map uC),.sl (p0.fs.map frC)],.agg [DI p1.seq,DI p1.belt,DI p1.first,DI p1.last,DI p1.words]] [] (.tup [.own 0 0 r.1.length,DI r.2]) [(0,aO 1 (r.1.map iC))]:=by
 unfold Qae
 &mk0 Tryz.func13 ?_
 &ar ?_
 &ar ?_
 &cU [] [(6,λb1=>.own 2 0 b1.length)] [] [] [(2,λb1=>aO 1 (b1.map iC))] 3 (λz2 hr2=>?_) λb1=>?_
 &ar ?_
 &xx (Qz 6 1 Od rfl) ?_
 &lP [] [(2,λs5=>.ptr 0 0 0),(3,λs5=>.ptr 1 0 0),(6,λs5=>.own 2 0 s5.1.length),(7,λs5=>DI s5.2)] [0,1] [] [(2,λs5=>aO 1 (s5.1.map iC))] 3 λs5 y6 hq6=>?_
 &sq λK k=>?_
 &ar ?_
 &xs (λh8=>?_) λh8=>?_
 &ca ?_
 &xc λh9=>?_
 &xd λv10 hv10=>?_
 have q0:=cS r0 (QP hv10)
 &ar ?_
 &xd λv11 hv11=>?_
 replace q0:=cS r0 (XO hv11)
 &ar ?_
 &sq λK k=>?_
 &xs (λh13=>?_) λh13=>?_
 &ar ?_
 &xs (λh14=>?_) λh14=>?_
 &da ?_
 &xx (Qz 4 1 Od rfl) ?_
 &xo hq6 ?_
 &xr hr2 ?_
 ~ftt [(0,3)]
 &cb ?_
 &xc λh15=>?_
 &ar ?_
 &goA (Ql (c:=iC) ([v10.1]:List Int) i22.ok i3.ok) ?_
 &goA (QW (c:=iC) s5.1 [v10.1] h15 i22.ok i3.ok rfl rfl (.own rfl rfl Os (Qg (c:=iC) (λ_=>rfl) _)) rfl) ?_
 &au ?_
 &ar ?_
 ~wJ [(2,4)]
 &ar ?_
 &da ?_
 &xx (Qz 4 1 Od rfl) ?_
 &xo hq6 ?_
 &xr hr2 ?_
 ~ftt [(0,3)]
 &cb ?_
 &xo hq6 ?_
 ~wJ []
 &ar ?_
 ~ftt [(0,2)]
noncomputable def QbA(p0:Gra)(p1:AOp):Option (Gra×Ans) :=
 (Qao p0).bind λv1 =>
 bndR (if p1.code=1 then
 (if p1.a<0 then
 ((Qx p0 13).bind λv7 =>
 some (.inr ((v7.1,v7.2))))
 else
 if 15<p1.a then
 ((Qx p0 13).bind λv9 =>
 some (.inr ((v9.1,v9.2))))
 else
 if p1.b<0 then
 ((Qx p0 13).bind λv11 =>
 some (.inr ((v11.1,v11.2))))
 else
 if 32<p1.b then
 ((Qx p0 13).bind λv13 =>
 some (.inr ((v13.1,v13.2))))
 else
 (Jp p0).bind λv14 =>
 if v14=0 then
 ((Qx p0 15).bind λv17 =>
 some (.inr ((v17.1,v17.2))))
 else
 if 0<=p1.b/\p1.b*8<=281474976710656/\p1.b<=9223372036854775807 then
 (Qh (λ(s23:List Int×Int) =>
 if s23.2<p1.a then
 (if ((s23.1.length:Int)+[(-1)].length)*8<=140737488355328/\(s23.1.length:Int)+[(-1)].length<=9223372036854775807 then
 some (.go ((s23.1++[(-1)],w64 (s23.2+1))))
 else none)
 else
 some (.out (s23.1))) (([]:List Int),0)).bind λ(b19:List Int) =>
 if ((v1.nodes.length:Int)+1)*48<=140737488355328/\(v1.nodes.length:Int)+1<=9223372036854775807 then
 (at_ v1.used (w64 (v14-1))).bind λv30 =>
 (at_ v1.roots (w64 (v14-1))).bind λv31 =>
 some (.inr ((Gra.mk (v1.nodes++[Nod.mk b19 (List.replicate (Int.toNat p1.b) (0:Int))]) (v1.used.set (Int.toNat (w64 (v14-1))) true) (v1.roots.set (Int.toNat (w64 (v14-1))) (w64 (((v1.nodes++[Nod.mk b19 (List.replicate (Int.toNat p1.b) (0:Int))]).length:Int)-1))),Ans.mk 0 (wu v14))))
 else none
 else none)
 else
 if p1.code=8 then
 (some (.inr ((v1,Ans.mk 0 0))))
 else
 if p1.code=10 then
 ((Qan p0).bind λv34 =>
 some (.inr ((v1,Ans.mk 0 (wu v34)))))
 else
 if p1.code=6 then
 ((Zi p0 p1.a false).bind λv37 =>
 if v37=0 then
 ((Zi p0 p1.b false).bind λv40 =>
 if v40=0 then
 ((Zh p0 p1.a).bind λv43 =>
 (Zh p0 p1.b).bind λv44 =>
 if v43=v44 then
 (some (.inr ((v1,Ans.mk 0 1))))
 else
 some (.inr ((v1,Ans.mk 0 0))))
 else
 (Qx p0 v40).bind λv46 =>
 some (.inr ((v46.1,v46.2))))
 else
 (Qx p0 v37).bind λv47 =>
 some (.inr ((v47.1,v47.2))))
 else
 if p1.code=7 then
 (some (.inl (())))
 else
 if p1.code=9 then
 (some (.inl (())))
 else
 if p1.code=2 then
 (some (.inl (())))
 else
 if p1.code=3 then
 (some (.inl (())))
 else
 if p1.code=4 then
 (some (.inl (())))
 else
 if p1.code=5 then
 (some (.inl (())))
 else
 (Qx p0 20).bind λv55 =>
 some (.inr ((v55.1,v55.2)))) λ(b2:Unit) =>
 (Zi p0 p1.a true).bind λv57 =>
 if v57=0 then
 ((Zh p0 p1.a).bind λv59 =>
 (at_ p0.nodes v59).bind λv60 =>
 if p1.code=7 then
 ((at_ v1.used (w64 (p1.a-1))).bind λv63 =>
 (at_ v1.roots (w64 (p1.a-1))).bind λv64 =>
 some ((Gra.mk v1.nodes (v1.used.set (Int.toNat (w64 (p1.a-1))) false) (v1.roots.set (Int.toNat (w64 (p1.a-1))) (-1)),Ans.mk 0 0)))
 else
 if p1.code=9 then
 (some ((v1,Ans.mk 0 (wu (w64 ((w64 (256*(v60.refs.length:Int)))+(v60.data.length:Int)))))))
 else
 (if p1.code=2 then
 (some ((v60.refs.length:Int)))
 else
 if p1.code=3 then
 (some ((v60.refs.length:Int)))
 else
 some ((v60.data.length:Int))).bind λ(b66:Int) =>
 if p1.b<0 then
 ((Qx p0 17).bind λv72 =>
 some ((v72.1,v72.2)))
 else
 if b66<=p1.b then
 ((Qx p0 17).bind λv74 =>
 some ((v74.1,v74.2)))
 else
 if p1.code=4 then
 ((at_ v60.data p1.b).bind λv77 =>
 some ((v1,Ans.mk 0 v77)))
 else
 if p1.code=5 then
 ((Zh p0 p1.a).bind λv79 =>
 (at_ v1.nodes v79).bind λv80 =>
 (at_ v80.data p1.b).bind λv81 =>
 some ((Gra.mk (v1.nodes.set (Int.toNat v79) (Nod.mk v80.refs (v80.data.set (Int.toNat p1.b) (wu p1.c_)))) v1.used v1.roots,Ans.mk 0 0)))
 else
 if p1.code=3 then
 ((Zi p0 p1.c_ false).bind λv84 =>
 if v84=0 then
 ((Zh p0 p1.a).bind λv86 =>
 (at_ v1.nodes v86).bind λv87 =>
 (Zh p0 p1.c_).bind λv88 =>
 (at_ v87.refs p1.b).bind λv89 =>
 some ((Gra.mk (v1.nodes.set (Int.toNat v86) (Nod.mk (v87.refs.set (Int.toNat p1.b) v88) v87.data)) v1.used v1.roots,Ans.mk 0 0)))
 else
 (Qx p0 v84).bind λv90 =>
 some ((v90.1,v90.2)))
 else
 (at_ v60.refs p1.b).bind λv91 =>
 if v91=(-1) then
 (some ((v1,Ans.mk 0 0)))
 else
 (Jp p0).bind λv94 =>
 if v94=0 then
 ((Qx p0 15).bind λv97 =>
 some ((v97.1,v97.2)))
 else
 (at_ v1.used (w64 (v94-1))).bind λv98 =>
 (at_ v1.roots (w64 (v94-1))).bind λv99 =>
 some ((Gra.mk v1.nodes (v1.used.set (Int.toNat (w64 (v94-1))) true) (v1.roots.set (Int.toNat (w64 (v94-1))) v91),Ans.mk 0 (wu v94))))
 else
 (Qx p0 v57).bind λv100 =>
 some ((v100.1,v100.2))
theorem F_ref29_Do_ok{p0 p1 r}:Sm (QbA p0 p1) r->DCall Tryz.prog 40 [.agg [.sl (p0.nodes.map Nod.c),.sl (p0.used.map bC),.sl (p0.roots.map iC)],.agg [DI p1.code,DI p1.a,DI p1.b,DI p1.c_]] [] (.tup [.agg [.sl (r.1.nodes.map Nod.c),.sl (r.1.used.map bC),.sl (r.1.roots.map iC)],.agg [DI r.2.err,DU r.2.value]]) []:=by
 unfold QbA
 &mk0 Tryz.func40 ?_
 &ar ?_
 &xd λv1 hv1=>?_
 have q0:=cG r0 (Qgu hv1)
 &ar ?_
 &xx (Qp (Qcq (s:=4) (xs:=v1.nodes) (cd:=Nod.d) rfl (λ_=>rfl))) ?_
 &cU [] [(2,λb2=>.ptr 0 0 0),(3,λb2=>.ptr 1 0 0),(4,λb2=>.ptr 2 0 0),(5,λb2=>.ptr 3 0 0),(6,λb2=>.ptr 7 0 0)] [0,1,2,3,5,6] [] [(4,λb2=>⟨2,false,false,v1.nodes.map Nod.d⟩),(7,λb2=>bO 3 [.own 4 0 v1.nodes.length,.own 5 0 v1.used.length,.own 6 0 v1.roots.length])] 8 (λz3 hr3=>?_) λb2=>?_
 &ar ?_
 &ar ?_
 &xs (λh4=>?_) λh4=>?_
 &ca ?_
 &sq λK k=>?_
 &xs (λh6=>?_) λh6=>?_
 &ar ?_
 &ca ?_
 &xd λv7 hv7=>?_
 replace q0:=cG r0 (Qs hv7)
 &ar ?_
 &xr hr3 ?_
 ~fww r0
 &xs (λh8=>?_) λh8=>?_
 &ar ?_
 &ca ?_
 &xd λv9 hv9=>?_
 replace q0:=cG r0 (Qs hv9)
 &ar ?_
 &xr hr3 ?_
 ~fww r0
 &xs (λh10=>?_) λh10=>?_
 &ar ?_
 &ca ?_
 &xd λv11 hv11=>?_
 replace q0:=cG r0 (Qs hv11)
 &ar ?_
 &xr hr3 ?_
 ~fww r0
 &ar ?_
 &xs (λh12=>?_) λh12=>?_
 &ca ?_
 &xd λv13 hv13=>?_
 replace q0:=cG r0 (Qs hv13)
 &ar ?_
 &xr hr3 ?_
 ~fww r0
 &cb ?_
 &xd λv14 hv14=>?_
 replace q0:=cS r0 (QcF hv14)
 &ar ?_
 &sq λK k=>?_
 &ar ?_
 &xs (λh16=>?_) λh16=>?_
 &ca ?_
 &xd λv17 hv17=>?_
 replace q0:=cG r0 (Qs hv17)
 &ar ?_
 &xr hr3 ?_
 ~fww r0
 &cb ?_
 &xc λh18=>?_
 &ar ?_
 &goA (m_mkE (c:=uC) 0 h18 i26.ok i61.ok) ?_
 &au ?_
 &cT [7] [(4,λb19=>.ptr 2 0 0),(5,λb19=>.ptr 3 0 0),(6,λb19=>.ptr 7 0 0),(8,λb19=>.ptr 9 0 0)] [2,3,5,6,8] [] [(4,λb19=>⟨2,false,false,v1.nodes.map Nod.d⟩),(7,λb19=>bO 3 [.own 4 0 v1.nodes.length,.own 5 0 v1.used.length,.own 6 0 v1.roots.length]),(9,λb19=>bO 2 [.own 10 0 b19.length,.own 8 0 (List.replicate (Int.toNat p1.b) (0:Int)).length]),(10,λb19=>aO 1 (b19.map iC))] 11 (λz20=>?_) λb19=>?_
 &ar ?_
 &xx (Qj 9 0 1 Od rfl rfl) ?_
 &lP [7] [(3,λs23=>.ptr 1 0 0),(4,λs23=>.ptr 2 0 0),(5,λs23=>.ptr 3 0 0),(6,λs23=>.ptr 7 0 0),(8,λs23=>.ptr 9 0 0),(9,λs23=>DI s23.2)] [1,2,3,5,6,8] [] [(4,λs23=>⟨2,false,false,v1.nodes.map Nod.d⟩),(7,λs23=>bO 3 [.own 4 0 v1.nodes.length,.own 5 0 v1.used.length,.own 6 0 v1.roots.length]),(9,λs23=>bO 2 [.own 10 0 s23.1.length,.own 8 0 (List.replicate (Int.toNat p1.b) (0:Int)).length]),(10,λs23=>aO 1 (s23.1.map iC))] 11 λs23 y24 hq24=>?_
 &sq λK k=>?_
 &ar ?_
 &xs (λh26=>?_) λh26=>?_
 &ca ?_
 &sq λK k=>?_
 &au ?_
 &xc λh28=>?_
 &ar ?_
 &goA (Ql (c:=iC) ([(-1)]:List Int) i22.ok i3.ok) ?_
 &goA (QW (c:=iC) s23.1 [(-1)] h28 i22.ok i3.ok rfl rfl (.own rfl rfl Os (Qg (c:=iC) (λ_=>rfl) _)) rfl) ?_
 &au ?_
 &ar ?_
 ~wJ [(10,12)]
 &cb ?_
 &xo hq24 ?_
 ~wJ []
 &xc λh29=>?_
 &ar ?_
 &goA (m_litD [[.own 10 0 b19.length,.own 8 0 (List.replicate (Int.toNat p1.b) (0:Int)).length]] i39.ok i149.ok) ?_
 &goA (m_apD (cd:=Nod.d) v1.nodes (Nod.mk b19 (List.replicate (Int.toNat p1.b) (0:Int))) [.own 10 0 b19.length,.own 8 0 (List.replicate (Int.toNat p1.b) (0:Int)).length] h29 i39.ok i149.ok rfl rfl (by first | rfl | omega | (simp;done) | (simp;omega)) rfl rfl rfl) ?_
 &au ?_
 &xx (Qp (attL (s:=12) (t:=10) (j:=0) (c:=iC) [.dp 1 (b19.map iC),.own 8 0 (List.replicate (Int.toNat p1.b) (0:Int)).length] rfl rfl rfl rfl rfl rfl)) ?_
 &xx (Qp (attL (s:=12) (t:=8) (j:=1) (c:=uC) [.dp 1 (b19.map iC),.dp 1 ((List.replicate (Int.toNat p1.b) (0:Int)).map uC)] rfl rfl rfl rfl rfl rfl)) ?_
 &xx (Qp (tellL (s:=12) (Nod.mk b19 (List.replicate (Int.toNat p1.b) (0:Int))) rfl rfl)) ?_
 &xa λv30 hv30=>?_
 &xa λv31 hv31=>?_
 &ar ?_
 &goA (Xr (c:=bC) hv30.h true i4.ok) ?_
 &au ?_
 &goA (Xr (c:=iC) hv31.h (w64 (((v1.nodes++[Nod.mk b19 (List.replicate (Int.toNat p1.b) (0:Int))]).length:Int)-1)) i3.ok) ?_
 &au ?_
 &ar ?_
 &xr hr3 ?_
 ~fww r0
 &db ?_
 &xs (λh32=>?_) λh32=>?_
 &da ?_
 &xr hr3 ?_
 ~fww r0
 &db ?_
 &xs (λh33=>?_) λh33=>?_
 &ca ?_
 &xd λv34 hv34=>?_
 replace q0:=cS r0 (Qgt hv34)
 &ar ?_
 &xr hr3 ?_
 ~fww r0
 &db ?_
 &xs (λh35=>?_) λh35=>?_
 &ca ?_
 &sq λK k=>?_
 &xd λv37 hv37=>?_
 replace q0:=cS r0 (XW hv37)
 &ar ?_
 &ar ?_
 &xs (λh38=>?_) λh38=>?_
 &cb ?_
 &sq λK k=>?_
 &xd λv40 hv40=>?_
 replace q0:=cS r0 (XW hv40)
 &ar ?_
 &ar ?_
 &xs (λh41=>?_) λh41=>?_
 &cb ?_
 &sq λK k=>?_
 &xd λv43 hv43=>?_
 &xd λv44 hv44=>?_
 &ar ?_
 &goA (Jn r0 (ZP hv43) rfl ScS.nil) ?_
 &au ?_
 &goA (Jn r0 (ZP hv44) rfl ScS.nil) ?_
 &au ?_
 &xs (λh45=>?_) λh45=>?_
 &da ?_
 &xr hr3 ?_
 ~fww r0
 &db ?_
 &xr hr3 ?_
 ~fww r0
 &ca ?_
 &xd λv46 hv46=>?_
 replace q0:=cG r0 (Qs hv46)
 &ar ?_
 &xr hr3 ?_
 ~fww r0
 &ca ?_
 &xd λv47 hv47=>?_
 replace q0:=cG r0 (Qs hv47)
 &ar ?_
 &xr hr3 ?_
 ~fww r0
 &cb ?_
 &sq λK k=>?_
 &ar ?_
 &xs (λh49=>?_) λh49=>?_
 &ca ?_
 &ca ?_
 ~wJ []
 &db ?_
 &xs (λh50=>?_) λh50=>?_
 &ca ?_
 &ca ?_
 ~wJ []
 &db ?_
 &xs (λh51=>?_) λh51=>?_
 &ca ?_
 &ca ?_
 ~wJ []
 &db ?_
 &xs (λh52=>?_) λh52=>?_
 &ca ?_
 &ca ?_
 ~wJ []
 &db ?_
 &xs (λh53=>?_) λh53=>?_
 &ca ?_
 &ca ?_
 ~wJ []
 &db ?_
 &xs (λh54=>?_) λh54=>?_
 &ca ?_
 ~wJ []
 &cb ?_
 &xd λv55 hv55=>?_
 replace q0:=cG r0 (Qs hv55)
 &ar ?_
 &xr hr3 ?_
 ~fww r0
 &sq λK k=>?_
 &xd λv57 hv57=>?_
 replace q0:=cS r0 (XW hv57)
 &ar ?_
 &ar ?_
 &xs (λh58=>?_) λh58=>?_
 &cb ?_
 &xd λv59 hv59=>?_
 &xa λv60 hv60=>?_
 replace q0:=cS r0 (ZP hv59)
 &ar ?_
 &sq λK k=>?_
 &ar ?_
 &ar ?_
 &xs (λh62=>?_) λh62=>?_
 &ca ?_
 &xa λv63 hv63=>?_
 &xa λv64 hv64=>?_
 &ar ?_
 &goA (Xr (c:=bC) hv63.h false i4.ok) ?_
 &au ?_
 &goA (Xr (c:=iC) hv64.h (-1) i3.ok) ?_
 &au ?_
 &ar ?_
 ~fww r0
 &db ?_
 &xs (λh65=>?_) λh65=>?_
 &da ?_
 ~fww r0
 &db ?_
 &cT [2,3,4,5,6] [(13,λb66=>.ptr 8 0 0),(14,λb66=>DI b66)] [0,1,2,3,4,5,6,7,8] [] [] 9 (λz67=>?_) λb66=>?_
 &xs (λh68=>?_) λh68=>?_
 &ar ?_
 &da ?_
 ~wJ []
 &ar ?_
 &xs (λh69=>?_) λh69=>?_
 &da ?_
 ~wJ []
 &cb ?_
 ~wJ []
 &sq λK k=>?_
 &xs (λh71=>?_) λh71=>?_
 &ar ?_
 &ca ?_
 &xd λv72 hv72=>?_
 replace q0:=cG r0 (Qs hv72)
 &ar ?_
 ~fww r0
 &ar ?_
 &xs (λh73=>?_) λh73=>?_
 &ca ?_
 &xd λv74 hv74=>?_
 replace q0:=cG r0 (Qs hv74)
 &ar ?_
 ~fww r0
 &cb ?_
 &sq λK k=>?_
 &ar ?_
 &ar ?_
 &xs (λh76=>?_) λh76=>?_
 &ca ?_
 &xa λv77 hv77=>?_
 &ar ?_
 ~fww r0
 &db ?_
 &xs (λh78=>?_) λh78=>?_
 &ca ?_
 &xd λv79 hv79=>?_
 &xa λv80 hv80=>?_
 &xa λv81 hv81=>?_
 replace q0:=cS r0 (ZP hv79)
 &ar ?_
 &goA (m_ldD (j:=1) (c:=uC) (ys:=v80.data) hv80 [.dp 1 (v80.refs.map iC),.own 9 0 v80.data.length] i26.ok rfl rfl) ?_
 &au ?_
 &goA (Xr (c:=uC) hv81.h (wu p1.c_) i61.ok) ?_
 &au ?_
 &xx (Qp (attR (s:=4) (t:=9) (j:=1) (c:=uC) hv80 [.dp 1 (v80.refs.map iC),.dp 1 ((v80.data.set (Int.toNat p1.b) (wu p1.c_)).map uC)] rfl rfl rfl (by first | omega | (simp;done) | (simp;omega)) rfl rfl)) ?_
 &xx (Qp (tellR (s:=4) (Nod.mk v80.refs (v80.data.set (Int.toNat p1.b) (wu p1.c_))) rfl rfl)) ?_
 &ar ?_
 ~fww r0
 &db ?_
 &xs (λh82=>?_) λh82=>?_
 &ca ?_
 &sq λK k=>?_
 &xd λv84 hv84=>?_
 replace q0:=cS r0 (XW hv84)
 &ar ?_
 &ar ?_
 &xs (λh85=>?_) λh85=>?_
 &cb ?_
 &xd λv86 hv86=>?_
 &xa λv87 hv87=>?_
 &xd λv88 hv88=>?_
 &xa λv89 hv89=>?_
 &ar ?_
 &goA (Jn r0 (ZP hv86) rfl ScS.nil) ?_
 &au ?_
 &goA (m_ldD (j:=0) (c:=iC) (ys:=v87.refs) hv87 [.own 9 0 v87.refs.length,.dp 1 (v87.data.map uC)] i22.ok rfl rfl) ?_
 &au ?_
 &goA (Jn r0 (ZP hv88) rfl ScS.nil) ?_
 &au ?_
 &goA (Xr (c:=iC) hv89.h v88 i3.ok) ?_
 &au ?_
 &xx (Qp (attR (s:=4) (t:=9) (j:=0) (c:=iC) hv87 [.dp 1 ((v87.refs.set (Int.toNat p1.b) v88).map iC),.dp 1 (v87.data.map uC)] rfl rfl rfl (by first | omega | (simp;done) | (simp;omega)) rfl rfl)) ?_
 &xx (Qp (tellR (s:=4) (Nod.mk (v87.refs.set (Int.toNat p1.b) v88) v87.data) rfl rfl)) ?_
 &ar ?_
 ~fww r0
 &ca ?_
 &xd λv90 hv90=>?_
 replace q0:=cG r0 (Qs hv90)
 &ar ?_
 ~fww r0
 &cb ?_
 &xa λv91 hv91=>?_
 &ar ?_
 &sq λK k=>?_
 &ar ?_
 &xs (λh93=>?_) λh93=>?_
 &da ?_
 ~fww r0
 &cb ?_
 &xd λv94 hv94=>?_
 replace q0:=cS r0 (QcF hv94)
 &ar ?_
 &sq λK k=>?_
 &ar ?_
 &xs (λh96=>?_) λh96=>?_
 &ca ?_
 &xd λv97 hv97=>?_
 replace q0:=cG r0 (Qs hv97)
 &ar ?_
 ~fww r0
 &cb ?_
 &xa λv98 hv98=>?_
 &xa λv99 hv99=>?_
 &ar ?_
 &goA (Xr (c:=bC) hv98.h true i4.ok) ?_
 &au ?_
 &goA (Xr (c:=iC) hv99.h v91 i3.ok) ?_
 &au ?_
 &ar ?_
 ~fww r0
 &ca ?_
 &xd λv100 hv100=>?_
 replace q0:=cG r0 (Qs hv100)
 &ar ?_
 ~fww r0
noncomputable def XU(p0:Sp)(p1:Int):Option (List Int×Int) :=
 (ZD p0).bind λv2 =>
 if v2=true then
 ((Qah p0 p1).bind λv5 =>
 if v5=true then
 ((Z0 p0 p1).bind λv8 =>
 if v8=true then
 (some ((([]:List Int),5)))
 else
 (Qh (λ(s14:List Int×Int) =>
 if 0<=s14.2 then
 (if ((s14.1.length:Int)+[s14.2].length)*8<=140737488355328/\(s14.1.length:Int)+[s14.2].length<=9223372036854775807 then
 (at_ p0.fs s14.2).bind λv20 =>
 some (.go ((s14.1++[s14.2],v20.nx)))
 else none)
 else
 some (.out (s14.1))) (([]:List Int),p1)).bind λ(b10:List Int) =>
 some ((b10,0)))
 else
 some ((([]:List Int),2)))
 else
 some ((([]:List Int),1))
theorem QgK{p0 p1 r}:Sm (XU p0 p1) r->DCall Tryz.prog 120 [.agg [DI p0.sh,.sl (p0.ws.map uC),.sl (p0.fs.map frC)],DI p1] [] (.tup [.own 0 0 r.1.length,DI r.2]) [(0,aO 1 (r.1.map iC))]:=by
 unfold XU
 &mk0 Tryz.func120 ?_
 &ar ?_
 &sq λK k=>?_
 &xd λv2 hv2=>?_
 have q0:=cS r0 (QC hv2)
 &ar ?_
 &xs (λh3=>?_) λh3=>?_
 &cb ?_
 &sq λK k=>?_
 &xd λv5 hv5=>?_
 replace q0:=cS r0 (F_chain_in_ok hv5)
 &ar ?_
 &xs (λh6=>?_) λh6=>?_
 &cb ?_
 &sq λK k=>?_
 &xd λv8 hv8=>?_
 replace q0:=cS r0 (QcS hv8)
 &ar ?_
 &xs (λh9=>?_) λh9=>?_
 &da ?_
 &xx (Qz 4 1 Od rfl) ?_
 ~ftt [(0,1)]
 &db ?_
 &cT [] [(6,λb10=>.own 1 0 b10.length)] [] [] [(1,λb10=>aO 1 (b10.map iC))] 2 (λz11=>?_) λb10=>?_
 &ar ?_
 &xx (Qz 6 1 Od rfl) ?_
 &lP [] [(2,λs14=>.ptr 0 0 0),(6,λs14=>.own 1 0 s14.1.length),(7,λs14=>DI s14.2)] [0] [] [(1,λs14=>aO 1 (s14.1.map iC))] 2 λs14 y15 hq15=>?_
 &sq λK k=>?_
 &ar ?_
 &xs (λh17=>?_) λh17=>?_
 &ca ?_
 &sq λK k=>?_
 &au ?_
 &xc λh19=>?_
 &ar ?_
 &goA (Ql (c:=iC) ([s14.2]:List Int) i22.ok i3.ok) ?_
 &goA (QW (c:=iC) s14.1 [s14.2] h19 i22.ok i3.ok rfl rfl (.own rfl rfl Os (Qg (c:=iC) (λ_=>rfl) _)) rfl) ?_
 &au ?_
 &xa λv20 hv20=>?_
 &ar ?_
 ~wJ [(1,3)]
 &cb ?_
 &xo hq15 ?_
 ~wJ []
 &ar ?_
 ~ftt [(0,1)]
 &da ?_
 &xx (Qz 4 1 Od rfl) ?_
 ~ftt [(0,1)]
 &da ?_
 &xx (Qz 4 1 Od rfl) ?_
 ~ftt [(0,1)]
noncomputable def Qaw(p0:Sp)(p1:Int):Option (Int×Int) :=
 (XS p0).bind λv2 =>
 if v2=true then
 (if p1<0 then
 (some ((0,2)))
 else
 if (p0.fs.length:Int)<=p1 then
 (some ((0,2)))
 else
 if 0<=wu p0.sh then
 some ((Qa9 .i64 p1 (wu p0.sh),0))
 else none)
 else
 some ((0,1))
theorem QgJ{p0 p1 r}:Sm (Qaw p0 p1) r->DCall Tryz.prog 83 [.agg [DI p0.sh,.sl (p0.ws.map uC),.sl (p0.fs.map frC)],DI p1] [] (.tup [DI r.1,DI r.2]) []:=by
 unfold Qaw
 &mk0 Tryz.func83 ?_
 &ar ?_
 &sq λK k=>?_
 &xd λv2 hv2=>?_
 have q0:=cS r0 (Qee hv2)
 &ar ?_
 &xs (λh3=>?_) λh3=>?_
 &cb ?_
 &sq λK k=>?_
 &xs (λh5=>?_) λh5=>?_
 &ar ?_
 &da ?_
 ~ftt r0
 &ar ?_
 &xs (λh6=>?_) λh6=>?_
 &da ?_
 ~ftt r0
 &cb ?_
 &xc λh7=>?_
 &ar ?_
 ~ftt r0
 &da ?_
 ~ftt r0
noncomputable def ZF(p0:Sp)(p1:Int)(p2:Int):Option (Int×Int) :=
 (ZD p0).bind λv2 =>
 if v2=true then
 (if p1<0 then
 (some ((0,2)))
 else
 if (p0.ws.length:Int)<=p1 then
 (some ((0,2)))
 else
 if p2<0 then
 (some ((0,2)))
 else
 if 0<=wu p0.sh then
 (JC p0).bind λv9 =>
 (JC p0).bind λv10 =>
 (Z0 p0 (QbO .i64 p1 (wu p0.sh))).bind λv12 =>
 if v12=true then
 (some ((0,5)))
 else
 if (p0.ws.length:Int)<p2 then
 (some ((0,2)))
 else
 bndR (Qh (λ(s19:Int×Int) =>
 if 0<=s19.1 then
 (if s19.2<v10 then
 (some (.out (.inr ((w64 ((Qa9 .i64 s19.1 (wu p0.sh))+s19.2),0)))))
 else
 (at_ p0.fs s19.1).bind λv25 =>
 some (.go ((v25.nx,w64 (s19.2-v10)))))
 else
 some (.out (.inl (())))) (QbO .i64 p1 (wu p0.sh),w64 ((bits .and .i64 p1 (w64 (v9-1)))+p2))) λ(b16:Unit) =>
 some ((0,2))
 else none)
 else
 some ((0,1))
theorem JZ{p0 p1 p2 r}:Sm (ZF p0 p1 p2) r->DCall Tryz.prog 84 [.agg [DI p0.sh,.sl (p0.ws.map uC),.sl (p0.fs.map frC)],DI p1,DI p2] [] (.tup [DI r.1,DI r.2]) []:=by
 unfold ZF
 &mk0 Tryz.func84 ?_
 &ar ?_
 &sq λK k=>?_
 &xd λv2 hv2=>?_
 have q0:=cS r0 (QC hv2)
 &ar ?_
 &xs (λh3=>?_) λh3=>?_
 &cb ?_
 &sq λK k=>?_
 &xs (λh5=>?_) λh5=>?_
 &ar ?_
 &da ?_
 ~ftt r0
 &xs (λh6=>?_) λh6=>?_
 &ar ?_
 &da ?_
 ~ftt r0
 &ar ?_
 &xs (λh7=>?_) λh7=>?_
 &da ?_
 ~ftt r0
 &cb ?_
 &xc λh8=>?_
 &xd λv9 hv9=>?_
 &xd λv10 hv10=>?_
 &ar ?_
 &goA (Jn r0 (QcQ hv9) rfl ScS.nil) ?_
 &au ?_
 &goA (Jn r0 (QcQ hv10) rfl ScS.nil) ?_
 &au ?_
 &sq λK k=>?_
 &xd λv12 hv12=>?_
 replace q0:=cS r0 (QcS hv12)
 &ar ?_
 &xs (λh13=>?_) λh13=>?_
 &da ?_
 ~ftt r0
 &cb ?_
 &sq λK k=>?_
 &ar ?_
 &xs (λh15=>?_) λh15=>?_
 &da ?_
 ~ftt r0
 &cb ?_
 &cU [] [] [] [] [] 0 (λz17 hr17=>?_) λb16=>?_
 &ar ?_
 &lP [10] [(3,λs19=>.ptr 0 0 0),(11,λs19=>DI s19.1),(12,λs19=>DI s19.2)] [0] [] [] 1 λs19 y20 hq20=>?_
 &sq λK k=>?_
 &ar ?_
 &xs (λh22=>?_) λh22=>?_
 &ca ?_
 &sq λK k=>?_
 &ar ?_
 &xs (λh24=>?_) λh24=>?_
 &da ?_
 &xo hq20 ?_
 &xr hr17 ?_
 ~ftt r0
 &cb ?_
 &xa λv25 hv25=>?_
 &ar ?_
 ~wJ []
 &cb ?_
 &xo hq20 ?_
 ~wJ []
 &ar ?_
 ~ftt r0
 &da ?_
 ~ftt r0
noncomputable def ZV(p0:Int):Option (Int×Int×Int×Bool×Int) :=
 if (bits .and .u64 p0 1)=1 then
 ((Xp p0 1 63).bind λv3 =>
 if 16383<v3.1 then
 (some ((0,0,0,false,12)))
 else
 some ((0,0,w64 v3.1,true,0)))
 else
 (Xp p0 1 7).bind λv6 =>
 (Xp p0 8 56).bind λv7 =>
 if 15<v6.1 then
 (some ((0,0,0,false,12)))
 else
 if v7.1<(wu (1+v6.1)) then
 (some ((0,0,0,false,12)))
 else
 if (wu ((wu (1+v6.1))+32))<v7.1 then
 (some ((0,0,0,false,12)))
 else
 some ((w64 v6.1,w64 (wu ((wu (v7.1-1))-v6.1)),0,false,0))
theorem Qbn{p0 r}:Sm (ZV p0) r->DCall Tryz.prog 85 [DU p0] [] (.tup [DI r.1,DI r.2.1,DI r.2.2.1,DB r.2.2.2.1,DI r.2.2.2.2]) []:=by
 unfold ZV
 &mk0 Tryz.func85 ?_
 &ar ?_
 &sq λK k=>?_
 &ar ?_
 &xs (λh2=>?_) λh2=>?_
 &ca ?_
 &xd λv3 hv3=>?_
 have q0:=cS r0 (Qb9 hv3)
 &ar ?_
 &sq λK k=>?_
 &ar ?_
 &xs (λh5=>?_) λh5=>?_
 &da ?_
 ~Qby r0
 &db ?_
 ~Qby r0
 &cb ?_
 &xd λv6 hv6=>?_
 have q0:=cS r0 (Qb9 hv6)
 &ar ?_
 &xd λv7 hv7=>?_
 replace q0:=cS r0 (Qb9 hv7)
 &ar ?_
 &sq λK k=>?_
 &xs (λh9=>?_) λh9=>?_
 &ar ?_
 &da ?_
 ~Qby r0
 &xs (λh10=>?_) λh10=>?_
 &ar ?_
 &da ?_
 ~Qby r0
 &ar ?_
 &xs (λh11=>?_) λh11=>?_
 &da ?_
 ~Qby r0
 &db ?_
 ~Qby r0
noncomputable def Z3(p0:List Qe)(p1:Int)(p2:Int):Option (Int×Bool) :=
 (Qu p0 (Qe.mk p1 p2 ([]:List Int))).bind λv1 =>
 some ((v1.1,v1.2))
theorem Qcc{p0 p1 p2 r}:Sm (Z3 p0 p1 p2) r->DCall Tryz.prog 48 [.sl (p0.map Qe.c),DI p1,DI p2] [] (.tup [DI r.1,DB r.2]) []:=by
 unfold Z3
 &mk0 Tryz.func48 ?_
 &ar ?_
 &xd λv1 hv1=>?_
 have q0:=cS r0 (J3 hv1)
 &ar ?_
 ~ftt r0
noncomputable def Qw(p0:List Int)(p1:Int):Option (Int×Bool) :=
 (Qh (λ(s4:Int×Int) =>
 if s4.1<s4.2 then
 ((at_ p0 (w64 (QbO .u64 (wu (w64 (s4.1+s4.2))) 1))).bind λv8 =>
 (Jf v8 p1).bind λv9 =>
 if v9=true then
 (some (.go ((w64 ((w64 (QbO .u64 (wu (w64 (s4.1+s4.2))) 1))+1),s4.2))))
 else
 some (.go ((s4.1,w64 (QbO .u64 (wu (w64 (s4.1+s4.2))) 1)))))
 else
 some (.out (s4.1))) (0,(p0.length:Int))).bind λ(b1:Int) =>
 if b1<(p0.length:Int) then
 ((at_ p0 b1).bind λv12 =>
 if v12=p1 then
 (some ((b1,true)))
 else
 (Q7 v12).bind λv14 =>
 if v14=true then
 ((Q7 p1).bind λv16 =>
 some ((b1,v16)))
 else
 some ((b1,false)))
 else
 some ((b1,false))
theorem Xu{p0 p1 r}:Sm (Qw p0 p1) r->DCall Tryz.prog 49 [.sl (p0.map iC),DI p1] [] (.tup [DI r.1,DB r.2]) []:=by
 unfold Qw
 &mk0 Tryz.func49 ?_
 &ar ?_
 &ar ?_
 &ar ?_
 &cT [0,1,6] [(7,λb1=>DI b1)] [] [] [] 0 (λz2=>?_) λb1=>?_
 &au ?_
 &lP [0,1,6] [(7,λs4=>DI s4.1),(8,λs4=>DI s4.2)] [] [] [] 0 λs4 y5 hq5=>?_
 &sq λK k=>?_
 &ar ?_
 &xs (λh7=>?_) λh7=>?_
 &da ?_
 &xa λv8 hv8=>?_
 &xd λv9 hv9=>?_
 have q0:=cS r0 (QeI hv9)
 &ar ?_
 &xs (λh10=>?_) λh10=>?_
 &da ?_
 ~wJ []
 &db ?_
 ~wJ []
 &cb ?_
 &xo hq5 ?_
 ~wJ []
 &xs (λh11=>?_) λh11=>?_
 &xa λv12 hv12=>?_
 &xs (λh13=>?_) λh13=>?_
 &ar ?_
 ~ftt r0
 &xd λv14 hv14=>?_
 &xs (λh15=>?_) λh15=>?_
 &xd λv16 hv16=>?_
 &ar ?_
 &go (Jn r0 (XC hv14) rfl ScS.nil) ?_ (gY (decide_eq_false h13))
 &au ?_
 &go (Jn r0 (XC hv16) rfl ScS.nil) ?_ (gY h15)
 &au ?_
 ~ftt r0
 have q0:=cS r0 (XC hv14)
 &ar ?_
 ~ftt r0
 &ar ?_
 ~ftt r0
end Go.Proofs.YtkfnkecgcdhncaaGreat
