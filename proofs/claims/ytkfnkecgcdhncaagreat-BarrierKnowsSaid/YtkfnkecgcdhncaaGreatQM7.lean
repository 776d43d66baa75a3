/- Parts of the proof. No condition. -/
import Derived.Test.YtkfnkecgcdhncaaGreatQM0
import Derived.Test.YtkfnkecgcdhncaaGreatQM4
import Derived.Test.YtkfnkecgcdhncaaGreatQM5
import Derived.Test.YtkfnkecgcdhncaaGreatQM6
namespace Go.Proofs.YtkfnkecgcdhncaaGreat
open Go.RowKit
set_option linter.unusedSimpArgs false
set_option linter.unusedVariables false
set_option maxRecDepth 20000
set_option maxHeartbeats 40000000
noncomputable def XM(p0:List (List Inc))(p1:Inc):Option (List (List Inc)×Int) :=
 if p1.belt<0 then
 (some ((([]:List (List Inc)),1)))
 else
 if (p0.length:Int)<=p1.belt then
 (some ((([]:List (List Inc)),1)))
 else
 (QS p0 p1.belt).bind λv5 =>
 if v5.2=true then
 (if p1.seq<=v5.1.seq then
 (some ((([]:List (List Inc)),5)))
 else
 (Q5 p0).bind λv8 =>
 (at_ v8 p1.belt).bind λv9 =>
 if ((v9.length:Int)+[p1].length)*40<=140737488355328/\(v9.length:Int)+[p1].length<=9223372036854775807 then
 some ((v8.set (Int.toNat p1.belt) (v9++[p1]),0))
 else none)
 else
 (Q5 p0).bind λv11 =>
 (at_ v11 p1.belt).bind λv12 =>
 if ((v12.length:Int)+[p1].length)*40<=140737488355328/\(v12.length:Int)+[p1].length<=9223372036854775807 then
 some ((v11.set (Int.toNat p1.belt) (v12++[p1]),0))
 else none
theorem Qbt{p0 p1 r}:Sm (XM p0 p1) r->DCall Tryz.prog 142 [.sl (p0.map (lC Inc.c)),.agg [DI p1.seq,DI p1.belt,DI p1.first,DI p1.last,DI p1.words]] [] (.tup [.own 0 0 r.1.length,DI r.2]) [(0,⟨1,false,false,r.1.map (lD 5 Inc.c)⟩)]:=by
 unfold XM
 &mk0 Tryz.func142 ?_
 &ar ?_
 &sq λK k=>?_
 &xs (λh2=>?_) λh2=>?_
 &ar ?_
 &da ?_
 &xx (Qz 4 1 Od rfl) ?_
 &xx (Qp (Qdb (cd:=(lD 5 Inc.c)) (s:=1) rfl)) ?_
 ~ftt [(0,1)]
 &ar ?_
 &xs (λh3=>?_) λh3=>?_
 &da ?_
 &xx (Qz 4 1 Od rfl) ?_
 &xx (Qp (Qdb (cd:=(lD 5 Inc.c)) (s:=1) rfl)) ?_
 ~ftt [(0,1)]
 &cb ?_
 &sq λK k=>?_
 &xd λv5 hv5=>?_
 have q0:=cS r0 (Z4 hv5)
 &ar ?_
 &xs (λh6=>?_) λh6=>?_
 &ar ?_
 &xs (λh7=>?_) λh7=>?_
 &da ?_
 &xx (Qz 4 1 Od rfl) ?_
 &xx (Qp (Qdb (cd:=(lD 5 Inc.c)) (s:=2) rfl)) ?_
 ~ftt [(0,2)]
 &cb ?_
 &xd λv8 hv8=>?_
 replace q0:=cG r0 (ZU hv8)
 &ar ?_
 &xx (Qp (Qcq (s:=2) (xs:=v8) (cd:=(lD 5 Inc.c)) rfl (λ_=>rfl))) ?_
 &xa λv9 hv9=>?_
 &xc λh10=>?_
 &ar ?_
 &goA (m_ldD (j:=0) (c:=Inc.c) (ys:=v9) hv9 [.own 3 0 v9.length] i52.ok rfl rfl) ?_
 &au ?_
 &goA (Ql (c:=Inc.c) ([p1]:List Inc) i52.ok i56.ok) ?_
 &goA (QW (c:=Inc.c) v9 [p1] h10 i52.ok i56.ok rfl rfl (.own rfl rfl Os (Qg (c:=Inc.c) (λ_=>rfl) _)) rfl) ?_
 &goA ((m_iaO hv9.h i30.ok i52.ok rfl rfl rfl)) ?_
 &goA (m_stR hv9 [.own 5 0 (v9++[p1]).length] (.inr rfl) i52.ok) ?_
 &au ?_
 &xx (Qp (attR (s:=2) (t:=5) (j:=0) (c:=Inc.c) hv9 [.dp 5 ((v9++[p1]).map Inc.c)] rfl rfl rfl rfl rfl rfl)) ?_
 &xx (Qp (tellR (s:=2) (v9++[p1]) rfl rfl)) ?_
 &ar ?_
 ~ftt [(0,2)]
 &ar ?_
 &cb ?_
 &xd λv11 hv11=>?_
 replace q0:=cG r0 (ZU hv11)
 &ar ?_
 &xx (Qp (Qcq (s:=2) (xs:=v11) (cd:=(lD 5 Inc.c)) rfl (λ_=>rfl))) ?_
 &xa λv12 hv12=>?_
 &xc λh13=>?_
 &ar ?_
 &goA (m_ldD (j:=0) (c:=Inc.c) (ys:=v12) hv12 [.own 3 0 v12.length] i52.ok rfl rfl) ?_
 &au ?_
 &goA (Ql (c:=Inc.c) ([p1]:List Inc) i52.ok i56.ok) ?_
 &goA (QW (c:=Inc.c) v12 [p1] h13 i52.ok i56.ok rfl rfl (.own rfl rfl Os (Qg (c:=Inc.c) (λ_=>rfl) _)) rfl) ?_
 &goA ((m_iaO hv12.h i30.ok i52.ok rfl rfl rfl)) ?_
 &goA (m_stR hv12 [.own 5 0 (v12++[p1]).length] (.inr rfl) i52.ok) ?_
 &au ?_
 &xx (Qp (attR (s:=2) (t:=5) (j:=0) (c:=Inc.c) hv12 [.dp 5 ((v12++[p1]).map Inc.c)] rfl rfl rfl rfl rfl rfl)) ?_
 &xx (Qp (tellR (s:=2) (v12++[p1]) rfl rfl)) ?_
 &ar ?_
 ~ftt [(0,2)]
noncomputable def Jy(p0:Sp)(p1:Int)(p2:Int)(p3:Int):Option (Int×List Int) :=
 (XP p2 p3).bind λv1 =>
 if v1.2=0 then
 ((QM p0 p1 (w64 (p2+p3))).bind λv5 =>
 if v5.2=0 then
 ((at_ p0.ws p1).bind λv7 =>
 (Qh (λ(s11:List Int×Int) =>
 if s11.2<=(w64 (p2+p3)) then
 ((QM (Sp.mk p0.sh s11.1 p0.fs) p1 s11.2).bind λv16 =>
 (at_ s11.1 v16.1).bind λv17 =>
 some (.go ((s11.1.set (Int.toNat v16.1) 0,w64 (s11.2+1)))))
 else
 some (.out (s11.1))) (p0.ws.set (Int.toNat p1) v1.1,1)).bind λ(b8:List Int) =>
 some ((0,b8)))
 else
 some ((v5.2,p0.ws)))
 else
 some ((v1.2,p0.ws))
theorem QgC{p0 p1 p2 p3 r}:Sm (Jy p0 p1 p2 p3) r->DCall Tryz.prog 141 [.agg [DI p0.sh,.own 0 0 p0.ws.length,.sl (p0.fs.map frC)],DI p1,DI p2,DI p3] [(0,aO 1 (p0.ws.map uC))] (DI r.1) [(0,aO 1 (r.2.map uC))]:=by
 unfold Jy
 &mk0 Tryz.func141 ?_
 &ar ?_
 &xd λv1 hv1=>?_
 have q0:=cS r0 (Qa2 hv1)
 &ar ?_
 &sq λK k=>?_
 &ar ?_
 &xs (λh3=>?_) λh3=>?_
 &cb ?_
 &sq λK k=>?_
 &xd λv5 hv5=>?_
 replace q0:=cS r0 (QP hv5)
 &ar ?_
 &ar ?_
 &xs (λh6=>?_) λh6=>?_
 &cb ?_
 &xa λv7 hv7=>?_
 &ar ?_
 &goA (Xr (c:=uC) hv7.h v1.1 i61.ok) ?_
 &au ?_
 &cT [] [] [] [] [(0,λb8=>aO 1 (b8.map uC))] 1 (λz9=>?_) λb8=>?_
 &ar ?_
 &lP [1,2,3] [(4,λs11=>.ptr 1 0 0),(13,λs11=>DI s11.2)] [] [(1,[(1,λs11=>.own 0 0 s11.1.length)])] [(0,λs11=>aO 1 (s11.1.map uC))] 2 λs11 y12 hq12=>?_
 &sq λK k=>?_
 &ar ?_
 &xs (λh14=>?_) λh14=>?_
 &ca ?_
 &sq λK k=>?_
 &au ?_
 &xd λv16 hv16=>?_
 replace q0:=cS r0 (QP hv16)
 &ar ?_
 &xa λv17 hv17=>?_
 &ar ?_
 &goA (Xr (c:=uC) hv17.h 0 i61.ok) ?_
 &au ?_
 &ar ?_
 ~wJ []
 &cb ?_
 &xo hq12 ?_
 ~wJ []
 &ar ?_
 ~ft r1
 &da ?_
 ~ft r1
 &da ?_
 ~ft r1
noncomputable def Jr(p0:Rts)(p1:Int):Option (Rts×Int×Int) :=
 (XZ p0).bind λv2 =>
 if v2=true then
 (bndR (Qh (λ(s7:Int) =>
 if s7<(p0.used.length:Int) then
 ((at_ p0.used s7).bind λv12 =>
 if v12=true then
 (some (.go (w64 (s7+1))))
 else
 (ZY p0).bind λv14 =>
 (at_ v14.used s7).bind λv15 =>
 (at_ v14.refs s7).bind λv16 =>
 some (.out (.inr ((Rts.mk (v14.used.set (Int.toNat s7) true) (v14.refs.set (Int.toNat s7) p1),w64 (s7+1),0)))))
 else
 some (.out (.inl (())))) 0) λ(b4:Unit) =>
 some ((Rts.mk ([]:List Bool) ([]:List Int),0,15)))
 else
 some ((Rts.mk ([]:List Bool) ([]:List Int),0,1))
theorem QcH{p0 p1 r}:Sm (Jr p0 p1) r->DCall Tryz.prog 108 [.agg [.sl (p0.used.map bC),.sl (p0.refs.map uC)],DU p1] [] (.tup [.agg [.own 0 0 r.1.used.length,.own 1 0 r.1.refs.length],DI r.2.1,DI r.2.2]) [(0,aO 1 (r.1.used.map bC)),(1,aO 1 (r.1.refs.map uC))]:=by
 unfold Jr
 &mk0 Tryz.func108 ?_
 &ar ?_
 &sq λK k=>?_
 &xd λv2 hv2=>?_
 have q0:=cS r0 (Qce hv2)
 &ar ?_
 &xs (λh3=>?_) λh3=>?_
 &cb ?_
 &cU [] [(4,λb4=>.ptr 1 0 0)] [1] [] [] 2 (λz5 hr5=>?_) λb4=>?_
 &ar ?_
 &lP [1,15,16] [(2,λs7=>.ptr 0 0 0),(4,λs7=>.ptr 1 0 0),(17,λs7=>DI s7)] [0,1] [] [] 2 λs7 y8 hq8=>?_
 &ar ?_
 &sq λK k=>?_
 &xs (λh10=>?_) λh10=>?_
 &ca ?_
 &sq λK k=>?_
 &au ?_
 &xa λv12 hv12=>?_
 &ar ?_
 &ar ?_
 &xs (λh13=>?_) λh13=>?_
 &db ?_
 ~wJ []
 &ca ?_
 &xd λv14 hv14=>?_
 replace q0:=cS r0 (JQ hv14)
 &ar ?_
 &xa λv15 hv15=>?_
 &xa λv16 hv16=>?_
 &ar ?_
 &goA (Xr (c:=bC) hv15.h true i4.ok) ?_
 &au ?_
 &goA (Xr (c:=uC) hv16.h p1 i61.ok) ?_
 &au ?_
 &ar ?_
 &xo hq8 ?_
 &xr hr5 ?_
 ~fwtt [(0,2),(1,3)]
 &cb ?_
 &xo hq8 ?_
 ~wJ []
 &ar ?_
 &xx (Qj 1 0 1 Od rfl rfl) ?_
 &xx (Qj 1 1 1 Od rfl rfl) ?_
 ~fwtt [(0,2),(1,3)]
 &da ?_
 &xx (Qj 1 0 1 Od rfl rfl) ?_
 &xx (Qj 1 1 1 Od rfl rfl) ?_
 ~fwtt [(0,2),(1,3)]
noncomputable def Xb(p0:Hp):Option Int :=
 (JS p0.belts).bind λv1 =>
 some (v1)
theorem QdB{p0 r}:Sm (Xb p0) r->DCall Tryz.prog 68 [.agg [.lit (.string p0.config.name),.sl (p0.config.rules.map Rul.c),DI p0.config.full,DI p0.space.sh,.sl (p0.space.ws.map uC),.sl (p0.space.fs.map frC),.sl (p0.belts.map (lC Inc.c)),DI p0.seq,.sl (p0.sets.map Qe.c),.sl (p0.roots.used.map bC),.sl (p0.roots.refs.map uC),DI p0.since,DI p0.stats.allocated,DI p0.stats.objects,DI p0.stats.collections,DI p0.stats.steps,DI p0.stats.rounds,DI p0.stats.condemned,DI p0.stats.copied,DI p0.stats.entries,DI p0.stats.work,DB p0.dead]] [] (DI r) []:=by
 unfold Xb
 &mk0 Tryz.func68 ?_
 &ar ?_
 &xd λv1 hv1=>?_
 have q0:=cS r0 (Qe9 hv1)
 &ar ?_
 ~ft r0
noncomputable def JO(p0:Rts)(p1:Int):Option Int :=
 (XZ p0).bind λv2 =>
 if v2=true then
 (if p1<1 then
 (some (14))
 else
 if 32<p1 then
 (some (14))
 else
 (at_ p0.used (w64 (p1-1))).bind λv7 =>
 if v7=true then
 (some (0))
 else
 some (14))
 else
 some (1)
theorem Qe6{p0 p1 r}:Sm (JO p0 p1) r->DCall Tryz.prog 115 [.agg [.sl (p0.used.map bC),.sl (p0.refs.map uC)],DI p1] [] (DI r) []:=by
 unfold JO
 &mk0 Tryz.func115 ?_
 &ar ?_
 &sq λK k=>?_
 &xd λv2 hv2=>?_
 have q0:=cS r0 (Qce hv2)
 &ar ?_
 &xs (λh3=>?_) λh3=>?_
 &cb ?_
 &sq λK k=>?_
 &xs (λh5=>?_) λh5=>?_
 &ar ?_
 &da ?_
 ~ft r0
 &xs (λh6=>?_) λh6=>?_
 &ar ?_
 &da ?_
 ~ft r0
 &xa λv7 hv7=>?_
 &ar ?_
 &xs (λh8=>?_) λh8=>?_
 &db ?_
 ~ft r0
 &da ?_
 ~ft r0
 &da ?_
 ~ft r0
noncomputable def Qan(p0:Gra):Option Int :=
 ((JJ p0).bind λv3 =>
 Qh (λ(s5:Int×Int) =>
 if s5.2<(v3.length:Int) then
 ((at_ v3 s5.2).bind λv10 =>
 (at_ p0.nodes v10).bind λv11 =>
 some (.go ((w64 (s5.1+(w64 ((w64 (1+(v11.refs.length:Int)))+(v11.data.length:Int)))),w64 (s5.2+1)))))
 else
 some (.out (s5.1))) (0,0)).bind λ(b1:Int) =>
 some (b1)
theorem Qgt{p0 r}:Sm (Qan p0) r->DCall Tryz.prog 78 [.agg [.sl (p0.nodes.map Nod.c),.sl (p0.used.map bC),.sl (p0.roots.map iC)]] [] (DI r) []:=by
 unfold Qan
 &mk0 Tryz.func78 ?_
 &ar ?_
 &ar ?_
 &cT [] [(3,λb1=>DI b1)] [] [] [] 0 (λz2=>?_) λb1=>?_
 &xd λv3 hv3=>?_
 have q0:=cS r0 (Qe0 hv3)
 &ar ?_
 &lP [8] [(1,λs5=>.ptr 0 0 0),(3,λs5=>DI s5.1),(7,λs5=>.own 1 0 v3.length),(9,λs5=>DI s5.2)] [0,1] [] [] 2 λs5 y6 hq6=>?_
 &ar ?_
 &sq λK k=>?_
 &xs (λh8=>?_) λh8=>?_
 &ca ?_
 &sq λK k=>?_
 &au ?_
 &xa λv10 hv10=>?_
 &ar ?_
 &xa λv11 hv11=>?_
 &ar ?_
 &ar ?_
 ~wJ []
 &cb ?_
 &xo hq6 ?_
 ~wJ []
 &ar ?_
 ~ft r0
noncomputable def ZD(p0:Sp):Option Bool :=
 (X3 p0.sh).bind λv2 =>
 if v2=true then
 (if (p0.fs.length:Int)<2 then
 (some (false))
 else
 if 64<(p0.fs.length:Int) then
 (some (false))
 else
 if 0<=wu p0.sh then
 if (p0.ws.length:Int)=(Qa9 .i64 (p0.fs.length:Int) (wu p0.sh)) then
 (bndR (Qh (λ(s11:Int×Int) =>
 if s11.2<(p0.fs.length:Int) then
 ((at_ p0.fs s11.2).bind λv16 =>
 if v16.ow=(-1) then
 (if v16.st=(-1) then
 (if v16.nx=(-1) then
 (if 0<=Qa9 .i64 s11.2 (wu p0.sh)/\Qa9 .i64 s11.2 (wu p0.sh)<=Qa9 .i64 (w64 (s11.2+1)) (wu p0.sh)/\Qa9 .i64 (w64 (s11.2+1)) (wu p0.sh)<=p0.ws.length then
 (Qav ((p0.ws.take (Int.toNat (Qa9 .i64 (w64 (s11.2+1)) (wu p0.sh)))).drop (Int.toNat (Qa9 .i64 s11.2 (wu p0.sh))))).bind λv23 =>
 if v23=true then
 (some (.go ((s11.1,w64 (s11.2+1)))))
 else
 some (.out (.inr (false)))
 else none)
 else
 some (.out (.inr (false))))
 else
 some (.out (.inr (false))))
 else
 if v16.ow<0 then
 (some (.out (.inr (false))))
 else
 if 4294967295<v16.ow then
 (some (.out (.inr (false))))
 else
 if v16.st<0 then
 (some (.out (.inr (false))))
 else
 if (Int.tmod v16.st 4294967296)=v16.ow then
 (if 4<=(w64 (Int.tdiv v16.st 4294967296)) then
 (some (.out (.inr (false))))
 else
 if v16.nx<(-1) then
 (some (.out (.inr (false))))
 else
 if (p0.fs.length:Int)<=v16.nx then
 (some (.out (.inr (false))))
 else
 if v16.nx=s11.2 then
 (some (.out (.inr (false))))
 else
 if v16.nx<0 then
 (some (.go ((s11.1,w64 (s11.2+1)))))
 else
 (at_ p0.fs v16.nx).bind λv37 =>
 if 0<=wu v16.nx then
 if (bits .and .u64 (QbO .u64 s11.1 (wu v16.nx)) 1)=1 then
 (some (.out (.inr (false))))
 else
 if v37.ow=v16.ow then
 (if v37.st=v16.st then
 (some (.go ((bits .or .u64 s11.1 (Qa9 .u64 1 (wu v16.nx)),w64 (s11.2+1)))))
 else
 some (.out (.inr (false))))
 else
 some (.out (.inr (false)))
 else none)
 else
 some (.out (.inr (false))))
 else
 some (.out (.inl (())))) (0,0)) λ(b8:Unit) =>
 (Xe p0).bind λv42 =>
 some (v42))
 else
 some (false)
 else none)
 else
 some (false)
theorem QC{p0 r}:Sm (ZD p0) r->DCall Tryz.prog 29 [.agg [DI p0.sh,.sl (p0.ws.map uC),.sl (p0.fs.map frC)]] [] (DB r) []:=by
 unfold ZD
 &mk0 Tryz.func29 ?_
 &ar ?_
 &ar ?_
 &sq λK k=>?_
 &xd λv2 hv2=>?_
 &xs (λh3=>?_) λh3=>?_
 &xs (λh4=>?_) λh4=>?_
 have q0:=cS r0 (Zc hv2)
 &ar ?_
 &da ?_
 ~ft r0
 &xs (λh5=>?_) λh5=>?_
 have q0:=cS r0 (Zc hv2)
 &ar ?_
 &da ?_
 ~ft r0
 &xc λh6=>?_
 have q0:=cS r0 (Zc hv2)
 &ar ?_
 &xs (λh7=>?_) λh7=>?_
 &db ?_
 &cU [] [(1,λb8=>.ptr 0 0 0)] [0] [] [] 1 (λz9 hr9=>?_) λb8=>?_
 &ar ?_
 &lP [3,35,36] [(1,λs11=>.ptr 0 0 0),(4,λs11=>DU s11.1),(37,λs11=>DI s11.2)] [0] [] [] 1 λs11 y12 hq12=>?_
 &ar ?_
 &sq λK k=>?_
 &xs (λh14=>?_) λh14=>?_
 &ca ?_
 &sq λK k=>?_
 &au ?_
 &xa λv16 hv16=>?_
 &ar ?_
 &sq λK k=>?_
 &ar ?_
 &xs (λh18=>?_) λh18=>?_
 &ca ?_
 &sq λK k=>?_
 &xs (λh20=>?_) λh20=>?_
 &xs (λh21=>?_) λh21=>?_
 &xc λh22=>?_
 &xd λv23 hv23=>?_
 replace q0:=cS r0 (QgI hv23)
 &ar ?_
 &go (m_slS (a:=Qa9 .i64 s11.2 (wu p0.sh)) (b:=Qa9 .i64 (w64 (s11.2+1)) (wu p0.sh)) h22 i26.ok i61.ok (.inr ⟨_,_,rfl,rfl⟩) (.inr ⟨_,_,rfl,rfl⟩)) ?_ (gY (congrArg not (decide_eq_true h21)))
 &au ?_
 &xs (λh24=>?_) λh24=>?_
 &db ?_
 ~wJ []
 &da ?_
 &xo hq12 ?_
 &xr hr9 ?_
 ~ft r0
 &ar ?_
 &da ?_
 &xo hq12 ?_
 &xr hr9 ?_
 ~ft r0
 &ar ?_
 &da ?_
 &xo hq12 ?_
 &xr hr9 ?_
 ~ft r0
 &cb ?_
 &sq λK k=>?_
 &xs (λh26=>?_) λh26=>?_
 &ar ?_
 &da ?_
 &xo hq12 ?_
 &xr hr9 ?_
 ~ft r0
 &xs (λh27=>?_) λh27=>?_
 &ar ?_
 &da ?_
 &xo hq12 ?_
 &xr hr9 ?_
 ~ft r0
 &xs (λh28=>?_) λh28=>?_
 &ar ?_
 &da ?_
 &xo hq12 ?_
 &xr hr9 ?_
 ~ft r0
 &xs (λh29=>?_) λh29=>?_
 &xs (λh30=>?_) λh30=>?_
 &ar ?_
 &da ?_
 &xo hq12 ?_
 &xr hr9 ?_
 ~ft r0
 &xs (λh31=>?_) λh31=>?_
 &ar ?_
 &da ?_
 &xo hq12 ?_
 &xr hr9 ?_
 ~ft r0
 &xs (λh32=>?_) λh32=>?_
 &ar ?_
 &da ?_
 &xo hq12 ?_
 &xr hr9 ?_
 ~ft r0
 &ar ?_
 &xs (λh33=>?_) λh33=>?_
 &da ?_
 &xo hq12 ?_
 &xr hr9 ?_
 ~ft r0
 &cb ?_
 &sq λK k=>?_
 &ar ?_
 &xs (λh35=>?_) λh35=>?_
 &da ?_
 ~wJ []
 &cb ?_
 &sq λK k=>?_
 &xa λv37 hv37=>?_
 &ar ?_
 &xc λh38=>?_
 &xs (λh39=>?_) λh39=>?_
 &ar ?_
 &da ?_
 &xo hq12 ?_
 &xr hr9 ?_
 ~ft r0
 &xs (λh40=>?_) λh40=>?_
 &ar ?_
 &xs (λh41=>?_) λh41=>?_
 &db ?_
 &ar ?_
 ~wJ []
 &da ?_
 &xo hq12 ?_
 &xr hr9 ?_
 ~ft r0
 &ar ?_
 &da ?_
 &xo hq12 ?_
 &xr hr9 ?_
 ~ft r0
 &ar ?_
 &da ?_
 &xo hq12 ?_
 &xr hr9 ?_
 ~ft r0
 &cb ?_
 &xo hq12 ?_
 ~wJ []
 &xd λv42 hv42=>?_
 replace q0:=cS r0 (QdE hv42)
 &ar ?_
 ~ft r0
 &da ?_
 ~ft r0
 have q0:=cS r0 (Zc hv2)
 &ar ?_
 &da ?_
 ~ft r0
noncomputable def J0(p0:Sp)(p1:Inc):Option Int :=
 (Qca p1.words p0.sh).bind λv1 =>
 some (v1)
theorem Qci{p0 p1 r}:Sm (J0 p0 p1) r->DCall Tryz.prog 121 [.agg [DI p0.sh,.sl (p0.ws.map uC),.sl (p0.fs.map frC)],.agg [DI p1.seq,DI p1.belt,DI p1.first,DI p1.last,DI p1.words]] [] (DI r) []:=by
 unfold J0
 &mk0 Tryz.func121 ?_
 &ar ?_
 &xd λv1 hv1=>?_
 have q0:=cS r0 (F_bits_Ceil_ok hv1)
 &ar ?_
 ~ft r0
noncomputable def XS(p0:Sp):Option Bool :=
 (X3 p0.sh).bind λv1 =>
 if v1=true then
 (some (decide ((p0.fs.length:Int)<=64)))
 else
 some (false)
theorem Qee{p0 r}:Sm (XS p0) r->DCall Tryz.prog 123 [.agg [DI p0.sh,.sl (p0.ws.map uC),.sl (p0.fs.map frC)]] [] (DB r) []:=by
 unfold XS
 &mk0 Tryz.func123 ?_
 &ar ?_
 &xd λv1 hv1=>?_
 &xs (λh2=>?_) λh2=>?_
 have q0:=cS r0 (Zc hv1)
 &ar ?_
 ~ft r0
 have q0:=cS r0 (Zc hv1)
 &ar ?_
 ~ft r0
noncomputable def JC(p0:Sp):Option Int :=
 (X3 p0.sh).bind λv2 =>
 if v2=true then
 (if 0<=wu p0.sh then
 some (Qa9 .i64 1 (wu p0.sh))
 else none)
 else
 some (0)
theorem QcQ{p0 r}:Sm (JC p0) r->DCall Tryz.prog 124 [.agg [DI p0.sh,.sl (p0.ws.map uC),.sl (p0.fs.map frC)]] [] (DI r) []:=by
 unfold JC
 &mk0 Tryz.func124 ?_
 &ar ?_
 &sq λK k=>?_
 &xd λv2 hv2=>?_
 have q0:=cS r0 (Zc hv2)
 &ar ?_
 &xs (λh3=>?_) λh3=>?_
 &cb ?_
 &xc λh4=>?_
 &ar ?_
 ~ft r0
 &da ?_
 ~ft r0
noncomputable def Xp(p0:Int)(p1:Int)(p2:Int):Option (Int×Int) :=
 (Qaz p1 p2).bind λv2 =>
 if v2=true then
 (if 0<=wu p1 then
 (Qa5 p2).bind λv5 =>
 some ((bits .and .u64 (QbO .u64 p0 (wu p1)) v5,0))
 else none)
 else
 some ((0,1))
theorem Qb9{p0 p1 p2 r}:Sm (Xp p0 p1 p2) r->DCall Tryz.prog 126 [DU p0,DI p1,DI p2] [] (.tup [DU r.1,DI r.2]) []:=by
 unfold Xp
 &mk0 Tryz.func126 ?_
 &ar ?_
 &sq λK k=>?_
 &xd λv2 hv2=>?_
 have q0:=cS r0 (QgM hv2)
 &ar ?_
 &xs (λh3=>?_) λh3=>?_
 &cb ?_
 &xc λh4=>?_
 &xd λv5 hv5=>?_
 replace q0:=cS r0 (F_bits_Mask_ok hv5)
 &ar ?_
 ~ftt r0
 &da ?_
 ~ftt r0
noncomputable def QQ(p0:Sp)(p1:Int)(p2:Int):Option Bool :=
 (ZK p0 p1 p2).bind λv1 =>
 if v1.2.2=true then
 ((at_ p0.fs v1.1).bind λv3 =>
 if v3.ow=(-1) then
 (some (false))
 else
 (at_ p0.fs v1.2.1).bind λv5 =>
 if v5.ow=(-1) then
 (some (false))
 else
 some (decide (v5.st<v3.st)))
 else
 some (false)
theorem Qf{p0 p1 p2 r}:Sm (QQ p0 p1 p2) r->DCall Tryz.prog 22 [.agg [DI p0.sh,.sl (p0.ws.map uC),.sl (p0.fs.map frC)],DI p1,DU p2] [] (DB r) []:=by
 unfold QQ
 &mk0 Tryz.func22 ?_
 &ar ?_
 &xd λv1 hv1=>?_
 have q0:=cS r0 (Qai hv1)
 &ar ?_
 &xs (λh2=>?_) λh2=>?_
 &xa λv3 hv3=>?_
 &xs (λh4=>?_) λh4=>?_
 &ar ?_
 ~ft r0
 &xa λv5 hv5=>?_
 &xs (λh6=>?_) λh6=>?_
 &ar ?_
 ~ft r0
 &ar ?_
 ~ft r0
 &ar ?_
 ~ft r0
noncomputable def Qu(p0:List Qe)(p1:Qe):Option (Int×Bool) :=
 (Qh (λ(s4:Int×Int) =>
 if s4.1<s4.2 then
 ((at_ p0 (w64 (QbO .u64 (wu (w64 (s4.1+s4.2))) 1))).bind λv8 =>
 (Za v8 p1).bind λv9 =>
 if v9<0 then
 (some (.go ((w64 ((w64 (QbO .u64 (wu (w64 (s4.1+s4.2))) 1))+1),s4.2))))
 else
 some (.go ((s4.1,w64 (QbO .u64 (wu (w64 (s4.1+s4.2))) 1)))))
 else
 some (.out (s4.1))) (0,(p0.length:Int))).bind λ(b1:Int) =>
 if b1<(p0.length:Int) then
 ((at_ p0 b1).bind λv12 =>
 (Za v12 p1).bind λv13 =>
 some ((b1,decide (v13=0))))
 else
 some ((b1,false))
theorem J3{p0 p1 r}:Sm (Qu p0 p1) r->DCall Tryz.prog 86 [.sl (p0.map Qe.c),.agg [DI p1.frm,DI p1.to,.sl (p1.slots.map iC)],.lit (.func (.func 58) #[] #[])] [] (.tup [DI r.1,DB r.2]) []:=by
 unfold Qu
 &mk0 Tryz.func86 ?_
 &ar ?_
 &ar ?_
 &ar ?_
 &cT [0,2,8] [(4,λb1=>.ptr 0 0 0),(9,λb1=>DI b1)] [0] [] [] 1 (λz2=>?_) λb1=>?_
 &au ?_
 &lP [0,2,8] [(4,λs4=>.ptr 0 0 0),(9,λs4=>DI s4.1),(10,λs4=>DI s4.2)] [0] [] [] 1 λs4 y5 hq5=>?_
 &sq λK k=>?_
 &ar ?_
 &xs (λh7=>?_) λh7=>?_
 &da ?_
 &xa λv8 hv8=>?_
 &xd λv9 hv9=>?_
 have q0:=cS r0 (Zp hv9)
 &ar ?_
 &xs (λh10=>?_) λh10=>?_
 &da ?_
 ~wJ []
 &db ?_
 ~wJ []
 &cb ?_
 &xo hq5 ?_
 ~wJ []
 &xs (λh11=>?_) λh11=>?_
 &xa λv12 hv12=>?_
 &xd λv13 hv13=>?_
 have q0:=cS r0 (Zp hv13)
 &ar ?_
 ~ftt r0
 &ar ?_
 ~ftt r0
noncomputable def Jf(p0:Int)(p1:Int):Option Bool :=
 (XT p0).bind λv1 =>
 if v1=true then
 ((XT p1).bind λv3 =>
 if v3=true then
 (some (decide (p0<p1)))
 else
 some (true))
 else
 some (decide (p0<p1))
theorem QeI{p0 p1 r}:Sm (Jf p0 p1) r->DCall Tryz.prog 87 [DI p0,DI p1] [] (DB r) []:=by
 unfold Jf
 &mk0 Tryz.func87 ?_
 &ar ?_
 &xd λv1 hv1=>?_
 &xs (λh2=>?_) λh2=>?_
 &xd λv3 hv3=>?_
 &xs (λh4=>?_) λh4=>?_
 &ar ?_
 &goA (Jn r0 (ZE hv1) rfl ScS.nil) ?_
 &au ?_
 &go (Jn r0 (ZE hv3) rfl ScS.nil) ?_ (gY h2)
 &au ?_
 ~ft r0
 &ar ?_
 &goA (Jn r0 (ZE hv1) rfl ScS.nil) ?_
 &au ?_
 &go (Jn r0 (ZE hv3) rfl ScS.nil) ?_ (gY h2)
 &au ?_
 ~ft r0
 have q0:=cS r0 (ZE hv1)
 &ar ?_
 ~ft r0
noncomputable def Xh(p0:List Qe):Option Bool :=
 bndR (Qh (λ(s4:Int) =>
 if s4<(p0.length:Int) then
 (bndR ((at_ p0 s4).bind λv10 =>
 (XD v10.frm).bind λv12 =>
 if v12=true then
 ((XD v10.to).bind λv14 =>
 if v14=true then
 (if 0<s4 then
 ((at_ p0 (w64 (s4-1))).bind λv17 =>
 (Za v17 v10).bind λv18 =>
 if 0<=v18 then
 (some (.inr (.out (.inr (false)))))
 else
 if (v10.slots.length:Int)=0 then
 (some (.inr (.out (.inr (false)))))
 else
 (at_ v10.slots 0).bind λv21 =>
 if v21<0 then
 (some (.inr (.out (.inr (false)))))
 else
 Qh (λ(s24:Int) =>
 if s24<(v10.slots.length:Int) then
 ((at_ v10.slots s24).bind λv29 =>
 (at_ v10.slots (w64 (s24-1))).bind λv30 =>
 if v29<=v30 then
 (some (.out (.inr (.out (.inr (false))))))
 else
 some (.go (w64 (s24+1))))
 else
 some (.out (.inl (())))) 1)
 else
 if (v10.slots.length:Int)=0 then
 (some (.inr (.out (.inr (false)))))
 else
 (at_ v10.slots 0).bind λv33 =>
 if v33<0 then
 (some (.inr (.out (.inr (false)))))
 else
 Qh (λ(s36:Int) =>
 if s36<(v10.slots.length:Int) then
 ((at_ v10.slots s36).bind λv41 =>
 (at_ v10.slots (w64 (s36-1))).bind λv42 =>
 if v41<=v42 then
 (some (.out (.inr (.out (.inr (false))))))
 else
 some (.go (w64 (s36+1))))
 else
 some (.out (.inl (())))) 1)
 else
 some (.inr (.out (.inr (false)))))
 else
 some (.inr (.out (.inr (false))))) λ(b8:Unit) =>
 some (.go (w64 (s4+1))))
 else
 some (.out (.inl (())))) 0) λ(b1:Unit) =>
 some (true)
theorem ZO{p0 r}:Sm (Xh p0) r->DCall Tryz.prog 30 [.sl (p0.map Qe.c)] [] (DB r) []:=by
 unfold Xh
 &mk0 Tryz.func30 ?_
 &ar ?_
 &cU [] [] [] [] [] 0 (λz2 hr2=>?_) λb1=>?_
 &ar ?_
 &lP [0,6,7] [(8,λs4=>DI s4)] [] [] [] 0 λs4 y5 hq5=>?_
 &ar ?_
 &sq λK k=>?_
 &xs (λh7=>?_) λh7=>?_
 &ca ?_
 &cU [0,6,7,8] [] [] [] [] 0 (λz9 hr9=>?_) λb8=>?_
 &au ?_
 &xa λv10 hv10=>?_
 &ar ?_
 &sq λK k=>?_
 &xd λv12 hv12=>?_
 &xs (λh13=>?_) λh13=>?_
 &xd λv14 hv14=>?_
 &xs (λh15=>?_) λh15=>?_
 &xs (λh16=>?_) λh16=>?_
 &xa λv17 hv17=>?_
 &xd λv18 hv18=>?_
 &xs (λh19=>?_) λh19=>?_
 &ar ?_
 &goA (Jn r0 (Qm hv12) rfl ScS.nil) ?_
 &au ?_
 &go (Jn r0 (Qm hv14) rfl ScS.nil) ?_ (gY (congrArg not h13))
 &au ?_
 &go (Jn r0 (Zp hv18) rfl ScS.nil) ?_ (gY (decide_eq_true h16))
 &au ?_
 &da ?_
 &xr hr9 ?_
 &xo hq5 ?_
 &xr hr2 ?_
 ~ft r0
 &xs (λh20=>?_) λh20=>?_
 &ar ?_
 &goA (Jn r0 (Qm hv12) rfl ScS.nil) ?_
 &au ?_
 &go (Jn r0 (Qm hv14) rfl ScS.nil) ?_ (gY (congrArg not h13))
 &au ?_
 &go (Jn r0 (Zp hv18) rfl ScS.nil) ?_ (gY (decide_eq_true h16))
 &au ?_
 &da ?_
 &xr hr9 ?_
 &xo hq5 ?_
 &xr hr2 ?_
 ~ft r0
 &xa λv21 hv21=>?_
 &ar ?_
 &goA (Jn r0 (Qm hv12) rfl ScS.nil) ?_
 &au ?_
 &go (Jn r0 (Qm hv14) rfl ScS.nil) ?_ (gY (congrArg not h13))
 &au ?_
 &go (Jn r0 (Zp hv18) rfl ScS.nil) ?_ (gY (decide_eq_true h16))
 &au ?_
 &xs (λh22=>?_) λh22=>?_
 &da ?_
 &xr hr9 ?_
 &xo hq5 ?_
 &xr hr2 ?_
 ~ft r0
 &db ?_
 &lP [0,6,7,8] [(4,λs24=>.ptr 0 0 0),(5,λs24=>DI s24)] [0] [] [] 1 λs24 y25 hq25=>?_
 &sq λK k=>?_
 &ar ?_
 &xs (λh27=>?_) λh27=>?_
 &ca ?_
 &sq λK k=>?_
 &au ?_
 &xa λv29 hv29=>?_
 &xa λv30 hv30=>?_
 &ar ?_
 &xs (λh31=>?_) λh31=>?_
 &da ?_
 &xo hq25 ?_
 &xr hr9 ?_
 &xo hq5 ?_
 &xr hr2 ?_
 ~ft r0
 &db ?_
 ~wJ []
 &cb ?_
 &xo hq25 ?_
 ~wJ []
 &xs (λh32=>?_) λh32=>?_
 &ar ?_
 &goA (Jn r0 (Qm hv12) rfl ScS.nil) ?_
 &au ?_
 &go (Jn r0 (Qm hv14) rfl ScS.nil) ?_ (gY (congrArg not h13))
 &au ?_
 &da ?_
 &xr hr9 ?_
 &xo hq5 ?_
 &xr hr2 ?_
 ~ft r0
 &xa λv33 hv33=>?_
 &ar ?_
 &goA (Jn r0 (Qm hv12) rfl ScS.nil) ?_
 &au ?_
 &go (Jn r0 (Qm hv14) rfl ScS.nil) ?_ (gY (congrArg not h13))
 &au ?_
 &xs (λh34=>?_) λh34=>?_
 &da ?_
 &xr hr9 ?_
 &xo hq5 ?_
 &xr hr2 ?_
 ~ft r0
 &db ?_
 &lP [0,6,7,8] [(4,λs36=>.ptr 0 0 0),(5,λs36=>DI s36)] [0] [] [] 1 λs36 y37 hq37=>?_
 &sq λK k=>?_
 &ar ?_
 &xs (λh39=>?_) λh39=>?_
 &ca ?_
 &sq λK k=>?_
 &au ?_
 &xa λv41 hv41=>?_
 &xa λv42 hv42=>?_
 &ar ?_
 &xs (λh43=>?_) λh43=>?_
 &da ?_
 &xo hq37 ?_
 &xr hr9 ?_
 &xo hq5 ?_
 &xr hr2 ?_
 ~ft r0
 &db ?_
 ~wJ []
 &cb ?_
 &xo hq37 ?_
 ~wJ []
 &ar ?_
 &goA (Jn r0 (Qm hv12) rfl ScS.nil) ?_
 &au ?_
 &go (Jn r0 (Qm hv14) rfl ScS.nil) ?_ (gY (congrArg not h13))
 &au ?_
 &da ?_
 &xr hr9 ?_
 &xo hq5 ?_
 &xr hr2 ?_
 ~ft r0
 have q0:=cS r0 (Qm hv12)
 &ar ?_
 &da ?_
 &xr hr9 ?_
 &xo hq5 ?_
 &xr hr2 ?_
 ~ft r0
 &ar ?_
 ~wJ []
 &cb ?_
 &xo hq5 ?_
 ~wJ []
 &ar ?_
 ~ft r0
noncomputable def Qau(p0:Qc):Option (Nat×Qc) :=
 (Qb p0 4).bind λv2 =>
 if v2.1=0 then
 ((Qb v2.2 5).bind λv4 =>
 (at_ [4602678819172646912,4593671619917905920,4607182418800017408,4599676419421066581,4562254508917369340] v4.1).bind λv5 =>
 some ((v5,v4.2)))
 else
 (Qb v2.2 100).bind λv6 =>
 (Zr (w64 (1+v6.1))).bind λv7 =>
 some ((v7.1,v6.2))
theorem QgH{p0 r}:Sm (Qau p0) r->DCall Tryz.prog 43 [.ptr 0 0 0] [(0,bO 2 [.sl (p0.l.map iC),DI p0.pos])] (.lit (.float .f64 r.1)) [(0,bO 2 [.sl (r.2.l.map iC),DI r.2.pos])]:=by
 unfold Qau
 &mk0 Tryz.func43 ?_
 &ar ?_
 &sq λK k=>?_
 &xd λv2 hv2=>?_
 have q0:=cG r1 (Qa hv2)
 &ar ?_
 &xs (λh3=>?_) λh3=>?_
 &ca ?_
 &xd λv4 hv4=>?_
 &xa λv5 hv5=>?_
 replace q0:=cG r1 (Qa hv4)
 &ar ?_
 &goA (Ql (c:=fC) ([4602678819172646912,4593671619917905920,4607182418800017408,4599676419421066581,4562254508917369340]:List Nat) i154.ok i109.ok) ?_
 &au ?_
 ~ft r1
 &cb ?_
 &xd λv6 hv6=>?_
 &xd λv7 hv7=>?_
 replace q0:=cG r1 (Qa hv6)
 have q1:=cS r0 (Qbl hv7)
 &ar ?_
 &ar ?_
 ~ft r1
noncomputable def Qbm(p0:Qc):Option (Int×Int×Qc) :=
 (Qb p0 2).bind λv1 =>
 (Qb v1.2 15).bind λv2 =>
 some ((w64 (3+v1.1),w64 (6+v2.1),v2.2))
theorem QgG{p0 r}:Sm (Qbm p0) r->DCall Tryz.prog 33 [.ptr 0 0 0] [(0,bO 2 [.sl (p0.l.map iC),DI p0.pos])] (.tup [DI r.1,DI r.2.1]) [(0,bO 2 [.sl (r.2.2.l.map iC),DI r.2.2.pos])]:=by
 unfold Qbm
 &mk0 Tryz.func33 ?_
 &ar ?_
 &xd λv1 hv1=>?_
 &xd λv2 hv2=>?_
 &ar ?_
 &goA (m_cG r1 (Qa hv1)) ?_
 &au ?_
 &goA (m_cG r1 (Qa hv2)) ?_
 &au ?_
 ~ftt r1
noncomputable def QaX(p0:Cfg)(p1:Int)(p2:Int):Option (Hp×Int) :=
 (ZA p0).bind λv2 =>
 if v2=0 then
 ((Qag p1 p2).bind λv4 =>
 if v4.2=0 then
 (if (p0.rules.length:Int)*32<=140737488355328/\(p0.rules.length:Int)<=9223372036854775807 then
 if 0<=(p0.rules.length:Int)/\(p0.rules.length:Int)*24<=281474976710656/\(p0.rules.length:Int)<=9223372036854775807 then
 (QaY).bind λv9 =>
 some ((Hp.mk p0 v4.1 (List.replicate (Int.toNat (p0.rules.length:Int)) ([]:List Inc)) 0 ([]:List Qe) v9 0 (Sts.mk 0 0 0 0 0 0 0 0 0) false,0))
 else none
 else none)
 else
 some ((Hp.mk (Cfg.mk ⟨#[]⟩ ([]:List Rul) 0) (Sp.mk 0 ([]:List Int) ([]:List Fe)) ([]:List (List Inc)) 0 ([]:List Qe) (Rts.mk ([]:List Bool) ([]:List Int)) 0 (Sts.mk 0 0 0 0 0 0 0 0 0) false,v4.2)))
 else
 some ((Hp.mk (Cfg.mk ⟨#[]⟩ ([]:List Rul) 0) (Sp.mk 0 ([]:List Int) ([]:List Fe)) ([]:List (List Inc)) 0 ([]:List Qe) (Rts.mk ([]:List Bool) ([]:List Int)) 0 (Sts.mk 0 0 0 0 0 0 0 0 0) false,v2))
theorem F_ref27_New_ok{p0 p1 p2 r}:Sm (QaX p0 p1 p2) r->DCall Tryz.prog 34 [.agg [.lit (.string p0.name),.sl (p0.rules.map Rul.c),DI p0.full],DI p1,DI p2] [] (.tup [.agg [.lit (.string r.1.config.name),.own 0 0 r.1.config.rules.length,DI r.1.config.full,DI r.1.space.sh,.own 1 0 r.1.space.ws.length,.own 2 0 r.1.space.fs.length,.own 3 0 r.1.belts.length,DI r.1.seq,.own 4 0 r.1.sets.length,.own 5 0 r.1.roots.used.length,.own 6 0 r.1.roots.refs.length,DI r.1.since,DI r.1.stats.allocated,DI r.1.stats.objects,DI r.1.stats.collections,DI r.1.stats.steps,DI r.1.stats.rounds,DI r.1.stats.condemned,DI r.1.stats.copied,DI r.1.stats.entries,DI r.1.stats.work,DB r.1.dead],DI r.2]) [(0,aO 4 (r.1.config.rules.map Rul.c)),(1,aO 1 (r.1.space.ws.map uC)),(2,aO 3 (r.1.space.fs.map frC)),(3,aO 1 (r.1.belts.map (lC Inc.c))),(4,aO 3 (r.1.sets.map Qe.c)),(5,aO 1 (r.1.roots.used.map bC)),(6,aO 1 (r.1.roots.refs.map uC))]:=by
 unfold QaX
 &mk0 Tryz.func34 ?_
 &ar ?_
 &sq λK k=>?_
 &xd λv2 hv2=>?_
 have q0:=cS r0 (QB hv2)
 &ar ?_
 &ar ?_
 &xs (λh3=>?_) λh3=>?_
 &cb ?_
 &xd λv4 hv4=>?_
 replace q0:=cS r0 (Qdj hv4)
 &ar ?_
 &sq λK k=>?_
 &ar ?_
 &xs (λh6=>?_) λh6=>?_
 &cb ?_
 &xc λh7=>?_
 &ar ?_
 &goA (QbU (c:=Rul.c) p0.rules h7 i23.ok Qa8.ok rfl (.sl rfl (Qg (c:=Rul.c) (λ_=>rfl) _))) ?_
 &au ?_
 &xc λh8=>?_
 &xd λv9 hv9=>?_
 replace q0:=cS r0 (F_ref20_New_ok hv9)
 &ar ?_
 &goA (m_mkZ (c:=(lC Inc.c)) ([]:List Inc) h8 i30.ok i52.ok) ?_
 &au ?_
 &xx (Qj 1 8 3 Od rfl rfl) ?_
 ~fwt [(0,5),(1,2),(2,3),(3,6),(4,9),(5,7),(6,8)]
 &da ?_
 &xx (Qj 1 1 4 Od rfl rfl) ?_
 &xx (Qj 1 4 1 Od rfl rfl) ?_
 &xx (Qj 1 5 3 Od rfl rfl) ?_
 &xx (Qj 1 6 1 Od rfl rfl) ?_
 &xx (Qj 1 8 3 Od rfl rfl) ?_
 &xx (Qj 1 9 1 Od rfl rfl) ?_
 &xx (Qj 1 10 1 Od rfl rfl) ?_
 ~fwt [(0,5),(1,6),(2,7),(3,8),(4,9),(5,10),(6,11)]
 &da ?_
 &xx (Qj 1 1 4 Od rfl rfl) ?_
 &xx (Qj 1 4 1 Od rfl rfl) ?_
 &xx (Qj 1 5 3 Od rfl rfl) ?_
 &xx (Qj 1 6 1 Od rfl rfl) ?_
 &xx (Qj 1 8 3 Od rfl rfl) ?_
 &xx (Qj 1 9 1 Od rfl rfl) ?_
 &xx (Qj 1 10 1 Od rfl rfl) ?_
 ~fwt [(0,2),(1,3),(2,4),(3,5),(4,6),(5,7),(6,8)]
noncomputable def Zb(c0:List Int)(c3:Qc):Option (Int×List Int×List Int×Qc) :=
 if (c0.length:Int)=0 then
 ((Qb c3 35).bind λv3 =>
 some ((v3.1,c0,c0,v3.2)))
 else
 (Qb c3 12).bind λv4 =>
 if v4.1=0 then
 ((Qb v4.2 35).bind λv6 =>
 some ((v6.1,c0,c0,v6.2)))
 else
 (Qb v4.2 (c0.length:Int)).bind λv7 =>
 (at_ c0 v7.1).bind λv8 =>
 some ((v8,c0,c0,v7.2))
theorem Zm{c0 c3 r}:Sm (Zb c0 c3) r->DCall Tryz.prog 63 [.ptr 0 0 0,.ptr 2 0 0] [(0,bO 1 [.own 1 0 c0.length]),(1,aO 1 (c0.map iC)),(2,bO 1 [.ptr 3 0 0]),(3,bO 2 [.sl (c3.l.map iC),DI c3.pos])] (DI r.1) [(0,bO 1 [.own 1 0 r.2.2.1.length]),(1,aO 1 (r.2.2.1.map iC)),(2,⟨1,false,false,[[.ptr 3 0 0]]⟩),(3,bO 2 [.sl (r.2.2.2.l.map iC),DI r.2.2.2.pos])]:=by
 unfold Zb
 &mk0 Tryz.func63 ?_
 &ar ?_
 &sq λK k=>?_
 &xs (λh2=>?_) λh2=>?_
 &ar ?_
 &ca ?_
 &xd λv3 hv3=>?_
 have q0:=cG [(0,3)] (Qa hv3)
 &ar ?_
 ~ft r4
 &xd λv4 hv4=>?_
 have q0:=cG [(0,3)] (Qa hv4)
 &ar ?_
 &xs (λh5=>?_) λh5=>?_
 &ca ?_
 &xd λv6 hv6=>?_
 replace q0:=cG [(0,3)] (Qa hv6)
 &ar ?_
 ~ft r4
 &cb ?_
 &xd λv7 hv7=>?_
 &xa λv8 hv8=>?_
 replace q0:=cG [(0,3)] (Qa hv7)
 &ar ?_
 ~ft r4
noncomputable def QH(p0:Hp):Option Hp :=
 if (p0.config.rules.length:Int)*32<=140737488355328/\(p0.config.rules.length:Int)<=9223372036854775807 then
 (JA p0.space).bind λv2 =>
 (Q5 p0.belts).bind λv3 =>
 (ZZ p0.sets).bind λv4 =>
 (ZY p0.roots).bind λv5 =>
 some (Hp.mk p0.config v2 v3 p0.seq v4 v5 p0.since p0.stats p0.dead)
 else none
theorem Q2{p0 r}:Sm (QH p0) r->DCall Tryz.prog 72 [.agg [.lit (.string p0.config.name),.sl (p0.config.rules.map Rul.c),DI p0.config.full,DI p0.space.sh,.sl (p0.space.ws.map uC),.sl (p0.space.fs.map frC),.sl (p0.belts.map (lC Inc.c)),DI p0.seq,.sl (p0.sets.map Qe.c),.sl (p0.roots.used.map bC),.sl (p0.roots.refs.map uC),DI p0.since,DI p0.stats.allocated,DI p0.stats.objects,DI p0.stats.collections,DI p0.stats.steps,DI p0.stats.rounds,DI p0.stats.condemned,DI p0.stats.copied,DI p0.stats.entries,DI p0.stats.work,DB p0.dead]] [] (.agg [.lit (.string r.config.name),.own 0 0 r.config.rules.length,DI r.config.full,DI r.space.sh,.own 1 0 r.space.ws.length,.own 2 0 r.space.fs.length,.own 3 0 r.belts.length,DI r.seq,.own 4 0 r.sets.length,.own 5 0 r.roots.used.length,.own 6 0 r.roots.refs.length,DI r.since,DI r.stats.allocated,DI r.stats.objects,DI r.stats.collections,DI r.stats.steps,DI r.stats.rounds,DI r.stats.condemned,DI r.stats.copied,DI r.stats.entries,DI r.stats.work,DB r.dead]) [(0,aO 4 (r.config.rules.map Rul.c)),(1,aO 1 (r.space.ws.map uC)),(2,aO 3 (r.space.fs.map frC)),(3,aO 1 (r.belts.map (lC Inc.c))),(4,aO 3 (r.sets.map Qe.c)),(5,aO 1 (r.roots.used.map bC)),(6,aO 1 (r.roots.refs.map uC))]:=by
 unfold QH
 &mk0 Tryz.func72 ?_
 &ar ?_
 &ar ?_
 &xc λh1=>?_
 &ar ?_
 &goA (QbU (c:=Rul.c) p0.config.rules h1 i23.ok Qa8.ok rfl (.sl rfl (Qg (c:=Rul.c) (λ_=>rfl) _))) ?_
 &au ?_
 &xd λv2 hv2=>?_
 have q0:=cS r0 (QcN hv2)
 &ar ?_
 &xd λv3 hv3=>?_
 replace q0:=cG r0 (ZU hv3)
 &ar ?_
 &xx (Qp (Qcq (s:=6) (xs:=v3) (cd:=(lD 5 Inc.c)) rfl (λ_=>rfl))) ?_
 &xx (Qp (ZM.flat (s:=6) (c:=(lC Inc.c)) rfl (λ_=>rfl) (λ_=>rfl))) ?_
 &xd λv4 hv4=>?_
 replace q0:=cG r0 (JR hv4)
 &ar ?_
 &xd λv5 hv5=>?_
 replace q0:=cS r0 (JQ hv5)
 &ar ?_
 &ar ?_
 ~fw [(0,3),(1,4),(2,5),(3,6),(4,7),(5,8),(6,9)]
noncomputable def XK(p0:Cfg)(p1:Int)(p2:Int):Option (Int×Int) :=
 (ZA p0).bind λv2 =>
 if v2=0 then
 (if p1<0 then
 (some ((0,1)))
 else
 if (p0.rules.length:Int)<=p1 then
 (some ((0,1)))
 else
 if p2<1 then
 (some ((0,1)))
 else
 if 64<p2 then
 (some ((0,1)))
 else
 (at_ p0.rules p1).bind λv8 =>
 (Xo v8.share p2).bind λv9 =>
 some ((v9.1,v9.2)))
 else
 some ((0,1))
theorem Qdh{p0 p1 p2 r}:Sm (XK p0 p1 p2) r->DCall Tryz.prog 157 [.agg [.lit (.string p0.name),.sl (p0.rules.map Rul.c),DI p0.full],DI p1,DI p2] [] (.tup [DI r.1,DI r.2]) []:=by
 unfold XK
 &mk0 Tryz.func157 ?_
 &ar ?_
 &sq λK k=>?_
 &xd λv2 hv2=>?_
 &xs (λh3=>?_) λh3=>?_
 &xs (λh4=>?_) λh4=>?_
 have q0:=cS r0 (QB hv2)
 &ar ?_
 &da ?_
 ~ftt r0
 &xs (λh5=>?_) λh5=>?_
 have q0:=cS r0 (QB hv2)
 &ar ?_
 &da ?_
 ~ftt r0
 &xs (λh6=>?_) λh6=>?_
 have q0:=cS r0 (QB hv2)
 &ar ?_
 &da ?_
 ~ftt r0
 have q0:=cS r0 (QB hv2)
 &ar ?_
 &xs (λh7=>?_) λh7=>?_
 &da ?_
 ~ftt r0
 &cb ?_
 &xa λv8 hv8=>?_
 &xd λv9 hv9=>?_
 replace q0:=cS r0 (QeG hv9)
 &ar ?_
 ~ftt r0
 have q0:=cS r0 (QB hv2)
 &ar ?_
 &da ?_
 ~ftt r0
noncomputable def Jw(p0:Sp)(p1:Inc)(p2:Int):Option Bool :=
 if p2=0 then
 (some (true))
 else
 (Qat p0).bind λv2 =>
 some (decide (p1.words<(w64 (p2*v2))))
theorem QcK{p0 p1 p2 r}:Sm (Jw p0 p1 p2) r->DCall Tryz.prog 159 [.agg [DI p0.sh,.sl (p0.ws.map uC),.sl (p0.fs.map frC)],.agg [DI p1.seq,DI p1.belt,DI p1.first,DI p1.last,DI p1.words],DI p2] [] (DB r) []:=by
 unfold Jw
 &mk0 Tryz.func159 ?_
 &ar ?_
 &xs (λh1=>?_) λh1=>?_
 &ar ?_
 ~ft r0
 &xd λv2 hv2=>?_
 have q0:=cS r0 (QgF hv2)
 &ar ?_
 ~ft r0
noncomputable def Z5(p0:Sp)(p1:Inc)(p2:Int):Option Int :=
 (JB (w64 (p1.words+p2)) p0.sh).bind λv1 =>
 (QN p0 p1).bind λv2 =>
 some (w64 (v1-v2))
theorem Qcf{p0 p1 p2 r}:Sm (Z5 p0 p1 p2) r->DCall Tryz.prog 162 [.agg [DI p0.sh,.sl (p0.ws.map uC),.sl (p0.fs.map frC)],.agg [DI p1.seq,DI p1.belt,DI p1.first,DI p1.last,DI p1.words],DI p2] [] (DI r) []:=by
 unfold Z5
 &mk0 Tryz.func162 ?_
 &ar ?_
 &xd λv1 hv1=>?_
 &xd λv2 hv2=>?_
 have q0:=cS r0 (QcO hv1)
 have q1:=cS r0 (Zo hv2)
 &ar ?_
 ~ft r0
noncomputable def QR(p0:Cfg):Option Bool :=
 (ZA p0).bind λv1 =>
 if v1=0 then
 ((at_ p0.rules (w64 ((p0.rules.length:Int)-1))).bind λv3 =>
 some ((QeY .eql v3.share 0)))
 else
 some (false)
theorem QX{p0 r}:Sm (QR p0) r->DCall Tryz.prog 138 [.agg [.lit (.string p0.name),.sl (p0.rules.map Rul.c),DI p0.full]] [] (DB r) []:=by
 unfold QR
 &mk0 Tryz.func138 ?_
 &ar ?_
 &xd λv1 hv1=>?_
 &xs (λh2=>?_) λh2=>?_
 &xa λv3 hv3=>?_
 have q0:=cS r0 (QB hv1)
 &ar ?_
 &go (QeW (.inl rfl)) ?_ (gY (decide_eq_true h2))
 &au ?_
 ~ft r0
 have q0:=cS r0 (QB hv1)
 &ar ?_
 ~ft r0
noncomputable def XL(p0:Sp)(p1:List (List Inc)):Option Int :=
 (Qh (λ(s4:Int×Int) =>
 if s4.2<(p1.length:Int) then
 (((at_ p1 s4.2).bind λv10 =>
 Qh (λ(s12:Int×Int) =>
 if s12.2<(v10.length:Int) then
 ((at_ v10 s12.2).bind λv17 =>
 (QN p0 v17).bind λv18 =>
 some (.go ((max s12.1 v18,w64 (s12.2+1)))))
 else
 some (.out (s12.1))) (s4.1,0)).bind λ(b8:Int) =>
 some (.go ((b8,w64 (s4.2+1)))))
 else
 some (.out (s4.1))) (0,0)).bind λ(b1:Int) =>
 some (b1)
theorem Qeb{p0 p1 r}:Sm (XL p0 p1) r->DCall Tryz.prog 173 [.agg [DI p0.sh,.sl (p0.ws.map uC),.sl (p0.fs.map frC)],.sl (p1.map (lC Inc.c))] [] (DI r) []:=by
 unfold XL
 &mk0 Tryz.func173 ?_
 &ar ?_
 &ar ?_
 &cT [] [(5,λb1=>DI b1)] [] [] [] 0 (λz2=>?_) λb1=>?_
 &ar ?_
 &lP [10,11] [(2,λs4=>.ptr 0 0 0),(5,λs4=>DI s4.1),(12,λs4=>DI s4.2)] [0] [] [] 1 λs4 y5 hq5=>?_
 &ar ?_
 &sq λK k=>?_
 &xs (λh7=>?_) λh7=>?_
 &ca ?_
 &cT [2,10,11,12] [(5,λb8=>DI b8)] [0] [] [] 1 (λz9=>?_) λb8=>?_
 &au ?_
 &xa λv10 hv10=>?_
 &ar ?_
 &ar ?_
 &lP [2,10,11,12,16,17] [(5,λs12=>DI s12.1),(18,λs12=>DI s12.2)] [0] [] [] 1 λs12 y13 hq13=>?_
 &ar ?_
 &sq λK k=>?_
 &xs (λh15=>?_) λh15=>?_
 &ca ?_
 &sq λK k=>?_
 &au ?_
 &xa λv17 hv17=>?_
 &ar ?_
 &xd λv18 hv18=>?_
 have q0:=cS r0 (Zo hv18)
 &ar ?_
 &goA (m_max) ?_
 &au ?_
 &ar ?_
 ~wJ []
 &cb ?_
 &xo hq13 ?_
 ~wJ []
 &ar ?_
 ~wJ []
 &cb ?_
 &xo hq5 ?_
 ~wJ []
 &ar ?_
 ~ft r0
noncomputable def Jv(p0:Cfg)(p1:List (List Inc)):Option (List Int) :=
 (ZA p0).bind λv2 =>
 if v2=0 then
 (if (p1.length:Int)=(p0.rules.length:Int) then
 ((Qh (λ(s9:List Int×Int) =>
 if s9.2<(p1.length:Int) then
 ((at_ p1 s9.2).bind λv14 =>
 (at_ p0.rules s9.2).bind λv15 =>
 if v15.limit=0 then
 (some (.go ((s9.1,w64 (s9.2+1)))))
 else
 if v15.limit<(v14.length:Int) then
 (if ((s9.1.length:Int)+[s9.2].length)*8<=140737488355328/\(s9.1.length:Int)+[s9.2].length<=9223372036854775807 then
 some (.go ((s9.1++[s9.2],w64 (s9.2+1))))
 else none)
 else
 some (.go ((s9.1,w64 (s9.2+1)))))
 else
 some (.out (s9.1))) (([]:List Int),0)).bind λ(b5:List Int) =>
 some (b5))
 else
 some (([]:List Int)))
 else
 some (([]:List Int))
theorem QcJ{p0 p1 r}:Sm (Jv p0 p1) r->DCall Tryz.prog 165 [.agg [.lit (.string p0.name),.sl (p0.rules.map Rul.c),DI p0.full],.sl (p1.map (lC Inc.c))] [] (.own 0 0 r.length) [(0,aO 1 (r.map iC))]:=by
 unfold Jv
 &mk0 Tryz.func165 ?_
 &ar ?_
 &sq λK k=>?_
 &xd λv2 hv2=>?_
 &xs (λh3=>?_) λh3=>?_
 have q0:=cS r0 (QB hv2)
 &ar ?_
 &xs (λh4=>?_) λh4=>?_
 &db ?_
 &cT [] [(5,λb5=>.own 1 0 b5.length)] [] [] [(1,λb5=>aO 1 (b5.map iC))] 2 (λz6=>?_) λb5=>?_
 &ar ?_
 &xx (Qz 5 1 Od rfl) ?_
 &lP [20,21] [(2,λs9=>.ptr 0 0 0),(5,λs9=>.own 1 0 s9.1.length),(22,λs9=>DI s9.2)] [0] [] [(1,λs9=>aO 1 (s9.1.map iC))] 2 λs9 y10 hq10=>?_
 &ar ?_
 &sq λK k=>?_
 &xs (λh12=>?_) λh12=>?_
 &ca ?_
 &sq λK k=>?_
 &au ?_
 &xa λv14 hv14=>?_
 &ar ?_
 &xa λv15 hv15=>?_
 &ar ?_
 &xs (λh16=>?_) λh16=>?_
 &ar ?_
 &db ?_
 ~wJ []
 &ar ?_
 &xs (λh17=>?_) λh17=>?_
 &ca ?_
 &xc λh18=>?_
 &ar ?_
 &goA (Ql (c:=iC) ([s9.2]:List Int) i22.ok i3.ok) ?_
 &goA (QW (c:=iC) s9.1 [s9.2] h18 i22.ok i3.ok rfl rfl (.own rfl rfl Os (Qg (c:=iC) (λ_=>rfl) _)) rfl) ?_
 &au ?_
 &ar ?_
 ~wJ [(1,3)]
 &db ?_
 ~wJ []
 &cb ?_
 &xo hq10 ?_
 ~wJ []
 &ar ?_
 ~ft [(0,1)]
 &da ?_
 &xx (Qz 4 1 Od rfl) ?_
 ~ft [(0,1)]
 have q0:=cS r0 (QB hv2)
 &ar ?_
 &da ?_
 &xx (Qz 4 1 Od rfl) ?_
 ~ft [(0,1)]
end Go.Proofs.YtkfnkecgcdhncaaGreat
