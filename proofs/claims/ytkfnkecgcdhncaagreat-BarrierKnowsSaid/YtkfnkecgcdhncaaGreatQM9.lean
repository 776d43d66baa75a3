/- Parts of the proof. No condition. -/
import Derived.Test.YtkfnkecgcdhncaaGreatQM0
import Derived.Test.YtkfnkecgcdhncaaGreatQM4
import Derived.Test.YtkfnkecgcdhncaaGreatQM5
import Derived.Test.YtkfnkecgcdhncaaGreatQM6
import Derived.Test.YtkfnkecgcdhncaaGreatQM7
import Derived.Test.YtkfnkecgcdhncaaGreatQM8
namespace Go.Proofs.YtkfnkecgcdhncaaGreat
open Go.RowKit
set_option linter.unusedSimpArgs false
set_option linter.unusedVariables false
set_option maxRecDepth 20000
set_option maxHeartbeats 40000000
noncomputable def JX(p0:Qc):Option (Cfg×Qc) :=
 (Qb p0 3).bind λv2 =>
 if 0<v2.1 then
 ((QaN).bind λv4 =>
 (Qb v2.2 6).bind λv5 =>
 (at_ v4 v5.1).bind λv6 =>
 (Qb v5.2 100).bind λv7 =>
 (Qb v7.2 6).bind λv8 =>
 (at_ [10,15,25,30,50,w64 (1+v7.1)] v8.1).bind λv9 =>
 (Qa1 v6 v9).bind λv10 =>
 if 0<v10.1.full then
 ((Qb v8.2 5).bind λv13 =>
 some ((Cfg.mk v10.1.name v10.1.rules (w64 (1+v13.1)),v13.2)))
 else
 some ((v10.1,v8.2)))
 else
 (Qb v2.2 4).bind λv14 =>
 (Qh (λ(s19:Qc×List Rul×Int×Int) =>
 if s19.2.2.2<(w64 (1+v14.1)) then
 ((Qb s19.1 3).bind λv24 =>
 (Qb v24.2 3).bind λv26 =>
 if 0<v26.1 then
 ((Qau v26.2).bind λv28 =>
 if s19.2.2.2<(w64 ((w64 (1+v14.1))-1)) then
 ((Qb v28.2 3).bind λv31 =>
 if v31.1=0 then
 ((Qb v31.2 2).bind λv33 =>
 if s19.2.2.2=(w64 ((w64 (1+v14.1))-1)) then
 (if (QeY .eql v28.1 0)=true then
 ((Qb v33.2 6).bind λv37 =>
 if ((s19.2.1.length:Int)+[Rul.mk v28.1 (w64 (1+v33.1)) v24.1 s19.2.2.2].length)*32<=140737488355328/\(s19.2.1.length:Int)+[Rul.mk v28.1 (w64 (1+v33.1)) v24.1 s19.2.2.2].length<=9223372036854775807 then
 some (.go ((v37.2,s19.2.1++[Rul.mk v28.1 (w64 (1+v33.1)) v24.1 s19.2.2.2],w64 (1+v37.1),w64 (s19.2.2.2+1))))
 else none)
 else
 if ((s19.2.1.length:Int)+[Rul.mk v28.1 (w64 (1+v33.1)) v24.1 s19.2.2.2].length)*32<=140737488355328/\(s19.2.1.length:Int)+[Rul.mk v28.1 (w64 (1+v33.1)) v24.1 s19.2.2.2].length<=9223372036854775807 then
 some (.go ((v33.2,s19.2.1++[Rul.mk v28.1 (w64 (1+v33.1)) v24.1 s19.2.2.2],s19.2.2.1,w64 (s19.2.2.2+1))))
 else none)
 else
 if ((s19.2.1.length:Int)+[Rul.mk v28.1 (w64 (1+v33.1)) v24.1 (w64 (s19.2.2.2+1))].length)*32<=140737488355328/\(s19.2.1.length:Int)+[Rul.mk v28.1 (w64 (1+v33.1)) v24.1 (w64 (s19.2.2.2+1))].length<=9223372036854775807 then
 some (.go ((v33.2,s19.2.1++[Rul.mk v28.1 (w64 (1+v33.1)) v24.1 (w64 (s19.2.2.2+1))],s19.2.2.1,w64 (s19.2.2.2+1))))
 else none)
 else
 if s19.2.2.2=(w64 ((w64 (1+v14.1))-1)) then
 (if (QeY .eql v28.1 0)=true then
 ((Qb v31.2 6).bind λv44 =>
 if ((s19.2.1.length:Int)+[Rul.mk v28.1 0 v24.1 s19.2.2.2].length)*32<=140737488355328/\(s19.2.1.length:Int)+[Rul.mk v28.1 0 v24.1 s19.2.2.2].length<=9223372036854775807 then
 some (.go ((v44.2,s19.2.1++[Rul.mk v28.1 0 v24.1 s19.2.2.2],w64 (1+v44.1),w64 (s19.2.2.2+1))))
 else none)
 else
 if ((s19.2.1.length:Int)+[Rul.mk v28.1 0 v24.1 s19.2.2.2].length)*32<=140737488355328/\(s19.2.1.length:Int)+[Rul.mk v28.1 0 v24.1 s19.2.2.2].length<=9223372036854775807 then
 some (.go ((v31.2,s19.2.1++[Rul.mk v28.1 0 v24.1 s19.2.2.2],s19.2.2.1,w64 (s19.2.2.2+1))))
 else none)
 else
 if ((s19.2.1.length:Int)+[Rul.mk v28.1 0 v24.1 (w64 (s19.2.2.2+1))].length)*32<=140737488355328/\(s19.2.1.length:Int)+[Rul.mk v28.1 0 v24.1 (w64 (s19.2.2.2+1))].length<=9223372036854775807 then
 some (.go ((v31.2,s19.2.1++[Rul.mk v28.1 0 v24.1 (w64 (s19.2.2.2+1))],s19.2.2.1,w64 (s19.2.2.2+1))))
 else none)
 else
 if s19.2.2.2=(w64 ((w64 (1+v14.1))-1)) then
 (if (QeY .eql v28.1 0)=true then
 ((Qb v28.2 6).bind λv51 =>
 if ((s19.2.1.length:Int)+[Rul.mk v28.1 0 v24.1 s19.2.2.2].length)*32<=140737488355328/\(s19.2.1.length:Int)+[Rul.mk v28.1 0 v24.1 s19.2.2.2].length<=9223372036854775807 then
 some (.go ((v51.2,s19.2.1++[Rul.mk v28.1 0 v24.1 s19.2.2.2],w64 (1+v51.1),w64 (s19.2.2.2+1))))
 else none)
 else
 if ((s19.2.1.length:Int)+[Rul.mk v28.1 0 v24.1 s19.2.2.2].length)*32<=140737488355328/\(s19.2.1.length:Int)+[Rul.mk v28.1 0 v24.1 s19.2.2.2].length<=9223372036854775807 then
 some (.go ((v28.2,s19.2.1++[Rul.mk v28.1 0 v24.1 s19.2.2.2],s19.2.2.1,w64 (s19.2.2.2+1))))
 else none)
 else
 if ((s19.2.1.length:Int)+[Rul.mk v28.1 0 v24.1 (w64 (s19.2.2.2+1))].length)*32<=140737488355328/\(s19.2.1.length:Int)+[Rul.mk v28.1 0 v24.1 (w64 (s19.2.2.2+1))].length<=9223372036854775807 then
 some (.go ((v28.2,s19.2.1++[Rul.mk v28.1 0 v24.1 (w64 (s19.2.2.2+1))],s19.2.2.1,w64 (s19.2.2.2+1))))
 else none)
 else
 if s19.2.2.2<(w64 ((w64 (1+v14.1))-1)) then
 ((Qb v26.2 3).bind λv57 =>
 if v57.1=0 then
 ((Qb v57.2 2).bind λv59 =>
 if s19.2.2.2=(w64 ((w64 (1+v14.1))-1)) then
 ((Qb v59.2 6).bind λv62 =>
 if ((s19.2.1.length:Int)+[Rul.mk 0 (w64 (1+v59.1)) v24.1 s19.2.2.2].length)*32<=140737488355328/\(s19.2.1.length:Int)+[Rul.mk 0 (w64 (1+v59.1)) v24.1 s19.2.2.2].length<=9223372036854775807 then
 some (.go ((v62.2,s19.2.1++[Rul.mk 0 (w64 (1+v59.1)) v24.1 s19.2.2.2],w64 (1+v62.1),w64 (s19.2.2.2+1))))
 else none)
 else
 if ((s19.2.1.length:Int)+[Rul.mk 0 (w64 (1+v59.1)) v24.1 (w64 (s19.2.2.2+1))].length)*32<=140737488355328/\(s19.2.1.length:Int)+[Rul.mk 0 (w64 (1+v59.1)) v24.1 (w64 (s19.2.2.2+1))].length<=9223372036854775807 then
 some (.go ((v59.2,s19.2.1++[Rul.mk 0 (w64 (1+v59.1)) v24.1 (w64 (s19.2.2.2+1))],s19.2.2.1,w64 (s19.2.2.2+1))))
 else none)
 else
 if s19.2.2.2=(w64 ((w64 (1+v14.1))-1)) then
 ((Qb v57.2 6).bind λv67 =>
 if ((s19.2.1.length:Int)+[Rul.mk 0 0 v24.1 s19.2.2.2].length)*32<=140737488355328/\(s19.2.1.length:Int)+[Rul.mk 0 0 v24.1 s19.2.2.2].length<=9223372036854775807 then
 some (.go ((v67.2,s19.2.1++[Rul.mk 0 0 v24.1 s19.2.2.2],w64 (1+v67.1),w64 (s19.2.2.2+1))))
 else none)
 else
 if ((s19.2.1.length:Int)+[Rul.mk 0 0 v24.1 (w64 (s19.2.2.2+1))].length)*32<=140737488355328/\(s19.2.1.length:Int)+[Rul.mk 0 0 v24.1 (w64 (s19.2.2.2+1))].length<=9223372036854775807 then
 some (.go ((v57.2,s19.2.1++[Rul.mk 0 0 v24.1 (w64 (s19.2.2.2+1))],s19.2.2.1,w64 (s19.2.2.2+1))))
 else none)
 else
 if s19.2.2.2=(w64 ((w64 (1+v14.1))-1)) then
 ((Qb v26.2 6).bind λv72 =>
 if ((s19.2.1.length:Int)+[Rul.mk 0 0 v24.1 s19.2.2.2].length)*32<=140737488355328/\(s19.2.1.length:Int)+[Rul.mk 0 0 v24.1 s19.2.2.2].length<=9223372036854775807 then
 some (.go ((v72.2,s19.2.1++[Rul.mk 0 0 v24.1 s19.2.2.2],w64 (1+v72.1),w64 (s19.2.2.2+1))))
 else none)
 else
 if ((s19.2.1.length:Int)+[Rul.mk 0 0 v24.1 (w64 (s19.2.2.2+1))].length)*32<=140737488355328/\(s19.2.1.length:Int)+[Rul.mk 0 0 v24.1 (w64 (s19.2.2.2+1))].length<=9223372036854775807 then
 some (.go ((v26.2,s19.2.1++[Rul.mk 0 0 v24.1 (w64 (s19.2.2.2+1))],s19.2.2.1,w64 (s19.2.2.2+1))))
 else none)
 else
 some (.out ((s19.1,s19.2.1,s19.2.2.1)))) (v14.2,([]:List Rul),0,0)).bind λ(b15:Qc×List Rul×Int) =>
 some ((Cfg.mk (ByteArray.mk #[111,119,110]) b15.2.1 b15.2.2,b15.1))
theorem Qfd{p0 r}:Sm (JX p0) r->DCall Tryz.prog 18 [.ptr 0 0 0] [(0,bO 2 [.sl (p0.l.map iC),DI p0.pos])] (.agg [.lit (.string r.1.name),.own 1 0 r.1.rules.length,DI r.1.full]) [(0,bO 2 [.sl (r.2.l.map iC),DI r.2.pos]),(1,aO 4 (r.1.rules.map Rul.c))]:=by
 unfold JX
 &mk0 Tryz.func18 ?_
 &ar ?_
 &sq λK k=>?_
 &xd λv2 hv2=>?_
 have q0:=cG r1 (Qa hv2)
 &ar ?_
 &xs (λh3=>?_) λh3=>?_
 &ca ?_
 &xd λv4 hv4=>?_
 &xd λv5 hv5=>?_
 &xa λv6 hv6=>?_
 &xd λv7 hv7=>?_
 &xd λv8 hv8=>?_
 &xa λv9 hv9=>?_
 &xd λv10 hv10=>?_
 clear q0
 &ar ?_
 &goA (Jn r0 (Qe7 hv4) rfl (ScS.cons (scC (λ_=>rfl)) ScS.nil)) ?_
 &au ?_
 &goA (m_cG r1 (Qa hv5)) ?_
 &au ?_
 &goA (m_cG r1 (Qa hv7)) ?_
 &au ?_
 &goA (Ql (c:=iC) ([10,15,25,30,50,w64 (1+v7.1)]:List Int) i22.ok i3.ok) ?_
 &au ?_
 &goA (m_cG r1 (Qa hv8)) ?_
 &au ?_
 &goA (Jn r0 (F_ref14_Get_ok hv10) rfl (ScS.cons (scC (λ_=>rfl)) ScS.nil)) ?_
 &au ?_
 &sq λK k=>?_
 &ar ?_
 &xs (λh12=>?_) λh12=>?_
 &ca ?_
 &xd λv13 hv13=>?_
 have q0:=cG r1 (Qa hv13)
 &ar ?_
 &ar ?_
 ~fw [(0,0),(1,4)]
 &db ?_
 ~fw [(0,0),(1,4)]
 &cb ?_
 &xd λv14 hv14=>?_
 replace q0:=cG r1 (Qa hv14)
 &ar ?_
 &ar ?_
 &cT [] [(2,λb15=>.ptr 1 0 0),(6,λb15=>.ptr 2 0 0)] [1] [] [(0,λb15=>bO 2 [.sl (b15.1.l.map iC),DI b15.1.pos]),(2,λb15=>bO 3 [.lit (.string (ByteArray.mk #[111,119,110])),.own 3 0 b15.2.1.length,DI b15.2.2]),(3,λb15=>aO 4 (b15.2.1.map Rul.c))] 4 (λz16=>?_) λb15=>?_
 &ar ?_
 &xx (Qj 2 1 4 Od rfl rfl) ?_
 &lP [0,5] [(2,λs19=>.ptr 1 0 0),(6,λs19=>.ptr 2 0 0),(7,λs19=>DI s19.2.2.2)] [1] [] [(0,λs19=>bO 2 [.sl (s19.1.l.map iC),DI s19.1.pos]),(2,λs19=>bO 3 [.lit (.string (ByteArray.mk #[111,119,110])),.own 3 0 s19.2.1.length,DI s19.2.2.1]),(3,λs19=>aO 4 (s19.2.1.map Rul.c))] 4 λs19 y20 hq20=>?_
 &sq λK k=>?_
 &ar ?_
 &xs (λh22=>?_) λh22=>?_
 &ca ?_
 &sq λK k=>?_
 &au ?_
 &xd λv24 hv24=>?_
 replace q0:=cG r1 (Qa hv24)
 &ar ?_
 &sq λK k=>?_
 &xd λv26 hv26=>?_
 replace q0:=cG r1 (Qa hv26)
 &ar ?_
 &xs (λh27=>?_) λh27=>?_
 &ca ?_
 &xd λv28 hv28=>?_
 replace q0:=cG r1 (QgH hv28)
 &ar ?_
 &sq λK k=>?_
 &xs (λh30=>?_) λh30=>?_
 &xd λv31 hv31=>?_
 replace q0:=cG r1 (Qa hv31)
 &ar ?_
 &xs (λh32=>?_) λh32=>?_
 &ca ?_
 &xd λv33 hv33=>?_
 replace q0:=cG r1 (Qa hv33)
 &ar ?_
 &sq λK k=>?_
 &ar ?_
 &xs (λh35=>?_) λh35=>?_
 &da ?_
 &ar ?_
 &goA (QeW (.inl rfl)) ?_
 &au ?_
 &xs (λh36=>?_) λh36=>?_
 &ca ?_
 &xd λv37 hv37=>?_
 replace q0:=cG r1 (Qa hv37)
 &ar ?_
 &xc λh38=>?_
 &ar ?_
 &goA (Ql (c:=Rul.c) ([Rul.mk v28.1 (w64 (1+v33.1)) v24.1 s19.2.2.2]:List Rul) i23.ok Qa8.ok) ?_
 &goA (QW (c:=Rul.c) s19.2.1 [Rul.mk v28.1 (w64 (1+v33.1)) v24.1 s19.2.2.2] h38 i23.ok Qa8.ok rfl rfl (.own rfl rfl Os (Qg (c:=Rul.c) (λ_=>rfl) _)) rfl) ?_
 &au ?_
 &ar ?_
 ~wJ [(3,6)]
 &cb ?_
 &xc λh39=>?_
 &ar ?_
 &goA (Ql (c:=Rul.c) ([Rul.mk v28.1 (w64 (1+v33.1)) v24.1 s19.2.2.2]:List Rul) i23.ok Qa8.ok) ?_
 &goA (QW (c:=Rul.c) s19.2.1 [Rul.mk v28.1 (w64 (1+v33.1)) v24.1 s19.2.2.2] h39 i23.ok Qa8.ok rfl rfl (.own rfl rfl Os (Qg (c:=Rul.c) (λ_=>rfl) _)) rfl) ?_
 &au ?_
 &ar ?_
 ~wJ [(3,6)]
 &cb ?_
 &xc λh40=>?_
 &ar ?_
 &goA (Ql (c:=Rul.c) ([Rul.mk v28.1 (w64 (1+v33.1)) v24.1 (w64 (s19.2.2.2+1))]:List Rul) i23.ok Qa8.ok) ?_
 &goA (QW (c:=Rul.c) s19.2.1 [Rul.mk v28.1 (w64 (1+v33.1)) v24.1 (w64 (s19.2.2.2+1))] h40 i23.ok Qa8.ok rfl rfl (.own rfl rfl Os (Qg (c:=Rul.c) (λ_=>rfl) _)) rfl) ?_
 &au ?_
 &ar ?_
 ~wJ [(3,6)]
 &cb ?_
 &sq λK k=>?_
 &ar ?_
 &xs (λh42=>?_) λh42=>?_
 &da ?_
 &ar ?_
 &goA (QeW (.inl rfl)) ?_
 &au ?_
 &xs (λh43=>?_) λh43=>?_
 &ca ?_
 &xd λv44 hv44=>?_
 replace q0:=cG r1 (Qa hv44)
 &ar ?_
 &xc λh45=>?_
 &ar ?_
 &goA (Ql (c:=Rul.c) ([Rul.mk v28.1 0 v24.1 s19.2.2.2]:List Rul) i23.ok Qa8.ok) ?_
 &goA (QW (c:=Rul.c) s19.2.1 [Rul.mk v28.1 0 v24.1 s19.2.2.2] h45 i23.ok Qa8.ok rfl rfl (.own rfl rfl Os (Qg (c:=Rul.c) (λ_=>rfl) _)) rfl) ?_
 &au ?_
 &ar ?_
 ~wJ [(3,6)]
 &cb ?_
 &xc λh46=>?_
 &ar ?_
 &goA (Ql (c:=Rul.c) ([Rul.mk v28.1 0 v24.1 s19.2.2.2]:List Rul) i23.ok Qa8.ok) ?_
 &goA (QW (c:=Rul.c) s19.2.1 [Rul.mk v28.1 0 v24.1 s19.2.2.2] h46 i23.ok Qa8.ok rfl rfl (.own rfl rfl Os (Qg (c:=Rul.c) (λ_=>rfl) _)) rfl) ?_
 &au ?_
 &ar ?_
 ~wJ [(3,6)]
 &cb ?_
 &xc λh47=>?_
 &ar ?_
 &goA (Ql (c:=Rul.c) ([Rul.mk v28.1 0 v24.1 (w64 (s19.2.2.2+1))]:List Rul) i23.ok Qa8.ok) ?_
 &goA (QW (c:=Rul.c) s19.2.1 [Rul.mk v28.1 0 v24.1 (w64 (s19.2.2.2+1))] h47 i23.ok Qa8.ok rfl rfl (.own rfl rfl Os (Qg (c:=Rul.c) (λ_=>rfl) _)) rfl) ?_
 &au ?_
 &ar ?_
 ~wJ [(3,6)]
 &ar ?_
 &cb ?_
 &sq λK k=>?_
 &ar ?_
 &xs (λh49=>?_) λh49=>?_
 &da ?_
 &ar ?_
 &goA (QeW (.inl rfl)) ?_
 &au ?_
 &xs (λh50=>?_) λh50=>?_
 &ca ?_
 &xd λv51 hv51=>?_
 replace q0:=cG r1 (Qa hv51)
 &ar ?_
 &xc λh52=>?_
 &ar ?_
 &goA (Ql (c:=Rul.c) ([Rul.mk v28.1 0 v24.1 s19.2.2.2]:List Rul) i23.ok Qa8.ok) ?_
 &goA (QW (c:=Rul.c) s19.2.1 [Rul.mk v28.1 0 v24.1 s19.2.2.2] h52 i23.ok Qa8.ok rfl rfl (.own rfl rfl Os (Qg (c:=Rul.c) (λ_=>rfl) _)) rfl) ?_
 &au ?_
 &ar ?_
 ~wJ [(3,6)]
 &cb ?_
 &xc λh53=>?_
 &ar ?_
 &goA (Ql (c:=Rul.c) ([Rul.mk v28.1 0 v24.1 s19.2.2.2]:List Rul) i23.ok Qa8.ok) ?_
 &goA (QW (c:=Rul.c) s19.2.1 [Rul.mk v28.1 0 v24.1 s19.2.2.2] h53 i23.ok Qa8.ok rfl rfl (.own rfl rfl Os (Qg (c:=Rul.c) (λ_=>rfl) _)) rfl) ?_
 &au ?_
 &ar ?_
 ~wJ [(3,6)]
 &cb ?_
 &xc λh54=>?_
 &ar ?_
 &goA (Ql (c:=Rul.c) ([Rul.mk v28.1 0 v24.1 (w64 (s19.2.2.2+1))]:List Rul) i23.ok Qa8.ok) ?_
 &goA (QW (c:=Rul.c) s19.2.1 [Rul.mk v28.1 0 v24.1 (w64 (s19.2.2.2+1))] h54 i23.ok Qa8.ok rfl rfl (.own rfl rfl Os (Qg (c:=Rul.c) (λ_=>rfl) _)) rfl) ?_
 &au ?_
 &ar ?_
 ~wJ [(3,6)]
 &cb ?_
 &sq λK k=>?_
 &xs (λh56=>?_) λh56=>?_
 &xd λv57 hv57=>?_
 replace q0:=cG r1 (Qa hv57)
 &ar ?_
 &xs (λh58=>?_) λh58=>?_
 &ca ?_
 &xd λv59 hv59=>?_
 replace q0:=cG r1 (Qa hv59)
 &ar ?_
 &sq λK k=>?_
 &ar ?_
 &xs (λh61=>?_) λh61=>?_
 &da ?_
 &ar ?_
 &goA (QeW (.inl rfl)) ?_
 &au ?_
 &ca ?_
 &xd λv62 hv62=>?_
 replace q0:=cG r1 (Qa hv62)
 &ar ?_
 &xc λh63=>?_
 &ar ?_
 &goA (Ql (c:=Rul.c) ([Rul.mk 0 (w64 (1+v59.1)) v24.1 s19.2.2.2]:List Rul) i23.ok Qa8.ok) ?_
 &goA (QW (c:=Rul.c) s19.2.1 [Rul.mk 0 (w64 (1+v59.1)) v24.1 s19.2.2.2] h63 i23.ok Qa8.ok rfl rfl (.own rfl rfl Os (Qg (c:=Rul.c) (λ_=>rfl) _)) rfl) ?_
 &au ?_
 &ar ?_
 ~wJ [(3,6)]
 &cb ?_
 &xc λh64=>?_
 &ar ?_
 &goA (Ql (c:=Rul.c) ([Rul.mk 0 (w64 (1+v59.1)) v24.1 (w64 (s19.2.2.2+1))]:List Rul) i23.ok Qa8.ok) ?_
 &goA (QW (c:=Rul.c) s19.2.1 [Rul.mk 0 (w64 (1+v59.1)) v24.1 (w64 (s19.2.2.2+1))] h64 i23.ok Qa8.ok rfl rfl (.own rfl rfl Os (Qg (c:=Rul.c) (λ_=>rfl) _)) rfl) ?_
 &au ?_
 &ar ?_
 ~wJ [(3,6)]
 &cb ?_
 &sq λK k=>?_
 &ar ?_
 &xs (λh66=>?_) λh66=>?_
 &da ?_
 &ar ?_
 &goA (QeW (.inl rfl)) ?_
 &au ?_
 &ca ?_
 &xd λv67 hv67=>?_
 replace q0:=cG r1 (Qa hv67)
 &ar ?_
 &xc λh68=>?_
 &ar ?_
 &goA (Ql (c:=Rul.c) ([Rul.mk 0 0 v24.1 s19.2.2.2]:List Rul) i23.ok Qa8.ok) ?_
 &goA (QW (c:=Rul.c) s19.2.1 [Rul.mk 0 0 v24.1 s19.2.2.2] h68 i23.ok Qa8.ok rfl rfl (.own rfl rfl Os (Qg (c:=Rul.c) (λ_=>rfl) _)) rfl) ?_
 &au ?_
 &ar ?_
 ~wJ [(3,6)]
 &cb ?_
 &xc λh69=>?_
 &ar ?_
 &goA (Ql (c:=Rul.c) ([Rul.mk 0 0 v24.1 (w64 (s19.2.2.2+1))]:List Rul) i23.ok Qa8.ok) ?_
 &goA (QW (c:=Rul.c) s19.2.1 [Rul.mk 0 0 v24.1 (w64 (s19.2.2.2+1))] h69 i23.ok Qa8.ok rfl rfl (.own rfl rfl Os (Qg (c:=Rul.c) (λ_=>rfl) _)) rfl) ?_
 &au ?_
 &ar ?_
 ~wJ [(3,6)]
 &ar ?_
 &cb ?_
 &sq λK k=>?_
 &ar ?_
 &xs (λh71=>?_) λh71=>?_
 &da ?_
 &ar ?_
 &goA (QeW (.inl rfl)) ?_
 &au ?_
 &ca ?_
 &xd λv72 hv72=>?_
 replace q0:=cG r1 (Qa hv72)
 &ar ?_
 &xc λh73=>?_
 &ar ?_
 &goA (Ql (c:=Rul.c) ([Rul.mk 0 0 v24.1 s19.2.2.2]:List Rul) i23.ok Qa8.ok) ?_
 &goA (QW (c:=Rul.c) s19.2.1 [Rul.mk 0 0 v24.1 s19.2.2.2] h73 i23.ok Qa8.ok rfl rfl (.own rfl rfl Os (Qg (c:=Rul.c) (λ_=>rfl) _)) rfl) ?_
 &au ?_
 &ar ?_
 ~wJ [(3,6)]
 &cb ?_
 &xc λh74=>?_
 &ar ?_
 &goA (Ql (c:=Rul.c) ([Rul.mk 0 0 v24.1 (w64 (s19.2.2.2+1))]:List Rul) i23.ok Qa8.ok) ?_
 &goA (QW (c:=Rul.c) s19.2.1 [Rul.mk 0 0 v24.1 (w64 (s19.2.2.2+1))] h74 i23.ok Qa8.ok rfl rfl (.own rfl rfl Os (Qg (c:=Rul.c) (λ_=>rfl) _)) rfl) ?_
 &au ?_
 &ar ?_
 ~wJ [(3,6)]
 &cb ?_
 &xo hq20 ?_
 ~wJ []
 &ar ?_
 ~fw [(0,0),(1,3)]
noncomputable def QcP(p0:Qc)(p1:Gra):Option (AOp×Qc) :=
 (Qh (λ(s5:List Int×Int) =>
 if s5.2<(p1.used.length:Int) then
 ((at_ p1.used s5.2).bind λv10 =>
 if v10=true then
 (if ((s5.1.length:Int)+[w64 (s5.2+1)].length)*8<=140737488355328/\(s5.1.length:Int)+[w64 (s5.2+1)].length<=9223372036854775807 then
 some (.go ((s5.1++[w64 (s5.2+1)],w64 (s5.2+1))))
 else none)
 else
 some (.go ((s5.1,w64 (s5.2+1)))))
 else
 some (.out (s5.1))) (([]:List Int),0)).bind λ(b1:List Int) =>
 (Qb p0 20).bind λv13 =>
 (at_ [1,1,1,1,2,2,3,3,3,3,4,5,6,7,7,7,8,9,10,0] v13.1).bind λv14 =>
 (if 20<(b1.length:Int) then
 (if v14=1 then
 (some (7))
 else
 some (v14))
 else
 some (v14)).bind λ(b15:Int) =>
 if b15=1 then
 ((Qb v13.2 4).bind λv21 =>
 (Qb v21.2 4).bind λv22 =>
 (at_ [3,3,8,17] v22.1).bind λv23 =>
 (Qb v22.2 v23).bind λv24 =>
 some ((AOp.mk b15 v21.1 v24.1 0,v24.2)))
 else
 (if b15=2 then
 (some (decide (b15=2)))
 else
 some (decide (b15=4))).bind λ(b25:Bool) =>
 if b25=true then
 ((Zb b1 v13.2).bind λv29 =>
 if v29.2.2.1.length=b1.length then
 (Qb v29.2.2.2 3).bind λv30 =>
 some ((AOp.mk b15 v29.1 v30.1 0,v30.2))
 else none)
 else
 if b15=3 then
 ((Zb b1 v13.2).bind λv33 =>
 if v33.2.2.1.length=b1.length then
 (Qb v33.2.2.2 3).bind λv34 =>
 (Zb v33.2.2.1 v34.2).bind λv35 =>
 if v35.2.2.1.length=v33.2.2.1.length then
 some ((AOp.mk b15 v33.1 v34.1 v35.1,v35.2.2.2))
 else none
 else none)
 else
 if b15=5 then
 ((Zb b1 v13.2).bind λv39 =>
 if v39.2.2.1.length=b1.length then
 (Qb v39.2.2.2 3).bind λv40 =>
 (Qb v40.2 256).bind λv41 =>
 some ((AOp.mk b15 v39.1 v40.1 v41.1,v41.2))
 else none)
 else
 if b15=6 then
 ((Zb b1 v13.2).bind λv44 =>
 if v44.2.2.1.length=b1.length then
 (Zb v44.2.2.1 v44.2.2.2).bind λv45 =>
 if v45.2.2.1.length=v44.2.2.1.length then
 some ((AOp.mk b15 v44.1 v45.1 0,v45.2.2.2))
 else none
 else none)
 else
 if b15=7 then
 ((Zb b1 v13.2).bind λv50 =>
 if v50.2.2.1.length=b1.length then
 some ((AOp.mk b15 v50.1 0 0,v50.2.2.2))
 else none)
 else
 if b15=9 then
 ((Zb b1 v13.2).bind λv53 =>
 if v53.2.2.1.length=b1.length then
 some ((AOp.mk b15 v53.1 0 0,v53.2.2.2))
 else none)
 else
 some ((AOp.mk b15 0 0 0,v13.2))
theorem F_make_Op_ok{p0 p1 r}:Sm (QcP p0 p1) r->DCall Tryz.prog 38 [.ptr 0 0 0,.agg [.sl (p1.nodes.map Nod.c),.sl (p1.used.map bC),.sl (p1.roots.map iC)]] [(0,bO 2 [.sl (p0.l.map iC),DI p0.pos])] (.agg [DI r.1.code,DI r.1.a,DI r.1.b,DI r.1.c_]) [(0,bO 2 [.sl (r.2.l.map iC),DI r.2.pos])]:=by
 unfold QcP
 &mk0 Tryz.func38 ?_
 &ar ?_
 &ar ?_
 &cT [] [(2,λb1=>.ptr 1 0 0),(4,λb1=>.ptr 3 0 0),(5,λb1=>.ptr 4 0 0)] [0,3] [] [(1,λb1=>bO 1 [.ptr 0 0 0]),(4,λb1=>bO 1 [.own 5 0 b1.length]),(5,λb1=>aO 1 (b1.map iC))] 6 (λz2=>?_) λb1=>?_
 &ar ?_
 &xx (Qj 4 0 1 Od rfl rfl) ?_
 &lP [11,12] [(2,λs5=>.ptr 1 0 0),(4,λs5=>.ptr 3 0 0),(5,λs5=>.ptr 4 0 0),(13,λs5=>DI s5.2)] [0,3] [] [(1,λs5=>bO 1 [.ptr 0 0 0]),(4,λs5=>bO 1 [.own 5 0 s5.1.length]),(5,λs5=>aO 1 (s5.1.map iC))] 6 λs5 y6 hq6=>?_
 &ar ?_
 &sq λK k=>?_
 &xs (λh8=>?_) λh8=>?_
 &ca ?_
 &sq λK k=>?_
 &au ?_
 &xa λv10 hv10=>?_
 &ar ?_
 &ar ?_
 &xs (λh11=>?_) λh11=>?_
 &ca ?_
 &xc λh12=>?_
 &ar ?_
 &goA (Ql (c:=iC) ([w64 (s5.2+1)]:List Int) i22.ok i3.ok) ?_
 &goA (QW (c:=iC) s5.1 [w64 (s5.2+1)] h12 i22.ok i3.ok rfl rfl (.own rfl rfl Os (Qg (c:=iC) (λ_=>rfl) _)) rfl) ?_
 &au ?_
 &ar ?_
 ~wJ [(5,7)]
 &db ?_
 ~wJ []
 &cb ?_
 &xo hq6 ?_
 ~wJ []
 &ar ?_
 &xd λv13 hv13=>?_
 &xa λv14 hv14=>?_
 have q0:=cG r1 (Qa hv13)
 &ar ?_
 &goA (Ql (c:=iC) ([1,1,1,1,2,2,3,3,3,3,4,5,6,7,7,7,8,9,10,0]:List Int) i22.ok i3.ok) ?_
 &au ?_
 &cT [2,4] [(8,λb15=>.fn 63 [.ptr 4 0 0,.ptr 1 0 0]),(9,λb15=>.ptr 7 0 0)] [1,3,4,5] [(7,[(0,λb15=>DI b15)])] [(0,λb15=>bO 2 [.sl (v13.2.l.map iC),DI v13.2.pos])] 8 (λz16=>?_) λb15=>?_
 &xs (λh17=>?_) λh17=>?_
 &ar ?_
 &xs (λh18=>?_) λh18=>?_
 &da ?_
 ~wJ []
 &cb ?_
 ~wJ []
 &ar ?_
 &cb ?_
 ~wJ []
 &sq λK k=>?_
 &ar ?_
 &ar ?_
 &xs (λh20=>?_) λh20=>?_
 &ca ?_
 &xd λv21 hv21=>?_
 &xd λv22 hv22=>?_
 &xa λv23 hv23=>?_
 &xd λv24 hv24=>?_
 clear q0
 &ar ?_
 &goA (m_cG r1 (Qa hv21)) ?_
 &au ?_
 &goA (Ql (c:=iC) ([3,3,8,17]:List Int) i22.ok i3.ok) ?_
 &au ?_
 &goA (m_cG r1 (Qa hv22)) ?_
 &au ?_
 &goA (m_cG r1 (Qa hv24)) ?_
 &au ?_
 &ar ?_
 ~fw r1
 &cb ?_
 &cT [2,4,8,9,42] [(56,λb25=>DB b25)] [0,1,3,4,5,7] [] [] 8 (λz26=>?_) λb25=>?_
 &ar ?_
 &xs (λh27=>?_) λh27=>?_
 &ca ?_
 ~wJ []
 &db ?_
 ~wJ []
 &xs (λh28=>?_) λh28=>?_
 &ca ?_
 &xd λv29 hv29=>?_
 &xc λh31=>?_
 &xd λv30 hv30=>?_
 replace q0:=cG [(0,4),(1,5),(2,1),(3,0)] (Zm hv29)
 have q1:=cG r1 (Qa hv30)
 &b_ayK [1] ?_
 &au ?_
 &ar ?_
 ~fw r1
 &db ?_
 &xs (λh32=>?_) λh32=>?_
 &ca ?_
 &xd λv33 hv33=>?_
 &xc λh37=>?_
 &xd λv34 hv34=>?_
 &xd λv35 hv35=>?_
 &xc λh36=>?_
 clear q0
 &b_ayK [1] ?_
 &au ?_
 &goA (m_cG [(0,4),(1,5),(2,1),(3,0)] (Zm hv33)) ?_
 &au ?_
 &goA (m_cG r1 (Qa hv34)) ?_
 &au ?_
 &goA (m_cG [(0,4),(1,5),(2,1),(3,0)] (Zm hv35)) ?_
 &au ?_
 &ar ?_
 ~fw r1
 &db ?_
 &xs (λh38=>?_) λh38=>?_
 &ca ?_
 &xd λv39 hv39=>?_
 &xc λh42=>?_
 &xd λv40 hv40=>?_
 &xd λv41 hv41=>?_
 clear q0
 &b_ayK [1] ?_
 &au ?_
 &goA (m_cG [(0,4),(1,5),(2,1),(3,0)] (Zm hv39)) ?_
 &au ?_
 &goA (m_cG r1 (Qa hv40)) ?_
 &au ?_
 &goA (m_cG r1 (Qa hv41)) ?_
 &au ?_
 &ar ?_
 ~fw r1
 &db ?_
 &xs (λh43=>?_) λh43=>?_
 &ca ?_
 &xd λv44 hv44=>?_
 &xc λh47=>?_
 &xd λv45 hv45=>?_
 &xc λh46=>?_
 &ar ?_
 &goA (m_cG [(0,4),(1,5),(2,1),(3,0)] (Zm hv44)) ?_
 &au ?_
 &goA (m_cG [(0,4),(1,5),(2,1),(3,0)] (Zm hv45)) ?_
 &au ?_
 &ar ?_
 ~fw r1
 &cb ?_
 &sq λK k=>?_
 &ar ?_
 &xs (λh49=>?_) λh49=>?_
 &ca ?_
 &ca ?_
 &xd λv50 hv50=>?_
 &xc λh51=>?_
 replace q0:=cG [(0,4),(1,5),(2,1),(3,0)] (Zm hv50)
 &ar ?_
 &ar ?_
 ~fw r1
 &db ?_
 &xs (λh52=>?_) λh52=>?_
 &ca ?_
 &xd λv53 hv53=>?_
 &xc λh54=>?_
 replace q0:=cG [(0,4),(1,5),(2,1),(3,0)] (Zm hv53)
 &ar ?_
 &ar ?_
 ~fw r1
 &db ?_
 ~fw r1
noncomputable def Jc(p0:Cfg)(p1:Sp)(p2:List (List Inc))(p3:Inc)(p4:Int):Option Bool :=
 (Z5 p1 p3 p4).bind λv1 =>
 if v1=0 then
 (some (true))
 else
 (Qas p1).bind λv4 =>
 if (p1.fs.length:Int)<(w64 (v4+v1)) then
 (some (false))
 else
 (QR p0).bind λv8 =>
 if v8=true then
 (some (decide ((w64 (2*(w64 (v4+v1))))<=(p1.fs.length:Int))))
 else
 (XL p1 p2).bind λv10 =>
 (QN p1 p3).bind λv11 =>
 some (decide ((max v10 (w64 (v11+v1)))<=(w64 ((p1.fs.length:Int)-(w64 (v4+v1))))))
theorem QeE{p0 p1 p2 p3 p4 r}:Sm (Jc p0 p1 p2 p3 p4) r->DCall Tryz.prog 160 [.agg [.lit (.string p0.name),.sl (p0.rules.map Rul.c),DI p0.full],.agg [DI p1.sh,.sl (p1.ws.map uC),.sl (p1.fs.map frC)],.sl (p2.map (lC Inc.c)),.agg [DI p3.seq,DI p3.belt,DI p3.first,DI p3.last,DI p3.words],DI p4] [] (DB r) []:=by
 unfold Jc
 &mk0 Tryz.func160 ?_
 &ar ?_
 &xd λv1 hv1=>?_
 have q0:=cS r0 (Qcf hv1)
 &ar ?_
 &sq λK k=>?_
 &ar ?_
 &xs (λh3=>?_) λh3=>?_
 &da ?_
 ~ft r0
 &cb ?_
 &xd λv4 hv4=>?_
 replace q0:=cS r0 (QgD hv4)
 &ar ?_
 &sq λK k=>?_
 &ar ?_
 &xs (λh6=>?_) λh6=>?_
 &da ?_
 ~ft r0
 &cb ?_
 &sq λK k=>?_
 &xd λv8 hv8=>?_
 replace q0:=cS r0 (QX hv8)
 &ar ?_
 &xs (λh9=>?_) λh9=>?_
 &da ?_
 ~ft r0
 &cb ?_
 &xd λv10 hv10=>?_
 &xd λv11 hv11=>?_
 replace q0:=cS r0 (Qeb hv10)
 have q1:=cS r0 (Zo hv11)
 &ar ?_
 &goA (m_max) ?_
 &au ?_
 ~ft r0
noncomputable def Xj(p0:Hp)(p1:List Inc):Option (Inc×Int) :=
 bndR (Qh (λ(s5:List Int×Int) =>
 if s5.2<(p1.length:Int) then
 ((at_ p1 s5.2).bind λv10 =>
 (Jx p0.belts v10.seq).bind λv11 =>
 if v11.2=true then
 (if ([v11.1.seq,v11.1.belt,v11.1.first,v11.1.last,v11.1.words]:List Int)=[v10.seq,v10.belt,v10.first,v10.last,v10.words] then
 ((at_ p1 0).bind λv15 =>
 if v10.belt=v15.belt then
 (if ((s5.1.length:Int)+[v10.seq].length)*8<=140737488355328/\(s5.1.length:Int)+[v10.seq].length<=9223372036854775807 then
 some (.go ((s5.1++[v10.seq],w64 (s5.2+1))))
 else none)
 else
 some (.out (.inr ((Inc.mk 0 0 0 0 0,1)))))
 else
 some (.out (.inr ((Inc.mk 0 0 0 0 0,1)))))
 else
 some (.out (.inr ((Inc.mk 0 0 0 0 0,1)))))
 else
 some (.out (.inl (s5.1)))) (([]:List Int),0)) λ(b1:List Int) =>
 if (p1.length:Int)=0 then
 (some ((Inc.mk 0 0 0 0 0,1)))
 else
 (Jd p0.belts b1).bind λv20 =>
 if v20=true then
 ((at_ p1 0).bind λv22 =>
 (at_ p0.config.rules v22.belt).bind λv23 =>
 (XK p0.config v23.target (p0.space.fs.length:Int)).bind λv24 =>
 (QS p0.belts v23.target).bind λv25 =>
 (Qh (λ(s29:Bool×Int) =>
 if s29.2<(p1.length:Int) then
 ((at_ p1 s29.2).bind λv34 =>
 if s29.1=true then
 (some (.go ((!(decide (v34.seq=v25.1.seq)),w64 (s29.2+1)))))
 else
 some (.go ((false,w64 (s29.2+1)))))
 else
 some (.out (s29.1))) (v25.2,0)).bind λ(b26:Bool) =>
 if b26=true then
 ((Jw p0.space v25.1 v24.1).bind λv38 =>
 if v38=true then
 (some ((v25.1,0)))
 else
 some ((Inc.mk p0.seq v23.target (-1) (-1) 0,0)))
 else
 some ((Inc.mk p0.seq v23.target (-1) (-1) 0,0)))
 else
 some ((Inc.mk 0 0 0 0 0,1))
theorem QbD{p0 p1 r}:Sm (Xj p0 p1) r->DCall Tryz.prog 176 [.agg [.lit (.string p0.config.name),.sl (p0.config.rules.map Rul.c),DI p0.config.full,DI p0.space.sh,.sl (p0.space.ws.map uC),.sl (p0.space.fs.map frC),.sl (p0.belts.map (lC Inc.c)),DI p0.seq,.sl (p0.sets.map Qe.c),.sl (p0.roots.used.map bC),.sl (p0.roots.refs.map uC),DI p0.since,DI p0.stats.allocated,DI p0.stats.objects,DI p0.stats.collections,DI p0.stats.steps,DI p0.stats.rounds,DI p0.stats.condemned,DI p0.stats.copied,DI p0.stats.entries,DI p0.stats.work,DB p0.dead],.sl (p1.map Inc.c)] [] (.tup [.agg [DI r.1.seq,DI r.1.belt,DI r.1.first,DI r.1.last,DI r.1.words],DI r.2]) []:=by
 unfold Xj
 &mk0 Tryz.func176 ?_
 &ar ?_
 &ar ?_
 &cU [1] [(2,λb1=>.ptr 0 0 0),(4,λb1=>.ptr 1 0 0),(6,λb1=>.own 2 0 b1.length)] [0,1] [] [(2,λb1=>aO 1 (b1.map iC))] 3 (λz2 hr2=>?_) λb1=>?_
 &ar ?_
 &xx (Qz 6 1 Od rfl) ?_
 &lP [1,18,19] [(2,λs5=>.ptr 0 0 0),(4,λs5=>.ptr 1 0 0),(6,λs5=>.own 2 0 s5.1.length),(20,λs5=>DI s5.2)] [0,1] [] [(2,λs5=>aO 1 (s5.1.map iC))] 3 λs5 y6 hq6=>?_
 &ar ?_
 &sq λK k=>?_
 &xs (λh8=>?_) λh8=>?_
 &ca ?_
 &sq λK k=>?_
 &au ?_
 &xa λv10 hv10=>?_
 &ar ?_
 &xd λv11 hv11=>?_
 have q0:=cS r0 (QcL hv11)
 &ar ?_
 &sq λK k=>?_
 &xs (λh13=>?_) λh13=>?_
 &xs (λh14=>?_) λh14=>?_
 &xa λv15 hv15=>?_
 &ar ?_
 &xs (λh16=>?_) λh16=>?_
 &cb ?_
 &xc λh17=>?_
 &ar ?_
 &goA (Ql (c:=iC) ([v10.seq]:List Int) i22.ok i3.ok) ?_
 &goA (QW (c:=iC) s5.1 [v10.seq] h17 i22.ok i3.ok rfl rfl (.own rfl rfl Os (Qg (c:=iC) (λ_=>rfl) _)) rfl) ?_
 &au ?_
 &ar ?_
 ~wJ [(2,6)]
 &da ?_
 &xo hq6 ?_
 &xr hr2 ?_
 ~fwt r0
 &ar ?_
 &da ?_
 &xo hq6 ?_
 &xr hr2 ?_
 ~fwt r0
 &ar ?_
 &da ?_
 &xo hq6 ?_
 &xr hr2 ?_
 ~fwt r0
 &cb ?_
 &xo hq6 ?_
 ~wJ []
 &sq λK k=>?_
 &xs (λh19=>?_) λh19=>?_
 &ar ?_
 &da ?_
 ~fwt r0
 &xd λv20 hv20=>?_
 have q0:=cS r0 (QeF hv20)
 &ar ?_
 &xs (λh21=>?_) λh21=>?_
 &cb ?_
 &xa λv22 hv22=>?_
 &xa λv23 hv23=>?_
 &ar ?_
 &xd λv24 hv24=>?_
 replace q0:=cS r0 (Qdh hv24)
 &ar ?_
 &xd λv25 hv25=>?_
 replace q0:=cS r0 (Z4 hv25)
 &ar ?_
 &cT [2,4,11,12] [(14,λb26=>.ptr 3 0 0),(15,λb26=>DB b26)] [0,1,3] [] [] 4 (λz27=>?_) λb26=>?_
 &ar ?_
 &lP [2,4,11,12,94,95] [(14,λs29=>.ptr 3 0 0),(15,λs29=>DB s29.1),(96,λs29=>DI s29.2)] [0,1,3] [] [] 4 λs29 y30 hq30=>?_
 &ar ?_
 &sq λK k=>?_
 &xs (λh32=>?_) λh32=>?_
 &ca ?_
 &sq λK k=>?_
 &au ?_
 &xa λv34 hv34=>?_
 &ar ?_
 &xs (λh35=>?_) λh35=>?_
 &ar ?_
 &ar ?_
 ~wJ []
 &ar ?_
 &ar ?_
 ~wJ []
 &cb ?_
 &xo hq30 ?_
 ~wJ []
 &sq λK k=>?_
 &xs (λh37=>?_) λh37=>?_
 &xd λv38 hv38=>?_
 replace q0:=cS r0 (QcK hv38)
 &ar ?_
 &xs (λh39=>?_) λh39=>?_
 &da ?_
 ~fwt r0
 &db ?_
 ~fwt r0
 &ar ?_
 &db ?_
 ~fwt r0
 &da ?_
 ~fwt r0
noncomputable def XN(p0:Sp)(p1:Inc)(p2:Int):Option (Inc×Int×Int×List Fe) :=
 (Z5 p0 p1 p2).bind λv1 =>
 (ZB p0).bind λv3 =>
 if (v3.length:Int)<v1 then
 (some ((Inc.mk 0 0 0 0 0,0,4,p0.fs)))
 else
 (Qh (λ(s8:List Fe×Inc×Int) =>
 if 0<s8.2.2 then
 ((Jz (Sp.mk p0.sh p0.ws s8.1) s8.2.1.seq s8.2.1.belt).bind λv13 =>
 if v13.2.length=s8.1.length then
 if s8.2.1.first=(-1) then
 (some (.go ((v13.2,Inc.mk s8.2.1.seq s8.2.1.belt v13.1 v13.1 s8.2.1.words,w64 (s8.2.2-1)))))
 else
 (at_ v13.2 s8.2.1.last).bind λv16 =>
 some (.go ((v13.2.set (Int.toNat s8.2.1.last) (Fe.mk v16.ow v16.st v13.1),Inc.mk s8.2.1.seq s8.2.1.belt s8.2.1.first v13.1 s8.2.1.words,w64 (s8.2.2-1))))
 else none)
 else
 some (.out ((s8.1,s8.2.1)))) (p0.fs,p1,v1)).bind λ(b5:List Fe×Inc) =>
 if 0<=wu p0.sh then
 (QM (Sp.mk p0.sh p0.ws b5.1) (Qa9 .i64 b5.2.first (wu p0.sh)) p1.words).bind λv19 =>
 some ((Inc.mk b5.2.seq b5.2.belt b5.2.first b5.2.last (w64 (b5.2.words+p2)),v19.1,0,b5.1))
 else none
theorem QcM{p0 p1 p2 r}:Sm (XN p0 p1 p2) r->DCall Tryz.prog 140 [.agg [DI p0.sh,.sl (p0.ws.map uC),.own 0 0 p0.fs.length],.agg [DI p1.seq,DI p1.belt,DI p1.first,DI p1.last,DI p1.words],DI p2] [(0,aO 3 (p0.fs.map frC))] (.tup [.agg [DI r.1.seq,DI r.1.belt,DI r.1.first,DI r.1.last,DI r.1.words],DI r.2.1,DI r.2.2.1]) [(0,aO 3 (r.2.2.2.map frC))]:=by
 unfold XN
 &mk0 Tryz.func140 ?_
 &ar ?_
 &xd λv1 hv1=>?_
 have q0:=cS r0 (Qcf hv1)
 &ar ?_
 &sq λK k=>?_
 &xd λv3 hv3=>?_
 replace q0:=cS r0 (XR hv3)
 &ar ?_
 &xs (λh4=>?_) λh4=>?_
 &da ?_
 ~fwtt r1
 &db ?_
 &cT [2,10] [(3,λb5=>.ptr 1 0 0),(4,λb5=>.ptr 2 0 0),(6,λb5=>.ptr 3 0 0)] [3] [(1,[(2,λb5=>.own 0 0 b5.1.length)])] [(0,λb5=>aO 3 (b5.1.map frC)),(2,λb5=>bO 5 [DI b5.2.seq,DI b5.2.belt,DI b5.2.first,DI b5.2.last,DI b5.2.words])] 4 (λz6=>?_) λb5=>?_
 &au ?_
 &lP [2,10] [(3,λs8=>.ptr 1 0 0),(4,λs8=>.ptr 2 0 0),(6,λs8=>.ptr 3 0 0),(9,λs8=>DI s8.2.2)] [3] [(1,[(2,λs8=>.own 0 0 s8.1.length)])] [(0,λs8=>aO 3 (s8.1.map frC)),(2,λs8=>bO 5 [DI s8.2.1.seq,DI s8.2.1.belt,DI s8.2.1.first,DI s8.2.1.last,DI s8.2.1.words])] 4 λs8 y9 hq9=>?_
 &sq λK k=>?_
 &ar ?_
 &xs (λh11=>?_) λh11=>?_
 &ca ?_
 &sq λK k=>?_
 &au ?_
 &xd λv13 hv13=>?_
 &xc λh17=>?_
 replace q0:=cS r1 (QgE hv13)
 &ar ?_
 &sq λK k=>?_
 &ar ?_
 &xs (λh15=>?_) λh15=>?_
 &da ?_
 &ar ?_
 &ar ?_
 ~wJ []
 &cb ?_
 &xa λv16 hv16=>?_
 &ar ?_
 &goA (Xr (c:=frC) hv16.h (Fe.mk v16.ow v16.st v13.1) i3.ok) ?_
 &au ?_
 &ar ?_
 &ar ?_
 ~wJ []
 &cb ?_
 &xo hq9 ?_
 ~wJ []
 &ar ?_
 &xc λh18=>?_
 &xd λv19 hv19=>?_
 replace q0:=cS r0 (QP hv19)
 &ar ?_
 &ar ?_
 ~fwtt r1
noncomputable def QaM(p0:Sp)(p1:List Qe)(p2:List Inc)(p3:List Int)(p4:List Mov):Option (List Qe) :=
 (ZI p0 p2).bind λv1 =>
 (Ju p1 v1).bind λv2 =>
 (Qh (λ(s6:List Qe×Int) =>
 if s6.2<(p3.length:Int) then
 ((at_ p3 s6.2).bind λv11 =>
 (at_ p0.ws v11).bind λv12 =>
 (Zk p0 s6.1 v11 v12).bind λv13 =>
 some (.go ((v13,w64 (s6.2+1)))))
 else
 some (.out (s6.1))) (v2,0)).bind λ(b3:List Qe) =>
 (Qh (λ(s17:List Qe×Int) =>
 if s17.2<(p4.length:Int) then
 (((at_ p4 s17.2).bind λv23 =>
 (QY p0 v23.to).bind λv24 =>
 Qh (λ(s26:List Qe×Int) =>
 if s26.2<(v24.1.length:Int) then
 ((at_ v24.1 s26.2).bind λv31 =>
 (at_ p0.ws v31).bind λv32 =>
 (Zk p0 s26.1 v31 v32).bind λv33 =>
 some (.go ((v33,w64 (s26.2+1)))))
 else
 some (.out (s26.1))) (s17.1,0)).bind λ(b21:List Qe) =>
 some (.go ((b21,w64 (s17.2+1)))))
 else
 some (.out (s17.1))) (b3,0)).bind λ(b14:List Qe) =>
 some (b14)
noncomputable def Zq(p0:Sp)(p1:List Qe)(p2:List Inc)(p3:List Int)(p4:List Mov):Option (List Qe×List Int×List Fe) :=
 (ZI p0 p2).bind λv1 =>
 (Ju p1 v1).bind λv2 =>
 (Qh (λ(s6:List Int×List Fe×List Qe×Int) =>
 if s6.2.2.2<(p3.length:Int) then
 ((at_ p3 s6.2.2.2).bind λv11 =>
 (at_ s6.1 v11).bind λv12 =>
 (Xl (Sp.mk p0.sh s6.1 s6.2.1) s6.2.2.1 v11 v12).bind λv13 =>
 if v13.2.1.length=s6.1.length then
 if v13.2.2.length=s6.2.1.length then
 some (.go ((v13.2.1,v13.2.2,v13.1,w64 (s6.2.2.2+1))))
 else none
 else none)
 else
 some (.out ((s6.1,s6.2.1,s6.2.2.1)))) (p0.ws,p0.fs,v2,0)).bind λ(b3:List Int×List Fe×List Qe) =>
 (Qh (λ(s19:List Int×List Fe×List Qe×Int) =>
 if s19.2.2.2<(p4.length:Int) then
 (((at_ p4 s19.2.2.2).bind λv25 =>
 (QY (Sp.mk p0.sh s19.1 s19.2.1) v25.to).bind λv26 =>
 Qh (λ(s28:List Int×List Fe×List Qe×Int) =>
 if s28.2.2.2<(v26.1.length:Int) then
 ((at_ v26.1 s28.2.2.2).bind λv33 =>
 (at_ s28.1 v33).bind λv34 =>
 (Xl (Sp.mk p0.sh s28.1 s28.2.1) s28.2.2.1 v33 v34).bind λv35 =>
 if v35.2.1.length=s28.1.length then
 if v35.2.2.length=s28.2.1.length then
 some (.go ((v35.2.1,v35.2.2,v35.1,w64 (s28.2.2.2+1))))
 else none
 else none)
 else
 some (.out ((s28.1,s28.2.1,s28.2.2.1)))) (s19.1,s19.2.1,s19.2.2.1,0)).bind λ(b23:List Int×List Fe×List Qe) =>
 some (.go ((b23.1,b23.2.1,b23.2.2,w64 (s19.2.2.2+1)))))
 else
 some (.out ((s19.1,s19.2.1,s19.2.2.1)))) (b3.1,b3.2.1,b3.2.2,0)).bind λ(b16:List Int×List Fe×List Qe) =>
 some ((b16.2.2,b16.1,b16.2.1))
theorem Qbi{p0 p1 p2 p3 p4 r}:Sm (Zq p0 p1 p2 p3 p4) r->DCall Tryz.prog 180 [.agg [DI p0.sh,.own 0 0 p0.ws.length,.own 1 0 p0.fs.length],.sl (p1.map Qe.c),.sl (p2.map Inc.c),.sl (p3.map iC),.sl (p4.map Mov.c)] [(0,aO 1 (p0.ws.map uC)),(1,aO 3 (p0.fs.map frC))] (.sl (r.1.map Qe.c)) [(0,aO 1 (r.2.1.map uC)),(1,aO 3 (r.2.2.map frC))]:=by
 unfold Zq
 &mk0 Tryz.func180 ?_
 &ar ?_
 &xd λv1 hv1=>?_
 &xd λv2 hv2=>?_
 have q0:=cS r0 (QbE hv1)
 have q1:=cG r0 (QgA hv2)
 &ar ?_
 &cT [4] [(5,λb3=>.ptr 2 0 0),(11,λb3=>.sl (b3.2.2.map Qe.c))] [] [] [(0,λb3=>aO 1 (b3.1.map uC)),(1,λb3=>aO 3 (b3.2.1.map frC)),(2,λb3=>bO 3 [DI p0.sh,.own 0 0 b3.1.length,.own 1 0 b3.2.1.length])] 3 (λz4=>?_) λb3=>?_
 &ar ?_
 &lP [4,25,26] [(5,λs6=>.ptr 2 0 0),(11,λs6=>.sl (s6.2.2.1.map Qe.c)),(27,λs6=>DI s6.2.2.2)] [] [] [(0,λs6=>aO 1 (s6.1.map uC)),(1,λs6=>aO 3 (s6.2.1.map frC)),(2,λs6=>bO 3 [DI p0.sh,.own 0 0 s6.1.length,.own 1 0 s6.2.1.length])] 3 λs6 y7 hq7=>?_
 &ar ?_
 &sq λK k=>?_
 &xs (λh9=>?_) λh9=>?_
 &ca ?_
 &sq λK k=>?_
 &au ?_
 &xa λv11 hv11=>?_
 &ar ?_
 &xa λv12 hv12=>?_
 &xd λv13 hv13=>?_
 &xc λh15=>?_
 &xc λh14=>?_
 replace q0:=cG r2 (QbG hv13)
 &ar ?_
 &ar ?_
 ~wJ []
 &cb ?_
 &xo hq7 ?_
 ~wJ []
 &cT [] [(11,λb16=>.sl (b16.2.2.map Qe.c))] [] [] [(0,λb16=>aO 1 (b16.1.map uC)),(1,λb16=>aO 3 (b16.2.1.map frC))] 2 (λz17=>?_) λb16=>?_
 &ar ?_
 &lP [5,41,42] [(11,λs19=>.sl (s19.2.2.1.map Qe.c)),(43,λs19=>DI s19.2.2.2)] [] [] [(0,λs19=>aO 1 (s19.1.map uC)),(1,λs19=>aO 3 (s19.2.1.map frC)),(2,λs19=>bO 3 [DI p0.sh,.own 0 0 s19.1.length,.own 1 0 s19.2.1.length])] 3 λs19 y20 hq20=>?_
 &ar ?_
 &sq λK k=>?_
 &xs (λh22=>?_) λh22=>?_
 &ca ?_
 &cT [5,41,42,43] [(11,λb23=>.sl (b23.2.2.map Qe.c))] [] [] [(0,λb23=>aO 1 (b23.1.map uC)),(1,λb23=>aO 3 (b23.2.1.map frC)),(2,λb23=>bO 3 [DI p0.sh,.own 0 0 b23.1.length,.own 1 0 b23.2.1.length])] 3 (λz24=>?_) λb23=>?_
 &au ?_
 &xa λv25 hv25=>?_
 &ar ?_
 &xd λv26 hv26=>?_
 replace q0:=cS r0 (Qaf hv26)
 &ar ?_
 &ar ?_
 &lP [5,41,42,43,55] [(11,λs28=>.sl (s28.2.2.1.map Qe.c)),(54,λs28=>.own 4 0 v26.1.length),(56,λs28=>DI s28.2.2.2)] [4] [] [(0,λs28=>aO 1 (s28.1.map uC)),(1,λs28=>aO 3 (s28.2.1.map frC)),(2,λs28=>bO 3 [DI p0.sh,.own 0 0 s28.1.length,.own 1 0 s28.2.1.length])] 5 λs28 y29 hq29=>?_
 &ar ?_
 &sq λK k=>?_
 &xs (λh31=>?_) λh31=>?_
 &ca ?_
 &sq λK k=>?_
 &au ?_
 &xa λv33 hv33=>?_
 &ar ?_
 &xa λv34 hv34=>?_
 &xd λv35 hv35=>?_
 &xc λh37=>?_
 &xc λh36=>?_
 replace q0:=cG r2 (QbG hv35)
 &ar ?_
 &ar ?_
 ~wJ []
 &cb ?_
 &xo hq29 ?_
 ~wJ []
 &ar ?_
 ~wJ []
 &cb ?_
 &xo hq20 ?_
 ~wJ []
 &ar ?_
 ~ft r2
noncomputable def QaP(p0:Hp)(p1:Int):Option Bool :=
 if p1<0 then
 (some (false))
 else
 if (p0.space.ws.length:Int)<=p1 then
 (some (false))
 else
 if 0<=wu p0.space.sh then
 (at_ p0.space.fs (QbO .i64 p1 (wu p0.space.sh))).bind λv5 =>
 (Jx p0.belts v5.ow).bind λv6 =>
 if v6.2=true then
 ((Qae p0.space v6.1).bind λv9 =>
 bndR (Qh (λ(s13:Int) =>
 if s13<(v9.1.length:Int) then
 ((at_ v9.1 s13).bind λv18 =>
 if v18=p1 then
 (some (.out (.inr (true))))
 else
 some (.go (w64 (s13+1))))
 else
 some (.out (.inl (())))) 0) λ(b10:Unit) =>
 some (false))
 else
 some (false)
 else none
theorem Qd8{p0 p1 r}:Sm (QaP p0 p1) r->DCall Tryz.prog 148 [.agg [.lit (.string p0.config.name),.sl (p0.config.rules.map Rul.c),DI p0.config.full,DI p0.space.sh,.sl (p0.space.ws.map uC),.sl (p0.space.fs.map frC),.sl (p0.belts.map (lC Inc.c)),DI p0.seq,.sl (p0.sets.map Qe.c),.sl (p0.roots.used.map bC),.sl (p0.roots.refs.map uC),DI p0.since,DI p0.stats.allocated,DI p0.stats.objects,DI p0.stats.collections,DI p0.stats.steps,DI p0.stats.rounds,DI p0.stats.condemned,DI p0.stats.copied,DI p0.stats.entries,DI p0.stats.work,DB p0.dead],DI p1] [] (DB r) []:=by
 unfold QaP
 &mk0 Tryz.func148 ?_
 &ar ?_
 &sq λK k=>?_
 &xs (λh2=>?_) λh2=>?_
 &ar ?_
 &da ?_
 ~ft r0
 &ar ?_
 &xs (λh3=>?_) λh3=>?_
 &da ?_
 ~ft r0
 &cb ?_
 &xc λh4=>?_
 &xa λv5 hv5=>?_
 &xd λv6 hv6=>?_
 have q0:=cS r0 (QcL hv6)
 &ar ?_
 &sq λK k=>?_
 &ar ?_
 &xs (λh8=>?_) λh8=>?_
 &cb ?_
 &xd λv9 hv9=>?_
 replace q0:=cS r0 (Qdi hv9)
 &ar ?_
 &cU [] [] [] [] [] 0 (λz11 hr11=>?_) λb10=>?_
 &ar ?_
 &lP [1,49] [(48,λs13=>.own 2 0 v9.1.length),(50,λs13=>DI s13)] [2] [] [] 3 λs13 y14 hq14=>?_
 &ar ?_
 &sq λK k=>?_
 &xs (λh16=>?_) λh16=>?_
 &ca ?_
 &sq λK k=>?_
 &au ?_
 &xa λv18 hv18=>?_
 &ar ?_
 &ar ?_
 &xs (λh19=>?_) λh19=>?_
 &da ?_
 &xo hq14 ?_
 &xr hr11 ?_
 ~ft r0
 &db ?_
 ~wJ []
 &cb ?_
 &xo hq14 ?_
 ~wJ []
 &ar ?_
 ~ft r0
 &da ?_
 ~ft r0
noncomputable def Qay(p0:Sp)(p1:Inc):Option Bool :=
 (ZD p0).bind λv2 =>
 if v2=true then
 (if p1.seq<0 then
 (some (false))
 else
 if 4294967295<p1.seq then
 (some (false))
 else
 if p1.belt<0 then
 (some (false))
 else
 if 4<=p1.belt then
 (some (false))
 else
 if p1.words<0 then
 (some (false))
 else
 if p1.words=0 then
 (if p1.first=(-1) then
 (some (decide (p1.last=(-1))))
 else
 some (false))
 else
 (XU p0 p1.first).bind λv12 =>
 if v12.2=0 then
 (if (p0.ws.length:Int)<p1.words then
 (some (false))
 else
 (at_ v12.1 (w64 ((v12.1.length:Int)-1))).bind λv16 =>
 if v16=p1.last then
 ((J0 p0 p1).bind λv18 =>
 if (v12.1.length:Int)=v18 then
 ((Qa4 p0 p1.seq).bind λv20 =>
 if (v12.1.length:Int)=v20 then
 ((at_ p0.fs p1.first).bind λv22 =>
 if v22.ow=p1.seq then
 (some (decide (v22.st=(w64 ((w64 (p1.belt*4294967296))+p1.seq)))))
 else
 some (false))
 else
 some (false))
 else
 some (false))
 else
 some (false))
 else
 some (false))
 else
 some (false)
theorem QgL{p0 p1 r}:Sm (Qay p0 p1) r->DCall Tryz.prog 82 [.agg [DI p0.sh,.sl (p0.ws.map uC),.sl (p0.fs.map frC)],.agg [DI p1.seq,DI p1.belt,DI p1.first,DI p1.last,DI p1.words]] [] (DB r) []:=by
 unfold Qay
 &mk0 Tryz.func82 ?_
 &ar ?_
 &sq λK k=>?_
 &xd λv2 hv2=>?_
 &xs (λh3=>?_) λh3=>?_
 &xs (λh4=>?_) λh4=>?_
 have q0:=cS r0 (QC hv2)
 &ar ?_
 &da ?_
 ~ft r0
 &xs (λh5=>?_) λh5=>?_
 have q0:=cS r0 (QC hv2)
 &ar ?_
 &da ?_
 ~ft r0
 &xs (λh6=>?_) λh6=>?_
 have q0:=cS r0 (QC hv2)
 &ar ?_
 &da ?_
 ~ft r0
 &xs (λh7=>?_) λh7=>?_
 have q0:=cS r0 (QC hv2)
 &ar ?_
 &da ?_
 ~ft r0
 have q0:=cS r0 (QC hv2)
 &ar ?_
 &xs (λh8=>?_) λh8=>?_
 &da ?_
 ~ft r0
 &cb ?_
 &sq λK k=>?_
 &ar ?_
 &xs (λh10=>?_) λh10=>?_
 &ca ?_
 &xs (λh11=>?_) λh11=>?_
 &ar ?_
 ~ft r0
 &ar ?_
 ~ft r0
 &cb ?_
 &xd λv12 hv12=>?_
 replace q0:=cS r0 (QgK hv12)
 &ar ?_
 &sq λK k=>?_
 &xs (λh14=>?_) λh14=>?_
 &xs (λh15=>?_) λh15=>?_
 &ar ?_
 &da ?_
 ~ft r0
 &xa λv16 hv16=>?_
 &xs (λh17=>?_) λh17=>?_
 &xd λv18 hv18=>?_
 &xs (λh19=>?_) λh19=>?_
 &xd λv20 hv20=>?_
 replace q0:=cS r0 (Qci hv18)
 have q1:=cS r0 (F_bump_owns_ok hv20)
 &ar ?_
 &xs (λh21=>?_) λh21=>?_
 &cb ?_
 &xa λv22 hv22=>?_
 &ar ?_
 &xs (λh23=>?_) λh23=>?_
 &ar ?_
 ~ft r0
 &ar ?_
 ~ft r0
 &da ?_
 ~ft r0
 replace q0:=cS r0 (Qci hv18)
 &ar ?_
 &da ?_
 ~ft r0
 &ar ?_
 &da ?_
 ~ft r0
 &ar ?_
 &da ?_
 ~ft r0
 have q0:=cS r0 (QC hv2)
 &ar ?_
 &da ?_
 ~ft r0
noncomputable def JV(p0:Sp)(p1:Int):Option (QO×Int) :=
 (ZF p0 p1 0).bind λv2 =>
 if v2.2=0 then
 ((at_ p0.ws p1).bind λv4 =>
 (ZV v4).bind λv5 =>
 if v5.2.2.2.2=0 then
 (if v5.2.2.2.1=true then
 (some ((QO.mk (Sp.mk 0 ([]:List Int) ([]:List Fe)) 0 0 0,12)))
 else
 (ZF p0 p1 (w64 (v5.1+v5.2.1))).bind λv10 =>
 if v10.2=0 then
 (some ((QO.mk p0 p1 v5.1 v5.2.1,0)))
 else
 some ((QO.mk (Sp.mk 0 ([]:List Int) ([]:List Fe)) 0 0 0,2)))
 else
 some ((QO.mk (Sp.mk 0 ([]:List Int) ([]:List Fe)) 0 0 0,12)))
 else
 some ((QO.mk (Sp.mk 0 ([]:List Int) ([]:List Fe)) 0 0 0,v2.2))
theorem Qfb{p0 p1 r}:Sm (JV p0 p1) r->DCall Tryz.prog 46 [.agg [DI p0.sh,.sl (p0.ws.map uC),.sl (p0.fs.map frC)],DI p1] [] (.tup [.agg [DI r.1.s.sh,.sl (r.1.s.ws.map uC),.sl (r.1.s.fs.map frC),DI r.1.pos,DI r.1.refs,DI r.1.data],DI r.2]) []:=by
 unfold JV
 &mk0 Tryz.func46 ?_
 &ar ?_
 &sq λK k=>?_
 &xd λv2 hv2=>?_
 have q0:=cS r0 (JZ hv2)
 &ar ?_
 &ar ?_
 &xs (λh3=>?_) λh3=>?_
 &cb ?_
 &xa λv4 hv4=>?_
 &xd λv5 hv5=>?_
 replace q0:=cS r0 (Qbn hv5)
 &ar ?_
 &sq λK k=>?_
 &xs (λh7=>?_) λh7=>?_
 &ar ?_
 &xs (λh8=>?_) λh8=>?_
 &da ?_
 ~fwt r0
 &cb ?_
 &sq λK k=>?_
 &xd λv10 hv10=>?_
 replace q0:=cS r0 (JZ hv10)
 &ar ?_
 &ar ?_
 &xs (λh11=>?_) λh11=>?_
 &db ?_
 ~fwt r0
 &da ?_
 ~fwt r0
 &ar ?_
 &da ?_
 ~fwt r0
 &da ?_
 ~fwt r0
noncomputable def Q6(p0:QO)(p1:Int):Option Int :=
 (ZF p0.s p0.pos p1).bind λv1 =>
 some (v1.1)
theorem QbK{p0 p1 r}:Sm (Q6 p0 p1) r->DCall Tryz.prog 47 [.agg [DI p0.s.sh,.sl (p0.s.ws.map uC),.sl (p0.s.fs.map frC),DI p0.pos,DI p0.refs,DI p0.data],DI p1] [] (DI r) []:=by
 unfold Q6
 &mk0 Tryz.func47 ?_
 &ar ?_
 &xd λv1 hv1=>?_
 have q0:=cS r0 (JZ hv1)
 &ar ?_
 &ar ?_
 ~ft r0
noncomputable def Qam(p0:List Qe)(p1:Int)(p2:Int)(p3:Int):Option Bool :=
 (Z3 p0 p1 p2).bind λv1 =>
 if v1.2=true then
 ((at_ p0 v1.1).bind λv4 =>
 (Qw v4.slots p3).bind λv5 =>
 some (v5.2))
 else
 some (false)
theorem Qgs{p0 p1 p2 p3 r}:Sm (Qam p0 p1 p2 p3) r->DCall Tryz.prog 23 [.sl (p0.map Qe.c),DI p1,DI p2,DI p3] [] (DB r) []:=by
 unfold Qam
 &mk0 Tryz.func23 ?_
 &ar ?_
 &xd λv1 hv1=>?_
 have q0:=cS r0 (Qcc hv1)
 &ar ?_
 &sq λK k=>?_
 &ar ?_
 &xs (λh3=>?_) λh3=>?_
 &cb ?_
 &xa λv4 hv4=>?_
 &xd λv5 hv5=>?_
 replace q0:=cS r0 (Xu hv5)
 &ar ?_
 &ar ?_
 ~ft r0
 &da ?_
 ~ft r0
noncomputable def XJ(p0:Sp)(p1:List (List Inc))(p2:List Qe):Option (List Int) :=
 if 0<=(p0.ws.length:Int)/\(p0.ws.length:Int)*1<=281474976710656/\(p0.ws.length:Int)<=9223372036854775807 then
 (Qh (λ(s5:List Bool×Int) =>
 if s5.2<(p1.length:Int) then
 (((at_ p1 s5.2).bind λv11 =>
 Qh (λ(s13:List Bool×Int) =>
 if s13.2<(v11.length:Int) then
 (((at_ v11 s13.2).bind λv19 =>
 (Qae p0 v19).bind λv20 =>
 Qh (λ(s22:List Bool×Int) =>
 if s22.2<(v20.1.length:Int) then
 (((at_ v20.1 s22.2).bind λv28 =>
 (QY p0 v28).bind λv29 =>
 Qh (λ(s31:List Bool×Int) =>
 if s31.2<(v29.1.length:Int) then
 ((at_ v29.1 s31.2).bind λv36 =>
 (at_ p0.ws v36).bind λv37 =>
 (XI p0 v36 v37).bind λv38 =>
 if v38.2.2=true then
 ((Qa0 p2 v38.1 v38.2.1 v36).bind λv40 =>
 (at_ s31.1 v36).bind λv41 =>
 some (.go ((s31.1.set (Int.toNat v36) (!v40),w64 (s31.2+1)))))
 else
 (at_ s31.1 v36).bind λv42 =>
 some (.go ((s31.1.set (Int.toNat v36) false,w64 (s31.2+1)))))
 else
 some (.out (s31.1))) (s22.1,0)).bind λ(b26:List Bool) =>
 some (.go ((b26,w64 (s22.2+1)))))
 else
 some (.out (s22.1))) (s13.1,0)).bind λ(b17:List Bool) =>
 some (.go ((b17,w64 (s13.2+1)))))
 else
 some (.out (s13.1))) (s5.1,0)).bind λ(b9:List Bool) =>
 some (.go ((b9,w64 (s5.2+1)))))
 else
 some (.out (s5.1))) (List.replicate (Int.toNat (p0.ws.length:Int)) false,0)).bind λ(b2:List Bool) =>
 (Qh (λ(s47:List Int×Int) =>
 if s47.2<(b2.length:Int) then
 ((at_ b2 s47.2).bind λv52 =>
 if v52=true then
 (if ((s47.1.length:Int)+[s47.2].length)*8<=140737488355328/\(s47.1.length:Int)+[s47.2].length<=9223372036854775807 then
 some (.go ((s47.1++[s47.2],w64 (s47.2+1))))
 else none)
 else
 some (.go ((s47.1,w64 (s47.2+1)))))
 else
 some (.out (s47.1))) (([]:List Int),0)).bind λ(b43:List Int) =>
 some (b43)
 else none
theorem Qea{p0 p1 p2 r}:Sm (XJ p0 p1 p2) r->DCall Tryz.prog 10 [.agg [DI p0.sh,.sl (p0.ws.map uC),.sl (p0.fs.map frC)],.sl (p1.map (lC Inc.c)),.sl (p2.map Qe.c)] [] (.own 0 0 r.length) [(0,aO 1 (r.map iC))]:=by
 unfold XJ
 &mk0 Tryz.func10 ?_
 &ar ?_
 &xc λh1=>?_
 &ar ?_
 &goA (m_mkE (c:=bC) false h1 i32.ok i4.ok) ?_
 &au ?_
 &cT [] [(7,λb2=>.own 1 0 b2.length)] [] [] [(1,λb2=>aO 1 (b2.map bC))] 2 (λz3=>?_) λb2=>?_
 &ar ?_
 &lP [2,30,31] [(3,λs5=>.ptr 0 0 0),(7,λs5=>.own 1 0 s5.1.length),(32,λs5=>DI s5.2)] [0] [] [(1,λs5=>aO 1 (s5.1.map bC))] 2 λs5 y6 hq6=>?_
 &ar ?_
 &sq λK k=>?_
 &xs (λh8=>?_) λh8=>?_
 &ca ?_
 &cT [2,3,30,31,32] [(7,λb9=>.own 1 0 b9.length)] [0] [] [(1,λb9=>aO 1 (b9.map bC))] 2 (λz10=>?_) λb9=>?_
 &au ?_
 &xa λv11 hv11=>?_
 &ar ?_
 &ar ?_
 &lP [2,3,30,31,32,36,37] [(7,λs13=>.own 1 0 s13.1.length),(38,λs13=>DI s13.2)] [0] [] [(1,λs13=>aO 1 (s13.1.map bC))] 2 λs13 y14 hq14=>?_
 &ar ?_
 &sq λK k=>?_
 &xs (λh16=>?_) λh16=>?_
 &ca ?_
 &cT [2,3,30,31,32,36,37,38] [(7,λb17=>.own 1 0 b17.length)] [0] [] [(1,λb17=>aO 1 (b17.map bC))] 2 (λz18=>?_) λb17=>?_
 &au ?_
 &xa λv19 hv19=>?_
 &ar ?_
 &xd λv20 hv20=>?_
 have q0:=cS r0 (Qdi hv20)
 &ar ?_
 &ar ?_
 &lP [2,3,30,31,32,36,37,38,49] [(7,λs22=>.own 1 0 s22.1.length),(48,λs22=>.own 3 0 v20.1.length),(50,λs22=>DI s22.2)] [0,3] [] [(1,λs22=>aO 1 (s22.1.map bC))] 4 λs22 y23 hq23=>?_
 &ar ?_
 &sq λK k=>?_
 &xs (λh25=>?_) λh25=>?_
 &ca ?_
 &cT [2,3,30,31,32,36,37,38,48,49,50] [(7,λb26=>.own 1 0 b26.length)] [0,3] [] [(1,λb26=>aO 1 (b26.map bC))] 4 (λz27=>?_) λb26=>?_
 &au ?_
 &xa λv28 hv28=>?_
 &ar ?_
 &xd λv29 hv29=>?_
 replace q0:=cS r0 (Qaf hv29)
 &ar ?_
 &ar ?_
 &lP [2,3,30,31,32,36,37,38,48,49,50,61] [(7,λs31=>.own 1 0 s31.1.length),(60,λs31=>.own 4 0 v29.1.length),(62,λs31=>DI s31.2)] [0,3,4] [] [(1,λs31=>aO 1 (s31.1.map bC))] 5 λs31 y32 hq32=>?_
 &ar ?_
 &sq λK k=>?_
 &xs (λh34=>?_) λh34=>?_
 &ca ?_
 &sq λK k=>?_
 &au ?_
 &xa λv36 hv36=>?_
 &ar ?_
 &xa λv37 hv37=>?_
 &xd λv38 hv38=>?_
 replace q0:=cS r0 (QaZ hv38)
 &ar ?_
 &xs (λh39=>?_) λh39=>?_
 &xd λv40 hv40=>?_
 &xa λv41 hv41=>?_
 replace q0:=cS r0 (F_ref18_Has_ok hv40)
 &ar ?_
 &goA (Xr (c:=bC) hv41.h (!v40) i4.ok) ?_
 &au ?_
 &ar ?_
 ~wJ []
 &xa λv42 hv42=>?_
 &ar ?_
 &goA (Xr (c:=bC) hv42.h false i4.ok) ?_
 &au ?_
 &ar ?_
 ~wJ []
 &cb ?_
 &xo hq32 ?_
 ~wJ []
 &ar ?_
 ~wJ []
 &cb ?_
 &xo hq23 ?_
 ~wJ []
 &ar ?_
 ~wJ []
 &cb ?_
 &xo hq14 ?_
 ~wJ []
 &ar ?_
 ~wJ []
 &cb ?_
 &xo hq6 ?_
 ~wJ []
 &ar ?_
 &cT [] [(23,λb43=>.own 2 0 b43.length)] [] [] [(2,λb43=>aO 1 (b43.map iC))] 3 (λz44=>?_) λb43=>?_
 &ar ?_
 &xx (Qz 23 1 Od rfl) ?_
 &lP [95] [(23,λs47=>.own 2 0 s47.1.length),(94,λs47=>.own 1 0 b2.length),(96,λs47=>DI s47.2)] [1] [] [(2,λs47=>aO 1 (s47.1.map iC))] 3 λs47 y48 hq48=>?_
 &ar ?_
 &sq λK k=>?_
 &xs (λh50=>?_) λh50=>?_
 &ca ?_
 &sq λK k=>?_
 &au ?_
 &xa λv52 hv52=>?_
 &ar ?_
 &ar ?_
 &xs (λh53=>?_) λh53=>?_
 &ca ?_
 &xc λh54=>?_
 &ar ?_
 &goA (Ql (c:=iC) ([s47.2]:List Int) i22.ok i3.ok) ?_
 &goA (QW (c:=iC) s47.1 [s47.2] h54 i22.ok i3.ok rfl rfl (.own rfl rfl Os (Qg (c:=iC) (λ_=>rfl) _)) rfl) ?_
 &au ?_
 &ar ?_
 ~wJ [(2,4)]
 &db ?_
 ~wJ []
 &cb ?_
 &xo hq48 ?_
 ~wJ []
 &ar ?_
 ~ft [(0,2)]
noncomputable def XE(p0:List Qe)(p1:Int)(p2:Int)(p3:Int):Option (List Qe×Int) :=
 (Xh p0).bind λv2 =>
 if v2=true then
 ((XD p1).bind λv4 =>
 if v4=true then
 ((XD p2).bind λv6 =>
 if v6=true then
 (if p3<0 then
 (some ((([]:List Qe),1)))
 else
 (Qax p0).bind λv9 =>
 (Z3 v9 p1 p2).bind λv10 =>
 if v10.2=true then
 ((at_ v9 v10.1).bind λv14 =>
 (Qw v14.slots p3).bind λv15 =>
 if v15.2=true then
 (some ((v9,0)))
 else
 (J9 v14.slots v15.1 [p3]).bind λv17 =>
 some ((v9.set (Int.toNat v10.1) (Qe.mk v14.frm v14.to v17),0)))
 else
 (insF 40 v9 v10.1 [Qe.mk p1 p2 [p3]]).bind λv18 =>
 some ((v18,0)))
 else
 some ((([]:List Qe),1)))
 else
 some ((([]:List Qe),1)))
 else
 some ((([]:List Qe),1))
theorem Qd7{p0 p1 p2 p3 r}:Sm (XE p0 p1 p2 p3) r->DCall Tryz.prog 32 [.sl (p0.map Qe.c),DI p1,DI p2,DI p3] [] (.tup [.own 0 0 r.1.length,DI r.2]) [(0,aO 3 (r.1.map Qe.c))]:=by
 unfold XE
 &mk0 Tryz.func32 ?_
 &ar ?_
 &sq λK k=>?_
 &xd λv2 hv2=>?_
 &xs (λh3=>?_) λh3=>?_
 &xd λv4 hv4=>?_
 &xs (λh5=>?_) λh5=>?_
 &xd λv6 hv6=>?_
 &xs (λh7=>?_) λh7=>?_
 &ar ?_
 &goA (Jn r0 (ZO hv2) rfl ScS.nil) ?_
 &au ?_
 &go (Jn r0 (Qm hv4) rfl ScS.nil) ?_ (gY (congrArg not h3))
 &au ?_
 &go (Jn r0 (Qm hv6) rfl ScS.nil) ?_ (gY (congrArg not h5))
 &au ?_
 &xs (λh8=>?_) λh8=>?_
 &da ?_
 &xx (Qz 8 3 Od rfl) ?_
 ~ftt r1
 &cb ?_
 &xd λv9 hv9=>?_
 have q0:=cG r0 (QcR hv9)
 &ar ?_
 &xx (Qp (Qcq (s:=0) (xs:=v9) (cd:=Qe.d) rfl (λ_=>rfl))) ?_
 &xd λv10 hv10=>?_
 replace q0:=cS r0 (Qcc hv10)
 &ar ?_
 &sq λK k=>?_
 &ar ?_
 &xs (λh12=>?_) λh12=>?_
 &cb ?_
 &sq λK k=>?_
 &xa λv14 hv14=>?_
 &xd λv15 hv15=>?_
 replace q0:=cS r0 (Xu hv15)
 &ar ?_
 &goA (m_ldD (j:=2) (c:=iC) (ys:=v14.slots) hv14 [DI v14.frm,DI v14.to,.own 1 0 v14.slots.length] i22.ok rfl rfl) ?_
 &au ?_
 &xx (Qp (attR (s:=0) (t:=1) (j:=2) (c:=iC) hv14 [DI v14.frm,DI v14.to,.dp 1 (v14.slots.map iC)] rfl rfl rfl rfl rfl rfl)) ?_
 &xx (Qp (tellS (s:=0) hv14 rfl rfl)) ?_
 &ar ?_
 &xs (λh16=>?_) λh16=>?_
 &db ?_
 &xx (Qp (ZM.flat (s:=0) (c:=Qe.c) rfl (λ_=>rfl) (λ_=>rfl))) ?_
 ~ftt r1
 &ca ?_
 &xd λv17 hv17=>?_
 replace q0:=cS [(0,2),(1,3)] (Qc8 hv17)
 &ar ?_
 &goA (m_ldD (j:=2) (c:=iC) (ys:=v14.slots) hv14 [DI v14.frm,DI v14.to,.own 2 0 v14.slots.length] i22.ok rfl rfl) ?_
 &au ?_
 &goA (Ql (c:=iC) ([p3]:List Int) i22.ok i3.ok) ?_
 &au ?_
 &goA ((m_iaO hv14.h i31.ok i81.ok rfl rfl rfl)) ?_
 &au ?_
 &goA (m_stR hv14 [DI v14.frm,DI v14.to,.own 4 0 v17.length] (.inr rfl) i22.ok) ?_
 &au ?_
 &ar ?_
 &xx (Qp (attR (s:=0) (t:=4) (j:=2) (c:=iC) hv14 [DI v14.frm,DI v14.to,.dp 1 (v17.map iC)] rfl rfl rfl rfl rfl rfl)) ?_
 &xx (Qp (tellR (s:=0) (Qe.mk v14.frm v14.to v17) rfl rfl)) ?_
 &xx (Qp (ZM.flat (s:=0) (c:=Qe.c) rfl (λ_=>rfl) (λ_=>rfl))) ?_
 ~ftt r1
 &ca ?_
 &xx (Qp (ZM.flat (s:=0) (c:=Qe.c) rfl (λ_=>rfl) (λ_=>rfl))) ?_
 &xd λv18 hv18=>?_
 replace q0:=cG [(0,0),(1,2)] (Qc7 (c:=Qe.c) (λ_=>rfl) hv18)
 &ar ?_
 &goA (Ql (c:=iC) ([p3]:List Int) i22.ok i3.ok) ?_
 &au ?_
 &goA (Ql (c:=Qe.c) ([Qe.mk p1 p2 [p3]]:List Qe) i31.ok i81.ok) ?_
 &au ?_
 ~ftt [(0,3)]
 &ar ?_
 &goA (Jn r0 (ZO hv2) rfl ScS.nil) ?_
 &au ?_
 &go (Jn r0 (Qm hv4) rfl ScS.nil) ?_ (gY (congrArg not h3))
 &au ?_
 &go (Jn r0 (Qm hv6) rfl ScS.nil) ?_ (gY (congrArg not h5))
 &au ?_
 &da ?_
 &xx (Qz 8 3 Od rfl) ?_
 ~ftt r1
 have q0:=cS r0 (ZO hv2)
 have q1:=cS r0 (Qm hv4)
 &ar ?_
 &da ?_
 &xx (Qz 8 3 Od rfl) ?_
 ~ftt r1
 have q0:=cS r0 (ZO hv2)
 &ar ?_
 &da ?_
 &xx (Qz 8 3 Od rfl) ?_
 ~ftt r1
end Go.Proofs.YtkfnkecgcdhncaaGreat
