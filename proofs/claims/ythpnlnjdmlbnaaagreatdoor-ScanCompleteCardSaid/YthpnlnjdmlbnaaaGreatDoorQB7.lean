/- Parts of the proof. No condition. -/
import Derived.Test.YthpnlnjdmlbnaaaGreatDoorQB0
import Derived.Test.YthpnlnjdmlbnaaaGreatDoorQB3
import Derived.Test.YthpnlnjdmlbnaaaGreatDoorQB4
import Derived.Test.YthpnlnjdmlbnaaaGreatDoorQB5
import Derived.Test.YthpnlnjdmlbnaaaGreatDoorQB6
namespace Go.Proofs.YthpnlnjdmlbnaaaGreatDoor
open Go.RowKit
set_option linter.unusedSimpArgs false
set_option linter.unusedVariables false
set_option maxRecDepth 20000
set_option maxHeartbeats 40000000
noncomputable def Jb(p0:Qc):Option (Cfg×Qc) :=
 (Qb p0 3).bind λv2 =>
 if 0 < v2.1 then
 ((JP).bind λv4 =>
 (Qb v2.2 6).bind λv5 =>
 (at_ v4 v5.1).bind λv6 =>
 (Qb v5.2 100).bind λv7 =>
 (Qb v7.2 6).bind λv8 =>
 (at_ [10,15,25,30,50,w64 (1+v7.1)] v8.1).bind λv9 =>
 (JY v6 v9).bind λv10 =>
 if 0 < v10.1.full then
 ((Qb v8.2 5).bind λv13 =>
 some ((Cfg.mk v10.1.name v10.1.rules (w64 (1+v13.1)),v13.2)))
 else
 some ((v10.1,v8.2)))
 else
 (Qb v2.2 4).bind λv14 =>
 (Qi (λ(s19:Qc×List Rul×Int×Int) =>
 if s19.2.2.2 < (w64 (1+v14.1)) then
 ((Qb s19.1 3).bind λv24 =>
 (Qb v24.2 3).bind λv26 =>
 if 0 < v26.1 then
 ((JB v26.2).bind λv28 =>
 if s19.2.2.2 < (w64 ((w64 (1+v14.1)) - 1)) then
 ((Qb v28.2 3).bind λv31 =>
 if v31.1=0 then
 ((Qb v31.2 2).bind λv33 =>
 if s19.2.2.2=(w64 ((w64 (1+v14.1)) - 1)) then
 (if (Qez .eql v28.1 0)=true then
 ((Qb v33.2 6).bind λv37 =>
 if ((s19.2.1.length:Int)+[Rul.mk v28.1 (w64 (1+v33.1)) v24.1 s19.2.2.2].length) * 32<=140737488355328/\(s19.2.1.length:Int)+[Rul.mk v28.1 (w64 (1+v33.1)) v24.1 s19.2.2.2].length<=9223372036854775807 then
 some (.go ((v37.2,s19.2.1++[Rul.mk v28.1 (w64 (1+v33.1)) v24.1 s19.2.2.2],w64 (1+v37.1),w64 (s19.2.2.2+1))))
 else none)
 else
 if ((s19.2.1.length:Int)+[Rul.mk v28.1 (w64 (1+v33.1)) v24.1 s19.2.2.2].length) * 32<=140737488355328/\(s19.2.1.length:Int)+[Rul.mk v28.1 (w64 (1+v33.1)) v24.1 s19.2.2.2].length<=9223372036854775807 then
 some (.go ((v33.2,s19.2.1++[Rul.mk v28.1 (w64 (1+v33.1)) v24.1 s19.2.2.2],s19.2.2.1,w64 (s19.2.2.2+1))))
 else none)
 else
 if ((s19.2.1.length:Int)+[Rul.mk v28.1 (w64 (1+v33.1)) v24.1 (w64 (s19.2.2.2+1))].length) * 32<=140737488355328/\(s19.2.1.length:Int)+[Rul.mk v28.1 (w64 (1+v33.1)) v24.1 (w64 (s19.2.2.2+1))].length<=9223372036854775807 then
 some (.go ((v33.2,s19.2.1++[Rul.mk v28.1 (w64 (1+v33.1)) v24.1 (w64 (s19.2.2.2+1))],s19.2.2.1,w64 (s19.2.2.2+1))))
 else none)
 else
 if s19.2.2.2=(w64 ((w64 (1+v14.1)) - 1)) then
 (if (Qez .eql v28.1 0)=true then
 ((Qb v31.2 6).bind λv44 =>
 if ((s19.2.1.length:Int)+[Rul.mk v28.1 0 v24.1 s19.2.2.2].length) * 32<=140737488355328/\(s19.2.1.length:Int)+[Rul.mk v28.1 0 v24.1 s19.2.2.2].length<=9223372036854775807 then
 some (.go ((v44.2,s19.2.1++[Rul.mk v28.1 0 v24.1 s19.2.2.2],w64 (1+v44.1),w64 (s19.2.2.2+1))))
 else none)
 else
 if ((s19.2.1.length:Int)+[Rul.mk v28.1 0 v24.1 s19.2.2.2].length) * 32<=140737488355328/\(s19.2.1.length:Int)+[Rul.mk v28.1 0 v24.1 s19.2.2.2].length<=9223372036854775807 then
 some (.go ((v31.2,s19.2.1++[Rul.mk v28.1 0 v24.1 s19.2.2.2],s19.2.2.1,w64 (s19.2.2.2+1))))
 else none)
 else
 if ((s19.2.1.length:Int)+[Rul.mk v28.1 0 v24.1 (w64 (s19.2.2.2+1))].length) * 32<=140737488355328/\(s19.2.1.length:Int)+[Rul.mk v28.1 0 v24.1 (w64 (s19.2.2.2+1))].length<=9223372036854775807 then
 some (.go ((v31.2,s19.2.1++[Rul.mk v28.1 0 v24.1 (w64 (s19.2.2.2+1))],s19.2.2.1,w64 (s19.2.2.2+1))))
 else none)
 else
 if s19.2.2.2=(w64 ((w64 (1+v14.1)) - 1)) then
 (if (Qez .eql v28.1 0)=true then
 ((Qb v28.2 6).bind λv51 =>
 if ((s19.2.1.length:Int)+[Rul.mk v28.1 0 v24.1 s19.2.2.2].length) * 32<=140737488355328/\(s19.2.1.length:Int)+[Rul.mk v28.1 0 v24.1 s19.2.2.2].length<=9223372036854775807 then
 some (.go ((v51.2,s19.2.1++[Rul.mk v28.1 0 v24.1 s19.2.2.2],w64 (1+v51.1),w64 (s19.2.2.2+1))))
 else none)
 else
 if ((s19.2.1.length:Int)+[Rul.mk v28.1 0 v24.1 s19.2.2.2].length) * 32<=140737488355328/\(s19.2.1.length:Int)+[Rul.mk v28.1 0 v24.1 s19.2.2.2].length<=9223372036854775807 then
 some (.go ((v28.2,s19.2.1++[Rul.mk v28.1 0 v24.1 s19.2.2.2],s19.2.2.1,w64 (s19.2.2.2+1))))
 else none)
 else
 if ((s19.2.1.length:Int)+[Rul.mk v28.1 0 v24.1 (w64 (s19.2.2.2+1))].length) * 32<=140737488355328/\(s19.2.1.length:Int)+[Rul.mk v28.1 0 v24.1 (w64 (s19.2.2.2+1))].length<=9223372036854775807 then
 some (.go ((v28.2,s19.2.1++[Rul.mk v28.1 0 v24.1 (w64 (s19.2.2.2+1))],s19.2.2.1,w64 (s19.2.2.2+1))))
 else none)
 else
 if s19.2.2.2 < (w64 ((w64 (1+v14.1)) - 1)) then
 ((Qb v26.2 3).bind λv57 =>
 if v57.1=0 then
 ((Qb v57.2 2).bind λv59 =>
 if s19.2.2.2=(w64 ((w64 (1+v14.1)) - 1)) then
 ((Qb v59.2 6).bind λv62 =>
 if ((s19.2.1.length:Int)+[Rul.mk 0 (w64 (1+v59.1)) v24.1 s19.2.2.2].length) * 32<=140737488355328/\(s19.2.1.length:Int)+[Rul.mk 0 (w64 (1+v59.1)) v24.1 s19.2.2.2].length<=9223372036854775807 then
 some (.go ((v62.2,s19.2.1++[Rul.mk 0 (w64 (1+v59.1)) v24.1 s19.2.2.2],w64 (1+v62.1),w64 (s19.2.2.2+1))))
 else none)
 else
 if ((s19.2.1.length:Int)+[Rul.mk 0 (w64 (1+v59.1)) v24.1 (w64 (s19.2.2.2+1))].length) * 32<=140737488355328/\(s19.2.1.length:Int)+[Rul.mk 0 (w64 (1+v59.1)) v24.1 (w64 (s19.2.2.2+1))].length<=9223372036854775807 then
 some (.go ((v59.2,s19.2.1++[Rul.mk 0 (w64 (1+v59.1)) v24.1 (w64 (s19.2.2.2+1))],s19.2.2.1,w64 (s19.2.2.2+1))))
 else none)
 else
 if s19.2.2.2=(w64 ((w64 (1+v14.1)) - 1)) then
 ((Qb v57.2 6).bind λv67 =>
 if ((s19.2.1.length:Int)+[Rul.mk 0 0 v24.1 s19.2.2.2].length) * 32<=140737488355328/\(s19.2.1.length:Int)+[Rul.mk 0 0 v24.1 s19.2.2.2].length<=9223372036854775807 then
 some (.go ((v67.2,s19.2.1++[Rul.mk 0 0 v24.1 s19.2.2.2],w64 (1+v67.1),w64 (s19.2.2.2+1))))
 else none)
 else
 if ((s19.2.1.length:Int)+[Rul.mk 0 0 v24.1 (w64 (s19.2.2.2+1))].length) * 32<=140737488355328/\(s19.2.1.length:Int)+[Rul.mk 0 0 v24.1 (w64 (s19.2.2.2+1))].length<=9223372036854775807 then
 some (.go ((v57.2,s19.2.1++[Rul.mk 0 0 v24.1 (w64 (s19.2.2.2+1))],s19.2.2.1,w64 (s19.2.2.2+1))))
 else none)
 else
 if s19.2.2.2=(w64 ((w64 (1+v14.1)) - 1)) then
 ((Qb v26.2 6).bind λv72 =>
 if ((s19.2.1.length:Int)+[Rul.mk 0 0 v24.1 s19.2.2.2].length) * 32<=140737488355328/\(s19.2.1.length:Int)+[Rul.mk 0 0 v24.1 s19.2.2.2].length<=9223372036854775807 then
 some (.go ((v72.2,s19.2.1++[Rul.mk 0 0 v24.1 s19.2.2.2],w64 (1+v72.1),w64 (s19.2.2.2+1))))
 else none)
 else
 if ((s19.2.1.length:Int)+[Rul.mk 0 0 v24.1 (w64 (s19.2.2.2+1))].length) * 32<=140737488355328/\(s19.2.1.length:Int)+[Rul.mk 0 0 v24.1 (w64 (s19.2.2.2+1))].length<=9223372036854775807 then
 some (.go ((v26.2,s19.2.1++[Rul.mk 0 0 v24.1 (w64 (s19.2.2.2+1))],s19.2.2.1,w64 (s19.2.2.2+1))))
 else none)
 else
 some (.out ((s19.1,s19.2.1,s19.2.2.1)))) (v14.2,([]:List Rul),0,0)).bind λ(b15:Qc×List Rul×Int) =>
 some ((Cfg.mk (ByteArray.mk #[111,119,110]) b15.2.1 b15.2.2,b15.1))
theorem QdB{p0 r}:Sm (Jb p0) r->DCall Tryz.prog 45 [.ptr 0 0 0] [(0,bO 2 [.sl (p0.l.map iC),DI p0.pos])] (.agg [.lit (.string r.1.name),.own 1 0 r.1.rules.length,DI r.1.full]) [(0,bO 2 [.sl (r.2.l.map iC),DI r.2.pos]),(1,aO 4 (r.1.rules.map Rul.c))]:=by
 unfold Jb
 refine mk0 Tryz.func45 ?_
 refine ar ?_
 refine sq λK k=>?_
 refine xd λv2 hv2=>?_
 have q0:=cG r1 (Qa hv2)
 refine ar ?_
 refine xs (λh3=>?_) λh3=>?_
 refine ca ?_
 refine xd λv4 hv4=>?_
 refine xd λv5 hv5=>?_
 refine xa λv6 hv6=>?_
 refine xd λv7 hv7=>?_
 refine xd λv8 hv8=>?_
 refine xa λv9 hv9=>?_
 refine xd λv10 hv10=>?_
 clear q0
 refine ar ?_
 refine goA (m_cS r0 (Qdw hv4) rfl (ScS.cons (scC (λ_=>rfl)) ScS.nil)) ?_
 refine au ?_
 refine goA (m_cG r1 (Qa hv5)) ?_
 refine au ?_
 refine goA (m_cG r1 (Qa hv7)) ?_
 refine au ?_
 refine goA (Qk (c:=iC) ([10,15,25,30,50,w64 (1+v7.1)]:List Int) i22.ok i3.ok) ?_
 refine au ?_
 refine goA (m_cG r1 (Qa hv8)) ?_
 refine au ?_
 refine goA (m_cS r0 (F_ref14_Get_ok hv10) rfl (ScS.cons (scC (λ_=>rfl)) ScS.nil)) ?_
 refine au ?_
 refine sq λK k=>?_
 refine ar ?_
 refine xs (λh12=>?_) λh12=>?_
 refine ca ?_
 refine xd λv13 hv13=>?_
 have q0:=cG r1 (Qa hv13)
 refine ar ?_
 refine ar ?_
 exact fw [(0,0),(1,4)]
 refine db ?_
 exact fw [(0,0),(1,4)]
 refine cb ?_
 refine xd λv14 hv14=>?_
 replace q0:=cG r1 (Qa hv14)
 refine ar ?_
 refine ar ?_
 refine cT [] [(2,λb15=>.ptr 1 0 0),(6,λb15=>.ptr 2 0 0)] [1] [] [(0,λb15=>bO 2 [.sl (b15.1.l.map iC),DI b15.1.pos]),(2,λb15=>bO 3 [.lit (.string (ByteArray.mk #[111,119,110])),.own 3 0 b15.2.1.length,DI b15.2.2]),(3,λb15=>aO 4 (b15.2.1.map Rul.c))] 4 (λz16=>?_) λb15=>?_
 refine ar ?_
 refine xx (Qg 2 1 4 Od rfl rfl) ?_
 refine lP [0,5] [(2,λs19=>.ptr 1 0 0),(6,λs19=>.ptr 2 0 0),(7,λs19=>DI s19.2.2.2)] [1] [] [(0,λs19=>bO 2 [.sl (s19.1.l.map iC),DI s19.1.pos]),(2,λs19=>bO 3 [.lit (.string (ByteArray.mk #[111,119,110])),.own 3 0 s19.2.1.length,DI s19.2.2.1]),(3,λs19=>aO 4 (s19.2.1.map Rul.c))] 4 λs19 y20 hq20=>?_
 refine sq λK k=>?_
 refine ar ?_
 refine xs (λh22=>?_) λh22=>?_
 refine ca ?_
 refine sq λK k=>?_
 refine au ?_
 refine xd λv24 hv24=>?_
 replace q0:=cG r1 (Qa hv24)
 refine ar ?_
 refine sq λK k=>?_
 refine xd λv26 hv26=>?_
 replace q0:=cG r1 (Qa hv26)
 refine ar ?_
 refine xs (λh27=>?_) λh27=>?_
 refine ca ?_
 refine xd λv28 hv28=>?_
 replace q0:=cG r1 (QeW hv28)
 refine ar ?_
 refine sq λK k=>?_
 refine xs (λh30=>?_) λh30=>?_
 refine xd λv31 hv31=>?_
 replace q0:=cG r1 (Qa hv31)
 refine ar ?_
 refine xs (λh32=>?_) λh32=>?_
 refine ca ?_
 refine xd λv33 hv33=>?_
 replace q0:=cG r1 (Qa hv33)
 refine ar ?_
 refine sq λK k=>?_
 refine ar ?_
 refine xs (λh35=>?_) λh35=>?_
 refine da ?_
 refine ar ?_
 refine goA (Qdm (.inl rfl)) ?_
 refine au ?_
 refine xs (λh36=>?_) λh36=>?_
 refine ca ?_
 refine xd λv37 hv37=>?_
 replace q0:=cG r1 (Qa hv37)
 refine ar ?_
 refine xc λh38=>?_
 refine ar ?_
 refine goA (Qk (c:=Rul.c) ([Rul.mk v28.1 (w64 (1+v33.1)) v24.1 s19.2.2.2]:List Rul) i23.ok J5.ok) ?_
 refine goA (QT (c:=Rul.c) s19.2.1 [Rul.mk v28.1 (w64 (1+v33.1)) v24.1 s19.2.2.2] h38 i23.ok J5.ok rfl rfl (.own rfl rfl Os (Qf (c:=Rul.c) (λ_=>rfl) _)) rfl) ?_
 refine au ?_
 refine ar ?_
 exact wJ [(3,6)]
 refine cb ?_
 refine xc λh39=>?_
 refine ar ?_
 refine goA (Qk (c:=Rul.c) ([Rul.mk v28.1 (w64 (1+v33.1)) v24.1 s19.2.2.2]:List Rul) i23.ok J5.ok) ?_
 refine goA (QT (c:=Rul.c) s19.2.1 [Rul.mk v28.1 (w64 (1+v33.1)) v24.1 s19.2.2.2] h39 i23.ok J5.ok rfl rfl (.own rfl rfl Os (Qf (c:=Rul.c) (λ_=>rfl) _)) rfl) ?_
 refine au ?_
 refine ar ?_
 exact wJ [(3,6)]
 refine cb ?_
 refine xc λh40=>?_
 refine ar ?_
 refine goA (Qk (c:=Rul.c) ([Rul.mk v28.1 (w64 (1+v33.1)) v24.1 (w64 (s19.2.2.2+1))]:List Rul) i23.ok J5.ok) ?_
 refine goA (QT (c:=Rul.c) s19.2.1 [Rul.mk v28.1 (w64 (1+v33.1)) v24.1 (w64 (s19.2.2.2+1))] h40 i23.ok J5.ok rfl rfl (.own rfl rfl Os (Qf (c:=Rul.c) (λ_=>rfl) _)) rfl) ?_
 refine au ?_
 refine ar ?_
 exact wJ [(3,6)]
 refine cb ?_
 refine sq λK k=>?_
 refine ar ?_
 refine xs (λh42=>?_) λh42=>?_
 refine da ?_
 refine ar ?_
 refine goA (Qdm (.inl rfl)) ?_
 refine au ?_
 refine xs (λh43=>?_) λh43=>?_
 refine ca ?_
 refine xd λv44 hv44=>?_
 replace q0:=cG r1 (Qa hv44)
 refine ar ?_
 refine xc λh45=>?_
 refine ar ?_
 refine goA (Qk (c:=Rul.c) ([Rul.mk v28.1 0 v24.1 s19.2.2.2]:List Rul) i23.ok J5.ok) ?_
 refine goA (QT (c:=Rul.c) s19.2.1 [Rul.mk v28.1 0 v24.1 s19.2.2.2] h45 i23.ok J5.ok rfl rfl (.own rfl rfl Os (Qf (c:=Rul.c) (λ_=>rfl) _)) rfl) ?_
 refine au ?_
 refine ar ?_
 exact wJ [(3,6)]
 refine cb ?_
 refine xc λh46=>?_
 refine ar ?_
 refine goA (Qk (c:=Rul.c) ([Rul.mk v28.1 0 v24.1 s19.2.2.2]:List Rul) i23.ok J5.ok) ?_
 refine goA (QT (c:=Rul.c) s19.2.1 [Rul.mk v28.1 0 v24.1 s19.2.2.2] h46 i23.ok J5.ok rfl rfl (.own rfl rfl Os (Qf (c:=Rul.c) (λ_=>rfl) _)) rfl) ?_
 refine au ?_
 refine ar ?_
 exact wJ [(3,6)]
 refine cb ?_
 refine xc λh47=>?_
 refine ar ?_
 refine goA (Qk (c:=Rul.c) ([Rul.mk v28.1 0 v24.1 (w64 (s19.2.2.2+1))]:List Rul) i23.ok J5.ok) ?_
 refine goA (QT (c:=Rul.c) s19.2.1 [Rul.mk v28.1 0 v24.1 (w64 (s19.2.2.2+1))] h47 i23.ok J5.ok rfl rfl (.own rfl rfl Os (Qf (c:=Rul.c) (λ_=>rfl) _)) rfl) ?_
 refine au ?_
 refine ar ?_
 exact wJ [(3,6)]
 refine ar ?_
 refine cb ?_
 refine sq λK k=>?_
 refine ar ?_
 refine xs (λh49=>?_) λh49=>?_
 refine da ?_
 refine ar ?_
 refine goA (Qdm (.inl rfl)) ?_
 refine au ?_
 refine xs (λh50=>?_) λh50=>?_
 refine ca ?_
 refine xd λv51 hv51=>?_
 replace q0:=cG r1 (Qa hv51)
 refine ar ?_
 refine xc λh52=>?_
 refine ar ?_
 refine goA (Qk (c:=Rul.c) ([Rul.mk v28.1 0 v24.1 s19.2.2.2]:List Rul) i23.ok J5.ok) ?_
 refine goA (QT (c:=Rul.c) s19.2.1 [Rul.mk v28.1 0 v24.1 s19.2.2.2] h52 i23.ok J5.ok rfl rfl (.own rfl rfl Os (Qf (c:=Rul.c) (λ_=>rfl) _)) rfl) ?_
 refine au ?_
 refine ar ?_
 exact wJ [(3,6)]
 refine cb ?_
 refine xc λh53=>?_
 refine ar ?_
 refine goA (Qk (c:=Rul.c) ([Rul.mk v28.1 0 v24.1 s19.2.2.2]:List Rul) i23.ok J5.ok) ?_
 refine goA (QT (c:=Rul.c) s19.2.1 [Rul.mk v28.1 0 v24.1 s19.2.2.2] h53 i23.ok J5.ok rfl rfl (.own rfl rfl Os (Qf (c:=Rul.c) (λ_=>rfl) _)) rfl) ?_
 refine au ?_
 refine ar ?_
 exact wJ [(3,6)]
 refine cb ?_
 refine xc λh54=>?_
 refine ar ?_
 refine goA (Qk (c:=Rul.c) ([Rul.mk v28.1 0 v24.1 (w64 (s19.2.2.2+1))]:List Rul) i23.ok J5.ok) ?_
 refine goA (QT (c:=Rul.c) s19.2.1 [Rul.mk v28.1 0 v24.1 (w64 (s19.2.2.2+1))] h54 i23.ok J5.ok rfl rfl (.own rfl rfl Os (Qf (c:=Rul.c) (λ_=>rfl) _)) rfl) ?_
 refine au ?_
 refine ar ?_
 exact wJ [(3,6)]
 refine cb ?_
 refine sq λK k=>?_
 refine xs (λh56=>?_) λh56=>?_
 refine xd λv57 hv57=>?_
 replace q0:=cG r1 (Qa hv57)
 refine ar ?_
 refine xs (λh58=>?_) λh58=>?_
 refine ca ?_
 refine xd λv59 hv59=>?_
 replace q0:=cG r1 (Qa hv59)
 refine ar ?_
 refine sq λK k=>?_
 refine ar ?_
 refine xs (λh61=>?_) λh61=>?_
 refine da ?_
 refine ar ?_
 refine goA (Qdm (.inl rfl)) ?_
 refine au ?_
 refine ca ?_
 refine xd λv62 hv62=>?_
 replace q0:=cG r1 (Qa hv62)
 refine ar ?_
 refine xc λh63=>?_
 refine ar ?_
 refine goA (Qk (c:=Rul.c) ([Rul.mk 0 (w64 (1+v59.1)) v24.1 s19.2.2.2]:List Rul) i23.ok J5.ok) ?_
 refine goA (QT (c:=Rul.c) s19.2.1 [Rul.mk 0 (w64 (1+v59.1)) v24.1 s19.2.2.2] h63 i23.ok J5.ok rfl rfl (.own rfl rfl Os (Qf (c:=Rul.c) (λ_=>rfl) _)) rfl) ?_
 refine au ?_
 refine ar ?_
 exact wJ [(3,6)]
 refine cb ?_
 refine xc λh64=>?_
 refine ar ?_
 refine goA (Qk (c:=Rul.c) ([Rul.mk 0 (w64 (1+v59.1)) v24.1 (w64 (s19.2.2.2+1))]:List Rul) i23.ok J5.ok) ?_
 refine goA (QT (c:=Rul.c) s19.2.1 [Rul.mk 0 (w64 (1+v59.1)) v24.1 (w64 (s19.2.2.2+1))] h64 i23.ok J5.ok rfl rfl (.own rfl rfl Os (Qf (c:=Rul.c) (λ_=>rfl) _)) rfl) ?_
 refine au ?_
 refine ar ?_
 exact wJ [(3,6)]
 refine cb ?_
 refine sq λK k=>?_
 refine ar ?_
 refine xs (λh66=>?_) λh66=>?_
 refine da ?_
 refine ar ?_
 refine goA (Qdm (.inl rfl)) ?_
 refine au ?_
 refine ca ?_
 refine xd λv67 hv67=>?_
 replace q0:=cG r1 (Qa hv67)
 refine ar ?_
 refine xc λh68=>?_
 refine ar ?_
 refine goA (Qk (c:=Rul.c) ([Rul.mk 0 0 v24.1 s19.2.2.2]:List Rul) i23.ok J5.ok) ?_
 refine goA (QT (c:=Rul.c) s19.2.1 [Rul.mk 0 0 v24.1 s19.2.2.2] h68 i23.ok J5.ok rfl rfl (.own rfl rfl Os (Qf (c:=Rul.c) (λ_=>rfl) _)) rfl) ?_
 refine au ?_
 refine ar ?_
 exact wJ [(3,6)]
 refine cb ?_
 refine xc λh69=>?_
 refine ar ?_
 refine goA (Qk (c:=Rul.c) ([Rul.mk 0 0 v24.1 (w64 (s19.2.2.2+1))]:List Rul) i23.ok J5.ok) ?_
 refine goA (QT (c:=Rul.c) s19.2.1 [Rul.mk 0 0 v24.1 (w64 (s19.2.2.2+1))] h69 i23.ok J5.ok rfl rfl (.own rfl rfl Os (Qf (c:=Rul.c) (λ_=>rfl) _)) rfl) ?_
 refine au ?_
 refine ar ?_
 exact wJ [(3,6)]
 refine ar ?_
 refine cb ?_
 refine sq λK k=>?_
 refine ar ?_
 refine xs (λh71=>?_) λh71=>?_
 refine da ?_
 refine ar ?_
 refine goA (Qdm (.inl rfl)) ?_
 refine au ?_
 refine ca ?_
 refine xd λv72 hv72=>?_
 replace q0:=cG r1 (Qa hv72)
 refine ar ?_
 refine xc λh73=>?_
 refine ar ?_
 refine goA (Qk (c:=Rul.c) ([Rul.mk 0 0 v24.1 s19.2.2.2]:List Rul) i23.ok J5.ok) ?_
 refine goA (QT (c:=Rul.c) s19.2.1 [Rul.mk 0 0 v24.1 s19.2.2.2] h73 i23.ok J5.ok rfl rfl (.own rfl rfl Os (Qf (c:=Rul.c) (λ_=>rfl) _)) rfl) ?_
 refine au ?_
 refine ar ?_
 exact wJ [(3,6)]
 refine cb ?_
 refine xc λh74=>?_
 refine ar ?_
 refine goA (Qk (c:=Rul.c) ([Rul.mk 0 0 v24.1 (w64 (s19.2.2.2+1))]:List Rul) i23.ok J5.ok) ?_
 refine goA (QT (c:=Rul.c) s19.2.1 [Rul.mk 0 0 v24.1 (w64 (s19.2.2.2+1))] h74 i23.ok J5.ok rfl rfl (.own rfl rfl Os (Qf (c:=Rul.c) (λ_=>rfl) _)) rfl) ?_
 refine au ?_
 refine ar ?_
 exact wJ [(3,6)]
 refine cb ?_
 refine xo hq20 ?_
 exact wJ []
 refine ar ?_
 exact fw [(0,0),(1,3)]
noncomputable def QbE(p0:Qc)(p1:Gra):Option (AOp×Qc) :=
 (Qi (λ(s5:List Int×Int) =>
 if s5.2 < (p1.used.length:Int) then
 ((at_ p1.used s5.2).bind λv10 =>
 if v10=true then
 (if ((s5.1.length:Int)+[w64 (s5.2+1)].length) * 8<=140737488355328/\(s5.1.length:Int)+[w64 (s5.2+1)].length<=9223372036854775807 then
 some (.go ((s5.1++[w64 (s5.2+1)],w64 (s5.2+1))))
 else none)
 else
 some (.go ((s5.1,w64 (s5.2+1)))))
 else
 some (.out (s5.1))) (([]:List Int),0)).bind λ(b1:List Int) =>
 (Qb p0 20).bind λv13 =>
 (at_ [1,1,1,1,2,2,3,3,3,3,4,5,6,7,7,7,8,9,10,0] v13.1).bind λv14 =>
 (if 20 < (b1.length:Int) then
 (if v14=1 then
 (some (7))
 else
 some (v14))
 else
 some (v14)).bind λ(b15:Int) =>
 if b15=1 then
 ((Qb v13.2 4).bind λv21 =>
 (Qb v21.2 4).bind λv22 =>
 (at_ [3,3,8,17] v22.1).bind λv23 =>
 (Qb v22.2 v23).bind λv24 =>
 some ((AOp.mk b15 v21.1 v24.1 0,v24.2)))
 else
 (if b15=2 then
 (some (decide (b15=2)))
 else
 some (decide (b15=4))).bind λ(b25:Bool) =>
 if b25=true then
 ((QW b1 v13.2).bind λv29 =>
 (Qb v29.2.2 3).bind λv30 =>
 some ((AOp.mk b15 v29.1 v30.1 0,v30.2)))
 else
 if b15=3 then
 ((QW b1 v13.2).bind λv32 =>
 (Qb v32.2.2 3).bind λv33 =>
 (QW v32.2.1 v33.2).bind λv34 =>
 some ((AOp.mk b15 v32.1 v33.1 v34.1,v34.2.2)))
 else
 if b15=5 then
 ((QW b1 v13.2).bind λv36 =>
 (Qb v36.2.2 3).bind λv37 =>
 (Qb v37.2 256).bind λv38 =>
 some ((AOp.mk b15 v36.1 v37.1 v38.1,v38.2)))
 else
 if b15=6 then
 ((QW b1 v13.2).bind λv40 =>
 (QW v40.2.1 v40.2.2).bind λv41 =>
 some ((AOp.mk b15 v40.1 v41.1 0,v41.2.2)))
 else
 if b15=7 then
 ((QW b1 v13.2).bind λv44 =>
 some ((AOp.mk b15 v44.1 0 0,v44.2.2)))
 else
 if b15=9 then
 ((QW b1 v13.2).bind λv46 =>
 some ((AOp.mk b15 v46.1 0 0,v46.2.2)))
 else
 some ((AOp.mk b15 0 0 0,v13.2))
theorem F_make_Op_ok{p0 p1 r}:Sm (QbE p0 p1) r->DCall Tryz.prog 87 [.ptr 0 0 0,.agg [.sl (p1.nodes.map Nod.c),.sl (p1.used.map bC),.sl (p1.roots.map iC)]] [(0,bO 2 [.sl (p0.l.map iC),DI p0.pos])] (.agg [DI r.1.code,DI r.1.a,DI r.1.b,DI r.1.c_]) [(0,bO 2 [.sl (r.2.l.map iC),DI r.2.pos])]:=by
 unfold QbE
 refine mk0 Tryz.func87 ?_
 refine ar ?_
 refine ar ?_
 refine cT [] [(2,λb1=>.ptr 1 0 0),(4,λb1=>.ptr 3 0 0),(5,λb1=>.ptr 4 0 0)] [0,3] [] [(1,λb1=>bO 1 [.ptr 0 0 0]),(4,λb1=>bO 1 [.own 5 0 b1.length]),(5,λb1=>aO 1 (b1.map iC))] 6 (λz2=>?_) λb1=>?_
 refine ar ?_
 refine xx (Qg 4 0 1 Od rfl rfl) ?_
 refine lP [11,12] [(2,λs5=>.ptr 1 0 0),(4,λs5=>.ptr 3 0 0),(5,λs5=>.ptr 4 0 0),(13,λs5=>DI s5.2)] [0,3] [] [(1,λs5=>bO 1 [.ptr 0 0 0]),(4,λs5=>bO 1 [.own 5 0 s5.1.length]),(5,λs5=>aO 1 (s5.1.map iC))] 6 λs5 y6 hq6=>?_
 refine ar ?_
 refine sq λK k=>?_
 refine xs (λh8=>?_) λh8=>?_
 refine ca ?_
 refine sq λK k=>?_
 refine au ?_
 refine xa λv10 hv10=>?_
 refine ar ?_
 refine ar ?_
 refine xs (λh11=>?_) λh11=>?_
 refine ca ?_
 refine xc λh12=>?_
 refine ar ?_
 refine goA (Qk (c:=iC) ([w64 (s5.2+1)]:List Int) i22.ok i3.ok) ?_
 refine goA (QT (c:=iC) s5.1 [w64 (s5.2+1)] h12 i22.ok i3.ok rfl rfl (.own rfl rfl Os (Qf (c:=iC) (λ_=>rfl) _)) rfl) ?_
 refine au ?_
 refine ar ?_
 exact wJ [(5,7)]
 refine db ?_
 exact wJ []
 refine cb ?_
 refine xo hq6 ?_
 exact wJ []
 refine ar ?_
 refine xd λv13 hv13=>?_
 refine xa λv14 hv14=>?_
 have q0:=cG r1 (Qa hv13)
 refine ar ?_
 refine goA (Qk (c:=iC) ([1,1,1,1,2,2,3,3,3,3,4,5,6,7,7,7,8,9,10,0]:List Int) i22.ok i3.ok) ?_
 refine au ?_
 refine cT [2,4] [(8,λb15=>.fn 132 [.ptr 4 0 0,.ptr 1 0 0]),(9,λb15=>.ptr 7 0 0)] [1,3,4,5] [(7,[(0,λb15=>DI b15)])] [(0,λb15=>bO 2 [.sl (v13.2.l.map iC),DI v13.2.pos])] 8 (λz16=>?_) λb15=>?_
 refine xs (λh17=>?_) λh17=>?_
 refine ar ?_
 refine xs (λh18=>?_) λh18=>?_
 refine da ?_
 exact wJ []
 refine cb ?_
 exact wJ []
 refine ar ?_
 refine cb ?_
 exact wJ []
 refine sq λK k=>?_
 refine ar ?_
 refine ar ?_
 refine xs (λh20=>?_) λh20=>?_
 refine ca ?_
 refine xd λv21 hv21=>?_
 refine xd λv22 hv22=>?_
 refine xa λv23 hv23=>?_
 refine xd λv24 hv24=>?_
 clear q0
 refine ar ?_
 refine goA (m_cG r1 (Qa hv21)) ?_
 refine au ?_
 refine goA (Qk (c:=iC) ([3,3,8,17]:List Int) i22.ok i3.ok) ?_
 refine au ?_
 refine goA (m_cG r1 (Qa hv22)) ?_
 refine au ?_
 refine goA (m_cG r1 (Qa hv24)) ?_
 refine au ?_
 refine ar ?_
 exact fw r1
 refine cb ?_
 refine cT [2,4,8,9,42] [(56,λb25=>DB b25)] [0,1,3,4,5,7] [] [] 8 (λz26=>?_) λb25=>?_
 refine ar ?_
 refine xs (λh27=>?_) λh27=>?_
 refine ca ?_
 exact wJ []
 refine db ?_
 exact wJ []
 refine xs (λh28=>?_) λh28=>?_
 refine ca ?_
 refine xd λv29 hv29=>?_
 refine xd λv30 hv30=>?_
 replace q0:=cG [(0,4),(1,1),(2,0)] (Q6 hv29)
 have q1:=cG r1 (Qa hv30)
 refine b_ayK [1] ?_
 refine au ?_
 refine ar ?_
 exact fw r1
 refine db ?_
 refine xs (λh31=>?_) λh31=>?_
 refine ca ?_
 refine xd λv32 hv32=>?_
 refine xd λv33 hv33=>?_
 refine xd λv34 hv34=>?_
 clear q0
 refine b_ayK [1] ?_
 refine au ?_
 refine goA (m_cG [(0,4),(1,1),(2,0)] (Q6 hv32)) ?_
 refine au ?_
 refine goA (m_cG r1 (Qa hv33)) ?_
 refine au ?_
 refine goA (m_cG [(0,4),(1,1),(2,0)] (Q6 hv34)) ?_
 refine au ?_
 refine ar ?_
 exact fw r1
 refine db ?_
 refine xs (λh35=>?_) λh35=>?_
 refine ca ?_
 refine xd λv36 hv36=>?_
 refine xd λv37 hv37=>?_
 refine xd λv38 hv38=>?_
 clear q0
 refine b_ayK [1] ?_
 refine au ?_
 refine goA (m_cG [(0,4),(1,1),(2,0)] (Q6 hv36)) ?_
 refine au ?_
 refine goA (m_cG r1 (Qa hv37)) ?_
 refine au ?_
 refine goA (m_cG r1 (Qa hv38)) ?_
 refine au ?_
 refine ar ?_
 exact fw r1
 refine db ?_
 refine xs (λh39=>?_) λh39=>?_
 refine ca ?_
 refine xd λv40 hv40=>?_
 refine xd λv41 hv41=>?_
 refine ar ?_
 refine goA (m_cG [(0,4),(1,1),(2,0)] (Q6 hv40)) ?_
 refine au ?_
 refine goA (m_cG [(0,4),(1,1),(2,0)] (Q6 hv41)) ?_
 refine au ?_
 refine ar ?_
 exact fw r1
 refine cb ?_
 refine sq λK k=>?_
 refine ar ?_
 refine xs (λh43=>?_) λh43=>?_
 refine ca ?_
 refine ca ?_
 refine xd λv44 hv44=>?_
 replace q0:=cG [(0,4),(1,1),(2,0)] (Q6 hv44)
 refine ar ?_
 refine ar ?_
 exact fw r1
 refine db ?_
 refine xs (λh45=>?_) λh45=>?_
 refine ca ?_
 refine xd λv46 hv46=>?_
 replace q0:=cG [(0,4),(1,1),(2,0)] (Q6 hv46)
 refine ar ?_
 refine ar ?_
 exact fw r1
 refine db ?_
 exact fw r1
noncomputable def Xs(p0:Cfg)(p1:Sp)(p2:List (List Inc))(p3:Inc)(p4:Int):Option Bool :=
 (ZF p1 p3 p4).bind λv1 =>
 if v1=0 then
 (some (true))
 else
 (Jz p1).bind λv4 =>
 if (p1.fs.length:Int) < (w64 (v4+v1)) then
 (some (false))
 else
 (QH p0).bind λv8 =>
 if v8=true then
 (some (decide ((w64 (2 * (w64 (v4+v1))))<=(p1.fs.length:Int))))
 else
 (Z8 p1 p2).bind λv10 =>
 (QE p1 p3).bind λv11 =>
 some (decide ((max v10 (w64 (v11+v1)))<=(w64 ((p1.fs.length:Int) - (w64 (v4+v1))))))
theorem Qc8{p0 p1 p2 p3 p4 r}:Sm (Xs p0 p1 p2 p3 p4) r->DCall Tryz.prog 224 [.agg [.lit (.string p0.name),.sl (p0.rules.map Rul.c),DI p0.full],.agg [DI p1.sh,.sl (p1.ws.map uC),.sl (p1.fs.map frC)],.sl (p2.map (lC Inc.c)),.agg [DI p3.seq,DI p3.belt,DI p3.first,DI p3.last,DI p3.words],DI p4] [] (DB r) []:=by
 unfold Xs
 refine mk0 Tryz.func224 ?_
 refine ar ?_
 refine xd λv1 hv1=>?_
 have q0:=cS r0 (Qa3 hv1)
 refine ar ?_
 refine sq λK k=>?_
 refine ar ?_
 refine xs (λh3=>?_) λh3=>?_
 refine da ?_
 exact ft r0
 refine cb ?_
 refine xd λv4 hv4=>?_
 replace q0:=cS r0 (QeS hv4)
 refine ar ?_
 refine sq λK k=>?_
 refine ar ?_
 refine xs (λh6=>?_) λh6=>?_
 refine da ?_
 exact ft r0
 refine cb ?_
 refine sq λK k=>?_
 refine xd λv8 hv8=>?_
 replace q0:=cS r0 (QM hv8)
 refine ar ?_
 refine xs (λh9=>?_) λh9=>?_
 refine da ?_
 exact ft r0
 refine cb ?_
 refine xd λv10 hv10=>?_
 refine xd λv11 hv11=>?_
 replace q0:=cS r0 (QcI hv10)
 have q1:=cS r0 (Q9 hv11)
 refine ar ?_
 refine goA (m_max) ?_
 refine au ?_
 exact ft r0
noncomputable def ZQ(p0:Hp)(p1:List Inc):Option (Inc×Int) :=
 bndR (Qi (λ(s5:List Int×Int) =>
 if s5.2 < (p1.length:Int) then
 ((at_ p1 s5.2).bind λv10 =>
 (XO p0.belts v10.seq).bind λv11 =>
 if v11.2=true then
 (if ([v11.1.seq,v11.1.belt,v11.1.first,v11.1.last,v11.1.words]:List Int)=[v10.seq,v10.belt,v10.first,v10.last,v10.words] then
 ((at_ p1 0).bind λv15 =>
 if v10.belt=v15.belt then
 (if ((s5.1.length:Int)+[v10.seq].length) * 8<=140737488355328/\(s5.1.length:Int)+[v10.seq].length<=9223372036854775807 then
 some (.go ((s5.1++[v10.seq],w64 (s5.2+1))))
 else none)
 else
 some (.out (.inr ((Inc.mk 0 0 0 0 0,1)))))
 else
 some (.out (.inr ((Inc.mk 0 0 0 0 0,1)))))
 else
 some (.out (.inr ((Inc.mk 0 0 0 0 0,1)))))
 else
 some (.out (.inl (s5.1)))) (([]:List Int),0)) λ(b1:List Int) =>
 if (p1.length:Int)=0 then
 (some ((Inc.mk 0 0 0 0 0,1)))
 else
 (Xt p0.belts b1).bind λv20 =>
 if v20=true then
 ((at_ p1 0).bind λv22 =>
 (at_ p0.config.rules v22.belt).bind λv23 =>
 (Z7 p0.config v23.target (p0.space.fs.length:Int)).bind λv24 =>
 (QI p0.belts v23.target).bind λv25 =>
 (Qi (λ(s29:Bool×Int) =>
 if s29.2 < (p1.length:Int) then
 ((at_ p1 s29.2).bind λv34 =>
 if s29.1=true then
 (some (.go ((!(decide (v34.seq=v25.1.seq)),w64 (s29.2+1)))))
 else
 some (.go ((false,w64 (s29.2+1)))))
 else
 some (.out (s29.1))) (v25.2,0)).bind λ(b26:Bool) =>
 if b26=true then
 ((XN p0.space v25.1 v24.1).bind λv38 =>
 if v38=true then
 (some ((v25.1,0)))
 else
 some ((Inc.mk p0.seq v23.target (-1) (-1) 0,0)))
 else
 some ((Inc.mk p0.seq v23.target (-1) (-1) 0,0)))
 else
 some ((Inc.mk 0 0 0 0 0,1))
theorem Qav{p0 p1 r}:Sm (ZQ p0 p1) r->DCall Tryz.prog 77 [.agg [.lit (.string p0.config.name),.sl (p0.config.rules.map Rul.c),DI p0.config.full,DI p0.space.sh,.sl (p0.space.ws.map uC),.sl (p0.space.fs.map frC),.sl (p0.belts.map (lC Inc.c)),DI p0.seq,.sl (p0.sets.map Qe.c),.sl (p0.roots.used.map bC),.sl (p0.roots.refs.map uC),DI p0.since,DI p0.stats.allocated,DI p0.stats.objects,DI p0.stats.collections,DI p0.stats.steps,DI p0.stats.rounds,DI p0.stats.condemned,DI p0.stats.copied,DI p0.stats.entries,DI p0.stats.work,DB p0.dead],.sl (p1.map Inc.c)] [] (.tup [.agg [DI r.1.seq,DI r.1.belt,DI r.1.first,DI r.1.last,DI r.1.words],DI r.2]) []:=by
 unfold ZQ
 refine mk0 Tryz.func77 ?_
 refine ar ?_
 refine ar ?_
 refine cU [1] [(2,λb1=>.ptr 0 0 0),(4,λb1=>.ptr 1 0 0),(6,λb1=>.own 2 0 b1.length)] [0,1] [] [(2,λb1=>aO 1 (b1.map iC))] 3 (λz2 hr2=>?_) λb1=>?_
 refine ar ?_
 refine xx (QU 6 1 Od rfl) ?_
 refine lP [1,18,19] [(2,λs5=>.ptr 0 0 0),(4,λs5=>.ptr 1 0 0),(6,λs5=>.own 2 0 s5.1.length),(20,λs5=>DI s5.2)] [0,1] [] [(2,λs5=>aO 1 (s5.1.map iC))] 3 λs5 y6 hq6=>?_
 refine ar ?_
 refine sq λK k=>?_
 refine xs (λh8=>?_) λh8=>?_
 refine ca ?_
 refine sq λK k=>?_
 refine au ?_
 refine xa λv10 hv10=>?_
 refine ar ?_
 refine xd λv11 hv11=>?_
 have q0:=cS r0 (QbA hv11)
 refine ar ?_
 refine sq λK k=>?_
 refine xs (λh13=>?_) λh13=>?_
 refine xs (λh14=>?_) λh14=>?_
 refine xa λv15 hv15=>?_
 refine ar ?_
 refine xs (λh16=>?_) λh16=>?_
 refine cb ?_
 refine xc λh17=>?_
 refine ar ?_
 refine goA (Qk (c:=iC) ([v10.seq]:List Int) i22.ok i3.ok) ?_
 refine goA (QT (c:=iC) s5.1 [v10.seq] h17 i22.ok i3.ok rfl rfl (.own rfl rfl Os (Qf (c:=iC) (λ_=>rfl) _)) rfl) ?_
 refine au ?_
 refine ar ?_
 exact wJ [(2,6)]
 refine da ?_
 refine xo hq6 ?_
 refine xr hr2 ?_
 exact fwt r0
 refine ar ?_
 refine da ?_
 refine xo hq6 ?_
 refine xr hr2 ?_
 exact fwt r0
 refine ar ?_
 refine da ?_
 refine xo hq6 ?_
 refine xr hr2 ?_
 exact fwt r0
 refine cb ?_
 refine xo hq6 ?_
 exact wJ []
 refine sq λK k=>?_
 refine xs (λh19=>?_) λh19=>?_
 refine ar ?_
 refine da ?_
 exact fwt r0
 refine xd λv20 hv20=>?_
 have q0:=cS r0 (Qc9 hv20)
 refine ar ?_
 refine xs (λh21=>?_) λh21=>?_
 refine cb ?_
 refine xa λv22 hv22=>?_
 refine xa λv23 hv23=>?_
 refine ar ?_
 refine xd λv24 hv24=>?_
 replace q0:=cS r0 (QbY hv24)
 refine ar ?_
 refine xd λv25 hv25=>?_
 replace q0:=cS r0 (ZE hv25)
 refine ar ?_
 refine cT [2,4,11,12] [(14,λb26=>.ptr 3 0 0),(15,λb26=>DB b26)] [0,1,3] [] [] 4 (λz27=>?_) λb26=>?_
 refine ar ?_
 refine lP [2,4,11,12,94,95] [(14,λs29=>.ptr 3 0 0),(15,λs29=>DB s29.1),(96,λs29=>DI s29.2)] [0,1,3] [] [] 4 λs29 y30 hq30=>?_
 refine ar ?_
 refine sq λK k=>?_
 refine xs (λh32=>?_) λh32=>?_
 refine ca ?_
 refine sq λK k=>?_
 refine au ?_
 refine xa λv34 hv34=>?_
 refine ar ?_
 refine xs (λh35=>?_) λh35=>?_
 refine ar ?_
 refine ar ?_
 exact wJ []
 refine ar ?_
 refine ar ?_
 exact wJ []
 refine cb ?_
 refine xo hq30 ?_
 exact wJ []
 refine sq λK k=>?_
 refine xs (λh37=>?_) λh37=>?_
 refine xd λv38 hv38=>?_
 replace q0:=cS r0 (Qbz hv38)
 refine ar ?_
 refine xs (λh39=>?_) λh39=>?_
 refine da ?_
 exact fwt r0
 refine db ?_
 exact fwt r0
 refine ar ?_
 refine db ?_
 exact fwt r0
 refine da ?_
 exact fwt r0
noncomputable def Xa(p0:Sp)(p1:Inc)(p2:Int):Option (Inc×Int×Int×List Fe) :=
 (ZF p0 p1 p2).bind λv1 =>
 (Zl p0).bind λv3 =>
 if (v3.length:Int) < v1 then
 (some ((Inc.mk 0 0 0 0 0,0,4,p0.fs)))
 else
 (Qi (λ(s8:List Fe×Inc×Int) =>
 if 0 < s8.2.2 then
 ((XQ (Sp.mk p0.sh p0.ws s8.1) s8.2.1.seq s8.2.1.belt).bind λv13 =>
 if v13.2.length=s8.1.length then
 if s8.2.1.first=(-1) then
 (some (.go ((v13.2,Inc.mk s8.2.1.seq s8.2.1.belt v13.1 v13.1 s8.2.1.words,w64 (s8.2.2 - 1)))))
 else
 (at_ v13.2 s8.2.1.last).bind λv16 =>
 some (.go ((v13.2.set (Int.toNat s8.2.1.last) (Fe.mk v16.ow v16.st v13.1),Inc.mk s8.2.1.seq s8.2.1.belt s8.2.1.first v13.1 s8.2.1.words,w64 (s8.2.2 - 1))))
 else none)
 else
 some (.out ((s8.1,s8.2.1)))) (p0.fs,p1,v1)).bind λ(b5:List Fe×Inc) =>
 if 0<=wu p0.sh then
 (QB (Sp.mk p0.sh p0.ws b5.1) (Qcq .i64 b5.2.first (wu p0.sh)) p1.words).bind λv19 =>
 some ((Inc.mk b5.2.seq b5.2.belt b5.2.first b5.2.last (w64 (b5.2.words+p2)),v19.1,0,b5.1))
 else none
theorem QbB{p0 p1 p2 r}:Sm (Xa p0 p1 p2) r->DCall Tryz.prog 153 [.agg [DI p0.sh,.sl (p0.ws.map uC),.own 0 0 p0.fs.length],.agg [DI p1.seq,DI p1.belt,DI p1.first,DI p1.last,DI p1.words],DI p2] [(0,aO 3 (p0.fs.map frC))] (.tup [.agg [DI r.1.seq,DI r.1.belt,DI r.1.first,DI r.1.last,DI r.1.words],DI r.2.1,DI r.2.2.1]) [(0,aO 3 (r.2.2.2.map frC))]:=by
 unfold Xa
 refine mk0 Tryz.func153 ?_
 refine ar ?_
 refine xd λv1 hv1=>?_
 have q0:=cS r0 (Qa3 hv1)
 refine ar ?_
 refine sq λK k=>?_
 refine xd λv3 hv3=>?_
 replace q0:=cS r0 (Xe hv3)
 refine ar ?_
 refine xs (λh4=>?_) λh4=>?_
 refine da ?_
 exact fwtt r1
 refine db ?_
 refine cT [2,10] [(3,λb5=>.ptr 1 0 0),(4,λb5=>.ptr 2 0 0),(6,λb5=>.ptr 3 0 0)] [3] [(1,[(2,λb5=>.own 0 0 b5.1.length)])] [(0,λb5=>aO 3 (b5.1.map frC)),(2,λb5=>bO 5 [DI b5.2.seq,DI b5.2.belt,DI b5.2.first,DI b5.2.last,DI b5.2.words])] 4 (λz6=>?_) λb5=>?_
 refine au ?_
 refine lP [2,10] [(3,λs8=>.ptr 1 0 0),(4,λs8=>.ptr 2 0 0),(6,λs8=>.ptr 3 0 0),(9,λs8=>DI s8.2.2)] [3] [(1,[(2,λs8=>.own 0 0 s8.1.length)])] [(0,λs8=>aO 3 (s8.1.map frC)),(2,λs8=>bO 5 [DI s8.2.1.seq,DI s8.2.1.belt,DI s8.2.1.first,DI s8.2.1.last,DI s8.2.1.words])] 4 λs8 y9 hq9=>?_
 refine sq λK k=>?_
 refine ar ?_
 refine xs (λh11=>?_) λh11=>?_
 refine ca ?_
 refine sq λK k=>?_
 refine au ?_
 refine xd λv13 hv13=>?_
 refine xc λh17=>?_
 replace q0:=cS r1 (QeT hv13)
 refine ar ?_
 refine sq λK k=>?_
 refine ar ?_
 refine xs (λh15=>?_) λh15=>?_
 refine da ?_
 refine ar ?_
 refine ar ?_
 exact wJ []
 refine cb ?_
 refine xa λv16 hv16=>?_
 refine ar ?_
 refine goA (Z2 (c:=frC) hv16.h (Fe.mk v16.ow v16.st v13.1) i3.ok) ?_
 refine au ?_
 refine ar ?_
 refine ar ?_
 exact wJ []
 refine cb ?_
 refine xo hq9 ?_
 exact wJ []
 refine ar ?_
 refine xc λh18=>?_
 refine xd λv19 hv19=>?_
 replace q0:=cS r0 (QG hv19)
 refine ar ?_
 refine ar ?_
 exact fwtt r1
noncomputable def Zb(p0:Sp)(p1:List Qe)(p2:List Inc)(p3:List Int)(p4:List Mov):Option (List Qe×List Int×List Fe) :=
 (Zp p0 p2).bind λv1 =>
 (XL p1 v1).bind λv2 =>
 (Qi (λ(s6:List Int×List Fe×List Qe×Int) =>
 if s6.2.2.2 < (p3.length:Int) then
 ((at_ p3 s6.2.2.2).bind λv11 =>
 (at_ s6.1 v11).bind λv12 =>
 (ZS (Sp.mk p0.sh s6.1 s6.2.1) s6.2.2.1 v11 v12).bind λv13 =>
 if v13.2.1.length=s6.1.length then
 if v13.2.2.length=s6.2.1.length then
 some (.go ((v13.2.1,v13.2.2,v13.1,w64 (s6.2.2.2+1))))
 else none
 else none)
 else
 some (.out ((s6.1,s6.2.1,s6.2.2.1)))) (p0.ws,p0.fs,v2,0)).bind λ(b3:List Int×List Fe×List Qe) =>
 (Qi (λ(s19:List Int×List Fe×List Qe×Int) =>
 if s19.2.2.2 < (p4.length:Int) then
 (((at_ p4 s19.2.2.2).bind λv25 =>
 (Q5 (Sp.mk p0.sh s19.1 s19.2.1) v25.to).bind λv26 =>
 Qi (λ(s28:List Int×List Fe×List Qe×Int) =>
 if s28.2.2.2 < (v26.1.length:Int) then
 ((at_ v26.1 s28.2.2.2).bind λv33 =>
 (at_ s28.1 v33).bind λv34 =>
 (ZS (Sp.mk p0.sh s28.1 s28.2.1) s28.2.2.1 v33 v34).bind λv35 =>
 if v35.2.1.length=s28.1.length then
 if v35.2.2.length=s28.2.1.length then
 some (.go ((v35.2.1,v35.2.2,v35.1,w64 (s28.2.2.2+1))))
 else none
 else none)
 else
 some (.out ((s28.1,s28.2.1,s28.2.2.1)))) (s19.1,s19.2.1,s19.2.2.1,0)).bind λ(b23:List Int×List Fe×List Qe) =>
 some (.go ((b23.1,b23.2.1,b23.2.2,w64 (s19.2.2.2+1)))))
 else
 some (.out ((s19.1,s19.2.1,s19.2.2.1)))) (b3.1,b3.2.1,b3.2.2,0)).bind λ(b16:List Int×List Fe×List Qe) =>
 some ((b16.2.2,b16.1,b16.2.1))
theorem Qac{p0 p1 p2 p3 p4 r}:Sm (Zb p0 p1 p2 p3 p4) r->DCall Tryz.prog 66 [.agg [DI p0.sh,.own 0 0 p0.ws.length,.own 1 0 p0.fs.length],.sl (p1.map Qe.c),.sl (p2.map Inc.c),.sl (p3.map iC),.sl (p4.map Mov.c)] [(0,aO 1 (p0.ws.map uC)),(1,aO 3 (p0.fs.map frC))] (.sl (r.1.map Qe.c)) [(0,aO 1 (r.2.1.map uC)),(1,aO 3 (r.2.2.map frC))]:=by
 unfold Zb
 refine mk0 Tryz.func66 ?_
 refine ar ?_
 refine xd λv1 hv1=>?_
 refine xd λv2 hv2=>?_
 have q0:=cS r0 (Qaw hv1)
 have q1:=cG r0 (QeP hv2)
 refine ar ?_
 refine cT [4] [(5,λb3=>.ptr 2 0 0),(11,λb3=>.sl (b3.2.2.map Qe.c))] [] [] [(0,λb3=>aO 1 (b3.1.map uC)),(1,λb3=>aO 3 (b3.2.1.map frC)),(2,λb3=>bO 3 [DI p0.sh,.own 0 0 b3.1.length,.own 1 0 b3.2.1.length])] 3 (λz4=>?_) λb3=>?_
 refine ar ?_
 refine lP [4,25,26] [(5,λs6=>.ptr 2 0 0),(11,λs6=>.sl (s6.2.2.1.map Qe.c)),(27,λs6=>DI s6.2.2.2)] [] [] [(0,λs6=>aO 1 (s6.1.map uC)),(1,λs6=>aO 3 (s6.2.1.map frC)),(2,λs6=>bO 3 [DI p0.sh,.own 0 0 s6.1.length,.own 1 0 s6.2.1.length])] 3 λs6 y7 hq7=>?_
 refine ar ?_
 refine sq λK k=>?_
 refine xs (λh9=>?_) λh9=>?_
 refine ca ?_
 refine sq λK k=>?_
 refine au ?_
 refine xa λv11 hv11=>?_
 refine ar ?_
 refine xa λv12 hv12=>?_
 refine xd λv13 hv13=>?_
 refine xc λh15=>?_
 refine xc λh14=>?_
 replace q0:=cG r2 (Qay hv13)
 refine ar ?_
 refine ar ?_
 exact wJ []
 refine cb ?_
 refine xo hq7 ?_
 exact wJ []
 refine cT [] [(11,λb16=>.sl (b16.2.2.map Qe.c))] [] [] [(0,λb16=>aO 1 (b16.1.map uC)),(1,λb16=>aO 3 (b16.2.1.map frC))] 2 (λz17=>?_) λb16=>?_
 refine ar ?_
 refine lP [5,41,42] [(11,λs19=>.sl (s19.2.2.1.map Qe.c)),(43,λs19=>DI s19.2.2.2)] [] [] [(0,λs19=>aO 1 (s19.1.map uC)),(1,λs19=>aO 3 (s19.2.1.map frC)),(2,λs19=>bO 3 [DI p0.sh,.own 0 0 s19.1.length,.own 1 0 s19.2.1.length])] 3 λs19 y20 hq20=>?_
 refine ar ?_
 refine sq λK k=>?_
 refine xs (λh22=>?_) λh22=>?_
 refine ca ?_
 refine cT [5,41,42,43] [(11,λb23=>.sl (b23.2.2.map Qe.c))] [] [] [(0,λb23=>aO 1 (b23.1.map uC)),(1,λb23=>aO 3 (b23.2.1.map frC)),(2,λb23=>bO 3 [DI p0.sh,.own 0 0 b23.1.length,.own 1 0 b23.2.1.length])] 3 (λz24=>?_) λb23=>?_
 refine au ?_
 refine xa λv25 hv25=>?_
 refine ar ?_
 refine xd λv26 hv26=>?_
 replace q0:=cS r0 (QaB hv26)
 refine ar ?_
 refine ar ?_
 refine lP [5,41,42,43,55] [(11,λs28=>.sl (s28.2.2.1.map Qe.c)),(54,λs28=>.own 4 0 v26.1.length),(56,λs28=>DI s28.2.2.2)] [4] [] [(0,λs28=>aO 1 (s28.1.map uC)),(1,λs28=>aO 3 (s28.2.1.map frC)),(2,λs28=>bO 3 [DI p0.sh,.own 0 0 s28.1.length,.own 1 0 s28.2.1.length])] 5 λs28 y29 hq29=>?_
 refine ar ?_
 refine sq λK k=>?_
 refine xs (λh31=>?_) λh31=>?_
 refine ca ?_
 refine sq λK k=>?_
 refine au ?_
 refine xa λv33 hv33=>?_
 refine ar ?_
 refine xa λv34 hv34=>?_
 refine xd λv35 hv35=>?_
 refine xc λh37=>?_
 refine xc λh36=>?_
 replace q0:=cG r2 (Qay hv35)
 refine ar ?_
 refine ar ?_
 exact wJ []
 refine cb ?_
 refine xo hq29 ?_
 exact wJ []
 refine ar ?_
 exact wJ []
 refine cb ?_
 refine xo hq20 ?_
 exact wJ []
 refine ar ?_
 exact ft r2
noncomputable def JR(p0:Hp)(p1:Int):Option Bool :=
 if p1 < 0 then
 (some (false))
 else
 if (p0.space.ws.length:Int)<=p1 then
 (some (false))
 else
 if 0<=wu p0.space.sh then
 (at_ p0.space.fs (Qb2 .i64 p1 (wu p0.space.sh))).bind λv5 =>
 (XO p0.belts v5.ow).bind λv6 =>
 if v6.2=true then
 ((JZ p0.space v6.1).bind λv9 =>
 bndR (Qi (λ(s13:Int) =>
 if s13 < (v9.1.length:Int) then
 ((at_ v9.1 s13).bind λv18 =>
 if v18=p1 then
 (some (.out (.inr (true))))
 else
 some (.go (w64 (s13+1))))
 else
 some (.out (.inl (())))) 0) λ(b10:Unit) =>
 some (false))
 else
 some (false)
 else none
theorem QcG{p0 p1 r}:Sm (JR p0 p1) r->DCall Tryz.prog 212 [.agg [.lit (.string p0.config.name),.sl (p0.config.rules.map Rul.c),DI p0.config.full,DI p0.space.sh,.sl (p0.space.ws.map uC),.sl (p0.space.fs.map frC),.sl (p0.belts.map (lC Inc.c)),DI p0.seq,.sl (p0.sets.map Qe.c),.sl (p0.roots.used.map bC),.sl (p0.roots.refs.map uC),DI p0.since,DI p0.stats.allocated,DI p0.stats.objects,DI p0.stats.collections,DI p0.stats.steps,DI p0.stats.rounds,DI p0.stats.condemned,DI p0.stats.copied,DI p0.stats.entries,DI p0.stats.work,DB p0.dead],DI p1] [] (DB r) []:=by
 unfold JR
 refine mk0 Tryz.func212 ?_
 refine ar ?_
 refine sq λK k=>?_
 refine xs (λh2=>?_) λh2=>?_
 refine ar ?_
 refine da ?_
 exact ft r0
 refine ar ?_
 refine xs (λh3=>?_) λh3=>?_
 refine da ?_
 exact ft r0
 refine cb ?_
 refine xc λh4=>?_
 refine xa λv5 hv5=>?_
 refine xd λv6 hv6=>?_
 have q0:=cS r0 (QbA hv6)
 refine ar ?_
 refine sq λK k=>?_
 refine ar ?_
 refine xs (λh8=>?_) λh8=>?_
 refine cb ?_
 refine xd λv9 hv9=>?_
 replace q0:=cS r0 (F_ref10_All_ok hv9)
 refine ar ?_
 refine cU [] [] [] [] [] 0 (λz11 hr11=>?_) λb10=>?_
 refine ar ?_
 refine lP [1,49] [(48,λs13=>.own 2 0 v9.1.length),(50,λs13=>DI s13)] [2] [] [] 3 λs13 y14 hq14=>?_
 refine ar ?_
 refine sq λK k=>?_
 refine xs (λh16=>?_) λh16=>?_
 refine ca ?_
 refine sq λK k=>?_
 refine au ?_
 refine xa λv18 hv18=>?_
 refine ar ?_
 refine ar ?_
 refine xs (λh19=>?_) λh19=>?_
 refine da ?_
 refine xo hq14 ?_
 refine xr hr11 ?_
 exact ft r0
 refine db ?_
 exact wJ []
 refine cb ?_
 refine xo hq14 ?_
 exact wJ []
 refine ar ?_
 exact ft r0
 refine da ?_
 exact ft r0
noncomputable def QA(p0:Cfg)(p1:Sp)(p2:List (List Inc))(p3:Int)(p4:Int):Option (Int×Inc) :=
 (Z7 p0 0 (p1.fs.length:Int)).bind λv1 =>
 (QI p2 0).bind λv2 =>
 bndR (if v2.2=true then
 ((XN p1 v2.1 v1.1).bind λv6 =>
 if v6=true then
 (some (.inl ((1,v2.1))))
 else
 (at_ p0.rules 0).bind λv8 =>
 if v8.limit=0 then
 (some (.inl ((2,Inc.mk p3 0 (-1) (-1) 0))))
 else
 (at_ p2 0).bind λv10 =>
 if v8.limit<=(v10.length:Int) then
 (some (.inr ((3,Inc.mk 0 0 0 0 0))))
 else
 some (.inl ((2,Inc.mk p3 0 (-1) (-1) 0))))
 else
 (at_ p0.rules 0).bind λv12 =>
 if v12.limit=0 then
 (some (.inl ((2,Inc.mk p3 0 (-1) (-1) 0))))
 else
 (at_ p2 0).bind λv14 =>
 if v12.limit<=(v14.length:Int) then
 (some (.inr ((3,Inc.mk 0 0 0 0 0))))
 else
 some (.inl ((2,Inc.mk p3 0 (-1) (-1) 0)))) λ(b3:Int×Inc) =>
 (Xs p0 p1 p2 b3.2 p4).bind λv17 =>
 if v17=true then
 (some ((b3.1,b3.2)))
 else
 some ((3,Inc.mk 0 0 0 0 0))
theorem QQ{p0 p1 p2 p3 p4 r}:Sm (QA p0 p1 p2 p3 p4) r->DCall Tryz.prog 205 [.agg [.lit (.string p0.name),.sl (p0.rules.map Rul.c),DI p0.full],.agg [DI p1.sh,.sl (p1.ws.map uC),.sl (p1.fs.map frC)],.sl (p2.map (lC Inc.c)),DI p3,DI p4] [] (.tup [DI r.1,.agg [DI r.2.seq,DI r.2.belt,DI r.2.first,DI r.2.last,DI r.2.words]]) []:=by
 unfold QA
 refine mk0 Tryz.func205 ?_
 refine ar ?_
 refine xd λv1 hv1=>?_
 have q0:=cS r0 (QbY hv1)
 refine ar ?_
 refine ar ?_
 refine xd λv2 hv2=>?_
 replace q0:=cS r0 (ZE hv2)
 refine ar ?_
 refine cU [2,4] [(5,λb3=>.ptr 0 0 0),(6,λb3=>.ptr 1 0 0),(11,λb3=>.ptr 2 0 0),(14,λb3=>DI b3.1),(15,λb3=>.ptr 3 0 0)] [0,1,2] [] [(3,λb3=>bO 5 [DI b3.2.seq,DI b3.2.belt,DI b3.2.first,DI b3.2.last,DI b3.2.words])] 4 (λz4 hr4=>?_) λb3=>?_
 refine xs (λh5=>?_) λh5=>?_
 refine xd λv6 hv6=>?_
 replace q0:=cS r0 (Qbz hv6)
 refine ar ?_
 refine xs (λh7=>?_) λh7=>?_
 refine da ?_
 exact wJ []
 refine cb ?_
 refine xa λv8 hv8=>?_
 refine ar ?_
 refine xs (λh9=>?_) λh9=>?_
 refine ar ?_
 refine cb ?_
 exact wJ []
 refine xa λv10 hv10=>?_
 refine ar ?_
 refine xs (λh11=>?_) λh11=>?_
 refine da ?_
 refine xr hr4 ?_
 exact ftw r0
 refine cb ?_
 exact wJ []
 refine ar ?_
 refine cb ?_
 refine xa λv12 hv12=>?_
 refine ar ?_
 refine xs (λh13=>?_) λh13=>?_
 refine ar ?_
 refine cb ?_
 exact wJ []
 refine xa λv14 hv14=>?_
 refine ar ?_
 refine xs (λh15=>?_) λh15=>?_
 refine da ?_
 refine xr hr4 ?_
 exact ftw r0
 refine cb ?_
 exact wJ []
 refine sq λK k=>?_
 refine xd λv17 hv17=>?_
 replace q0:=cS r0 (Qc8 hv17)
 refine ar ?_
 refine xs (λh18=>?_) λh18=>?_
 refine db ?_
 exact ftw r0
 refine da ?_
 exact ftw r0
noncomputable def Q8(p0:Qn)(p1:Int):Option (Int×Qn×List Int×List Fe×List Mov) :=
 if p0.e=0 then
 ((Zo p0.s p0.l p1).bind λv3 =>
 if v3=true then
 (bndR ((at_ p0.s.ws (w64 (wu (p1 - 1)))).bind λv7 =>
 (ZU v7).bind λv8 =>
 if v8.2.2.2.2=0 then
 (if v8.2.2.2.1=true then
 (some (.inr ((wu (w64 (v8.2.2.1+1)),p0,p0.s.ws,p0.s.fs,p0.moves))))
 else
 some (.inl (())))
 else
 some (.inl (()))) λ(b5:Unit) =>
 (Q4 p0.s (w64 (wu (p1 - 1)))).bind λv11 =>
 if v11.2.2=0 then
 ((Xa p0.s p0.to (w64 ((w64 (1+v11.1))+v11.2.1))).bind λv14 =>
 if v14.2.2.2.length=p0.s.fs.length then
 if v14.2.2.1=0 then
 ((Qi (λ(s20:List Int×Int) =>
 if s20.2<=(w64 (v11.1+v11.2.1)) then
 ((QB (Sp.mk p0.s.sh s20.1 v14.2.2.2) (w64 (wu (p1 - 1))) s20.2).bind λv25 =>
 (QB (Sp.mk p0.s.sh s20.1 v14.2.2.2) v14.2.1 s20.2).bind λv26 =>
 (at_ s20.1 v25.1).bind λv27 =>
 (at_ s20.1 v26.1).bind λv28 =>
 some (.go ((s20.1.set (Int.toNat v26.1) v27,w64 (s20.2+1)))))
 else
 some (.out (s20.1))) (p0.s.ws,0)).bind λ(b17:List Int) =>
 (Xd v14.2.1).bind λv29 =>
 (at_ b17 (w64 (wu (p1 - 1)))).bind λv30 =>
 if ((p0.moves.length:Int)+[Mov.mk (w64 (wu (p1 - 1))) v14.2.1].length) * 16<=140737488355328/\(p0.moves.length:Int)+[Mov.mk (w64 (wu (p1 - 1))) v14.2.1].length<=9223372036854775807 then
 some ((wu (w64 (v14.2.1+1)),Qn.mk (Sp.mk p0.s.sh (b17.set (Int.toNat (w64 (wu (p1 - 1)))) v29.1) v14.2.2.2) p0.l v14.1 (p0.moves++[Mov.mk (w64 (wu (p1 - 1))) v14.2.1]) p0.e,b17.set (Int.toNat (w64 (wu (p1 - 1)))) v29.1,v14.2.2.2,p0.moves++[Mov.mk (w64 (wu (p1 - 1))) v14.2.1]))
 else none)
 else
 some ((p1,Qn.mk (Sp.mk p0.s.sh p0.s.ws v14.2.2.2) p0.l p0.to p0.moves v14.2.2.1,p0.s.ws,v14.2.2.2,p0.moves))
 else none)
 else
 some ((p1,Qn.mk p0.s p0.l p0.to p0.moves 12,p0.s.ws,p0.s.fs,p0.moves)))
 else
 some ((p1,p0,p0.s.ws,p0.s.fs,p0.moves)))
 else
 some ((p1,p0,p0.s.ws,p0.s.fs,p0.moves))
theorem JI{p0 p1 r}:Sm (Q8 p0 p1) r->DCall Tryz.prog 101 [.ptr 0 0 0,DU p1] [(0,bO 11 [DI p0.s.sh,.own 1 0 p0.s.ws.length,.own 2 0 p0.s.fs.length,.sl (p0.l.map Inc.c),DI p0.to.seq,DI p0.to.belt,DI p0.to.first,DI p0.to.last,DI p0.to.words,.own 3 0 p0.moves.length,DI p0.e]),(1,aO 1 (p0.s.ws.map uC)),(2,aO 3 (p0.s.fs.map frC)),(3,aO 2 (p0.moves.map Mov.c))] (DU r.1) [(0,bO 11 [DI r.2.1.s.sh,.own 1 0 r.2.2.1.length,.own 2 0 r.2.2.2.1.length,.sl (r.2.1.l.map Inc.c),DI r.2.1.to.seq,DI r.2.1.to.belt,DI r.2.1.to.first,DI r.2.1.to.last,DI r.2.1.to.words,.own 4 0 r.2.2.2.2.length,DI r.2.1.e]),(1,aO 1 (r.2.2.1.map uC)),(2,aO 3 (r.2.2.2.1.map frC)),(4,aO 2 (r.2.2.2.2.map Mov.c))]:=by
 unfold Q8
 refine mk0 Tryz.func101 ?_
 refine ar ?_
 refine sq λK k=>?_
 refine xs (λh2=>?_) λh2=>?_
 refine xd λv3 hv3=>?_
 have q0:=cS r0 (Jn hv3)
 refine ar ?_
 refine xs (λh4=>?_) λh4=>?_
 refine db ?_
 refine cU [0,1,5] [] [1,2] [(0,[(9,λb5=>.own 4 0 p0.moves.length)])] [(4,λb5=>aO 2 (p0.moves.map Mov.c))] 5 (λz6 hr6=>?_) λb5=>?_
 refine xa λv7 hv7=>?_
 refine xd λv8 hv8=>?_
 replace q0:=cS r0 (QaC hv8)
 refine ar ?_
 refine xs (λh9=>?_) λh9=>?_
 refine ar ?_
 refine xs (λh10=>?_) λh10=>?_
 refine da ?_
 refine xr hr6 ?_
 exact ft [(0,0),(1,1),(2,2),(4,3)]
 refine cb ?_
 exact wJ [(4,3)]
 refine ar ?_
 refine cb ?_
 exact wJ [(4,3)]
 refine xd λv11 hv11=>?_
 replace q0:=cS r0 (Xb hv11)
 refine ar ?_
 refine sq λK k=>?_
 refine ar ?_
 refine xs (λh13=>?_) λh13=>?_
 refine cb ?_
 refine xd λv14 hv14=>?_
 refine xc λh32=>?_
 replace q0:=cS [(0,2)] (QbB hv14)
 refine ar ?_
 refine sq λK k=>?_
 refine ar ?_
 refine xs (λh16=>?_) λh16=>?_
 refine db ?_
 refine cT [0,5,15] [] [2,4] [(0,[(1,λb17=>.own 1 0 b17.length),(0,λb17=>.own 2 0 v14.2.2.2.length)])] [(1,λb17=>aO 1 (b17.map uC))] 5 (λz18=>?_) λb17=>?_
 refine ar ?_
 refine lP [0,5,11,12,15] [(16,λs20=>DI s20.2)] [2,4] [(0,[(1,λs20=>.own 1 0 s20.1.length),(0,λs20=>.own 2 0 v14.2.2.2.length)])] [(1,λs20=>aO 1 (s20.1.map uC))] 5 λs20 y21 hq21=>?_
 refine sq λK k=>?_
 refine ar ?_
 refine xs (λh23=>?_) λh23=>?_
 refine ca ?_
 refine sq λK k=>?_
 refine au ?_
 refine xd λv25 hv25=>?_
 replace q0:=cS r0 (QG hv25)
 refine ar ?_
 refine xd λv26 hv26=>?_
 replace q0:=cS r0 (QG hv26)
 refine ar ?_
 refine xa λv27 hv27=>?_
 refine xa λv28 hv28=>?_
 refine ar ?_
 refine goA (Z2 (c:=uC) hv28.h v27 i62.ok) ?_
 refine au ?_
 refine ar ?_
 exact wJ []
 refine cb ?_
 refine xo hq21 ?_
 exact wJ []
 refine xd λv29 hv29=>?_
 refine xa λv30 hv30=>?_
 replace q0:=cS r0 (QcJ hv29)
 refine ar ?_
 refine goA (Z2 (c:=uC) hv30.h v29.1 i62.ok) ?_
 refine au ?_
 refine xc λh31=>?_
 refine ar ?_
 refine goA (Qk (c:=Mov.c) ([Mov.mk (w64 (wu (p1 - 1))) v14.2.1]:List Mov) i69.ok i82.ok) ?_
 refine goA (QT (c:=Mov.c) p0.moves [Mov.mk (w64 (wu (p1 - 1))) v14.2.1] h31 i69.ok i82.ok rfl rfl (.own rfl rfl Os (Qf (c:=Mov.c) (λ_=>rfl) _)) rfl) ?_
 refine au ?_
 refine ar ?_
 exact ft [(0,0),(1,1),(2,2),(4,6)]
 refine da ?_
 refine ar ?_
 exact ft [(0,0),(1,1),(2,2),(4,4)]
 refine da ?_
 refine ar ?_
 exact ft [(0,0),(1,1),(2,2),(4,4)]
 refine da ?_
 exact ft [(0,0),(1,1),(2,2),(4,3)]
 refine ar ?_
 refine da ?_
 exact ft [(0,0),(1,1),(2,2),(4,3)]
noncomputable def Xk(p0:Hp)(p1:Int)(p2:Int)(p3:Bool):Option (Int×Int) :=
 if p0.dead=true then
 (some ((0,19)))
 else
 (JR p0 p1).bind λv4 =>
 if v4=true then
 ((ZG p0.space p1 p2 p3).bind λv6 =>
 some ((v6.1,v6.2)))
 else
 some ((0,1))
theorem Qa1{p0 p1 p2 p3 r}:Sm (Xk p0 p1 p2 p3) r->DCall Tryz.prog 211 [.agg [.lit (.string p0.config.name),.sl (p0.config.rules.map Rul.c),DI p0.config.full,DI p0.space.sh,.sl (p0.space.ws.map uC),.sl (p0.space.fs.map frC),.sl (p0.belts.map (lC Inc.c)),DI p0.seq,.sl (p0.sets.map Qe.c),.sl (p0.roots.used.map bC),.sl (p0.roots.refs.map uC),DI p0.since,DI p0.stats.allocated,DI p0.stats.objects,DI p0.stats.collections,DI p0.stats.steps,DI p0.stats.rounds,DI p0.stats.condemned,DI p0.stats.copied,DI p0.stats.entries,DI p0.stats.work,DB p0.dead],DI p1,DI p2,DB p3] [] (.tup [DI r.1,DI r.2]) []:=by
 unfold Xk
 refine mk0 Tryz.func211 ?_
 refine ar ?_
 refine sq λK k=>?_
 refine ar ?_
 refine xs (λh2=>?_) λh2=>?_
 refine da ?_
 exact ftt r0
 refine cb ?_
 refine sq λK k=>?_
 refine xd λv4 hv4=>?_
 have q0:=cS r0 (QcG hv4)
 refine ar ?_
 refine xs (λh5=>?_) λh5=>?_
 refine cb ?_
 refine xd λv6 hv6=>?_
 replace q0:=cS r0 (JF hv6)
 refine ar ?_
 exact ftt r0
 refine da ?_
 exact ftt r0
end Go.Proofs.YthpnlnjdmlbnaaaGreatDoor
